/- The functions of the program as the machine's code, printed by a program of mine. -/
import Derived.Test.YtbofkfgfnaigkaaGreatDoorV6
set_option maxRecDepth 100000
namespace Go.Av
abbrev Mv (a b:Nat):AI:=iv a (.mv (.t b))
abbrev Ld (a b:Nat):AI:=ir a (.ld 1 false (.t b))
abbrev Nk (a b:Nat):AI:=iv a (.nck (.t b))
abbrev Fa (a o b:Nat):AI:=iv a (.fadr o (.t b))
abbrev Ex (a b i:Nat):AI:=iv a (.ext (.t b) i)
abbrev Bt (a:Nat) (o:BinOp) (b c:Nat):AI:=iv a (.bin o (.t b) (.t c))
abbrev Bi (a:Nat) (o:BinOp) (b:Nat) (n:Int):AI:=iv a (.bin o (.t b) (.k (.int .i64 n)))
abbrev Ia (a b c:Nat):AI:=iv a (.iadr none 1 (.t b) (.t c))
abbrev Sx (a b:Nat):AI:=jc (.st 1 (.t a) (.t b))
abbrev Dv (a:Nat) (o:VOp) (u:List Nat):AI:=⟨some a,.v o,none,u,0,0⟩
abbrev Dr (a:Nat) (o:ROp) (u:List Nat) (l h:Nat):AI:=⟨some a,.r o,none,u,l,h⟩
abbrev Dc (a:Nat) (o:COp) (u:List Nat):AI:=⟨some a,.c o,none,u,0,0⟩
abbrev Dn (o:COp) (u:List Nat):AI:=⟨none,.c o,none,u,0,0⟩
abbrev Gv (a:Nat) (o:VOp) (g:Nat) (w:Bool) (u:List Nat):AI:=⟨some a,.v o,some (g,w),u,0,0⟩
abbrev Gr (a:Nat) (o:ROp) (g:Nat) (w:Bool) (u:List Nat) (l h:Nat):AI:=⟨some a,.r o,some (g,w),u,l,h⟩
abbrev Gc (a:Nat) (o:COp) (g:Nat) (w:Bool) (u:List Nat):AI:=⟨some a,.c o,some (g,w),u,0,0⟩
abbrev Dm (a b:Nat):AI:=⟨some a,.v (.mv (.t b)),none,[b],0,0⟩
abbrev Gm (a b g:Nat) (w:Bool):AI:=⟨some a,.v (.mv (.t b)),some (g,w),[b,g],0,0⟩
def zEa:FuncId:=1
def zdk:FuncId:=3
def zeD:FuncId:=4
def zkF:FuncId:=5
def zjo:FuncId:=6
def zbI:FuncId:=7
def zaL:FuncId:=8
def zbJ:FuncId:=9
def zaM:FuncId:=10
def zcw:FuncId:=11
def zc8:FuncId:=12
def zbT:FuncId:=13
def zim:FuncId:=14
def zeg:FuncId:=15
def zcZ:FuncId:=16
def zdR:FuncId:=17
def zgC:FuncId:=18
def zcL:FuncId:=19
def zaE:FuncId:=20
def zbh:FuncId:=21
def zlm:FuncId:=22
def zin:FuncId:=23
def zio:FuncId:=24
def zc0:FuncId:=25
def zgD:FuncId:=26
def zdl:FuncId:=27
def zaH:FuncId:=28
def zei:FuncId:=29
def zfq:FuncId:=30
def zgE:FuncId:=31
def zej:FuncId:=32
def zfx:FuncId:=33
def zdS:FuncId:=34
def zc1:FuncId:=35
def zdm:FuncId:=36
def zgF:FuncId:=37
def zeF:FuncId:=38
def zek:FuncId:=39
def zbK:FuncId:=40
def za1:FuncId:=41
def zca:FuncId:=42
def zfr:FuncId:=43
def zjL:FuncId:=44
def zhf:FuncId:=45
def zcM:FuncId:=46
def zjp:FuncId:=47
def zel:FuncId:=48
def zjM:FuncId:=49
def zdH:FuncId:=50
def zbP:FuncId:=51
def zgH:FuncId:=52
def zb4:FuncId:=53
def zau:FuncId:=54
def zdi:FuncId:=55
def zqP:FuncId:=56
def zgo:FuncId:=57
def zd6:FuncId:=58
def zhS:FuncId:=59
def zfc:FuncId:=60
def zd7:FuncId:=61
def zd8:FuncId:=62
def zc7:FuncId:=63
def zao:FuncId:=64
def zcS:FuncId:=65
def zcN:FuncId:=66
def zgp:FuncId:=67
def zdt:FuncId:=68
def zd9:FuncId:=69
def zkE:FuncId:=70
def zfd:FuncId:=71
def zeP:FuncId:=72
def zeQ:FuncId:=73
def zaF:FuncId:=74
def zfe:FuncId:=75
def zeR:FuncId:=76
def zeS:FuncId:=77
def zdu:FuncId:=78
def zb7:FuncId:=79
def zdd:FuncId:=80
def zgq:FuncId:=81
def zjD:FuncId:=82
def zla:FuncId:=83
def zea:FuncId:=84
def zff:FuncId:=85
def zfg:FuncId:=86
def zgr:FuncId:=87
def zfh:FuncId:=88
def zl0:FuncId:=89
def zeb:FuncId:=90
def zbR:FuncId:=91
def zbB:FuncId:=92
def zde:FuncId:=93
def zij:FuncId:=94
def zhT:FuncId:=95
def zdw:FuncId:=96
def zdC:FuncId:=97
def zg8:FuncId:=98
def zgs:FuncId:=99
def zgt:FuncId:=100
def zhc:FuncId:=101
def zgu:FuncId:=102
def zfj:FuncId:=103
def zdO:FuncId:=104
def zfK:FuncId:=105
def zbo:FuncId:=106
def zeT:FuncId:=107
def zeU:FuncId:=108
def zdP:FuncId:=109
def zfk:FuncId:=110
def zfl:FuncId:=111
def zl2:FuncId:=112
def zcX:FuncId:=113
def zez:FuncId:=114
def zgx:FuncId:=115
def zqR:FuncId:=116
def zqS:FuncId:=117
def zdx:FuncId:=118
def zhe:FuncId:=119
def zdF:FuncId:=120
def zec:FuncId:=121
def zed:FuncId:=122
def zfn:FuncId:=123
def zee:FuncId:=124
def zeB:FuncId:=125
def zeC:FuncId:=126
def zfL:FuncId:=127
def zgy:FuncId:=128
def zfo:FuncId:=129
def zli:FuncId:=130
def zok:FuncId:=131
def zbW:FuncId:=132
def zeZ:FuncId:=133
def zcy:FuncId:=153
def zdK:FuncId:=154
def zdf:FuncId:=155
def zhi:FuncId:=156
def zaB:FuncId:=157
def zaZ:FuncId:=158
def zbZ:FuncId:=159
def zbf:FuncId:=160
def zdL:FuncId:=161
def zhj:FuncId:=162
def zem:FuncId:=163
def zjq:FuncId:=164
def zix:FuncId:=165
def zoz:FuncId:=166
def zdX:FuncId:=167
def zbE:FuncId:=168
def za4:FuncId:=169
def zcG:FuncId:=170
def zjr:FuncId:=173
def zcH:FuncId:=174
def zen:FuncId:=175
def zdo:FuncId:=176
def zbN:FuncId:=177
def zbi:FuncId:=178
def zfO:FuncId:=179
def ze0:FuncId:=180
def zoB:FuncId:=181
def znH:FuncId:=182
def zfu:FuncId:=186
def zsK:FuncId:=187
def zqx:FuncId:=188
def zmx:FuncId:=189
def znJ:FuncId:=190
def ziy:FuncId:=192
def zxZ:FuncId:=204
def zgk:FuncId:=205
def zbL:FuncId:=206
def zcz:FuncId:=207
def zcg:FuncId:=208
def zPQ:ByteArray:=⟨#[0,1,2,2,3,3,3,3,4,4,4,4,4,4,4,4,5,5,5,5,5,5,5,5,5,5,5,5,5,5,5,5,6,6,6,6,6,6,6,6,6,6,6,6,6,6,6,6,6,6,6,6,6,6,6,6,6,6,6,6,6,6,6,6,7,7,7,7,7,7,7,7,7,7,7,7,7,7,7,7,7,7,7,7,7,7,7,7,7,7,7,7,7,7,7,7,7,7,7,7,7,7,7,7,7,7,7,7,7,7,7,7,7,7,7,7,7,7,7,7,7,7,7,7,7,7,7,7,8,8,8,8,8,8,8,8,8,8,8,8,8,8,8,8,8,8,8,8,8,8,8,8,8,8,8,8,8,8,8,8,8,8,8,8,8,8,8,8,8,8,8,8,8,8,8,8,8,8,8,8,8,8,8,8,8,8,8,8,8,8,8,8,8,8,8,8,8,8,8,8,8,8,8,8,8,8,8,8,8,8,8,8,8,8,8,8,8,8,8,8,8,8,8,8,8,8,8,8,8,8,8,8,8,8,8,8,8,8,8,8,8,8,8,8,8,8,8,8,8,8,8,8,8,8,8,8]⟩
def zuY:AC:=.reg [ir 0 (.call zEa [])]
def zoF:AFn:=⟨1,zuY,[]⟩
def ze7:AC:=.seq (.reg [iv 2 (.boxv (.t 0)),iv 4 (.mv (.k (.bool false)))]) (.seq (.seq (.reg [ir 14 (.call zeD []),iv 15 (.un .not (.t 14))]) (.cond (.t 15) (.seq (.reg [iv 4 (.mv (.k (.bool false)))]) (.ret)) (.skip))) (.seq (.draw [Dr 16 (.ld 32 true (.t 2)) [2] 0 0,Dc 17 (.call zkF [.t 16]) [16],Dr 18 (.ld 32 true (.t 2)) [2] 0 1,Dc 19 (.call zjo [.t 18]) [18],Dm 5 17,Dm 6 19]) (.seq (.seq (.reg [Mv 20 5,iv 21 (.eq .ptr false (.t 20) (.k (.nilp))),Mv 22 21,Gv 23 (.mv (.t 6)) 22 false [],Gv 24 (.eq .ptr false (.t 23) (.k (.nilp))) 22 false [],iv 25 (.pick (.t 22) (.k (.bool true)) (.t 24)),Mv 26 25,Gv 27 (.mv (.t 5)) 26 false [],Gr 28 (.call zbI [.t 27]) 26 false [] 0 0,Gv 29 (.bin .neq (.t 28) (.k (.int .i64 0))) 26 false [],iv 30 (.pick (.t 26) (.k (.bool true)) (.t 29)),Mv 31 30,Gv 32 (.mv (.t 6)) 31 false [],Gr 33 (.call zaL [.t 32]) 31 false [] 0 0,Gv 34 (.bin .neq (.t 33) (.k (.int .i64 0))) 31 false [],iv 35 (.pick (.t 31) (.k (.bool true)) (.t 34))]) (.cond (.t 35) (.seq (.reg [iv 4 (.mv (.k (.bool false)))]) (.ret)) (.skip))) (.seq (.reg [Mv 36 5,ir 37 (.call zbJ [.t 36]),Mv 38 6,ir 39 (.call zaM [.t 38]),Mv 7 37,Mv 8 39]) (.seq (.seq (.draw2 [Dm 40 7,Dv 41 (.lenL (.t 40)) [40],Dv 42 (.bin .neq (.t 41) (.k (.int .i64 200))) [41],Dm 43 42,Gm 44 8 43 false,Gv 45 (.lenL (.t 44)) 43 false [44,43],Gv 46 (.bin .neq (.t 45) (.k (.int .i64 3))) 43 false [45,43],Dv 47 (.pick (.t 43) (.k (.bool true)) (.t 46)) [43,46],Dm 48 47,Gm 49 7 48 false,Gr 50 (.b2s (.t 49)) 48 false [49,48] 0 2,Gc 51 (.mk 1 [.int .u8 0] (.k (.int .i64 136))) 48 false [48],Gr 52 (.b2s (.t 51)) 48 false [51,48] 1 2,Gv 53 (.slice (.arr 32) 1 (.t 2) none none none) 48 false [2,48],Gr 54 (.b2s (.t 53)) 48 false [53,48] 0 2,Gv 55 (.bin .add (.t 52) (.t 54)) 48 false [52,54,48],Gc 56 (.mk 1 [.int .u8 0] (.k (.int .i64 32))) 48 false [48],Gr 57 (.b2s (.t 56)) 48 false [56,48] 2 2,Gv 58 (.bin .add (.t 55) (.t 57)) 48 false [55,57,48],Gv 59 (.bin .neq (.t 50) (.t 58)) 48 false [50,58,48],Dv 60 (.pick (.t 48) (.k (.bool true)) (.t 59)) [48,59]] [Dm 40 7,Dv 41 (.lenL (.t 40)) [40],Dv 42 (.bin .neq (.t 41) (.k (.int .i64 200))) [41],Dm 43 42,Gm 44 8 43 false,Gv 45 (.lenL (.t 44)) 43 false [44,43],Gv 46 (.bin .neq (.t 45) (.k (.int .i64 3))) 43 false [45,43],Dv 47 (.pick (.t 43) (.k (.bool true)) (.t 46)) [43,46],Dm 48 47,Gm 49 7 48 false,Gr 50 (.b2s (.t 49)) 48 false [49,48] 0 2,Gv 53 (.slice (.arr 32) 1 (.t 2) none none none) 48 false [2,48],Gr 54 (.b2s (.t 53)) 48 false [53,48] 0 2,Gc 56 (.mk 1 [.int .u8 0] (.k (.int .i64 32))) 48 false [48],Gr 57 (.b2s (.t 56)) 48 false [56,48] 1 2,Gc 51 (.mk 1 [.int .u8 0] (.k (.int .i64 136))) 48 false [48],Gr 52 (.b2s (.t 51)) 48 false [51,48] 2 2,Gv 55 (.bin .add (.t 52) (.t 54)) 48 false [52,54,48],Gv 58 (.bin .add (.t 55) (.t 57)) 48 false [55,57,48],Gv 59 (.bin .neq (.t 50) (.t 58)) 48 false [50,58,48],Dv 60 (.pick (.t 48) (.k (.bool true)) (.t 59)) [48,59]] [(0,0),(1,1),(2,2),(3,3),(4,4),(5,5),(6,6),(7,7),(8,8),(9,9),(10,10),(13,11),(14,12)]) (.cond (.t 60) (.seq (.reg [iv 4 (.mv (.k (.bool false)))]) (.ret)) (.skip))) (.seq (.seq (.draw [Dm 61 8,Dv 62 (.iadr none 4 (.t 61) (.k (.int .i64 0))) [61],Dr 63 (.ld 4 true (.t 62)) [62] 0 0,Dr 64 (.call zcw [.t 63]) [63] 0 0,Dv 65 (.un .not (.t 64)) [64],Dm 66 65,Gm 67 8 66 false,Gv 68 (.iadr none 4 (.t 67) (.k (.int .i64 1))) 66 false [67,66],Gr 69 (.ld 4 true (.t 68)) 66 false [68,66] 0 0,Gr 70 (.call zcw [.t 69]) 66 false [69,66] 0 0,Gv 71 (.un .not (.t 70)) 66 false [70,66],Dv 72 (.pick (.t 66) (.k (.bool true)) (.t 71)) [66,71],Dm 73 72,Gm 74 8 73 false,Gv 75 (.iadr none 4 (.t 74) (.k (.int .i64 2))) 73 false [74,73],Gr 76 (.ld 4 true (.t 75)) 73 false [75,73] 0 0,Gv 77 (.slice (.arr 32) 1 (.t 2) none none none) 73 false [2,73],Gr 78 (.call zbT [.t 77]) 73 false [77,73] 0 0,Gr 79 (.call zc8 [.t 76,.t 78]) 73 false [76,78,73] 0 0,Gv 80 (.un .not (.t 79)) 73 false [79,73],Dv 81 (.pick (.t 73) (.k (.bool true)) (.t 80)) [73,80],Dm 82 81,Gr 83 (.ld 32 true (.t 2)) 82 false [2,82] 0 0,Gr 84 (.call zim [.t 83]) 82 false [83,82] 0 0,Gv 85 (.slice (.arr 32) 1 (.t 2) none none none) 82 false [2,82],Gr 86 (.call zbT [.t 85]) 82 false [85,82] 0 0,Gr 87 (.call zc8 [.t 84,.t 86]) 82 false [84,86,82] 0 0,Gv 88 (.un .not (.t 87)) 82 false [87,82],Dv 89 (.pick (.t 82) (.k (.bool true)) (.t 88)) [82,88]]) (.cond (.t 89) (.seq (.reg [iv 4 (.mv (.k (.bool false)))]) (.ret)) (.skip))) (.seq (.reg [iv 91 (.slice (.arr 32) 1 (.t 2) none none none),ir 92 (.call zeg [.t 91]),Mv 93 1,iv 94 (.i2i .i64 (.t 93)),ir 95 (.call zcZ [.t 92,.t 94]),Mv 90 95,Ex 96 90 0,Ex 97 90 1,ic 9 (.alloc [.nsl,.int .i64 0,.int .i64 0,.int .i64 0]),jc (.st 4 (.t 9) (.t 96)),Mv 10 97]) (.seq (.draw [Dr 99 (.call zgC []) [] 0 1,Dv 100 (.slice (.arr 32) 1 (.t 2) none none none) [2],Dr 101 (.call zdR [.t 99,.t 100]) [99,100] 0 1,Dr 102 (.call zcL [.t 101,.k (.int .i64 2)]) [101] 0 1,Dm 98 102,Dv 103 (.ext (.t 98) 0) [98],Dv 104 (.ext (.t 98) 1) [98],ic 11 (.alloc [.nsl,.nsl,.nsl,.int .i64 0,.int .i64 0,.int .i64 0]),Dn (.st 6 (.t 11) (.t 103)) [11,103],Dm 12 104]) (.seq (.reg [Mv 105 6,ic 106 (.call zaE [.t 105,.k (.int .i64 2)]),Mv 13 106]) (.seq (.draw [Dm 107 5,Dm 108 1,Dv 109 (.i2i .i64 (.t 108)) [108],Dc 110 (.call zbh [.t 107,.t 109]) [107,109],Dr 111 (.b2s (.t 110)) [110] 1 1,Dm 112 10,Dr 113 (.b2s (.t 112)) [112] 0 1,Dv 114 (.bin .eql (.t 111) (.t 113)) [111,113],Dm 115 114,Gm 116 13 115 true,Gv 117 (.lenL (.t 116)) 115 true [116,115],Gv 118 (.bin .eql (.t 117) (.k (.int .i64 2))) 115 true [117,115],Dv 119 (.pick (.t 115) (.t 118) (.k (.bool false))) [115,118],Dm 120 119,Gm 121 13 120 true,Gv 122 (.iadr none 4 (.t 121) (.k (.int .i64 0))) 120 true [121,120],Gr 123 (.ld 4 true (.t 122)) 120 true [122,120] 1 1,Gm 124 12 120 true,Gv 125 (.iadr none 1 (.t 124) (.k (.int .i64 0))) 120 true [124,120],Gr 126 (.ld 1 false (.t 125)) 120 true [125,120] 1 1,Gr 127 (.call zc8 [.t 123,.t 126]) 120 true [123,126,120] 1 1,Dv 128 (.pick (.t 120) (.t 127) (.k (.bool false))) [120,127],Dm 129 128,Gm 130 13 129 true,Gv 131 (.iadr none 4 (.t 130) (.k (.int .i64 1))) 129 true [130,129],Gr 132 (.ld 4 true (.t 131)) 129 true [131,129] 1 1,Gm 133 12 129 true,Gv 134 (.iadr none 1 (.t 133) (.k (.int .i64 1))) 129 true [133,129],Gr 135 (.ld 1 false (.t 134)) 129 true [134,129] 1 1,Gr 136 (.call zc8 [.t 132,.t 135]) 129 true [132,135,129] 1 1,Dv 137 (.pick (.t 129) (.t 136) (.k (.bool false))) [129,136],Dm 4 137]) (.ret)))))))))))
def zib:AFn:=⟨138,ze7,[.tmp 4]⟩
def zgN:AC:=.seq (.reg [iv 0 (.mv (.k (.bool false)))]) (.seq (.reg [ir 8 (.call zlm [.k (.int .i64 1),.k (.nsl)]),Mv 7 8,Ex 9 7 0,Ex 10 7 1,Ex 11 7 2,ic 1 (.alloc (zaS (.int .u8 0) 32)),jc (.st 32 (.t 1) (.t 9)),Mv 2 10,Mv 3 11]) (.seq (.reg [ir 13 (.call zlm [.k (.int .i64 2),.k (.nsl)]),Mv 12 13,Ex 14 12 0,Ex 15 12 1,Ex 16 12 2,ic 4 (.alloc (zaS (.int .u8 0) 32)),jc (.st 32 (.t 4) (.t 14)),Mv 5 15,Mv 6 16]) (.seq (.reg [Mv 17 3,Bi 18 .eql 17 0,Mv 19 18,Gv 20 (.mv (.t 6)) 19 true [],Gv 21 (.bin .eql (.t 20) (.k (.int .i64 0))) 19 true [],iv 22 (.pick (.t 19) (.t 21) (.k (.bool false))),Mv 23 22,Gr 24 (.ld 32 true (.t 1)) 23 true [] 0 0,Gr 25 (.ld 32 true (.t 4)) 23 true [] 0 0,Gv 26 (.eq (.agg (zaS .i 32)) true (.t 24) (.t 25)) 23 true [],iv 27 (.pick (.t 23) (.t 26) (.k (.bool false))),Mv 28 27,iv 29 (.pick (.t 28) (.k (.bool true)) (.k (.bool false))),Mv 0 29]) (.ret))))
def zkj:AFn:=⟨30,zgN,[.tmp 0]⟩
def znT:AC:=.seq (.reg [iv 1 (.boxv (.t 0)),iv 2 (.mv (.k (.nilp)))]) (.seq (.draw [ir 3 (.call zio []),Dv 4 (.slice (.arr 32) 1 (.t 1) none none none) [1],Dc 5 (.call zin [.t 3,.t 4]) [3,4],Dm 2 5]) (.ret))
def zsW:AFn:=⟨6,znT,[.tmp 2]⟩
def zmb:AC:=.seq (.reg [iv 1 (.boxv (.t 0)),iv 2 (.mv (.k (.nilp)))]) (.seq (.draw [ic 3 (.call zgD []),Dr 4 (.ld 32 true (.t 1)) [1] 0 1,Dr 5 (.call zim [.t 4]) [4] 1 1,Dv 6 (.slit 4 1 (zaS (.int .u64 0) 4) [(0,.t 5)]) [5],Dc 7 (.call zc0 [.t 3,.t 6]) [3,6],Dm 2 7]) (.ret))
def zrA:AFn:=⟨8,zmb,[.tmp 2]⟩
def zeq:AC:=.seq (.reg [iv 2 (.mv (.k (.int .i64 0)))]) (.seq (.reg [Mv 3 0,Nk 4 3,Fa 5 4 4,Ld 6 5,Mv 2 6]) (.ret))
def zg1:AFn:=⟨7,zeq,[.tmp 2]⟩
def zb0:AC:=.seq (.reg [iv 2 (.mv (.k (.int .i64 0)))]) (.seq (.reg [Mv 3 0,Nk 4 3,Fa 5 4 4,Ld 6 5,Mv 2 6]) (.ret))
def zdZ:AFn:=⟨7,zb0,[.tmp 2]⟩
def zer:AC:=.seq (.reg [iv 2 (.mv (.k (.nsl)))]) (.seq (.reg [Mv 3 0,Nk 4 3,Fa 5 1 4,Ld 6 5,ir 7 (.call zdl [.t 6]),Mv 2 7]) (.ret))
def zg2:AFn:=⟨8,zer,[.tmp 2]⟩
def zb1:AC:=.seq (.reg [iv 2 (.mv (.k (.nsl)))]) (.seq (.reg [Mv 3 0,Nk 4 3,Fa 5 1 4,Ld 6 5,ir 7 (.call zaH [.t 6]),Mv 2 7]) (.ret))
def zd0:AFn:=⟨8,zb1,[.tmp 2]⟩
def zfA:AC:=.seq (.reg [iv 1 (.boxv (.t 0)),iv 2 (.mv (.k (.bool false)))]) (.seq (.reg [ir 3 (.ld 4 true (.t 1)),iv 4 (.build (zaS (.int .u64 0) 4) []),iv 5 (.eq (.agg (zaS .i 4)) false (.t 3) (.t 4)),Mv 2 5]) (.ret))
def ziD:AFn:=⟨6,zfA,[.tmp 2]⟩
def zj1:AC:=.seq (.reg [iv 2 (.boxv (.t 0)),iv 4 (.mv (.k (.bool false)))]) (.seq (.reg [ir 6 (.ld 4 true (.t 2)),ir 7 (.call zei [.t 6]),ic 5 (.alloc (zaS (.int .u8 0) 32)),jc (.st 32 (.t 5) (.t 7))]) (.seq (.draw [Dv 8 (.slice (.arr 32) 1 (.t 5) none none none) [5],Dr 9 (.b2s (.t 8)) [8] 0 0,Dm 10 1,Dr 11 (.call zfq [.t 10]) [10] 0 0,Dr 12 (.b2s (.t 11)) [11] 0 0,Dv 13 (.bin .eql (.t 9) (.t 12)) [9,12],Dm 4 13]) (.ret)))
def zoG:AFn:=⟨14,zj1,[.tmp 4]⟩
def zfS:AC:=.seq (.reg [iv 2 (.mv (.k (.nsl)))]) (.seq (.reg [Mv 3 0,ir 4 (.call zej [.t 3]),ir 5 (.call zgE [.t 4]),Mv 2 5]) (.ret))
def zjw:AFn:=⟨6,zfS,[.tmp 2]⟩
def znX:AC:=.seq (.reg [ic 1 (.box (.t 0)),ic 2 (.alloc (zaS (.int .u64 0) 4))]) (.seq (.reg [iv 3 (.slice (.arr 32) 1 (.t 1) none none none),ir 4 (.call zfx [.t 3]),jc (.st 4 (.t 2) (.t 4))]) (.ret))
def zs0:AFn:=⟨5,znX,[.cell 2 4 true]⟩
def zfT:AC:=.seq (.reg [ic 2 (.alloc [.nsl,.int .i64 0,.int .i64 0,.int .i64 0])]) (.seq (.reg [Mv 6 0,ir 7 (.call zdS [.t 6]),Mv 5 7,Ex 8 5 0,Ex 9 5 1,ic 3 (.alloc [.nsl,.int .i64 0,.int .i64 0,.int .i64 0]),jc (.st 4 (.t 3) (.t 8)),Mv 4 9]) (.seq (.reg [ir 10 (.ld 4 true (.t 3)),jc (.st 4 (.t 2) (.t 10))]) (.ret)))
def zjx:AFn:=⟨11,zfT,[.cell 2 4 true]⟩
def zaT:AC:=.seq (.seq (.reg [Mv 9 7,Mv 10 1,Bt 11 .lss 9 10]) (.cond (.t 11) (.skip) (.exit 0))) (.seq (.blk 1 (.seq (.seq (.reg [Fa 14 2 2,Ld 15 14,Bi 16 .eql 15 136]) (.cond (.t 16) (.seq (.reg [ir 17 (.ld 4 true (.t 2)),ir 18 (.call zc1 [.t 17]),jc (.st 4 (.t 2) (.t 18))]) (.seq (.reg [Fa 19 1 2,jc (.st 1 (.t 19) (.k (.int .i64 0)))]) (.reg [Fa 20 2 2,jc (.st 1 (.t 20) (.k (.int .i64 0)))]))) (.skip))) (.seq (.reg [Mv 21 6,Fa 22 0 2,Ld 23 22,Fa 24 2 2,Ld 25 24,Ia 26 23 25,Ld 27 26,iv 28 (.slit 1 1 [.int .u8 0] [(0,.t 27)]),ic 29 (.app 1 false (.t 21) (.t 28)),Mv 6 29]) (.reg [Fa 30 2 2,Ld 31 30,Bi 32 .add 31 1,Fa 33 2 2,Sx 33 32])))) (.reg [Mv 12 7,Bi 13 .add 12 1,Mv 7 13]))
def zeJ:AC:=.seq (.reg [ic 2 (.box (.t 0)),ic 4 (.alloc [.nsl,.int .i64 0,.int .i64 0,.int .i64 0]),iv 5 (.mv (.k (.nsl)))]) (.seq (.reg [iv 8 (.slit 1 0 [.int .u8 0] []),Mv 6 8]) (.seq (.seq (.reg [iv 7 (.mv (.k (.int .i64 0)))]) (.blk 0 (.loop zaT))) (.seq (.reg [ir 34 (.ld 4 true (.t 2)),Mv 35 6,jc (.st 4 (.t 4) (.t 34)),Mv 5 35]) (.ret))))
def zhN:AFn:=⟨36,zeJ,[.cell 4 4 true,.tmp 5]⟩
def zfB:AC:=.seq (.reg [iv 2 (.boxv (.t 0)),ic 4 (.alloc [.nsl,.nsl,.nsl,.int .i64 0,.int .i64 0,.int .i64 0])]) (.seq (.draw [Dr 8 (.ld 2 true (.t 2)) [2] 0 1,Dm 9 1,Dr 10 (.call zbT [.t 9]) [9] 0 1,Dv 11 (.slit 1 1 [.nsl] [(0,.t 10)]) [10],Dr 12 (.call zdm [.t 8,.t 11]) [8,11] 0 1,Dm 7 12,Dv 13 (.ext (.t 7) 0) [7],Dv 14 (.ext (.t 7) 1) [7],ic 5 (.alloc [.nsl,.nsl,.nsl,.int .i64 0,.int .i64 0,.int .i64 0]),Dn (.st 6 (.t 5) (.t 13)) [5,13],Dm 6 14]) (.seq (.reg [ir 15 (.ld 6 true (.t 5)),jc (.st 6 (.t 4) (.t 15))]) (.ret)))
def ziE:AFn:=⟨16,zfB,[.cell 4 6 true]⟩
def zcQ:AC:=.seq (.seq (.reg [Mv 13 4,Bi 14 .lss 13 195]) (.cond (.t 14) (.skip) (.exit 0))) (.seq (.blk 1 (.seq (.reg [ir 18 (.ld 80 true (.t 1)),ir 19 (.call zek [.t 18]),Mv 17 19,Ex 20 17 0,Ex 21 17 1,ic 5 (.alloc (zaS (.bool false) 80)),jc (.st 80 (.t 5) (.t 20)),Mv 6 21]) (.seq (.reg [ir 22 (.ld 80 true (.t 5)),jc (.st 80 (.t 1) (.t 22))]) (.reg [Fa 23 0 3,Ld 24 23,Mv 25 6,iv 26 (.slit 1 1 [.nsl] [(0,.t 25)]),ic 27 (.app 1 false (.t 24) (.t 26)),Fa 28 0 3,Sx 28 27])))) (.reg [Mv 15 4,Bi 16 .add 15 1,Mv 4 16]))
def ziP:AC:=.seq (.reg [ic 0 (.alloc [.nsl,.nsl])]) (.seq (.reg [ir 8 (.call zgF [.k (.int .i64 254),.k (.int .i64 3),.k (.int .i64 8),.k (.int .i64 57)]),Mv 7 8,Ex 9 7 0,Ex 10 7 1,ic 1 (.alloc (zaS (.bool false) 80)),jc (.st 80 (.t 1) (.t 9)),Mv 2 10]) (.seq (.reg [ir 11 (.call zeF []),iv 12 (.build [.nsl,.nsl] [(1,1,.t 11)]),ic 3 (.alloc [.nsl,.nsl]),jc (.st 2 (.t 3) (.t 12))]) (.seq (.seq (.reg [iv 4 (.mv (.k (.int .i64 0)))]) (.blk 0 (.loop zcQ))) (.seq (.reg [ir 29 (.ld 2 true (.t 3)),jc (.st 2 (.t 0) (.t 29))]) (.ret)))))
def zmI:AFn:=⟨30,ziP,[.cell 0 2 true]⟩
def zaC:AC:=.seq (.seq (.reg [Mv 9 7,Mv 10 1,Bt 11 .lss 9 10]) (.cond (.t 11) (.skip) (.exit 0))) (.seq (.blk 1 (.seq (.seq (.reg [Fa 14 4 2,Ld 15 14,Bi 16 .eql 15 2]) (.cond (.t 16) (.seq (.reg [ir 17 (.ld 6 true (.t 2)),ir 18 (.call zbK [.t 17]),jc (.st 6 (.t 2) (.t 18))]) (.seq (.reg [Fa 19 3 2,jc (.st 1 (.t 19) (.k (.int .i64 0)))]) (.reg [Fa 20 4 2,jc (.st 1 (.t 20) (.k (.int .i64 0)))]))) (.skip))) (.seq (.reg [Mv 21 6,Fa 22 2 2,Ld 23 22,Fa 24 4 2,Ld 25 24,Ia 26 23 25,Ld 27 26,iv 28 (.slit 1 1 [.nsl] [(0,.t 27)]),ic 29 (.app 1 false (.t 21) (.t 28)),Mv 6 29]) (.reg [Fa 30 4 2,Ld 31 30,Bi 32 .add 31 1,Fa 33 4 2,Sx 33 32])))) (.reg [Mv 12 7,Bi 13 .add 12 1,Mv 7 13]))
def zes:AC:=.seq (.reg [ic 2 (.box (.t 0)),ic 4 (.alloc [.nsl,.nsl,.nsl,.int .i64 0,.int .i64 0,.int .i64 0]),iv 5 (.mv (.k (.nsl)))]) (.seq (.reg [iv 8 (.slit 1 0 [.nsl] []),Mv 6 8]) (.seq (.seq (.reg [iv 7 (.mv (.k (.int .i64 0)))]) (.blk 0 (.loop zaC))) (.seq (.reg [ir 34 (.ld 6 true (.t 2)),Mv 35 6,jc (.st 6 (.t 4) (.t 34)),Mv 5 35]) (.ret))))
def zg4:AFn:=⟨36,zes,[.cell 4 6 true,.tmp 5]⟩
def zaD:AC:=.seq (.reg [Bt 9 .lss 8 7]) (.seq (.cond (.t 9) (.skip) (.exit 0)) (.seq (.blk 1 (.seq (.seq (.draw [Dm 10 0,Dv 11 (.nck (.t 10)) [10],Dv 12 (.fadr 3 (.t 11)) [11],Dr 13 (.ld 1 false (.t 12)) [12] 0 0,Dm 14 0,Dv 15 (.nck (.t 14)) [14],Dv 16 (.fadr 0 (.t 15)) [15],Dr 17 (.ld 1 false (.t 16)) [16] 0 0,Dr 18 (.inv (.t 17) "Rate" []) [17] 0 0,Dv 19 (.bin .eql (.t 13) (.t 18)) [13,18]]) (.cond (.t 19) (.seq (.reg [Mv 20 0,ic 21 (.call za1 [.t 20])]) (.reg [Mv 22 0,Nk 23 22,Fa 24 3 23,jc (.st 1 (.t 24) (.k (.int .i64 0)))])) (.skip))) (.seq (.draw [Dm 25 5,Dm 26 0,Dv 27 (.nck (.t 26)) [26],Dv 28 (.fadr 1 (.t 27)) [27],Dr 29 (.ld 1 false (.t 28)) [28] 0 0,Dm 30 0,Dv 31 (.nck (.t 30)) [30],Dv 32 (.fadr 3 (.t 31)) [31],Dr 33 (.ld 1 false (.t 32)) [32] 0 0,Dv 34 (.iadr none 4 (.t 29) (.t 33)) [29,33],Dr 35 (.ld 4 true (.t 34)) [34] 0 0,Dv 36 (.slit 4 1 (zaS (.int .u64 0) 4) [(0,.t 35)]) [35],Dc 37 (.app 4 false (.t 25) (.t 36)) [25,36],Dm 5 37]) (.reg [Mv 38 0,Nk 39 38,Fa 40 3 39,Ld 41 40,Bi 42 .add 41 1,Nk 43 38,Fa 44 3 43,Sx 44 42])))) (.reg [Bi 45 .add 8 1,Mv 8 45])))
def zbG:AC:=.seq (.reg [iv 4 (.mv (.k (.nsl)))]) (.seq (.reg [iv 5 (.mv (.k (.nsl)))]) (.seq (.seq (.reg [Mv 6 1,iv 7 (.mxmn true [.t 6,.k (.int .i64 0)]),iv 8 (.mv (.k (.int .i64 0)))]) (.blk 0 (.loop zaD))) (.seq (.reg [Mv 46 5,Mv 4 46]) (.ret))))
def zdp:AFn:=⟨47,zbG,[.tmp 4]⟩
def zbc:AC:=.seq (.reg [Bt 9 .lss 8 7]) (.seq (.cond (.t 9) (.skip) (.exit 0)) (.seq (.blk 1 (.seq (.seq (.draw [Dm 10 0,Dv 11 (.nck (.t 10)) [10],Dv 12 (.fadr 3 (.t 11)) [11],Dr 13 (.ld 1 false (.t 12)) [12] 0 0,Dm 14 0,Dv 15 (.nck (.t 14)) [14],Dv 16 (.fadr 0 (.t 15)) [15],Dr 17 (.ld 1 false (.t 16)) [16] 0 0,Dr 18 (.inv (.t 17) "Rate" []) [17] 0 0,Dv 19 (.bin .eql (.t 13) (.t 18)) [13,18]]) (.cond (.t 19) (.seq (.reg [Mv 20 0,ic 21 (.call zca [.t 20])]) (.reg [Mv 22 0,Nk 23 22,Fa 24 3 23,jc (.st 1 (.t 24) (.k (.int .i64 0)))])) (.skip))) (.seq (.draw [Dm 25 5,Dm 26 0,Dv 27 (.nck (.t 26)) [26],Dv 28 (.fadr 1 (.t 27)) [27],Dr 29 (.ld 1 false (.t 28)) [28] 0 0,Dm 30 0,Dv 31 (.nck (.t 30)) [30],Dv 32 (.fadr 3 (.t 31)) [31],Dr 33 (.ld 1 false (.t 32)) [32] 0 0,Dv 34 (.iadr none 1 (.t 29) (.t 33)) [29,33],Dr 35 (.ld 1 false (.t 34)) [34] 0 0,Dv 36 (.slit 1 1 [.int .u8 0] [(0,.t 35)]) [35],Dc 37 (.app 1 false (.t 25) (.t 36)) [25,36],Dm 5 37]) (.reg [Mv 38 0,Nk 39 38,Fa 40 3 39,Ld 41 40,Bi 42 .add 41 1,Nk 43 38,Fa 44 3 43,Sx 44 42])))) (.reg [Bi 45 .add 8 1,Mv 8 45])))
def zdA:AC:=.seq (.reg [iv 4 (.mv (.k (.nsl)))]) (.seq (.reg [iv 5 (.mv (.k (.nsl)))]) (.seq (.seq (.reg [Mv 6 1,iv 7 (.mxmn true [.t 6,.k (.int .i64 0)]),iv 8 (.mv (.k (.int .i64 0)))]) (.blk 0 (.loop zbc))) (.seq (.reg [Mv 46 5,Mv 4 46]) (.ret))))
def zfU:AFn:=⟨47,zdA,[.tmp 4]⟩
def zkW:AC:=.seq (.reg [ic 4 (.alloc (zaS (.int .u8 0) 32)),iv 5 (.mv (.k (.int .i64 0))),iv 6 (.mv (.k (.int .i64 0)))]) (.seq (.seq (.reg [Mv 10 0,Bi 11 .neq 10 1,Mv 12 11,Gv 13 (.mv (.t 0)) 12 true [],Gv 14 (.bin .neq (.t 13) (.k (.int .i64 2))) 12 true [],iv 15 (.pick (.t 12) (.t 14) (.k (.bool false)))]) (.cond (.t 15) (.seq (.reg [iv 16 (.build (zaS (.int .u8 0) 32) []),jc (.st 32 (.t 4) (.t 16)),iv 5 (.mv (.k (.int .i64 (-1)))),iv 6 (.mv (.k (.int .i64 15)))]) (.ret)) (.skip))) (.seq (.reg [Mv 18 1,ir 19 (.call zfr [.t 18]),Mv 17 19,Ex 20 17 0,Ex 21 17 1,Ex 22 17 2,Mv 7 20,Mv 8 21,Mv 9 22]) (.seq (.seq (.reg [Mv 23 9,Bi 24 .neq 23 0]) (.cond (.t 24) (.seq (.reg [iv 25 (.build (zaS (.int .u8 0) 32) []),Mv 26 8,Mv 27 9,jc (.st 32 (.t 4) (.t 25)),Mv 5 26,Mv 6 27]) (.ret)) (.skip))) (.seq (.reg [ic 28 (.slit 1 19 [.int .u8 0] [(0,.k (.int .u8 97)),(1,.k (.int .u8 118)),(2,.k (.int .u8 111)),(3,.k (.int .u8 117)),(4,.k (.int .u8 99)),(5,.k (.int .u8 104)),(6,.k (.int .u8 47)),(7,.k (.int .u8 116)),(8,.k (.int .u8 114)),(9,.k (.int .u8 97)),(10,.k (.int .u8 110)),(11,.k (.int .u8 115)),(12,.k (.int .u8 99)),(13,.k (.int .u8 114)),(14,.k (.int .u8 105)),(15,.k (.int .u8 112)),(16,.k (.int .u8 116)),(17,.k (.int .u8 47)),(18,.k (.int .u8 49))]),ir 29 (.mark (.t 28)),Mv 30 0,iv 31 (.i2i .u8 (.t 30)),iv 32 (.slit 1 1 [.int .u8 0] [(0,.t 31)]),Mv 33 7,iv 34 (.slit 1 3 [.nsl] [(0,.t 29),(1,.t 32),(2,.t 33)]),ir 35 (.call zjL [.t 34]),jc (.st 32 (.t 4) (.t 35)),iv 5 (.mv (.k (.int .i64 (-1)))),iv 6 (.mv (.k (.int .i64 0)))]) (.ret)))))
def zBf:AFn:=⟨36,zkW,[.cell 4 32 true,.tmp 5,.tmp 6]⟩
def zkX:AC:=.seq (.reg [iv 4 (.mv (.k (.nilp)))]) (.seq (.reg [Mv 8 0,Mv 9 1,ic 10 (.call zhf [.t 8,.t 9]),Mv 7 10,Ex 11 7 0,Ex 12 7 1,Mv 5 11,Mv 6 12]) (.seq (.reg [Mv 13 5,Mv 4 13]) (.ret)))
def zpG:AFn:=⟨14,zkX,[.tmp 4]⟩
def zkY:AC:=.seq (.reg [iv 0 (.mv (.k (.nif)))]) (.seq (.reg [iv 1 (.build [] []),iv 2 (.mkif 101 (.t 1)),Mv 0 2]) (.ret))
def zpH:AFn:=⟨3,zkY,[.tmp 0]⟩
def zeK:AC:=.seq (.reg [iv 4 (.mv (.k (.nilp)))]) (.seq (.reg [Mv 8 0,Mv 9 1,ic 10 (.call zcM [.t 8,.t 9]),Mv 7 10,Ex 11 7 0,Ex 12 7 1,Mv 5 11,Mv 6 12]) (.seq (.reg [Mv 13 5,Mv 4 13]) (.ret)))
def zhO:AFn:=⟨14,zeK,[.tmp 4]⟩
def ziS:AC:=.seq (.reg [iv 0 (.mv (.k (.nif)))]) (.seq (.reg [ic 1 (.call zjp []),iv 2 (.build [.nilp] [(0,1,.t 1)]),iv 3 (.mkif 107 (.t 2)),Mv 0 3]) (.ret))
def zmN:AFn:=⟨4,ziS,[.tmp 0]⟩
def ze8:AC:=.seq (.reg [iv 2 (.mv (.k (.nsl)))]) (.seq (.seq (.reg [Mv 3 0,iv 4 (.eq .slc false (.t 3) (.k (.nsl)))]) (.cond (.t 4) (.seq (.reg [iv 2 (.mv (.k (.nsl)))]) (.ret)) (.skip))) (.seq (.reg [iv 5 (.slit 1 0 [.int .u8 0] []),Mv 6 0,ic 7 (.app 1 false (.t 5) (.t 6)),Mv 2 7]) (.ret)))
def zid:AFn:=⟨8,ze8,[.tmp 2]⟩
def zba:AC:=.seq (.reg [iv 2 (.mv (.k (.nsl)))]) (.seq (.seq (.reg [Mv 3 0,iv 4 (.eq .slc false (.t 3) (.k (.nsl)))]) (.cond (.t 4) (.seq (.reg [iv 2 (.mv (.k (.nsl)))]) (.ret)) (.skip))) (.seq (.reg [iv 5 (.slit 4 0 (zaS (.int .u64 0) 4) []),Mv 6 0,ic 7 (.app 4 false (.t 5) (.t 6)),Mv 2 7]) (.ret)))
def zcu:AFn:=⟨8,zba,[.tmp 2]⟩
def zfV:AC:=.seq (.reg [iv 1 (.boxv (.t 0)),ic 2 (.alloc (zaS (.int .u8 0) 32))]) (.seq (.reg [ir 4 (.ld 4 true (.t 1)),ir 5 (.call zel [.t 4]),ic 3 (.alloc (zaS (.int .u64 0) 4)),jc (.st 4 (.t 3) (.t 5))]) (.seq (.reg [iv 6 (.slice (.arr 4) 1 (.t 3) none none none),ir 7 (.call zjM [.t 6]),iv 8 (.s2a 32 (.t 7)),ir 9 (.ld 32 true (.t 8)),jc (.st 32 (.t 2) (.t 9))]) (.ret)))
def zjy:AFn:=⟨10,zfV,[.cell 2 32 true]⟩
def zhp:AC:=.seq (.reg [iv 2 (.mv (.k (.nsl)))]) (.seq (.reg [Mv 3 0,ir 4 (.call zbP [.t 3,.k (.int .i64 4)]),ir 5 (.call zdH [.t 4]),Mv 2 5]) (.ret))
def zkZ:AFn:=⟨6,zhp,[.tmp 2]⟩
def ziU:AC:=.seq (.reg [iv 2 (.mv (.k (.nsl)))]) (.seq (.reg [Mv 3 0,ir 4 (.call zb4 []),ir 5 (.call zgH [.t 3,.t 4]),Mv 2 5]) (.ret))
def zmP:AFn:=⟨6,ziU,[.tmp 2]⟩
def zbA:AC:=.seq (.seq (.reg [Mv 13 4,Bi 14 .geq 13 0]) (.cond (.t 14) (.skip) (.exit 0))) (.seq (.blk 1 (.draw [Dm 17 3,Dm 18 4,Dv 19 (.bin .quo (.t 18) (.k (.int .i64 4))) [18],Dm 20 3,Dm 21 4,Dv 22 (.bin .quo (.t 21) (.k (.int .i64 4))) [21],Dv 23 (.iadr none 1 (.t 20) (.t 22)) [20,22],Dr 24 (.ld 1 false (.t 23)) [23] 0 0,Dv 25 (.bin .mul (.t 24) (.k (.int .u64 256))) [24],Dm 26 0,Dm 27 4,Dv 28 (.iadr none 1 (.t 26) (.t 27)) [26,27],Dr 29 (.ld 1 false (.t 28)) [28] 0 0,Dv 30 (.i2i .u64 (.t 29)) [29],Dv 31 (.bin .add (.t 25) (.t 30)) [25,30],Dv 32 (.iadr none 1 (.t 17) (.t 19)) [17,19],Dn (.st 1 (.t 32) (.t 31)) [32,31]])) (.reg [Mv 15 4,Bi 16 .sub 15 1,Mv 4 16]))
def zfW:AC:=.seq (.reg [iv 2 (.mv (.k (.nsl)))]) (.seq (.reg [Mv 5 0,iv 6 (.lenL (.t 5)),Bi 7 .quo 6 4,Bi 8 .add 7 1,ic 9 (.mk 1 [.int .u64 0] (.t 8)),Mv 3 9]) (.seq (.seq (.reg [Mv 10 0,iv 11 (.lenL (.t 10)),Bi 12 .sub 11 1,Mv 4 12]) (.blk 0 (.loop zbA))) (.seq (.reg [Mv 33 3,ir 34 (.call zau [.t 33]),Mv 2 34]) (.ret))))
def zjz:AFn:=⟨35,zfW,[.tmp 2]⟩
def zj2:AC:=.seq (.reg [ic 2 (.alloc (zaS (.int .u64 0) 4))]) (.seq (.reg [ir 6 (.call zdi []),ic 3 (.alloc (zaS (.int .u64 0) 4)),jc (.st 4 (.t 3) (.t 6))]) (.seq (.reg [iv 8 (.slice (.arr 4) 1 (.t 3) none none none),ir 9 (.call zqP [.t 8]),Mv 7 9,Ex 10 7 0,Ex 11 7 1,Mv 4 10,Mv 5 11]) (.seq (.reg [Mv 12 4,Mv 13 0,ir 14 (.call zhS [.t 13]),ir 15 (.call zd6 [.t 12,.t 14]),iv 16 (.s2a 4 (.t 15)),ir 17 (.ld 4 true (.t 16)),ir 18 (.call zgo [.t 17]),jc (.st 4 (.t 2) (.t 18))]) (.ret))))
def zoH:AFn:=⟨19,zj2,[.cell 2 4 true]⟩
def zbl:AC:=.seq (.seq (.reg [Mv 12 4,iv 13 (.lenL (.t 12)),Bi 14 .lss 13 200]) (.cond (.t 14) (.skip) (.exit 0))) (.blk 1 (.reg [Mv 15 4,iv 16 (.slit 1 1 [.int .u8 0] [(0,.k (.int .u8 0))]),ic 17 (.app 1 false (.t 15) (.t 16)),Mv 4 17]))
def zfC:AC:=.seq (.reg [ic 2 (.alloc [.nsl,.int .i64 0,.int .i64 0,.int .i64 0]),iv 3 (.mv (.k (.int .i64 0)))]) (.seq (.seq (.reg [Mv 5 0,iv 6 (.lenL (.t 5)),Bi 7 .gtr 6 64]) (.cond (.t 7) (.seq (.reg [iv 8 (.build [.nsl,.int .i64 0,.int .i64 0,.int .i64 0] []),jc (.st 4 (.t 2) (.t 8)),iv 3 (.mv (.k (.int .i64 1)))]) (.ret)) (.skip))) (.seq (.reg [ic 9 (.mk 1 [.int .u8 0] (.k (.int .i64 136))),Mv 10 0,ic 11 (.app 1 false (.t 9) (.t 10)),Mv 4 11]) (.seq (.blk 0 (.loop zbl)) (.seq (.reg [Mv 18 4,iv 19 (.build [.nsl,.int .i64 0,.int .i64 0,.int .i64 0] [(0,1,.t 18),(2,1,.k (.int .i64 136))]),jc (.st 4 (.t 2) (.t 19)),iv 3 (.mv (.k (.int .i64 0)))]) (.ret)))))
def ziF:AFn:=⟨20,zfC,[.cell 2 4 true,.tmp 3]⟩
def zeM:AC:=.seq (.reg [ic 1 (.box (.t 0)),ic 2 (.alloc [.nsl,.int .i64 0,.int .i64 0,.int .i64 0])]) (.seq (.reg [Fa 3 0 1,Ld 4 3,ir 5 (.call zd8 [.t 4]),ir 6 (.call zd7 [.t 5]),ic 7 (.call zfc [.t 6]),Fa 8 0 1,Sx 8 7]) (.seq (.reg [Fa 9 3 1,Ld 10 9,Bi 11 .add 10 1,Fa 12 3 1,Sx 12 11]) (.seq (.reg [ir 13 (.ld 4 true (.t 1)),jc (.st 4 (.t 2) (.t 13))]) (.ret))))
def zhQ:AFn:=⟨14,zeM,[.cell 2 4 true]⟩
def ze9:AC:=.seq (.reg [iv 2 (.boxv (.t 0)),ic 4 (.alloc [.nsl,.nsl,.nsl,.int .i64 0,.int .i64 0,.int .i64 0]),iv 5 (.mv (.k (.int .i64 0)))]) (.seq (.seq (.reg [Mv 7 1,iv 8 (.lenL (.t 7)),Bi 9 .gtr 8 1]) (.cond (.t 9) (.seq (.reg [iv 10 (.build [.nsl,.nsl,.nsl,.int .i64 0,.int .i64 0,.int .i64 0] []),jc (.st 6 (.t 4) (.t 10)),iv 5 (.mv (.k (.int .i64 1)))]) (.ret)) (.skip))) (.seq (.reg [iv 11 (.slit 1 2 [.nsl] [(0,.k (.nsl)),(1,.k (.nsl))]),Mv 12 1,ic 13 (.app 1 false (.t 11) (.t 12)),Mv 6 13]) (.seq (.seq (.reg [Mv 14 6,iv 15 (.lenL (.t 14)),Bi 16 .lss 15 3]) (.cond (.t 16) (.reg [Mv 17 6,iv 18 (.slit 1 1 [.nsl] [(0,.k (.nsl))]),ic 19 (.app 1 false (.t 17) (.t 18)),Mv 6 19]) (.skip))) (.seq (.reg [ir 20 (.ld 2 true (.t 2)),Mv 21 6,iv 22 (.build [.nsl,.nsl,.nsl,.int .i64 0,.int .i64 0,.int .i64 0] [(0,2,.t 20),(2,1,.t 21),(4,1,.k (.int .i64 2))]),jc (.st 6 (.t 4) (.t 22)),iv 5 (.mv (.k (.int .i64 0)))]) (.ret)))))
def zie:AFn:=⟨23,ze9,[.cell 4 6 true,.tmp 5]⟩
def zbw:AC:=.seq (.seq (.reg [Mv 47 12,Bi 48 .lss 47 80]) (.cond (.t 48) (.skip) (.exit 0))) (.seq (.blk 1 (.reg [Mv 51 12,Mv 52 10,Mv 53 12,Ia 54 52 53,Ld 55 54,iv 56 (.iadr (some 80) 1 (.t 11) (.t 51)),Sx 56 55])) (.reg [Mv 49 12,Bi 50 .add 49 1,Mv 12 50]))
def zcY:AC:=.seq (.seq (.reg [Mv 57 13,Bi 58 .lss 57 160]) (.cond (.t 58) (.skip) (.exit 2))) (.seq (.blk 3 (.reg [ir 62 (.ld 80 true (.t 11)),ir 63 (.call zcS [.t 62]),Mv 61 63,Ex 64 61 0,Ex 65 61 1,jc (.st 80 (.t 11) (.t 64))])) (.reg [Mv 59 13,Bi 60 .add 59 1,Mv 13 60]))
def zi7:AC:=.seq (.reg [ic 8 (.alloc (zaS (.bool false) 80)),iv 9 (.mv (.k (.int .i64 0)))]) (.seq (.seq (.reg [Mv 14 0,ir 15 (.call zc7 [.t 14,.k (.int .i64 1),.k (.int .i64 4095)]),iv 16 (.un .not (.t 15)),Mv 17 16,Gv 18 (.mv (.t 1)) 17 false [],Gr 19 (.call zc7 [.t 18,.k (.int .i64 1),.k (.int .i64 4095)]) 17 false [] 0 0,Gv 20 (.un .not (.t 19)) 17 false [],iv 21 (.pick (.t 17) (.k (.bool true)) (.t 20)),Mv 22 21,Gv 23 (.mv (.t 2)) 22 false [],Gr 24 (.call zc7 [.t 23,.k (.int .i64 0),.k (.int .i64 1023)]) 22 false [] 0 0,Gv 25 (.un .not (.t 24)) 22 false [],iv 26 (.pick (.t 22) (.k (.bool true)) (.t 25)),Mv 27 26,Gv 28 (.mv (.t 3)) 27 false [],Gr 29 (.call zc7 [.t 28,.k (.int .i64 0),.k (.int .i64 1023)]) 27 false [] 0 0,Gv 30 (.un .not (.t 29)) 27 false [],iv 31 (.pick (.t 27) (.k (.bool true)) (.t 30))]) (.cond (.t 31) (.seq (.reg [iv 32 (.build (zaS (.bool false) 80) []),jc (.st 80 (.t 8) (.t 32)),iv 9 (.mv (.k (.int .i64 1)))]) (.ret)) (.skip))) (.seq (.reg [ic 33 (.call zao [.k (.nsl),.k (.int .i64 1),.k (.int .i64 2)]),ic 34 (.call zao [.t 33,.k (.int .i64 0),.k (.int .i64 4)]),Mv 35 0,ic 36 (.call zao [.t 34,.t 35,.k (.int .i64 12)]),Mv 10 36]) (.seq (.reg [Mv 37 10,Mv 38 1,ic 39 (.call zao [.t 37,.t 38,.k (.int .i64 12)]),Mv 40 2,ic 41 (.call zao [.t 39,.t 40,.k (.int .i64 10)]),Mv 42 3,ic 43 (.call zao [.t 41,.t 42,.k (.int .i64 10)]),Mv 10 43]) (.seq (.reg [Mv 44 10,ic 45 (.call zao [.t 44,.k (.int .i64 1073741823),.k (.int .i64 30)]),Mv 10 45]) (.seq (.reg [iv 46 (.build (zaS (.bool false) 80) []),ic 11 (.alloc (zaS (.bool false) 80)),jc (.st 80 (.t 11) (.t 46))]) (.seq (.seq (.reg [iv 12 (.mv (.k (.int .i64 0)))]) (.blk 0 (.loop zbw))) (.seq (.seq (.reg [iv 13 (.mv (.k (.int .i64 0)))]) (.blk 2 (.loop zcY))) (.seq (.reg [ir 66 (.ld 80 true (.t 11)),jc (.st 80 (.t 8) (.t 66)),iv 9 (.mv (.k (.int .i64 0)))]) (.ret)))))))))
def znm:AFn:=⟨67,zi7,[.cell 8 80 true,.tmp 9]⟩
def zbS:AC:=.seq (.seq (.reg [Mv 11 4,Bi 12 .lss 11 3]) (.cond (.t 12) (.skip) (.exit 2))) (.seq (.blk 3 (.reg [Mv 15 3,Mv 16 2,Mv 17 4,Bt 18 .add 16 17,Bi 19 .add 18 3,iv 20 (.i2i .u64 (.t 19)),iv 21 (.slit 1 1 [.int .u64 0] [(0,.t 20)]),ir 22 (.call zcN [.t 21]),iv 23 (.slit 1 1 [.nsl] [(0,.t 22)]),ic 24 (.app 1 false (.t 15) (.t 23)),Mv 3 24])) (.reg [Mv 13 4,Bi 14 .add 13 1,Mv 4 14]))
def zef:AC:=.seq (.seq (.reg [Mv 6 2,Bi 7 .lss 6 3]) (.cond (.t 7) (.skip) (.exit 0))) (.seq (.blk 1 (.seq (.reg [iv 10 (.slit 1 0 [.nsl] []),Mv 3 10]) (.seq (.seq (.reg [iv 4 (.mv (.k (.int .i64 0)))]) (.blk 2 (.loop zbS))) (.reg [Mv 25 1,Mv 26 3,iv 27 (.slit 1 1 [.nsl] [(0,.t 26)]),ic 28 (.app 1 false (.t 25) (.t 27)),Mv 1 28])))) (.reg [Mv 8 2,Bi 9 .add 8 1,Mv 2 9]))
def zgT:AC:=.seq (.reg [iv 0 (.mv (.k (.nsl)))]) (.seq (.reg [iv 5 (.slit 1 0 [.nsl] []),Mv 1 5]) (.seq (.seq (.reg [iv 2 (.mv (.k (.int .i64 0)))]) (.blk 0 (.loop zef))) (.seq (.reg [Mv 29 1,Mv 0 29]) (.ret))))
def zko:AFn:=⟨30,zgT,[.tmp 0]⟩
def zay:AC:=.seq (.seq (.reg [Mv 9 5,Bi 10 .geq 9 0]) (.cond (.t 10) (.skip) (.exit 2))) (.seq (.blk 3 (.seq (.reg [ir 14 (.ld 80 true (.t 1)),ir 15 (.call zgp [.t 14]),Mv 13 15,Ex 16 13 0,Ex 17 13 1,ic 6 (.alloc (zaS (.bool false) 80)),jc (.st 80 (.t 6) (.t 16)),Mv 7 17]) (.seq (.reg [ir 18 (.ld 80 true (.t 6)),jc (.st 80 (.t 1) (.t 18))]) (.seq (.reg [Mv 19 4,Mv 20 5,Bi 21 .quo 20 32,Mv 22 4,Mv 23 5,Bi 24 .quo 23 32,Ia 25 22 24,Ld 26 25,iv 27 (.bin .mul (.t 26) (.k (.int .u64 2))),Ia 28 19 21,Sx 28 27]) (.seq (.reg [Mv 29 7]) (.cond (.t 29) (.reg [Mv 30 4,Mv 31 5,Bi 32 .quo 31 32,Mv 33 4,Mv 34 5,Bi 35 .quo 34 32,Ia 36 33 35,Ld 37 36,iv 38 (.bin .add (.t 37) (.k (.int .u64 1))),Ia 39 30 32,Sx 39 38]) (.skip))))))) (.reg [Mv 11 5,Bi 12 .sub 11 1,Mv 5 12]))
def zdQ:AC:=.blk 1 (.seq (.reg [ic 8 (.mk 1 [.int .u64 0] (.k (.int .i64 8))),Mv 4 8]) (.seq (.seq (.reg [iv 5 (.mv (.k (.int .i64 253)))]) (.blk 2 (.loop zay))) (.seq (.reg [Mv 40 4,ir 41 (.call zb4 []),ir 42 (.call zdt [.t 40,.t 41]),Bi 43 .lss 42 0]) (.cond (.t 43) (.seq (.draw [Dr 44 (.ld 80 true (.t 1)) [1] 0 0,Dm 45 4,Dr 46 (.call zau [.t 45]) [45] 0 0,Dn (.st 80 (.t 2) (.t 44)) [2,44],Dm 3 46]) (.ret)) (.skip)))))
def zf1:AC:=.seq (.reg [ic 1 (.box (.t 0)),ic 2 (.alloc (zaS (.bool false) 80)),iv 3 (.mv (.k (.nsl)))]) (.blk 0 (.loop zdQ))
def zjF:AFn:=⟨47,zf1,[.cell 2 80 true,.tmp 3]⟩
def zeu:AC:=.seq (.reg [ic 1 (.box (.t 0)),ic 2 (.alloc [.nsl,.nsl,.nsl,.int .i64 0,.int .i64 0,.int .i64 0])]) (.seq (.reg [Fa 3 0 1,ir 4 (.ld 2 true (.t 3)),Fa 5 2 1,Ld 6 5,ir 7 (.call zd9 [.t 4,.t 6]),Fa 8 2 1,Sx 8 7]) (.seq (.reg [Fa 9 5 1,Ld 10 9,Bi 11 .add 10 1,Fa 12 5 1,Sx 12 11]) (.seq (.reg [ir 13 (.ld 6 true (.t 1)),jc (.st 6 (.t 2) (.t 13))]) (.ret))))
def zha:AFn:=⟨14,zeu,[.cell 2 6 true]⟩
def zbH:AC:=.seq (.draw [Dm 2 0,Dv 3 (.nck (.t 2)) [2],Dv 4 (.fadr 0 (.t 3)) [3],Dr 5 (.ld 1 false (.t 4)) [4] 0 0,Dm 6 0,Dv 7 (.nck (.t 6)) [6],Dv 8 (.fadr 1 (.t 7)) [7],Dr 9 (.ld 1 false (.t 8)) [8] 0 0,Dv 10 (.nck (.t 5)) [5],Dm 11 5,Dc 12 (.inv (.t 11) "Permute" [.t 9]) [11,9]]) (.seq (.reg [Mv 13 0,Nk 14 13,Fa 15 4 14,Ld 16 15,Bi 17 .add 16 1,Nk 18 13,Fa 19 4 18,Sx 19 17]) (.reg [Mv 20 0,Nk 21 20,Fa 22 2 21,jc (.st 1 (.t 22) (.k (.int .i64 0)))]))
def zdr:AFn:=⟨23,zbH,[]⟩
def zdG:AC:=.seq (.draw [Dm 2 0,Dv 3 (.nck (.t 2)) [2],Dv 4 (.fadr 0 (.t 3)) [3],Dr 5 (.ld 1 false (.t 4)) [4] 0 0,Dm 6 0,Dv 7 (.nck (.t 6)) [6],Dv 8 (.fadr 1 (.t 7)) [7],Dr 9 (.ld 1 false (.t 8)) [8] 0 0,Dv 10 (.nck (.t 5)) [5],Dm 11 5,Dc 12 (.inv (.t 11) "Permute" [.t 9]) [11,9]]) (.seq (.reg [Mv 13 0,Nk 14 13,Fa 15 4 14,Ld 16 15,Bi 17 .add 16 1,Nk 18 13,Fa 19 4 18,Sx 19 17]) (.reg [Mv 20 0,Nk 21 20,Fa 22 2 21,jc (.st 1 (.t 22) (.k (.int .i64 0)))]))
def zf2:AFn:=⟨23,zdG,[]⟩
def zck:AC:=.seq (.reg [Bt 13 .lss 12 11]) (.seq (.cond (.t 13) (.skip) (.exit 0)) (.seq (.blk 1 (.seq (.reg [Mv 14 12,iv 15 (.iadr none 4 (.t 10) (.t 12)),ir 16 (.ld 4 true (.t 15)),ic 7 (.alloc [.int .i64 0,.int .i64 0,.int .i64 0,.str ⟨#[]⟩]),Mv 6 14,jc (.st 4 (.t 7) (.t 16))]) (.seq (.seq (.reg [Mv 17 6,Bi 18 .eql 17 1024]) (.cond (.t 18) (.seq (.reg [Mv 19 6,iv 2 (.mv (.k (.nsl))),Mv 3 19,iv 4 (.mv (.k (.int .i64 9)))]) (.ret)) (.skip))) (.seq (.reg [ir 21 (.ld 4 true (.t 7)),ir 22 (.call zkE [.t 21]),Mv 20 22,Ex 23 20 0,Ex 24 20 1,Mv 8 23,Mv 9 24]) (.seq (.seq (.reg [Mv 25 9,Bi 26 .neq 25 0]) (.cond (.t 26) (.seq (.reg [Mv 27 6,Mv 28 9,iv 2 (.mv (.k (.nsl))),Mv 3 27,Mv 4 28]) (.ret)) (.skip))) (.reg [Mv 29 5,Mv 30 8,ic 31 (.app 1 false (.t 29) (.t 30)),Mv 5 31])))))) (.reg [Bi 32 .add 12 1,Mv 12 32])))
def zhw:AC:=.seq (.reg [iv 2 (.mv (.k (.nsl))),iv 3 (.mv (.k (.int .i64 0))),iv 4 (.mv (.k (.int .i64 0)))]) (.seq (.reg [iv 5 (.mv (.k (.nsl)))]) (.seq (.seq (.reg [Mv 10 0,iv 11 (.lenL (.t 10)),iv 12 (.mv (.k (.int .i64 0)))]) (.blk 0 (.loop zck))) (.seq (.reg [Mv 33 5,Mv 2 33,iv 3 (.mv (.k (.int .i64 (-1)))),iv 4 (.mv (.k (.int .i64 0)))]) (.ret))))
def zlj:AFn:=⟨34,zhw,[.tmp 2,.tmp 3,.tmp 4]⟩
def zgA:AC:=.seq (.reg [Bt 9 .lss 8 7]) (.seq (.cond (.t 9) (.skip) (.exit 0)) (.seq (.blk 1 (.seq (.reg [Ia 10 6 8,Ld 11 10,Mv 5 11]) (.reg [Mv 12 5,ic 13 (.call zfd [.t 3,.t 12])]))) (.reg [Bi 14 .add 8 1,Mv 8 14])))
def zqj:AC:=.seq (.reg [ic 2 (.alloc (zaS (.int .u8 0) 32))]) (.seq (.reg [ic 3 (.alloc [.int .u64 0,.int .u64 0,.int .u64 0,.int .u64 0,.int .u64 0,.int .u64 0,.int .u64 0,.int .u64 0,.int .u64 0,.int .u64 0,.int .u64 0,.int .u64 0,.int .u64 0,.int .u64 0,.int .u64 0,.int .u64 0,.int .u64 0,.int .u64 0,.int .u64 0,.int .u64 0,.int .u64 0,.int .u64 0,.int .u64 0,.int .u64 0,.int .u64 0,.int .i64 0])]) (.seq (.seq (.reg [Mv 6 0,iv 7 (.lenL (.t 6)),iv 8 (.mv (.k (.int .i64 0)))]) (.blk 0 (.loop zgA))) (.seq (.reg [ir 15 (.call zeP [.t 3]),jc (.st 32 (.t 2) (.t 15))]) (.ret))))
def zuQ:AFn:=⟨16,zqj,[.cell 2 32 true]⟩
def zkb:AC:=.seq (.reg [iv 4 (.mv (.k (.nilp))),iv 5 (.mv (.k (.int .i64 0)))]) (.seq (.seq (.reg [Mv 7 1,iv 8 (.lenL (.t 7)),Mv 9 0,ir 10 (.inv (.t 9) "Width" []),Mv 11 0,ir 12 (.inv (.t 11) "Rate" []),Bt 13 .sub 10 12,Bt 14 .gtr 8 13]) (.cond (.t 14) (.seq (.reg [iv 4 (.mv (.k (.nilp))),iv 5 (.mv (.k (.int .i64 1)))]) (.ret)) (.skip))) (.seq (.draw [Dm 15 0,Dm 16 0,Dr 17 (.inv (.t 16) "Width" []) [16] 0 0,Dc 18 (.mk 1 [.int .u8 0] (.t 17)) [17,17],Dm 19 0,Dr 20 (.inv (.t 19) "Rate" []) [19] 0 1,Dv 21 (.build [.nif,.nsl,.int .i64 0,.int .i64 0,.int .i64 0] [(0,1,.t 15),(1,1,.t 18),(3,1,.t 20)]) [15,18,20],Dc 22 (.box (.t 21)) [21],Dm 6 22]) (.seq (.draw [Dm 23 6,Dv 24 (.nck (.t 23)) [23],Dv 25 (.fadr 1 (.t 24)) [24],Dr 26 (.ld 1 false (.t 25)) [25] 0 0,Dm 27 0,Dr 28 (.inv (.t 27) "Rate" []) [27] 0 0,Dv 29 (.slice .slc 1 (.t 26) (some (.t 28)) none none) [26,28],Dm 30 1,Dc 31 (.copy 1 (.t 29) (.t 30)) [29,30]]) (.seq (.reg [Mv 32 6,Mv 4 32,iv 5 (.mv (.k (.int .i64 0)))]) (.ret)))))
def zoK:AFn:=⟨33,zkb,[.tmp 4,.tmp 5]⟩
def zev:AC:=.seq (.reg [iv 4 (.mv (.k (.nilp))),iv 5 (.mv (.k (.int .i64 0)))]) (.seq (.seq (.reg [Mv 7 1,iv 8 (.lenL (.t 7)),Mv 9 0,ir 10 (.inv (.t 9) "Width" []),Mv 11 0,ir 12 (.inv (.t 11) "Rate" []),Bt 13 .sub 10 12,Bt 14 .gtr 8 13]) (.cond (.t 14) (.seq (.reg [iv 4 (.mv (.k (.nilp))),iv 5 (.mv (.k (.int .i64 1)))]) (.ret)) (.skip))) (.seq (.draw [Dm 15 0,Dm 16 0,Dr 17 (.inv (.t 16) "Width" []) [16] 0 0,Dc 18 (.mk 4 (zaS (.int .u64 0) 4) (.t 17)) [17,17],Dm 19 0,Dr 20 (.inv (.t 19) "Rate" []) [19] 0 1,Dv 21 (.build [.nif,.nsl,.int .i64 0,.int .i64 0,.int .i64 0] [(0,1,.t 15),(1,1,.t 18),(3,1,.t 20)]) [15,18,20],Dc 22 (.box (.t 21)) [21],Dm 6 22]) (.seq (.draw [Dm 23 6,Dv 24 (.nck (.t 23)) [23],Dv 25 (.fadr 1 (.t 24)) [24],Dr 26 (.ld 1 false (.t 25)) [25] 0 0,Dm 27 0,Dr 28 (.inv (.t 27) "Rate" []) [27] 0 0,Dv 29 (.slice .slc 4 (.t 26) (some (.t 28)) none none) [26,28],Dm 30 1,Dc 31 (.copy 4 (.t 29) (.t 30)) [29,30]]) (.seq (.reg [Mv 32 6,Mv 4 32,iv 5 (.mv (.k (.int .i64 0)))]) (.ret)))))
def zhb:AFn:=⟨33,zev,[.tmp 4,.tmp 5]⟩
def zmu:AC:=.seq (.reg [iv 0 (.mv (.k (.nilp)))]) (.seq (.reg [iv 1 (.build [.int .u32 0,.int .i32 0,.int .u32 0,.int .u64 0,.int .u64 0,.int .u64 0,.int .u64 0,.int .u64 0,.int .u64 0,.int .u64 0,.int .u64 0,.int .u64 0,.int .u64 0,.int .u64 0,.int .u64 0,.int .u64 0,.int .u64 0,.int .u64 0,.int .u64 0,.int .u64 0,.int .u64 0,.int .u64 0,.int .u64 0,.int .u64 0,.int .u64 0,.int .u64 0,.int .u64 0,.int .u64 0,.int .u64 0,.int .u64 0,.int .u64 0,.int .u64 0,.int .u64 0,.int .u64 0,.int .u64 0,.int .u64 0,.int .u64 0,.int .u64 0,.int .u64 0,.int .u64 0,.int .u64 0,.int .u64 0,.int .u64 0,.int .u64 0,.int .u64 0,.int .u64 0,.int .u64 0,.int .u64 0,.int .u64 0,.int .u64 0,.int .u64 0,.int .u64 0,.int .u64 0,.int .u64 0,.int .u64 0,.int .u64 0,.int .u64 0,.int .u64 0,.int .u64 0,.int .u64 0,.int .u64 0,.int .u64 0,.int .u64 0,.int .u64 0,.int .u64 0,.int .u64 0,.int .u64 0,.int .u64 0,.int .u64 0,.int .u64 0,.int .u64 0,.int .u64 0,.int .u64 0,.int .u64 0,.int .u64 0,.int .u64 0,.int .u64 0,.int .u64 0,.int .u64 0,.int .u64 0,.int .u64 0,.int .u64 0,.int .u64 0,.int .u64 0,.int .u64 0,.int .u64 0,.int .u64 0,.int .u64 0,.int .u64 0,.int .u64 0,.int .u64 0,.int .u64 0,.int .u64 0,.int .u64 0,.int .u64 0,.int .u64 0,.int .u64 0,.int .u64 0,.int .u64 0,.int .u64 0,.int .u64 0,.int .u64 0,.int .u64 0,.int .u64 0,.int .u64 0,.int .u64 0,.int .u64 0,.int .u64 0,.int .u64 0,.int .u64 0,.int .u64 0,.int .u64 0,.int .u64 0,.int .u64 0,.int .u64 0,.int .u64 0,.int .u64 0,.int .u64 0,.int .u64 0,.int .u64 0,.int .u64 0,.int .u64 0,.int .u64 0,.int .u64 0,.int .u64 0,.int .u64 0,.int .u64 0,.int .u64 0,.int .u64 0,.int .u64 0,.int .u64 0,.int .u64 0,.int .u64 0,.int .u64 0,.int .u64 0,.int .u64 0,.int .u64 0,.int .u64 0,.int .u64 0,.int .u64 0,.int .u64 0,.int .u64 0,.int .u64 0,.int .u64 0,.int .u64 0,.int .u64 0,.int .u64 0,.int .u64 0,.int .u64 0,.int .u64 0,.int .u64 0,.int .u64 0,.int .u64 0,.int .u64 0,.int .u64 0,.int .u64 0,.int .u64 0,.int .u64 0,.int .u64 0,.int .u64 0,.int .u64 0,.int .u64 0,.int .u64 0,.int .u64 0,.int .u64 0,.int .u64 0,.int .u64 0,.int .u64 0,.int .u64 0,.int .u64 0,.int .u64 0,.int .u64 0,.int .u64 0,.int .u64 0,.int .u64 0,.int .u64 0,.int .u64 0,.int .u64 0,.int .u64 0,.int .u64 0,.int .u64 0,.int .u64 0,.int .u64 0,.int .u64 0,.int .u64 0,.int .u64 0,.int .u64 0,.int .u64 0,.int .u64 0,.int .u64 0,.int .u64 0,.int .u64 0,.int .u64 0,.int .u64 0,.int .u64 0,.int .u64 0,.int .u64 0,.int .u64 0,.int .u64 0,.int .u64 0,.int .u64 0,.int .u64 0,.int .u64 0,.int .u64 0,.int .u64 0,.int .u64 0,.int .u64 0,.int .u64 0,.int .u64 0,.int .u64 0,.int .u64 0,.int .u64 0,.int .u64 0,.int .u64 0,.int .u64 0,.int .u64 0,.int .u64 0,.int .u64 0,.int .u64 0,.int .u64 0,.int .u64 0,.int .u64 0,.int .u64 0,.int .u64 0,.int .u64 0,.int .u64 0,.int .u64 0,.int .u64 0,.int .u64 0,.int .u64 0,.int .u64 0,.int .u64 0,.int .u64 0,.int .u64 0,.int .u64 0,.int .u64 0,.int .u64 0,.int .u64 0,.int .u64 0,.int .u64 0,.int .u64 0,.int .u64 0,.int .u64 0,.int .u64 0,.int .u64 0,.int .u64 0,.int .u64 0,.int .u64 0,.int .u64 0,.int .u64 0,.int .u64 0,.int .u64 0,.int .u64 0,.int .u64 0,.int .u64 0,.int .u64 0,.int .u64 0,.int .u64 0,.int .u64 0,.int .u64 0,.int .u64 0,.int .u64 0,.int .u64 0,.int .u64 0,.int .u64 0,.int .u64 0,.int .u64 0,.int .u64 0,.int .u64 0,.int .u64 0,.int .u64 0,.int .u64 0,.int .u64 0,.int .u64 0,.int .u64 0,.int .u64 0,.int .u64 0,.int .u64 0,.int .u64 0,.int .u64 0,.int .u64 0,.int .u64 0,.int .u64 0,.int .u64 0,.int .u64 0,.int .u64 0,.int .u64 0,.int .u64 0,.int .u64 0,.int .u64 0,.int .u64 0,.int .u64 0,.int .u64 0,.int .u64 0,.int .u64 0,.int .u64 0,.int .u64 0,.int .u64 0,.int .u64 0,.int .u64 0,.int .u64 0,.int .u64 0,.int .u64 0,.int .u64 0,.int .u64 0,.int .u64 0,.int .u64 0,.int .u64 0,.int .u64 0,.int .u64 0,.int .u64 0,.int .u64 0,.int .u64 0,.int .u64 0,.int .u64 0,.int .u64 0,.int .u64 0,.int .u64 0,.int .u64 0,.int .u64 0,.int .u64 0,.int .u64 0,.int .u64 0,.int .u64 0,.int .u64 0,.int .u64 0,.int .u64 0,.int .u64 0,.int .u64 0,.int .u64 0,.int .u64 0,.int .u64 0,.int .u64 0,.int .u64 0,.int .u64 0,.int .u64 0,.int .u64 0,.int .u64 0,.int .u64 0,.int .u64 0,.int .u64 0,.int .u64 0,.int .u64 0,.int .u64 0,.int .u64 0,.int .u64 0,.int .u64 0,.int .u64 0,.int .u64 0,.int .u64 0,.int .u64 0,.int .u64 0,.int .u64 0,.int .u64 0,.int .u64 0,.int .u64 0,.int .u64 0,.int .u64 0,.int .u64 0,.int .u64 0,.int .u64 0,.int .u64 0,.int .u64 0,.int .u64 0,.int .u64 0,.int .u64 0,.int .u64 0,.int .u64 0,.int .u64 0,.int .u64 0,.int .u64 0,.int .u64 0,.int .u64 0,.int .u64 0,.int .u64 0,.int .u64 0,.int .u64 0,.int .u64 0,.int .u64 0,.int .u64 0,.int .u64 0,.int .u64 0,.int .u64 0,.int .u64 0,.int .u64 0,.int .u64 0,.int .u64 0,.int .u64 0,.int .u64 0,.int .u64 0,.int .u64 0,.int .u64 0,.int .u64 0,.int .u64 0,.int .u64 0,.int .u64 0,.int .u64 0,.int .u64 0,.int .u64 0,.int .u64 0,.int .u64 0,.int .u64 0,.int .u64 0,.int .u64 0,.int .u64 0,.int .u64 0,.int .u64 0,.int .u64 0,.int .u64 0,.int .u64 0,.int .u64 0,.int .u64 0,.int .u64 0,.int .u64 0,.int .u64 0,.int .u64 0,.int .u64 0,.int .u64 0,.int .u64 0,.int .u64 0,.int .u64 0,.int .u64 0,.int .u64 0,.int .u64 0,.int .u64 0,.int .u64 0,.int .u64 0,.int .u64 0,.int .u64 0,.int .u64 0,.int .u64 0,.int .u64 0,.int .u64 0,.int .u64 0,.int .u64 0,.int .u64 0,.int .u64 0,.int .u64 0,.int .u64 0,.int .u64 0,.int .u64 0,.int .u64 0,.int .u64 0,.int .u64 0,.int .u64 0,.int .u64 0,.int .u64 0,.int .u64 0,.int .u64 0,.int .u64 0,.int .u64 0,.int .u64 0,.int .u64 0,.int .u64 0,.int .u64 0,.int .u64 0,.int .u64 0,.int .u64 0,.int .u64 0,.int .u64 0,.int .u64 0,.int .u64 0,.int .u64 0,.int .u64 0,.int .u64 0,.int .u64 0,.int .u64 0,.int .u64 0,.int .u64 0,.int .u64 0,.int .u64 0,.int .u64 0,.int .u64 0,.int .u64 0,.int .u64 0,.int .u64 0,.int .u64 0,.int .u64 0,.int .u64 0,.int .u64 0,.int .u64 0,.int .u64 0,.int .u64 0,.int .u64 0,.int .u64 0,.int .u64 0,.int .u64 0,.int .u64 0,.int .u64 0,.int .u64 0,.int .u64 0,.int .u64 0,.int .u64 0,.int .u64 0,.int .u64 0,.int .u64 0,.int .u64 0,.int .u64 0,.int .u64 0,.int .u64 0,.int .u64 0,.int .u64 0,.int .u64 0,.int .u64 0,.int .u64 0,.int .u64 0,.int .u64 0,.int .u64 0,.int .u64 0,.int .u64 0,.int .u64 0,.int .u64 0,.int .u64 0,.int .u64 0,.int .u64 0,.int .u64 0,.int .u64 0,.int .u64 0,.int .u64 0,.int .u64 0,.int .u64 0,.int .u64 0,.int .u64 0,.int .u64 0,.int .u64 0,.int .u64 0,.int .u64 0,.int .u64 0,.int .u64 0,.int .u64 0,.int .u64 0,.int .u64 0,.int .u64 0,.int .u64 0,.int .u64 0,.int .u64 0,.int .u64 0,.int .u64 0,.int .u64 0,.int .u64 0,.int .u64 0,.int .u64 0,.int .u64 0,.int .u64 0,.int .u64 0,.int .u64 0,.int .u64 0,.int .u64 0,.int .u64 0,.int .u64 0,.int .u64 0,.int .u64 0,.int .u64 0,.int .u64 0,.int .u64 0,.int .u64 0,.int .u64 0,.int .u64 0,.int .u64 0,.int .u64 0,.int .u64 0,.int .u64 0,.int .u64 0,.int .u64 0,.int .u64 0,.int .u64 0,.int .u64 0,.int .u64 0,.int .u64 0,.int .u64 0,.int .u64 0,.int .u64 0,.int .u64 0,.int .u64 0,.int .u64 0,.int .u64 0,.int .u64 0,.int .u64 0,.int .u64 0,.int .u64 0,.int .u64 0,.int .u64 0,.int .u64 0,.int .u64 0,.int .u64 0,.int .u64 0,.int .u64 0,.int .u64 0,.int .u64 0,.int .u64 0,.int .u64 0,.int .u64 0,.int .u64 0,.int .u64 0,.int .u64 0,.int .u64 0,.int .u64 0,.int .u64 0,.int .u64 0,.int .u64 0,.int .u64 0,.int .u64 0,.int .u64 0,.int .u64 0,.int .u64 0,.int .u64 0,.int .u64 0,.int .u64 0,.int .u64 0,.int .u64 0,.int .u64 0,.int .u64 0,.int .u64 0,.int .u64 0,.int .u64 0,.int .u64 0,.int .u64 0,.int .u64 0,.int .u64 0,.int .u64 0,.int .u64 0,.int .u64 0,.int .u64 0,.int .u64 0,.int .u64 0,.int .u64 0,.int .u64 0,.int .u64 0,.int .u64 0,.int .u64 0,.int .u64 0,.int .u64 0,.int .u64 0,.int .u64 0,.int .u64 0,.int .u64 0,.int .u64 0,.int .u64 0,.int .u64 0,.int .u64 0,.int .u64 0,.int .u64 0,.int .u64 0,.int .u64 0,.int .u64 0,.int .u64 0,.int .u64 0,.int .u64 0,.int .u64 0,.int .u64 0,.int .u64 0,.int .u64 0,.int .u64 0,.int .u64 0,.int .u64 0,.int .u64 0,.int .u64 0,.int .u64 0,.int .u64 0,.int .u64 0,.int .u64 0,.int .u64 0,.int .u64 0,.int .u64 0,.int .u64 0,.int .u64 0,.int .u64 0,.int .u64 0,.int .u64 0,.int .u64 0,.int .u64 0,.int .u64 0,.int .u64 0,.int .u64 0,.int .u64 0,.int .u64 0,.int .u64 0,.int .u64 0,.int .u64 0,.int .u64 0,.int .u64 0,.int .u64 0,.int .u64 0,.int .u64 0,.int .u64 0,.int .u64 0,.int .u64 0,.int .u64 0,.int .u64 0,.int .u64 0,.int .u64 0,.int .u64 0,.int .u64 0,.int .u64 0,.int .u64 0,.int .u64 0,.int .u64 0,.int .u64 0,.int .u64 0,.int .u64 0,.int .u64 0,.int .u64 0,.int .u64 0,.int .u64 0,.int .u64 0,.int .u64 0,.int .u64 0,.int .u64 0,.int .u64 0,.int .u64 0,.int .u64 0,.int .u64 0,.int .u64 0,.int .u64 0,.int .u64 0,.int .u64 0,.int .u64 0,.int .u64 0,.int .u64 0,.int .u64 0,.int .u64 0,.int .u64 0,.int .u64 0,.int .u64 0,.int .u64 0,.int .u64 0,.int .u64 0,.int .u64 0,.int .u64 0,.int .u64 0,.int .u64 0,.int .u64 0,.int .u64 0,.int .u64 0,.int .u64 0,.int .u64 0,.int .u64 0,.int .u64 0,.int .u64 0,.int .u64 0,.int .u64 0,.int .u64 0,.int .u64 0,.int .u64 0,.int .u64 0,.int .u64 0,.int .u64 0,.int .u64 0,.int .u64 0,.int .u64 0,.int .u64 0,.int .u64 0,.int .u64 0,.int .u64 0,.int .u64 0,.int .u64 0,.int .u64 0,.int .u64 0,.int .u64 0,.int .u64 0,.int .u64 0,.int .u64 0,.int .u64 0,.int .u64 0,.int .u64 0,.int .u64 0,.int .u64 0,.int .u64 0,.int .u64 0,.int .u64 0,.int .u64 0,.int .u64 0,.int .u64 0,.int .u64 0,.int .u64 0,.int .u64 0,.int .u64 0,.int .u64 0,.int .u64 0,.int .u64 0,.int .u64 0,.int .u64 0,.int .u64 0,.int .u64 0,.int .u64 0,.int .u64 0,.int .u64 0,.int .u64 0,.int .u64 0,.int .u64 0,.int .u64 0,.int .u64 0,.int .u64 0,.int .u64 0,.int .u64 0,.int .u64 0,.int .u64 0,.int .u64 0,.int .u64 0,.int .u64 0,.int .u64 0,.int .u64 0,.int .u64 0,.int .u64 0,.int .u64 0,.int .u64 0,.int .u64 0,.int .u64 0,.int .u64 0,.int .u64 0,.int .u64 0,.int .u64 0,.int .u64 0,.int .u64 0,.int .u64 0,.int .u64 0,.int .u64 0,.int .u64 0,.int .u64 0] []),ic 2 (.box (.t 1)),Mv 0 2]) (.ret))
def zrK:AFn:=⟨3,zmu,[.tmp 0]⟩
def zf3:AC:=.seq (.reg [iv 1 (.boxv (.t 0)),ic 2 (.alloc (zaS (.int .u64 0) 4))]) (.seq (.reg [Fa 3 0 1,ir 4 (.ld 4 true (.t 3)),iv 5 (.build (zaS (.int .u64 0) 4) [(0,1,.k (.int .u64 1))]),ir 6 (.call zeQ [.t 4,.t 5]),jc (.st 4 (.t 2) (.t 6))]) (.ret))
def zjI:AFn:=⟨7,zf3,[.cell 2 4 true]⟩
def zgB:AC:=.seq (.reg [Bi 13 .lss 12 8]) (.seq (.cond (.t 13) (.skip) (.exit 2)) (.seq (.blk 3 (.seq (.reg [Mv 14 3,Mv 15 5,iv 16 (.i2i .u8 (.t 15)),iv 17 (.slit 1 1 [.int .u8 0] [(0,.t 16)]),ic 18 (.app 1 false (.t 14) (.t 17)),Mv 3 18]) (.reg [Mv 19 5,iv 20 (.bin .shr (.t 19) (.k (.int .u64 8))),Mv 5 20]))) (.reg [Bi 21 .add 12 1,Mv 12 21])))
def zkG:AC:=.seq (.reg [Bt 9 .lss 8 7]) (.seq (.cond (.t 9) (.skip) (.exit 0)) (.seq (.blk 1 (.seq (.reg [Ia 10 6 8,Ld 11 10,Mv 5 11]) (.seq (.reg [iv 12 (.mv (.k (.int .i64 0)))]) (.blk 2 (.loop zgB))))) (.reg [Bi 22 .add 8 1,Mv 8 22])))
def zqk:AC:=.seq (.reg [iv 2 (.mv (.k (.nsl)))]) (.seq (.reg [iv 3 (.mv (.k (.nsl)))]) (.seq (.seq (.reg [Mv 6 0,iv 7 (.lenL (.t 6)),iv 8 (.mv (.k (.int .i64 0)))]) (.blk 0 (.loop zkG))) (.seq (.reg [Mv 23 3,Mv 2 23]) (.ret))))
def zuR:AFn:=⟨24,zqk,[.tmp 2]⟩
def zcl:AC:=.seq (.seq (.reg [Mv 18 6,Bi 19 .lss 18 8]) (.cond (.t 19) (.skip) (.exit 2))) (.seq (.blk 3 (.seq (.reg [Mv 22 3,Mv 23 5,iv 24 (.bin .rem (.t 23) (.k (.int .u64 256))),iv 25 (.i2i .u8 (.t 24)),iv 26 (.slit 1 1 [.int .u8 0] [(0,.t 25)]),ic 27 (.app 1 false (.t 22) (.t 26)),Mv 3 27]) (.reg [Mv 28 5,iv 29 (.bin .quo (.t 28) (.k (.int .u64 256))),Mv 5 29]))) (.reg [Mv 20 6,Bi 21 .add 20 1,Mv 6 21]))
def zeE:AC:=.seq (.seq (.reg [Mv 8 4,Mv 9 0,iv 10 (.lenL (.t 9)),Bt 11 .lss 8 10]) (.cond (.t 11) (.skip) (.exit 0))) (.seq (.blk 1 (.seq (.reg [Mv 14 0,Mv 15 4,Ia 16 14 15,Ld 17 16,Mv 5 17]) (.seq (.reg [iv 6 (.mv (.k (.int .i64 0)))]) (.blk 2 (.loop zcl))))) (.reg [Mv 12 4,Bi 13 .add 12 1,Mv 4 13]))
def zhx:AC:=.seq (.reg [iv 2 (.mv (.k (.nsl)))]) (.seq (.reg [iv 7 (.slit 1 0 [.int .u8 0] []),Mv 3 7]) (.seq (.seq (.reg [iv 4 (.mv (.k (.int .i64 0)))]) (.blk 0 (.loop zeE))) (.seq (.reg [Mv 30 3,Mv 2 30]) (.ret))))
def zlk:AFn:=⟨31,zhx,[.tmp 2]⟩
def zcm:AC:=.seq (.seq (.reg [Mv 9 6,Mv 10 1,Bt 11 .lss 9 10]) (.cond (.t 11) (.skip) (.exit 0))) (.seq (.blk 1 (.reg [Mv 14 5,Mv 15 0,Mv 16 6,iv 17 (.bin .mul (.k (.int .i64 2)) (.t 16)),ir 18 (.call zaF [.t 15,.t 17]),Mv 19 0,Mv 20 6,iv 21 (.bin .mul (.k (.int .i64 2)) (.t 20)),Bi 22 .add 21 1,ir 23 (.call zaF [.t 19,.t 22]),iv 24 (.bin .mul (.t 23) (.k (.int .u64 4294967296))),Bt 25 .add 18 24,iv 26 (.slit 1 1 [.int .u64 0] [(0,.t 25)]),ic 27 (.app 1 false (.t 14) (.t 26)),Mv 5 27])) (.reg [Mv 12 6,Bi 13 .add 12 1,Mv 6 13]))
def zhy:AC:=.seq (.reg [iv 4 (.mv (.k (.nsl)))]) (.seq (.reg [Mv 7 1,ic 8 (.mkc 1 [.int .u64 0] (.k (.int .i64 0)) (.t 7)),Mv 5 8]) (.seq (.seq (.reg [iv 6 (.mv (.k (.int .i64 0)))]) (.blk 0 (.loop zcm))) (.seq (.reg [Mv 28 5,Mv 4 28]) (.ret))))
def zll:AFn:=⟨29,zhy,[.tmp 4]⟩
def zbx:AC:=.seq (.seq (.reg [Mv 13 6,Bi 14 .lss 13 9]) (.cond (.t 14) (.skip) (.exit 0))) (.seq (.blk 1 (.reg [Mv 17 6,Mv 18 1,Mv 19 6,ir 20 (.call zfe [.t 18,.t 19]),iv 21 (.iadr (some 9) 1 (.t 5) (.t 17)),Sx 21 20])) (.reg [Mv 15 6,Bi 16 .add 15 1,Mv 6 16]))
def zby:AC:=.seq (.seq (.reg [Mv 36 10,Mv 37 8,Bi 38 .rem 37 4,Bt 39 .lss 36 38]) (.cond (.t 39) (.skip) (.exit 4))) (.seq (.blk 5 (.reg [Mv 42 9,iv 43 (.bin .quo (.t 42) (.k (.int .u64 256))),Mv 9 43])) (.reg [Mv 40 10,Bi 41 .add 40 1,Mv 10 41]))
def zb9:AC:=.seq (.seq (.reg [Mv 52 11,Bi 53 .geq 52 0]) (.cond (.t 53) (.skip) (.exit 6))) (.seq (.blk 7 (.seq (.reg [Mv 56 7,Mv 57 11,iv 58 (.iadr (some 9) 1 (.t 5) (.t 57)),Ld 59 58,ir 60 (.call zdt [.t 56,.t 59]),Bi 61 .geq 60 0]) (.cond (.t 61) (.reg [Mv 62 7,Mv 63 11,iv 64 (.iadr (some 9) 1 (.t 5) (.t 63)),Ld 65 64,ir 66 (.call zdu [.t 62,.t 65]),Mv 7 66]) (.skip)))) (.reg [Mv 54 11,Bi 55 .sub 54 1,Mv 11 55]))
def zeh:AC:=.seq (.seq (.reg [Mv 27 8,Bi 28 .geq 27 0]) (.cond (.t 28) (.skip) (.exit 2))) (.seq (.blk 3 (.seq (.reg [Mv 31 0,Mv 32 8,Bi 33 .quo 32 4,Ia 34 31 33,Ld 35 34,Mv 9 35]) (.seq (.seq (.reg [iv 10 (.mv (.k (.int .i64 0)))]) (.blk 4 (.loop zby))) (.seq (.reg [Mv 44 7,iv 45 (.slit 1 1 [.int .u64 0] [(0,.k (.int .u64 256))]),ir 46 (.call zeS [.t 44,.t 45]),Mv 47 9,iv 48 (.bin .rem (.t 47) (.k (.int .u64 256))),iv 49 (.slit 1 1 [.int .u64 0] [(0,.t 48)]),ir 50 (.call zau [.t 49]),ir 51 (.call zeR [.t 46,.t 50]),Mv 7 51]) (.seq (.reg [iv 11 (.mv (.k (.int .i64 8)))]) (.blk 6 (.loop zb9))))))) (.reg [Mv 29 8,Bi 30 .sub 29 1,Mv 8 30]))
def zi9:AC:=.seq (.reg [iv 4 (.mv (.k (.nsl)))]) (.seq (.reg [iv 12 (.build (zaS (.nsl) 9) []),ic 5 (.alloc (zaS (.nsl) 9)),jc (.st 9 (.t 5) (.t 12))]) (.seq (.seq (.reg [iv 6 (.mv (.k (.int .i64 0)))]) (.blk 0 (.loop zbx))) (.seq (.reg [iv 22 (.slit 1 0 [.int .u64 0] []),Mv 7 22]) (.seq (.seq (.reg [Mv 23 0,iv 24 (.lenL (.t 23)),Bi 25 .mul 24 4,Bi 26 .sub 25 1,Mv 8 26]) (.blk 2 (.loop zeh))) (.seq (.reg [Mv 67 7,Mv 4 67]) (.ret))))))
def znp:AFn:=⟨68,zi9,[.tmp 4]⟩
def zln:AC:=.seq (.reg [iv 0 (.mv (.k (.nsl)))]) (.seq (.reg [iv 1 (.slit 1 8 [.int .u64 0] [(0,.k (.int .u64 4026531841)),(1,.k (.int .u64 1138881939)),(2,.k (.int .u64 2042196113)),(3,.k (.int .u64 674490440)),(4,.k (.int .u64 2172737629)),(5,.k (.int .u64 3092268470)),(6,.k (.int .u64 3778125865)),(7,.k (.int .u64 811880050))]),Mv 0 1]) (.ret))
def zqn:AFn:=⟨2,zln,[.tmp 0]⟩
def zbO:AC:=.seq (.seq (.reg [Mv 6 3,Bi 7 .gtr 6 0,Mv 8 7,Gv 9 (.mv (.t 0)) 8 true [],Gv 10 (.mv (.t 3)) 8 true [],Gv 11 (.bin .sub (.t 10) (.k (.int .i64 1))) 8 true [],Gv 12 (.iadr none 1 (.t 9) (.t 11)) 8 true [],Gr 13 (.ld 1 false (.t 12)) 8 true [] 0 0,Gv 14 (.bin .eql (.t 13) (.k (.int .u64 0))) 8 true [],iv 15 (.pick (.t 8) (.t 14) (.k (.bool false)))]) (.cond (.t 15) (.skip) (.exit 0))) (.blk 1 (.reg [Mv 16 3,Bi 17 .sub 16 1,Mv 3 17]))
def zip:AC:=.seq (.reg [iv 2 (.mv (.k (.nsl)))]) (.seq (.reg [Mv 4 0,iv 5 (.lenL (.t 4)),Mv 3 5]) (.seq (.blk 0 (.loop zbO)) (.seq (.reg [Mv 18 0,Mv 19 3,iv 20 (.slice .slc 1 (.t 18) none (some (.t 19)) none),Mv 2 20]) (.ret))))
def zl4:AFn:=⟨21,zip,[.tmp 2]⟩
def zoo:AC:=.seq (.reg [ic 0 (.alloc (zaS (.int .u64 0) 4))]) (.seq (.reg [iv 1 (.build (zaS (.int .u64 0) 4) [(0,1,.k (.int .u64 4891460686036598785)),(1,1,.k (.int .u64 2896914383306846353)),(2,1,.k (.int .u64 13281191951274694749)),(3,1,.k (.int .u64 3486998266802970665))]),jc (.st 4 (.t 0) (.t 1))]) (.ret))
def ztG:AFn:=⟨2,zoo,[.cell 0 4 true]⟩
def zfp:AC:=.seq (.reg [Bi 46 .lss 45 6]) (.seq (.cond (.t 46) (.skip) (.exit 0)) (.seq (.blk 1 (.reg [Mv 47 5,Mv 48 0,iv 49 (.iadr none 1 (.t 48) (.k (.int .i64 0))),Ld 50 49,Mv 51 5,Bt 52 .mul 50 51,iv 53 (.bin .sub (.k (.int .u64 2)) (.t 52)),Bt 54 .mul 47 53,Mv 5 54])) (.reg [Bi 55 .add 45 1,Mv 45 55])))
def zja:AC:=.seq (.reg [Bt 76 .lss 75 74]) (.seq (.cond (.t 76) (.skip) (.exit 2)) (.seq (.blk 3 (.reg [Mv 77 4,Mv 78 4,Mv 79 4,Nk 80 79,Fa 81 2 80,Ld 82 81,ir 83 (.call zdd [.t 78,.t 82,.k (.int .u64 0)]),Nk 84 77,Fa 85 2 84,Sx 85 83])) (.reg [Bi 86 .add 75 1,Mv 75 86])))
def zuu:AC:=.seq (.reg [iv 2 (.mv (.k (.nilp))),iv 3 (.mv (.k (.int .i64 0)))]) (.seq (.seq (.reg [Mv 6 0,iv 7 (.lenL (.t 6)),Bi 8 .lss 7 1,Mv 9 8,Gv 10 (.mv (.t 0)) 9 false [],Gv 11 (.lenL (.t 10)) 9 false [],Gv 12 (.bin .gtr (.t 11) (.k (.int .i64 16))) 9 false [],iv 13 (.pick (.t 9) (.k (.bool true)) (.t 12)),Mv 14 13,Gv 15 (.mv (.t 0)) 14 false [],Gv 16 (.iadr none 1 (.t 15) (.k (.int .i64 0))) 14 false [],Gr 17 (.ld 1 false (.t 16)) 14 false [] 0 0,Gv 18 (.bin .and (.t 17) (.k (.int .u64 1))) 14 false [],Gv 19 (.bin .eql (.t 18) (.k (.int .u64 0))) 14 false [],iv 20 (.pick (.t 14) (.k (.bool true)) (.t 19)),Mv 21 20,Gv 22 (.mv (.t 0)) 21 false [],Gv 23 (.mv (.t 0)) 21 false [],Gv 24 (.lenL (.t 23)) 21 false [],Gv 25 (.bin .sub (.t 24) (.k (.int .i64 1))) 21 false [],Gv 26 (.iadr none 1 (.t 22) (.t 25)) 21 false [],Gr 27 (.ld 1 false (.t 26)) 21 false [] 0 0,Gv 28 (.bin .eql (.t 27) (.k (.int .u64 0))) 21 false [],iv 29 (.pick (.t 21) (.k (.bool true)) (.t 28)),Mv 30 29,Gv 31 (.mv (.t 0)) 30 false [],Gv 32 (.lenL (.t 31)) 30 false [],Gv 33 (.bin .eql (.t 32) (.k (.int .i64 1))) 30 false [],Gv 34 (.mv (.t 33)) 30 false [],Gv 35 (.mv (.t 0)) 34 true [],Gv 36 (.iadr none 1 (.t 35) (.k (.int .i64 0))) 34 true [],Gr 37 (.ld 1 false (.t 36)) 34 true [] 0 0,Gv 38 (.bin .eql (.t 37) (.k (.int .u64 1))) 34 true [],Gv 39 (.pick (.t 34) (.t 38) (.k (.bool false))) 30 false [],iv 40 (.pick (.t 30) (.k (.bool true)) (.t 39))]) (.cond (.t 40) (.seq (.reg [iv 2 (.mv (.k (.nilp))),iv 3 (.mv (.k (.int .i64 1)))]) (.ret)) (.skip))) (.seq (.reg [Mv 41 0,ir 42 (.call zb7 [.t 41]),iv 43 (.build [.nsl,.int .u64 0,.nsl] [(0,1,.t 42)]),ic 44 (.box (.t 43)),Mv 4 44]) (.seq (.reg [iv 5 (.mv (.k (.int .u64 1)))]) (.seq (.seq (.reg [iv 45 (.mv (.k (.int .i64 0)))]) (.blk 0 (.loop zfp))) (.seq (.reg [Mv 56 4,Mv 57 5,iv 58 (.un .neg (.t 57)),Nk 59 56,Fa 60 1 59,Sx 60 58]) (.seq (.reg [Mv 61 4,Mv 62 0,iv 63 (.lenL (.t 62)),ic 64 (.mk 1 [.int .u64 0] (.t 63)),Nk 65 61,Fa 66 2 65,Sx 66 64]) (.seq (.reg [Mv 67 4,Nk 68 67,Fa 69 2 68,Ld 70 69,iv 71 (.iadr none 1 (.t 70) (.k (.int .i64 0))),jc (.st 1 (.t 71) (.k (.int .u64 1)))]) (.seq (.seq (.reg [Mv 72 0,iv 73 (.lenL (.t 72)),iv 74 (.bin .mul (.k (.int .i64 128)) (.t 73)),iv 75 (.mv (.k (.int .i64 0)))]) (.blk 2 (.loop zja))) (.seq (.reg [Mv 87 4,Mv 2 87,iv 3 (.mv (.k (.int .i64 0)))]) (.ret))))))))))
def zyA:AFn:=⟨88,zuu,[.tmp 2,.tmp 3]⟩
def zfy:AC:=.seq (.reg [Bi 6 .lss 5 512]) (.seq (.cond (.t 6) (.skip) (.exit 0)) (.seq (.blk 1 (.reg [ir 7 (.ld 4 true (.t 3)),ir 8 (.ld 4 true (.t 3)),ir 9 (.call zjD [.t 7,.t 8]),ir 10 (.call zgq [.t 9]),jc (.st 4 (.t 3) (.t 10))])) (.reg [Bi 11 .add 5 1,Mv 5 11])))
def zop:AC:=.seq (.reg [iv 1 (.boxv (.t 0)),ic 2 (.alloc (zaS (.int .u64 0) 4))]) (.seq (.reg [iv 4 (.build (zaS (.int .u64 0) 4) [(0,1,.k (.int .u64 1))]),ic 3 (.alloc (zaS (.int .u64 0) 4)),jc (.st 4 (.t 3) (.t 4))]) (.seq (.seq (.reg [iv 5 (.mv (.k (.int .i64 0)))]) (.blk 0 (.loop zfy))) (.seq (.reg [ir 12 (.ld 4 true (.t 1)),ir 13 (.ld 4 true (.t 3)),ir 14 (.call zeQ [.t 12,.t 13]),iv 15 (.build (zaS (.int .u64 0) 4) [(0,4,.t 14)]),jc (.st 4 (.t 2) (.t 15))]) (.ret))))
def ztH:AFn:=⟨16,zop,[.cell 2 4 true]⟩
def zdT:AC:=.seq (.seq (.reg [Mv 16 6,Bi 17 .geq 16 0]) (.cond (.t 17) (.skip) (.exit 0))) (.seq (.blk 1 (.reg [Mv 20 0,Mv 21 5,Mv 22 1,Mv 23 6,Bi 24 .quo 23 64,Ia 25 22 24,Ld 26 25,Mv 27 6,Bi 28 .rem 27 64,Bt 29 .shr 26 28,iv 30 (.bin .and (.t 29) (.k (.int .u64 1))),ir 31 (.call zdd [.t 20,.t 21,.t 30]),Mv 5 31])) (.reg [Mv 18 6,Bi 19 .sub 18 1,Mv 6 19]))
def zf5:AC:=.seq (.reg [iv 4 (.mv (.k (.nsl)))]) (.seq (.reg [Mv 7 0,Nk 8 7,Fa 9 0 8,Ld 10 9,iv 11 (.lenL (.t 10)),ic 12 (.mk 1 [.int .u64 0] (.t 11)),Mv 5 12]) (.seq (.seq (.reg [Mv 13 1,ir 14 (.call zla [.t 13]),Bi 15 .sub 14 1,Mv 6 15]) (.blk 0 (.loop zdT))) (.seq (.reg [Mv 32 5,Mv 4 32]) (.ret))))
def zjK:AFn:=⟨33,zf5,[.tmp 4]⟩
def zgG:AC:=.seq (.reg [Bt 14 .lss 13 12]) (.seq (.cond (.t 14) (.skip) (.exit 0)) (.seq (.blk 1 (.seq (.reg [Mv 15 13,Ia 16 11 13,Ld 17 16,Mv 4 15,Mv 5 17]) (.draw [Dm 18 3,Dm 19 4,Dv 20 (.bin .quo (.t 19) (.k (.int .i64 8))) [19],Dv 21 (.iadr none 1 (.t 18) (.t 20)) [18,20],Dr 22 (.ld 1 false (.t 21)) [21] 0 0,Dm 23 5,Dv 24 (.i2i .u64 (.t 23)) [23],Dm 25 4,Dv 26 (.bin .rem (.t 25) (.k (.int .i64 8))) [25],Dv 27 (.bin .mul (.k (.int .i64 8)) (.t 26)) [26],Dv 28 (.bin .shl (.t 24) (.t 27)) [24,27],Dv 29 (.bin .or (.t 22) (.t 28)) [22,28],Dv 30 (.iadr none 1 (.t 18) (.t 20)) [18,20],Dn (.st 1 (.t 30) (.t 29)) [30,29]]))) (.reg [Bi 31 .add 13 1,Mv 13 31])))
def zqo:AC:=.seq (.reg [iv 2 (.mv (.k (.nsl)))]) (.seq (.reg [Mv 6 0,iv 7 (.lenL (.t 6)),Bi 8 .add 7 7,Bi 9 .quo 8 8,ic 10 (.mk 1 [.int .u64 0] (.t 9)),Mv 3 10]) (.seq (.seq (.reg [Mv 11 0,iv 12 (.lenL (.t 11)),iv 13 (.mv (.k (.int .i64 0)))]) (.blk 0 (.loop zgG))) (.seq (.reg [Mv 32 3,Mv 2 32]) (.ret))))
def zuS:AFn:=⟨33,zqo,[.tmp 2]⟩
def zcn:AC:=.seq (.seq (.reg [Mv 15 6,Bi 16 .lss 15 8]) (.cond (.t 16) (.skip) (.exit 2))) (.seq (.blk 3 (.seq (.reg [Mv 19 3,Mv 20 5,iv 21 (.bin .rem (.t 20) (.k (.int .u64 256))),iv 22 (.i2i .u8 (.t 21)),iv 23 (.slit 1 1 [.int .u8 0] [(0,.t 22)]),ic 24 (.app 1 true (.t 19) (.t 23)),Mv 3 24]) (.reg [Mv 25 5,iv 26 (.bin .quo (.t 25) (.k (.int .u64 256))),Mv 5 26]))) (.reg [Mv 17 6,Bi 18 .add 17 1,Mv 6 18]))
def zeG:AC:=.seq (.seq (.reg [Mv 8 4,Bi 9 .lss 8 25]) (.cond (.t 9) (.skip) (.exit 0))) (.seq (.blk 1 (.seq (.reg [Mv 12 4,iv 13 (.iadr (some 25) 1 (.t 1) (.t 12)),Ld 14 13,Mv 5 14]) (.seq (.reg [iv 6 (.mv (.k (.int .i64 0)))]) (.blk 2 (.loop zcn))))) (.reg [Mv 10 4,Bi 11 .add 10 1,Mv 4 11]))
def zhz:AC:=.seq (.reg [iv 1 (.boxv (.t 0)),iv 2 (.mv (.k (.nsl)))]) (.seq (.reg [iv 7 (.slit 1 0 [.int .u8 0] []),Mv 3 7]) (.seq (.seq (.reg [iv 4 (.mv (.k (.int .i64 0)))]) (.blk 0 (.loop zeG))) (.seq (.reg [Mv 27 3,Mv 2 27]) (.ret))))
def zlo:AFn:=⟨28,zhz,[.tmp 2]⟩
def zbC:AC:=.seq (.seq (.reg [Mv 7 4,Bi 8 .lss 7 24]) (.cond (.t 8) (.skip) (.exit 0))) (.seq (.blk 1 (.reg [ir 11 (.ld 1600 true (.t 3)),Mv 12 4,ir 13 (.call zff [.t 11,.t 12]),jc (.st 1600 (.t 3) (.t 13))])) (.reg [Mv 9 4,Bi 10 .add 9 1,Mv 4 10]))
def zf6:AC:=.seq (.reg [iv 1 (.boxv (.t 0)),ic 2 (.alloc (zaS (.int .u64 0) 25))]) (.seq (.reg [ir 5 (.ld 25 true (.t 1)),ir 6 (.call zea [.t 5]),ic 3 (.alloc (zaS (.bool false) 1600)),jc (.st 1600 (.t 3) (.t 6))]) (.seq (.seq (.reg [iv 4 (.mv (.k (.int .i64 0)))]) (.blk 0 (.loop zbC))) (.seq (.reg [ir 14 (.ld 1600 true (.t 3)),ir 15 (.call zfg [.t 14]),jc (.st 25 (.t 2) (.t 15))]) (.ret))))
def zjN:AFn:=⟨16,zf6,[.cell 2 25 true]⟩
def zbD:AC:=.seq (.seq (.reg [Mv 9 4,Bi 10 .geq 9 0]) (.cond (.t 10) (.skip) (.exit 0))) (.seq (.blk 1 (.draw [Dm 13 4,Dv 14 (.bin .quo (.t 13) (.k (.int .i64 8))) [13],Dm 15 4,Dv 16 (.bin .quo (.t 15) (.k (.int .i64 8))) [15],Dv 17 (.iadr (some 25) 1 (.t 3) (.t 16)) [3,16],Dr 18 (.ld 1 false (.t 17)) [17] 0 0,Dv 19 (.bin .mul (.t 18) (.k (.int .u64 256))) [18],Dm 20 0,Dm 21 4,Dv 22 (.iadr none 1 (.t 20) (.t 21)) [20,21],Dr 23 (.ld 1 false (.t 22)) [22] 0 0,Dv 24 (.i2i .u64 (.t 23)) [23],Dv 25 (.bin .add (.t 19) (.t 24)) [19,24],Dv 26 (.iadr (some 25) 1 (.t 3) (.t 14)) [3,14],Dn (.st 1 (.t 26) (.t 25)) [26,25]])) (.reg [Mv 11 4,Bi 12 .sub 11 1,Mv 4 12]))
def zgf:AC:=.seq (.reg [ic 2 (.alloc (zaS (.int .u64 0) 25))]) (.seq (.reg [iv 5 (.build (zaS (.int .u64 0) 25) []),ic 3 (.alloc (zaS (.int .u64 0) 25)),jc (.st 25 (.t 3) (.t 5))]) (.seq (.seq (.reg [Mv 6 0,iv 7 (.lenL (.t 6)),Bi 8 .sub 7 1,Mv 4 8]) (.blk 0 (.loop zbD))) (.seq (.reg [ir 27 (.ld 25 true (.t 3)),jc (.st 25 (.t 2) (.t 27))]) (.ret))))
def zjS:AFn:=⟨28,zgf,[.cell 2 25 true]⟩
def zkg:AC:=.seq (.reg [iv 6 (.mv (.k (.bool false)))]) (.seq (.reg [Mv 7 0,Mv 8 1,Bt 9 .geq 7 8,Mv 10 9,Gv 11 (.mv (.t 0)) 10 true [],Gv 12 (.mv (.t 2)) 10 true [],Gv 13 (.bin .leq (.t 11) (.t 12)) 10 true [],iv 14 (.pick (.t 10) (.t 13) (.k (.bool false))),Mv 6 14]) (.ret))
def zoP:AFn:=⟨15,zkg,[.tmp 6]⟩
def zc3:AC:=.seq (.seq (.reg [Mv 17 9,Mv 18 7,Bt 19 .lss 17 18]) (.cond (.t 19) (.skip) (.exit 2))) (.seq (.blk 3 (.reg [Mv 22 8,Bi 23 .quo 22 2,Mv 8 23])) (.reg [Mv 20 9,Bi 21 .add 20 1,Mv 9 21]))
def zfN:AC:=.seq (.seq (.reg [Mv 12 7,Bi 13 .geq 12 0]) (.cond (.t 13) (.skip) (.exit 0))) (.seq (.blk 1 (.seq (.reg [Mv 16 1,Mv 8 16]) (.seq (.seq (.reg [iv 9 (.mv (.k (.int .i64 0)))]) (.blk 2 (.loop zc3))) (.reg [Mv 24 0,Mv 25 8,Bi 26 .rem 25 2,Bi 27 .eql 26 1,iv 28 (.slit 1 1 [.bool false] [(0,.t 27)]),ic 29 (.app 1 false (.t 24) (.t 28)),Mv 0 29])))) (.reg [Mv 14 7,Bi 15 .sub 14 1,Mv 7 15]))
def zgJ:AC:=.seq (.reg [iv 6 (.mv (.k (.nsl)))]) (.seq (.seq (.reg [Mv 10 2,Bi 11 .sub 10 1,Mv 7 11]) (.blk 0 (.loop zfN))) (.seq (.reg [Mv 30 0,Mv 6 30]) (.ret)))
def znu:AFn:=⟨31,zgJ,[.tmp 6]⟩
def za3:AC:=.seq (.reg [Bt 11 .lss 10 9]) (.seq (.cond (.t 11) (.skip) (.exit 0)) (.seq (.blk 1 (.seq (.reg [Ia 12 8 10,Ld 13 12,Mv 6 13]) (.seq (.reg [Mv 14 6,iv 15 (.iadr (some 80) 1 (.t 1) (.t 14)),Ld 16 15]) (.cond (.t 16) (.reg [Mv 17 4,Bi 18 .add 17 1,Mv 4 18]) (.skip))))) (.reg [Bi 19 .add 10 1,Mv 10 19])))
def zcF:AC:=.seq (.seq (.reg [Mv 20 7,Bi 21 .lss 20 79]) (.cond (.t 21) (.skip) (.exit 2))) (.seq (.blk 3 (.reg [Mv 24 7,Mv 25 7,Bi 26 .add 25 1,iv 27 (.iadr (some 80) 1 (.t 1) (.t 26)),Ld 28 27,iv 29 (.iadr (some 80) 1 (.t 1) (.t 24)),Sx 29 28])) (.reg [Mv 22 7,Bi 23 .add 22 1,Mv 7 23]))
def ziw:AC:=.seq (.reg [ic 1 (.box (.t 0)),ic 2 (.alloc (zaS (.bool false) 80)),iv 3 (.mv (.k (.bool false)))]) (.seq (.reg [iv 4 (.mv (.k (.int .i64 0)))]) (.seq (.seq (.reg [iv 8 (.slit 1 6 [.int .i64 0] [(0,.k (.int .i64 62)),(1,.k (.int .i64 51)),(2,.k (.int .i64 38)),(3,.k (.int .i64 23)),(4,.k (.int .i64 13)),(5,.k (.int .i64 0))]),iv 9 (.lenL (.t 8)),iv 10 (.mv (.k (.int .i64 0)))]) (.blk 0 (.loop za3))) (.seq (.seq (.reg [iv 7 (.mv (.k (.int .i64 0)))]) (.blk 2 (.loop zcF))) (.seq (.reg [Mv 30 4,Bi 31 .rem 30 2,Bi 32 .eql 31 1,iv 33 (.iadr (some 80) 1 (.t 1) (.k (.int .i64 79))),Sx 33 32]) (.seq (.reg [ir 34 (.ld 80 true (.t 1)),Mv 35 4,Bi 36 .rem 35 2,Bi 37 .eql 36 1,jc (.st 80 (.t 2) (.t 34)),Mv 3 37]) (.ret))))))
def zl7:AFn:=⟨38,ziw,[.cell 2 80 true,.tmp 3]⟩
def zgg:AC:=.seq (.reg [iv 2 (.mv (.k (.nsl)))]) (.seq (.reg [Mv 3 0,ir 4 (.call zb4 []),iv 5 (.slit 1 1 [.int .u64 0] [(0,.k (.int .u64 2))]),ir 6 (.call zdu [.t 4,.t 5]),ir 7 (.call zgr [.t 3,.t 6]),Mv 2 7]) (.ret))
def zjT:AFn:=⟨8,zgg,[.tmp 2]⟩
def zc4:AC:=.blk 1 (.seq (.reg [ir 9 (.ld 80 true (.t 1)),ir 10 (.call zcS [.t 9]),Mv 8 10,Ex 11 8 0,Ex 12 8 1,ic 4 (.alloc (zaS (.bool false) 80)),jc (.st 80 (.t 4) (.t 11)),Mv 5 12]) (.seq (.reg [ir 14 (.ld 80 true (.t 4)),ir 15 (.call zcS [.t 14]),Mv 13 15,Ex 16 13 0,Ex 17 13 1,ic 6 (.alloc (zaS (.bool false) 80)),jc (.st 80 (.t 6) (.t 16)),Mv 7 17]) (.seq (.reg [ir 18 (.ld 80 true (.t 6)),jc (.st 80 (.t 1) (.t 18))]) (.seq (.reg [Mv 19 5]) (.cond (.t 19) (.seq (.reg [ir 20 (.ld 80 true (.t 1)),Mv 21 7,jc (.st 80 (.t 2) (.t 20)),Mv 3 21]) (.ret)) (.skip))))))
def zje:AC:=.seq (.reg [ic 1 (.box (.t 0)),ic 2 (.alloc (zaS (.bool false) 80)),iv 3 (.mv (.k (.bool false)))]) (.blk 0 (.loop zc4))
def znv:AFn:=⟨22,zje,[.cell 2 80 true,.tmp 3]⟩
def zcd:AC:=.seq (.seq (.reg [Mv 11 5,Bi 12 .geq 11 0]) (.cond (.t 12) (.skip) (.exit 0))) (.seq (.blk 1 (.seq (.seq (.reg [Mv 15 0,Mv 16 5,ir 17 (.call zaF [.t 15,.t 16]),Mv 18 1,Mv 19 5,ir 20 (.call zaF [.t 18,.t 19]),Bt 21 .lss 17 20]) (.cond (.t 21) (.seq (.reg [iv 4 (.mv (.k (.int .i64 (-1))))]) (.ret)) (.skip))) (.seq (.reg [Mv 22 0,Mv 23 5,ir 24 (.call zaF [.t 22,.t 23]),Mv 25 1,Mv 26 5,ir 27 (.call zaF [.t 25,.t 26]),Bt 28 .gtr 24 27]) (.cond (.t 28) (.seq (.reg [iv 4 (.mv (.k (.int .i64 1)))]) (.ret)) (.skip))))) (.reg [Mv 13 5,Bi 14 .sub 13 1,Mv 5 14]))
def zjf:AC:=.seq (.reg [iv 4 (.mv (.k (.int .i64 0)))]) (.seq (.seq (.reg [Mv 6 0,iv 7 (.lenL (.t 6)),Mv 8 1,iv 9 (.lenL (.t 8)),Bt 10 .add 7 9,Mv 5 10]) (.blk 0 (.loop zcd))) (.seq (.reg [iv 4 (.mv (.k (.int .i64 0)))]) (.ret)))
def znw:AFn:=⟨29,zjf,[.tmp 4]⟩
def zdW:AC:=.seq (.seq (.reg [Mv 6 5,Bi 7 .lss 6 65]) (.cond (.t 7) (.skip) (.exit 0))) (.seq (.blk 1 (.reg [ir 10 (.ld 2 true (.t 2)),Mv 11 1,Mv 12 5,ir 13 (.call zfh [.t 10,.t 11,.t 12]),Mv 1 13])) (.reg [Mv 8 5,Bi 9 .add 8 1,Mv 5 9]))
def zgh:AC:=.seq (.reg [iv 2 (.boxv (.t 0)),iv 4 (.mv (.k (.nsl)))]) (.seq (.seq (.reg [iv 5 (.mv (.k (.int .i64 0)))]) (.blk 0 (.loop zdW))) (.seq (.reg [Mv 14 1,Mv 4 14]) (.ret)))
def zjU:AFn:=⟨15,zgh,[.tmp 4]⟩
def zoy:AC:=.seq (.reg [iv 1 (.boxv (.t 0)),iv 2 (.mv (.k (.nsl))),iv 3 (.mv (.k (.int .i64 0)))]) (.seq (.seq (.reg [ir 6 (.ld 4 true (.t 1)),ir 7 (.call zl0 [.t 6]),Mv 4 7]) (.seq (.reg [Mv 8 4,Bi 9 .neq 8 0]) (.cond (.t 9) (.seq (.reg [Mv 10 4,iv 2 (.mv (.k (.nsl))),Mv 3 10]) (.ret)) (.skip)))) (.seq (.reg [Fa 11 0 1,Ld 12 11,iv 13 (.i2i .u8 (.t 12)),Fa 14 1 1,Ld 15 14,iv 16 (.i2i .u8 (.t 15)),iv 17 (.slit 1 2 [.int .u8 0] [(0,.t 13),(1,.t 16)]),Fa 18 2 1,Ld 19 18,ic 20 (.call zeb [.t 17,.t 19,.k (.int .i64 4)]),Mv 5 20]) (.seq (.draw [Dm 21 5,Dv 22 (.fadr 3 (.t 1)) [1],Dr 23 (.ld 1 false (.t 22)) [22] 0 0,Dv 24 (.lenS (.t 23)) [23],Dc 25 (.call zeb [.t 21,.t 24,.k (.int .i64 2)]) [21,24],Dv 26 (.fadr 3 (.t 1)) [1],Dr 27 (.ld 1 false (.t 26)) [26] 0 1,Dc 28 (.app 1 false (.t 25) (.t 27)) [25,27],Dm 2 28,iv 3 (.mv (.k (.int .i64 0)))]) (.ret))))
def ztP:AFn:=⟨29,zoy,[.tmp 2,.tmp 3]⟩
def zdg:AC:=.seq (.reg [Bt 9 .lss 8 7]) (.seq (.cond (.t 9) (.skip) (.exit 0)) (.seq (.blk 1 (.seq (.reg [Ia 10 6 8,Ld 11 10,Mv 5 11]) (.seq (.reg [Mv 12 0,Mv 13 0,Nk 14 13,Fa 15 25 14,Ld 16 15,Mv 17 5,ic 18 (.call zbR [.t 12,.t 16,.t 17])]) (.seq (.reg [Mv 19 0,Nk 20 19,Fa 21 25 20,Ld 22 21,Bi 23 .add 22 1,Nk 24 19,Fa 25 25 24,Sx 25 23]) (.seq (.reg [Mv 26 0,Nk 27 26,Fa 28 25 27,Ld 29 28,Bi 30 .eql 29 136]) (.cond (.t 30) (.reg [Mv 31 0,Mv 32 0,Mv 33 0,Nk 34 33,Fa 35 0 34,ir 36 (.ld 25 true (.t 35)),ir 37 (.call zbB [.t 36]),Nk 38 31,Fa 39 0 38,jc (.st 25 (.t 39) (.t 37)),Nk 40 32,Fa 41 25 40,jc (.st 1 (.t 41) (.k (.int .i64 0)))]) (.skip))))))) (.reg [Bi 42 .add 8 1,Mv 8 42])))
def zhG:AC:=.seq (.reg [Mv 6 1,iv 7 (.lenL (.t 6)),iv 8 (.mv (.k (.int .i64 0)))]) (.blk 0 (.loop zdg))
def zlw:AFn:=⟨43,zhG,[]⟩
def zjg:AC:=.seq (.reg [ic 2 (.alloc (zaS (.int .u8 0) 32))]) (.seq (.reg [Mv 5 0,Nk 6 5,ir 7 (.ld 26 true (.t 6)),ic 3 (.alloc [.int .u64 0,.int .u64 0,.int .u64 0,.int .u64 0,.int .u64 0,.int .u64 0,.int .u64 0,.int .u64 0,.int .u64 0,.int .u64 0,.int .u64 0,.int .u64 0,.int .u64 0,.int .u64 0,.int .u64 0,.int .u64 0,.int .u64 0,.int .u64 0,.int .u64 0,.int .u64 0,.int .u64 0,.int .u64 0,.int .u64 0,.int .u64 0,.int .u64 0,.int .i64 0]),jc (.st 26 (.t 3) (.t 7))]) (.seq (.reg [Fa 8 25 3,Ld 9 8,ic 10 (.call zbR [.t 3,.t 9,.k (.int .u8 6)])]) (.seq (.reg [ic 11 (.call zbR [.t 3,.k (.int .i64 135),.k (.int .u8 128)])]) (.seq (.reg [Fa 12 0 3,ir 13 (.ld 25 true (.t 12)),ir 14 (.call zbB [.t 13]),ir 15 (.call zde [.t 14]),ic 4 (.alloc (zaS (.int .u8 0) 200)),jc (.st 200 (.t 4) (.t 15))]) (.seq (.reg [iv 16 (.slice (.arr 200) 1 (.t 4) none (some (.k (.int .i64 32))) none),iv 17 (.s2a 32 (.t 16)),ir 18 (.ld 32 true (.t 17)),jc (.st 32 (.t 2) (.t 18))]) (.ret))))))
def znA:AFn:=⟨19,zjg,[.cell 2 32 true]⟩
def zbk:AC:=.seq (.reg [Bi 23 .lss 22 4]) (.seq (.cond (.t 23) (.skip) (.exit 2)) (.seq (.blk 3 (.seq (.reg [Mv 24 22,iv 25 (.idxA 4 1 false (.t 21) (.t 22)),Mv 11 24,Mv 12 25]) (.reg [Mv 27 11,Mv 28 11,iv 29 (.iadr (some 5) 1 (.t 7) (.t 28)),Ld 30 29,Mv 31 9,Mv 32 12,Mv 33 10,ir 34 (.call zhT [.t 30,.t 31,.t 32,.t 33]),Mv 26 34,Ex 35 26 0,Ex 36 26 1,iv 37 (.iadr (some 5) 1 (.t 7) (.t 27)),Sx 37 35,Mv 10 36]))) (.reg [Bi 38 .add 22 1,Mv 22 38])))
def zda:AC:=.seq (.seq (.reg [Mv 57 14,Bi 58 .lss 57 4]) (.cond (.t 58) (.skip) (.exit 4))) (.seq (.blk 5 (.draw [Dm 62 14,Dv 63 (.bin .sub (.t 62) (.k (.int .i64 1))) [62],Dm 64 14,Dv 65 (.iadr (some 5) 1 (.t 7) (.t 64)) [7,64],Dr 66 (.ld 1 false (.t 65)) [65] 0 0,Dm 67 13,Dm 68 14,Dv 69 (.iadr (some 4) 1 (.t 5) (.t 68)) [5,68],Dr 70 (.ld 1 false (.t 69)) [69] 0 0,Dm 71 10,Dr 72 (.call zhT [.t 66,.t 67,.t 70,.t 71]) [66,67,70,71] 0 0,Dm 61 72,Dv 73 (.ext (.t 61) 0) [61],Dv 74 (.ext (.t 61) 1) [61],Dv 75 (.iadr (some 5) 1 (.t 7) (.t 63)) [7,63],Dn (.st 1 (.t 75) (.t 73)) [75,73],Dm 10 74])) (.reg [Mv 59 14,Bi 60 .add 59 1,Mv 14 60]))
def zd4:AC:=.seq (.reg [Bi 19 .lss 18 4]) (.seq (.cond (.t 19) (.skip) (.exit 0)) (.seq (.blk 1 (.seq (.reg [iv 20 (.idxA 4 1 false (.t 17) (.t 18)),Mv 9 20]) (.seq (.reg [iv 10 (.mv (.k (.int .u64 0)))]) (.seq (.seq (.reg [ir 21 (.ld 4 true (.t 3)),iv 22 (.mv (.k (.int .i64 0)))]) (.blk 2 (.loop zbk))) (.seq (.reg [iv 39 (.iadr (some 5) 1 (.t 7) (.k (.int .i64 4))),Ld 40 39,Mv 41 10,Bt 42 .add 40 41,iv 43 (.iadr (some 5) 1 (.t 7) (.k (.int .i64 4))),Sx 43 42]) (.seq (.reg [iv 44 (.iadr (some 5) 1 (.t 7) (.k (.int .i64 0))),Ld 45 44,Mv 46 6,Bt 47 .mul 45 46,Mv 13 47]) (.seq (.reg [iv 49 (.iadr (some 5) 1 (.t 7) (.k (.int .i64 0))),Ld 50 49,Mv 51 13,iv 52 (.iadr (some 4) 1 (.t 5) (.k (.int .i64 0))),Ld 53 52,ir 54 (.call zhT [.t 50,.t 51,.t 53,.k (.int .u64 0)]),Mv 48 54,Ex 55 48 0,Ex 56 48 1,Mv 10 56]) (.seq (.seq (.reg [iv 14 (.mv (.k (.int .i64 1)))]) (.blk 4 (.loop zda))) (.seq (.reg [iv 77 (.iadr (some 5) 1 (.t 7) (.k (.int .i64 4))),Ld 78 77,Mv 79 10,ic 80 (.call zdw [.t 78,.t 79,.k (.int .u64 0)]),Mv 76 80,Ex 81 76 0,Ex 82 76 1,iv 83 (.iadr (some 5) 1 (.t 7) (.k (.int .i64 3))),Sx 83 81,Mv 10 82]) (.reg [Mv 84 10,iv 85 (.iadr (some 5) 1 (.t 7) (.k (.int .i64 4))),Sx 85 84])))))))))) (.reg [Bi 86 .add 18 1,Mv 18 86])))
def zlx:AC:=.seq (.reg [iv 2 (.boxv (.t 0)),iv 3 (.boxv (.t 1)),ic 4 (.alloc (zaS (.int .u64 0) 4))]) (.seq (.reg [ir 15 (.call zdi []),ir 16 (.call zij []),ic 5 (.alloc (zaS (.int .u64 0) 4)),jc (.st 4 (.t 5) (.t 15)),Mv 6 16]) (.seq (.reg [ic 7 (.alloc (zaS (.int .u64 0) 5))]) (.seq (.seq (.reg [ir 17 (.ld 4 true (.t 2)),iv 18 (.mv (.k (.int .i64 0)))]) (.blk 0 (.loop zd4))) (.seq (.reg [iv 87 (.slice (.arr 5) 1 (.t 7) none (some (.k (.int .i64 4))) none),iv 88 (.s2a 4 (.t 87)),ir 89 (.ld 4 true (.t 88)),ir 90 (.call zgq [.t 89]),jc (.st 4 (.t 4) (.t 90))]) (.ret)))))
def zqv:AFn:=⟨91,zlx,[.cell 4 4 true]⟩
def zgK:AC:=.seq (.reg [iv 4 (.mv (.k (.int .u64 0)))]) (.seq (.seq (.reg [Mv 5 1,Mv 6 0,iv 7 (.lenL (.t 6)),Bt 8 .lss 5 7]) (.cond (.t 8) (.seq (.reg [Mv 9 0,Mv 10 1,Ia 11 9 10,Ld 12 11,Mv 4 12]) (.ret)) (.skip))) (.seq (.reg [iv 4 (.mv (.k (.int .u64 0)))]) (.ret)))
def znC:AFn:=⟨13,zgK,[.tmp 4]⟩
def zcq:AC:=.seq (.seq (.reg [Mv 7 6,Mv 8 1,Bt 9 .lss 7 8]) (.cond (.t 9) (.skip) (.exit 0))) (.seq (.blk 1 (.reg [Mv 12 5,iv 13 (.bin .mul (.t 12) (.k (.int .u64 2))),Mv 5 13])) (.reg [Mv 10 6,Bi 11 .add 10 1,Mv 6 11]))
def zhH:AC:=.seq (.reg [iv 4 (.mv (.k (.nsl)))]) (.seq (.reg [iv 5 (.mv (.k (.int .u64 1)))]) (.seq (.seq (.reg [iv 6 (.mv (.k (.int .i64 0)))]) (.blk 0 (.loop zcq))) (.seq (.reg [Mv 14 0,Mv 15 5,iv 16 (.slit 1 1 [.int .u64 0] [(0,.t 15)]),ir 17 (.call zeS [.t 14,.t 16]),Mv 4 17]) (.ret))))
def zlz:AFn:=⟨18,zhH,[.tmp 4]⟩
def zce:AC:=.seq (.seq (.reg [Mv 21 8,Mv 22 5,Bt 23 .leq 21 22]) (.cond (.t 23) (.skip) (.exit 0))) (.seq (.blk 1 (.seq (.reg [Mv 26 0,Mv 27 8,ir 28 (.call zaF [.t 26,.t 27]),Mv 29 1,Mv 30 8,ir 31 (.call zaF [.t 29,.t 30]),Bt 32 .add 28 31,Mv 33 7,Bt 34 .add 32 33,Mv 9 34]) (.seq (.reg [Mv 35 6,Mv 36 9,iv 37 (.bin .rem (.t 36) (.k (.int .u64 4294967296))),iv 38 (.slit 1 1 [.int .u64 0] [(0,.t 37)]),ic 39 (.app 1 false (.t 35) (.t 38)),Mv 6 39]) (.reg [Mv 40 9,iv 41 (.bin .quo (.t 40) (.k (.int .u64 4294967296))),Mv 7 41])))) (.reg [Mv 24 8,Bi 25 .add 24 1,Mv 8 25]))
def zgL:AC:=.seq (.reg [iv 4 (.mv (.k (.nsl)))]) (.seq (.reg [Mv 10 0,iv 11 (.lenL (.t 10)),Mv 5 11]) (.seq (.seq (.reg [Mv 12 1,iv 13 (.lenL (.t 12)),Mv 14 5,Bt 15 .gtr 13 14]) (.cond (.t 15) (.reg [Mv 16 1,iv 17 (.lenL (.t 16)),Mv 5 17]) (.skip))) (.seq (.reg [Mv 18 5,Bi 19 .add 18 1,ic 20 (.mkc 1 [.int .u64 0] (.k (.int .i64 0)) (.t 19)),Mv 6 20]) (.seq (.reg [iv 7 (.mv (.k (.int .u64 0)))]) (.seq (.seq (.reg [iv 8 (.mv (.k (.int .i64 0)))]) (.blk 0 (.loop zce))) (.seq (.reg [Mv 42 6,ir 43 (.call zau [.t 42]),Mv 4 43]) (.ret)))))))
def znE:AFn:=⟨44,zgL,[.tmp 4]⟩
def zcf:AC:=.seq (.seq (.reg [Mv 23 8,Mv 24 1,iv 25 (.lenL (.t 24)),Bt 26 .lss 23 25]) (.cond (.t 26) (.skip) (.exit 2))) (.seq (.blk 3 (.seq (.draw [Dm 29 5,Dm 30 6,Dm 31 8,Dv 32 (.bin .add (.t 30) (.t 31)) [30,31],Dv 33 (.iadr none 1 (.t 29) (.t 32)) [29,32],Dr 34 (.ld 1 false (.t 33)) [33] 0 0,Dm 35 0,Dm 36 6,Dv 37 (.iadr none 1 (.t 35) (.t 36)) [35,36],Dr 38 (.ld 1 false (.t 37)) [37] 0 0,Dm 39 1,Dm 40 8,Dv 41 (.iadr none 1 (.t 39) (.t 40)) [39,40],Dr 42 (.ld 1 false (.t 41)) [41] 0 0,Dv 43 (.bin .mul (.t 38) (.t 42)) [38,42],Dv 44 (.bin .add (.t 34) (.t 43)) [34,43],Dm 45 7,Dv 46 (.bin .add (.t 44) (.t 45)) [44,45],Dm 9 46]) (.seq (.reg [Mv 47 5,Mv 48 6,Mv 49 8,Bt 50 .add 48 49,Mv 51 9,iv 52 (.bin .rem (.t 51) (.k (.int .u64 4294967296))),Ia 53 47 50,Sx 53 52]) (.reg [Mv 54 9,iv 55 (.bin .quo (.t 54) (.k (.int .u64 4294967296))),Mv 7 55])))) (.reg [Mv 27 8,Bi 28 .add 27 1,Mv 8 28]))
def zc5:AC:=.seq (.seq (.reg [Mv 17 6,Mv 18 0,iv 19 (.lenL (.t 18)),Bt 20 .lss 17 19]) (.cond (.t 20) (.skip) (.exit 0))) (.seq (.blk 1 (.seq (.reg [iv 7 (.mv (.k (.int .u64 0)))]) (.seq (.seq (.reg [iv 8 (.mv (.k (.int .i64 0)))]) (.blk 2 (.loop zcf))) (.reg [Mv 56 5,Mv 57 6,Mv 58 1,iv 59 (.lenL (.t 58)),Bt 60 .add 57 59,Mv 61 7,Ia 62 56 60,Sx 62 61])))) (.reg [Mv 21 6,Bi 22 .add 21 1,Mv 6 22]))
def zji:AC:=.seq (.reg [iv 4 (.mv (.k (.nsl)))]) (.seq (.reg [Mv 10 0,iv 11 (.lenL (.t 10)),Mv 12 1,iv 13 (.lenL (.t 12)),Bt 14 .add 11 13,Bi 15 .add 14 1,ic 16 (.mk 1 [.int .u64 0] (.t 15)),Mv 5 16]) (.seq (.seq (.reg [iv 6 (.mv (.k (.int .i64 0)))]) (.blk 0 (.loop zc5))) (.seq (.reg [Mv 63 5,ir 64 (.call zau [.t 63]),Mv 4 64]) (.ret))))
def znF:AFn:=⟨65,zji,[.tmp 4]⟩
def zc6:AC:=.seq (.seq (.reg [Mv 12 7,Mv 13 0,iv 14 (.lenL (.t 13)),Bt 15 .lss 12 14]) (.cond (.t 15) (.skip) (.exit 0))) (.seq (.blk 1 (.seq (.draw [Dm 18 0,Dm 19 7,Dv 20 (.iadr none 1 (.t 18) (.t 19)) [18,19],Dr 21 (.ld 1 false (.t 20)) [20] 0 0,Dv 22 (.bin .add (.k (.int .u64 4294967296)) (.t 21)) [21],Dm 23 1,Dm 24 7,Dr 25 (.call zaF [.t 23,.t 24]) [23,24] 0 0,Dv 26 (.bin .sub (.t 22) (.t 25)) [22,25],Dm 27 6,Dv 28 (.bin .sub (.t 26) (.t 27)) [26,27],Dm 8 28]) (.seq (.reg [Mv 29 5,Mv 30 8,iv 31 (.bin .rem (.t 30) (.k (.int .u64 4294967296))),iv 32 (.slit 1 1 [.int .u64 0] [(0,.t 31)]),ic 33 (.app 1 false (.t 29) (.t 32)),Mv 5 33]) (.reg [Mv 34 8,iv 35 (.bin .quo (.t 34) (.k (.int .u64 4294967296))),iv 36 (.bin .sub (.k (.int .u64 1)) (.t 35)),Mv 6 36])))) (.reg [Mv 16 7,Bi 17 .add 16 1,Mv 7 17]))
def zjj:AC:=.seq (.reg [iv 4 (.mv (.k (.nsl)))]) (.seq (.reg [Mv 9 0,iv 10 (.lenL (.t 9)),ic 11 (.mkc 1 [.int .u64 0] (.k (.int .i64 0)) (.t 10)),Mv 5 11]) (.seq (.reg [iv 6 (.mv (.k (.int .u64 0)))]) (.seq (.seq (.reg [iv 7 (.mv (.k (.int .i64 0)))]) (.blk 0 (.loop zc6))) (.seq (.reg [Mv 37 5,ir 38 (.call zau [.t 37]),Mv 4 38]) (.ret)))))
def znG:AFn:=⟨39,zjj,[.tmp 4]⟩
def zdM:AC:=.seq (.reg [iv 2 (.mv (.k (.nsl)))]) (.seq (.seq (.reg [Mv 3 0,iv 4 (.eq .slc false (.t 3) (.k (.nsl)))]) (.cond (.t 4) (.seq (.reg [iv 2 (.mv (.k (.nsl)))]) (.ret)) (.skip))) (.seq (.reg [iv 5 (.slit 1 0 [.int .u64 0] []),Mv 6 0,ic 7 (.app 1 false (.t 5) (.t 6)),Mv 2 7]) (.ret)))
def zgi:AFn:=⟨8,zdM,[.tmp 2]⟩
def zbj:AC:=.seq (.reg [Bt 16 .lss 15 14]) (.seq (.cond (.t 16) (.skip) (.exit 0)) (.seq (.blk 1 (.seq (.reg [Mv 17 15,Ia 18 13 15,Ld 19 18,Mv 8 17,Mv 9 19]) (.seq (.reg [Mv 20 7,Mv 21 8,Mv 22 9,iv 23 (.bin .shl (.t 22) (.k (.int .u64 1))),Mv 24 2,Bt 25 .or 23 24,Ia 26 20 21,Sx 26 25]) (.reg [Mv 27 9,iv 28 (.bin .shr (.t 27) (.k (.int .u64 63))),Mv 2 28])))) (.reg [Bi 29 .add 15 1,Mv 15 29])))
def zgX:AC:=.seq (.reg [iv 6 (.mv (.k (.nsl)))]) (.seq (.reg [Mv 10 1,iv 11 (.lenL (.t 10)),ic 12 (.mk 1 [.int .u64 0] (.t 11)),Mv 7 12]) (.seq (.seq (.reg [Mv 13 1,iv 14 (.lenL (.t 13)),iv 15 (.mv (.k (.int .i64 0)))]) (.blk 0 (.loop zbj))) (.seq (.reg [Mv 30 0,Mv 31 7,Mv 32 2,ir 33 (.call zdC [.t 30,.t 31,.t 32]),Mv 6 33]) (.ret))))
def zku:AFn:=⟨34,zgX,[.tmp 6]⟩
def zkJ:AC:=.seq (.reg [iv 1 (.boxv (.t 0)),ic 2 (.alloc (zaS (.int .u64 0) 4))]) (.seq (.seq (.draw [Dr 6 (.ld 4 true (.t 1)) [1] 0 1,Dr 7 (.call zdi []) [] 0 1,Dr 8 (.call zg8 [.t 6,.t 7]) [6,7] 0 1,Dm 5 8,Dv 9 (.ext (.t 5) 0) [5],Dv 10 (.ext (.t 5) 1) [5],ic 3 (.alloc (zaS (.int .u64 0) 4)),Dn (.st 4 (.t 3) (.t 9)) [3,9],Dm 4 10]) (.seq (.reg [Mv 11 4,iv 12 (.bin .eql (.t 11) (.k (.int .u64 0)))]) (.cond (.t 12) (.seq (.reg [ir 13 (.ld 4 true (.t 3)),jc (.st 4 (.t 2) (.t 13))]) (.ret)) (.skip)))) (.seq (.reg [ir 14 (.ld 4 true (.t 1)),jc (.st 4 (.t 2) (.t 14))]) (.ret)))
def ztR:AFn:=⟨15,zkJ,[.cell 2 4 true]⟩
def zgM:AC:=.seq (.reg [Bi 8 .lss 7 4]) (.seq (.cond (.t 8) (.skip) (.exit 0)) (.seq (.blk 1 (.seq (.reg [Mv 9 7,Mv 6 9]) (.draw [Dm 11 6,Dm 12 6,Dv 13 (.iadr (some 4) 1 (.t 2) (.t 12)) [2,12],Dr 14 (.ld 1 false (.t 13)) [13] 0 0,Dm 15 6,Dv 16 (.iadr (some 4) 1 (.t 3) (.t 15)) [3,15],Dr 17 (.ld 1 false (.t 16)) [16] 0 0,Dm 18 5,Dc 19 (.call zdw [.t 14,.t 17,.t 18]) [14,17,18],Dm 10 19,Dv 20 (.ext (.t 10) 0) [10],Dv 21 (.ext (.t 10) 1) [10],Dv 22 (.iadr (some 4) 1 (.t 4) (.t 11)) [4,11],Dn (.st 1 (.t 22) (.t 20)) [22,20],Dm 5 21]))) (.reg [Bi 23 .add 7 1,Mv 7 23])))
def zqy:AC:=.seq (.reg [iv 2 (.boxv (.t 0)),iv 3 (.boxv (.t 1)),ic 4 (.alloc (zaS (.int .u64 0) 4))]) (.seq (.reg [iv 5 (.mv (.k (.int .u64 0)))]) (.seq (.seq (.reg [iv 7 (.mv (.k (.int .i64 0)))]) (.blk 0 (.loop zgM))) (.seq (.reg [ir 24 (.ld 4 true (.t 4)),jc (.st 4 (.t 4) (.t 24))]) (.ret))))
def zuU:AFn:=⟨25,zqy,[.cell 4 4 true]⟩
def zjX:AC:=.seq (.seq (.reg [Mv 7 3,Bi 8 .geq 7 0]) (.cond (.t 8) (.skip) (.exit 0))) (.seq (.blk 1 (.seq (.reg [Mv 11 0,Mv 12 3,Ia 13 11 12,Ld 14 13,iv 15 (.bin .neq (.t 14) (.k (.int .u64 0)))]) (.cond (.t 15) (.seq (.reg [Mv 16 3,iv 17 (.bin .mul (.k (.int .i64 64)) (.t 16)),Mv 18 0,Mv 19 3,Ia 20 18 19,Ld 21 20,ir 22 (.call zgs [.t 21]),Bt 23 .add 17 22,Mv 2 23]) (.ret)) (.skip)))) (.reg [Mv 9 3,Bi 10 .sub 9 1,Mv 3 10]))
def zsL:AC:=.seq (.reg [iv 2 (.mv (.k (.int .i64 0)))]) (.seq (.seq (.reg [Mv 4 0,iv 5 (.lenL (.t 4)),Bi 6 .sub 5 1,Mv 3 6]) (.blk 0 (.loop zjX))) (.seq (.reg [iv 2 (.mv (.k (.int .i64 0)))]) (.ret)))
def zw3:AFn:=⟨24,zsL,[.tmp 2]⟩
def zbb:AC:=.seq (.seq (.reg [Mv 15 6,Bi 16 .lss 15 64]) (.cond (.t 16) (.skip) (.exit 2))) (.seq (.blk 3 (.seq (.reg [Mv 19 4,Bi 20 .rem 19 5,Mv 21 4,Bi 22 .quo 21 5,Mv 23 6,Mv 24 5,iv 25 (.bin .rem (.t 24) (.k (.int .u64 2))),iv 26 (.bin .eql (.t 25) (.k (.int .u64 1))),iv 27 (.iadr (some 5) 320 (.t 3) (.t 20)),iv 28 (.iadr (some 5) 64 (.t 27) (.t 22)),iv 29 (.iadr (some 64) 1 (.t 28) (.t 23)),Sx 29 26]) (.reg [Mv 30 5,iv 31 (.bin .quo (.t 30) (.k (.int .u64 2))),Mv 5 31]))) (.reg [Mv 17 6,Bi 18 .add 17 1,Mv 6 18]))
def zbF:AC:=.seq (.seq (.reg [Mv 8 4,Bi 9 .lss 8 25]) (.cond (.t 9) (.skip) (.exit 0))) (.seq (.blk 1 (.seq (.reg [Mv 12 4,iv 13 (.iadr (some 25) 1 (.t 1) (.t 12)),Ld 14 13,Mv 5 14]) (.seq (.reg [iv 6 (.mv (.k (.int .i64 0)))]) (.blk 2 (.loop zbb))))) (.reg [Mv 10 4,Bi 11 .add 10 1,Mv 4 11]))
def zgj:AC:=.seq (.reg [iv 1 (.boxv (.t 0)),ic 2 (.alloc (zaS (.bool false) 1600))]) (.seq (.reg [iv 7 (.build (zaS (.bool false) 1600) []),ic 3 (.alloc (zaS (.bool false) 1600)),jc (.st 1600 (.t 3) (.t 7))]) (.seq (.seq (.reg [iv 4 (.mv (.k (.int .i64 0)))]) (.blk 0 (.loop zbF))) (.seq (.reg [ir 32 (.ld 1600 true (.t 3)),jc (.st 1600 (.t 2) (.t 32))]) (.ret))))
def zjY:AFn:=⟨33,zgj,[.cell 2 1600 true]⟩
def zcr:AC:=.seq (.seq (.reg [Mv 14 6,Bi 15 .lss 14 64]) (.cond (.t 15) (.skip) (.exit 0))) (.seq (.blk 1 (.draw [Dm 18 6,Dm 19 6,Dv 20 (.iadr (some 5) 320 (.t 2) (.k (.int .i64 0))) [2],Dv 21 (.iadr (some 5) 64 (.t 20) (.k (.int .i64 0))) [20],Dv 22 (.iadr (some 64) 1 (.t 21) (.t 19)) [21,19],Dr 23 (.ld 1 false (.t 22)) [22] 0 0,Dm 24 6,Dv 25 (.iadr (some 64) 1 (.t 5) (.t 24)) [5,24],Dr 26 (.ld 1 false (.t 25)) [25] 0 0,Dv 27 (.eq .bool true (.t 23) (.t 26)) [23,26],Dv 28 (.iadr (some 5) 320 (.t 2) (.k (.int .i64 0))) [2],Dv 29 (.iadr (some 5) 64 (.t 28) (.k (.int .i64 0))) [28],Dv 30 (.iadr (some 64) 1 (.t 29) (.t 18)) [29,18],Dn (.st 1 (.t 30) (.t 27)) [30,27]])) (.reg [Mv 16 6,Bi 17 .add 16 1,Mv 6 17]))
def zhI:AC:=.seq (.reg [ic 2 (.box (.t 0)),ic 4 (.alloc (zaS (.bool false) 1600))]) (.seq (.reg [ir 7 (.ld 1600 true (.t 2)),ir 8 (.call zfj [.t 7]),ir 9 (.call zgu [.t 8]),ir 10 (.call zhc [.t 9]),ir 11 (.call zgt [.t 10]),jc (.st 1600 (.t 2) (.t 11))]) (.seq (.reg [Mv 12 1,ir 13 (.call zdO [.t 12]),ic 5 (.alloc (zaS (.bool false) 64)),jc (.st 64 (.t 5) (.t 13))]) (.seq (.seq (.reg [iv 6 (.mv (.k (.int .i64 0)))]) (.blk 0 (.loop zcr))) (.seq (.reg [ir 31 (.ld 1600 true (.t 2)),jc (.st 1600 (.t 4) (.t 31))]) (.ret)))))
def zlD:AFn:=⟨32,zhI,[.cell 4 1600 true]⟩
def za9:AC:=.seq (.seq (.reg [Mv 12 6,Bi 13 .geq 12 0]) (.cond (.t 13) (.skip) (.exit 2))) (.seq (.blk 3 (.seq (.reg [Mv 16 5,iv 17 (.bin .mul (.t 16) (.k (.int .u64 2))),Mv 5 17]) (.seq (.reg [Mv 18 4,Bi 19 .rem 18 5,Mv 20 4,Bi 21 .quo 20 5,Mv 22 6,iv 23 (.iadr (some 5) 320 (.t 1) (.t 19)),iv 24 (.iadr (some 5) 64 (.t 23) (.t 21)),iv 25 (.iadr (some 64) 1 (.t 24) (.t 22)),Ld 26 25]) (.cond (.t 26) (.reg [Mv 27 5,iv 28 (.bin .add (.t 27) (.k (.int .u64 1))),Mv 5 28]) (.skip))))) (.reg [Mv 14 6,Bi 15 .sub 14 1,Mv 6 15]))
def zcs:AC:=.seq (.seq (.reg [Mv 8 4,Bi 9 .lss 8 25]) (.cond (.t 9) (.skip) (.exit 0))) (.seq (.blk 1 (.seq (.reg [iv 5 (.mv (.k (.int .u64 0)))]) (.seq (.seq (.reg [iv 6 (.mv (.k (.int .i64 63)))]) (.blk 2 (.loop za9))) (.reg [Mv 29 4,Mv 30 5,iv 31 (.iadr (some 25) 1 (.t 3) (.t 29)),Sx 31 30])))) (.reg [Mv 10 4,Bi 11 .add 10 1,Mv 4 11]))
def zhJ:AC:=.seq (.reg [iv 1 (.boxv (.t 0)),ic 2 (.alloc (zaS (.int .u64 0) 25))]) (.seq (.reg [iv 7 (.build (zaS (.int .u64 0) 25) []),ic 3 (.alloc (zaS (.int .u64 0) 25)),jc (.st 25 (.t 3) (.t 7))]) (.seq (.seq (.reg [iv 4 (.mv (.k (.int .i64 0)))]) (.blk 0 (.loop zcs))) (.seq (.reg [ir 32 (.ld 25 true (.t 3)),jc (.st 25 (.t 2) (.t 32))]) (.ret))))
def zlE:AFn:=⟨33,zhJ,[.cell 2 25 true]⟩
def zeo:AC:=.seq (.seq (.reg [Mv 11 6,Bi 12 .geq 11 0]) (.cond (.t 12) (.skip) (.exit 0))) (.seq (.blk 1 (.seq (.reg [Mv 15 5,Mv 16 5,ir 17 (.call zbo [.t 15,.t 16]),Mv 5 17]) (.seq (.reg [Mv 18 1,Mv 19 6,ir 20 (.call zeT [.t 18,.t 19]),iv 21 (.bin .eql (.t 20) (.k (.int .u64 1)))]) (.cond (.t 21) (.reg [Mv 22 5,Mv 23 0,ir 24 (.call zbo [.t 22,.t 23]),Mv 5 24]) (.skip))))) (.reg [Mv 13 6,Bi 14 .sub 13 1,Mv 6 14]))
def zjk:AC:=.seq (.reg [iv 4 (.mv (.k (.nsl)))]) (.seq (.reg [iv 7 (.slit 1 1 [.int .u64 0] [(0,.k (.int .u64 1))]),Mv 5 7]) (.seq (.seq (.reg [Mv 8 1,ir 9 (.call zfK [.t 8]),Bi 10 .sub 9 1,Mv 6 10]) (.blk 0 (.loop zeo))) (.seq (.reg [Mv 25 5,Mv 4 25]) (.ret))))
def znL:AFn:=⟨26,zjk,[.tmp 4]⟩
def zaY:AC:=.seq (.seq (.reg [Mv 11 8,Bi 12 .lss 11 3]) (.cond (.t 12) (.skip) (.exit 0))) (.seq (.blk 1 (.seq (.draw [Dm 15 1,Dm 16 8,Dv 17 (.iadr none 1 (.t 15) (.t 16)) [15,16],Dr 18 (.ld 1 false (.t 17)) [17] 0 0,Dr 19 (.ld 2 true (.t 3)) [3] 0 0,Dm 20 2,Dm 21 8,Dr 22 (.call zdP [.t 19,.t 20,.t 21]) [19,20,21] 0 0,Dr 23 (.call zeU [.t 18,.t 22]) [18,22] 0 0,Dm 9 23]) (.seq (.seq (.reg [Mv 24 2,Bi 25 .lss 24 4,Mv 26 25,Gv 27 (.mv (.t 2)) 26 false [],Gv 28 (.bin .gtr (.t 27) (.k (.int .i64 60))) 26 false [],iv 29 (.pick (.t 26) (.k (.bool true)) (.t 28)),Mv 30 29,Gv 31 (.mv (.t 8)) 30 false [],Gv 32 (.bin .eql (.t 31) (.k (.int .i64 0))) 30 false [],iv 33 (.pick (.t 30) (.k (.bool true)) (.t 32))]) (.cond (.t 33) (.reg [Mv 34 9,ir 35 (.call zfk [.t 34]),Mv 9 35]) (.skip))) (.reg [Mv 36 7,Mv 37 9,iv 38 (.slit 1 1 [.nsl] [(0,.t 37)]),ic 39 (.app 1 false (.t 36) (.t 38)),Mv 7 39])))) (.reg [Mv 13 8,Bi 14 .add 13 1,Mv 8 14]))
def zhK:AC:=.seq (.reg [iv 3 (.boxv (.t 0)),iv 6 (.mv (.k (.nsl)))]) (.seq (.reg [iv 10 (.slit 1 0 [.nsl] []),Mv 7 10]) (.seq (.seq (.reg [iv 8 (.mv (.k (.int .i64 0)))]) (.blk 0 (.loop zaY))) (.seq (.reg [Fa 40 1 3,Ld 41 40,Mv 42 7,ir 43 (.call zfl [.t 41,.t 42]),Mv 6 43]) (.ret))))
def zlF:AFn:=⟨44,zhK,[.tmp 6]⟩
def zqz:AC:=.seq (.reg [iv 1 (.boxv (.t 0)),iv 2 (.mv (.k (.int .i64 0)))]) (.seq (.reg [Fa 6 0 1,Ld 7 6,ir 8 (.call zl2 [.t 7]),Mv 5 8,Ex 9 5 0,Ex 10 5 1,Mv 3 9,Mv 4 10]) (.seq (.blk 0 (.seq (.reg [Mv 12 3,iv 13 (.lenL (.t 12)),Bi 14 .eql 13 0,Mv 11 14]) (.cond (.t 11) (.seq (.reg [iv 2 (.mv (.k (.int .i64 5)))]) (.ret)) (.seq (.reg [Mv 16 3,Fa 17 1 1,Ld 18 17,ir 19 (.call zcX [.t 16,.t 18]),iv 20 (.un .not (.t 19)),Mv 15 20]) (.cond (.t 15) (.seq (.reg [iv 2 (.mv (.k (.int .i64 6)))]) (.ret)) (.seq (.reg [Fa 22 2 1,Ld 23 22,Bi 24 .lss 23 1,Mv 25 24,Gv 26 (.fadr 2 (.t 1)) 25 false [],Gr 27 (.ld 1 false (.t 26)) 25 false [] 0 0,Gv 28 (.mv (.t 4)) 25 false [],Gv 29 (.bin .gtr (.t 27) (.t 28)) 25 false [],iv 30 (.pick (.t 25) (.k (.bool true)) (.t 29)),Mv 21 30]) (.cond (.t 21) (.seq (.reg [iv 2 (.mv (.k (.int .i64 7)))]) (.ret)) (.seq (.reg [Fa 32 3 1,Ld 33 32,iv 34 (.lenS (.t 33)),Bi 35 .gtr 34 255,Mv 31 35]) (.cond (.t 31) (.seq (.reg [iv 2 (.mv (.k (.int .i64 8)))]) (.ret)) (.skip)))))))))) (.seq (.reg [iv 2 (.mv (.k (.int .i64 0)))]) (.ret))))
def zuM:AFn:=⟨36,zqz,[.tmp 2]⟩
def zdq:AC:=.seq (.reg [Bt 10 .lss 9 8]) (.seq (.cond (.t 10) (.skip) (.exit 0)) (.seq (.blk 1 (.seq (.reg [Mv 11 9,Mv 7 11]) (.reg [Mv 12 0,Mv 13 1,Mv 14 7,iv 15 (.bin .mul (.k (.int .i64 8)) (.t 14)),Bt 16 .shr 13 15,iv 17 (.i2i .u8 (.t 16)),iv 18 (.slit 1 1 [.int .u8 0] [(0,.t 17)]),ic 19 (.app 1 false (.t 12) (.t 18)),Mv 0 19]))) (.reg [Bi 20 .add 9 1,Mv 9 20])))
def zkD:AC:=.seq (.reg [iv 6 (.mv (.k (.nsl)))]) (.seq (.seq (.reg [Mv 8 2,iv 9 (.mv (.k (.int .i64 0)))]) (.blk 0 (.loop zdq))) (.seq (.reg [Mv 21 0,Mv 6 21]) (.ret)))
def ztq:AFn:=⟨22,zkD,[.tmp 6]⟩
def ziZ:AC:=.draw [Dm 6 0,Dm 7 1,Dv 8 (.bin .quo (.t 7) (.k (.int .i64 8))) [7],Dv 9 (.nck (.t 6)) [6],Dv 10 (.fadr 0 (.t 9)) [9],Dv 11 (.iadr (some 25) 1 (.t 10) (.t 8)) [10,8],Dr 12 (.ld 1 false (.t 11)) [11] 0 0,Dm 13 2,Dv 14 (.i2i .u64 (.t 13)) [13],Dm 15 1,Dv 16 (.bin .rem (.t 15) (.k (.int .i64 8))) [15],Dv 17 (.bin .mul (.k (.int .i64 8)) (.t 16)) [16],Dv 18 (.bin .shl (.t 14) (.t 17)) [14,17],Dv 19 (.bin .xor (.t 12) (.t 18)) [12,18],Dv 20 (.nck (.t 6)) [6],Dv 21 (.fadr 0 (.t 20)) [20],Dv 22 (.iadr (some 25) 1 (.t 21) (.t 8)) [21,8],Dn (.st 1 (.t 22) (.t 19)) [22,19]]
def zm6:AFn:=⟨23,ziZ,[]⟩
def zbm:AC:=.seq (.reg [Bi 5 .lss 4 24]) (.seq (.cond (.t 5) (.skip) (.exit 0)) (.seq (.blk 1 (.seq (.reg [Mv 6 4,Mv 3 6]) (.reg [ir 7 (.ld 25 true (.t 1)),Mv 8 3,ir 9 (.call zez [.t 7,.t 8]),jc (.st 25 (.t 1) (.t 9))]))) (.reg [Bi 10 .add 4 1,Mv 4 10])))
def zfD:AC:=.seq (.reg [ic 1 (.box (.t 0)),ic 2 (.alloc (zaS (.int .u64 0) 25))]) (.seq (.seq (.reg [iv 4 (.mv (.k (.int .i64 0)))]) (.blk 0 (.loop zbm))) (.seq (.reg [ir 11 (.ld 25 true (.t 1)),jc (.st 25 (.t 2) (.t 11))]) (.ret)))
def ziH:AFn:=⟨12,zfD,[.cell 2 25 true]⟩
def zgR:AC:=.seq (.reg [ic 1 (.box (.t 0)),ic 2 (.alloc (zaS (.int .u8 0) 200))]) (.seq (.reg [iv 3 (.slice (.arr 25) 1 (.t 1) none none none),ir 4 (.call zjM [.t 3]),iv 5 (.s2a 200 (.t 4)),ir 6 (.ld 200 true (.t 5)),jc (.st 200 (.t 2) (.t 6))]) (.ret))
def zkl:AFn:=⟨7,zgR,[.cell 2 200 true]⟩
def zd3:AC:=.seq (.reg [Bi 6 .lss 5 6]) (.seq (.cond (.t 6) (.skip) (.exit 0)) (.seq (.blk 1 (.reg [Mv 7 2,Mv 8 1,Mv 9 2,Bt 10 .mul 8 9,iv 11 (.bin .sub (.k (.int .u64 2)) (.t 10)),Bt 12 .mul 7 11,Mv 2 12])) (.reg [Bi 13 .add 5 1,Mv 5 13])))
def zk8:AC:=.seq (.reg [iv 0 (.mv (.k (.int .u64 0)))]) (.seq (.reg [ir 3 (.call zdi []),iv 4 (.idxA 4 1 false (.t 3) (.k (.int .i64 0))),Mv 1 4,iv 2 (.mv (.k (.int .u64 1)))]) (.seq (.seq (.reg [iv 5 (.mv (.k (.int .i64 0)))]) (.blk 0 (.loop zd3))) (.seq (.reg [Mv 14 2,iv 15 (.un .neg (.t 14)),Mv 0 15]) (.ret))))
def zqb:AFn:=⟨16,zk8,[.tmp 0]⟩
def zqc:AC:=.seq (.reg [iv 8 (.mv (.k (.int .u64 0))),iv 9 (.mv (.k (.int .u64 0)))]) (.seq (.reg [Mv 14 1,Mv 15 2,ir 16 (.call zgx [.t 14,.t 15]),Mv 13 16,Ex 17 13 0,Ex 18 13 1,Mv 10 17,Mv 11 18]) (.seq (.reg [Mv 20 11,Mv 21 0,ic 22 (.call zdw [.t 20,.t 21,.k (.int .u64 0)]),Mv 19 22,Ex 23 19 0,Ex 24 19 1,Mv 11 23,Mv 12 24]) (.seq (.reg [Mv 25 10,Mv 26 12,Bt 27 .add 25 26,Mv 10 27]) (.seq (.reg [Mv 29 11,Mv 30 3,ic 31 (.call zdw [.t 29,.t 30,.k (.int .u64 0)]),Mv 28 31,Ex 32 28 0,Ex 33 28 1,Mv 11 32,Mv 12 33]) (.seq (.reg [Mv 34 11,Mv 35 10,Mv 36 12,Bt 37 .add 35 36,Mv 8 34,Mv 9 37]) (.ret))))))
def zuO:AFn:=⟨38,zqc,[.tmp 8,.tmp 9]⟩
def zdB:AC:=.seq (.reg [iv 6 (.mv (.k (.nsl)))]) (.seq (.seq (.reg [Mv 9 2,iv 10 (.bin .eql (.t 9) (.k (.int .u64 0))),Mv 11 10,Gv 12 (.mv (.t 1)) 11 true [],Gv 13 (.mv (.t 0)) 11 true [],Gv 14 (.nck (.t 13)) 11 true [],Gv 15 (.fadr 0 (.t 14)) 11 true [],Gr 16 (.ld 1 false (.t 15)) 11 true [] 0 0,Gr 17 (.call zqR [.t 12,.t 16]) 11 true [] 0 0,Gv 18 (.bin .lss (.t 17) (.k (.int .i64 0))) 11 true [],iv 19 (.pick (.t 11) (.t 18) (.k (.bool false)))]) (.cond (.t 19) (.seq (.reg [Mv 20 1,Mv 6 20]) (.ret)) (.skip))) (.seq (.reg [Mv 22 1,Mv 23 0,Nk 24 23,Fa 25 0 24,Ld 26 25,ir 27 (.call zqS [.t 22,.t 26]),Mv 21 27,Ex 28 21 0,Ex 29 21 1,Mv 7 28,Mv 8 29]) (.seq (.reg [Mv 30 7,Mv 6 30]) (.ret))))
def zk9:AFn:=⟨31,zdB,[.tmp 6]⟩
def zeO:AC:=.seq (.reg [Bi 8 .lss 7 4]) (.seq (.cond (.t 8) (.skip) (.exit 0)) (.seq (.blk 1 (.seq (.reg [Mv 9 7,Mv 6 9]) (.draw [Dm 11 6,Dm 12 6,Dv 13 (.iadr (some 4) 1 (.t 2) (.t 12)) [2,12],Dr 14 (.ld 1 false (.t 13)) [13] 0 0,Dm 15 6,Dv 16 (.iadr (some 4) 1 (.t 3) (.t 15)) [3,15],Dr 17 (.ld 1 false (.t 16)) [16] 0 0,Dm 18 5,Dc 19 (.call zdx [.t 14,.t 17,.t 18]) [14,17,18],Dm 10 19,Dv 20 (.ext (.t 10) 0) [10],Dv 21 (.ext (.t 10) 1) [10],Dv 22 (.iadr (some 4) 1 (.t 4) (.t 11)) [4,11],Dn (.st 1 (.t 22) (.t 20)) [22,20],Dm 5 21]))) (.reg [Bi 23 .add 7 1,Mv 7 23])))
def zmn:AC:=.seq (.reg [iv 2 (.boxv (.t 0)),iv 3 (.boxv (.t 1)),ic 4 (.alloc (zaS (.int .u64 0) 4)),iv 5 (.mv (.k (.int .u64 0)))]) (.seq (.seq (.reg [iv 7 (.mv (.k (.int .i64 0)))]) (.blk 0 (.loop zeO))) (.seq (.reg [ir 24 (.ld 4 true (.t 4)),Mv 25 5,jc (.st 4 (.t 4) (.t 24)),Mv 5 25]) (.ret)))
def zrG:AFn:=⟨26,zmn,[.cell 4 4 true,.tmp 5]⟩
def za7:AC:=.seq (.reg [iv 2 (.mv (.k (.int .i64 0)))]) (.seq (.seq (.reg [Mv 3 0,iv 4 (.bin .geq (.t 3) (.k (.int .u64 4294967296)))]) (.cond (.t 4) (.seq (.reg [Mv 5 0,iv 6 (.bin .shr (.t 5) (.k (.int .u64 32))),Mv 0 6]) (.reg [iv 2 (.mv (.k (.int .i64 32)))])) (.skip))) (.seq (.seq (.reg [Mv 7 0,iv 8 (.bin .geq (.t 7) (.k (.int .u64 65536)))]) (.cond (.t 8) (.seq (.reg [Mv 9 0,iv 10 (.bin .shr (.t 9) (.k (.int .u64 16))),Mv 0 10]) (.reg [Mv 11 2,Bi 12 .add 11 16,Mv 2 12])) (.skip))) (.seq (.seq (.reg [Mv 13 0,iv 14 (.bin .geq (.t 13) (.k (.int .u64 256)))]) (.cond (.t 14) (.seq (.reg [Mv 15 0,iv 16 (.bin .shr (.t 15) (.k (.int .u64 8))),Mv 0 16]) (.reg [Mv 17 2,Bi 18 .add 17 8,Mv 2 18])) (.skip))) (.seq (.reg [Mv 19 2,Mv 20 0,iv 21 (.i2i .u8 (.t 20)),iv 22 (.idxS (.k (.str zPQ)) (.t 21)),iv 23 (.i2i .i64 (.t 22)),Bt 24 .add 19 23,Mv 2 24]) (.ret)))))
def zm7:AFn:=⟨25,za7,[.tmp 2]⟩
def zbt:AC:=.seq (.seq (.reg [Mv 16 6,Bi 17 .lss 16 64]) (.cond (.t 17) (.skip) (.exit 4))) (.seq (.blk 5 (.draw [Dm 20 4,Dm 21 5,Dm 22 6,Dm 23 4,Dm 24 5,Dm 25 6,Dv 26 (.iadr (some 5) 320 (.t 1) (.t 23)) [1,23],Dv 27 (.iadr (some 5) 64 (.t 26) (.t 24)) [26,24],Dv 28 (.iadr (some 64) 1 (.t 27) (.t 25)) [27,25],Dr 29 (.ld 1 false (.t 28)) [28] 0 0,Dm 30 4,Dv 31 (.bin .add (.t 30) (.k (.int .i64 1))) [30],Dv 32 (.bin .rem (.t 31) (.k (.int .i64 5))) [31],Dm 33 5,Dm 34 6,Dv 35 (.iadr (some 5) 320 (.t 1) (.t 32)) [1,32],Dv 36 (.iadr (some 5) 64 (.t 35) (.t 33)) [35,33],Dv 37 (.iadr (some 64) 1 (.t 36) (.t 34)) [36,34],Dr 38 (.ld 1 false (.t 37)) [37] 0 0,Dv 39 (.un .not (.t 38)) [38],Dm 40 39,Gm 41 4 40 true,Gv 42 (.bin .add (.t 41) (.k (.int .i64 2))) 40 true [41,40],Gv 43 (.bin .rem (.t 42) (.k (.int .i64 5))) 40 true [42,40],Gm 44 5 40 true,Gm 45 6 40 true,Gv 46 (.iadr (some 5) 320 (.t 1) (.t 43)) 40 true [1,43,40],Gv 47 (.iadr (some 5) 64 (.t 46) (.t 44)) 40 true [46,44,40],Gv 48 (.iadr (some 64) 1 (.t 47) (.t 45)) 40 true [47,45,40],Gr 49 (.ld 1 false (.t 48)) 40 true [48,40] 0 0,Dv 50 (.pick (.t 40) (.t 49) (.k (.bool false))) [40,49],Dv 51 (.eq .bool true (.t 29) (.t 50)) [29,50],Dv 52 (.iadr (some 5) 320 (.t 3) (.t 20)) [3,20],Dv 53 (.iadr (some 5) 64 (.t 52) (.t 21)) [52,21],Dv 54 (.iadr (some 64) 1 (.t 53) (.t 22)) [53,22],Dn (.st 1 (.t 54) (.t 51)) [54,51]])) (.reg [Mv 18 6,Bi 19 .add 18 1,Mv 6 19]))
def zb6:AC:=.seq (.seq (.reg [Mv 12 5,Bi 13 .lss 12 5]) (.cond (.t 13) (.skip) (.exit 2))) (.seq (.blk 3 (.seq (.reg [iv 6 (.mv (.k (.int .i64 0)))]) (.blk 4 (.loop zbt)))) (.reg [Mv 14 5,Bi 15 .add 14 1,Mv 5 15]))
def zcT:AC:=.seq (.seq (.reg [Mv 8 4,Bi 9 .lss 8 5]) (.cond (.t 9) (.skip) (.exit 0))) (.seq (.blk 1 (.seq (.reg [iv 5 (.mv (.k (.int .i64 0)))]) (.blk 2 (.loop zb6)))) (.reg [Mv 10 4,Bi 11 .add 10 1,Mv 4 11]))
def zi0:AC:=.seq (.reg [iv 1 (.boxv (.t 0)),ic 2 (.alloc (zaS (.bool false) 1600))]) (.seq (.reg [iv 7 (.build (zaS (.bool false) 1600) []),ic 3 (.alloc (zaS (.bool false) 1600)),jc (.st 1600 (.t 3) (.t 7))]) (.seq (.seq (.reg [iv 4 (.mv (.k (.int .i64 0)))]) (.blk 0 (.loop zcT))) (.seq (.reg [ir 55 (.ld 1600 true (.t 3)),jc (.st 1600 (.t 2) (.t 55))]) (.ret))))
def zm8:AFn:=⟨56,zi0,[.cell 2 1600 true]⟩
def zcB:AC:=.seq (.seq (.reg [Mv 11 5,Bi 12 .lss 11 5]) (.cond (.t 12) (.skip) (.exit 2))) (.seq (.blk 3 (.draw [Dm 15 5,Dm 16 4,Dv 17 (.bin .mul (.k (.int .i64 2)) (.t 16)) [16],Dm 18 5,Dv 19 (.bin .mul (.k (.int .i64 3)) (.t 18)) [18],Dv 20 (.bin .add (.t 17) (.t 19)) [17,19],Dv 21 (.bin .rem (.t 20) (.k (.int .i64 5))) [20],Dm 22 4,Dm 23 5,Dv 24 (.iadr (some 5) 320 (.t 1) (.t 22)) [1,22],Dv 25 (.iadr (some 5) 64 (.t 24) (.t 23)) [24,23],Dr 26 (.ld 64 true (.t 25)) [25] 0 0,Dv 27 (.iadr (some 5) 320 (.t 3) (.t 15)) [3,15],Dv 28 (.iadr (some 5) 64 (.t 27) (.t 21)) [27,21],Dn (.st 64 (.t 28) (.t 26)) [28,26]])) (.reg [Mv 13 5,Bi 14 .add 13 1,Mv 5 14]))
def zdv:AC:=.seq (.seq (.reg [Mv 7 4,Bi 8 .lss 7 5]) (.cond (.t 8) (.skip) (.exit 0))) (.seq (.blk 1 (.seq (.reg [iv 5 (.mv (.k (.int .i64 0)))]) (.blk 2 (.loop zcB)))) (.reg [Mv 9 4,Bi 10 .add 9 1,Mv 4 10]))
def zj8:AC:=.seq (.reg [iv 1 (.boxv (.t 0)),ic 2 (.alloc (zaS (.bool false) 1600))]) (.seq (.reg [iv 6 (.build (zaS (.bool false) 1600) []),ic 3 (.alloc (zaS (.bool false) 1600)),jc (.st 1600 (.t 3) (.t 6))]) (.seq (.seq (.reg [iv 4 (.mv (.k (.int .i64 0)))]) (.blk 0 (.loop zdv))) (.seq (.reg [ir 29 (.ld 1600 true (.t 3)),jc (.st 1600 (.t 2) (.t 29))]) (.ret))))
def zoJ:AFn:=⟨30,zj8,[.cell 2 1600 true]⟩
def zb8:AC:=.seq (.seq (.reg [Mv 18 7,Bi 19 .lss 18 64]) (.cond (.t 19) (.skip) (.exit 2))) (.seq (.blk 3 (.draw [Dm 22 4,Dm 23 5,Dm 24 7,Dm 25 6,Dv 26 (.bin .add (.t 25) (.k (.int .i64 1))) [25],Dm 27 6,Dv 28 (.bin .add (.t 27) (.k (.int .i64 2))) [27],Dv 29 (.bin .mul (.t 26) (.t 28)) [26,28],Dv 30 (.bin .quo (.t 29) (.k (.int .i64 2))) [29],Dv 31 (.bin .add (.t 24) (.t 30)) [24,30],Dv 32 (.bin .rem (.t 31) (.k (.int .i64 64))) [31],Dm 33 4,Dm 34 5,Dm 35 7,Dv 36 (.iadr (some 5) 320 (.t 1) (.t 33)) [1,33],Dv 37 (.iadr (some 5) 64 (.t 36) (.t 34)) [36,34],Dv 38 (.iadr (some 64) 1 (.t 37) (.t 35)) [37,35],Dr 39 (.ld 1 false (.t 38)) [38] 0 0,Dv 40 (.iadr (some 5) 320 (.t 3) (.t 22)) [3,22],Dv 41 (.iadr (some 5) 64 (.t 40) (.t 23)) [40,23],Dv 42 (.iadr (some 64) 1 (.t 41) (.t 32)) [41,32],Dn (.st 1 (.t 42) (.t 39)) [42,39]])) (.reg [Mv 20 7,Bi 21 .add 20 1,Mv 7 21]))
def zcU:AC:=.seq (.seq (.reg [Mv 14 6,Bi 15 .lss 14 24]) (.cond (.t 15) (.skip) (.exit 0))) (.seq (.blk 1 (.seq (.seq (.reg [iv 7 (.mv (.k (.int .i64 0)))]) (.blk 2 (.loop zb8))) (.reg [Mv 43 5,Mv 44 4,iv 45 (.bin .mul (.k (.int .i64 2)) (.t 44)),Mv 46 5,iv 47 (.bin .mul (.k (.int .i64 3)) (.t 46)),Bt 48 .add 45 47,Bi 49 .rem 48 5,Mv 4 43,Mv 5 49]))) (.reg [Mv 16 6,Bi 17 .add 16 1,Mv 6 17]))
def zi1:AC:=.seq (.reg [iv 1 (.boxv (.t 0)),ic 2 (.alloc (zaS (.bool false) 1600))]) (.seq (.reg [iv 8 (.build (zaS (.bool false) 1600) []),ic 3 (.alloc (zaS (.bool false) 1600)),jc (.st 1600 (.t 3) (.t 8))]) (.seq (.reg [iv 9 (.iadr (some 5) 320 (.t 1) (.k (.int .i64 0))),iv 10 (.iadr (some 5) 64 (.t 9) (.k (.int .i64 0))),ir 11 (.ld 64 true (.t 10)),iv 12 (.iadr (some 5) 320 (.t 3) (.k (.int .i64 0))),iv 13 (.iadr (some 5) 64 (.t 12) (.k (.int .i64 0))),jc (.st 64 (.t 13) (.t 11))]) (.seq (.reg [iv 4 (.mv (.k (.int .i64 1))),iv 5 (.mv (.k (.int .i64 0)))]) (.seq (.seq (.reg [iv 6 (.mv (.k (.int .i64 0)))]) (.blk 0 (.loop zcU))) (.seq (.reg [ir 50 (.ld 1600 true (.t 3)),jc (.st 1600 (.t 2) (.t 50))]) (.ret))))))
def zm9:AFn:=⟨51,zi1,[.cell 2 1600 true]⟩
def zaz:AC:=.seq (.seq (.reg [Mv 22 7,Bi 23 .lss 22 5]) (.cond (.t 23) (.skip) (.exit 4))) (.seq (.blk 5 (.seq (.reg [Mv 26 4,Mv 27 7,Mv 28 5,iv 29 (.iadr (some 5) 320 (.t 1) (.t 26)),iv 30 (.iadr (some 5) 64 (.t 29) (.t 27)),iv 31 (.iadr (some 64) 1 (.t 30) (.t 28)),Ld 32 31]) (.cond (.t 32) (.reg [Mv 33 6,Bi 34 .add 33 1,Mv 6 34]) (.skip)))) (.reg [Mv 24 7,Bi 25 .add 24 1,Mv 7 25]))
def zaJ:AC:=.seq (.seq (.reg [Mv 18 5,Bi 19 .lss 18 64]) (.cond (.t 19) (.skip) (.exit 2))) (.seq (.blk 3 (.seq (.reg [iv 6 (.mv (.k (.int .i64 0)))]) (.seq (.seq (.reg [iv 7 (.mv (.k (.int .i64 0)))]) (.blk 4 (.loop zaz))) (.reg [Mv 35 4,Mv 36 5,Mv 37 6,Bi 38 .rem 37 2,Bi 39 .eql 38 1,iv 40 (.iadr (some 5) 64 (.t 3) (.t 35)),iv 41 (.iadr (some 64) 1 (.t 40) (.t 36)),Sx 41 39])))) (.reg [Mv 20 5,Bi 21 .add 20 1,Mv 5 21]))
def zaX:AC:=.seq (.seq (.reg [Mv 14 4,Bi 15 .lss 14 5]) (.cond (.t 15) (.skip) (.exit 0))) (.seq (.blk 1 (.seq (.reg [iv 5 (.mv (.k (.int .i64 0)))]) (.blk 2 (.loop zaJ)))) (.reg [Mv 16 4,Bi 17 .add 16 1,Mv 4 17]))
def za8:AC:=.seq (.seq (.reg [Mv 51 11,Bi 52 .lss 51 64]) (.cond (.t 52) (.skip) (.exit 10))) (.seq (.blk 11 (.seq (.draw [Dm 55 9,Dv 56 (.bin .add (.t 55) (.k (.int .i64 4))) [55],Dv 57 (.bin .rem (.t 56) (.k (.int .i64 5))) [56],Dm 58 11,Dv 59 (.iadr (some 5) 64 (.t 3) (.t 57)) [3,57],Dv 60 (.iadr (some 64) 1 (.t 59) (.t 58)) [59,58],Dr 61 (.ld 1 false (.t 60)) [60] 0 0,Dm 62 9,Dv 63 (.bin .add (.t 62) (.k (.int .i64 1))) [62],Dv 64 (.bin .rem (.t 63) (.k (.int .i64 5))) [63],Dm 65 11,Dv 66 (.bin .add (.t 65) (.k (.int .i64 63))) [65],Dv 67 (.bin .rem (.t 66) (.k (.int .i64 64))) [66],Dv 68 (.iadr (some 5) 64 (.t 3) (.t 64)) [3,64],Dv 69 (.iadr (some 64) 1 (.t 68) (.t 67)) [68,67],Dr 70 (.ld 1 false (.t 69)) [69] 0 0,Dv 71 (.eq .bool true (.t 61) (.t 70)) [61,70],Dm 12 71]) (.draw [Dm 72 9,Dm 73 10,Dm 74 11,Dm 75 9,Dm 76 10,Dm 77 11,Dv 78 (.iadr (some 5) 320 (.t 1) (.t 75)) [1,75],Dv 79 (.iadr (some 5) 64 (.t 78) (.t 76)) [78,76],Dv 80 (.iadr (some 64) 1 (.t 79) (.t 77)) [79,77],Dr 81 (.ld 1 false (.t 80)) [80] 0 0,Dm 82 12,Dv 83 (.eq .bool true (.t 81) (.t 82)) [81,82],Dv 84 (.iadr (some 5) 320 (.t 8) (.t 72)) [8,72],Dv 85 (.iadr (some 5) 64 (.t 84) (.t 73)) [84,73],Dv 86 (.iadr (some 64) 1 (.t 85) (.t 74)) [85,74],Dn (.st 1 (.t 86) (.t 83)) [86,83]]))) (.reg [Mv 53 11,Bi 54 .add 53 1,Mv 11 54]))
def zbr:AC:=.seq (.seq (.reg [Mv 47 10,Bi 48 .lss 47 5]) (.cond (.t 48) (.skip) (.exit 8))) (.seq (.blk 9 (.seq (.reg [iv 11 (.mv (.k (.int .i64 0)))]) (.blk 10 (.loop za8)))) (.reg [Mv 49 10,Bi 50 .add 49 1,Mv 10 50]))
def zci:AC:=.seq (.seq (.reg [Mv 43 9,Bi 44 .lss 43 5]) (.cond (.t 44) (.skip) (.exit 6))) (.seq (.blk 7 (.seq (.reg [iv 10 (.mv (.k (.int .i64 0)))]) (.blk 8 (.loop zbr)))) (.reg [Mv 45 9,Bi 46 .add 45 1,Mv 9 46]))
def zhs:AC:=.seq (.reg [iv 1 (.boxv (.t 0)),ic 2 (.alloc (zaS (.bool false) 1600))]) (.seq (.reg [iv 13 (.build (zaS (.bool false) 320) []),ic 3 (.alloc (zaS (.bool false) 320)),jc (.st 320 (.t 3) (.t 13))]) (.seq (.seq (.reg [iv 4 (.mv (.k (.int .i64 0)))]) (.blk 0 (.loop zaX))) (.seq (.reg [iv 42 (.build (zaS (.bool false) 1600) []),ic 8 (.alloc (zaS (.bool false) 1600)),jc (.st 1600 (.t 8) (.t 42))]) (.seq (.seq (.reg [iv 9 (.mv (.k (.int .i64 0)))]) (.blk 6 (.loop zci))) (.seq (.reg [ir 87 (.ld 1600 true (.t 8)),jc (.st 1600 (.t 2) (.t 87))]) (.ret))))))
def zlb:AFn:=⟨88,zhs,[.cell 2 1600 true]⟩
def zbn:AC:=.seq (.seq (.reg [Mv 14 5,Bi 15 .lss 14 7]) (.cond (.t 15) (.skip) (.exit 0))) (.seq (.blk 1 (.seq (.reg [Mv 18 4,Bi 19 .sub 18 1,Mv 20 5,Mv 21 0,iv 22 (.bin .mul (.k (.int .i64 7)) (.t 21)),Bt 23 .add 20 22,ir 24 (.call zhe [.t 23]),iv 25 (.iadr (some 64) 1 (.t 3) (.t 19)),Sx 25 24]) (.reg [Mv 26 4,Bi 27 .mul 26 2,Mv 4 27]))) (.reg [Mv 16 5,Bi 17 .add 16 1,Mv 5 17]))
def zfE:AC:=.seq (.reg [ic 2 (.alloc (zaS (.bool false) 64))]) (.seq (.reg [iv 6 (.build (zaS (.bool false) 64) []),ic 3 (.alloc (zaS (.bool false) 64)),jc (.st 64 (.t 3) (.t 6))]) (.seq (.seq (.reg [Mv 7 0,Bi 8 .lss 7 0,Mv 9 8,Gv 10 (.mv (.t 0)) 9 false [],Gv 11 (.bin .gtr (.t 10) (.k (.int .i64 23))) 9 false [],iv 12 (.pick (.t 9) (.k (.bool true)) (.t 11))]) (.cond (.t 12) (.seq (.reg [ir 13 (.ld 64 true (.t 3)),jc (.st 64 (.t 2) (.t 13))]) (.ret)) (.skip))) (.seq (.reg [iv 4 (.mv (.k (.int .i64 1)))]) (.seq (.seq (.reg [iv 5 (.mv (.k (.int .i64 0)))]) (.blk 0 (.loop zbn))) (.seq (.reg [ir 28 (.ld 64 true (.t 3)),jc (.st 64 (.t 2) (.t 28))]) (.ret))))))
def ziJ:AFn:=⟨29,zfE,[.cell 2 64 true]⟩
def zdD:AC:=.seq (.seq (.reg [Mv 10 3,Bi 11 .geq 10 0]) (.cond (.t 11) (.skip) (.exit 0))) (.seq (.blk 1 (.seq (.reg [Mv 14 0,Mv 15 3,ir 16 (.call zeT [.t 14,.t 15]),iv 17 (.bin .eql (.t 16) (.k (.int .u64 1)))]) (.cond (.t 17) (.seq (.reg [Mv 18 3,Bi 19 .add 18 1,Mv 2 19]) (.ret)) (.skip)))) (.reg [Mv 12 3,Bi 13 .sub 12 1,Mv 3 13]))
def zik:AC:=.seq (.reg [iv 2 (.mv (.k (.int .i64 0)))]) (.seq (.reg [Mv 4 0,ir 5 (.call zau [.t 4]),Mv 0 5]) (.seq (.seq (.reg [Mv 6 0,iv 7 (.lenL (.t 6)),iv 8 (.bin .mul (.k (.int .i64 32)) (.t 7)),Bi 9 .sub 8 1,Mv 3 9]) (.blk 0 (.loop zdD))) (.seq (.reg [iv 2 (.mv (.k (.int .i64 0)))]) (.ret))))
def zl1:AFn:=⟨20,zik,[.tmp 2]⟩
def zbu:AC:=.seq (.seq (.reg [Mv 15 6,Bi 16 .lss 15 9]) (.cond (.t 16) (.skip) (.exit 0))) (.seq (.blk 1 (.reg [Mv 19 6,iv 20 (.build (zaS (.int .u64 0) 9) []),Mv 21 6,Bi 22 .sub 21 1,iv 23 (.iadr (some 9) 9 (.t 5) (.t 22)),ir 24 (.ld 9 true (.t 23)),ir 25 (.call zec [.t 20,.t 24,.k (.int .u64 2)]),iv 26 (.iadr (some 9) 9 (.t 5) (.t 19)),jc (.st 9 (.t 26) (.t 25))])) (.reg [Mv 17 6,Bi 18 .add 17 1,Mv 6 18]))
def zbv:AC:=.seq (.seq (.reg [Mv 45 11,Bi 46 .geq 45 0]) (.cond (.t 46) (.skip) (.exit 4))) (.seq (.blk 5 (.seq (.draw [Dr 49 (.ld 9 true (.t 8)) [8] 0 0,Dm 50 11,Dv 51 (.iadr (some 9) 9 (.t 5) (.t 50)) [5,50],Dr 52 (.ld 9 true (.t 51)) [51] 0 0,Dr 53 (.call zed [.t 49,.t 52]) [49,52] 0 0]) (.cond (.t 53) (.draw [Dr 54 (.ld 9 true (.t 8)) [8] 0 0,Dm 55 11,Dv 56 (.iadr (some 9) 9 (.t 5) (.t 55)) [5,55],Dr 57 (.ld 9 true (.t 56)) [56] 0 0,Dr 58 (.call zfn [.t 54,.t 57]) [54,57] 0 0,Dn (.st 9 (.t 8) (.t 58)) [8,58]]) (.skip)))) (.reg [Mv 47 11,Bi 48 .sub 47 1,Mv 11 48]))
def zcV:AC:=.seq (.seq (.reg [Mv 33 10,Bi 34 .geq 33 0]) (.cond (.t 34) (.skip) (.exit 2))) (.seq (.blk 3 (.seq (.draw [Dr 37 (.ld 9 true (.t 8)) [8] 0 0,Dr 38 (.ld 9 true (.t 9)) [9] 0 0,Dm 39 7,Dm 40 10,Dv 41 (.iadr none 1 (.t 39) (.t 40)) [39,40],Dr 42 (.ld 1 false (.t 41)) [41] 0 0,Dv 43 (.i2i .u64 (.t 42)) [42],Dr 44 (.call zec [.t 37,.t 38,.t 43]) [37,38,43] 0 0,Dn (.st 9 (.t 8) (.t 44)) [8,44]]) (.seq (.reg [iv 11 (.mv (.k (.int .i64 8)))]) (.blk 4 (.loop zbv))))) (.reg [Mv 35 10,Bi 36 .sub 35 1,Mv 10 36]))
def zi2:AC:=.seq (.reg [iv 4 (.mv (.k (.nsl)))]) (.seq (.reg [ir 12 (.call zb4 []),ir 13 (.call zdF [.t 12]),iv 14 (.build (zaS (.int .u64 0) 81) [(0,9,.t 13)]),ic 5 (.alloc (zaS (.int .u64 0) 81)),jc (.st 81 (.t 5) (.t 14))]) (.seq (.seq (.reg [iv 6 (.mv (.k (.int .i64 1)))]) (.blk 0 (.loop zbu))) (.seq (.reg [Mv 27 0,ir 28 (.call zbP [.t 27,.k (.int .i64 4)]),ir 29 (.call zdH [.t 28]),Mv 7 29]) (.seq (.reg [iv 30 (.build (zaS (.int .u64 0) 9) []),ic 8 (.alloc (zaS (.int .u64 0) 9)),jc (.st 9 (.t 8) (.t 30))]) (.seq (.reg [Mv 31 1,ir 32 (.call zdF [.t 31]),ic 9 (.alloc (zaS (.int .u64 0) 9)),jc (.st 9 (.t 9) (.t 32))]) (.seq (.seq (.reg [iv 10 (.mv (.k (.int .i64 31)))]) (.blk 2 (.loop zcV))) (.seq (.reg [iv 59 (.slit 1 0 [.int .u64 0] []),iv 60 (.slice (.arr 9) 1 (.t 8) none none none),ic 61 (.app 1 false (.t 59) (.t 60)),ir 62 (.call zau [.t 61]),Mv 4 62]) (.ret))))))))
def zne:AFn:=⟨63,zi2,[.tmp 4]⟩
def zcW:AC:=.seq (.seq (.reg [Mv 11 6,Mv 12 1,Bi 13 .rem 12 32,Bt 14 .lss 11 13]) (.cond (.t 14) (.skip) (.exit 0))) (.seq (.blk 1 (.reg [Mv 17 5,iv 18 (.bin .quo (.t 17) (.k (.int .u64 2))),Mv 5 18])) (.reg [Mv 15 6,Bi 16 .add 15 1,Mv 6 16]))
def zi3:AC:=.seq (.reg [iv 4 (.mv (.k (.int .u64 0)))]) (.seq (.reg [Mv 7 0,Mv 8 1,Bi 9 .quo 8 32,ir 10 (.call zaF [.t 7,.t 9]),Mv 5 10]) (.seq (.seq (.reg [iv 6 (.mv (.k (.int .i64 0)))]) (.blk 0 (.loop zcW))) (.seq (.reg [Mv 19 5,iv 20 (.bin .rem (.t 19) (.k (.int .u64 2))),Mv 4 20]) (.ret))))
def znf:AFn:=⟨21,zi3,[.tmp 4]⟩
def zgw:AC:=.seq (.reg [iv 4 (.mv (.k (.nsl)))]) (.seq (.reg [Mv 6 0,Mv 7 1,ir 8 (.call zeR [.t 6,.t 7]),Mv 5 8]) (.seq (.seq (.reg [Mv 9 5,ir 10 (.call zb4 []),ir 11 (.call zdt [.t 9,.t 10]),Bi 12 .geq 11 0]) (.cond (.t 12) (.seq (.reg [Mv 13 5,ir 14 (.call zb4 []),ir 15 (.call zdu [.t 13,.t 14]),Mv 4 15]) (.ret)) (.skip))) (.seq (.reg [Mv 16 5,Mv 4 16]) (.ret))))
def zng:AFn:=⟨17,zgw,[.tmp 4]⟩
def zcv:AC:=.seq (.reg [iv 3 (.boxv (.t 0)),iv 6 (.mv (.k (.nsl)))]) (.seq (.seq (.reg [Mv 7 1,Bi 8 .lss 7 0,Mv 9 8,Gv 10 (.mv (.t 1)) 9 false [],Gv 11 (.bin .gtr (.t 10) (.k (.int .i64 64))) 9 false [],iv 12 (.pick (.t 9) (.k (.bool true)) (.t 11))]) (.cond (.t 12) (.seq (.reg [iv 6 (.mv (.k (.nsl)))]) (.ret)) (.skip))) (.seq (.reg [Fa 13 0 3,Ld 14 13,Mv 15 1,iv 16 (.bin .mul (.k (.int .i64 3)) (.t 15)),Mv 17 2,Bt 18 .add 16 17,Ia 19 14 18,Ld 20 19,Mv 6 20]) (.ret)))
def ziK:AFn:=⟨21,zcv,[.tmp 6]⟩
def zht:AC:=.seq (.reg [iv 2 (.mv (.k (.nsl)))]) (.seq (.reg [Mv 4 0,Mv 5 0,ir 6 (.call zbo [.t 4,.t 5]),Mv 3 6]) (.seq (.reg [Mv 7 3,Mv 8 3,ir 9 (.call zbo [.t 7,.t 8]),Mv 10 0,ir 11 (.call zbo [.t 9,.t 10]),Mv 2 11]) (.ret)))
def zlf:AFn:=⟨12,zht,[.tmp 2]⟩
def zcj:AC:=.seq (.seq (.reg [Mv 15 8,Bi 16 .lss 15 3]) (.cond (.t 16) (.skip) (.exit 2))) (.seq (.blk 3 (.draw [Dm 19 7,Dm 20 0,Dm 21 6,Dv 22 (.iadr none 1 (.t 20) (.t 21)) [20,21],Dr 23 (.ld 1 false (.t 22)) [22] 0 0,Dm 24 8,Dv 25 (.iadr none 1 (.t 23) (.t 24)) [23,24],Dr 26 (.ld 1 false (.t 25)) [25] 0 0,Dm 27 1,Dm 28 8,Dv 29 (.iadr none 1 (.t 27) (.t 28)) [27,28],Dr 30 (.ld 1 false (.t 29)) [29] 0 0,Dr 31 (.call zbo [.t 26,.t 30]) [26,30] 0 0,Dr 32 (.call zeU [.t 19,.t 31]) [19,31] 0 0,Dm 7 32])) (.reg [Mv 17 8,Bi 18 .add 17 1,Mv 8 18]))
def zeA:AC:=.seq (.seq (.reg [Mv 10 6,Bi 11 .lss 10 3]) (.cond (.t 11) (.skip) (.exit 0))) (.seq (.blk 1 (.seq (.reg [iv 14 (.slit 1 0 [.int .u64 0] []),Mv 7 14]) (.seq (.seq (.reg [iv 8 (.mv (.k (.int .i64 0)))]) (.blk 2 (.loop zcj))) (.reg [Mv 33 5,Mv 34 7,iv 35 (.slit 1 1 [.nsl] [(0,.t 34)]),ic 36 (.app 1 false (.t 33) (.t 35)),Mv 5 36])))) (.reg [Mv 12 6,Bi 13 .add 12 1,Mv 6 13]))
def zhu:AC:=.seq (.reg [iv 4 (.mv (.k (.nsl)))]) (.seq (.reg [iv 9 (.slit 1 0 [.nsl] []),Mv 5 9]) (.seq (.seq (.reg [iv 6 (.mv (.k (.int .i64 0)))]) (.blk 0 (.loop zeA))) (.seq (.reg [Mv 37 5,Mv 4 37]) (.ret))))
def zlg:AFn:=⟨38,zhu,[.tmp 4]⟩
def zqh:AC:=.seq (.reg [iv 2 (.mv (.k (.nsl))),iv 3 (.mv (.k (.int .i64 0)))]) (.seq (.seq (.reg [Mv 4 0]) (.blk 0 (.seq (.reg [Bi 6 .eql 4 1,Mv 5 6]) (.cond (.t 5) (.seq (.reg [iv 7 (.slit 1 4 [.int .i64 0] [(0,.k (.int .i64 1)),(1,.k (.int .i64 2)),(2,.k (.int .i64 3)),(3,.k (.int .i64 4))]),Mv 2 7,iv 3 (.mv (.k (.int .i64 1048576)))]) (.ret)) (.seq (.reg [Bi 9 .eql 4 2,Mv 8 9]) (.cond (.t 8) (.seq (.reg [iv 10 (.slit 1 2 [.int .i64 0] [(0,.k (.int .i64 1)),(1,.k (.int .i64 3))]),Mv 2 10,iv 3 (.mv (.k (.int .i64 1048576)))]) (.ret)) (.seq (.reg [Bi 12 .eql 4 3,Mv 11 12]) (.cond (.t 11) (.seq (.reg [iv 13 (.slit 1 1 [.int .i64 0] [(0,.k (.int .i64 0))]),Mv 2 13,iv 3 (.mv (.k (.int .i64 1)))]) (.ret)) (.skip))))))))) (.seq (.reg [iv 2 (.mv (.k (.nsl))),iv 3 (.mv (.k (.int .i64 0)))]) (.ret)))
def zuP:AFn:=⟨14,zqh,[.tmp 2,.tmp 3]⟩
def zeW:AC:=.seq (.reg [iv 4 (.mv (.k (.bool false)))]) (.seq (.reg [Mv 5 0,Mv 6 1,ir 7 (.call zee [.t 5,.t 6]),Bi 8 .geq 7 0,Mv 4 8]) (.ret))
def zhV:AFn:=⟨9,zeW,[.tmp 4]⟩
def zgS:AC:=.seq (.reg [ic 2 (.box (.t 0)),ic 4 (.alloc (zaS (.int .u64 0) 25))]) (.seq (.reg [ir 5 (.ld 25 true (.t 2)),ir 6 (.call zeB [.t 5]),ir 7 (.call zeC [.t 6]),ir 8 (.call zfL [.t 7]),jc (.st 25 (.t 2) (.t 8))]) (.seq (.draw [Dv 9 (.iadr (some 25) 1 (.t 2) (.k (.int .i64 0))) [2],Dr 10 (.ld 1 false (.t 9)) [9] 0 0,Dm 11 1,Dr 12 (.call zgy [.t 11]) [11] 0 0,Dv 13 (.bin .xor (.t 10) (.t 12)) [10,12],Dv 14 (.iadr (some 25) 1 (.t 2) (.k (.int .i64 0))) [2],Dn (.st 1 (.t 14) (.t 13)) [14,13]]) (.seq (.reg [ir 15 (.ld 25 true (.t 2)),jc (.st 25 (.t 4) (.t 15))]) (.ret))))
def zkn:AFn:=⟨16,zgS,[.cell 4 25 true]⟩
def zi4:AC:=.seq (.reg [iv 4 (.mv (.k (.int .u64 0))),iv 5 (.mv (.k (.int .u64 0)))]) (.seq (.reg [Mv 14 0,iv 15 (.bin .and (.t 14) (.k (.int .u64 4294967295))),Mv 6 15]) (.seq (.reg [Mv 16 0,iv 17 (.bin .shr (.t 16) (.k (.int .u64 32))),Mv 7 17]) (.seq (.reg [Mv 18 1,iv 19 (.bin .and (.t 18) (.k (.int .u64 4294967295))),Mv 8 19]) (.seq (.reg [Mv 20 1,iv 21 (.bin .shr (.t 20) (.k (.int .u64 32))),Mv 9 21]) (.seq (.reg [Mv 22 6,Mv 23 8,Bt 24 .mul 22 23,Mv 10 24]) (.seq (.reg [Mv 25 7,Mv 26 8,Bt 27 .mul 25 26,Mv 28 10,iv 29 (.bin .shr (.t 28) (.k (.int .u64 32))),Bt 30 .add 27 29,Mv 11 30]) (.seq (.reg [Mv 31 11,iv 32 (.bin .and (.t 31) (.k (.int .u64 4294967295))),Mv 12 32]) (.seq (.reg [Mv 33 11,iv 34 (.bin .shr (.t 33) (.k (.int .u64 32))),Mv 13 34]) (.seq (.reg [Mv 35 12,Mv 36 6,Mv 37 9,Bt 38 .mul 36 37,Bt 39 .add 35 38,Mv 12 39]) (.seq (.reg [Mv 40 7,Mv 41 9,Bt 42 .mul 40 41,Mv 43 13,Bt 44 .add 42 43,Mv 45 12,iv 46 (.bin .shr (.t 45) (.k (.int .u64 32))),Bt 47 .add 44 46,Mv 4 47]) (.seq (.reg [Mv 48 0,Mv 49 1,Bt 50 .mul 48 49,Mv 5 50]) (.ret))))))))))))
def znl:AFn:=⟨51,zi4,[.tmp 4,.tmp 5]⟩
def zi5:AC:=.seq (.seq (.reg [Mv 13 5,Bi 14 .geq 13 0]) (.cond (.t 14) (.skip) (.exit 0))) (.seq (.blk 1 (.seq (.reg [Mv 17 0,Mv 18 5,ir 19 (.call zli [.t 17,.t 18]),Mv 20 1,Mv 21 5,ir 22 (.call zli [.t 20,.t 21]),ir 23 (.call zfo [.t 19,.t 22]),Mv 6 23]) (.seq (.reg [Mv 24 6,Bi 25 .neq 24 0]) (.cond (.t 25) (.seq (.reg [Mv 26 6,Mv 4 26]) (.ret)) (.skip))))) (.reg [Mv 15 5,Bi 16 .sub 15 1,Mv 5 16]))
def zuq:AC:=.seq (.reg [iv 4 (.mv (.k (.int .i64 0)))]) (.seq (.seq (.reg [Mv 7 0,iv 8 (.lenL (.t 7)),Mv 9 1,iv 10 (.lenL (.t 9)),iv 11 (.mxmn true [.t 8,.t 10]),Bi 12 .sub 11 1,Mv 5 12]) (.blk 0 (.loop zi5))) (.seq (.reg [iv 4 (.mv (.k (.int .i64 0)))]) (.ret)))
def zyv:AFn:=⟨27,zuq,[.tmp 4]⟩
def zur:AC:=.seq (.reg [iv 4 (.mv (.k (.nsl))),iv 5 (.mv (.k (.int .u64 0)))]) (.seq (.reg [Mv 6 0,Mv 7 1,ir 8 (.call zok [.t 6,.t 7,.k (.fn (.func zdx) [] [])]),Ex 9 8 0,Ex 10 8 1,Mv 4 9,Mv 5 10]) (.ret))
def zyB:AFn:=⟨11,zur,[.tmp 4,.tmp 5]⟩
def zcC:AC:=.seq (.reg [Bt 21 .lss 20 19]) (.seq (.cond (.t 21) (.skip) (.exit 2)) (.seq (.blk 3 (.seq (.reg [Ia 22 18 20,Ld 23 22,Mv 6 23]) (.seq (.reg [Mv 24 3,Mv 25 6,Bt 26 .quo 24 25,Bi 27 .rem 26 2,Bi 28 .eql 27 1]) (.cond (.t 28) (.reg [Mv 29 3,Mv 30 6,Bt 31 .sub 29 30,Mv 3 31]) (.reg [Mv 32 3,Mv 33 6,Bt 34 .add 32 33,Mv 3 34]))))) (.reg [Bi 35 .add 20 1,Mv 20 35])))
def zeX:AC:=.seq (.seq (.reg [Mv 7 4,Mv 8 0,Bt 9 .lss 7 8]) (.cond (.t 9) (.skip) (.exit 0))) (.seq (.blk 1 (.seq (.reg [Mv 12 3,Bi 13 .mul 12 2,Mv 3 13]) (.seq (.reg [Mv 14 3,Bi 15 .geq 14 256]) (.cond (.t 15) (.seq (.reg [Mv 16 3,Bi 17 .sub 16 256,Mv 3 17]) (.seq (.reg [iv 18 (.slit 1 4 [.int .i64 0] [(0,.k (.int .i64 64)),(1,.k (.int .i64 32)),(2,.k (.int .i64 16)),(3,.k (.int .i64 1))]),iv 19 (.lenL (.t 18)),iv 20 (.mv (.k (.int .i64 0)))]) (.blk 2 (.loop zcC)))) (.skip))))) (.reg [Mv 10 4,Bi 11 .add 10 1,Mv 4 11]))
def zkd:AC:=.seq (.reg [iv 2 (.mv (.k (.bool false)))]) (.seq (.reg [iv 3 (.mv (.k (.int .i64 1)))]) (.seq (.seq (.reg [iv 4 (.mv (.k (.int .i64 0)))]) (.blk 0 (.loop zeX))) (.seq (.reg [Mv 36 3,Bi 37 .rem 36 2,Bi 38 .eql 37 1,Mv 2 38]) (.ret))))
def zoL:AFn:=⟨39,zkd,[.tmp 2]⟩
def zco:AC:=.seq (.seq (.reg [Mv 6 4,Mv 7 0,iv 8 (.lenL (.t 7)),Bt 9 .lss 6 8,Mv 10 9,Gv 11 (.mv (.t 4)) 10 true [],Gv 12 (.bin .lss (.t 11) (.k (.int .i64 9))) 10 true [],iv 13 (.pick (.t 10) (.t 12) (.k (.bool false)))]) (.cond (.t 13) (.skip) (.exit 0))) (.seq (.blk 1 (.reg [Mv 16 4,Mv 17 0,Mv 18 4,Ia 19 17 18,Ld 20 19,iv 21 (.iadr (some 9) 1 (.t 3) (.t 16)),Sx 21 20])) (.reg [Mv 14 4,Bi 15 .add 14 1,Mv 4 15]))
def zhA:AC:=.seq (.reg [ic 2 (.alloc (zaS (.int .u64 0) 9))]) (.seq (.reg [iv 5 (.build (zaS (.int .u64 0) 9) []),ic 3 (.alloc (zaS (.int .u64 0) 9)),jc (.st 9 (.t 3) (.t 5))]) (.seq (.seq (.reg [iv 4 (.mv (.k (.int .i64 0)))]) (.blk 0 (.loop zco))) (.seq (.reg [ir 22 (.ld 9 true (.t 3)),jc (.st 9 (.t 2) (.t 22))]) (.ret))))
def zlp:AFn:=⟨23,zhA,[.cell 2 9 true]⟩
def zcD:AC:=.seq (.seq (.reg [Mv 10 8,Bi 11 .lss 10 9]) (.cond (.t 11) (.skip) (.exit 0))) (.seq (.blk 1 (.seq (.draw [Dm 14 8,Dv 15 (.iadr (some 9) 1 (.t 3) (.t 14)) [3,14],Dr 16 (.ld 1 false (.t 15)) [15] 0 0,Dv 17 (.bin .mul (.t 16) (.k (.int .u64 256))) [16],Dm 18 8,Dv 19 (.iadr (some 9) 1 (.t 4) (.t 18)) [4,18],Dr 20 (.ld 1 false (.t 19)) [19] 0 0,Dm 21 2,Dv 22 (.bin .mul (.t 20) (.t 21)) [20,21],Dv 23 (.bin .add (.t 17) (.t 22)) [17,22],Dm 24 7,Dv 25 (.bin .add (.t 23) (.t 24)) [23,24],Dm 9 25]) (.seq (.reg [Mv 26 8,Mv 27 9,iv 28 (.bin .rem (.t 27) (.k (.int .u64 4294967296))),iv 29 (.iadr (some 9) 1 (.t 3) (.t 26)),Sx 29 28]) (.reg [Mv 30 9,iv 31 (.bin .quo (.t 30) (.k (.int .u64 4294967296))),Mv 7 31])))) (.reg [Mv 12 8,Bi 13 .add 12 1,Mv 8 13]))
def ziq:AC:=.seq (.reg [ic 3 (.box (.t 0)),iv 4 (.boxv (.t 1)),ic 6 (.alloc (zaS (.int .u64 0) 9))]) (.seq (.reg [iv 7 (.mv (.k (.int .u64 0)))]) (.seq (.seq (.reg [iv 8 (.mv (.k (.int .i64 0)))]) (.blk 0 (.loop zcD))) (.seq (.reg [ir 32 (.ld 9 true (.t 3)),jc (.st 9 (.t 6) (.t 32))]) (.ret))))
def zl5:AFn:=⟨33,ziq,[.cell 6 9 true]⟩
def zcx:AC:=.seq (.seq (.reg [Mv 6 5,Bi 7 .geq 6 0]) (.cond (.t 7) (.skip) (.exit 0))) (.seq (.blk 1 (.seq (.draw [Dm 10 5,Dv 11 (.iadr (some 9) 1 (.t 2) (.t 10)) [2,10],Dr 12 (.ld 1 false (.t 11)) [11] 0 0,Dm 13 5,Dv 14 (.iadr (some 9) 1 (.t 3) (.t 13)) [3,13],Dr 15 (.ld 1 false (.t 14)) [14] 0 0,Dv 16 (.bin .neq (.t 12) (.t 15)) [12,15]]) (.cond (.t 16) (.seq (.draw [Dm 17 5,Dv 18 (.iadr (some 9) 1 (.t 2) (.t 17)) [2,17],Dr 19 (.ld 1 false (.t 18)) [18] 0 0,Dm 20 5,Dv 21 (.iadr (some 9) 1 (.t 3) (.t 20)) [3,20],Dr 22 (.ld 1 false (.t 21)) [21] 0 0,Dv 23 (.bin .gtr (.t 19) (.t 22)) [19,22],Dm 4 23]) (.ret)) (.skip)))) (.reg [Mv 8 5,Bi 9 .sub 8 1,Mv 5 9]))
def zf7:AC:=.seq (.reg [iv 2 (.boxv (.t 0)),iv 3 (.boxv (.t 1)),iv 4 (.mv (.k (.bool false)))]) (.seq (.seq (.reg [iv 5 (.mv (.k (.int .i64 8)))]) (.blk 0 (.loop zcx))) (.seq (.reg [iv 4 (.mv (.k (.bool true)))]) (.ret)))
def zjP:AFn:=⟨24,zf7,[.tmp 4]⟩
def zcp:AC:=.seq (.seq (.reg [Mv 8 6,Bi 9 .lss 8 9]) (.cond (.t 9) (.skip) (.exit 0))) (.seq (.blk 1 (.seq (.draw [Dm 12 6,Dv 13 (.iadr (some 9) 1 (.t 2) (.t 12)) [2,12],Dr 14 (.ld 1 false (.t 13)) [13] 0 0,Dv 15 (.bin .add (.k (.int .u64 4294967296)) (.t 14)) [14],Dm 16 6,Dv 17 (.iadr (some 9) 1 (.t 3) (.t 16)) [3,16],Dr 18 (.ld 1 false (.t 17)) [17] 0 0,Dv 19 (.bin .sub (.t 15) (.t 18)) [15,18],Dm 20 5,Dv 21 (.bin .sub (.t 19) (.t 20)) [19,20],Dm 7 21]) (.seq (.reg [Mv 22 6,Mv 23 7,iv 24 (.bin .rem (.t 23) (.k (.int .u64 4294967296))),iv 25 (.iadr (some 9) 1 (.t 2) (.t 22)),Sx 25 24]) (.reg [Mv 26 7,iv 27 (.bin .quo (.t 26) (.k (.int .u64 4294967296))),iv 28 (.bin .sub (.k (.int .u64 1)) (.t 27)),Mv 5 28])))) (.reg [Mv 10 6,Bi 11 .add 10 1,Mv 6 11]))
def zhB:AC:=.seq (.reg [ic 2 (.box (.t 0)),iv 3 (.boxv (.t 1)),ic 4 (.alloc (zaS (.int .u64 0) 9))]) (.seq (.reg [iv 5 (.mv (.k (.int .u64 0)))]) (.seq (.seq (.reg [iv 6 (.mv (.k (.int .i64 0)))]) (.blk 0 (.loop zcp))) (.seq (.reg [ir 29 (.ld 9 true (.t 2)),jc (.st 9 (.t 4) (.t 29))]) (.ret))))
def zlq:AFn:=⟨30,zhB,[.cell 4 9 true]⟩
def zdU:AC:=.seq (.reg [Bt 9 .lss 8 7]) (.seq (.cond (.t 9) (.skip) (.exit 0)) (.seq (.blk 1 (.seq (.reg [Mv 10 8,Mv 5 10]) (.seq (.reg [Mv 11 1,Mv 12 0,Mv 13 5,Ia 14 12 13,Ld 15 14,Bt 16 .eql 11 15]) (.cond (.t 16) (.seq (.reg [Mv 17 5,Mv 4 17]) (.ret)) (.skip))))) (.reg [Bi 18 .add 8 1,Mv 8 18])))
def zf8:AC:=.seq (.reg [iv 4 (.mv (.k (.int .i64 0)))]) (.seq (.seq (.reg [Mv 6 0,iv 7 (.lenL (.t 6)),iv 8 (.mv (.k (.int .i64 0)))]) (.blk 0 (.loop zdU))) (.seq (.reg [iv 4 (.mv (.k (.int .i64 (-1))))]) (.ret)))
def zjQ:AFn:=⟨19,zf8,[.tmp 4]⟩
def zaR:AC:=.seq (.reg [Bi 10 .lss 9 25]) (.seq (.cond (.t 10) (.skip) (.exit 0)) (.seq (.blk 1 (.seq (.reg [Mv 11 9,iv 12 (.idxA 25 1 false (.t 8) (.t 9)),Mv 4 11,Mv 5 12]) (.reg [Mv 13 4,Bi 14 .rem 13 5,iv 15 (.iadr (some 5) 1 (.t 3) (.t 14)),Ld 16 15,Mv 17 5,Bt 18 .xor 16 17,iv 19 (.iadr (some 5) 1 (.t 3) (.t 14)),Sx 19 18]))) (.reg [Bi 20 .add 9 1,Mv 9 20])))
def zbU:AC:=.seq (.reg [Bi 22 .lss 21 25]) (.seq (.cond (.t 22) (.skip) (.exit 2)) (.seq (.blk 3 (.seq (.reg [Mv 23 21,Mv 6 23]) (.seq (.reg [Mv 24 6,Bi 25 .rem 24 5,Mv 7 25]) (.draw [Dm 26 6,Dv 27 (.iadr (some 25) 1 (.t 1) (.t 26)) [1,26],Dr 28 (.ld 1 false (.t 27)) [27] 0 0,Dm 29 7,Dv 30 (.bin .add (.t 29) (.k (.int .i64 4))) [29],Dv 31 (.bin .rem (.t 30) (.k (.int .i64 5))) [30],Dv 32 (.iadr (some 5) 1 (.t 3) (.t 31)) [3,31],Dr 33 (.ld 1 false (.t 32)) [32] 0 0,Dm 34 7,Dv 35 (.bin .add (.t 34) (.k (.int .i64 1))) [34],Dv 36 (.bin .rem (.t 35) (.k (.int .i64 5))) [35],Dv 37 (.iadr (some 5) 1 (.t 3) (.t 36)) [3,36],Dr 38 (.ld 1 false (.t 37)) [37] 0 0,Dr 39 (.call zbW [.t 38,.k (.int .i64 1)]) [38] 0 0,Dv 40 (.bin .xor (.t 33) (.t 39)) [33,39],Dv 41 (.bin .xor (.t 28) (.t 40)) [28,40],Dv 42 (.iadr (some 25) 1 (.t 1) (.t 26)) [1,26],Dn (.st 1 (.t 42) (.t 41)) [42,41]])))) (.reg [Bi 43 .add 21 1,Mv 21 43])))
def zgU:AC:=.seq (.reg [ic 1 (.box (.t 0)),ic 2 (.alloc (zaS (.int .u64 0) 25))]) (.seq (.reg [ic 3 (.alloc (zaS (.int .u64 0) 5))]) (.seq (.seq (.reg [ir 8 (.ld 25 true (.t 1)),iv 9 (.mv (.k (.int .i64 0)))]) (.blk 0 (.loop zaR))) (.seq (.seq (.reg [iv 21 (.mv (.k (.int .i64 0)))]) (.blk 2 (.loop zbU))) (.seq (.reg [ir 44 (.ld 25 true (.t 1)),jc (.st 25 (.t 2) (.t 44))]) (.ret)))))
def zkq:AFn:=⟨45,zgU,[.cell 2 25 true]⟩
def zbV:AC:=.seq (.reg [Bi 12 .lss 11 24]) (.seq (.cond (.t 12) (.skip) (.exit 0)) (.seq (.blk 1 (.seq (.reg [Mv 13 11,Mv 6 13]) (.seq (.reg [Mv 14 4,iv 15 (.bin .mul (.k (.int .i64 2)) (.t 14)),Mv 16 5,iv 17 (.bin .mul (.k (.int .i64 3)) (.t 16)),Bt 18 .add 15 17,Bi 19 .rem 18 5,Mv 7 19]) (.seq (.reg [Mv 20 5,Mv 21 7,iv 22 (.bin .mul (.k (.int .i64 5)) (.t 21)),Bt 23 .add 20 22,Mv 24 4,Mv 25 5,iv 26 (.bin .mul (.k (.int .i64 5)) (.t 25)),Bt 27 .add 24 26,iv 28 (.iadr (some 25) 1 (.t 1) (.t 27)),Ld 29 28,Mv 30 6,Bi 31 .add 30 1,Mv 32 6,Bi 33 .add 32 2,Bt 34 .mul 31 33,Bi 35 .quo 34 2,ir 36 (.call zbW [.t 29,.t 35]),iv 37 (.iadr (some 25) 1 (.t 3) (.t 23)),Sx 37 36]) (.reg [Mv 38 5,Mv 39 7,Mv 4 38,Mv 5 39]))))) (.reg [Bi 40 .add 11 1,Mv 11 40])))
def zgV:AC:=.seq (.reg [iv 1 (.boxv (.t 0)),ic 2 (.alloc (zaS (.int .u64 0) 25))]) (.seq (.reg [iv 8 (.iadr (some 25) 1 (.t 1) (.k (.int .i64 0))),Ld 9 8,iv 10 (.build (zaS (.int .u64 0) 25) [(0,1,.t 9)]),ic 3 (.alloc (zaS (.int .u64 0) 25)),jc (.st 25 (.t 3) (.t 10))]) (.seq (.reg [iv 4 (.mv (.k (.int .i64 1))),iv 5 (.mv (.k (.int .i64 0)))]) (.seq (.seq (.reg [iv 11 (.mv (.k (.int .i64 0)))]) (.blk 0 (.loop zbV))) (.seq (.reg [ir 41 (.ld 25 true (.t 3)),jc (.st 25 (.t 2) (.t 41))]) (.ret)))))
def zkr:AFn:=⟨42,zgV,[.cell 2 25 true]⟩
def zcE:AC:=.seq (.reg [Bi 8 .lss 7 25]) (.seq (.cond (.t 8) (.skip) (.exit 0)) (.seq (.blk 1 (.seq (.reg [Mv 9 7,Mv 4 9]) (.seq (.reg [Mv 10 4,Mv 11 4,Bi 12 .rem 11 5,Bt 13 .sub 10 12,Mv 5 13]) (.draw [Dm 14 4,Dv 15 (.iadr (some 25) 1 (.t 3) (.t 14)) [3,14],Dr 16 (.ld 1 false (.t 15)) [15] 0 0,Dm 17 5,Dm 18 4,Dv 19 (.bin .add (.t 18) (.k (.int .i64 2))) [18],Dv 20 (.bin .rem (.t 19) (.k (.int .i64 5))) [19],Dv 21 (.bin .add (.t 17) (.t 20)) [17,20],Dv 22 (.iadr (some 25) 1 (.t 1) (.t 21)) [1,21],Dr 23 (.ld 1 false (.t 22)) [22] 0 0,Dm 24 5,Dm 25 4,Dv 26 (.bin .add (.t 25) (.k (.int .i64 1))) [25],Dv 27 (.bin .rem (.t 26) (.k (.int .i64 5))) [26],Dv 28 (.bin .add (.t 24) (.t 27)) [24,27],Dv 29 (.iadr (some 25) 1 (.t 1) (.t 28)) [1,28],Dr 30 (.ld 1 false (.t 29)) [29] 0 0,Dv 31 (.bin .andNot (.t 23) (.t 30)) [23,30],Dv 32 (.bin .xor (.t 16) (.t 31)) [16,31],Dv 33 (.iadr (some 25) 1 (.t 3) (.t 14)) [3,14],Dn (.st 1 (.t 33) (.t 32)) [33,32]])))) (.reg [Bi 34 .add 7 1,Mv 7 34])))
def zis:AC:=.seq (.reg [iv 1 (.boxv (.t 0)),ic 2 (.alloc (zaS (.int .u64 0) 25))]) (.seq (.reg [ir 6 (.ld 25 true (.t 1)),ic 3 (.alloc (zaS (.int .u64 0) 25)),jc (.st 25 (.t 3) (.t 6))]) (.seq (.seq (.reg [iv 7 (.mv (.k (.int .i64 0)))]) (.blk 0 (.loop zcE))) (.seq (.reg [ir 35 (.ld 25 true (.t 3)),jc (.st 25 (.t 2) (.t 35))]) (.ret))))
def zl6:AFn:=⟨36,zis,[.cell 2 25 true]⟩
def zjc:AC:=.seq (.reg [iv 2 (.mv (.k (.int .u64 0)))]) (.seq (.seq (.reg [Mv 3 0,Bi 4 .lss 3 0,Mv 5 4,Gv 6 (.mv (.t 0)) 5 false [],Gv 7 (.bin .geq (.t 6) (.k (.int .i64 24))) 5 false [],iv 8 (.pick (.t 5) (.k (.bool true)) (.t 7))]) (.cond (.t 8) (.seq (.reg [iv 2 (.mv (.k (.int .u64 0)))]) (.ret)) (.skip))) (.seq (.reg [Mv 9 0,iv 10 (.iadr (some 24) 1 (.g 0) (.t 9)),Ld 11 10,Mv 2 11]) (.ret)))
def znq:AFn:=⟨12,zjc,[.tmp 2]⟩
def zdI:AC:=.seq (.reg [iv 4 (.mv (.k (.int .i64 0)))]) (.seq (.reg [Mv 7 0,ir 8 (.call zeZ [.t 7]),Mv 5 8]) (.seq (.reg [Mv 9 1,ir 10 (.call zeZ [.t 9]),Mv 6 10]) (.seq (.seq (.reg [Mv 11 5]) (.cond (.t 11) (.seq (.seq (.reg [Mv 12 6]) (.cond (.t 12) (.seq (.reg [iv 4 (.mv (.k (.int .i64 0)))]) (.ret)) (.skip))) (.seq (.reg [iv 4 (.mv (.k (.int .i64 (-1))))]) (.ret))) (.skip))) (.seq (.seq (.reg [Mv 13 6]) (.cond (.t 13) (.seq (.reg [iv 4 (.mv (.k (.int .i64 1)))]) (.ret)) (.skip))) (.seq (.seq (.reg [Mv 14 0,Mv 15 1,Bt 16 .lss 14 15]) (.cond (.t 16) (.seq (.reg [iv 4 (.mv (.k (.int .i64 (-1))))]) (.ret)) (.skip))) (.seq (.seq (.reg [Mv 17 0,Mv 18 1,Bt 19 .gtr 17 18]) (.cond (.t 19) (.seq (.reg [iv 4 (.mv (.k (.int .i64 1)))]) (.ret)) (.skip))) (.seq (.reg [iv 4 (.mv (.k (.int .i64 0)))]) (.ret))))))))
def zls:AFn:=⟨20,zdI,[.tmp 4]⟩
def ztK:AC:=.seq (.reg [iv 4 (.mv (.k (.int .u64 0)))]) (.seq (.seq (.reg [Mv 5 1,Mv 6 0,iv 7 (.lenL (.t 6)),Bt 8 .lss 5 7]) (.cond (.t 8) (.seq (.reg [Mv 9 0,Mv 10 1,Ia 11 9 10,Ld 12 11,Mv 4 12]) (.ret)) (.skip))) (.seq (.reg [iv 4 (.mv (.k (.int .u64 0)))]) (.ret)))
def zCj:AFn:=⟨13,ztK,[.tmp 4]⟩
def zhX:AC:=.seq (.reg [Bt 20 .lss 19 18]) (.seq (.cond (.t 20) (.skip) (.exit 0)) (.seq (.blk 1 (.seq (.reg [Mv 21 19,Mv 10 21]) (.reg [Mv 23 8,Mv 24 10,Mv 25 2,Mv 26 0,Mv 27 10,ir 28 (.call zli [.t 26,.t 27]),Mv 29 1,Mv 30 10,ir 31 (.call zli [.t 29,.t 30]),Mv 32 9,ic 33 (.callv (.t 25) [.t 28,.t 31,.t 32]),Mv 22 33,Ex 34 22 0,Ex 35 22 1,Ia 36 23 24,Sx 36 34,Mv 9 35]))) (.reg [Bi 37 .add 19 1,Mv 19 37])))
def zsF:AC:=.seq (.reg [iv 6 (.mv (.k (.nsl))),iv 7 (.mv (.k (.int .u64 0)))]) (.seq (.reg [Mv 11 0,iv 12 (.lenL (.t 11)),Mv 13 1,iv 14 (.lenL (.t 13)),iv 15 (.mxmn true [.t 12,.t 14]),ic 16 (.mk 1 [.int .u64 0] (.t 15)),Mv 8 16]) (.seq (.reg [iv 9 (.mv (.k (.int .u64 0)))]) (.seq (.seq (.reg [Mv 17 8,iv 18 (.lenL (.t 17)),iv 19 (.mv (.k (.int .i64 0)))]) (.blk 0 (.loop zhX))) (.seq (.reg [Mv 38 8,Mv 39 9,Mv 6 38,Mv 7 39]) (.ret)))))
def zwS:AFn:=⟨40,zsF,[.tmp 6,.tmp 7]⟩
def zeY:AC:=.seq (.reg [iv 4 (.mv (.k (.int .u64 0)))]) (.seq (.reg [Mv 6 1,iv 7 (.i2i .u64 (.t 6)),iv 8 (.bin .and (.t 7) (.k (.int .u64 63))),Mv 5 8]) (.seq (.reg [Mv 9 0,Mv 10 5,Bt 11 .shl 9 10,Mv 12 0,Mv 13 5,iv 14 (.bin .sub (.k (.int .u64 64)) (.t 13)),Bt 15 .shr 12 14,Bt 16 .or 11 15,Mv 4 16]) (.ret)))
def zhY:AFn:=⟨17,zeY,[.tmp 4]⟩
def zjd:AC:=.seq (.reg [iv 2 (.mv (.k (.bool false)))]) (.seq (.reg [Mv 3 0,Mv 4 0,Bt 5 .neq 3 4,Mv 2 5]) (.ret))
def zns:AFn:=⟨6,zjd,[.tmp 2]⟩
def zfF:AC:=.seq (.reg [iv 2 (.boxv (.t 0))]) (.seq (.reg [Mv 8 1,ir 9 (.call zhi [.t 8]),Mv 7 9,Ex 10 7 0,Ex 11 7 1,ic 4 (.alloc (zaS (.int .u64 0) 25)),jc (.st 25 (.t 4) (.t 10)),Mv 5 11]) (.seq (.seq (.reg [Mv 12 5,Bi 13 .neq 12 0]) (.cond (.t 13) (.ret) (.skip))) (.seq (.reg [ir 14 (.ld 25 true (.t 4)),ir 15 (.call zbB [.t 14]),ir 16 (.call zde [.t 15]),ic 6 (.alloc (zaS (.int .u8 0) 200)),jc (.st 200 (.t 6) (.t 16))]) (.reg [Mv 17 1,iv 18 (.slice (.arr 200) 1 (.t 6) none none none),ic 19 (.copy 1 (.t 17) (.t 18))]))))
def ziL:AFn:=⟨20,zfF,[]⟩
def zhC:AC:=.seq (.reg [iv 1 (.boxv (.t 0)),iv 2 (.mv (.k (.int .i64 0)))]) (.seq (.reg [iv 2 (.mv (.k (.int .i64 136)))]) (.ret))
def zlt:AFn:=⟨3,zhC,[.tmp 2]⟩
def zgW:AC:=.seq (.reg [iv 1 (.boxv (.t 0)),iv 2 (.mv (.k (.int .i64 0)))]) (.seq (.reg [iv 2 (.mv (.k (.int .i64 200)))]) (.ret))
def zks:AFn:=⟨3,zgW,[.tmp 2]⟩
def zke:AC:=.seq (.reg [ic 2 (.alloc (zaS (.int .u64 0) 25)),iv 3 (.mv (.k (.int .i64 0)))]) (.seq (.seq (.reg [Mv 4 0,iv 5 (.lenL (.t 4)),Bi 6 .neq 5 200]) (.cond (.t 6) (.seq (.reg [iv 7 (.build (zaS (.int .u64 0) 25) []),jc (.st 25 (.t 2) (.t 7)),iv 3 (.mv (.k (.int .i64 1)))]) (.ret)) (.skip))) (.seq (.reg [Mv 8 0,ir 9 (.call zhS [.t 8]),iv 10 (.s2a 25 (.t 9)),ir 11 (.ld 25 true (.t 10)),jc (.st 25 (.t 2) (.t 11)),iv 3 (.mv (.k (.int .i64 0)))]) (.ret)))
def zoN:AFn:=⟨12,zke,[.cell 2 25 true,.tmp 3]⟩
def zaG:AC:=.seq (.reg [Bi 7 .lss 6 65]) (.seq (.cond (.t 7) (.skip) (.exit 0)) (.seq (.blk 1 (.seq (.reg [Mv 8 6,Mv 5 8]) (.reg [Mv 9 0,ir 10 (.ld 12 true (.t 3)),Mv 11 5,ic 12 (.call zbZ [.t 9,.t 10,.t 11]),jc (.st 12 (.t 3) (.t 12))]))) (.reg [Bi 13 .add 6 1,Mv 6 13])))
def zcO:AC:=.seq (.reg [ic 3 (.box (.t 1)),ic 4 (.alloc (zaS (.int .u64 0) 12))]) (.seq (.seq (.reg [iv 6 (.mv (.k (.int .i64 0)))]) (.blk 0 (.loop zaG))) (.seq (.reg [ir 14 (.ld 12 true (.t 3)),jc (.st 12 (.t 4) (.t 14))]) (.ret)))
def ze3:AFn:=⟨15,zcO,[.cell 4 12 true]⟩
def zaU:AC:=.seq (.reg [Bi 18 .lss 17 3]) (.seq (.cond (.t 18) (.skip) (.exit 2)) (.seq (.blk 3 (.seq (.reg [Mv 19 17,Mv 5 19]) (.draw [Dm 20 0,Dm 21 4,Dm 22 5,Dm 23 2,Dc 24 (.call zdX [.t 23]) [23],Dv 25 (.nck (.t 20)) [20],Dv 26 (.fadr 3 (.t 25)) [25],Dv 27 (.iadr (some 65) 12 (.t 26) (.t 21)) [26,21],Dv 28 (.iadr (some 3) 4 (.t 27) (.t 22)) [27,22],Dn (.st 4 (.t 28) (.t 24)) [28,24]]))) (.reg [Bi 29 .add 17 1,Mv 17 29])))
def zbd:AC:=.seq (.reg [Bi 15 .lss 14 65]) (.seq (.cond (.t 15) (.skip) (.exit 0)) (.seq (.blk 1 (.seq (.reg [Mv 16 14,Mv 4 16]) (.seq (.reg [iv 17 (.mv (.k (.int .i64 0)))]) (.blk 2 (.loop zaU))))) (.reg [Bi 30 .add 14 1,Mv 14 30])))
def zdJ:AC:=.seq (.reg [Mv 6 0,ir 7 (.call zix []),Nk 8 6,Fa 9 783 8,jc (.st 36 (.t 9) (.t 7))]) (.seq (.reg [ic 11 (.call zoz [.k (.int .i64 254),.k (.int .i64 3),.k (.int .i64 8),.k (.int .i64 57)]),Mv 10 11,Ex 12 10 0,Ex 13 10 1,Mv 2 12,Mv 3 13]) (.seq (.reg [iv 14 (.mv (.k (.int .i64 0)))]) (.blk 0 (.loop zbd))))
def zgb:AFn:=⟨31,zdJ,[]⟩
def zar:AC:=.seq (.reg [Bi 20 .lss 19 3]) (.seq (.cond (.t 20) (.skip) (.exit 0)) (.seq (.blk 1 (.seq (.reg [Mv 21 19,Mv 9 21]) (.seq (.draw [Dm 22 9,Dm 23 9,Dv 24 (.iadr (some 3) 4 (.t 4) (.t 23)) [4,23],Dr 25 (.ld 4 true (.t 24)) [24] 0 0,Dm 26 9,Dv 27 (.iadr (some 3) 4 (.t 7) (.t 26)) [7,26],Dr 28 (.ld 4 true (.t 27)) [27] 0 0,Dr 29 (.call zdL [.t 25,.t 28]) [25,28] 0 0,Dv 30 (.iadr (some 3) 4 (.t 4) (.t 22)) [4,22],Dn (.st 4 (.t 30) (.t 29)) [30,29]]) (.seq (.reg [Mv 31 8,Mv 32 31,Gv 33 (.mv (.t 9)) 32 false [],Gv 34 (.bin .eql (.t 33) (.k (.int .i64 0))) 32 false [],iv 35 (.pick (.t 32) (.k (.bool true)) (.t 34))]) (.cond (.t 35) (.reg [Mv 36 9,Mv 37 9,iv 38 (.iadr (some 3) 4 (.t 4) (.t 37)),ir 39 (.ld 4 true (.t 38)),ir 40 (.call zhj [.t 39]),iv 41 (.iadr (some 3) 4 (.t 4) (.t 36)),jc (.st 4 (.t 41) (.t 40))]) (.skip)))))) (.reg [Bi 42 .add 19 1,Mv 19 42])))
def zbe:AC:=.seq (.reg [ic 4 (.box (.t 1)),ic 6 (.alloc (zaS (.int .u64 0) 12))]) (.seq (.reg [Mv 10 0,Mv 11 2,ic 12 (.call zbf [.t 10,.t 11]),ic 7 (.alloc (zaS (.int .u64 0) 12)),jc (.st 12 (.t 7) (.t 12))]) (.seq (.reg [Mv 13 2,Bi 14 .lss 13 4,Mv 15 14,Gv 16 (.mv (.t 2)) 15 false [],Gv 17 (.bin .geq (.t 16) (.k (.int .i64 61))) 15 false [],iv 18 (.pick (.t 15) (.k (.bool true)) (.t 17)),Mv 8 18]) (.seq (.seq (.reg [iv 19 (.mv (.k (.int .i64 0)))]) (.blk 0 (.loop zar))) (.seq (.draw [Dm 43 0,Dv 44 (.nck (.t 43)) [43],Dv 45 (.fadr 783 (.t 44)) [44],Dr 46 (.ld 36 true (.t 45)) [45] 0 0,Dr 47 (.ld 12 true (.t 4)) [4] 0 0,Dr 48 (.call zem [.t 46,.t 47]) [46,47] 0 0,Dn (.st 12 (.t 6) (.t 48)) [6,48]]) (.ret)))))
def zfM:AFn:=⟨49,zbe,[.cell 6 12 true]⟩
def zaW:AC:=.seq (.reg [ic 4 (.alloc (zaS (.int .u64 0) 12))]) (.seq (.reg [Mv 5 0,Nk 6 5,Fa 7 0 6,Mv 8 0,iv 9 (.mkfn (.func zaZ) [.t 8] []),ic 10 (.call zjq [.t 7,.t 9])]) (.seq (.seq (.reg [Mv 11 1,Bi 12 .lss 11 0,Mv 13 12,Gv 14 (.mv (.t 1)) 13 false [],Gv 15 (.bin .geq (.t 14) (.k (.int .i64 65))) 13 false [],iv 16 (.pick (.t 13) (.k (.bool true)) (.t 15))]) (.cond (.t 16) (.seq (.reg [iv 17 (.build (zaS (.int .u64 0) 12) []),jc (.st 12 (.t 4) (.t 17))]) (.ret)) (.skip))) (.seq (.reg [Mv 18 0,Mv 19 1,Nk 20 18,Fa 21 3 20,iv 22 (.iadr (some 65) 12 (.t 21) (.t 19)),ir 23 (.ld 12 true (.t 22)),jc (.st 12 (.t 4) (.t 23))]) (.ret))))
def zex:AFn:=⟨24,zaW,[.cell 4 12 true]⟩
def zhD:AC:=.seq (.reg [iv 2 (.boxv (.t 0)),iv 3 (.boxv (.t 1)),ic 4 (.alloc (zaS (.int .u64 0) 4))]) (.seq (.reg [Fa 5 0 2,ir 6 (.ld 4 true (.t 5)),Fa 7 0 3,ir 8 (.ld 4 true (.t 7)),ir 9 (.call zjD [.t 6,.t 8]),ir 10 (.call zgq [.t 9]),iv 11 (.build (zaS (.int .u64 0) 4) [(0,4,.t 10)]),jc (.st 4 (.t 4) (.t 11))]) (.ret))
def zlu:AFn:=⟨12,zhD,[.cell 4 4 true]⟩
def zkf:AC:=.seq (.reg [iv 1 (.boxv (.t 0)),ic 2 (.alloc (zaS (.int .u64 0) 4))]) (.seq (.draw [Dr 3 (.ld 4 true (.t 1)) [1] 0 0,Dr 4 (.call zbE [.t 3]) [3] 0 0,Dr 5 (.call zbE [.t 4]) [4] 0 0,Dr 6 (.ld 4 true (.t 1)) [1] 0 0,Dr 7 (.call za4 [.t 5,.t 6]) [5,6] 0 0,Dn (.st 4 (.t 2) (.t 7)) [2,7]]) (.ret))
def zoO:AFn:=⟨8,zkf,[.cell 2 4 true]⟩
def zgd:AC:=.seq (.reg [iv 2 (.boxv (.t 0)),iv 3 (.boxv (.t 1)),ic 4 (.alloc (zaS (.int .u64 0) 12))]) (.seq (.draw [Dv 5 (.iadr (some 3) 12 (.t 2) (.k (.int .i64 0))) [2],Dr 6 (.ld 12 true (.t 5)) [5] 0 0,Dr 7 (.ld 12 true (.t 3)) [3] 0 0,Dr 8 (.call zcG [.t 6,.t 7]) [6,7] 0 0,Dv 9 (.iadr (some 3) 12 (.t 2) (.k (.int .i64 1))) [2],Dr 10 (.ld 12 true (.t 9)) [9] 0 0,Dr 11 (.ld 12 true (.t 3)) [3] 0 0,Dr 12 (.call zcG [.t 10,.t 11]) [10,11] 0 0,Dv 13 (.iadr (some 3) 12 (.t 2) (.k (.int .i64 2))) [2],Dr 14 (.ld 12 true (.t 13)) [13] 0 0,Dr 15 (.ld 12 true (.t 3)) [3] 0 0,Dr 16 (.call zcG [.t 14,.t 15]) [14,15] 0 0,Dv 17 (.build (zaS (.int .u64 0) 12) [(0,4,.t 8),(4,4,.t 12),(8,4,.t 16)]) [8,12,16],Dn (.st 12 (.t 4) (.t 17)) [4,17]]) (.ret))
def zjR:AFn:=⟨18,zgd,[.cell 4 12 true]⟩
def zlv:AC:=.seq (.reg [ic 0 (.alloc (zaS (.int .u64 0) 36))]) (.seq (.reg [ir 1 (.call zjr [.k (.fn (.func zcH) [] [])]),jc (.st 36 (.t 0) (.t 1))]) (.ret))
def zqs:AFn:=⟨2,zlv,[.cell 0 36 true]⟩
def zge:AC:=.seq (.reg [Bi 65 .lss 64 160]) (.seq (.cond (.t 65) (.skip) (.exit 0)) (.seq (.blk 1 (.reg [Ld 66 10,ic 67 (.call zbi [.t 66])])) (.reg [Bi 68 .add 64 1,Mv 64 68])))
def zsH:AC:=.seq (.reg [iv 8 (.mv (.k (.nilp))),iv 9 (.mv (.k (.int .i64 0)))]) (.seq (.seq (.reg [Mv 13 0,Bi 14 .lss 13 1,Mv 15 14,Gv 16 (.mv (.t 0)) 15 false [],Gv 17 (.bin .gtr (.t 16) (.k (.int .i64 4095))) 15 false [],iv 18 (.pick (.t 15) (.k (.bool true)) (.t 17)),Mv 19 18,Gv 20 (.mv (.t 1)) 19 false [],Gv 21 (.bin .lss (.t 20) (.k (.int .i64 1))) 19 false [],iv 22 (.pick (.t 19) (.k (.bool true)) (.t 21)),Mv 23 22,Gv 24 (.mv (.t 1)) 23 false [],Gv 25 (.bin .gtr (.t 24) (.k (.int .i64 4095))) 23 false [],iv 26 (.pick (.t 23) (.k (.bool true)) (.t 25)),Mv 27 26,Gv 28 (.mv (.t 2)) 27 false [],Gv 29 (.bin .lss (.t 28) (.k (.int .i64 0))) 27 false [],iv 30 (.pick (.t 27) (.k (.bool true)) (.t 29)),Mv 31 30,Gv 32 (.mv (.t 2)) 31 false [],Gv 33 (.bin .gtr (.t 32) (.k (.int .i64 1023))) 31 false [],iv 34 (.pick (.t 31) (.k (.bool true)) (.t 33)),Mv 35 34,Gv 36 (.mv (.t 3)) 35 false [],Gv 37 (.bin .lss (.t 36) (.k (.int .i64 0))) 35 false [],iv 38 (.pick (.t 35) (.k (.bool true)) (.t 37)),Mv 39 38,Gv 40 (.mv (.t 3)) 39 false [],Gv 41 (.bin .gtr (.t 40) (.k (.int .i64 1023))) 39 false [],iv 42 (.pick (.t 39) (.k (.bool true)) (.t 41))]) (.cond (.t 42) (.seq (.reg [iv 8 (.mv (.k (.nilp))),iv 9 (.mv (.k (.int .i64 1)))]) (.ret)) (.skip))) (.seq (.reg [iv 43 (.build [.bool false,.bool false,.bool false,.bool false,.bool false,.bool false,.bool false,.bool false,.bool false,.bool false,.bool false,.bool false,.bool false,.bool false,.bool false,.bool false,.bool false,.bool false,.bool false,.bool false,.bool false,.bool false,.bool false,.bool false,.bool false,.bool false,.bool false,.bool false,.bool false,.bool false,.bool false,.bool false,.bool false,.bool false,.bool false,.bool false,.bool false,.bool false,.bool false,.bool false,.bool false,.bool false,.bool false,.bool false,.bool false,.bool false,.bool false,.bool false,.bool false,.bool false,.bool false,.bool false,.bool false,.bool false,.bool false,.bool false,.bool false,.bool false,.bool false,.bool false,.bool false,.bool false,.bool false,.bool false,.bool false,.bool false,.bool false,.bool false,.bool false,.bool false,.bool false,.bool false,.bool false,.bool false,.bool false,.bool false,.bool false,.bool false,.bool false,.bool false,.int .i64 0] []),ic 44 (.box (.t 43)),ic 10 (.alloc [.nilp]),Sx 10 44]) (.seq (.reg [ic 11 (.alloc [.int .i64 0]),jc (.st 1 (.t 11) (.k (.int .i64 0)))]) (.seq (.reg [iv 45 (.mkfn (.func zbN) [] [.t 10,.t 11]),Mv 12 45]) (.seq (.reg [Mv 46 12,ic 47 (.callv (.t 46) [.k (.int .i64 1),.k (.int .i64 2)])]) (.seq (.reg [Mv 48 12,ic 49 (.callv (.t 48) [.k (.int .i64 0),.k (.int .i64 4)])]) (.seq (.reg [Mv 50 12,Mv 51 0,ic 52 (.callv (.t 50) [.t 51,.k (.int .i64 12)])]) (.seq (.reg [Mv 53 12,Mv 54 1,ic 55 (.callv (.t 53) [.t 54,.k (.int .i64 12)])]) (.seq (.reg [Mv 56 12,Mv 57 2,ic 58 (.callv (.t 56) [.t 57,.k (.int .i64 10)])]) (.seq (.reg [Mv 59 12,Mv 60 3,ic 61 (.callv (.t 59) [.t 60,.k (.int .i64 10)])]) (.seq (.reg [Mv 62 12,ic 63 (.callv (.t 62) [.k (.int .i64 1073741823),.k (.int .i64 30)])]) (.seq (.seq (.reg [iv 64 (.mv (.k (.int .i64 0)))]) (.blk 0 (.loop zge))) (.seq (.reg [Ld 69 10,Mv 8 69,iv 9 (.mv (.k (.int .i64 0)))]) (.ret))))))))))))))
def zwW:AFn:=⟨70,zsH,[.tmp 8,.tmp 9]⟩
def zav:AC:=.seq (.seq (.reg [Mv 7 4,Bi 8 .geq 7 0]) (.cond (.t 8) (.skip) (.exit 2))) (.seq (.blk 3 (.seq (.reg [Mv 11 0,ic 12 (.call zfO [.t 11])]) (.cond (.t 12) (.draw [Dm 13 4,Dv 14 (.bin .quo (.t 13) (.k (.int .i64 8))) [13],Dv 15 (.iadr (some 32) 1 (.t 3) (.t 14)) [3,14],Dr 16 (.ld 1 false (.t 15)) [15] 0 0,Dm 17 4,Dv 18 (.bin .rem (.t 17) (.k (.int .i64 8))) [17],Dv 19 (.bin .shl (.k (.int .u8 1)) (.t 18)) [18],Dv 20 (.bin .or (.t 16) (.t 19)) [16,19],Dv 21 (.iadr (some 32) 1 (.t 3) (.t 14)) [3,14],Dn (.st 1 (.t 21) (.t 20)) [21,20]]) (.skip)))) (.reg [Mv 9 4,Bi 10 .sub 9 1,Mv 4 10]))
def za2:AC:=.blk 1 (.seq (.reg [ic 3 (.alloc (zaS (.int .u8 0) 32))]) (.seq (.seq (.reg [iv 4 (.mv (.k (.int .i64 253)))]) (.blk 2 (.loop zav))) (.seq (.reg [iv 23 (.slice (.arr 32) 1 (.t 3) none none none),ir 24 (.call ze0 [.t 23]),Mv 22 24,Ex 25 22 0,Ex 26 22 1,ic 5 (.alloc (zaS (.int .u64 0) 4)),jc (.st 4 (.t 5) (.t 25)),Mv 6 26]) (.seq (.reg [Mv 27 6,Bi 28 .eql 27 0]) (.cond (.t 28) (.seq (.reg [ir 29 (.ld 4 true (.t 5)),jc (.st 4 (.t 2) (.t 29))]) (.ret)) (.skip))))))
def zfI:AC:=.seq (.reg [ic 2 (.alloc (zaS (.int .u64 0) 4))]) (.blk 0 (.loop za2))
def ziM:AFn:=⟨30,zfI,[.cell 2 4 true]⟩
def zfJ:AC:=.seq (.reg [iv 1 (.boxv (.t 0)),ic 2 (.alloc (zaS (.int .u64 0) 4))]) (.seq (.reg [ir 3 (.ld 4 true (.t 1)),ir 4 (.ld 4 true (.t 1)),ir 5 (.call za4 [.t 3,.t 4]),jc (.st 4 (.t 2) (.t 5))]) (.ret))
def ziN:AFn:=⟨6,zfJ,[.cell 2 4 true]⟩
def zhF:AC:=.seq (.reg [iv 2 (.boxv (.t 0)),iv 3 (.boxv (.t 1)),ic 4 (.alloc (zaS (.int .u64 0) 4))]) (.seq (.reg [Fa 5 0 2,ir 6 (.ld 4 true (.t 5)),Fa 7 0 3,ir 8 (.ld 4 true (.t 7)),ir 9 (.call zeQ [.t 6,.t 8]),iv 10 (.build (zaS (.int .u64 0) 4) [(0,4,.t 9)]),jc (.st 4 (.t 4) (.t 10))]) (.ret))
def zkN:AFn:=⟨11,zhF,[.cell 4 4 true]⟩
def zhk:AC:=.seq (.reg [iv 2 (.boxv (.t 0)),iv 3 (.boxv (.t 1)),ic 4 (.alloc (zaS (.int .u64 0) 4))]) (.seq (.draw [Dv 5 (.iadr (some 3) 4 (.t 2) (.k (.int .i64 0))) [2],Dr 6 (.ld 4 true (.t 5)) [5] 0 0,Dv 7 (.iadr (some 3) 4 (.t 3) (.k (.int .i64 0))) [3],Dr 8 (.ld 4 true (.t 7)) [7] 0 0,Dr 9 (.call za4 [.t 6,.t 8]) [6,8] 0 0,Dv 10 (.iadr (some 3) 4 (.t 2) (.k (.int .i64 1))) [2],Dr 11 (.ld 4 true (.t 10)) [10] 0 0,Dv 12 (.iadr (some 3) 4 (.t 3) (.k (.int .i64 1))) [3],Dr 13 (.ld 4 true (.t 12)) [12] 0 0,Dr 14 (.call za4 [.t 11,.t 13]) [11,13] 0 0,Dv 15 (.iadr (some 3) 4 (.t 2) (.k (.int .i64 2))) [2],Dr 16 (.ld 4 true (.t 15)) [15] 0 0,Dv 17 (.iadr (some 3) 4 (.t 3) (.k (.int .i64 2))) [3],Dr 18 (.ld 4 true (.t 17)) [17] 0 0,Dr 19 (.call za4 [.t 16,.t 18]) [16,18] 0 0,Dv 20 (.slit 4 3 (zaS (.int .u64 0) 4) [(0,.t 9),(1,.t 14),(2,.t 19)]) [9,14,19],Dr 21 (.call zoB [.t 20]) [20] 0 0,Dn (.st 4 (.t 4) (.t 21)) [4,21]]) (.ret))
def zkO:AFn:=⟨22,zhk,[.cell 4 4 true]⟩
def znM:AC:=.seq (.reg [iv 2 (.mv (.k (.bool false)))]) (.seq (.reg [Mv 3 0,Nk 4 3,Fa 5 0 4,ir 6 (.call znH [.t 5]),iv 7 (.bin .neq (.t 6) (.k (.int .u32 0))),Mv 2 7]) (.ret))
def zh2:AFn:=⟨8,znM,[.tmp 2]⟩
def zdz:AC:=.seq (.reg [Bi 9 .lss 8 3]) (.seq (.cond (.t 9) (.skip) (.exit 2)) (.seq (.blk 3 (.seq (.reg [Mv 10 8,Mv 4 10]) (.draw [Dm 11 3,Dm 12 4,Dm 13 0,Dm 14 3,Dm 15 4,Dc 16 (.callv (.t 13) [.t 14,.t 15]) [13,14,15],Dv 17 (.iadr (some 3) 12 (.t 2) (.t 11)) [2,11],Dv 18 (.iadr (some 3) 4 (.t 17) (.t 12)) [17,12],Dn (.st 4 (.t 18) (.t 16)) [18,16]]))) (.reg [Bi 19 .add 8 1,Mv 8 19])))
def zeH:AC:=.seq (.reg [Bi 6 .lss 5 3]) (.seq (.cond (.t 6) (.skip) (.exit 0)) (.seq (.blk 1 (.seq (.reg [Mv 7 5,Mv 3 7]) (.seq (.reg [iv 8 (.mv (.k (.int .i64 0)))]) (.blk 2 (.loop zdz))))) (.reg [Bi 20 .add 5 1,Mv 5 20])))
def zl8:AC:=.seq (.reg [ic 2 (.alloc (zaS (.int .u64 0) 36))]) (.seq (.seq (.reg [iv 5 (.mv (.k (.int .i64 0)))]) (.blk 0 (.loop zeH))) (.seq (.reg [ir 21 (.ld 36 true (.t 2)),jc (.st 36 (.t 2) (.t 21))]) (.ret)))
def zrx:AFn:=⟨22,zl8,[.cell 2 36 true]⟩
def ziO:AC:=.seq (.reg [ic 4 (.alloc (zaS (.int .u64 0) 4))]) (.seq (.reg [Mv 5 0,Mv 6 1,Bt 7 .add 5 6,Bi 8 .add 7 3,iv 9 (.i2i .u64 (.t 8)),ir 10 (.call zen [.t 9]),ir 11 (.call zdo [.t 10]),jc (.st 4 (.t 4) (.t 11))]) (.ret))
def zmy:AFn:=⟨12,ziO,[.cell 4 4 true]⟩
def zh3:AC:=.seq (.reg [ic 2 (.alloc (zaS (.int .u64 0) 4))]) (.seq (.reg [Mv 3 0,iv 4 (.build (zaS (.int .u64 0) 4) [(0,1,.t 3)]),ir 5 (.call zgo [.t 4]),jc (.st 4 (.t 2) (.t 5))]) (.ret))
def zlU:AFn:=⟨6,zh3,[.cell 2 4 true]⟩
def ze4:AC:=.seq (.reg [iv 1 (.boxv (.t 0)),ic 2 (.alloc (zaS (.int .u64 0) 4))]) (.seq (.reg [ir 4 (.call zdi []),ic 3 (.alloc (zaS (.int .u64 0) 4)),jc (.st 4 (.t 3) (.t 4))]) (.seq (.reg [iv 5 (.iadr (some 4) 1 (.t 3) (.k (.int .i64 0))),Ld 6 5,iv 7 (.bin .sub (.t 6) (.k (.int .u64 2))),iv 8 (.iadr (some 4) 1 (.t 3) (.k (.int .i64 0))),Sx 8 7]) (.seq (.draw [Dr 9 (.ld 4 true (.t 1)) [1] 0 0,Dv 10 (.slice (.arr 4) 1 (.t 3) none none none) [3],Dr 11 (.call zfu [.t 9,.t 10]) [9,10] 0 0,Dn (.st 4 (.t 2) (.t 11)) [2,11]]) (.ret))))
def zh4:AFn:=⟨12,ze4,[.cell 2 4 true]⟩
def zgY:AC:=.seq (.seq (.reg [Mv 9 6,Bi 10 .geq 9 0]) (.cond (.t 10) (.skip) (.exit 0))) (.seq (.blk 1 (.seq (.draw [Dr 13 (.ld 1 false (.t 2)) [2] 0 0,Dr 14 (.ld 1 false (.t 3)) [3] 0 0,Dm 15 0,Dm 16 6,Dv 17 (.bin .shr (.t 15) (.t 16)) [15,16],Dv 18 (.bin .and (.t 17) (.k (.int .i64 1))) [17],Dv 19 (.bin .eql (.t 18) (.k (.int .i64 1))) [18],Dv 20 (.nck (.t 13)) [13],Dv 21 (.fadr 0 (.t 20)) [20],Dv 22 (.iadr (some 80) 1 (.t 21) (.t 14)) [21,14],Dn (.st 1 (.t 22) (.t 19)) [22,19]]) (.reg [Ld 23 3,Bi 24 .add 23 1,Sx 3 24]))) (.reg [Mv 11 6,Bi 12 .sub 11 1,Mv 6 12]))
def znN:AC:=.seq (.reg [Mv 7 1,Bi 8 .sub 7 1,Mv 6 8]) (.blk 0 (.loop zgY))
def zsP:AFn:=⟨25,znN,[]⟩
def zch:AC:=.seq (.reg [Bt 18 .lss 17 16]) (.seq (.cond (.t 18) (.skip) (.exit 0)) (.seq (.blk 1 (.seq (.reg [Ia 19 15 17,Ld 20 19,Mv 5 20]) (.draw [Dm 21 3,Dm 22 0,Dm 23 0,Dv 24 (.nck (.t 23)) [23],Dv 25 (.fadr 80 (.t 24)) [24],Dr 26 (.ld 1 false (.t 25)) [25] 0 0,Dm 27 5,Dv 28 (.bin .add (.t 26) (.t 27)) [26,27],Dv 29 (.bin .rem (.t 28) (.k (.int .i64 80))) [28],Dv 30 (.nck (.t 22)) [22],Dv 31 (.fadr 0 (.t 30)) [30],Dv 32 (.iadr (some 80) 1 (.t 31) (.t 29)) [31,29],Dr 33 (.ld 1 false (.t 32)) [32] 0 0,Dv 34 (.eq .bool true (.t 21) (.t 33)) [21,33],Dm 3 34]))) (.reg [Bi 35 .add 17 1,Mv 17 35])))
def zhl:AC:=.seq (.reg [iv 2 (.mv (.k (.bool false)))]) (.seq (.draw [Dm 6 0,Dm 7 0,Dv 8 (.nck (.t 7)) [7],Dv 9 (.fadr 80 (.t 8)) [8],Dr 10 (.ld 1 false (.t 9)) [9] 0 0,Dv 11 (.nck (.t 6)) [6],Dv 12 (.fadr 0 (.t 11)) [11],Dv 13 (.iadr (some 80) 1 (.t 12) (.t 10)) [12,10],Dr 14 (.ld 1 false (.t 13)) [13] 0 0,Dm 3 14]) (.seq (.seq (.reg [iv 15 (.slit 1 5 [.int .i64 0] [(0,.k (.int .i64 13)),(1,.k (.int .i64 23)),(2,.k (.int .i64 38)),(3,.k (.int .i64 51)),(4,.k (.int .i64 62))]),iv 16 (.lenL (.t 15)),iv 17 (.mv (.k (.int .i64 0)))]) (.blk 0 (.loop zch))) (.seq (.draw [Dm 36 0,Dm 37 0,Dv 38 (.nck (.t 37)) [37],Dv 39 (.fadr 80 (.t 38)) [38],Dr 40 (.ld 1 false (.t 39)) [39] 0 0,Dm 41 3,Dv 42 (.nck (.t 36)) [36],Dv 43 (.fadr 0 (.t 42)) [42],Dv 44 (.iadr (some 80) 1 (.t 43) (.t 40)) [43,40],Dn (.st 1 (.t 44) (.t 41)) [44,41]]) (.seq (.reg [Mv 45 0,Mv 46 0,Nk 47 46,Fa 48 80 47,Ld 49 48,Bi 50 .add 49 1,Bi 51 .rem 50 80,Nk 52 45,Fa 53 80 52,Sx 53 51]) (.seq (.reg [Mv 54 3,Mv 2 54]) (.ret))))))
def zkP:AFn:=⟨55,zhl,[.tmp 2]⟩
def zh5:AC:=.seq (.reg [iv 2 (.mv (.k (.bool false)))]) (.scope (.seq (.label 0) (.seq (.reg [Mv 5 0,ic 6 (.call zbi [.t 5]),Mv 7 0,ic 8 (.call zbi [.t 7]),Mv 3 6,Mv 4 8]) (.seq (.seq (.reg [Mv 9 3,iv 10 (.un .not (.t 9))]) (.cond (.t 10) (.goto 0) (.skip))) (.seq (.reg [Mv 11 4,Mv 2 11]) (.ret))))))
def zlV:AFn:=⟨12,zh5,[.tmp 2]⟩
def zgm:AC:=.seq (.reg [ic 2 (.alloc (zaS (.int .u64 0) 4)),iv 3 (.mv (.k (.int .i64 0)))]) (.seq (.seq (.reg [Mv 7 0,iv 8 (.lenL (.t 7)),Bi 9 .neq 8 32]) (.cond (.t 9) (.seq (.reg [iv 10 (.build (zaS (.int .u64 0) 4) []),jc (.st 4 (.t 2) (.t 10)),iv 3 (.mv (.k (.int .i64 1)))]) (.ret)) (.skip))) (.seq (.reg [Mv 11 0,ir 12 (.call zhS [.t 11]),iv 13 (.s2a 4 (.t 12)),ir 14 (.ld 4 true (.t 13)),ic 4 (.alloc (zaS (.int .u64 0) 4)),jc (.st 4 (.t 4) (.t 14))]) (.seq (.seq (.draw [Dr 16 (.ld 4 true (.t 4)) [4] 0 1,Dr 17 (.call zdi []) [] 0 1,Dr 18 (.call zg8 [.t 16,.t 17]) [16,17] 0 1,Dm 15 18,Dv 19 (.ext (.t 15) 0) [15],Dv 20 (.ext (.t 15) 1) [15],ic 5 (.alloc (zaS (.int .u64 0) 4)),Dn (.st 4 (.t 5) (.t 19)) [5,19],Dm 6 20]) (.seq (.reg [Mv 21 6,iv 22 (.bin .eql (.t 21) (.k (.int .u64 0)))]) (.cond (.t 22) (.seq (.reg [iv 23 (.build (zaS (.int .u64 0) 4) []),jc (.st 4 (.t 2) (.t 23)),iv 3 (.mv (.k (.int .i64 4)))]) (.ret)) (.skip)))) (.seq (.reg [ir 24 (.ld 4 true (.t 4)),ir 25 (.call zgo [.t 24]),jc (.st 4 (.t 2) (.t 25)),iv 3 (.mv (.k (.int .i64 0)))]) (.ret)))))
def zmz:AFn:=⟨26,zgm,[.cell 2 4 true,.tmp 3]⟩
def zhL:AC:=.seq (.reg [Bt 9 .lss 8 7]) (.seq (.cond (.t 9) (.skip) (.exit 0)) (.seq (.blk 1 (.seq (.reg [iv 10 (.iadr none 4 (.t 6) (.t 8)),ir 11 (.ld 4 true (.t 10)),ic 5 (.alloc (zaS (.int .u64 0) 4)),jc (.st 4 (.t 5) (.t 11))]) (.reg [ir 12 (.ld 4 true (.t 3)),ir 13 (.ld 4 true (.t 5)),ir 14 (.call zdL [.t 12,.t 13]),jc (.st 4 (.t 3) (.t 14))]))) (.reg [Bi 15 .add 8 1,Mv 8 15])))
def zrP:AC:=.seq (.reg [ic 2 (.alloc (zaS (.int .u64 0) 4))]) (.seq (.reg [ic 3 (.alloc (zaS (.int .u64 0) 4))]) (.seq (.seq (.reg [Mv 6 0,iv 7 (.lenL (.t 6)),iv 8 (.mv (.k (.int .i64 0)))]) (.blk 0 (.loop zhL))) (.seq (.reg [ir 16 (.ld 4 true (.t 3)),jc (.st 4 (.t 2) (.t 16))]) (.ret))))
def zvK:AFn:=⟨17,zrP,[.cell 2 4 true]⟩
def ztX:AC:=.reg [Mv 2 0,Nk 3 2,Fa 4 0 3,ir 5 (.call zsK [.t 4])]
def zmA:AFn:=⟨6,ztX,[]⟩
def zrQ:AC:=.reg [Mv 2 0,Nk 3 2,Fa 4 0 3,ir 5 (.call zqx [.t 4])]
def zkQ:AFn:=⟨6,zrQ,[]⟩
def zmB:AC:=.draw [Dm 4 0,Dv 5 (.nck (.t 4)) [4],Dv 6 (.fadr 0 (.t 5)) [5],Dm 7 1,Dr 8 (.call znJ [.t 7]) [7] 0 0,Dr 9 (.call zmx [.t 6,.t 8]) [6,8] 0 0]
def zhM:AFn:=⟨10,zmB,[]⟩
def zbq:AC:=.seq (.seq (.reg [Mv 11 6,Bi 12 .geq 11 0]) (.cond (.t 12) (.skip) (.exit 0))) (.seq (.blk 1 (.seq (.reg [ir 15 (.ld 4 true (.t 5)),ir 16 (.call zbE [.t 15]),jc (.st 4 (.t 5) (.t 16))]) (.seq (.reg [Mv 17 1,Mv 18 6,Bi 19 .quo 18 64,Ia 20 17 19,Ld 21 20,Mv 22 6,Bi 23 .rem 22 64,Bt 24 .shr 21 23,iv 25 (.bin .and (.t 24) (.k (.int .u64 1))),iv 26 (.bin .eql (.t 25) (.k (.int .u64 1)))]) (.cond (.t 26) (.reg [ir 27 (.ld 4 true (.t 5)),ir 28 (.ld 4 true (.t 2)),ir 29 (.call za4 [.t 27,.t 28]),jc (.st 4 (.t 5) (.t 29))]) (.skip))))) (.reg [Mv 13 6,Bi 14 .sub 13 1,Mv 6 14]))
def zhm:AC:=.seq (.reg [iv 2 (.boxv (.t 0)),ic 4 (.alloc (zaS (.int .u64 0) 4))]) (.seq (.reg [ir 7 (.call zen [.k (.int .u64 1)]),ic 5 (.alloc (zaS (.int .u64 0) 4)),jc (.st 4 (.t 5) (.t 7))]) (.seq (.seq (.reg [Mv 8 1,ir 9 (.call zla [.t 8]),Bi 10 .sub 9 1,Mv 6 10]) (.blk 0 (.loop zbq))) (.seq (.reg [ir 30 (.ld 4 true (.t 5)),jc (.st 4 (.t 4) (.t 30))]) (.ret))))
def zkR:AFn:=⟨31,zhm,[.cell 4 4 true]⟩
def ztY:AC:=.seq (.reg [iv 2 (.mv (.k (.int .u32 0)))]) (.seq (.seq (.reg [Mv 3 0]) (.cond (.t 3) (.seq (.reg [iv 2 (.mv (.k (.int .u32 1)))]) (.ret)) (.skip))) (.seq (.reg [iv 2 (.mv (.k (.int .u32 0)))]) (.ret)))
def zmC:AFn:=⟨4,ztY,[.tmp 2]⟩
def zlG:AC:=.blk 1 (.seq (.seq (.reg [Mv 14 4,iv 15 (.bin .shr (.t 14) (.k (.int .u64 3))),iv 16 (.bin .eql (.t 15) (.k (.int .i32 0))),Mv 17 16,Gv 18 (.mv (.t 4)) 17 false [],Gv 19 (.bin .and (.t 18) (.k (.int .i32 7))) 17 false [],Gv 20 (.bin .neq (.t 19) (.k (.int .i32 0))) 17 false [],iv 21 (.pick (.t 17) (.k (.bool true)) (.t 20))]) (.cond (.t 21) (.ret) (.skip))) (.seq (.reg [Mv 22 4,iv 23 (.bin .sub (.t 22) (.k (.int .i32 8))),iv 24 (.bin .or (.t 23) (.k (.int .i32 2))),Mv 1 24]) (.seq (.seq (.reg [Mv 25 0,Nk 26 25,Fa 27 0 26,Mv 28 4,Mv 29 1,ir 30 (.call ziy [.t 27,.t 28,.t 29])]) (.cond (.t 30) (.seq (.reg [Mv 31 0,Nk 32 31,Fa 33 1 32,ir 34 (.call zgk [.t 33,.k (.bool false),.k (.int .i64 2)])]) (.ret)) (.skip))) (.reg [Mv 35 0,Nk 36 35,Fa 37 0 36,Ld 38 37,Mv 4 38]))))
def zl9:AC:=.seq (.seq (.reg [Mv 5 1,iv 6 (.bin .add (.t 5) (.k (.int .i32 1))),iv 7 (.bin .and (.t 6) (.k (.int .i32 1))),iv 8 (.bin .eql (.t 7) (.k (.int .i32 0)))]) (.cond (.t 8) (.reg [ir 9 (.call zxZ [.k (.str ⟨#[115,121,110,99,58,32,117,110,108,111,99,107,32,111,102,32,117,110,108,111,99,107,101,100,32,109,117,116,101,120]⟩)])]) (.skip))) (.seq (.reg [Mv 10 1,iv 11 (.bin .and (.t 10) (.k (.int .i32 4))),iv 12 (.bin .eql (.t 11) (.k (.int .i32 0)))]) (.cond (.t 12) (.seq (.reg [Mv 13 1,Mv 4 13]) (.blk 0 (.loop zlG))) (.reg [Mv 39 0,Nk 40 39,Fa 41 1 40,ir 42 (.call zgk [.t 41,.k (.bool true),.k (.int .i64 2)])])))
def zgZ:AFn:=⟨43,zl9,[]⟩
def zep:AC:=.seq (.reg [iv 2 (.boxv (.t 0))]) (.seq (.seq (.reg [Mv 5 1,iv 6 (.lenL (.t 5)),Bi 7 .neq 6 3]) (.cond (.t 7) (.ret) (.skip))) (.seq (.draw2 [Dv 8 (.fadr 0 (.t 2)) [2],Dr 9 (.ld 1 false (.t 8)) [8] 0 0,Dm 10 1,Dv 11 (.s2a 3 (.t 10)) [10],Dr 12 (.ld 12 true (.t 11)) [11] 0 0,Dc 13 (.call zaB [.t 9,.t 12]) [9,12],ic 4 (.alloc (zaS (.int .u64 0) 12)),Dn (.st 12 (.t 4) (.t 13)) [4,13]] [Dv 8 (.fadr 0 (.t 2)) [2],Dr 9 (.ld 1 false (.t 8)) [8] 0 1,Dm 10 1,Dv 11 (.s2a 3 (.t 10)) [10],Dr 12 (.ld 12 true (.t 11)) [11] 0 1,ic 4 (.alloc (zaS (.int .u64 0) 12)),Dc 13 (.call zaB [.t 9,.t 12]) [9,12],Dn (.st 12 (.t 4) (.t 13)) [4,13]] [(0,0),(1,1),(2,2),(3,3),(4,4)]) (.reg [Mv 14 1,iv 15 (.slice (.arr 3) 4 (.t 4) none none none),ic 16 (.copy 4 (.t 14) (.t 15))])))
def zg0:AFn:=⟨17,zep,[]⟩
def zfz:AC:=.seq (.reg [iv 1 (.boxv (.t 0)),iv 2 (.mv (.k (.int .i64 0)))]) (.seq (.reg [iv 2 (.mv (.k (.int .i64 2)))]) (.ret))
def ziB:AFn:=⟨3,zfz,[.tmp 2]⟩
def ze5:AC:=.seq (.reg [iv 1 (.boxv (.t 0)),iv 2 (.mv (.k (.int .i64 0)))]) (.seq (.reg [iv 2 (.mv (.k (.int .i64 3)))]) (.ret))
def zh7:AFn:=⟨3,ze5,[.tmp 2]⟩
def zuW:AC:=.reg [iv 0 (.build (zaS (.int .u64 0) 24) [(0,1,.k (.int .u64 1)),(1,1,.k (.int .u64 32898)),(2,1,.k (.int .u64 9223372036854808714)),(3,1,.k (.int .u64 9223372039002292224)),(4,1,.k (.int .u64 32907)),(5,1,.k (.int .u64 2147483649)),(6,1,.k (.int .u64 9223372039002292353)),(7,1,.k (.int .u64 9223372036854808585)),(8,1,.k (.int .u64 138)),(9,1,.k (.int .u64 136)),(10,1,.k (.int .u64 2147516425)),(11,1,.k (.int .u64 2147483658)),(12,1,.k (.int .u64 2147516555)),(13,1,.k (.int .u64 9223372036854775947)),(14,1,.k (.int .u64 9223372036854808713)),(15,1,.k (.int .u64 9223372036854808579)),(16,1,.k (.int .u64 9223372036854808578)),(17,1,.k (.int .u64 9223372036854775936)),(18,1,.k (.int .u64 32778)),(19,1,.k (.int .u64 9223372039002259466)),(20,1,.k (.int .u64 9223372039002292353)),(21,1,.k (.int .u64 9223372036854808704)),(22,1,.k (.int .u64 2147483649)),(23,1,.k (.int .u64 9223372039002292232))]),jc (.st 24 (.g 0) (.t 0))]
def zoD:AFn:=⟨1,zuW,[]⟩
def zXN:FuncId→Option AFn
  | 2=>some zoF
  | 3=>some zib
  | 4=>some zkj
  | 5=>some zsW
  | 6=>some zrA
  | 7=>some zg1
  | 8=>some zdZ
  | 9=>some zg2
  | 10=>some zd0
  | 11=>some ziD
  | 12=>some zoG
  | 13=>some zjw
  | 14=>some zs0
  | 15=>some zjx
  | 16=>some zhN
  | 17=>some ziE
  | 18=>some zmI
  | 19=>some zg4
  | 20=>some zdp
  | 21=>some zfU
  | 22=>some zBf
  | 23=>some zpG
  | 24=>some zpH
  | 25=>some zhO
  | 26=>some zmN
  | 27=>some zid
  | 28=>some zcu
  | 29=>some zjy
  | 30=>some zkZ
  | 31=>some zmP
  | 32=>some zjz
  | 33=>some zoH
  | 34=>some ziF
  | 35=>some zhQ
  | 36=>some zie
  | 37=>some znm
  | 38=>some zko
  | 39=>some zjF
  | 40=>some zha
  | 41=>some zdr
  | 42=>some zf2
  | 43=>some zlj
  | 44=>some zuQ
  | 45=>some zoK
  | 46=>some zhb
  | 47=>some zrK
  | 48=>some zjI
  | 49=>some zuR
  | 50=>some zlk
  | 51=>some zll
  | 52=>some znp
  | 53=>some zqn
  | 54=>some zl4
  | 55=>some ztG
  | 56=>some zyA
  | 57=>some ztH
  | 58=>some zjK
  | 59=>some zuS
  | 60=>some zlo
  | 61=>some zjN
  | 62=>some zjS
  | 63=>some zoP
  | 64=>some znu
  | 65=>some zl7
  | 66=>some zjT
  | 67=>some znv
  | 68=>some znw
  | 69=>some zjU
  | 70=>some ztP
  | 71=>some zlw
  | 72=>some znA
  | 73=>some zqv
  | 74=>some znC
  | 75=>some zlz
  | 76=>some znE
  | 77=>some znF
  | 78=>some znG
  | 79=>some zgi
  | 80=>some zku
  | 81=>some ztR
  | 82=>some zuU
  | 83=>some zw3
  | 84=>some zjY
  | 85=>some zlD
  | 86=>some zlE
  | 87=>some znL
  | 88=>some zlF
  | 89=>some zuM
  | 90=>some ztq
  | 91=>some zm6
  | 92=>some ziH
  | 93=>some zkl
  | 94=>some zqb
  | 95=>some zuO
  | 97=>some zk9
  | 98=>some zrG
  | 99=>some zm7
  | 100=>some zm8
  | 101=>some zoJ
  | 102=>some zm9
  | 103=>some zlb
  | 104=>some ziJ
  | 105=>some zl1
  | 106=>some zne
  | 107=>some znf
  | 108=>some zng
  | 109=>some ziK
  | 110=>some zlf
  | 111=>some zlg
  | 112=>some zuP
  | 113=>some zhV
  | 114=>some zkn
  | 115=>some znl
  | 116=>some zyv
  | 117=>some zyB
  | 119=>some zoL
  | 120=>some zlp
  | 121=>some zl5
  | 122=>some zjP
  | 123=>some zlq
  | 124=>some zjQ
  | 125=>some zkq
  | 126=>some zkr
  | 127=>some zl6
  | 128=>some znq
  | 129=>some zls
  | 130=>some zCj
  | 131=>some zwS
  | 132=>some zhY
  | 133=>some zns
  | 153=>some ziL
  | 154=>some zlt
  | 155=>some zks
  | 156=>some zoN
  | 157=>some ze3
  | 158=>some zgb
  | 159=>some zfM
  | 160=>some zex
  | 161=>some zlu
  | 162=>some zoO
  | 163=>some zjR
  | 165=>some zqs
  | 166=>some zwW
  | 167=>some ziM
  | 168=>some ziN
  | 169=>some zkN
  | 170=>some zkO
  | 171=>some zh2
  | 173=>some zrx
  | 174=>some zmy
  | 175=>some zlU
  | 176=>some zh4
  | 177=>some zsP
  | 178=>some zkP
  | 179=>some zlV
  | 180=>some zmz
  | 181=>some zvK
  | 183=>some zmA
  | 184=>some zkQ
  | 185=>some zhM
  | 186=>some zkR
  | 190=>some zmC
  | 198=>some zgZ
  | 206=>some zg0
  | 207=>some ziB
  | 208=>some zh7
  | 215=>some zoD
  | _=>none
def zWF:FuncId→Av.Mode
  | 5=>⟨false,false,true,false⟩
  | 6=>⟨false,false,true,false⟩
  | 20=>⟨false,false,false,false⟩
  | 21=>⟨false,false,false,false⟩
  | 23=>⟨false,false,true,false⟩
  | 25=>⟨false,false,true,false⟩
  | 26=>⟨false,false,true,false⟩
  | 27=>⟨true,false,false,false⟩
  | 28=>⟨true,false,false,false⟩
  | 41=>⟨false,false,false,false⟩
  | 42=>⟨false,false,false,false⟩
  | 45=>⟨false,false,true,false⟩
  | 46=>⟨false,false,true,false⟩
  | 47=>⟨false,false,true,false⟩
  | 49=>⟨true,false,false,false⟩
  | 54=>⟨true,false,false,false⟩
  | 56=>⟨true,false,false,false⟩
  | 58=>⟨true,false,false,false⟩
  | 59=>⟨true,false,false,false⟩
  | 60=>⟨false,false,true,false⟩
  | 64=>⟨false,false,false,true⟩
  | 68=>⟨true,false,false,false⟩
  | 71=>⟨false,false,false,false⟩
  | 74=>⟨true,false,false,false⟩
  | 79=>⟨true,false,false,false⟩
  | 80=>⟨true,false,false,false⟩
  | 83=>⟨true,false,false,false⟩
  | 90=>⟨false,false,false,true⟩
  | 91=>⟨false,false,false,false⟩
  | 97=>⟨true,false,false,false⟩
  | 116=>⟨true,false,false,false⟩
  | 117=>⟨true,false,false,false⟩
  | 130=>⟨true,false,false,false⟩
  | 131=>⟨true,false,false,false⟩
  | 153=>⟨false,false,false,false⟩
  | 157=>⟨false,false,false,false⟩
  | 158=>⟨false,false,false,false⟩
  | 159=>⟨false,false,false,false⟩
  | 160=>⟨false,false,false,false⟩
  | 166=>⟨false,false,true,false⟩
  | 167=>⟨false,false,false,false⟩
  | 177=>⟨false,false,false,false⟩
  | 178=>⟨false,false,false,false⟩
  | 179=>⟨false,false,false,false⟩
  | 186=>⟨true,false,false,false⟩
  | 206=>⟨false,false,false,false⟩
  | _=>Mode.pure
def zSZ:Nat→Option (List zaa)
  | 0=>some ([.int .u64 1,.int .u64 32898,.int .u64 9223372036854808714,.int .u64 9223372039002292224,.int .u64 32907,.int .u64 2147483649,.int .u64 9223372039002292353,.int .u64 9223372036854808585,.int .u64 138,.int .u64 136,.int .u64 2147516425,.int .u64 2147483658,.int .u64 2147516555,.int .u64 9223372036854775947,.int .u64 9223372036854808713,.int .u64 9223372036854808579,.int .u64 9223372036854808578,.int .u64 9223372036854775936,.int .u64 32778,.int .u64 9223372039002259466,.int .u64 9223372039002292353,.int .u64 9223372036854808704,.int .u64 2147483649,.int .u64 9223372039002292232])
  | _=>none
def zPC:List (TypeId × String × FuncId):=[(101,"Width",zdf),(101,"Rate",zdK),(101,"Permute",zcy),(107,"Width",zcg),(107,"Rate",zcz),(107,"Permute",zbL)]
def zWG (t:TypeId) (n:String):Option (List (Nat × Nat × Bool) × FuncId):=(zPC.find? fun r=>r.1==t&&r.2.1==n).map fun r=>([],r.2.2)
def zWI:FuncId→Option zQZ
  | 96=>some (zUo)
  | 118=>some (zSM)
  | 164=>some (zvN)
  | _=>none
def ctx:Ctx:={fns:=zXN,mode:=zWF,glob:=zSZ,meth:=zWG,ext:=zWI,qinv:=fun n=>n== "Width"||n== "Rate"}
abbrev zal (f:FuncId) (m:Mode) (n:Nat) (c:AC) (r:List zBS):Prop:=∀ (L:Lim) (a:List zaa) (h:zab),zag ctx L f a h=zI2 ctx L m h n c r (zqq m h a)
theorem zrR:ctx.ext zdw=some (zUo):=rfl
theorem zrS:ctx.ext zdx=some (zSM):=rfl
@[simp] theorem zLy:ctx.meth 101 "Width"=some ([],zdf):=rfl
@[simp] theorem zLY:ctx.meth 101 "Rate"=some ([],zdK):=rfl
@[simp] theorem zHr:ctx.meth 101 "Permute"=some ([],zcy):=rfl
@[simp] theorem zLz:ctx.meth 107 "Width"=some ([],zcg):=rfl
@[simp] theorem zL2:ctx.meth 107 "Rate"=some ([],zcz):=rfl
@[simp] theorem zHs:ctx.meth 107 "Permute"=some ([],zbL):=rfl
theorem zlH:zal zdk Mode.pure 138 ze7 [.tmp 4]:=fun L a h=>zad h L rfl rfl a
@[simp] theorem zvP:zac ctx zdk=true:=rfl
theorem znR:zal zeD Mode.pure 30 zgN [.tmp 0]:=fun L a h=>zad h L rfl rfl a
@[simp] theorem zx2:zac ctx zeD=true:=rfl
theorem zuX:zal zkF (⟨false,false,true,false⟩) 6 znT [.tmp 2]:=fun L a h=>zad h L rfl rfl a
@[simp] theorem zF1:zac ctx zkF=false:=rfl
theorem zt0:zal zjo (⟨false,false,true,false⟩) 8 zmb [.tmp 2]:=fun L a h=>zad h L rfl rfl a
@[simp] theorem zEN:zac ctx zjo=false:=rfl
theorem zky:zal zbI Mode.pure 7 zeq [.tmp 2]:=fun L a h=>zad h L rfl rfl a
@[simp] theorem zu2:zac ctx zbI=true:=rfl
theorem zgP:zal zaL Mode.pure 7 zb0 [.tmp 2]:=fun L a h=>zad h L rfl rfl a
@[simp] theorem zqM:zac ctx zaL=true:=rfl
theorem zkz:zal zbJ Mode.pure 8 zer [.tmp 2]:=fun L a h=>zad h L rfl rfl a
@[simp] theorem zu3:zac ctx zbJ=true:=rfl
theorem zgQ:zal zaM Mode.pure 8 zb1 [.tmp 2]:=fun L a h=>zad h L rfl rfl a
@[simp] theorem zqN:zac ctx zaM=true:=rfl
theorem zmi:zal zcw Mode.pure 6 zfA [.tmp 2]:=fun L a h=>zad h L rfl rfl a
@[simp] theorem zxa:zac ctx zcw=true:=rfl
theorem zso:zal zc8 Mode.pure 14 zj1 [.tmp 4]:=fun L a h=>zad h L rfl rfl a
@[simp] theorem zCT:zac ctx zc8=true:=rfl
theorem zmU:zal zbT Mode.pure 6 zfS [.tmp 2]:=fun L a h=>zad h L rfl rfl a
@[simp] theorem zxA:zac ctx zbT=true:=rfl
theorem zu4:zal zim Mode.pure 5 znX [.cell 2 4 true]:=fun L a h=>zad h L rfl rfl a
@[simp] theorem zGw:zac ctx zim=true:=rfl
theorem zmV:zal zeg Mode.pure 11 zfT [.cell 2 4 true]:=fun L a h=>zad h L rfl rfl a
@[simp] theorem zxB:zac ctx zeg=true:=rfl
theorem zk3:zal zcZ Mode.pure 36 zeJ [.cell 4 4 true,.tmp 5]:=fun L a h=>zad h L rfl rfl a
@[simp] theorem zvs:zac ctx zcZ=true:=rfl
theorem zmj:zal zdR Mode.pure 16 zfB [.cell 4 6 true]:=fun L a h=>zad h L rfl rfl a
@[simp] theorem zxb:zac ctx zdR=true:=rfl
theorem zrh:zal zgC Mode.pure 30 ziP [.cell 0 2 true]:=fun L a h=>zad h L rfl rfl a
@[simp] theorem zBw:zac ctx zgC=true:=rfl
theorem zkA:zal zcL Mode.pure 36 zes [.cell 4 6 true,.tmp 5]:=fun L a h=>zad h L rfl rfl a
@[simp] theorem zu5:zac ctx zcL=true:=rfl
theorem zfY:zal zaE (⟨false,false,false,false⟩) 47 zbG [.tmp 4]:=fun L a h=>zad h L rfl rfl a
@[simp] theorem zpm:zac ctx zaE=false:=rfl
theorem zjA:zal zbh (⟨false,false,false,false⟩) 47 zdA [.tmp 4]:=fun L a h=>zad h L rfl rfl a
@[simp] theorem zuc:zac ctx zbh=false:=rfl
theorem zp5:zal zlm Mode.pure 36 zkW [.cell 4 32 true,.tmp 5,.tmp 6]:=fun L a h=>zad h L rfl rfl a
@[simp] theorem zNa:zac ctx zlm=true:=rfl
theorem ztm:zal zin (⟨false,false,true,false⟩) 14 zkX [.tmp 4]:=fun L a h=>zad h L rfl rfl a
@[simp] theorem zDN:zac ctx zin=false:=rfl
theorem ztn:zal zio Mode.pure 3 zkY [.tmp 0]:=fun L a h=>zad h L rfl rfl a
@[simp] theorem zDO:zac ctx zio=true:=rfl
theorem zk4:zal zc0 (⟨false,false,true,false⟩) 14 zeK [.tmp 4]:=fun L a h=>zad h L rfl rfl a
@[simp] theorem zvu:zac ctx zc0=false:=rfl
theorem zri:zal zgD (⟨false,false,true,false⟩) 4 ziS [.tmp 0]:=fun L a h=>zad h L rfl rfl a
@[simp] theorem zBF:zac ctx zgD=false:=rfl
theorem zlL:zal zdl (⟨true,false,false,false⟩) 8 ze8 [.tmp 2]:=fun L a h=>zad h L rfl rfl a
@[simp] theorem zwm:zac ctx zdl=true:=rfl
theorem ze1:zal zaH (⟨true,false,false,false⟩) 8 zba [.tmp 2]:=fun L a h=>zad h L rfl rfl a
@[simp] theorem zmZ:zac ctx zaH=true:=rfl
theorem zm0:zal zei Mode.pure 10 zfV [.cell 2 32 true]:=fun L a h=>zad h L rfl rfl a
@[simp] theorem zxD:zac ctx zei=true:=rfl
theorem zo2:zal zfq Mode.pure 6 zhp [.tmp 2]:=fun L a h=>zad h L rfl rfl a
@[simp] theorem zzK:zac ctx zfq=true:=rfl
theorem zrj:zal zgE Mode.pure 6 ziU [.tmp 2]:=fun L a h=>zad h L rfl rfl a
@[simp] theorem zBJ:zac ctx zgE=true:=rfl
theorem zm1:zal zej Mode.pure 35 zfW [.tmp 2]:=fun L a h=>zad h L rfl rfl a
@[simp] theorem zxE:zac ctx zej=true:=rfl
theorem zk5:zal zfx Mode.pure 19 zj2 [.cell 2 4 true]:=fun L a h=>zad h L rfl rfl a
@[simp] theorem zCU:zac ctx zfx=true:=rfl
theorem zmm:zal zdS Mode.pure 20 zfC [.cell 2 4 true,.tmp 3]:=fun L a h=>zad h L rfl rfl a
@[simp] theorem zxc:zac ctx zdS=true:=rfl
theorem zk6:zal zc1 Mode.pure 14 zeM [.cell 2 4 true]:=fun L a h=>zad h L rfl rfl a
@[simp] theorem zvv:zac ctx zc1=true:=rfl
theorem zlM:zal zdm Mode.pure 23 ze9 [.cell 4 6 true,.tmp 5]:=fun L a h=>zad h L rfl rfl a
@[simp] theorem zwp:zac ctx zdm=true:=rfl
theorem zrk:zal zgF Mode.pure 67 zi7 [.cell 8 80 true,.tmp 9]:=fun L a h=>zad h L rfl rfl a
@[simp] theorem zBL:zac ctx zgF=true:=rfl
theorem zod:zal zeF Mode.pure 30 zgT [.tmp 0]:=fun L a h=>zad h L rfl rfl a
@[simp] theorem zyk:zac ctx zeF=true:=rfl
theorem zm2:zal zek Mode.pure 47 zf1 [.cell 2 80 true,.tmp 3]:=fun L a h=>zad h L rfl rfl a
@[simp] theorem zxF:zac ctx zek=true:=rfl
theorem zkB:zal zbK Mode.pure 14 zeu [.cell 2 6 true]:=fun L a h=>zad h L rfl rfl a
@[simp] theorem zu6:zac ctx zbK=true:=rfl
theorem zfZ:zal za1 (⟨false,false,false,false⟩) 23 zbH []:=fun L a h=>zad h L rfl rfl a
@[simp] theorem zpn:zac ctx za1=false:=rfl
theorem zjC:zal zca (⟨false,false,false,false⟩) 23 zdG []:=fun L a h=>zad h L rfl rfl a
@[simp] theorem zui:zac ctx zca=false:=rfl
theorem zo3:zal zfr Mode.pure 34 zhw [.tmp 2,.tmp 3,.tmp 4]:=fun L a h=>zad h L rfl rfl a
@[simp] theorem zzQ:zac ctx zfr=true:=rfl
theorem zws:zal zjL Mode.pure 16 zqj [.cell 2 32 true]:=fun L a h=>zad h L rfl rfl a
@[simp] theorem zHw:zac ctx zjL=true:=rfl
theorem zst:zal zhf (⟨false,false,true,false⟩) 33 zkb [.tmp 4,.tmp 5]:=fun L a h=>zad h L rfl rfl a
@[simp] theorem zCV:zac ctx zhf=false:=rfl
theorem zkC:zal zcM (⟨false,false,true,false⟩) 33 zev [.tmp 4,.tmp 5]:=fun L a h=>zad h L rfl rfl a
@[simp] theorem zu7:zac ctx zcM=false:=rfl
theorem zuk:zal zjp (⟨false,false,true,false⟩) 3 zmu [.tmp 0]:=fun L a h=>zad h L rfl rfl a
@[simp] theorem zFj:zac ctx zjp=false:=rfl
theorem zm5:zal zel Mode.pure 7 zf3 [.cell 2 4 true]:=fun L a h=>zad h L rfl rfl a
@[simp] theorem zxH:zac ctx zel=true:=rfl
theorem zwY:zal zjM (⟨true,false,false,false⟩) 24 zqk [.tmp 2]:=fun L a h=>zad h L rfl rfl a
@[simp] theorem zHy:zac ctx zjM=true:=rfl
theorem zpd:zal zdH Mode.pure 31 zhx [.tmp 2]:=fun L a h=>zad h L rfl rfl a
@[simp] theorem zAf:zac ctx zdH=true:=rfl
theorem zpe:zal zbP Mode.pure 29 zhy [.tmp 4]:=fun L a h=>zad h L rfl rfl a
@[simp] theorem zAg:zac ctx zbP=true:=rfl
theorem zro:zal zgH Mode.pure 68 zi9 [.tmp 4]:=fun L a h=>zad h L rfl rfl a
@[simp] theorem zCx:zac ctx zgH=true:=rfl
theorem ztO:zal zb4 Mode.pure 2 zln [.tmp 0]:=fun L a h=>zad h L rfl rfl a
@[simp] theorem zEs:zac ctx zb4=true:=rfl
theorem zqt:zal zau (⟨true,false,false,false⟩) 21 zip [.tmp 2]:=fun L a h=>zad h L rfl rfl a
@[simp] theorem zAH:zac ctx zau=true:=rfl
theorem zvc:zal zdi Mode.pure 2 zoo [.cell 0 4 true]:=fun L a h=>zad h L rfl rfl a
@[simp] theorem zHh:zac ctx zdi=true:=rfl
theorem zAj:zal zqP (⟨true,false,false,false⟩) 88 zuu [.tmp 2,.tmp 3]:=fun L a h=>zad h L rfl rfl a
@[simp] theorem zLH:zac ctx zqP=true:=rfl
theorem zvd:zal zgo Mode.pure 16 zop [.cell 2 4 true]:=fun L a h=>zad h L rfl rfl a
@[simp] theorem zHi:zac ctx zgo=true:=rfl
theorem znx:zal zd6 (⟨true,false,false,false⟩) 33 zf5 [.tmp 4]:=fun L a h=>zad h L rfl rfl a
@[simp] theorem zxQ:zac ctx zd6=true:=rfl
theorem zwZ:zal zhS (⟨true,false,false,false⟩) 33 zqo [.tmp 2]:=fun L a h=>zad h L rfl rfl a
@[simp] theorem zHA:zac ctx zhS=true:=rfl
theorem zpf:zal zfc (⟨false,false,true,false⟩) 28 zhz [.tmp 2]:=fun L a h=>zad h L rfl rfl a
@[simp] theorem zAk:zac ctx zfc=false:=rfl
theorem zny:zal zd7 Mode.pure 16 zf6 [.cell 2 25 true]:=fun L a h=>zad h L rfl rfl a
@[simp] theorem zxR:zac ctx zd7=true:=rfl
theorem znz:zal zd8 Mode.pure 28 zgf [.cell 2 25 true]:=fun L a h=>zad h L rfl rfl a
@[simp] theorem zxS:zac ctx zd8=true:=rfl
theorem zsI:zal zc7 Mode.pure 15 zkg [.tmp 6]:=fun L a h=>zad h L rfl rfl a
@[simp] theorem zC1:zac ctx zc7=true:=rfl
theorem zkt:zal zao (⟨false,false,false,true⟩) 31 zgJ [.tmp 6]:=fun L a h=>zad h L rfl rfl a
@[simp] theorem zCA:zac ctx zao=false:=rfl
theorem zqu:zal zcS Mode.pure 38 ziw [.cell 2 80 true,.tmp 3]:=fun L a h=>zad h L rfl rfl a
@[simp] theorem zAI:zac ctx zcS=true:=rfl
theorem znB:zal zcN Mode.pure 8 zgg [.tmp 2]:=fun L a h=>zad h L rfl rfl a
@[simp] theorem zxU:zac ctx zcN=true:=rfl
theorem zrp:zal zgp Mode.pure 22 zje [.cell 2 80 true,.tmp 3]:=fun L a h=>zad h L rfl rfl a
@[simp] theorem zCC:zac ctx zgp=true:=rfl
theorem zrq:zal zdt (⟨true,false,false,false⟩) 29 zjf [.tmp 4]:=fun L a h=>zad h L rfl rfl a
@[simp] theorem zCD:zac ctx zdt=true:=rfl
theorem znD:zal zd9 Mode.pure 15 zgh [.tmp 4]:=fun L a h=>zad h L rfl rfl a
@[simp] theorem zxV:zac ctx zd9=true:=rfl
theorem zve:zal zkE Mode.pure 29 zoy [.tmp 2,.tmp 3]:=fun L a h=>zad h L rfl rfl a
@[simp] theorem zHm:zac ctx zkE=true:=rfl
theorem zpg:zal zfd (⟨false,false,false,false⟩) 43 zhG []:=fun L a h=>zad h L rfl rfl a
@[simp] theorem zAn:zac ctx zfd=false:=rfl
theorem zrr:zal zeP Mode.pure 19 zjg [.cell 2 32 true]:=fun L a h=>zad h L rfl rfl a
@[simp] theorem zCE:zac ctx zeP=true:=rfl
theorem ztQ:zal zeQ Mode.pure 91 zlx [.cell 4 4 true]:=fun L a h=>zad h L rfl rfl a
@[simp] theorem zEv:zac ctx zeQ=true:=rfl
theorem zrs:zal zaF (⟨true,false,false,false⟩) 13 zgK [.tmp 4]:=fun L a h=>zad h L rfl rfl a
@[simp] theorem zCG:zac ctx zaF=true:=rfl
theorem zph:zal zfe Mode.pure 18 zhH [.tmp 4]:=fun L a h=>zad h L rfl rfl a
@[simp] theorem zAp:zac ctx zfe=true:=rfl
theorem zrt:zal zeR Mode.pure 44 zgL [.tmp 4]:=fun L a h=>zad h L rfl rfl a
@[simp] theorem zCI:zac ctx zeR=true:=rfl
theorem zru:zal zeS Mode.pure 65 zji [.tmp 4]:=fun L a h=>zad h L rfl rfl a
@[simp] theorem zCK:zac ctx zeS=true:=rfl
theorem zrv:zal zdu Mode.pure 39 zjj [.tmp 4]:=fun L a h=>zad h L rfl rfl a
@[simp] theorem zCL:zac ctx zdu=true:=rfl
theorem zjW:zal zb7 (⟨true,false,false,false⟩) 8 zdM [.tmp 2]:=fun L a h=>zad h L rfl rfl a
@[simp] theorem zuC:zac ctx zb7=true:=rfl
theorem zoC:zal zdd (⟨true,false,false,false⟩) 34 zgX [.tmp 6]:=fun L a h=>zad h L rfl rfl a
@[simp] theorem zyK:zac ctx zdd=true:=rfl
theorem zvf:zal zgq Mode.pure 15 zkJ [.cell 2 4 true]:=fun L a h=>zad h L rfl rfl a
@[simp] theorem zHp:zac ctx zgq=true:=rfl
theorem zw5:zal zjD Mode.pure 25 zqy [.cell 4 4 true]:=fun L a h=>zad h L rfl rfl a
@[simp] theorem zHC:zac ctx zjD=true:=rfl
theorem zxX:zal zla (⟨true,false,false,false⟩) 24 zsL [.tmp 2]:=fun L a h=>zad h L rfl rfl a
@[simp] theorem zLw:zac ctx zla=true:=rfl
theorem znK:zal zea Mode.pure 33 zgj [.cell 2 1600 true]:=fun L a h=>zad h L rfl rfl a
@[simp] theorem zxY:zac ctx zea=true:=rfl
theorem zpi:zal zff Mode.pure 32 zhI [.cell 4 1600 true]:=fun L a h=>zad h L rfl rfl a
@[simp] theorem zAy:zac ctx zff=true:=rfl
theorem zpj:zal zfg Mode.pure 33 zhJ [.cell 2 25 true]:=fun L a h=>zad h L rfl rfl a
@[simp] theorem zAz:zac ctx zfg=true:=rfl
theorem zrw:zal zgr Mode.pure 26 zjk [.tmp 4]:=fun L a h=>zad h L rfl rfl a
@[simp] theorem zCO:zac ctx zgr=true:=rfl
theorem zpk:zal zfh Mode.pure 44 zhK [.tmp 6]:=fun L a h=>zad h L rfl rfl a
@[simp] theorem zAA:zac ctx zfh=true:=rfl
theorem zw6:zal zl0 Mode.pure 36 zqz [.tmp 2]:=fun L a h=>zad h L rfl rfl a
@[simp] theorem zHE:zac ctx zl0=true:=rfl
theorem zoE:zal zeb (⟨false,false,false,true⟩) 22 zkD [.tmp 6]:=fun L a h=>zad h L rfl rfl a
@[simp] theorem zF3:zac ctx zeb=false:=rfl
theorem zq0:zal zbR (⟨false,false,false,false⟩) 23 ziZ []:=fun L a h=>zad h L rfl rfl a
@[simp] theorem zAX:zac ctx zbR=false:=rfl
theorem zma:zal zbB Mode.pure 12 zfD [.cell 2 25 true]:=fun L a h=>zad h L rfl rfl a
@[simp] theorem zw7:zac ctx zbB=true:=rfl
theorem znS:zal zde Mode.pure 7 zgR [.cell 2 200 true]:=fun L a h=>zad h L rfl rfl a
@[simp] theorem zx3:zac ctx zde=true:=rfl
theorem zsU:zal zij Mode.pure 16 zk8 [.tmp 0]:=fun L a h=>zad h L rfl rfl a
@[simp] theorem zDe:zac ctx zij=true:=rfl
theorem zvT:zal zhT Mode.pure 38 zqc [.tmp 8,.tmp 9]:=fun L a h=>zad h L rfl rfl a
@[simp] theorem zHt:zac ctx zhT=true:=rfl
theorem ziC:zal zdC (⟨true,false,false,false⟩) 31 zdB [.tmp 6]:=fun L a h=>zad h L rfl rfl a
@[simp] theorem zy3:zac ctx zdC=true:=rfl
theorem zt1:zal zg8 Mode.pure 26 zmn [.cell 4 4 true,.tmp 5]:=fun L a h=>zad h L rfl rfl a
@[simp] theorem zEQ:zac ctx zg8=true:=rfl
theorem zq1:zal zgs Mode.pure 25 za7 [.tmp 2]:=fun L a h=>zad h L rfl rfl a
@[simp] theorem zA2:zac ctx zgs=true:=rfl
theorem zq2:zal zgt Mode.pure 56 zi0 [.cell 2 1600 true]:=fun L a h=>zad h L rfl rfl a
@[simp] theorem zA3:zac ctx zgt=true:=rfl
theorem zrW:zal zhc Mode.pure 30 zj8 [.cell 2 1600 true]:=fun L a h=>zad h L rfl rfl a
@[simp] theorem zCQ:zac ctx zhc=true:=rfl
theorem zq3:zal zgu Mode.pure 51 zi1 [.cell 2 1600 true]:=fun L a h=>zad h L rfl rfl a
@[simp] theorem zA4:zac ctx zgu=true:=rfl
theorem zoS:zal zfj Mode.pure 88 zhs [.cell 2 1600 true]:=fun L a h=>zad h L rfl rfl a
@[simp] theorem zy5:zac ctx zfj=true:=rfl
theorem zmc:zal zdO Mode.pure 29 zfE [.cell 2 64 true]:=fun L a h=>zad h L rfl rfl a
@[simp] theorem zw8:zac ctx zdO=true:=rfl
theorem zpz:zal zfK Mode.pure 20 zik [.tmp 2]:=fun L a h=>zad h L rfl rfl a
@[simp] theorem zAC:zac ctx zfK=true:=rfl
theorem zq5:zal zbo Mode.pure 63 zi2 [.tmp 4]:=fun L a h=>zad h L rfl rfl a
@[simp] theorem zA8:zac ctx zbo=true:=rfl
theorem zq6:zal zeT Mode.pure 21 zi3 [.tmp 4]:=fun L a h=>zad h L rfl rfl a
@[simp] theorem zA9:zac ctx zeT=true:=rfl
theorem zq8:zal zeU Mode.pure 17 zgw [.tmp 4]:=fun L a h=>zad h L rfl rfl a
@[simp] theorem zBb:zac ctx zeU=true:=rfl
theorem zmg:zal zdP Mode.pure 21 zcv [.tmp 6]:=fun L a h=>zad h L rfl rfl a
@[simp] theorem zw9:zac ctx zdP=true:=rfl
theorem zoT:zal zfk Mode.pure 12 zht [.tmp 2]:=fun L a h=>zad h L rfl rfl a
@[simp] theorem zza:zac ctx zfk=true:=rfl
theorem zoU:zal zfl Mode.pure 38 zhu [.tmp 4]:=fun L a h=>zad h L rfl rfl a
@[simp] theorem zzb:zac ctx zfl=true:=rfl
theorem zvX:zal zl2 Mode.pure 14 zqh [.tmp 2,.tmp 3]:=fun L a h=>zad h L rfl rfl a
@[simp] theorem zHu:zac ctx zl2=true:=rfl
theorem zkU:zal zcX Mode.pure 9 zeW [.tmp 4]:=fun L a h=>zad h L rfl rfl a
@[simp] theorem zvo:zac ctx zcX=true:=rfl
theorem znY:zal zez Mode.pure 16 zgS [.cell 4 25 true]:=fun L a h=>zad h L rfl rfl a
@[simp] theorem zx5:zac ctx zez=true:=rfl
theorem zq9:zal zgx Mode.pure 51 zi4 [.tmp 4,.tmp 5]:=fun L a h=>zad h L rfl rfl a
@[simp] theorem zBe:zac ctx zgx=true:=rfl
theorem zze:zal zqR (⟨true,false,false,false⟩) 27 zuq [.tmp 4]:=fun L a h=>zad h L rfl rfl a
@[simp] theorem zLA:zac ctx zqR=true:=rfl
theorem zzg:zal zqS (⟨true,false,false,false⟩) 11 zur [.tmp 4,.tmp 5]:=fun L a h=>zad h L rfl rfl a
@[simp] theorem zLB:zac ctx zqS=true:=rfl
theorem zr4:zal zhe Mode.pure 39 zkd [.tmp 2]:=fun L a h=>zad h L rfl rfl a
@[simp] theorem zCR:zac ctx zhe=true:=rfl
theorem zoV:zal zdF Mode.pure 23 zhA [.cell 2 9 true]:=fun L a h=>zad h L rfl rfl a
@[simp] theorem zzi:zac ctx zdF=true:=rfl
theorem zpI:zal zec Mode.pure 33 ziq [.cell 6 9 true]:=fun L a h=>zad h L rfl rfl a
@[simp] theorem zAD:zac ctx zec=true:=rfl
theorem zmM:zal zed Mode.pure 24 zf7 [.tmp 4]:=fun L a h=>zad h L rfl rfl a
@[simp] theorem zxn:zac ctx zed=true:=rfl
theorem zoW:zal zfn Mode.pure 30 zhB [.cell 4 9 true]:=fun L a h=>zad h L rfl rfl a
@[simp] theorem zzl:zac ctx zfn=true:=rfl
theorem zmO:zal zee Mode.pure 19 zf8 [.tmp 4]:=fun L a h=>zad h L rfl rfl a
@[simp] theorem zxo:zac ctx zee=true:=rfl
theorem zn1:zal zeB Mode.pure 45 zgU [.cell 2 25 true]:=fun L a h=>zad h L rfl rfl a
@[simp] theorem zx9:zac ctx zeB=true:=rfl
theorem zn2:zal zeC Mode.pure 42 zgV [.cell 2 25 true]:=fun L a h=>zad h L rfl rfl a
@[simp] theorem zya:zac ctx zeC=true:=rfl
theorem zpJ:zal zfL Mode.pure 36 zis [.cell 2 25 true]:=fun L a h=>zad h L rfl rfl a
@[simp] theorem zAE:zac ctx zfL=true:=rfl
theorem zrb:zal zgy Mode.pure 12 zjc [.tmp 2]:=fun L a h=>zad h L rfl rfl a
@[simp] theorem zBg:zac ctx zgy=true:=rfl
theorem zoX:zal zfo Mode.pure 20 zdI [.tmp 4]:=fun L a h=>zad h L rfl rfl a
@[simp] theorem zzp:zac ctx zfo=true:=rfl
theorem zBh:zal zli (⟨true,false,false,false⟩) 13 ztK [.tmp 4]:=fun L a h=>zad h L rfl rfl a
@[simp] theorem zMD:zac ctx zli=true:=rfl
theorem zxp:zal zok (⟨true,false,false,false⟩) 40 zsF [.tmp 6,.tmp 7]:=fun L a h=>zad h L rfl rfl a
@[simp] theorem zI0:zac ctx zok=true:=rfl
theorem zk0:zal zbW Mode.pure 17 zeY [.tmp 4]:=fun L a h=>zad h L rfl rfl a
@[simp] theorem zvq:zac ctx zbW=true:=rfl
theorem zrl:zal zeZ Mode.pure 6 zjd [.tmp 2]:=fun L a h=>zad h L rfl rfl a
@[simp] theorem zB5:zac ctx zeZ=true:=rfl
theorem zms:zal zcy (⟨false,false,false,false⟩) 20 zfF []:=fun L a h=>zad h L rfl rfl a
@[simp] theorem zxe:zac ctx zcy=false:=rfl
theorem zo7:zal zdK Mode.pure 3 zhC [.tmp 2]:=fun L a h=>zad h L rfl rfl a
@[simp] theorem zzX:zac ctx zdK=true:=rfl
theorem zol:zal zdf Mode.pure 3 zgW [.tmp 2]:=fun L a h=>zad h L rfl rfl a
@[simp] theorem zyw:zac ctx zdf=true:=rfl
theorem zsD:zal zhi Mode.pure 12 zke [.cell 2 25 true,.tmp 3]:=fun L a h=>zad h L rfl rfl a
@[simp] theorem zCY:zac ctx zhi=true:=rfl
theorem zil:zal zaB (⟨false,false,false,false⟩) 15 zcO [.cell 4 12 true]:=fun L a h=>zad h L rfl rfl a
@[simp] theorem zsM:zac ctx zaB=false:=rfl
theorem zjG:zal zaZ (⟨false,false,false,false⟩) 31 zdJ []:=fun L a h=>zad h L rfl rfl a
@[simp] theorem zus:zac ctx zaZ=false:=rfl
theorem zi8:zal zbZ (⟨false,false,false,false⟩) 49 zbe [.cell 6 12 true]:=fun L a h=>zad h L rfl rfl a
@[simp] theorem ztU:zac ctx zbZ=false:=rfl
theorem zhv:zal zbf (⟨false,false,false,false⟩) 24 zaW [.cell 4 12 true]:=fun L a h=>zad h L rfl rfl a
@[simp] theorem zrI:zac ctx zbf=false:=rfl
theorem zo8:zal zdL Mode.pure 12 zhD [.cell 4 4 true]:=fun L a h=>zad h L rfl rfl a
@[simp] theorem zzZ:zac ctx zdL=true:=rfl
theorem zsE:zal zhj Mode.pure 8 zkf [.cell 2 4 true]:=fun L a h=>zad h L rfl rfl a
@[simp] theorem zCZ:zac ctx zhj=true:=rfl
theorem zno:zal zem Mode.pure 18 zgd [.cell 4 12 true]:=fun L a h=>zad h L rfl rfl a
@[simp] theorem zxL:zac ctx zem=true:=rfl
theorem ztB:zal zix Mode.pure 2 zlv [.cell 0 36 true]:=fun L a h=>zad h L rfl rfl a
@[simp] theorem zD9:zac ctx zix=true:=rfl
theorem zxM:zal zoz (⟨false,false,true,false⟩) 70 zsH [.tmp 8,.tmp 9]:=fun L a h=>zad h L rfl rfl a
@[simp] theorem zKq:zac ctx zoz=false:=rfl
theorem zmt:zal zdX (⟨false,false,false,false⟩) 30 zfI [.cell 2 4 true]:=fun L a h=>zad h L rfl rfl a
@[simp] theorem zxg:zac ctx zdX=false:=rfl
theorem zmv:zal zbE Mode.pure 6 zfJ [.cell 2 4 true]:=fun L a h=>zad h L rfl rfl a
@[simp] theorem zxh:zac ctx zbE=true:=rfl
theorem zo9:zal za4 Mode.pure 11 zhF [.cell 4 4 true]:=fun L a h=>zad h L rfl rfl a
@[simp] theorem zz1:zac ctx za4=true:=rfl
theorem zpa:zal zcG Mode.pure 22 zhk [.cell 4 4 true]:=fun L a h=>zad h L rfl rfl a
@[simp] theorem zz2:zac ctx zcG=true:=rfl
theorem zut:zal zjr Mode.pure 22 zl8 [.cell 2 36 true]:=fun L a h=>zad h L rfl rfl a
@[simp] theorem zFp:zac ctx zjr=true:=rfl
theorem zrm:zal zcH Mode.pure 12 ziO [.cell 4 4 true]:=fun L a h=>zad h L rfl rfl a
@[simp] theorem zB8:zac ctx zcH=true:=rfl
theorem zql:zal zen Mode.pure 6 zh3 [.cell 2 4 true]:=fun L a h=>zad h L rfl rfl a
@[simp] theorem zAF:zac ctx zen=true:=rfl
theorem zlR:zal zdo Mode.pure 12 ze4 [.cell 2 4 true]:=fun L a h=>zad h L rfl rfl a
@[simp] theorem zwE:zac ctx zdo=true:=rfl
theorem zva:zal zbN (⟨false,false,false,false⟩) 25 znN []:=fun L a h=>zad h L rfl rfl a
@[simp] theorem zGZ:zac ctx zbN=false:=rfl
theorem zpb:zal zbi (⟨false,false,false,false⟩) 55 zhl [.tmp 2]:=fun L a h=>zad h L rfl rfl a
@[simp] theorem zz3:zac ctx zbi=false:=rfl
theorem zqm:zal zfO (⟨false,false,false,false⟩) 12 zh5 [.tmp 2]:=fun L a h=>zad h L rfl rfl a
@[simp] theorem zAG:zac ctx zfO=false:=rfl
theorem zkp:zal ze0 Mode.pure 26 zgm [.cell 2 4 true,.tmp 3]:=fun L a h=>zad h L rfl rfl a
@[simp] theorem zCb:zac ctx ze0=true:=rfl
theorem zxO:zal zoB Mode.pure 17 zrP [.cell 2 4 true]:=fun L a h=>zad h L rfl rfl a
@[simp] theorem zKw:zac ctx zoB=true:=rfl
theorem zpc:zal zfu (⟨true,false,false,false⟩) 31 zhm [.cell 4 4 true]:=fun L a h=>zad h L rfl rfl a
@[simp] theorem zz4:zac ctx zfu=true:=rfl
@[simp] theorem zCc:zac ctx znJ=true:=rfl
theorem zkI:zal zbL (⟨false,false,false,false⟩) 17 zep []:=fun L a h=>zad h L rfl rfl a
@[simp] theorem zvb:zac ctx zbL=false:=rfl
theorem zmw:zal zcz Mode.pure 3 zfz [.tmp 2]:=fun L a h=>zad h L rfl rfl a
@[simp] theorem zxi:zac ctx zcz=true:=rfl
theorem zlS:zal zcg Mode.pure 3 ze5 [.tmp 2]:=fun L a h=>zad h L rfl rfl a
@[simp] theorem zwJ:zac ctx zcg=true:=rfl
end Go.Av
