/- The machine's code is the program's. -/
import Derived.Test.YtbookmjmhfoolaaGreatDoorC0
import Derived.Test.YtbookmjmhfoolaaGreatDoorChecked
import Derived.KernelRfl
import Derived.Test.YtbookmjmhfoolaaGreatDoorC9
set_option maxHeartbeats 4000000
set_option maxRecDepth 100000
namespace Go.Av
open Go.Proofs
noncomputable abbrev aG (f:Func):Option a8:=XX ah Tryz.prog ⟨fun _ _=>true,false⟩ f
noncomputable abbrev oZ (l:List (Nat × Nat))(f:Func):Option a8:=XX ah Tryz.prog ⟨fun r o=>!l.contains (r,o),false⟩ f
noncomputable abbrev zrx (f:Func):Option a8:=XX ah Tryz.prog ⟨fun _ _=>true,true⟩ f
theorem bE {f:FuncId}{F F0:a8}{fn:Func}{fl:LI}(h:some F0=some F)(p:Tryz.prog.funcs[f]?=some fn)(q:XX ah Tryz.prog fl fn=some F0)(r:fn.name≠ "runtime.NumGoroutine":=by decide +kernel):∃ fn fl,Tryz.prog.funcs[f]?=some fn/\XX ah Tryz.prog fl fn=some F/\fn.name≠ "runtime.NumGoroutine":=sj h ▸ ⟨_,_,p,q,r⟩
theorem fnK {f:FuncId}{F F0:a8}{fn:Func}(h:some F0=some F)(p:Tryz.prog.funcs[f]?=some fn)(q:aG fn=some F0:=by kernel_rfl)(r:fn.name≠ "runtime.NumGoroutine":=by decide +kernel):∃ fn fl,Tryz.prog.funcs[f]?=some fn/\XX ah Tryz.prog fl fn=some F/\fn.name≠ "runtime.NumGoroutine":=sj h ▸ ⟨_,_,p,q,r⟩
theorem HK:oZ [(6,2)] Tryz.f18=some zF:=by kernel_rfl
theorem HM:oZ [(0,0)] Tryz.f26=some zH:=by kernel_rfl
theorem P9:oZ [(4,2)] Tryz.f32=some K7:=by kernel_rfl
theorem VP:oZ [(6,0)] Tryz.f33=some QR:=by kernel_rfl
theorem F6:oZ [(7,0)] Tryz.f49=some xN:=by kernel_rfl
theorem BN:oZ [(0,0)] Tryz.f52=some tU:=by kernel_rfl
theorem Ah:oZ [(0,0)] Tryz.f53=some sd:=by kernel_rfl
theorem xr:oZ [(0,0)] Tryz.f54=some qn:=by kernel_rfl
theorem Ai:oZ [(0,0)] Tryz.f56=some se:=by kernel_rfl
theorem BO:oZ [(0,0)] Tryz.f57=some tX:=by kernel_rfl
theorem pz:zrx Tryz.f62=some jG:=by kernel_rfl
theorem EN:oZ [(0,0)] Tryz.f93=some wD:=by kernel_rfl
theorem EP:oZ [(0,0)] Tryz.f94=some wE:=by kernel_rfl
theorem EQ:oZ [(0,0)] Tryz.f96=some wF:=by kernel_rfl
theorem wW:oZ [(0,0)] Tryz.f97=some pt:=by kernel_rfl
theorem ur:oZ [(0,0)] Tryz.f103=some mN:=by kernel_rfl
theorem BU:oZ [(0,0)] Tryz.f105=some tF:=by kernel_rfl
theorem LY:oZ [(1,2)] Tryz.f106=some GD:=by kernel_rfl
theorem HT:oZ [(3,7)] Tryz.f110=some zj:=by kernel_rfl
theorem Gj:oZ [(3,2),(1,4),(1,2)] Tryz.f128=some xG:=by kernel_rfl
theorem Dy:oZ [(9,5)] Tryz.f130=some uV:=by kernel_rfl
theorem ET:oZ [(0,0)] Tryz.f136=some vX:=by kernel_rfl
theorem EU:oZ [(0,0)] Tryz.f137=some vY:=by kernel_rfl
theorem xb:oZ [(1,3),(0,0)] Tryz.f140=some ph:=by kernel_rfl
theorem xd:oZ [(0,0)] Tryz.f144=some pi:=by kernel_rfl
theorem B4:oZ [(1,2)] Tryz.f146=some tV:=by kernel_rfl
theorem xz:zrx Tryz.f150=some qo:=by kernel_rfl
theorem y7:oZ [(0,0)] Tryz.f153=some qZ:=by kernel_rfl
theorem B7:oZ [(0,0)] Tryz.f154=some tY:=by kernel_rfl
theorem TD:oZ [(3,3)] Tryz.f156=some NI:=by kernel_rfl
theorem Qj:oZ [(0,1),(0,0)] Tryz.f160=some Lc:=by kernel_rfl
theorem CU:oZ [(0,0)] Tryz.f181=some vc:=by kernel_rfl
theorem A4:oZ [(0,0)] Tryz.f192=some ud:=by kernel_rfl
theorem Ba:oZ [(0,0)] Tryz.f225=some uh:=by kernel_rfl
theorem LH:oZ [(0,0)] Tryz.f283=some GZ:=by kernel_rfl
theorem zjP:∀ f F,zg6 f=some F->∃ fn fl,Tryz.prog.funcs[f]?=some fn/\XX ah Tryz.prog fl fn=some F/\fn.name≠ "runtime.NumGoroutine":=by
 intro f F h;unfold zg6 at h;split at h
 ·exact fnK h Tryz.func4
 ·exact fnK h Tryz.func9
 ·exact fnK h Tryz.func10
 ·exact fnK h Tryz.func12
 ·exact fnK h Tryz.func13
 ·exact fnK h Tryz.func14
 ·exact fnK h Tryz.func15
 ·exact fnK h Tryz.func16
 ·exact bE h Tryz.func18 HK
 ·exact fnK h Tryz.func19
 ·exact fnK h Tryz.func25
 ·exact bE h Tryz.func26 HM
 ·exact fnK h Tryz.func27
 ·exact fnK h Tryz.func28
 ·exact bE h Tryz.func32 P9
 ·exact bE h Tryz.func33 VP
 ·exact fnK h Tryz.func34
 ·exact fnK h Tryz.func35
 ·exact fnK h Tryz.func37
 ·exact fnK h Tryz.func38
 ·exact fnK h Tryz.func39
 ·exact fnK h Tryz.func40
 ·exact fnK h Tryz.func41
 ·exact fnK h Tryz.func42
 ·exact fnK h Tryz.func48
 ·exact bE h Tryz.func49 F6
 ·exact fnK h Tryz.func50
 ·exact bE h Tryz.func52 BN
 ·exact bE h Tryz.func53 Ah
 ·exact bE h Tryz.func54 xr
 ·exact fnK h Tryz.func55
 ·exact bE h Tryz.func56 Ai
 ·exact bE h Tryz.func57 BO
 ·exact fnK h Tryz.func59
 ·exact fnK h Tryz.func60
 ·exact fnK h Tryz.func61
 ·exact bE h Tryz.func62 pz
 ·exact fnK h Tryz.func63
 ·exact fnK h Tryz.func64
 ·exact fnK h Tryz.func68
 ·exact fnK h Tryz.func69
 ·exact fnK h Tryz.func70
 ·exact fnK h Tryz.func71
 ·exact fnK h Tryz.func72
 ·exact fnK h Tryz.func73
 ·exact fnK h Tryz.func74
 ·exact fnK h Tryz.func75
 ·exact fnK h Tryz.func83
 ·exact fnK h Tryz.func84
 ·exact fnK h Tryz.func85
 ·exact fnK h Tryz.func86
 ·exact fnK h Tryz.func87
 ·exact fnK h Tryz.func88
 ·exact fnK h Tryz.func89
 ·exact fnK h Tryz.func92
 ·exact bE h Tryz.func93 EN
 ·exact bE h Tryz.func94 EP
 ·exact fnK h Tryz.func95
 ·exact bE h Tryz.func96 EQ
 ·exact bE h Tryz.func97 wW
 ·exact fnK h Tryz.func100
 ·exact fnK h Tryz.func101
 ·exact fnK h Tryz.func102
 ·exact bE h Tryz.func103 ur
 ·exact bE h Tryz.func105 BU
 ·exact bE h Tryz.func106 LY
 ·exact fnK h Tryz.func107
 ·exact fnK h Tryz.func108
 ·exact fnK h Tryz.func109
 ·exact bE h Tryz.func110 HT
 ·exact fnK h Tryz.func114
 ·exact fnK h Tryz.func115
 ·exact fnK h Tryz.func116
 ·exact fnK h Tryz.func117
 ·exact fnK h Tryz.func118
 ·exact fnK h Tryz.func124
 ·exact fnK h Tryz.func125
 ·exact fnK h Tryz.func126
 ·exact fnK h Tryz.func127
 ·exact bE h Tryz.func128 Gj
 ·exact fnK h Tryz.func129
 ·exact bE h Tryz.func130 Dy
 ·exact fnK h Tryz.func131
 ·exact fnK h Tryz.func132
 ·exact fnK h Tryz.func134
 ·exact fnK h Tryz.func135
 ·exact bE h Tryz.func136 ET
 ·exact bE h Tryz.func137 EU
 ·exact fnK h Tryz.func138
 ·exact fnK h Tryz.func139
 ·simp at h
theorem zjR:∀ f F,zg8 f=some F->∃ fn fl,Tryz.prog.funcs[f]?=some fn/\XX ah Tryz.prog fl fn=some F/\fn.name≠ "runtime.NumGoroutine":=by
 intro f F h;unfold zg8 at h;split at h
 ·exact bE h Tryz.func140 xb
 ·exact fnK h Tryz.func141
 ·exact bE h Tryz.func144 xd
 ·exact bE h Tryz.func146 B4
 ·exact fnK h Tryz.func147
 ·exact fnK h Tryz.func148
 ·exact fnK h Tryz.func149
 ·exact bE h Tryz.func150 xz
 ·exact fnK h Tryz.func151
 ·exact fnK h Tryz.func152
 ·exact bE h Tryz.func153 y7
 ·exact bE h Tryz.func154 B7
 ·exact fnK h Tryz.func155
 ·exact bE h Tryz.func156 TD
 ·exact fnK h Tryz.func157
 ·exact fnK h Tryz.func158
 ·exact fnK h Tryz.func159
 ·exact bE h Tryz.func160 Qj
 ·exact fnK h Tryz.func161
 ·exact fnK h Tryz.func162
 ·exact fnK h Tryz.func163
 ·exact fnK h Tryz.func164
 ·exact fnK h Tryz.func165
 ·exact fnK h Tryz.func166
 ·exact fnK h Tryz.func168
 ·exact fnK h Tryz.func170
 ·exact fnK h Tryz.func177
 ·exact fnK h Tryz.func178
 ·exact fnK h Tryz.func179
 ·exact fnK h Tryz.func180
 ·exact bE h Tryz.func181 CU
 ·exact fnK h Tryz.func182
 ·exact fnK h Tryz.func184
 ·exact fnK h Tryz.func185
 ·exact fnK h Tryz.func186
 ·exact fnK h Tryz.func190
 ·exact fnK h Tryz.func191
 ·exact bE h Tryz.func192 A4
 ·exact fnK h Tryz.func193
 ·exact fnK h Tryz.func194
 ·exact fnK h Tryz.func195
 ·exact fnK h Tryz.func196
 ·exact fnK h Tryz.func197
 ·exact fnK h Tryz.func198
 ·exact fnK h Tryz.func199
 ·exact fnK h Tryz.func200
 ·exact fnK h Tryz.func201
 ·exact fnK h Tryz.func202
 ·exact fnK h Tryz.func203
 ·exact fnK h Tryz.func204
 ·exact fnK h Tryz.func211
 ·exact fnK h Tryz.func212
 ·exact fnK h Tryz.func213
 ·exact fnK h Tryz.func214
 ·exact fnK h Tryz.func215
 ·exact fnK h Tryz.func219
 ·exact fnK h Tryz.func220
 ·exact fnK h Tryz.func221
 ·exact fnK h Tryz.func224
 ·exact bE h Tryz.func225 Ba
 ·exact fnK h Tryz.func226
 ·exact fnK h Tryz.func227
 ·exact fnK h Tryz.func228
 ·exact fnK h Tryz.func229
 ·exact fnK h Tryz.func231
 ·exact fnK h Tryz.func232
 ·exact fnK h Tryz.func233
 ·exact fnK h Tryz.func234
 ·exact fnK h Tryz.func235
 ·exact fnK h Tryz.func236
 ·exact fnK h Tryz.func237
 ·exact fnK h Tryz.func243
 ·exact fnK h Tryz.func244
 ·exact fnK h Tryz.func245
 ·exact fnK h Tryz.func246
 ·exact fnK h Tryz.func247
 ·exact fnK h Tryz.func248
 ·exact fnK h Tryz.func249
 ·exact fnK h Tryz.func250
 ·exact fnK h Tryz.func271
 ·exact fnK h Tryz.func272
 ·exact fnK h Tryz.func273
 ·exact fnK h Tryz.func274
 ·exact fnK h Tryz.func275
 ·exact fnK h Tryz.func276
 ·exact fnK h Tryz.func277
 ·exact fnK h Tryz.func278
 ·exact fnK h Tryz.func279
 ·exact fnK h Tryz.func280
 ·exact fnK h Tryz.func281
 ·simp at h
theorem zjS:∀ f F,zg9 f=some F->∃ fn fl,Tryz.prog.funcs[f]?=some fn/\XX ah Tryz.prog fl fn=some F/\fn.name≠ "runtime.NumGoroutine":=by
 intro f F h;unfold zg9 at h;split at h
 ·exact fnK h Tryz.func282
 ·exact bE h Tryz.func283 LH
 ·exact fnK h Tryz.func304
 ·exact fnK h Tryz.func305
 ·exact fnK h Tryz.func306
 ·exact fnK h Tryz.func307
 ·simp at h
theorem znj:∀ f F,ah.fns f=some F->∃ fn fl,Tryz.prog.funcs[f]?=some fn/\XX ah Tryz.prog fl fn=some F/\fn.name≠ "runtime.NumGoroutine":=by
 intro f F h;simp only [ah] at h;unfold zrA at h;rcases zhb h with h | h
 ·exact zjP f F h
 rcases zhb h with h | h
 ·exact zjR f F h
 exact zjS f F h
theorem zjT:(zmt.all fun r=>MJ Tryz.prog r.1 r.2.1 r.2.2)=true:=by kernel_rfl
theorem zfz:(zhf.all fun r=>I7 Tryz.prog r.1 r.2.1 r.2.2.1 r.2.2.2)=true:=by kernel_rfl
theorem zjV:∀ t name path f,ah.meth t name=some (path,f)->(path=[]/\MJ Tryz.prog t name f=true)\/∃ k,path=[(k,1,false)]/\I7 Tryz.prog t name f k=true:=by
 intro t name path f h;have h1:zhh t name=some (path,f):=h;unfold zhh at h1;split at h1
 ·rename_i r he;have h2:=List.find?_some he;have h3:=List.all_eq_true.1 zjT r (List.mem_of_find?_eq_some he);simp only [Bool.and_eq_true,beq_iff_eq] at h2;simp only [Option.some.injEq,Prod.mk.injEq] at h1;rw [h2.1,h2.2,h1.2] at h3;exact .inl ⟨h1.1.symm,h3⟩
 ·obtain ⟨r,hr,he⟩:=Option.map_eq_some_iff.1 h1;have h2:=List.find?_some hr;have h3:=List.all_eq_true.1 zfz r (List.mem_of_find?_eq_some hr);simp only [Bool.and_eq_true,beq_iff_eq] at h2;simp only [Prod.mk.injEq] at he;rw [h2.1,h2.2,he.2] at h3;exact .inr ⟨_,he.1.symm,h3⟩
theorem zcm {L:az}{args:List J}{h:O}{v:J}{h':O}(hp:Lp.pre L args h=some (.inl (v,h'))):kU ah Tryz.prog L 11 args h v h':=
 zhH (C:=ah) Tryz.func11 (by kernel_rfl) (by decide +kernel) zqu rfl (fun l v w=>zdz l v w) hp
theorem XY {L:az}{args:List J}{h:O}{v:J}{h':O}(hp:ziF.pre L args h=some (.inl (v,h'))):kU ah Tryz.prog L 167 args h v h':=
 ZG Tryz.func167 (by kernel_rfl) (by kernel_rfl) (by kernel_rfl) (e:=add64Entry) (by kernel_rfl) (fun x y c hc w=>zeA x y c hc w) hp
theorem XZ {L:az}{args:List J}{h:O}{v:J}{h':O}(hp:zez.pre L args h=some (.inl (v,h'))):kU ah Tryz.prog L 230 args h v h':=
 ZG Tryz.func230 (by kernel_rfl) (by kernel_rfl) (by kernel_rfl) (e:=Uq) (by kernel_rfl) (fun x y c hc w=>zeC x y c hc w) hp
theorem znl:K4 ah Tryz.prog where
 fns:=znj
 extA:=by
  intro f g h L args hh v h' hp;simp only [ah] at h;unfold zom at h;split at h
  ·obtain rfl:=sj h;exact zcm hp
  ·obtain rfl:=sj h;exact XY hp
  ·obtain rfl:=sj h;exact XZ hp
  ·simp at h
 extB:=by
  intro f g h L args hh f1 bs h1 hp;simp only [ah] at h;unfold zom at h;split at h
  ·obtain rfl:=sj h;exact absurd hp zdK
  ·obtain rfl:=sj h;exact absurd hp Ur
  ·obtain rfl:=sj h;exact absurd hp Ur
  ·simp at h
 meth:=by
  intro t name path f h s v cv r w hrep hm;rcases zjV t name path f h with ⟨rfl,hrow⟩ | ⟨k,rfl,hrow⟩
  ·obtain rfl:v=r:=sj hm;exact ⟨cv,ziG hrow _ cv w,hrep⟩
  ·exact zc5 hrow _ hrep hm w
end Go.Av
