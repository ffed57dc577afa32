/- The machine's code is the program's. -/
import Derived.Test.YtafkceblllhheaaGreatDoorC0
import Derived.Test.YtafkceblllhheaaGreatDoorChecked
import Derived.KernelRfl
set_option maxHeartbeats 4000000
set_option maxRecDepth 100000
namespace Go.Av
open Go.Proofs
noncomputable abbrev aD (f:Func):Option aZ:=WG ah Tryz.prog ⟨fun _ _=>true,false⟩ f
noncomputable abbrev oY (l:List (Nat × Nat))(f:Func):Option aZ:=WG ah Tryz.prog ⟨fun r o=>!l.contains (r,o),false⟩ f
noncomputable abbrev zoF (f:Func):Option aZ:=WG ah Tryz.prog ⟨fun _ _=>true,true⟩ f
theorem bA {f:FuncId}{F F0:aZ}{fn:Func}{fl:KK}(h:some F0=some F)(p:Tryz.prog.funcs[f]?=some fn)(q:WG ah Tryz.prog fl fn=some F0)(r:fn.name≠ "runtime.NumGoroutine":=by decide +kernel):∃ fn fl,Tryz.prog.funcs[f]?=some fn/\WG ah Tryz.prog fl fn=some F/\fn.name≠ "runtime.NumGoroutine":=sj h ▸ ⟨_,_,p,q,r⟩
theorem fnK {f:FuncId}{F F0:aZ}{fn:Func}(h:some F0=some F)(p:Tryz.prog.funcs[f]?=some fn)(q:aD fn=some F0:=by kernel_rfl)(r:fn.name≠ "runtime.NumGoroutine":=by decide +kernel):∃ fn fl,Tryz.prog.funcs[f]?=some fn/\WG ah Tryz.prog fl fn=some F/\fn.name≠ "runtime.NumGoroutine":=sj h ▸ ⟨_,_,p,q,r⟩
theorem GR:oY [(6,2)] Tryz.f11=some yC:=by kernel_rfl
theorem OR:oY [(4,2)] Tryz.f36=some J7:=by kernel_rfl
theorem UB:oY [(6,0)] Tryz.f37=some Po:=by kernel_rfl
theorem o7:zoF Tryz.f67=some jt:=by kernel_rfl
theorem Ha:oY [(3,7)] Tryz.f75=some y8:=by kernel_rfl
theorem K3:oY [(0,0)] Tryz.f77=some FN:=by kernel_rfl
theorem Fq:oY [(7,0)] Tryz.f84=some xo:=by kernel_rfl
theorem Br:oY [(0,0)] Tryz.f87=some tB:=by kernel_rfl
theorem zH:oY [(0,0)] Tryz.f88=some rE:=by kernel_rfl
theorem wO:oY [(0,0)] Tryz.f89=some pT:=by kernel_rfl
theorem zI:oY [(0,0)] Tryz.f91=some rG:=by kernel_rfl
theorem Bs:oY [(0,0)] Tryz.f92=some tN:=by kernel_rfl
theorem K5:oY [(1,2)] Tryz.f96=some FU:=by kernel_rfl
theorem Ef:oY [(0,0)] Tryz.f129=some wh:=by kernel_rfl
theorem Eg:oY [(0,0)] Tryz.f130=some wi:=by kernel_rfl
theorem Eh:oY [(0,0)] Tryz.f131=some wj:=by kernel_rfl
theorem wn:oY [(0,0)] Tryz.f132=some pf:=by kernel_rfl
theorem tW:oY [(0,0)] Tryz.f137=some mY:=by kernel_rfl
theorem BA:oY [(0,0)] Tryz.f139=some tT:=by kernel_rfl
theorem O9:oY [(0,1),(0,0)] Tryz.f140=some Ky:=by kernel_rfl
theorem wP:zoF Tryz.f146=some p6:=by kernel_rfl
theorem yy:oY [(0,0)] Tryz.f149=some qV:=by kernel_rfl
theorem BD:oY [(0,0)] Tryz.f150=some tV:=by kernel_rfl
theorem Sy:oY [(3,3)] Tryz.f151=some NO:=by kernel_rfl
theorem FE:oY [(3,2),(1,4),(1,2)] Tryz.f164=some xO:=by kernel_rfl
theorem CN:oY [(9,5)] Tryz.f166=some uy:=by kernel_rfl
theorem Ep:oY [(0,0)] Tryz.f170=some vt:=by kernel_rfl
theorem Er:oY [(0,0)] Tryz.f171=some vu:=by kernel_rfl
theorem wA:oY [(1,3),(0,0)] Tryz.f172=some oP:=by kernel_rfl
theorem wB:oY [(0,0)] Tryz.f176=some oQ:=by kernel_rfl
theorem z5:oY [(1,2)] Tryz.f179=some tf:=by kernel_rfl
theorem z6:oY [(0,0)] Tryz.f186=some th:=by kernel_rfl
theorem Cb:oY [(0,0)] Tryz.f196=some uA:=by kernel_rfl
theorem Ac:oY [(0,0)] Tryz.f210=some tD:=by kernel_rfl
theorem zhi:∀ f F,zdB f=some F->∃ fn fl,Tryz.prog.funcs[f]?=some fn/\WG ah Tryz.prog fl fn=some F/\fn.name≠ "runtime.NumGoroutine":=by
 intro f F h;unfold zdB at h;split at h
 ·exact fnK h Tryz.func7
 ·exact fnK h Tryz.func9
 ·exact fnK h Tryz.func10
 ·exact bA h Tryz.func11 GR
 ·exact fnK h Tryz.func12
 ·exact fnK h Tryz.func15
 ·exact fnK h Tryz.func17
 ·exact fnK h Tryz.func18
 ·exact fnK h Tryz.func19
 ·exact fnK h Tryz.func20
 ·exact fnK h Tryz.func21
 ·exact fnK h Tryz.func22
 ·exact fnK h Tryz.func24
 ·exact fnK h Tryz.func25
 ·exact fnK h Tryz.func26
 ·exact fnK h Tryz.func28
 ·exact fnK h Tryz.func29
 ·exact fnK h Tryz.func30
 ·exact fnK h Tryz.func31
 ·exact fnK h Tryz.func32
 ·exact fnK h Tryz.func33
 ·exact fnK h Tryz.func34
 ·exact fnK h Tryz.func35
 ·exact bA h Tryz.func36 OR
 ·exact bA h Tryz.func37 UB
 ·exact fnK h Tryz.func38
 ·exact fnK h Tryz.func40
 ·exact fnK h Tryz.func41
 ·exact fnK h Tryz.func42
 ·exact fnK h Tryz.func43
 ·exact fnK h Tryz.func44
 ·exact fnK h Tryz.func45
 ·exact fnK h Tryz.func47
 ·exact fnK h Tryz.func48
 ·exact fnK h Tryz.func49
 ·exact fnK h Tryz.func50
 ·exact fnK h Tryz.func51
 ·exact fnK h Tryz.func52
 ·exact fnK h Tryz.func53
 ·exact fnK h Tryz.func54
 ·exact fnK h Tryz.func55
 ·exact fnK h Tryz.func57
 ·exact fnK h Tryz.func58
 ·exact fnK h Tryz.func59
 ·exact fnK h Tryz.func60
 ·exact fnK h Tryz.func61
 ·exact fnK h Tryz.func62
 ·exact fnK h Tryz.func63
 ·exact fnK h Tryz.func64
 ·exact fnK h Tryz.func65
 ·exact fnK h Tryz.func66
 ·exact bA h Tryz.func67 o7
 ·exact fnK h Tryz.func71
 ·exact fnK h Tryz.func72
 ·exact fnK h Tryz.func73
 ·exact fnK h Tryz.func74
 ·exact bA h Tryz.func75 Ha
 ·exact fnK h Tryz.func76
 ·exact bA h Tryz.func77 K3
 ·exact fnK h Tryz.func78
 ·exact fnK h Tryz.func79
 ·exact fnK h Tryz.func83
 ·exact bA h Tryz.func84 Fq
 ·exact fnK h Tryz.func85
 ·exact bA h Tryz.func87 Br
 ·exact bA h Tryz.func88 zH
 ·exact bA h Tryz.func89 wO
 ·exact fnK h Tryz.func90
 ·exact bA h Tryz.func91 zI
 ·exact bA h Tryz.func92 Bs
 ·exact fnK h Tryz.func93
 ·exact fnK h Tryz.func94
 ·exact fnK h Tryz.func95
 ·exact bA h Tryz.func96 K5
 ·exact fnK h Tryz.func97
 ·exact fnK h Tryz.func98
 ·exact fnK h Tryz.func99
 ·exact fnK h Tryz.func103
 ·exact fnK h Tryz.func104
 ·exact fnK h Tryz.func105
 ·exact fnK h Tryz.func106
 ·exact fnK h Tryz.func107
 ·exact fnK h Tryz.func108
 ·exact fnK h Tryz.func109
 ·exact fnK h Tryz.func110
 ·exact fnK h Tryz.func111
 ·exact fnK h Tryz.func112
 ·exact fnK h Tryz.func113
 ·exact fnK h Tryz.func114
 ·exact fnK h Tryz.func115
 ·simp at h
theorem zhj:∀ f F,zdC f=some F->∃ fn fl,Tryz.prog.funcs[f]?=some fn/\WG ah Tryz.prog fl fn=some F/\fn.name≠ "runtime.NumGoroutine":=by
 intro f F h;unfold zdC at h;split at h
 ·exact fnK h Tryz.func117
 ·exact fnK h Tryz.func123
 ·exact fnK h Tryz.func124
 ·exact fnK h Tryz.func125
 ·exact fnK h Tryz.func126
 ·exact bA h Tryz.func129 Ef
 ·exact bA h Tryz.func130 Eg
 ·exact bA h Tryz.func131 Eh
 ·exact bA h Tryz.func132 wn
 ·exact fnK h Tryz.func135
 ·exact fnK h Tryz.func136
 ·exact bA h Tryz.func137 tW
 ·exact bA h Tryz.func139 BA
 ·exact bA h Tryz.func140 O9
 ·exact fnK h Tryz.func141
 ·exact fnK h Tryz.func142
 ·exact fnK h Tryz.func143
 ·exact fnK h Tryz.func144
 ·exact fnK h Tryz.func145
 ·exact bA h Tryz.func146 wP
 ·exact fnK h Tryz.func147
 ·exact fnK h Tryz.func148
 ·exact bA h Tryz.func149 yy
 ·exact bA h Tryz.func150 BD
 ·exact bA h Tryz.func151 Sy
 ·exact fnK h Tryz.func152
 ·exact fnK h Tryz.func153
 ·exact fnK h Tryz.func154
 ·exact fnK h Tryz.func155
 ·exact fnK h Tryz.func156
 ·exact fnK h Tryz.func157
 ·exact fnK h Tryz.func158
 ·exact fnK h Tryz.func160
 ·exact fnK h Tryz.func161
 ·exact fnK h Tryz.func163
 ·exact bA h Tryz.func164 FE
 ·exact fnK h Tryz.func165
 ·exact bA h Tryz.func166 CN
 ·exact fnK h Tryz.func167
 ·exact fnK h Tryz.func168
 ·exact bA h Tryz.func170 Ep
 ·exact bA h Tryz.func171 Er
 ·exact bA h Tryz.func172 wA
 ·exact fnK h Tryz.func173
 ·exact bA h Tryz.func176 wB
 ·exact fnK h Tryz.func178
 ·exact bA h Tryz.func179 z5
 ·exact fnK h Tryz.func180
 ·exact fnK h Tryz.func181
 ·exact fnK h Tryz.func182
 ·exact fnK h Tryz.func183
 ·exact fnK h Tryz.func184
 ·exact fnK h Tryz.func185
 ·exact bA h Tryz.func186 z6
 ·exact fnK h Tryz.func187
 ·exact fnK h Tryz.func188
 ·exact fnK h Tryz.func189
 ·exact fnK h Tryz.func194
 ·exact fnK h Tryz.func195
 ·exact bA h Tryz.func196 Cb
 ·exact fnK h Tryz.func197
 ·exact fnK h Tryz.func202
 ·exact fnK h Tryz.func203
 ·exact fnK h Tryz.func204
 ·exact fnK h Tryz.func205
 ·exact fnK h Tryz.func206
 ·exact fnK h Tryz.func207
 ·exact fnK h Tryz.func208
 ·exact fnK h Tryz.func209
 ·exact bA h Tryz.func210 Ac
 ·exact fnK h Tryz.func211
 ·exact fnK h Tryz.func212
 ·exact fnK h Tryz.func213
 ·exact fnK h Tryz.func214
 ·exact fnK h Tryz.func215
 ·exact fnK h Tryz.func220
 ·exact fnK h Tryz.func221
 ·exact fnK h Tryz.func222
 ·exact fnK h Tryz.func223
 ·exact fnK h Tryz.func224
 ·exact fnK h Tryz.func230
 ·exact fnK h Tryz.func231
 ·exact fnK h Tryz.func232
 ·exact fnK h Tryz.func233
 ·exact fnK h Tryz.func234
 ·exact fnK h Tryz.func235
 ·exact fnK h Tryz.func240
 ·exact fnK h Tryz.func241
 ·exact fnK h Tryz.func242
 ·exact fnK h Tryz.func260
 ·simp at h
theorem zhk:∀ f F,zdD f=some F->∃ fn fl,Tryz.prog.funcs[f]?=some fn/\WG ah Tryz.prog fl fn=some F/\fn.name≠ "runtime.NumGoroutine":=by
 intro f F h;unfold zdD at h;split at h
 ·exact fnK h Tryz.func261
 ·exact fnK h Tryz.func262
 ·exact fnK h Tryz.func263
 ·exact fnK h Tryz.func282
 ·exact fnK h Tryz.func283
 ·exact fnK h Tryz.func284
 ·exact fnK h Tryz.func285
 ·exact fnK h Tryz.func343
 ·simp at h
theorem zkF:∀ f F,ah.fns f=some F->∃ fn fl,Tryz.prog.funcs[f]?=some fn/\WG ah Tryz.prog fl fn=some F/\fn.name≠ "runtime.NumGoroutine":=by
 intro f F h;simp only [ah] at h;unfold zoo at h;rcases zdI h with h | h
 ·exact zhi f F h
 rcases zdI h with h | h
 ·exact zhj f F h
 exact zhk f F h
theorem zhl:(zjS.all fun r=>Lp Tryz.prog r.1 r.2.1 r.2.2)=true:=by kernel_rfl
theorem zdd:(zef.all fun r=>Hk Tryz.prog r.1 r.2.1 r.2.2.1 r.2.2.2)=true:=by kernel_rfl
theorem zhn:∀ t name path f,ah.meth t name=some (path,f)->(path=[]/\Lp Tryz.prog t name f=true)\/∃ k,path=[(k,1,false)]/\Hk Tryz.prog t name f k=true:=by
 intro t name path f h;have h1:zdO t name=some (path,f):=h;unfold zdO at h1;split at h1
 ·rename_i r he;have h2:=List.find?_some he;have h3:=List.all_eq_true.1 zhl r (List.mem_of_find?_eq_some he);simp only [Bool.and_eq_true,beq_iff_eq] at h2;simp only [Option.some.injEq,Prod.mk.injEq] at h1;rw [h2.1,h2.2,h1.2] at h3;exact .inl ⟨h1.1.symm,h3⟩
 ·obtain ⟨r,hr,he⟩:=Option.map_eq_some_iff.1 h1;have h2:=List.find?_some hr;have h3:=List.all_eq_true.1 zdd r (List.mem_of_find?_eq_some hr);simp only [Bool.and_eq_true,beq_iff_eq] at h2;simp only [Prod.mk.injEq] at he;rw [h2.1,h2.2,he.2] at h3;exact .inr ⟨_,he.1.symm,h3⟩
theorem Wc {L:az}{args:List J}{h:O}{v:J}{h':O}(hp:zdH.pre L args h=some (.inl (v,h'))):ml ah Tryz.prog L 116 args h v h':=
 YX Tryz.func116 (by kernel_rfl) (by kernel_rfl) (by kernel_rfl) (e:=add64Entry) (by kernel_rfl) (fun x y c hc w=>zd9 x y c hc w) hp
theorem Wd {L:az}{args:List J}{h:O}{v:J}{h':O}(hp:zd8.pre L args h=some (.inl (v,h'))):ml ah Tryz.prog L 159 args h v h':=
 YX Tryz.func159 (by kernel_rfl) (by kernel_rfl) (by kernel_rfl) (e:=Ub) (by kernel_rfl) (fun x y c hc w=>zea x y c hc w) hp
theorem zkH:Ku ah Tryz.prog where
 fns:=zkF
 extA:=by
  intro f g h L args hh v h' hp;simp only [ah] at h;unfold zkV at h;split at h
  ·obtain rfl:=sj h;exact Wc hp
  ·obtain rfl:=sj h;exact Wd hp
  ·simp at h
 extB:=by
  intro f g h L args hh f1 bs h1 hp;simp only [ah] at h;unfold zkV at h;split at h
  ·obtain rfl:=sj h;exact absurd hp Uf
  ·obtain rfl:=sj h;exact absurd hp Uf
  ·simp at h
 meth:=by
  intro t name path f h s v cv r w hrep hm;rcases zhn t name path f h with ⟨rfl,hrow⟩ | ⟨k,rfl,hrow⟩
  ·obtain rfl:v=r:=sj hm;exact ⟨cv,zdL hrow _ cv w,hrep⟩
  ·exact ZU hrow _ hrep hm w
end Go.Av
