/- The machine's code is the program's. -/
import Derived.Test.YtbofkfgfnaigkaaGreatDoorC0
import Derived.Test.YtbofkfgfnaigkaaGreatDoorChecked
import Derived.KernelRfl
import Derived.Test.YtbofkfgfnaigkaaGreatDoorC1
set_option maxRecDepth 100000
namespace Go.Av
open Go.Proofs
noncomputable abbrev zbg (f:Func):Option AFn:=cfn ctx Tryz.prog ⟨fun _ _=>true⟩ f
noncomputable abbrev zvz (l:List (Nat × Nat)) (f:Func):Option AFn:=cfn ctx Tryz.prog ⟨fun r o=>!l.contains (r,o)⟩ f
theorem fnE {f:FuncId} {F F0:AFn} {fn:Func} {fl:zMO} (h:some F0=some F) (p:Tryz.prog.funcs[f]?=some fn) (q:cfn ctx Tryz.prog fl fn=some F0) (r:fn.name≠ "runtime.NumGoroutine"):∃ fn fl,Tryz.prog.funcs[f]?=some fn∧cfn ctx Tryz.prog fl fn=some F∧fn.name≠ "runtime.NumGoroutine":=Option.some.inj h ▸ ⟨_,_,p,q,r⟩
theorem zts:zbg Tryz.f2=some zoF:=by kernel_rfl
theorem zmp:zbg Tryz.f3=some zib:=by kernel_rfl
theorem zo4:zbg Tryz.f4=some zkj:=by kernel_rfl
theorem zwz:zbg Tryz.f5=some zsW:=by kernel_rfl
theorem zu8:zbg Tryz.f6=some zrA:=by kernel_rfl
theorem zlc:zbg Tryz.f7=some zg1:=by kernel_rfl
theorem zg7:zbg Tryz.f8=some zdZ:=by kernel_rfl
theorem zld:zbg Tryz.f9=some zg2:=by kernel_rfl
theorem zg9:zbg Tryz.f10=some zd0:=by kernel_rfl
theorem znb:zbg Tryz.f11=some ziD:=by kernel_rfl
theorem ztt:zbg Tryz.f12=some zoG:=by kernel_rfl
theorem zof:zbg Tryz.f13=some zjw:=by kernel_rfl
theorem zwB:zvz [(0,0)] Tryz.f14=some zs0:=by kernel_rfl
theorem zog:zbg Tryz.f15=some zjx:=by kernel_rfl
theorem zlO:zvz [(0,0)] Tryz.f16=some zhN:=by kernel_rfl
theorem znd:zbg Tryz.f17=some ziE:=by kernel_rfl
theorem zsy:zbg Tryz.f18=some zmI:=by kernel_rfl
theorem zle:zvz [(0,0)] Tryz.f19=some zg4:=by kernel_rfl
theorem zgv:zbg Tryz.f20=some zdp:=by kernel_rfl
theorem zj9:zbg Tryz.f21=some zfU:=by kernel_rfl
theorem zD6:zvz [(6,0)] Tryz.f22=some zBf:=by kernel_rfl
theorem zun:zbg Tryz.f23=some zpG:=by kernel_rfl
theorem zuo:zbg Tryz.f24=some zpH:=by kernel_rfl
theorem zlP:zbg Tryz.f25=some zhO:=by kernel_rfl
theorem zsA:zbg Tryz.f26=some zmN:=by kernel_rfl
theorem zmq:zbg Tryz.f27=some zid:=by kernel_rfl
theorem zfm:zbg Tryz.f28=some zcu:=by kernel_rfl
theorem zoh:zbg Tryz.f29=some zjy:=by kernel_rfl
theorem zqg:zbg Tryz.f30=some zkZ:=by kernel_rfl
theorem zsB:zbg Tryz.f31=some zmP:=by kernel_rfl
theorem zoi:zbg Tryz.f32=some zjz:=by kernel_rfl
theorem ztx:zbg Tryz.f33=some zoH:=by kernel_rfl
theorem znj:zbg Tryz.f34=some ziF:=by kernel_rfl
theorem zlQ:zvz [(0,0)] Tryz.f35=some zhQ:=by kernel_rfl
theorem zmr:zbg Tryz.f36=some zie:=by kernel_rfl
theorem zsC:zbg Tryz.f37=some znm:=by kernel_rfl
theorem zo6:zbg Tryz.f38=some zko:=by kernel_rfl
theorem zoj:zvz [(0,0)] Tryz.f39=some zjF:=by kernel_rfl
theorem zlh:zvz [(0,0)] Tryz.f40=some zha:=by kernel_rfl
theorem zgz:zbg Tryz.f41=some zdr:=by kernel_rfl
theorem zka:zbg Tryz.f42=some zf2:=by kernel_rfl
theorem zqi:zbg Tryz.f43=some zlj:=by kernel_rfl
theorem zxJ:zbg Tryz.f44=some zuQ:=by kernel_rfl
theorem ztd:zvz [(3,7)] Tryz.f45=some zoK:=by kernel_rfl
theorem zk1:zvz [(3,7)] Tryz.f46=some zhb:=by kernel_rfl
theorem zu0:zvz [(1,1)] Tryz.f47=some zrK:=by kernel_rfl
theorem zn4:zbg Tryz.f48=some zjI:=by kernel_rfl
theorem zxq:zbg Tryz.f49=some zuR:=by kernel_rfl
theorem zpL:zbg Tryz.f50=some zlk:=by kernel_rfl
theorem zpM:zbg Tryz.f51=some zll:=by kernel_rfl
theorem zr5:zbg Tryz.f52=some znp:=by kernel_rfl
theorem zt6:zbg Tryz.f53=some zqn:=by kernel_rfl
theorem zrd:zbg Tryz.f54=some zl4:=by kernel_rfl
theorem zv7:zbg Tryz.f55=some ztG:=by kernel_rfl
theorem zBk:zvz [(3,3)] Tryz.f56=some zyA:=by kernel_rfl
theorem zv8:zbg Tryz.f57=some ztH:=by kernel_rfl
theorem zn5:zbg Tryz.f58=some zjK:=by kernel_rfl
theorem zxr:zbg Tryz.f59=some zuS:=by kernel_rfl
theorem zpN:zvz [(9,5)] Tryz.f60=some zlo:=by kernel_rfl
theorem zn6:zbg Tryz.f61=some zjN:=by kernel_rfl
theorem zn7:zbg Tryz.f62=some zjS:=by kernel_rfl
theorem ztg:zbg Tryz.f63=some zoP:=by kernel_rfl
theorem zr6:zbg Tryz.f64=some znu:=by kernel_rfl
theorem zre:zvz [(0,0)] Tryz.f65=some zl7:=by kernel_rfl
theorem zn8:zbg Tryz.f66=some zjT:=by kernel_rfl
theorem zr7:zvz [(0,0)] Tryz.f67=some znv:=by kernel_rfl
theorem zr8:zbg Tryz.f68=some znw:=by kernel_rfl
theorem zn9:zbg Tryz.f69=some zjU:=by kernel_rfl
theorem zwa:zbg Tryz.f70=some ztP:=by kernel_rfl
theorem zpO:zbg Tryz.f71=some zlw:=by kernel_rfl
theorem zr9:zbg Tryz.f72=some znA:=by kernel_rfl
theorem zt7:zbg Tryz.f73=some zqv:=by kernel_rfl
theorem zsa:zbg Tryz.f74=some znC:=by kernel_rfl
theorem zpP:zbg Tryz.f75=some zlz:=by kernel_rfl
theorem zsb:zbg Tryz.f76=some znE:=by kernel_rfl
theorem zsc:zbg Tryz.f77=some znF:=by kernel_rfl
theorem zsd:zbg Tryz.f78=some znG:=by kernel_rfl
theorem zj4:zbg Tryz.f79=some zgi:=by kernel_rfl
theorem zoY:zbg Tryz.f80=some zku:=by kernel_rfl
theorem zwc:zbg Tryz.f81=some ztR:=by kernel_rfl
theorem zxu:zbg Tryz.f82=some zuU:=by kernel_rfl
theorem zzw:zbg Tryz.f83=some zw3:=by kernel_rfl
theorem zoa:zbg Tryz.f84=some zjY:=by kernel_rfl
theorem zpQ:zvz [(0,0)] Tryz.f85=some zlD:=by kernel_rfl
theorem zpR:zbg Tryz.f86=some zlE:=by kernel_rfl
theorem zse:zbg Tryz.f87=some znL:=by kernel_rfl
theorem zpT:zbg Tryz.f88=some zlF:=by kernel_rfl
theorem zxv:zbg Tryz.f89=some zuM:=by kernel_rfl
theorem zwd:zbg Tryz.f90=some ztq:=by kernel_rfl
theorem zsg:zbg Tryz.f91=some zm6:=by kernel_rfl
theorem zmR:zvz [(0,0)] Tryz.f92=some ziH:=by kernel_rfl
theorem zoZ:zvz [(0,0)] Tryz.f93=some zkl:=by kernel_rfl
theorem zt9:zbg Tryz.f94=some zqb:=by kernel_rfl
theorem zxw:zbg Tryz.f95=some zuO:=by kernel_rfl
theorem zpU:zbg Tryz.f97=some zk9:=by kernel_rfl
theorem zu1:zbg Tryz.f98=some zrG:=by kernel_rfl
theorem zsh:zbg Tryz.f99=some zm7:=by kernel_rfl
theorem zsi:zbg Tryz.f100=some zm8:=by kernel_rfl
theorem zti:zbg Tryz.f101=some zoJ:=by kernel_rfl
theorem zsj:zbg Tryz.f102=some zm9:=by kernel_rfl
theorem zpV:zbg Tryz.f103=some zlb:=by kernel_rfl
theorem zmS:zbg Tryz.f104=some ziJ:=by kernel_rfl
theorem zrf:zbg Tryz.f105=some zl1:=by kernel_rfl
theorem zsk:zbg Tryz.f106=some zne:=by kernel_rfl
theorem zsl:zbg Tryz.f107=some znf:=by kernel_rfl
theorem zsm:zbg Tryz.f108=some zng:=by kernel_rfl
theorem zmT:zbg Tryz.f109=some ziK:=by kernel_rfl
theorem zpW:zbg Tryz.f110=some zlf:=by kernel_rfl
theorem zpX:zbg Tryz.f111=some zlg:=by kernel_rfl
theorem zxx:zbg Tryz.f112=some zuP:=by kernel_rfl
theorem zlK:zbg Tryz.f113=some zhV:=by kernel_rfl
theorem zo0:zvz [(0,0)] Tryz.f114=some zkn:=by kernel_rfl
theorem zsn:zbg Tryz.f115=some znl:=by kernel_rfl
theorem zBo:zbg Tryz.f116=some zyv:=by kernel_rfl
theorem zBp:zbg Tryz.f117=some zyB:=by kernel_rfl
theorem ztj:zbg Tryz.f119=some zoL:=by kernel_rfl
theorem zpY:zbg Tryz.f120=some zlp:=by kernel_rfl
theorem zrg:zvz [(0,0)] Tryz.f121=some zl5:=by kernel_rfl
theorem zob:zbg Tryz.f122=some zjP:=by kernel_rfl
theorem zpZ:zvz [(0,0)] Tryz.f123=some zlq:=by kernel_rfl
theorem zoc:zbg Tryz.f124=some zjQ:=by kernel_rfl
theorem zo1:zvz [(0,0)] Tryz.f125=some zkq:=by kernel_rfl
theorem zoQ:zbg Tryz.f126=some zkr:=by kernel_rfl
theorem zqZ:zbg Tryz.f127=some zl6:=by kernel_rfl
theorem zrT:zbg Tryz.f128=some znq:=by kernel_rfl
theorem zpt:zbg Tryz.f129=some zls:=by kernel_rfl
theorem zDd:zbg Tryz.f130=some zCj:=by kernel_rfl
theorem zy2:zbg Tryz.f131=some zwS:=by kernel_rfl
theorem zlI:zbg Tryz.f132=some zhY:=by kernel_rfl
theorem zrU:zbg Tryz.f133=some zns:=by kernel_rfl
theorem zmD:zbg Tryz.f153=some ziL:=by kernel_rfl
theorem zpu:zbg Tryz.f154=some zlt:=by kernel_rfl
theorem zoR:zbg Tryz.f155=some zks:=by kernel_rfl
theorem zsX:zbg Tryz.f156=some zoN:=by kernel_rfl
theorem ziz:zvz [(0,0)] Tryz.f157=some ze3:=by kernel_rfl
theorem zj0:zbg Tryz.f158=some zgb:=by kernel_rfl
theorem zju:zvz [(0,0)] Tryz.f159=some zfM:=by kernel_rfl
theorem zh0:zbg Tryz.f160=some zex:=by kernel_rfl
theorem zpv:zbg Tryz.f161=some zlu:=by kernel_rfl
theorem zsZ:zbg Tryz.f162=some zoO:=by kernel_rfl
theorem znU:zbg Tryz.f163=some zjR:=by kernel_rfl
theorem zt2:zbg Tryz.f165=some zqs:=by kernel_rfl
theorem zy4:zvz [(3,1)] Tryz.f166=some zwW:=by kernel_rfl
theorem zmF:zbg Tryz.f167=some ziM:=by kernel_rfl
theorem zmG:zbg Tryz.f168=some ziN:=by kernel_rfl
theorem zpx:zbg Tryz.f169=some zkN:=by kernel_rfl
theorem zpy:zbg Tryz.f170=some zkO:=by kernel_rfl
theorem zmd:zbg Tryz.f171=some zh2:=by kernel_rfl
theorem zuZ:zbg Tryz.f173=some zrx:=by kernel_rfl
theorem zrY:zbg Tryz.f174=some zmy:=by kernel_rfl
theorem zq4:zbg Tryz.f175=some zlU:=by kernel_rfl
theorem zme:zbg Tryz.f176=some zh4:=by kernel_rfl
theorem zvV:zbg Tryz.f177=some zsP:=by kernel_rfl
theorem zpA:zbg Tryz.f178=some zkP:=by kernel_rfl
theorem zq7:zbg Tryz.f179=some zlV:=by kernel_rfl
theorem zrZ:zbg Tryz.f180=some zmz:=by kernel_rfl
theorem zy8:zbg Tryz.f181=some zvK:=by kernel_rfl
theorem zr0:zbg Tryz.f183=some zmA:=by kernel_rfl
theorem zpC:zbg Tryz.f184=some zkQ:=by kernel_rfl
theorem zlJ:zbg Tryz.f185=some zhM:=by kernel_rfl
theorem zpD:zbg Tryz.f186=some zkR:=by kernel_rfl
theorem zr2:zbg Tryz.f190=some zmC:=by kernel_rfl
theorem zkS:zbg Tryz.f198=some zgZ:=by kernel_rfl
theorem zkT:zbg Tryz.f206=some zg0:=by kernel_rfl
theorem zmJ:zbg Tryz.f207=some ziB:=by kernel_rfl
theorem zmh:zbg Tryz.f208=some zh7:=by kernel_rfl
theorem zs6:zbg Tryz.f215=some zoD:=by kernel_rfl
theorem zTn:∀ f F,ctx.fns f=some F→∃ fn fl,Tryz.prog.funcs[f]?=some fn∧cfn ctx Tryz.prog fl fn=some F∧fn.name≠ "runtime.NumGoroutine":=by
  intro f F h
  simp only [ctx] at h
  unfold zXN at h
  split at h
  · exact fnE h Tryz.func2 zts (by decide +kernel)
  · exact fnE h Tryz.func3 zmp (by decide +kernel)
  · exact fnE h Tryz.func4 zo4 (by decide +kernel)
  · exact fnE h Tryz.func5 zwz (by decide +kernel)
  · exact fnE h Tryz.func6 zu8 (by decide +kernel)
  · exact fnE h Tryz.func7 zlc (by decide +kernel)
  · exact fnE h Tryz.func8 zg7 (by decide +kernel)
  · exact fnE h Tryz.func9 zld (by decide +kernel)
  · exact fnE h Tryz.func10 zg9 (by decide +kernel)
  · exact fnE h Tryz.func11 znb (by decide +kernel)
  · exact fnE h Tryz.func12 ztt (by decide +kernel)
  · exact fnE h Tryz.func13 zof (by decide +kernel)
  · exact fnE h Tryz.func14 zwB (by decide +kernel)
  · exact fnE h Tryz.func15 zog (by decide +kernel)
  · exact fnE h Tryz.func16 zlO (by decide +kernel)
  · exact fnE h Tryz.func17 znd (by decide +kernel)
  · exact fnE h Tryz.func18 zsy (by decide +kernel)
  · exact fnE h Tryz.func19 zle (by decide +kernel)
  · exact fnE h Tryz.func20 zgv (by decide +kernel)
  · exact fnE h Tryz.func21 zj9 (by decide +kernel)
  · exact fnE h Tryz.func22 zD6 (by decide +kernel)
  · exact fnE h Tryz.func23 zun (by decide +kernel)
  · exact fnE h Tryz.func24 zuo (by decide +kernel)
  · exact fnE h Tryz.func25 zlP (by decide +kernel)
  · exact fnE h Tryz.func26 zsA (by decide +kernel)
  · exact fnE h Tryz.func27 zmq (by decide +kernel)
  · exact fnE h Tryz.func28 zfm (by decide +kernel)
  · exact fnE h Tryz.func29 zoh (by decide +kernel)
  · exact fnE h Tryz.func30 zqg (by decide +kernel)
  · exact fnE h Tryz.func31 zsB (by decide +kernel)
  · exact fnE h Tryz.func32 zoi (by decide +kernel)
  · exact fnE h Tryz.func33 ztx (by decide +kernel)
  · exact fnE h Tryz.func34 znj (by decide +kernel)
  · exact fnE h Tryz.func35 zlQ (by decide +kernel)
  · exact fnE h Tryz.func36 zmr (by decide +kernel)
  · exact fnE h Tryz.func37 zsC (by decide +kernel)
  · exact fnE h Tryz.func38 zo6 (by decide +kernel)
  · exact fnE h Tryz.func39 zoj (by decide +kernel)
  · exact fnE h Tryz.func40 zlh (by decide +kernel)
  · exact fnE h Tryz.func41 zgz (by decide +kernel)
  · exact fnE h Tryz.func42 zka (by decide +kernel)
  · exact fnE h Tryz.func43 zqi (by decide +kernel)
  · exact fnE h Tryz.func44 zxJ (by decide +kernel)
  · exact fnE h Tryz.func45 ztd (by decide +kernel)
  · exact fnE h Tryz.func46 zk1 (by decide +kernel)
  · exact fnE h Tryz.func47 zu0 (by decide +kernel)
  · exact fnE h Tryz.func48 zn4 (by decide +kernel)
  · exact fnE h Tryz.func49 zxq (by decide +kernel)
  · exact fnE h Tryz.func50 zpL (by decide +kernel)
  · exact fnE h Tryz.func51 zpM (by decide +kernel)
  · exact fnE h Tryz.func52 zr5 (by decide +kernel)
  · exact fnE h Tryz.func53 zt6 (by decide +kernel)
  · exact fnE h Tryz.func54 zrd (by decide +kernel)
  · exact fnE h Tryz.func55 zv7 (by decide +kernel)
  · exact fnE h Tryz.func56 zBk (by decide +kernel)
  · exact fnE h Tryz.func57 zv8 (by decide +kernel)
  · exact fnE h Tryz.func58 zn5 (by decide +kernel)
  · exact fnE h Tryz.func59 zxr (by decide +kernel)
  · exact fnE h Tryz.func60 zpN (by decide +kernel)
  · exact fnE h Tryz.func61 zn6 (by decide +kernel)
  · exact fnE h Tryz.func62 zn7 (by decide +kernel)
  · exact fnE h Tryz.func63 ztg (by decide +kernel)
  · exact fnE h Tryz.func64 zr6 (by decide +kernel)
  · exact fnE h Tryz.func65 zre (by decide +kernel)
  · exact fnE h Tryz.func66 zn8 (by decide +kernel)
  · exact fnE h Tryz.func67 zr7 (by decide +kernel)
  · exact fnE h Tryz.func68 zr8 (by decide +kernel)
  · exact fnE h Tryz.func69 zn9 (by decide +kernel)
  · exact fnE h Tryz.func70 zwa (by decide +kernel)
  · exact fnE h Tryz.func71 zpO (by decide +kernel)
  · exact fnE h Tryz.func72 zr9 (by decide +kernel)
  · exact fnE h Tryz.func73 zt7 (by decide +kernel)
  · exact fnE h Tryz.func74 zsa (by decide +kernel)
  · exact fnE h Tryz.func75 zpP (by decide +kernel)
  · exact fnE h Tryz.func76 zsb (by decide +kernel)
  · exact fnE h Tryz.func77 zsc (by decide +kernel)
  · exact fnE h Tryz.func78 zsd (by decide +kernel)
  · exact fnE h Tryz.func79 zj4 (by decide +kernel)
  · exact fnE h Tryz.func80 zoY (by decide +kernel)
  · exact fnE h Tryz.func81 zwc (by decide +kernel)
  · exact fnE h Tryz.func82 zxu (by decide +kernel)
  · exact fnE h Tryz.func83 zzw (by decide +kernel)
  · exact fnE h Tryz.func84 zoa (by decide +kernel)
  · exact fnE h Tryz.func85 zpQ (by decide +kernel)
  · exact fnE h Tryz.func86 zpR (by decide +kernel)
  · exact fnE h Tryz.func87 zse (by decide +kernel)
  · exact fnE h Tryz.func88 zpT (by decide +kernel)
  · exact fnE h Tryz.func89 zxv (by decide +kernel)
  · exact fnE h Tryz.func90 zwd (by decide +kernel)
  · exact fnE h Tryz.func91 zsg (by decide +kernel)
  · exact fnE h Tryz.func92 zmR (by decide +kernel)
  · exact fnE h Tryz.func93 zoZ (by decide +kernel)
  · exact fnE h Tryz.func94 zt9 (by decide +kernel)
  · exact fnE h Tryz.func95 zxw (by decide +kernel)
  · exact fnE h Tryz.func97 zpU (by decide +kernel)
  · exact fnE h Tryz.func98 zu1 (by decide +kernel)
  · exact fnE h Tryz.func99 zsh (by decide +kernel)
  · exact fnE h Tryz.func100 zsi (by decide +kernel)
  · exact fnE h Tryz.func101 zti (by decide +kernel)
  · exact fnE h Tryz.func102 zsj (by decide +kernel)
  · exact fnE h Tryz.func103 zpV (by decide +kernel)
  · exact fnE h Tryz.func104 zmS (by decide +kernel)
  · exact fnE h Tryz.func105 zrf (by decide +kernel)
  · exact fnE h Tryz.func106 zsk (by decide +kernel)
  · exact fnE h Tryz.func107 zsl (by decide +kernel)
  · exact fnE h Tryz.func108 zsm (by decide +kernel)
  · exact fnE h Tryz.func109 zmT (by decide +kernel)
  · exact fnE h Tryz.func110 zpW (by decide +kernel)
  · exact fnE h Tryz.func111 zpX (by decide +kernel)
  · exact fnE h Tryz.func112 zxx (by decide +kernel)
  · exact fnE h Tryz.func113 zlK (by decide +kernel)
  · exact fnE h Tryz.func114 zo0 (by decide +kernel)
  · exact fnE h Tryz.func115 zsn (by decide +kernel)
  · exact fnE h Tryz.func116 zBo (by decide +kernel)
  · exact fnE h Tryz.func117 zBp (by decide +kernel)
  · exact fnE h Tryz.func119 ztj (by decide +kernel)
  · exact fnE h Tryz.func120 zpY (by decide +kernel)
  · exact fnE h Tryz.func121 zrg (by decide +kernel)
  · exact fnE h Tryz.func122 zob (by decide +kernel)
  · exact fnE h Tryz.func123 zpZ (by decide +kernel)
  · exact fnE h Tryz.func124 zoc (by decide +kernel)
  · exact fnE h Tryz.func125 zo1 (by decide +kernel)
  · exact fnE h Tryz.func126 zoQ (by decide +kernel)
  · exact fnE h Tryz.func127 zqZ (by decide +kernel)
  · exact fnE h Tryz.func128 zrT (by decide +kernel)
  · exact fnE h Tryz.func129 zpt (by decide +kernel)
  · exact fnE h Tryz.func130 zDd (by decide +kernel)
  · exact fnE h Tryz.func131 zy2 (by decide +kernel)
  · exact fnE h Tryz.func132 zlI (by decide +kernel)
  · exact fnE h Tryz.func133 zrU (by decide +kernel)
  · exact fnE h Tryz.func153 zmD (by decide +kernel)
  · exact fnE h Tryz.func154 zpu (by decide +kernel)
  · exact fnE h Tryz.func155 zoR (by decide +kernel)
  · exact fnE h Tryz.func156 zsX (by decide +kernel)
  · exact fnE h Tryz.func157 ziz (by decide +kernel)
  · exact fnE h Tryz.func158 zj0 (by decide +kernel)
  · exact fnE h Tryz.func159 zju (by decide +kernel)
  · exact fnE h Tryz.func160 zh0 (by decide +kernel)
  · exact fnE h Tryz.func161 zpv (by decide +kernel)
  · exact fnE h Tryz.func162 zsZ (by decide +kernel)
  · exact fnE h Tryz.func163 znU (by decide +kernel)
  · exact fnE h Tryz.func165 zt2 (by decide +kernel)
  · exact fnE h Tryz.func166 zy4 (by decide +kernel)
  · exact fnE h Tryz.func167 zmF (by decide +kernel)
  · exact fnE h Tryz.func168 zmG (by decide +kernel)
  · exact fnE h Tryz.func169 zpx (by decide +kernel)
  · exact fnE h Tryz.func170 zpy (by decide +kernel)
  · exact fnE h Tryz.func171 zmd (by decide +kernel)
  · exact fnE h Tryz.func173 zuZ (by decide +kernel)
  · exact fnE h Tryz.func174 zrY (by decide +kernel)
  · exact fnE h Tryz.func175 zq4 (by decide +kernel)
  · exact fnE h Tryz.func176 zme (by decide +kernel)
  · exact fnE h Tryz.func177 zvV (by decide +kernel)
  · exact fnE h Tryz.func178 zpA (by decide +kernel)
  · exact fnE h Tryz.func179 zq7 (by decide +kernel)
  · exact fnE h Tryz.func180 zrZ (by decide +kernel)
  · exact fnE h Tryz.func181 zy8 (by decide +kernel)
  · exact fnE h Tryz.func183 zr0 (by decide +kernel)
  · exact fnE h Tryz.func184 zpC (by decide +kernel)
  · exact fnE h Tryz.func185 zlJ (by decide +kernel)
  · exact fnE h Tryz.func186 zpD (by decide +kernel)
  · exact fnE h Tryz.func190 zr2 (by decide +kernel)
  · exact fnE h Tryz.func198 zkS (by decide +kernel)
  · exact fnE h Tryz.func206 zkT (by decide +kernel)
  · exact fnE h Tryz.func207 zmJ (by decide +kernel)
  · exact fnE h Tryz.func208 zmh (by decide +kernel)
  · exact fnE h Tryz.func215 zs6 (by decide +kernel)
  · simp at h
theorem zP1:(zPC.all fun r=>zzV Tryz.prog r.1 r.2.1 r.2.2)=true:=by kernel_rfl
theorem zP2:∀ t name path f,ctx.meth t name=some (path,f)→path=[]∧zzV Tryz.prog t name f=true:=by
  intro t name path f h
  have h1:(zPC.find? fun r=>r.1==t&&r.2.1==name).map (fun r=>(([]:List (Nat × Nat × Bool)),r.2.2))=some (path,f):=h
  obtain ⟨r,hr,he⟩:=Option.map_eq_some_iff.1 h1
  have h2:=List.find?_some hr
  have h3:=List.all_eq_true.1 zP1 r (List.mem_of_find?_eq_some hr)
  simp only [Bool.and_eq_true,beq_iff_eq] at h2
  simp only [Prod.mk.injEq] at he
  rw [h2.1,h2.2,he.2] at h3
  exact ⟨he.1.symm,h3⟩
theorem zIM:zIb Tryz.prog 164:=⟨fun args w=>zvM Tryz.func164 rfl (by decide +kernel) args w,fun b off fi first cap w Q h0 h1 f0 f1 hf hQ=>Go.Proofs.Once.do_first b off fi first cap w Q h0 h1 f0 f1 hf hQ,fun a d hd fv w h0=>Go.Proofs.Once.do_done a d hd fv w h0⟩
theorem zIO {L:Lim} {args:List zaa} {h:zab} {v:zaa} {h':zab} (hp:zUo.pre L args h=some (.inl (v,h'))):zh8 ctx Tryz.prog L 96 args h v h':=
  zHJ Tryz.func96 (by kernel_rfl) (by kernel_rfl) (by kernel_rfl) (e:=add64Entry) (by kernel_rfl) (fun x y c hc w=>zLK x y c hc w) hp
theorem zGg {L:Lim} {args:List zaa} {h:zab} {v:zaa} {h':zab} (hp:zSM.pre L args h=some (.inl (v,h'))):zh8 ctx Tryz.prog L 118 args h v h':=
  zHJ Tryz.func118 (by kernel_rfl) (by kernel_rfl) (by kernel_rfl) (e:=zEy) (by kernel_rfl) (fun x y c hc w=>zLL x y c hc w) hp
theorem zTq:zFV ctx Tryz.prog where
  fns:=zTn
  extA:=by
    intro f g h L args hh v h' hp
    simp only [ctx] at h
    unfold zWI at h
    split at h
    · obtain rfl:=Option.some.inj h;exact zIO hp
    · obtain rfl:=Option.some.inj h;exact zGg hp
    · obtain rfl:=Option.some.inj h;exact zLU zIM hp
    · simp at h
  extB:=by
    intro f g h L args hh f1 bs h1 hp
    simp only [ctx] at h
    unfold zWI at h
    split at h
    · obtain rfl:=Option.some.inj h;exact absurd hp zEA
    · obtain rfl:=Option.some.inj h;exact absurd hp zEA
    · obtain rfl:=Option.some.inj h;exact fun v1 h2 v h' hk hq=>zLV zIM hp hk hq
    · simp at h
  meth:=by
    intro t name path f h s v cv r w hrep hm
    obtain ⟨rfl,hrow⟩:=zP2 t name path f h
    obtain rfl:v=r:=Option.some.inj hm
    exact ⟨cv,zNE hrow _ cv w,hrep⟩
end Go.Av
