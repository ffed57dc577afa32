/- The machine's code is the program's. -/
import Derived.Test.YtbookmjmhfoolaaGreatDoorC0
import Derived.Test.YtbookmjmhfoolaaGreatDoorChecked
import Derived.KernelRfl
import Derived.Test.YtbookmjmhfoolaaGreatDoorC9
set_option maxRecDepth 100000
namespace Go.Av
open Go.Proofs
noncomputable abbrev zbg (f:Func):Option AFn:=cfn ctx Tryz.prog ⟨fun _ _=>true,false⟩ f
noncomputable abbrev zvT (l:List (Nat × Nat)) (f:Func):Option AFn:=cfn ctx Tryz.prog ⟨fun r o=>!l.contains (r,o),false⟩ f
noncomputable abbrev zRL (f:Func):Option AFn:=cfn ctx Tryz.prog ⟨fun _ _=>true,true⟩ f
theorem fnE {f:FuncId} {F F0:AFn} {fn:Func} {fl:zCt} (h:some F0=some F) (p:Tryz.prog.funcs[f]?=some fn) (q:cfn ctx Tryz.prog fl fn=some F0) (r:fn.name≠ "runtime.NumGoroutine"):∃ fn fl,Tryz.prog.funcs[f]?=some fn∧cfn ctx Tryz.prog fl fn=some F∧fn.name≠ "runtime.NumGoroutine":=Option.some.inj h ▸ ⟨_,_,p,q,r⟩
theorem zkj:zbg Tryz.f3=some zgQ:=by kernel_rfl
theorem zmZ:zbg Tryz.f7=some ziN:=by kernel_rfl
theorem zph:zbg Tryz.f8=some zkR:=by kernel_rfl
theorem zsP:zbg Tryz.f9=some zpB:=by kernel_rfl
theorem zpi:zbg Tryz.f10=some zkS:=by kernel_rfl
theorem zk6:zbg Tryz.f12=some zhl:=by kernel_rfl
theorem zm0:zbg Tryz.f13=some ziO:=by kernel_rfl
theorem zpj:zvT [(6,2)] Tryz.f18=some zkT:=by kernel_rfl
theorem zpk:zbg Tryz.f19=some zkU:=by kernel_rfl
theorem zvW:zvT [(4,2)] Tryz.f32=some ztq:=by kernel_rfl
theorem zzk:zvT [(6,0)] Tryz.f33=some zwA:=by kernel_rfl
theorem zl6:zbg Tryz.f34=some zhE:=by kernel_rfl
theorem zsR:zbg Tryz.f35=some zog:=by kernel_rfl
theorem zre:zbg Tryz.f36=some zm9:=by kernel_rfl
theorem zfL:zbg Tryz.f37=some zc4:=by kernel_rfl
theorem zfy:zbg Tryz.f38=some zcO:=by kernel_rfl
theorem ze4:zbg Tryz.f39=some zcs:=by kernel_rfl
theorem zkk:zbg Tryz.f40=some zgj:=by kernel_rfl
theorem zfz:zbg Tryz.f41=some zcP:=by kernel_rfl
theorem zfM:zbg Tryz.f42=some zc5:=by kernel_rfl
theorem zqi:zbg Tryz.f59=some zlo:=by kernel_rfl
theorem zl7:zbg Tryz.f60=some zhL:=by kernel_rfl
theorem ztV:zbg Tryz.f61=some zqz:=by kernel_rfl
theorem ze5:zRL Tryz.f62=some zct:=by kernel_rfl
theorem zqj:zbg Tryz.f63=some zlt:=by kernel_rfl
theorem zqk:zbg Tryz.f64=some zlw:=by kernel_rfl
theorem zip:zbg Tryz.f65=some ze7:=by kernel_rfl
theorem znW:zbg Tryz.f66=some zjd:=by kernel_rfl
theorem zsS:zvT [(0,0)] Tryz.f67=some zop:=by kernel_rfl
theorem zg2:zbg Tryz.f68=some zdE:=by kernel_rfl
theorem zrf:zbg Tryz.f69=some znc:=by kernel_rfl
theorem zm1:zbg Tryz.f70=some ziy:=by kernel_rfl
theorem zgJ:zbg Tryz.f71=some zdu:=by kernel_rfl
theorem zrg:zbg Tryz.f72=some znd:=by kernel_rfl
theorem zkm:zbg Tryz.f73=some zgp:=by kernel_rfl
theorem ztW:zbg Tryz.f74=some zqD:=by kernel_rfl
theorem zk7:zbg Tryz.f75=some zhd:=by kernel_rfl
theorem ziq:zvT [(0,0)] Tryz.f97=some ze8:=by kernel_rfl
theorem zsV:zvT [(1,2)] Tryz.f106=some zow:=by kernel_rfl
theorem zsW:zbg Tryz.f107=some zoy:=by kernel_rfl
theorem zl8:zbg Tryz.f108=some zhV:=by kernel_rfl
theorem znX:zbg Tryz.f109=some zjl:=by kernel_rfl
theorem zpl:zvT [(3,7)] Tryz.f110=some zkH:=by kernel_rfl
theorem zid:zvT [(3,7)] Tryz.f111=some zeF:=by kernel_rfl
theorem zri:zvT [(1,1)] Tryz.f112=some znh:=by kernel_rfl
theorem zpm:zbg Tryz.f113=some zkL:=by kernel_rfl
theorem zsX:zbg Tryz.f114=some zo0:=by kernel_rfl
theorem zm2:zbg Tryz.f115=some ziG:=by kernel_rfl
theorem zqn:zbg Tryz.f116=some zlP:=by kernel_rfl
theorem zqo:zbg Tryz.f117=some zlQ:=by kernel_rfl
theorem zk8:zbg Tryz.f118=some zhg:=by kernel_rfl
theorem zl9:zvT [(9,5)] Tryz.f130=some zh8:=by kernel_rfl
theorem zko:zbg Tryz.f131=some zgC:=by kernel_rfl
theorem zkp:zbg Tryz.f132=some zgD:=by kernel_rfl
theorem zir:zvT [(0,0)] Tryz.f144=some zfd:=by kernel_rfl
theorem zk9:zbg Tryz.f147=some zhj:=by kernel_rfl
theorem zm3:zbg Tryz.f148=some ziJ:=by kernel_rfl
theorem ztX:zbg Tryz.f149=some zqL:=by kernel_rfl
theorem zi4:zRL Tryz.f150=some zfx:=by kernel_rfl
theorem zs1:zbg Tryz.f151=some zo7:=by kernel_rfl
theorem znY:zbg Tryz.f152=some zjy:=by kernel_rfl
theorem zjF:zvT [(0,0)] Tryz.f153=some zfU:=by kernel_rfl
theorem zla:zvT [(0,0)] Tryz.f154=some zhk:=by kernel_rfl
theorem zs2:zbg Tryz.f155=some zpa:=by kernel_rfl
theorem zxR:zvT [(3,3)] Tryz.f156=some zuJ:=by kernel_rfl
theorem zs5:zbg Tryz.f157=some zpd:=by kernel_rfl
theorem zkq:zbg Tryz.f158=some zgG:=by kernel_rfl
theorem ztY:zbg Tryz.f159=some zqN:=by kernel_rfl
theorem zv1:zvT [(0,1),(0,0)] Tryz.f160=some zsM:=by kernel_rfl
theorem znZ:zbg Tryz.f161=some zjB:=by kernel_rfl
theorem zn0:zbg Tryz.f162=some zjC:=by kernel_rfl
theorem zn1:zbg Tryz.f163=some zjD:=by kernel_rfl
theorem ztZ:zbg Tryz.f164=some zqO:=by kernel_rfl
theorem zqp:zbg Tryz.f165=some zlj:=by kernel_rfl
theorem zt0:zbg Tryz.f166=some zqx:=by kernel_rfl
theorem zs6:zbg Tryz.f168=some zoh:=by kernel_rfl
theorem zn2:zbg Tryz.f170=some zi8:=by kernel_rfl
theorem zig:zbg Tryz.f173=some zey:=by kernel_rfl
theorem zkr:zbg Tryz.f180=some zgi:=by kernel_rfl
theorem zma:zvT [(0,0)] Tryz.f181=some zhH:=by kernel_rfl
theorem zmb:zbg Tryz.f182=some zhI:=by kernel_rfl
theorem zt1:zbg Tryz.f190=some zqy:=by kernel_rfl
theorem zis:zbg Tryz.f191=some ze6:=by kernel_rfl
theorem zlb:zvT [(0,0)] Tryz.f192=some zha:=by kernel_rfl
theorem zg3:zbg Tryz.f193=some zdC:=by kernel_rfl
theorem zlc:zbg Tryz.f194=some zhb:=by kernel_rfl
theorem zt4:zbg Tryz.f195=some zqA:=by kernel_rfl
theorem zwa:zbg Tryz.f196=some zrS:=by kernel_rfl
theorem zrk:zbg Tryz.f197=some znb:=by kernel_rfl
theorem zt5:zbg Tryz.f198=some zqB:=by kernel_rfl
theorem zpt:zbg Tryz.f199=some zkD:=by kernel_rfl
theorem zqt:zbg Tryz.f200=some zlz:=by kernel_rfl
theorem zpu:zbg Tryz.f201=some zkE:=by kernel_rfl
theorem zpv:zbg Tryz.f202=some zkF:=by kernel_rfl
theorem zwb:zbg Tryz.f203=some zrW:=by kernel_rfl
theorem zn4:zbg Tryz.f204=some zjg:=by kernel_rfl
theorem zn5:zbg Tryz.f211=some zjh:=by kernel_rfl
theorem zpw:zbg Tryz.f212=some zkG:=by kernel_rfl
theorem zn6:zbg Tryz.f213=some zjk:=by kernel_rfl
theorem zmd:zbg Tryz.f214=some zhW:=by kernel_rfl
theorem zjJ:zbg Tryz.f215=some zfS:=by kernel_rfl
theorem zkv:zbg Tryz.f224=some zgB:=by kernel_rfl
theorem zle:zvT [(0,0)] Tryz.f225=some zhe:=by kernel_rfl
theorem zlf:zbg Tryz.f226=some zhf:=by kernel_rfl
theorem zm4:zbg Tryz.f227=some ziH:=by kernel_rfl
theorem zn9:zbg Tryz.f228=some zjv:=by kernel_rfl
theorem zme:zbg Tryz.f229=some zh7:=by kernel_rfl
theorem zwc:zbg Tryz.f231=some zss:=by kernel_rfl
theorem zt6:zbg Tryz.f232=some zqJ:=by kernel_rfl
theorem zx7:zbg Tryz.f233=some zuF:=by kernel_rfl
theorem zlg:zbg Tryz.f234=some zhh:=by kernel_rfl
theorem zzw:zbg Tryz.f235=some zxv:=by kernel_rfl
theorem zm5:zbg Tryz.f236=some ziI:=by kernel_rfl
theorem zpx:zbg Tryz.f237=some zkN:=by kernel_rfl
theorem ziv:zbg Tryz.f243=some zfe:=by kernel_rfl
theorem zx8:zbg Tryz.f244=some zuH:=by kernel_rfl
theorem zmf:zbg Tryz.f245=some zh9:=by kernel_rfl
theorem zzy:zbg Tryz.f246=some zxC:=by kernel_rfl
theorem zkw:zbg Tryz.f247=some zgE:=by kernel_rfl
theorem zwi:zbg Tryz.f248=some zsG:=by kernel_rfl
theorem zoa:zbg Tryz.f249=some zjz:=by kernel_rfl
theorem zwj:zbg Tryz.f250=some zsJ:=by kernel_rfl
theorem zg4:zbg Tryz.f271=some zdP:=by kernel_rfl
theorem zg5:zbg Tryz.f272=some zdR:=by kernel_rfl
theorem zhy:zbg Tryz.f273=some zei:=by kernel_rfl
theorem zg6:zbg Tryz.f274=some zdS:=by kernel_rfl
theorem zil:zbg Tryz.f275=some zeG:=by kernel_rfl
theorem zg7:zbg Tryz.f276=some zdT:=by kernel_rfl
theorem zqv:zbg Tryz.f277=some zl4:=by kernel_rfl
theorem zhz:zbg Tryz.f278=some zej:=by kernel_rfl
theorem zhA:zbg Tryz.f279=some zek:=by kernel_rfl
theorem zpy:zbg Tryz.f280=some zkz:=by kernel_rfl
theorem zrl:zbg Tryz.f281=some zm8:=by kernel_rfl
theorem zob:zbg Tryz.f282=some zi7:=by kernel_rfl
theorem ztl:zvT [(0,0)] Tryz.f283=some zoj:=by kernel_rfl
theorem zm6:zbg Tryz.f295=some zix:=by kernel_rfl
theorem zjL:zbg Tryz.f304=some zfO:=by kernel_rfl
theorem zmg:zbg Tryz.f305=some zhG:=by kernel_rfl
theorem zlh:zbg Tryz.f306=some zg9:=by kernel_rfl
theorem zpz:zbg Tryz.f307=some zkA:=by kernel_rfl
theorem zmi:zbg Tryz.f312=some zhJ:=by kernel_rfl
theorem zpA:zbg Tryz.f313=some zkB:=by kernel_rfl
theorem zjM:zbg Tryz.f319=some zfQ:=by kernel_rfl
theorem zmj:zbg Tryz.f320=some zhM:=by kernel_rfl
theorem zi6:zbg Tryz.f326=some zfm:=by kernel_rfl
theorem zmk:zbg Tryz.f335=some zhO:=by kernel_rfl
theorem zOS:∀ f F,ctx.fns f=some F→∃ fn fl,Tryz.prog.funcs[f]?=some fn∧cfn ctx Tryz.prog fl fn=some F∧fn.name≠ "runtime.NumGoroutine":=by
  intro f F h
  simp only [ctx] at h
  unfold zRn at h
  split at h
  · exact fnE h Tryz.func3 zkj (by decide +kernel)
  · exact fnE h Tryz.func7 zmZ (by decide +kernel)
  · exact fnE h Tryz.func8 zph (by decide +kernel)
  · exact fnE h Tryz.func9 zsP (by decide +kernel)
  · exact fnE h Tryz.func10 zpi (by decide +kernel)
  · exact fnE h Tryz.func12 zk6 (by decide +kernel)
  · exact fnE h Tryz.func13 zm0 (by decide +kernel)
  · exact fnE h Tryz.func18 zpj (by decide +kernel)
  · exact fnE h Tryz.func19 zpk (by decide +kernel)
  · exact fnE h Tryz.func32 zvW (by decide +kernel)
  · exact fnE h Tryz.func33 zzk (by decide +kernel)
  · exact fnE h Tryz.func34 zl6 (by decide +kernel)
  · exact fnE h Tryz.func35 zsR (by decide +kernel)
  · exact fnE h Tryz.func36 zre (by decide +kernel)
  · exact fnE h Tryz.func37 zfL (by decide +kernel)
  · exact fnE h Tryz.func38 zfy (by decide +kernel)
  · exact fnE h Tryz.func39 ze4 (by decide +kernel)
  · exact fnE h Tryz.func40 zkk (by decide +kernel)
  · exact fnE h Tryz.func41 zfz (by decide +kernel)
  · exact fnE h Tryz.func42 zfM (by decide +kernel)
  · exact fnE h Tryz.func59 zqi (by decide +kernel)
  · exact fnE h Tryz.func60 zl7 (by decide +kernel)
  · exact fnE h Tryz.func61 ztV (by decide +kernel)
  · exact fnE h Tryz.func62 ze5 (by decide +kernel)
  · exact fnE h Tryz.func63 zqj (by decide +kernel)
  · exact fnE h Tryz.func64 zqk (by decide +kernel)
  · exact fnE h Tryz.func65 zip (by decide +kernel)
  · exact fnE h Tryz.func66 znW (by decide +kernel)
  · exact fnE h Tryz.func67 zsS (by decide +kernel)
  · exact fnE h Tryz.func68 zg2 (by decide +kernel)
  · exact fnE h Tryz.func69 zrf (by decide +kernel)
  · exact fnE h Tryz.func70 zm1 (by decide +kernel)
  · exact fnE h Tryz.func71 zgJ (by decide +kernel)
  · exact fnE h Tryz.func72 zrg (by decide +kernel)
  · exact fnE h Tryz.func73 zkm (by decide +kernel)
  · exact fnE h Tryz.func74 ztW (by decide +kernel)
  · exact fnE h Tryz.func75 zk7 (by decide +kernel)
  · exact fnE h Tryz.func97 ziq (by decide +kernel)
  · exact fnE h Tryz.func106 zsV (by decide +kernel)
  · exact fnE h Tryz.func107 zsW (by decide +kernel)
  · exact fnE h Tryz.func108 zl8 (by decide +kernel)
  · exact fnE h Tryz.func109 znX (by decide +kernel)
  · exact fnE h Tryz.func110 zpl (by decide +kernel)
  · exact fnE h Tryz.func111 zid (by decide +kernel)
  · exact fnE h Tryz.func112 zri (by decide +kernel)
  · exact fnE h Tryz.func113 zpm (by decide +kernel)
  · exact fnE h Tryz.func114 zsX (by decide +kernel)
  · exact fnE h Tryz.func115 zm2 (by decide +kernel)
  · exact fnE h Tryz.func116 zqn (by decide +kernel)
  · exact fnE h Tryz.func117 zqo (by decide +kernel)
  · exact fnE h Tryz.func118 zk8 (by decide +kernel)
  · exact fnE h Tryz.func130 zl9 (by decide +kernel)
  · exact fnE h Tryz.func131 zko (by decide +kernel)
  · exact fnE h Tryz.func132 zkp (by decide +kernel)
  · exact fnE h Tryz.func144 zir (by decide +kernel)
  · exact fnE h Tryz.func147 zk9 (by decide +kernel)
  · exact fnE h Tryz.func148 zm3 (by decide +kernel)
  · exact fnE h Tryz.func149 ztX (by decide +kernel)
  · exact fnE h Tryz.func150 zi4 (by decide +kernel)
  · exact fnE h Tryz.func151 zs1 (by decide +kernel)
  · exact fnE h Tryz.func152 znY (by decide +kernel)
  · exact fnE h Tryz.func153 zjF (by decide +kernel)
  · exact fnE h Tryz.func154 zla (by decide +kernel)
  · exact fnE h Tryz.func155 zs2 (by decide +kernel)
  · exact fnE h Tryz.func156 zxR (by decide +kernel)
  · exact fnE h Tryz.func157 zs5 (by decide +kernel)
  · exact fnE h Tryz.func158 zkq (by decide +kernel)
  · exact fnE h Tryz.func159 ztY (by decide +kernel)
  · exact fnE h Tryz.func160 zv1 (by decide +kernel)
  · exact fnE h Tryz.func161 znZ (by decide +kernel)
  · exact fnE h Tryz.func162 zn0 (by decide +kernel)
  · exact fnE h Tryz.func163 zn1 (by decide +kernel)
  · exact fnE h Tryz.func164 ztZ (by decide +kernel)
  · exact fnE h Tryz.func165 zqp (by decide +kernel)
  · exact fnE h Tryz.func166 zt0 (by decide +kernel)
  · exact fnE h Tryz.func168 zs6 (by decide +kernel)
  · exact fnE h Tryz.func170 zn2 (by decide +kernel)
  · exact fnE h Tryz.func173 zig (by decide +kernel)
  · exact fnE h Tryz.func180 zkr (by decide +kernel)
  · exact fnE h Tryz.func181 zma (by decide +kernel)
  · exact fnE h Tryz.func182 zmb (by decide +kernel)
  · exact fnE h Tryz.func190 zt1 (by decide +kernel)
  · exact fnE h Tryz.func191 zis (by decide +kernel)
  · exact fnE h Tryz.func192 zlb (by decide +kernel)
  · exact fnE h Tryz.func193 zg3 (by decide +kernel)
  · exact fnE h Tryz.func194 zlc (by decide +kernel)
  · exact fnE h Tryz.func195 zt4 (by decide +kernel)
  · exact fnE h Tryz.func196 zwa (by decide +kernel)
  · exact fnE h Tryz.func197 zrk (by decide +kernel)
  · exact fnE h Tryz.func198 zt5 (by decide +kernel)
  · exact fnE h Tryz.func199 zpt (by decide +kernel)
  · exact fnE h Tryz.func200 zqt (by decide +kernel)
  · exact fnE h Tryz.func201 zpu (by decide +kernel)
  · exact fnE h Tryz.func202 zpv (by decide +kernel)
  · exact fnE h Tryz.func203 zwb (by decide +kernel)
  · exact fnE h Tryz.func204 zn4 (by decide +kernel)
  · exact fnE h Tryz.func211 zn5 (by decide +kernel)
  · exact fnE h Tryz.func212 zpw (by decide +kernel)
  · exact fnE h Tryz.func213 zn6 (by decide +kernel)
  · exact fnE h Tryz.func214 zmd (by decide +kernel)
  · exact fnE h Tryz.func215 zjJ (by decide +kernel)
  · exact fnE h Tryz.func224 zkv (by decide +kernel)
  · exact fnE h Tryz.func225 zle (by decide +kernel)
  · exact fnE h Tryz.func226 zlf (by decide +kernel)
  · exact fnE h Tryz.func227 zm4 (by decide +kernel)
  · exact fnE h Tryz.func228 zn9 (by decide +kernel)
  · exact fnE h Tryz.func229 zme (by decide +kernel)
  · exact fnE h Tryz.func231 zwc (by decide +kernel)
  · exact fnE h Tryz.func232 zt6 (by decide +kernel)
  · exact fnE h Tryz.func233 zx7 (by decide +kernel)
  · exact fnE h Tryz.func234 zlg (by decide +kernel)
  · exact fnE h Tryz.func235 zzw (by decide +kernel)
  · exact fnE h Tryz.func236 zm5 (by decide +kernel)
  · exact fnE h Tryz.func237 zpx (by decide +kernel)
  · exact fnE h Tryz.func243 ziv (by decide +kernel)
  · exact fnE h Tryz.func244 zx8 (by decide +kernel)
  · exact fnE h Tryz.func245 zmf (by decide +kernel)
  · exact fnE h Tryz.func246 zzy (by decide +kernel)
  · exact fnE h Tryz.func247 zkw (by decide +kernel)
  · exact fnE h Tryz.func248 zwi (by decide +kernel)
  · exact fnE h Tryz.func249 zoa (by decide +kernel)
  · exact fnE h Tryz.func250 zwj (by decide +kernel)
  · exact fnE h Tryz.func271 zg4 (by decide +kernel)
  · exact fnE h Tryz.func272 zg5 (by decide +kernel)
  · exact fnE h Tryz.func273 zhy (by decide +kernel)
  · exact fnE h Tryz.func274 zg6 (by decide +kernel)
  · exact fnE h Tryz.func275 zil (by decide +kernel)
  · exact fnE h Tryz.func276 zg7 (by decide +kernel)
  · exact fnE h Tryz.func277 zqv (by decide +kernel)
  · exact fnE h Tryz.func278 zhz (by decide +kernel)
  · exact fnE h Tryz.func279 zhA (by decide +kernel)
  · exact fnE h Tryz.func280 zpy (by decide +kernel)
  · exact fnE h Tryz.func281 zrl (by decide +kernel)
  · exact fnE h Tryz.func282 zob (by decide +kernel)
  · exact fnE h Tryz.func283 ztl (by decide +kernel)
  · exact fnE h Tryz.func295 zm6 (by decide +kernel)
  · exact fnE h Tryz.func304 zjL (by decide +kernel)
  · exact fnE h Tryz.func305 zmg (by decide +kernel)
  · exact fnE h Tryz.func306 zlh (by decide +kernel)
  · exact fnE h Tryz.func307 zpz (by decide +kernel)
  · exact fnE h Tryz.func312 zmi (by decide +kernel)
  · exact fnE h Tryz.func313 zpA (by decide +kernel)
  · exact fnE h Tryz.func319 zjM (by decide +kernel)
  · exact fnE h Tryz.func320 zmj (by decide +kernel)
  · exact fnE h Tryz.func326 zi6 (by decide +kernel)
  · exact fnE h Tryz.func335 zmk (by decide +kernel)
  · simp at h
theorem zLJ:(zMF.all fun r=>zvz Tryz.prog r.1 r.2.1 r.2.2)=true:=by kernel_rfl
theorem zIE:(zIP.all fun r=>zrw Tryz.prog r.1 r.2.1 r.2.2.1 r.2.2.2)=true:=by kernel_rfl
theorem zLK:∀ t name path f,ctx.meth t name=some (path,f)→(path=[]∧zvz Tryz.prog t name f=true)∨∃ k,path=[(k,1,false)]∧zrw Tryz.prog t name f k=true:=by
  intro t name path f h
  have h1:zJy t name=some (path,f):=h
  unfold zJy at h1
  split at h1
  · rename_i r he
    have h2:=List.find?_some he
    have h3:=List.all_eq_true.1 zLJ r (List.mem_of_find?_eq_some he)
    simp only [Bool.and_eq_true,beq_iff_eq] at h2
    simp only [Option.some.injEq,Prod.mk.injEq] at h1
    rw [h2.1,h2.2,h1.2] at h3
    exact .inl ⟨h1.1.symm,h3⟩
  · obtain ⟨r,hr,he⟩:=Option.map_eq_some_iff.1 h1
    have h2:=List.find?_some hr
    have h3:=List.all_eq_true.1 zIE r (List.mem_of_find?_eq_some hr)
    simp only [Bool.and_eq_true,beq_iff_eq] at h2
    simp only [Prod.mk.injEq] at he
    rw [h2.1,h2.2,he.2] at h3
    exact .inr ⟨_,he.1.symm,h3⟩
theorem zFR {L:Lim} {args:List zaa} {h:zab} {v:zaa} {h':zab} (hp:zwL.pre L args h=some (.inl (v,h'))):zeh ctx Tryz.prog L 11 args h v h':=
  zGu (C:=ctx) Tryz.func11 (by kernel_rfl) (by decide +kernel) zRz rfl (fun l v w=>zFG l v w) hp
theorem zFT {L:Lim} {args:List zaa} {h:zab} {v:zaa} {h':zab} (hp:(zI5).pre L args h=some (.inl (v,h'))):zeh ctx Tryz.prog L 17 args h v h':=
  zKx (C:=ctx) (T:=5) (TC:=50) (by decide) Tryz.func17 (by kernel_rfl) (by decide +kernel) (fun a c n l w hn ho hl=>zHn a c n l w hn ho hl) hp
theorem zCi {L:Lim} {args:List zaa} {h:zab} {v:zaa} {h':zab} (hp:zNv.pre L args h=some (.inl (v,h'))):zeh ctx Tryz.prog L 167 args h v h':=
  zEi Tryz.func167 (by kernel_rfl) (by kernel_rfl) (by kernel_rfl) (e:=add64Entry) (by kernel_rfl) (fun x y c hc w=>zHr x y c hc w) hp
theorem zCj {L:Lim} {args:List zaa} {h:zab} {v:zaa} {h':zab} (hp:zNN.pre L args h=some (.inl (v,h'))):zeh ctx Tryz.prog L 230 args h v h':=
  zEi Tryz.func230 (by kernel_rfl) (by kernel_rfl) (by kernel_rfl) (e:=zAe) (by kernel_rfl) (fun x y c hc w=>zHs x y c hc w) hp
theorem zOW:zxe ctx Tryz.prog where
  fns:=zOS
  extA:=by
    intro f g h L args hh v h' hp
    simp only [ctx] at h
    unfold zQk at h
    split at h
    · obtain rfl:=Option.some.inj h;exact zFR hp
    · obtain rfl:=Option.some.inj h;exact zFT hp
    · obtain rfl:=Option.some.inj h;exact zCi hp
    · obtain rfl:=Option.some.inj h;exact zCj hp
    · simp at h
  extB:=by
    intro f g h L args hh f1 bs h1 hp
    simp only [ctx] at h
    unfold zQk at h
    split at h
    · obtain rfl:=Option.some.inj h;exact absurd hp zCT
    · obtain rfl:=Option.some.inj h;exact absurd hp zHp
    · obtain rfl:=Option.some.inj h;exact absurd hp zAf
    · obtain rfl:=Option.some.inj h;exact absurd hp zAf
    · simp at h
  meth:=by
    intro t name path f h s v cv r w hrep hm
    rcases zLK t name path f h with ⟨rfl,hrow⟩ | ⟨k,rfl,hrow⟩
    · obtain rfl:v=r:=Option.some.inj hm
      exact ⟨cv,zHd hrow _ cv w,hrep⟩
    · exact zDU hrow _ hrep hm w
end Go.Av
