/- The machine's code is the program's. -/
import Derived.Test.YtbookmjmhfoolaaGreatDoorC0
import Derived.Test.YtbookmjmhfoolaaGreatDoorChecked
import Derived.KernelRfl
import Derived.Test.YtbookmjmhfoolaaGreatDoorC9
set_option maxRecDepth 100000
namespace Go.Av
open Go.Proofs
noncomputable abbrev zbh (f:Func):Option AFn:=cfn ctx Tryz.prog ⟨fun _ _=>true,false⟩ f
noncomputable abbrev zup (l:List (Nat × Nat)) (f:Func):Option AFn:=cfn ctx Tryz.prog ⟨fun r o=>!l.contains (r,o),false⟩ f
noncomputable abbrev zPv (f:Func):Option AFn:=cfn ctx Tryz.prog ⟨fun _ _=>true,true⟩ f
theorem fnE {f:FuncId} {F F0:AFn} {fn:Func} {fl:zBa} (h:some F0=some F) (p:Tryz.prog.funcs[f]?=some fn) (q:cfn ctx Tryz.prog fl fn=some F0) (r:fn.name≠ "runtime.NumGoroutine"):∃ fn fl,Tryz.prog.funcs[f]?=some fn∧cfn ctx Tryz.prog fl fn=some F∧fn.name≠ "runtime.NumGoroutine":=Option.some.inj h ▸ ⟨_,_,p,q,r⟩
theorem zhz:zbh Tryz.f5=some zeA:=by kernel_rfl
theorem zhB:zbh Tryz.f6=some zeB:=by kernel_rfl
theorem zro:zbh Tryz.f9=some zo3:=by kernel_rfl
theorem znY:zbh Tryz.f10=some zkC:=by kernel_rfl
theorem zkG:zbh Tryz.f12=some zha:=by kernel_rfl
theorem zmg:zbh Tryz.f13=some ziz:=by kernel_rfl
theorem znZ:zup [(6,2)] Tryz.f18=some zkD:=by kernel_rfl
theorem zn0:zbh Tryz.f19=some zkE:=by kernel_rfl
theorem zus:zup [(4,2)] Tryz.f32=some zsB:=by kernel_rfl
theorem zxE:zup [(6,0)] Tryz.f33=some zw6:=by kernel_rfl
theorem zk5:zbh Tryz.f34=some zh7:=by kernel_rfl
theorem zrr:zbh Tryz.f35=some zo5:=by kernel_rfl
theorem zqq:zbh Tryz.f36=some zmY:=by kernel_rfl
theorem zfE:zbh Tryz.f37=some zc1:=by kernel_rfl
theorem zfj:zbh Tryz.f38=some zcX:=by kernel_rfl
theorem zeQ:zbh Tryz.f39=some zcz:=by kernel_rfl
theorem zjG:zbh Tryz.f40=some zgF:=by kernel_rfl
theorem zfk:zbh Tryz.f41=some zcY:=by kernel_rfl
theorem zfF:zbh Tryz.f42=some zc2:=by kernel_rfl
theorem zpi:zbh Tryz.f59=some zlU:=by kernel_rfl
theorem zk6:zbh Tryz.f60=some zia:=by kernel_rfl
theorem zsW:zbh Tryz.f61=some zqo:=by kernel_rfl
theorem zeR:zPv Tryz.f62=some zcA:=by kernel_rfl
theorem zpj:zbh Tryz.f63=some zlX:=by kernel_rfl
theorem zpk:zbh Tryz.f64=some zlY:=by kernel_rfl
theorem zid:zbh Tryz.f65=some zfa:=by kernel_rfl
theorem zna:zbh Tryz.f66=some zjA:=by kernel_rfl
theorem zrt:zup [(0,0)] Tryz.f67=some zo9:=by kernel_rfl
theorem zgJ:zbh Tryz.f68=some zdQ:=by kernel_rfl
theorem zqs:zbh Tryz.f69=some zm0:=by kernel_rfl
theorem zmh:zbh Tryz.f70=some ziB:=by kernel_rfl
theorem zgh:zbh Tryz.f71=some zdr:=by kernel_rfl
theorem zqu:zbh Tryz.f72=some zmV:=by kernel_rfl
theorem zjK:zbh Tryz.f73=some zgl:=by kernel_rfl
theorem zsY:zbh Tryz.f74=some zp7:=by kernel_rfl
theorem zkI:zbh Tryz.f75=some zgZ:=by kernel_rfl
theorem zie:zup [(0,0)] Tryz.f97=some ze0:=by kernel_rfl
theorem zrw:zup [(1,2)] Tryz.f106=some zoh:=by kernel_rfl
theorem zrx:zbh Tryz.f107=some zoi:=by kernel_rfl
theorem zk8:zbh Tryz.f108=some zhJ:=by kernel_rfl
theorem znc:zbh Tryz.f109=some zjd:=by kernel_rfl
theorem zn7:zup [(3,7)] Tryz.f110=some zkq:=by kernel_rfl
theorem zhF:zup [(3,7)] Tryz.f111=some zer:=by kernel_rfl
theorem zqv:zup [(1,1)] Tryz.f112=some zmR:=by kernel_rfl
theorem zn8:zbh Tryz.f113=some zks:=by kernel_rfl
theorem zrz:zbh Tryz.f114=some zol:=by kernel_rfl
theorem zmi:zbh Tryz.f115=some zip:=by kernel_rfl
theorem zpo:zbh Tryz.f116=some zlj:=by kernel_rfl
theorem zpp:zbh Tryz.f117=some zlk:=by kernel_rfl
theorem zkJ:zbh Tryz.f118=some zg0:=by kernel_rfl
theorem zla:zup [(9,5)] Tryz.f130=some zhN:=by kernel_rfl
theorem zjM:zbh Tryz.f131=some zgn:=by kernel_rfl
theorem zjN:zbh Tryz.f132=some zgo:=by kernel_rfl
theorem zif:zup [(0,0)] Tryz.f144=some ze1:=by kernel_rfl
theorem zkK:zbh Tryz.f147=some zg1:=by kernel_rfl
theorem zmk:zbh Tryz.f148=some ziq:=by kernel_rfl
theorem zs0:zbh Tryz.f149=some zp8:=by kernel_rfl
theorem ziG:zPv Tryz.f150=some zfp:=by kernel_rfl
theorem zrD:zbh Tryz.f151=some zon:=by kernel_rfl
theorem zng:zbh Tryz.f152=some zjg:=by kernel_rfl
theorem zi5:zup [(0,0)] Tryz.f153=some zfM:=by kernel_rfl
theorem zkL:zup [(0,0)] Tryz.f154=some zg2:=by kernel_rfl
theorem zrF:zbh Tryz.f155=some zoo:=by kernel_rfl
theorem zv0:zup [(3,3)] Tryz.f156=some zua:=by kernel_rfl
theorem zrG:zbh Tryz.f157=some zoZ:=by kernel_rfl
theorem zjQ:zbh Tryz.f158=some zgz:=by kernel_rfl
theorem zs3:zbh Tryz.f159=some zqh:=by kernel_rfl
theorem zux:zup [(0,1),(0,0)] Tryz.f160=some zsr:=by kernel_rfl
theorem znh:zbh Tryz.f161=some zjt:=by kernel_rfl
theorem zni:zbh Tryz.f162=some zjv:=by kernel_rfl
theorem znj:zbh Tryz.f163=some zjw:=by kernel_rfl
theorem zs5:zbh Tryz.f164=some zqi:=by kernel_rfl
theorem zps:zbh Tryz.f165=some zlH:=by kernel_rfl
theorem zs6:zbh Tryz.f166=some zqj:=by kernel_rfl
theorem zrL:zbh Tryz.f168=some zo1:=by kernel_rfl
theorem znk:zbh Tryz.f170=some zjx:=by kernel_rfl
theorem zhG:zbh Tryz.f173=some zex:=by kernel_rfl
theorem zjT:zbh Tryz.f180=some zgC:=by kernel_rfl
theorem zle:zup [(0,0)] Tryz.f181=some zh2:=by kernel_rfl
theorem zlf:zbh Tryz.f182=some zh3:=by kernel_rfl
theorem zs7:zbh Tryz.f190=some zqk:=by kernel_rfl
theorem zih:zbh Tryz.f191=some ze9:=by kernel_rfl
theorem zkM:zup [(0,0)] Tryz.f192=some zg8:=by kernel_rfl
theorem zgL:zbh Tryz.f193=some zdL:=by kernel_rfl
theorem zkN:zbh Tryz.f194=some zg9:=by kernel_rfl
theorem zs8:zbh Tryz.f195=some zql:=by kernel_rfl
theorem zuB:zbh Tryz.f196=some zst:=by kernel_rfl
theorem zqx:zbh Tryz.f197=some zmX:=by kernel_rfl
theorem zs9:zbh Tryz.f198=some zqn:=by kernel_rfl
theorem zob:zbh Tryz.f199=some zkz:=by kernel_rfl
theorem zpu:zbh Tryz.f200=some zlN:=by kernel_rfl
theorem zoc:zbh Tryz.f201=some zkA:=by kernel_rfl
theorem zod:zbh Tryz.f202=some zkB:=by kernel_rfl
theorem zuE:zbh Tryz.f203=some zr8:=by kernel_rfl
theorem znm:zbh Tryz.f204=some zjl:=by kernel_rfl
theorem znn:zbh Tryz.f211=some zjm:=by kernel_rfl
theorem zoe:zbh Tryz.f212=some zku:=by kernel_rfl
theorem zno:zbh Tryz.f213=some zjn:=by kernel_rfl
theorem zlh:zbh Tryz.f214=some zhU:=by kernel_rfl
theorem zi9:zbh Tryz.f215=some zfP:=by kernel_rfl
theorem zjU:zbh Tryz.f224=some zgv:=by kernel_rfl
theorem zkP:zup [(0,0)] Tryz.f225=some zg4:=by kernel_rfl
theorem zkQ:zbh Tryz.f226=some zg5:=by kernel_rfl
theorem zmn:zbh Tryz.f227=some ziu:=by kernel_rfl
theorem znp:zbh Tryz.f228=some zjq:=by kernel_rfl
theorem zlr:zbh Tryz.f229=some zhW:=by kernel_rfl
theorem zuW:zbh Tryz.f231=some zsc:=by kernel_rfl
theorem ztj:zbh Tryz.f232=some zqf:=by kernel_rfl
theorem zws:zbh Tryz.f233=some ztW:=by kernel_rfl
theorem zkX:zbh Tryz.f234=some zg6:=by kernel_rfl
theorem zx7:zbh Tryz.f235=some zwH:=by kernel_rfl
theorem zmu:zbh Tryz.f236=some ziw:=by kernel_rfl
theorem zoB:zbh Tryz.f237=some zkv:=by kernel_rfl
theorem zij:zbh Tryz.f243=some ze4:=by kernel_rfl
theorem zwt:zbh Tryz.f244=some ztZ:=by kernel_rfl
theorem zlt:zbh Tryz.f245=some zhX:=by kernel_rfl
theorem zx8:zbh Tryz.f246=some zwK:=by kernel_rfl
theorem zj5:zbh Tryz.f247=some zgw:=by kernel_rfl
theorem zu1:zbh Tryz.f248=some zsf:=by kernel_rfl
theorem znC:zbh Tryz.f249=some ziU:=by kernel_rfl
theorem zu2:zbh Tryz.f250=some zrh:=by kernel_rfl
theorem zgQ:zbh Tryz.f271=some zdt:=by kernel_rfl
theorem zgR:zbh Tryz.f272=some zdu:=by kernel_rfl
theorem zhj:zbh Tryz.f273=some zea:=by kernel_rfl
theorem zgS:zbh Tryz.f274=some zdv:=by kernel_rfl
theorem zhT:zbh Tryz.f275=some zeo:=by kernel_rfl
theorem zgT:zbh Tryz.f276=some zdw:=by kernel_rfl
theorem zpL:zbh Tryz.f277=some zk4:=by kernel_rfl
theorem zhk:zbh Tryz.f278=some zeb:=by kernel_rfl
theorem zhl:zbh Tryz.f279=some zec:=by kernel_rfl
theorem zoF:zbh Tryz.f280=some zkm:=by kernel_rfl
theorem zqH:zbh Tryz.f281=some zmM:=by kernel_rfl
theorem znE:zbh Tryz.f282=some ziX:=by kernel_rfl
theorem zsa:zup [(0,0)] Tryz.f283=some znT:=by kernel_rfl
theorem zmC:zbh Tryz.f295=some zil:=by kernel_rfl
theorem zjo:zbh Tryz.f304=some zfH:=by kernel_rfl
theorem zlv:zbh Tryz.f305=some zhv:=by kernel_rfl
theorem zkZ:zbh Tryz.f306=some zgY:=by kernel_rfl
theorem zoG:zbh Tryz.f307=some zkn:=by kernel_rfl
theorem zlw:zbh Tryz.f312=some zhw:=by kernel_rfl
theorem zoH:zbh Tryz.f313=some zko:=by kernel_rfl
theorem zjp:zbh Tryz.f319=some zfI:=by kernel_rfl
theorem zlx:zbh Tryz.f320=some zhx:=by kernel_rfl
theorem ziN:zbh Tryz.f326=some zfi:=by kernel_rfl
theorem zly:zbh Tryz.f335=some zhC:=by kernel_rfl
theorem zL9:∀ f F,ctx.fns f=some F→∃ fn fl,Tryz.prog.funcs[f]?=some fn∧cfn ctx Tryz.prog fl fn=some F∧fn.name≠ "runtime.NumGoroutine":=by
  intro f F h
  simp only [ctx] at h
  unfold zPx at h
  split at h
  · exact fnE h Tryz.func5 zhz (by decide +kernel)
  · exact fnE h Tryz.func6 zhB (by decide +kernel)
  · exact fnE h Tryz.func9 zro (by decide +kernel)
  · exact fnE h Tryz.func10 znY (by decide +kernel)
  · exact fnE h Tryz.func12 zkG (by decide +kernel)
  · exact fnE h Tryz.func13 zmg (by decide +kernel)
  · exact fnE h Tryz.func18 znZ (by decide +kernel)
  · exact fnE h Tryz.func19 zn0 (by decide +kernel)
  · exact fnE h Tryz.func32 zus (by decide +kernel)
  · exact fnE h Tryz.func33 zxE (by decide +kernel)
  · exact fnE h Tryz.func34 zk5 (by decide +kernel)
  · exact fnE h Tryz.func35 zrr (by decide +kernel)
  · exact fnE h Tryz.func36 zqq (by decide +kernel)
  · exact fnE h Tryz.func37 zfE (by decide +kernel)
  · exact fnE h Tryz.func38 zfj (by decide +kernel)
  · exact fnE h Tryz.func39 zeQ (by decide +kernel)
  · exact fnE h Tryz.func40 zjG (by decide +kernel)
  · exact fnE h Tryz.func41 zfk (by decide +kernel)
  · exact fnE h Tryz.func42 zfF (by decide +kernel)
  · exact fnE h Tryz.func59 zpi (by decide +kernel)
  · exact fnE h Tryz.func60 zk6 (by decide +kernel)
  · exact fnE h Tryz.func61 zsW (by decide +kernel)
  · exact fnE h Tryz.func62 zeR (by decide +kernel)
  · exact fnE h Tryz.func63 zpj (by decide +kernel)
  · exact fnE h Tryz.func64 zpk (by decide +kernel)
  · exact fnE h Tryz.func65 zid (by decide +kernel)
  · exact fnE h Tryz.func66 zna (by decide +kernel)
  · exact fnE h Tryz.func67 zrt (by decide +kernel)
  · exact fnE h Tryz.func68 zgJ (by decide +kernel)
  · exact fnE h Tryz.func69 zqs (by decide +kernel)
  · exact fnE h Tryz.func70 zmh (by decide +kernel)
  · exact fnE h Tryz.func71 zgh (by decide +kernel)
  · exact fnE h Tryz.func72 zqu (by decide +kernel)
  · exact fnE h Tryz.func73 zjK (by decide +kernel)
  · exact fnE h Tryz.func74 zsY (by decide +kernel)
  · exact fnE h Tryz.func75 zkI (by decide +kernel)
  · exact fnE h Tryz.func97 zie (by decide +kernel)
  · exact fnE h Tryz.func106 zrw (by decide +kernel)
  · exact fnE h Tryz.func107 zrx (by decide +kernel)
  · exact fnE h Tryz.func108 zk8 (by decide +kernel)
  · exact fnE h Tryz.func109 znc (by decide +kernel)
  · exact fnE h Tryz.func110 zn7 (by decide +kernel)
  · exact fnE h Tryz.func111 zhF (by decide +kernel)
  · exact fnE h Tryz.func112 zqv (by decide +kernel)
  · exact fnE h Tryz.func113 zn8 (by decide +kernel)
  · exact fnE h Tryz.func114 zrz (by decide +kernel)
  · exact fnE h Tryz.func115 zmi (by decide +kernel)
  · exact fnE h Tryz.func116 zpo (by decide +kernel)
  · exact fnE h Tryz.func117 zpp (by decide +kernel)
  · exact fnE h Tryz.func118 zkJ (by decide +kernel)
  · exact fnE h Tryz.func130 zla (by decide +kernel)
  · exact fnE h Tryz.func131 zjM (by decide +kernel)
  · exact fnE h Tryz.func132 zjN (by decide +kernel)
  · exact fnE h Tryz.func144 zif (by decide +kernel)
  · exact fnE h Tryz.func147 zkK (by decide +kernel)
  · exact fnE h Tryz.func148 zmk (by decide +kernel)
  · exact fnE h Tryz.func149 zs0 (by decide +kernel)
  · exact fnE h Tryz.func150 ziG (by decide +kernel)
  · exact fnE h Tryz.func151 zrD (by decide +kernel)
  · exact fnE h Tryz.func152 zng (by decide +kernel)
  · exact fnE h Tryz.func153 zi5 (by decide +kernel)
  · exact fnE h Tryz.func154 zkL (by decide +kernel)
  · exact fnE h Tryz.func155 zrF (by decide +kernel)
  · exact fnE h Tryz.func156 zv0 (by decide +kernel)
  · exact fnE h Tryz.func157 zrG (by decide +kernel)
  · exact fnE h Tryz.func158 zjQ (by decide +kernel)
  · exact fnE h Tryz.func159 zs3 (by decide +kernel)
  · exact fnE h Tryz.func160 zux (by decide +kernel)
  · exact fnE h Tryz.func161 znh (by decide +kernel)
  · exact fnE h Tryz.func162 zni (by decide +kernel)
  · exact fnE h Tryz.func163 znj (by decide +kernel)
  · exact fnE h Tryz.func164 zs5 (by decide +kernel)
  · exact fnE h Tryz.func165 zps (by decide +kernel)
  · exact fnE h Tryz.func166 zs6 (by decide +kernel)
  · exact fnE h Tryz.func168 zrL (by decide +kernel)
  · exact fnE h Tryz.func170 znk (by decide +kernel)
  · exact fnE h Tryz.func173 zhG (by decide +kernel)
  · exact fnE h Tryz.func180 zjT (by decide +kernel)
  · exact fnE h Tryz.func181 zle (by decide +kernel)
  · exact fnE h Tryz.func182 zlf (by decide +kernel)
  · exact fnE h Tryz.func190 zs7 (by decide +kernel)
  · exact fnE h Tryz.func191 zih (by decide +kernel)
  · exact fnE h Tryz.func192 zkM (by decide +kernel)
  · exact fnE h Tryz.func193 zgL (by decide +kernel)
  · exact fnE h Tryz.func194 zkN (by decide +kernel)
  · exact fnE h Tryz.func195 zs8 (by decide +kernel)
  · exact fnE h Tryz.func196 zuB (by decide +kernel)
  · exact fnE h Tryz.func197 zqx (by decide +kernel)
  · exact fnE h Tryz.func198 zs9 (by decide +kernel)
  · exact fnE h Tryz.func199 zob (by decide +kernel)
  · exact fnE h Tryz.func200 zpu (by decide +kernel)
  · exact fnE h Tryz.func201 zoc (by decide +kernel)
  · exact fnE h Tryz.func202 zod (by decide +kernel)
  · exact fnE h Tryz.func203 zuE (by decide +kernel)
  · exact fnE h Tryz.func204 znm (by decide +kernel)
  · exact fnE h Tryz.func211 znn (by decide +kernel)
  · exact fnE h Tryz.func212 zoe (by decide +kernel)
  · exact fnE h Tryz.func213 zno (by decide +kernel)
  · exact fnE h Tryz.func214 zlh (by decide +kernel)
  · exact fnE h Tryz.func215 zi9 (by decide +kernel)
  · exact fnE h Tryz.func224 zjU (by decide +kernel)
  · exact fnE h Tryz.func225 zkP (by decide +kernel)
  · exact fnE h Tryz.func226 zkQ (by decide +kernel)
  · exact fnE h Tryz.func227 zmn (by decide +kernel)
  · exact fnE h Tryz.func228 znp (by decide +kernel)
  · exact fnE h Tryz.func229 zlr (by decide +kernel)
  · exact fnE h Tryz.func231 zuW (by decide +kernel)
  · exact fnE h Tryz.func232 ztj (by decide +kernel)
  · exact fnE h Tryz.func233 zws (by decide +kernel)
  · exact fnE h Tryz.func234 zkX (by decide +kernel)
  · exact fnE h Tryz.func235 zx7 (by decide +kernel)
  · exact fnE h Tryz.func236 zmu (by decide +kernel)
  · exact fnE h Tryz.func237 zoB (by decide +kernel)
  · exact fnE h Tryz.func243 zij (by decide +kernel)
  · exact fnE h Tryz.func244 zwt (by decide +kernel)
  · exact fnE h Tryz.func245 zlt (by decide +kernel)
  · exact fnE h Tryz.func246 zx8 (by decide +kernel)
  · exact fnE h Tryz.func247 zj5 (by decide +kernel)
  · exact fnE h Tryz.func248 zu1 (by decide +kernel)
  · exact fnE h Tryz.func249 znC (by decide +kernel)
  · exact fnE h Tryz.func250 zu2 (by decide +kernel)
  · exact fnE h Tryz.func271 zgQ (by decide +kernel)
  · exact fnE h Tryz.func272 zgR (by decide +kernel)
  · exact fnE h Tryz.func273 zhj (by decide +kernel)
  · exact fnE h Tryz.func274 zgS (by decide +kernel)
  · exact fnE h Tryz.func275 zhT (by decide +kernel)
  · exact fnE h Tryz.func276 zgT (by decide +kernel)
  · exact fnE h Tryz.func277 zpL (by decide +kernel)
  · exact fnE h Tryz.func278 zhk (by decide +kernel)
  · exact fnE h Tryz.func279 zhl (by decide +kernel)
  · exact fnE h Tryz.func280 zoF (by decide +kernel)
  · exact fnE h Tryz.func281 zqH (by decide +kernel)
  · exact fnE h Tryz.func282 znE (by decide +kernel)
  · exact fnE h Tryz.func283 zsa (by decide +kernel)
  · exact fnE h Tryz.func295 zmC (by decide +kernel)
  · exact fnE h Tryz.func304 zjo (by decide +kernel)
  · exact fnE h Tryz.func305 zlv (by decide +kernel)
  · exact fnE h Tryz.func306 zkZ (by decide +kernel)
  · exact fnE h Tryz.func307 zoG (by decide +kernel)
  · exact fnE h Tryz.func312 zlw (by decide +kernel)
  · exact fnE h Tryz.func313 zoH (by decide +kernel)
  · exact fnE h Tryz.func319 zjp (by decide +kernel)
  · exact fnE h Tryz.func320 zlx (by decide +kernel)
  · exact fnE h Tryz.func326 ziN (by decide +kernel)
  · exact fnE h Tryz.func335 zly (by decide +kernel)
  · simp at h
theorem zI0:(zK8.all fun r=>zvo Tryz.prog r.1 r.2.1 r.2.2)=true:=by kernel_rfl
theorem zF9:(zHj.all fun r=>zq7 Tryz.prog r.1 r.2.1 r.2.2.1 r.2.2.2)=true:=by kernel_rfl
theorem zI1:∀ t name path f,ctx.meth t name=some (path,f)→(path=[]∧zvo Tryz.prog t name f=true)∨∃ k,path=[(k,1,false)]∧zq7 Tryz.prog t name f k=true:=by
  intro t name path f h
  have h1:zH5 t name=some (path,f):=h
  unfold zH5 at h1
  split at h1
  · rename_i r he
    have h2:=List.find?_some he
    have h3:=List.all_eq_true.1 zI0 r (List.mem_of_find?_eq_some he)
    simp only [Bool.and_eq_true,beq_iff_eq] at h2
    simp only [Option.some.injEq,Prod.mk.injEq] at h1
    rw [h2.1,h2.2,h1.2] at h3
    exact .inl ⟨h1.1.symm,h3⟩
  · obtain ⟨r,hr,he⟩:=Option.map_eq_some_iff.1 h1
    have h2:=List.find?_some hr
    have h3:=List.all_eq_true.1 zF9 r (List.mem_of_find?_eq_some hr)
    simp only [Bool.and_eq_true,beq_iff_eq] at h2
    simp only [Prod.mk.injEq] at he
    rw [h2.1,h2.2,he.2] at h3
    exact .inr ⟨_,he.1.symm,h3⟩
theorem zDk {L:Lim} {args:List zaa} {h:zab} {v:zaa} {h':zab} (hp:zwN.pre L args h=some (.inl (v,h'))):ze3 ctx Tryz.prog L 11 args h v h':=
  zGC (C:=ctx) Tryz.func11 (by kernel_rfl) (by decide +kernel) zP0 rfl (fun l v w=>zBT l v w) hp
theorem zAw {L:Lim} {args:List zaa} {h:zab} {v:zaa} {h':zab} (hp:zMR.pre L args h=some (.inl (v,h'))):ze3 ctx Tryz.prog L 167 args h v h':=
  zEn Tryz.func167 (by kernel_rfl) (by kernel_rfl) (by kernel_rfl) (e:=add64Entry) (by kernel_rfl) (fun x y c hc w=>zG6 x y c hc w) hp
theorem zAy {L:Lim} {args:List zaa} {h:zab} {v:zaa} {h':zab} (hp:zM3.pre L args h=some (.inl (v,h'))):ze3 ctx Tryz.prog L 230 args h v h':=
  zEn Tryz.func230 (by kernel_rfl) (by kernel_rfl) (by kernel_rfl) (e:=zzM) (by kernel_rfl) (fun x y c hc w=>zG7 x y c hc w) hp
theorem zMc:zwe ctx Tryz.prog where
  fns:=zL9
  extA:=by
    intro f g h L args hh v h' hp
    simp only [ctx] at h
    unfold zOw at h
    split at h
    · obtain rfl:=Option.some.inj h;exact zDk hp
    · obtain rfl:=Option.some.inj h;exact zAw hp
    · obtain rfl:=Option.some.inj h;exact zAy hp
    · simp at h
  extB:=by
    intro f g h L args hh f1 bs h1 hp
    simp only [ctx] at h
    unfold zOw at h
    split at h
    · obtain rfl:=Option.some.inj h;exact absurd hp zDE
    · obtain rfl:=Option.some.inj h;exact absurd hp zzP
    · obtain rfl:=Option.some.inj h;exact absurd hp zzP
    · simp at h
  meth:=by
    intro t name path f h s v cv r w hrep hm
    rcases zI1 t name path f h with ⟨rfl,hrow⟩ | ⟨k,rfl,hrow⟩
    · obtain rfl:v=r:=Option.some.inj hm
      exact ⟨cv,zGW hrow _ cv w,hrep⟩
    · exact zDW hrow _ hrep hm w
end Go.Av
