/- The machine's code is the program's. -/
import Derived.Test.YtbookmjmhfoolaaGreatDoorMC0
import Derived.Test.YtbookmjmhfoolaaGreatDoorChecked
import Derived.KernelRfl
import Derived.Test.YtbookmjmhfoolaaGreatDoorMC9
set_option maxRecDepth 100000
namespace Go.Av
open Go.Proofs
noncomputable abbrev zbg (f:Func):Option AFn:=cfn ctx Tryz.prog ⟨fun _ _=>true,false⟩ f
noncomputable abbrev zuz (l:List (Nat × Nat)) (f:Func):Option AFn:=cfn ctx Tryz.prog ⟨fun r o=>!l.contains (r,o),false⟩ f
noncomputable abbrev zP5 (f:Func):Option AFn:=cfn ctx Tryz.prog ⟨fun _ _=>true,true⟩ f
theorem fnE {f:FuncId} {F F0:AFn} {fn:Func} {fl:zBs} (h:some F0=some F) (p:Tryz.prog.funcs[f]?=some fn) (q:cfn ctx Tryz.prog fl fn=some F0) (r:fn.name≠ "runtime.NumGoroutine"):∃ fn fl,Tryz.prog.funcs[f]?=some fn∧cfn ctx Tryz.prog fl fn=some F∧fn.name≠ "runtime.NumGoroutine":=Option.some.inj h ▸ ⟨_,_,p,q,r⟩
theorem zhC:zbg Tryz.f5=some zez:=by kernel_rfl
theorem zhD:zbg Tryz.f6=some zeA:=by kernel_rfl
theorem zrx:zbg Tryz.f9=some zo8:=by kernel_rfl
theorem zn4:zbg Tryz.f10=some zkD:=by kernel_rfl
theorem zkH:zbg Tryz.f12=some zhb:=by kernel_rfl
theorem zmm:zbg Tryz.f13=some ziA:=by kernel_rfl
theorem zn7:zuz [(6,2)] Tryz.f18=some zkE:=by kernel_rfl
theorem zn8:zbg Tryz.f19=some zkF:=by kernel_rfl
theorem zuB:zuz [(4,2)] Tryz.f32=some zsI:=by kernel_rfl
theorem zxR:zuz [(6,0)] Tryz.f33=some zxh:=by kernel_rfl
theorem zk8:zbg Tryz.f34=some zh7:=by kernel_rfl
theorem zrA:zbg Tryz.f35=some zpa:=by kernel_rfl
theorem zqw:zbg Tryz.f36=some zm2:=by kernel_rfl
theorem zfD:zbg Tryz.f37=some zc1:=by kernel_rfl
theorem zfm:zbg Tryz.f38=some zcW:=by kernel_rfl
theorem zeP:zbg Tryz.f39=some zcz:=by kernel_rfl
theorem zjN:zbg Tryz.f40=some zgG:=by kernel_rfl
theorem zfn:zbg Tryz.f41=some zcX:=by kernel_rfl
theorem zfE:zbg Tryz.f42=some zc2:=by kernel_rfl
theorem zpp:zbg Tryz.f59=some zl0:=by kernel_rfl
theorem zk9:zbg Tryz.f60=some zia:=by kernel_rfl
theorem zs3:zbg Tryz.f61=some zqs:=by kernel_rfl
theorem zeQ:zP5 Tryz.f62=some zcA:=by kernel_rfl
theorem zpq:zbg Tryz.f63=some zl3:=by kernel_rfl
theorem zpr:zbg Tryz.f64=some zl4:=by kernel_rfl
theorem zie:zbg Tryz.f65=some zfa:=by kernel_rfl
theorem znh:zbg Tryz.f66=some zjC:=by kernel_rfl
theorem zrG:zuz [(0,0)] Tryz.f67=some zpd:=by kernel_rfl
theorem zgL:zbg Tryz.f68=some zdO:=by kernel_rfl
theorem zqx:zbg Tryz.f69=some zm4:=by kernel_rfl
theorem zmo:zbg Tryz.f70=some ziC:=by kernel_rfl
theorem zgk:zbg Tryz.f71=some zdq:=by kernel_rfl
theorem zqy:zbg Tryz.f72=some zmV:=by kernel_rfl
theorem zjQ:zbg Tryz.f73=some zgm:=by kernel_rfl
theorem zs5:zbg Tryz.f74=some zqb:=by kernel_rfl
theorem zkI:zbg Tryz.f75=some zg1:=by kernel_rfl
theorem zif:zuz [(0,0)] Tryz.f97=some ze0:=by kernel_rfl
theorem zrK:zuz [(1,2)] Tryz.f106=some zog:=by kernel_rfl
theorem zrM:zbg Tryz.f107=some zoh:=by kernel_rfl
theorem zld:zbg Tryz.f108=some zhJ:=by kernel_rfl
theorem znj:zbg Tryz.f109=some zjc:=by kernel_rfl
theorem zod:zuz [(3,7)] Tryz.f110=some zkr:=by kernel_rfl
theorem zhE:zuz [(3,7)] Tryz.f111=some zer:=by kernel_rfl
theorem zqz:zuz [(1,1)] Tryz.f112=some zmX:=by kernel_rfl
theorem zoe:zbg Tryz.f113=some zkt:=by kernel_rfl
theorem zrO:zbg Tryz.f114=some zol:=by kernel_rfl
theorem zmq:zbg Tryz.f115=some zis:=by kernel_rfl
theorem zpt:zbg Tryz.f116=some zlj:=by kernel_rfl
theorem zpu:zbg Tryz.f117=some zlk:=by kernel_rfl
theorem zkJ:zbg Tryz.f118=some zg2:=by kernel_rfl
theorem zlg:zuz [(9,5)] Tryz.f130=some zhN:=by kernel_rfl
theorem zjS:zbg Tryz.f131=some zgo:=by kernel_rfl
theorem zjT:zbg Tryz.f132=some zgp:=by kernel_rfl
theorem zih:zuz [(0,0)] Tryz.f144=some ze1:=by kernel_rfl
theorem zkK:zbg Tryz.f147=some zg3:=by kernel_rfl
theorem zmr:zbg Tryz.f148=some zit:=by kernel_rfl
theorem zs9:zbg Tryz.f149=some zqc:=by kernel_rfl
theorem ziH:zP5 Tryz.f150=some zfp:=by kernel_rfl
theorem zrR:zbg Tryz.f151=some zop:=by kernel_rfl
theorem znk:zbg Tryz.f152=some zjf:=by kernel_rfl
theorem zi7:zuz [(0,0)] Tryz.f153=some zfK:=by kernel_rfl
theorem zkM:zuz [(0,0)] Tryz.f154=some zg4:=by kernel_rfl
theorem zrS:zbg Tryz.f155=some zor:=by kernel_rfl
theorem zwc:zuz [(3,3)] Tryz.f156=some zuh:=by kernel_rfl
theorem zrT:zbg Tryz.f157=some zo4:=by kernel_rfl
theorem zjU:zbg Tryz.f158=some zgD:=by kernel_rfl
theorem ztd:zbg Tryz.f159=some zqk:=by kernel_rfl
theorem zuT:zuz [(0,1),(0,0)] Tryz.f160=some zsy:=by kernel_rfl
theorem znq:zbg Tryz.f161=some zju:=by kernel_rfl
theorem znr:zbg Tryz.f162=some zjv:=by kernel_rfl
theorem zns:zbg Tryz.f163=some zjw:=by kernel_rfl
theorem ztg:zbg Tryz.f164=some zql:=by kernel_rfl
theorem zpB:zbg Tryz.f165=some zlM:=by kernel_rfl
theorem zth:zbg Tryz.f166=some zqm:=by kernel_rfl
theorem zr1:zbg Tryz.f168=some zo5:=by kernel_rfl
theorem znu:zbg Tryz.f170=some zjy:=by kernel_rfl
theorem zhP:zbg Tryz.f173=some zey:=by kernel_rfl
theorem zj3:zbg Tryz.f180=some zgE:=by kernel_rfl
theorem zlo:zuz [(0,0)] Tryz.f181=some zh3:=by kernel_rfl
theorem zlp:zbg Tryz.f182=some zh4:=by kernel_rfl
theorem zti:zbg Tryz.f190=some zqn:=by kernel_rfl
theorem zii:zbg Tryz.f191=some ze9:=by kernel_rfl
theorem zkQ:zuz [(0,0)] Tryz.f192=some zg9:=by kernel_rfl
theorem zgQ:zbg Tryz.f193=some zdJ:=by kernel_rfl
theorem zkR:zbg Tryz.f194=some zha:=by kernel_rfl
theorem ztk:zbg Tryz.f195=some zqo:=by kernel_rfl
theorem zuV:zbg Tryz.f196=some zsC:=by kernel_rfl
theorem zqG:zbg Tryz.f197=some zm1:=by kernel_rfl
theorem ztl:zbg Tryz.f198=some zqp:=by kernel_rfl
theorem zou:zbg Tryz.f199=some zkB:=by kernel_rfl
theorem zpG:zbg Tryz.f200=some zlT:=by kernel_rfl
theorem zov:zbg Tryz.f201=some zkC:=by kernel_rfl
theorem zow:zbg Tryz.f202=some zku:=by kernel_rfl
theorem zuY:zbg Tryz.f203=some zsc:=by kernel_rfl
theorem znx:zbg Tryz.f204=some zjm:=by kernel_rfl
theorem zny:zbg Tryz.f211=some zjn:=by kernel_rfl
theorem zox:zbg Tryz.f212=some zkv:=by kernel_rfl
theorem znz:zbg Tryz.f213=some zjo:=by kernel_rfl
theorem zlq:zbg Tryz.f214=some zhU:=by kernel_rfl
theorem zjh:zbg Tryz.f215=some zfM:=by kernel_rfl
theorem zj5:zbg Tryz.f224=some zgy:=by kernel_rfl
theorem zkU:zuz [(0,0)] Tryz.f225=some zg5:=by kernel_rfl
theorem zkV:zbg Tryz.f226=some zg6:=by kernel_rfl
theorem zmx:zbg Tryz.f227=some ziv:=by kernel_rfl
theorem znD:zbg Tryz.f228=some zjq:=by kernel_rfl
theorem zlr:zbg Tryz.f229=some zhV:=by kernel_rfl
theorem zu0:zbg Tryz.f231=some zsf:=by kernel_rfl
theorem zto:zbg Tryz.f232=some zqi:=by kernel_rfl
theorem zwv:zbg Tryz.f233=some zt3:=by kernel_rfl
theorem zkX:zbg Tryz.f234=some zg7:=by kernel_rfl
theorem zyb:zbg Tryz.f235=some zwK:=by kernel_rfl
theorem zmy:zbg Tryz.f236=some ziw:=by kernel_rfl
theorem zoz:zbg Tryz.f237=some zkw:=by kernel_rfl
theorem zik:zbg Tryz.f243=some ze4:=by kernel_rfl
theorem zww:zbg Tryz.f244=some zt6:=by kernel_rfl
theorem zlt:zbg Tryz.f245=some zhW:=by kernel_rfl
theorem zyf:zbg Tryz.f246=some zwR:=by kernel_rfl
theorem zj6:zbg Tryz.f247=some zgz:=by kernel_rfl
theorem zu4:zbg Tryz.f248=some zrm:=by kernel_rfl
theorem znF:zbg Tryz.f249=some ziV:=by kernel_rfl
theorem zu5:zbg Tryz.f250=some zro:=by kernel_rfl
theorem zgR:zbg Tryz.f271=some zds:=by kernel_rfl
theorem zgS:zbg Tryz.f272=some zdt:=by kernel_rfl
theorem zhk:zbg Tryz.f273=some zd8:=by kernel_rfl
theorem zgT:zbg Tryz.f274=some zdu:=by kernel_rfl
theorem zhR:zbg Tryz.f275=some zen:=by kernel_rfl
theorem zgU:zbg Tryz.f276=some zdv:=by kernel_rfl
theorem zpK:zbg Tryz.f277=some zk7:=by kernel_rfl
theorem zhl:zbg Tryz.f278=some zd9:=by kernel_rfl
theorem zhm:zbg Tryz.f279=some zea:=by kernel_rfl
theorem zoC:zbg Tryz.f280=some zkn:=by kernel_rfl
theorem zqJ:zbg Tryz.f281=some zmR:=by kernel_rfl
theorem znH:zbg Tryz.f282=some ziY:=by kernel_rfl
theorem zr6:zuz [(0,0)] Tryz.f283=some znX:=by kernel_rfl
theorem zmA:zbg Tryz.f295=some zio:=by kernel_rfl
theorem zjk:zbg Tryz.f304=some zfF:=by kernel_rfl
theorem zlv:zbg Tryz.f305=some zhw:=by kernel_rfl
theorem zkY:zbg Tryz.f306=some zgZ:=by kernel_rfl
theorem zoE:zbg Tryz.f307=some zko:=by kernel_rfl
theorem zlw:zbg Tryz.f312=some zhx:=by kernel_rfl
theorem zoF:zbg Tryz.f313=some zkp:=by kernel_rfl
theorem zjl:zbg Tryz.f319=some zfG:=by kernel_rfl
theorem zlx:zbg Tryz.f320=some zhy:=by kernel_rfl
theorem ziL:zbg Tryz.f326=some zfj:=by kernel_rfl
theorem zly:zbg Tryz.f335=some zhB:=by kernel_rfl
theorem zL0:∀ f F,ctx.fns f=some F→∃ fn fl,Tryz.prog.funcs[f]?=some fn∧cfn ctx Tryz.prog fl fn=some F∧fn.name≠ "runtime.NumGoroutine":=by
  intro f F h
  simp only [ctx] at h
  unfold zPZ at h
  split at h
  · exact fnE h Tryz.func5 zhC (by decide +kernel)
  · exact fnE h Tryz.func6 zhD (by decide +kernel)
  · exact fnE h Tryz.func9 zrx (by decide +kernel)
  · exact fnE h Tryz.func10 zn4 (by decide +kernel)
  · exact fnE h Tryz.func12 zkH (by decide +kernel)
  · exact fnE h Tryz.func13 zmm (by decide +kernel)
  · exact fnE h Tryz.func18 zn7 (by decide +kernel)
  · exact fnE h Tryz.func19 zn8 (by decide +kernel)
  · exact fnE h Tryz.func32 zuB (by decide +kernel)
  · exact fnE h Tryz.func33 zxR (by decide +kernel)
  · exact fnE h Tryz.func34 zk8 (by decide +kernel)
  · exact fnE h Tryz.func35 zrA (by decide +kernel)
  · exact fnE h Tryz.func36 zqw (by decide +kernel)
  · exact fnE h Tryz.func37 zfD (by decide +kernel)
  · exact fnE h Tryz.func38 zfm (by decide +kernel)
  · exact fnE h Tryz.func39 zeP (by decide +kernel)
  · exact fnE h Tryz.func40 zjN (by decide +kernel)
  · exact fnE h Tryz.func41 zfn (by decide +kernel)
  · exact fnE h Tryz.func42 zfE (by decide +kernel)
  · exact fnE h Tryz.func59 zpp (by decide +kernel)
  · exact fnE h Tryz.func60 zk9 (by decide +kernel)
  · exact fnE h Tryz.func61 zs3 (by decide +kernel)
  · exact fnE h Tryz.func62 zeQ (by decide +kernel)
  · exact fnE h Tryz.func63 zpq (by decide +kernel)
  · exact fnE h Tryz.func64 zpr (by decide +kernel)
  · exact fnE h Tryz.func65 zie (by decide +kernel)
  · exact fnE h Tryz.func66 znh (by decide +kernel)
  · exact fnE h Tryz.func67 zrG (by decide +kernel)
  · exact fnE h Tryz.func68 zgL (by decide +kernel)
  · exact fnE h Tryz.func69 zqx (by decide +kernel)
  · exact fnE h Tryz.func70 zmo (by decide +kernel)
  · exact fnE h Tryz.func71 zgk (by decide +kernel)
  · exact fnE h Tryz.func72 zqy (by decide +kernel)
  · exact fnE h Tryz.func73 zjQ (by decide +kernel)
  · exact fnE h Tryz.func74 zs5 (by decide +kernel)
  · exact fnE h Tryz.func75 zkI (by decide +kernel)
  · exact fnE h Tryz.func97 zif (by decide +kernel)
  · exact fnE h Tryz.func106 zrK (by decide +kernel)
  · exact fnE h Tryz.func107 zrM (by decide +kernel)
  · exact fnE h Tryz.func108 zld (by decide +kernel)
  · exact fnE h Tryz.func109 znj (by decide +kernel)
  · exact fnE h Tryz.func110 zod (by decide +kernel)
  · exact fnE h Tryz.func111 zhE (by decide +kernel)
  · exact fnE h Tryz.func112 zqz (by decide +kernel)
  · exact fnE h Tryz.func113 zoe (by decide +kernel)
  · exact fnE h Tryz.func114 zrO (by decide +kernel)
  · exact fnE h Tryz.func115 zmq (by decide +kernel)
  · exact fnE h Tryz.func116 zpt (by decide +kernel)
  · exact fnE h Tryz.func117 zpu (by decide +kernel)
  · exact fnE h Tryz.func118 zkJ (by decide +kernel)
  · exact fnE h Tryz.func130 zlg (by decide +kernel)
  · exact fnE h Tryz.func131 zjS (by decide +kernel)
  · exact fnE h Tryz.func132 zjT (by decide +kernel)
  · exact fnE h Tryz.func144 zih (by decide +kernel)
  · exact fnE h Tryz.func147 zkK (by decide +kernel)
  · exact fnE h Tryz.func148 zmr (by decide +kernel)
  · exact fnE h Tryz.func149 zs9 (by decide +kernel)
  · exact fnE h Tryz.func150 ziH (by decide +kernel)
  · exact fnE h Tryz.func151 zrR (by decide +kernel)
  · exact fnE h Tryz.func152 znk (by decide +kernel)
  · exact fnE h Tryz.func153 zi7 (by decide +kernel)
  · exact fnE h Tryz.func154 zkM (by decide +kernel)
  · exact fnE h Tryz.func155 zrS (by decide +kernel)
  · exact fnE h Tryz.func156 zwc (by decide +kernel)
  · exact fnE h Tryz.func157 zrT (by decide +kernel)
  · exact fnE h Tryz.func158 zjU (by decide +kernel)
  · exact fnE h Tryz.func159 ztd (by decide +kernel)
  · exact fnE h Tryz.func160 zuT (by decide +kernel)
  · exact fnE h Tryz.func161 znq (by decide +kernel)
  · exact fnE h Tryz.func162 znr (by decide +kernel)
  · exact fnE h Tryz.func163 zns (by decide +kernel)
  · exact fnE h Tryz.func164 ztg (by decide +kernel)
  · exact fnE h Tryz.func165 zpB (by decide +kernel)
  · exact fnE h Tryz.func166 zth (by decide +kernel)
  · exact fnE h Tryz.func168 zr1 (by decide +kernel)
  · exact fnE h Tryz.func170 znu (by decide +kernel)
  · exact fnE h Tryz.func173 zhP (by decide +kernel)
  · exact fnE h Tryz.func180 zj3 (by decide +kernel)
  · exact fnE h Tryz.func181 zlo (by decide +kernel)
  · exact fnE h Tryz.func182 zlp (by decide +kernel)
  · exact fnE h Tryz.func190 zti (by decide +kernel)
  · exact fnE h Tryz.func191 zii (by decide +kernel)
  · exact fnE h Tryz.func192 zkQ (by decide +kernel)
  · exact fnE h Tryz.func193 zgQ (by decide +kernel)
  · exact fnE h Tryz.func194 zkR (by decide +kernel)
  · exact fnE h Tryz.func195 ztk (by decide +kernel)
  · exact fnE h Tryz.func196 zuV (by decide +kernel)
  · exact fnE h Tryz.func197 zqG (by decide +kernel)
  · exact fnE h Tryz.func198 ztl (by decide +kernel)
  · exact fnE h Tryz.func199 zou (by decide +kernel)
  · exact fnE h Tryz.func200 zpG (by decide +kernel)
  · exact fnE h Tryz.func201 zov (by decide +kernel)
  · exact fnE h Tryz.func202 zow (by decide +kernel)
  · exact fnE h Tryz.func203 zuY (by decide +kernel)
  · exact fnE h Tryz.func204 znx (by decide +kernel)
  · exact fnE h Tryz.func211 zny (by decide +kernel)
  · exact fnE h Tryz.func212 zox (by decide +kernel)
  · exact fnE h Tryz.func213 znz (by decide +kernel)
  · exact fnE h Tryz.func214 zlq (by decide +kernel)
  · exact fnE h Tryz.func215 zjh (by decide +kernel)
  · exact fnE h Tryz.func224 zj5 (by decide +kernel)
  · exact fnE h Tryz.func225 zkU (by decide +kernel)
  · exact fnE h Tryz.func226 zkV (by decide +kernel)
  · exact fnE h Tryz.func227 zmx (by decide +kernel)
  · exact fnE h Tryz.func228 znD (by decide +kernel)
  · exact fnE h Tryz.func229 zlr (by decide +kernel)
  · exact fnE h Tryz.func231 zu0 (by decide +kernel)
  · exact fnE h Tryz.func232 zto (by decide +kernel)
  · exact fnE h Tryz.func233 zwv (by decide +kernel)
  · exact fnE h Tryz.func234 zkX (by decide +kernel)
  · exact fnE h Tryz.func235 zyb (by decide +kernel)
  · exact fnE h Tryz.func236 zmy (by decide +kernel)
  · exact fnE h Tryz.func237 zoz (by decide +kernel)
  · exact fnE h Tryz.func243 zik (by decide +kernel)
  · exact fnE h Tryz.func244 zww (by decide +kernel)
  · exact fnE h Tryz.func245 zlt (by decide +kernel)
  · exact fnE h Tryz.func246 zyf (by decide +kernel)
  · exact fnE h Tryz.func247 zj6 (by decide +kernel)
  · exact fnE h Tryz.func248 zu4 (by decide +kernel)
  · exact fnE h Tryz.func249 znF (by decide +kernel)
  · exact fnE h Tryz.func250 zu5 (by decide +kernel)
  · exact fnE h Tryz.func271 zgR (by decide +kernel)
  · exact fnE h Tryz.func272 zgS (by decide +kernel)
  · exact fnE h Tryz.func273 zhk (by decide +kernel)
  · exact fnE h Tryz.func274 zgT (by decide +kernel)
  · exact fnE h Tryz.func275 zhR (by decide +kernel)
  · exact fnE h Tryz.func276 zgU (by decide +kernel)
  · exact fnE h Tryz.func277 zpK (by decide +kernel)
  · exact fnE h Tryz.func278 zhl (by decide +kernel)
  · exact fnE h Tryz.func279 zhm (by decide +kernel)
  · exact fnE h Tryz.func280 zoC (by decide +kernel)
  · exact fnE h Tryz.func281 zqJ (by decide +kernel)
  · exact fnE h Tryz.func282 znH (by decide +kernel)
  · exact fnE h Tryz.func283 zr6 (by decide +kernel)
  · exact fnE h Tryz.func295 zmA (by decide +kernel)
  · exact fnE h Tryz.func304 zjk (by decide +kernel)
  · exact fnE h Tryz.func305 zlv (by decide +kernel)
  · exact fnE h Tryz.func306 zkY (by decide +kernel)
  · exact fnE h Tryz.func307 zoE (by decide +kernel)
  · exact fnE h Tryz.func312 zlw (by decide +kernel)
  · exact fnE h Tryz.func313 zoF (by decide +kernel)
  · exact fnE h Tryz.func319 zjl (by decide +kernel)
  · exact fnE h Tryz.func320 zlx (by decide +kernel)
  · exact fnE h Tryz.func326 ziL (by decide +kernel)
  · exact fnE h Tryz.func335 zly (by decide +kernel)
  · simp at h
theorem zJX:(zLu.all fun r=>zvj Tryz.prog r.1 r.2.1 r.2.2)=true:=by kernel_rfl
theorem zG8:(zHC.all fun r=>zrc Tryz.prog r.1 r.2.1 r.2.2.1 r.2.2.2)=true:=by kernel_rfl
theorem zJY:∀ t name path f,ctx.meth t name=some (path,f)→(path=[]∧zvj Tryz.prog t name f=true)∨∃ k,path=[(k,1,false)]∧zrc Tryz.prog t name f k=true:=by
  intro t name path f h
  have h1:zIs t name=some (path,f):=h
  unfold zIs at h1
  split at h1
  · rename_i r he
    have h2:=List.find?_some he
    have h3:=List.all_eq_true.1 zJX r (List.mem_of_find?_eq_some he)
    simp only [Bool.and_eq_true,beq_iff_eq] at h2
    simp only [Option.some.injEq,Prod.mk.injEq] at h1
    rw [h2.1,h2.2,h1.2] at h3
    exact .inl ⟨h1.1.symm,h3⟩
  · obtain ⟨r,hr,he⟩:=Option.map_eq_some_iff.1 h1
    have h2:=List.find?_some hr
    have h3:=List.all_eq_true.1 zG8 r (List.mem_of_find?_eq_some hr)
    simp only [Bool.and_eq_true,beq_iff_eq] at h2
    simp only [Prod.mk.injEq] at he
    rw [h2.1,h2.2,he.2] at h3
    exact .inr ⟨_,he.1.symm,h3⟩
theorem zEd {L:Lim} {args:List zaa} {h:zab} {v:zaa} {h':zab} (hp:zwX.pre L args h=some (.inl (v,h'))):ze2 ctx Tryz.prog L 11 args h v h':=
  zGS (C:=ctx) Tryz.func11 (by kernel_rfl) (by decide +kernel) zQo rfl (fun l v w=>zBY l v w) hp
theorem zA2 {L:Lim} {args:List zaa} {h:zab} {v:zaa} {h':zab} (hp:zMG.pre L args h=some (.inl (v,h'))):ze2 ctx Tryz.prog L 167 args h v h':=
  zD2 Tryz.func167 (by kernel_rfl) (by kernel_rfl) (by kernel_rfl) (e:=add64Entry) (by kernel_rfl) (fun x y c hc w=>zGW x y c hc w) hp
theorem zA3 {L:Lim} {args:List zaa} {h:zab} {v:zaa} {h':zab} (hp:zMW.pre L args h=some (.inl (v,h'))):ze2 ctx Tryz.prog L 230 args h v h':=
  zD2 Tryz.func230 (by kernel_rfl) (by kernel_rfl) (by kernel_rfl) (e:=zzG) (by kernel_rfl) (fun x y c hc w=>zGX x y c hc w) hp
theorem zM8:zwq ctx Tryz.prog where
  fns:=zL0
  extA:=by
    intro f g h L args hh v h' hp
    simp only [ctx] at h
    unfold zOY at h
    split at h
    · obtain rfl:=Option.some.inj h;exact zEd hp
    · obtain rfl:=Option.some.inj h;exact zA2 hp
    · obtain rfl:=Option.some.inj h;exact zA3 hp
    · simp at h
  extB:=by
    intro f g h L args hh f1 bs h1 hp
    simp only [ctx] at h
    unfold zOY at h
    split at h
    · obtain rfl:=Option.some.inj h;exact absurd hp zDS
    · obtain rfl:=Option.some.inj h;exact absurd hp zzI
    · obtain rfl:=Option.some.inj h;exact absurd hp zzI
    · simp at h
  meth:=by
    intro t name path f h s v cv r w hrep hm
    rcases zJY t name path f h with ⟨rfl,hrow⟩ | ⟨k,rfl,hrow⟩
    · obtain rfl:v=r:=Option.some.inj hm
      exact ⟨cv,zGK hrow _ cv w,hrep⟩
    · exact zEf hrow _ hrep hm w
end Go.Av
