/- The machine's code is the program's. -/
import Derived.Test.YtafkceblllhheaaGreatDoorC0
import Derived.Test.YtafkceblllhheaaGreatDoorChecked
import Derived.KernelRfl
set_option maxRecDepth 100000
namespace Go.Av
open Go.Proofs
noncomputable abbrev zbd (f:Func):Option AFn:=cfn ctx Tryz.prog ⟨fun _ _=>true,false⟩ f
noncomputable abbrev zuU (l:List (Nat × Nat)) (f:Func):Option AFn:=cfn ctx Tryz.prog ⟨fun r o=>!l.contains (r,o),false⟩ f
noncomputable abbrev zPs (f:Func):Option AFn:=cfn ctx Tryz.prog ⟨fun _ _=>true,true⟩ f
theorem fnE {f:FuncId} {F F0:AFn} {fn:Func} {fl:zBi} (h:some F0=some F) (p:Tryz.prog.funcs[f]?=some fn) (q:cfn ctx Tryz.prog fl fn=some F0) (r:fn.name≠ "runtime.NumGoroutine"):∃ fn fl,Tryz.prog.funcs[f]?=some fn∧cfn ctx Tryz.prog fl fn=some F∧fn.name≠ "runtime.NumGoroutine":=Option.some.inj h ▸ ⟨_,_,p,q,r⟩
theorem zoq:zbd Tryz.f2=some zku:=by kernel_rfl
theorem zfF:zbd Tryz.f6=some zc2:=by kernel_rfl
theorem zkH:zbd Tryz.f9=some zg9:=by kernel_rfl
theorem zor:zuU [(6,2)] Tryz.f11=some zkv:=by kernel_rfl
theorem zos:zbd Tryz.f13=some zkw:=by kernel_rfl
theorem zgM:zbd Tryz.f15=some zdI:=by kernel_rfl
theorem zfG:zbd Tryz.f17=some zc3:=by kernel_rfl
theorem zgN:zbd Tryz.f18=some zdJ:=by kernel_rfl
theorem zhn:zbd Tryz.f19=some zef:=by kernel_rfl
theorem zr4:zbd Tryz.f20=some zoQ:=by kernel_rfl
theorem zho:zbd Tryz.f21=some zeg:=by kernel_rfl
theorem zou:zbd Tryz.f22=some zkx:=by kernel_rfl
theorem zgO:zbd Tryz.f24=some zdK:=by kernel_rfl
theorem zgP:zbd Tryz.f25=some zdL:=by kernel_rfl
theorem zpw:zbd Tryz.f26=some zlv:=by kernel_rfl
theorem zjT:zbd Tryz.f28=some zgw:=by kernel_rfl
theorem zf4:zbd Tryz.f29=some zdg:=by kernel_rfl
theorem zhO:zbd Tryz.f30=some zeB:=by kernel_rfl
theorem znf:zbd Tryz.f31=some zjh:=by kernel_rfl
theorem zfH:zbd Tryz.f33=some zc4:=by kernel_rfl
theorem zfr:zbd Tryz.f34=some zcW:=by kernel_rfl
theorem zu3:zuU [(4,2)] Tryz.f36=some zso:=by kernel_rfl
theorem zyc:zuU [(6,0)] Tryz.f37=some zwN:=by kernel_rfl
theorem zln:zbd Tryz.f38=some zh0:=by kernel_rfl
theorem zqz:zbd Tryz.f39=some zmV:=by kernel_rfl
theorem zeU:zbd Tryz.f43=some zcy:=by kernel_rfl
theorem zfs:zbd Tryz.f44=some zcY:=by kernel_rfl
theorem zmn:zbd Tryz.f45=some ziy:=by kernel_rfl
theorem zkI:zbd Tryz.f47=some zhg:=by kernel_rfl
theorem zoz:zbd Tryz.f48=some zkB:=by kernel_rfl
theorem zpA:zbd Tryz.f49=some zlQ:=by kernel_rfl
theorem zpC:zbd Tryz.f50=some zlR:=by kernel_rfl
theorem zgQ:zbd Tryz.f51=some zdP:=by kernel_rfl
theorem zng:zbd Tryz.f52=some zju:=by kernel_rfl
theorem zqB:zbd Tryz.f53=some zmW:=by kernel_rfl
theorem zjU:zbd Tryz.f54=some zgI:=by kernel_rfl
theorem ztb:zbd Tryz.f55=some zql:=by kernel_rfl
theorem zqC:zbd Tryz.f60=some zmX:=by kernel_rfl
theorem zgu:zbd Tryz.f61=some zds:=by kernel_rfl
theorem zqD:zbd Tryz.f62=some zmY:=by kernel_rfl
theorem zpE:zbd Tryz.f64=some zlU:=by kernel_rfl
theorem zlo:zbd Tryz.f65=some zib:=by kernel_rfl
theorem ztc:zbd Tryz.f66=some zqm:=by kernel_rfl
theorem zeV:zPs Tryz.f67=some zcA:=by kernel_rfl
theorem zid:zbd Tryz.f68=some zfc:=by kernel_rfl
theorem znj:zbd Tryz.f69=some zjw:=by kernel_rfl
theorem zr7:zuU [(0,0)] Tryz.f70=some zo9:=by kernel_rfl
theorem zkK:zbd Tryz.f74=some zhh:=by kernel_rfl
theorem zoF:zuU [(3,7)] Tryz.f75=some zkD:=by kernel_rfl
theorem ztd:zbd Tryz.f76=some zqn:=by kernel_rfl
theorem zr8:zuU [(0,0)] Tryz.f77=some zpa:=by kernel_rfl
theorem znk:zbd Tryz.f78=some zjx:=by kernel_rfl
theorem zpF:zbd Tryz.f79=some zlY:=by kernel_rfl
theorem zr9:zbd Tryz.f93=some zpb:=by kernel_rfl
theorem zmu:zbd Tryz.f94=some ziz:=by kernel_rfl
theorem zpH:zbd Tryz.f95=some zl0:=by kernel_rfl
theorem zsa:zuU [(1,2)] Tryz.f96=some zpc:=by kernel_rfl
theorem zsc:zbd Tryz.f97=some zpd:=by kernel_rfl
theorem zlp:zbd Tryz.f98=some zhM:=by kernel_rfl
theorem znl:zbd Tryz.f99=some zi1:=by kernel_rfl
theorem zhS:zuU [(3,7)] Tryz.f100=some zev:=by kernel_rfl
theorem zqF:zuU [(1,1)] Tryz.f101=some zmR:=by kernel_rfl
theorem zoH:zbd Tryz.f102=some zkk:=by kernel_rfl
theorem zte:zbd Tryz.f108=some zp6:=by kernel_rfl
theorem zie:zbd Tryz.f109=some ze3:=by kernel_rfl
theorem ztf:zbd Tryz.f110=some zp8:=by kernel_rfl
theorem zqG:zbd Tryz.f111=some zmS:=by kernel_rfl
theorem zsg:zbd Tryz.f112=some zok:=by kernel_rfl
theorem zsh:zbd Tryz.f113=some zol:=by kernel_rfl
theorem zpK:zbd Tryz.f114=some zlf:=by kernel_rfl
theorem ztg:zbd Tryz.f115=some zp9:=by kernel_rfl
theorem zsi:zbd Tryz.f117=some zon:=by kernel_rfl
theorem zif:zuU [(0,0)] Tryz.f132=some ze4:=by kernel_rfl
theorem zu6:zuU [(0,1),(0,0)] Tryz.f140=some zr1:=by kernel_rfl
theorem zno:zbd Tryz.f141=some zi5:=by kernel_rfl
theorem znp:zbd Tryz.f142=some zi6:=by kernel_rfl
theorem zth:zbd Tryz.f143=some zqa:=by kernel_rfl
theorem zkL:zbd Tryz.f144=some zg6:=by kernel_rfl
theorem zmv:zbd Tryz.f145=some zio:=by kernel_rfl
theorem ziL:zPs Tryz.f146=some zfp:=by kernel_rfl
theorem zsj:zbd Tryz.f147=some zop:=by kernel_rfl
theorem znq:zbd Tryz.f148=some zi7:=by kernel_rfl
theorem zjc:zuU [(0,0)] Tryz.f149=some zfL:=by kernel_rfl
theorem zkM:zuU [(0,0)] Tryz.f150=some zg7:=by kernel_rfl
theorem zwG:zuU [(3,3)] Tryz.f151=some ztT:=by kernel_rfl
theorem zjW:zbd Tryz.f152=some zgr:=by kernel_rfl
theorem zjX:zbd Tryz.f158=some zgs:=by kernel_rfl
theorem zti:zbd Tryz.f160=some zqc:=by kernel_rfl
theorem znt:zbd Tryz.f161=some zjj:=by kernel_rfl
theorem zlr:zuU [(9,5)] Tryz.f166=some zh1:=by kernel_rfl
theorem zjZ:zbd Tryz.f167=some zgz:=by kernel_rfl
theorem zj0:zbd Tryz.f168=some zgA:=by kernel_rfl
theorem zig:zuU [(0,0)] Tryz.f176=some zfa:=by kernel_rfl
theorem ztj:zbd Tryz.f180=some zqe:=by kernel_rfl
theorem zoN:zbd Tryz.f181=some zky:=by kernel_rfl
theorem zpL:zbd Tryz.f182=some zlF:=by kernel_rfl
theorem zoO:zbd Tryz.f183=some zkz:=by kernel_rfl
theorem zoP:zbd Tryz.f184=some zkA:=by kernel_rfl
theorem zve:zbd Tryz.f185=some zst:=by kernel_rfl
theorem zkQ:zuU [(0,0)] Tryz.f186=some zha:=by kernel_rfl
theorem zgT:zbd Tryz.f187=some zdN:=by kernel_rfl
theorem zkR:zbd Tryz.f188=some zhb:=by kernel_rfl
theorem zvg:zbd Tryz.f189=some zsy:=by kernel_rfl
theorem zj7:zbd Tryz.f195=some zgD:=by kernel_rfl
theorem zly:zuU [(0,0)] Tryz.f196=some zh5:=by kernel_rfl
theorem zlA:zbd Tryz.f197=some zh6:=by kernel_rfl
theorem zvi:zbd Tryz.f204=some zsA:=by kernel_rfl
theorem ztl:zbd Tryz.f205=some zqk:=by kernel_rfl
theorem zwU:zbd Tryz.f206=some zug:=by kernel_rfl
theorem zkU:zbd Tryz.f207=some zhd:=by kernel_rfl
theorem zyl:zbd Tryz.f208=some zw5:=by kernel_rfl
theorem zmC:zbd Tryz.f209=some ziw:=by kernel_rfl
theorem zkV:zuU [(0,0)] Tryz.f210=some zhe:=by kernel_rfl
theorem zkW:zbd Tryz.f211=some zhf:=by kernel_rfl
theorem zmD:zbd Tryz.f212=some zix:=by kernel_rfl
theorem zny:zbd Tryz.f213=some zjs:=by kernel_rfl
theorem zlE:zbd Tryz.f214=some zh7:=by kernel_rfl
theorem znz:zbd Tryz.f215=some zjt:=by kernel_rfl
theorem znA:zbd Tryz.f220=some zi9:=by kernel_rfl
theorem zoT:zbd Tryz.f221=some zkm:=by kernel_rfl
theorem znB:zbd Tryz.f222=some zja:=by kernel_rfl
theorem zlG:zbd Tryz.f223=some zhQ:=by kernel_rfl
theorem zjm:zbd Tryz.f224=some zfM:=by kernel_rfl
theorem zlH:zbd Tryz.f230=some zhR:=by kernel_rfl
theorem zyn:zbd Tryz.f231=some zwA:=by kernel_rfl
theorem zj9:zbd Tryz.f232=some zgv:=by kernel_rfl
theorem zii:zbd Tryz.f233=some ze7:=by kernel_rfl
theorem zw0:zbd Tryz.f234=some zt1:=by kernel_rfl
theorem zoW:zbd Tryz.f235=some zko:=by kernel_rfl
theorem znG:zbd Tryz.f240=some zjb:=by kernel_rfl
theorem zvn:zbd Tryz.f241=some zsd:=by kernel_rfl
theorem zvo:zbd Tryz.f242=some zsf:=by kernel_rfl
theorem zht:zbd Tryz.f260=some zed:=by kernel_rfl
theorem zgW:zbd Tryz.f261=some zdD:=by kernel_rfl
theorem zh4:zbd Tryz.f262=some zey:=by kernel_rfl
theorem zhu:zbd Tryz.f263=some zee:=by kernel_rfl
theorem zmF:zbd Tryz.f275=some zip:=by kernel_rfl
theorem zjp:zbd Tryz.f282=some zfO:=by kernel_rfl
theorem zlJ:zbd Tryz.f283=some zhT:=by kernel_rfl
theorem zk0:zbd Tryz.f284=some zg8:=by kernel_rfl
theorem zo1:zbd Tryz.f285=some zkq:=by kernel_rfl
theorem zlK:zbd Tryz.f290=some zhU:=by kernel_rfl
theorem zo2:zbd Tryz.f291=some zkr:=by kernel_rfl
theorem zjq:zbd Tryz.f297=some zfP:=by kernel_rfl
theorem zlL:zbd Tryz.f298=some zhV:=by kernel_rfl
theorem ziN:zbd Tryz.f304=some zft:=by kernel_rfl
theorem zlM:zbd Tryz.f313=some zhW:=by kernel_rfl
theorem zo5:zbd Tryz.f343=some zks:=by kernel_rfl
theorem zMe:∀ f F,ctx.fns f=some F→∃ fn fl,Tryz.prog.funcs[f]?=some fn∧cfn ctx Tryz.prog fl fn=some F∧fn.name≠ "runtime.NumGoroutine":=by
  intro f F h
  simp only [ctx] at h
  unfold zPy at h
  split at h
  · exact fnE h Tryz.func2 zoq (by decide +kernel)
  · exact fnE h Tryz.func6 zfF (by decide +kernel)
  · exact fnE h Tryz.func9 zkH (by decide +kernel)
  · exact fnE h Tryz.func11 zor (by decide +kernel)
  · exact fnE h Tryz.func13 zos (by decide +kernel)
  · exact fnE h Tryz.func15 zgM (by decide +kernel)
  · exact fnE h Tryz.func17 zfG (by decide +kernel)
  · exact fnE h Tryz.func18 zgN (by decide +kernel)
  · exact fnE h Tryz.func19 zhn (by decide +kernel)
  · exact fnE h Tryz.func20 zr4 (by decide +kernel)
  · exact fnE h Tryz.func21 zho (by decide +kernel)
  · exact fnE h Tryz.func22 zou (by decide +kernel)
  · exact fnE h Tryz.func24 zgO (by decide +kernel)
  · exact fnE h Tryz.func25 zgP (by decide +kernel)
  · exact fnE h Tryz.func26 zpw (by decide +kernel)
  · exact fnE h Tryz.func28 zjT (by decide +kernel)
  · exact fnE h Tryz.func29 zf4 (by decide +kernel)
  · exact fnE h Tryz.func30 zhO (by decide +kernel)
  · exact fnE h Tryz.func31 znf (by decide +kernel)
  · exact fnE h Tryz.func33 zfH (by decide +kernel)
  · exact fnE h Tryz.func34 zfr (by decide +kernel)
  · exact fnE h Tryz.func36 zu3 (by decide +kernel)
  · exact fnE h Tryz.func37 zyc (by decide +kernel)
  · exact fnE h Tryz.func38 zln (by decide +kernel)
  · exact fnE h Tryz.func39 zqz (by decide +kernel)
  · exact fnE h Tryz.func43 zeU (by decide +kernel)
  · exact fnE h Tryz.func44 zfs (by decide +kernel)
  · exact fnE h Tryz.func45 zmn (by decide +kernel)
  · exact fnE h Tryz.func47 zkI (by decide +kernel)
  · exact fnE h Tryz.func48 zoz (by decide +kernel)
  · exact fnE h Tryz.func49 zpA (by decide +kernel)
  · exact fnE h Tryz.func50 zpC (by decide +kernel)
  · exact fnE h Tryz.func51 zgQ (by decide +kernel)
  · exact fnE h Tryz.func52 zng (by decide +kernel)
  · exact fnE h Tryz.func53 zqB (by decide +kernel)
  · exact fnE h Tryz.func54 zjU (by decide +kernel)
  · exact fnE h Tryz.func55 ztb (by decide +kernel)
  · exact fnE h Tryz.func60 zqC (by decide +kernel)
  · exact fnE h Tryz.func61 zgu (by decide +kernel)
  · exact fnE h Tryz.func62 zqD (by decide +kernel)
  · exact fnE h Tryz.func64 zpE (by decide +kernel)
  · exact fnE h Tryz.func65 zlo (by decide +kernel)
  · exact fnE h Tryz.func66 ztc (by decide +kernel)
  · exact fnE h Tryz.func67 zeV (by decide +kernel)
  · exact fnE h Tryz.func68 zid (by decide +kernel)
  · exact fnE h Tryz.func69 znj (by decide +kernel)
  · exact fnE h Tryz.func70 zr7 (by decide +kernel)
  · exact fnE h Tryz.func74 zkK (by decide +kernel)
  · exact fnE h Tryz.func75 zoF (by decide +kernel)
  · exact fnE h Tryz.func76 ztd (by decide +kernel)
  · exact fnE h Tryz.func77 zr8 (by decide +kernel)
  · exact fnE h Tryz.func78 znk (by decide +kernel)
  · exact fnE h Tryz.func79 zpF (by decide +kernel)
  · exact fnE h Tryz.func93 zr9 (by decide +kernel)
  · exact fnE h Tryz.func94 zmu (by decide +kernel)
  · exact fnE h Tryz.func95 zpH (by decide +kernel)
  · exact fnE h Tryz.func96 zsa (by decide +kernel)
  · exact fnE h Tryz.func97 zsc (by decide +kernel)
  · exact fnE h Tryz.func98 zlp (by decide +kernel)
  · exact fnE h Tryz.func99 znl (by decide +kernel)
  · exact fnE h Tryz.func100 zhS (by decide +kernel)
  · exact fnE h Tryz.func101 zqF (by decide +kernel)
  · exact fnE h Tryz.func102 zoH (by decide +kernel)
  · exact fnE h Tryz.func108 zte (by decide +kernel)
  · exact fnE h Tryz.func109 zie (by decide +kernel)
  · exact fnE h Tryz.func110 ztf (by decide +kernel)
  · exact fnE h Tryz.func111 zqG (by decide +kernel)
  · exact fnE h Tryz.func112 zsg (by decide +kernel)
  · exact fnE h Tryz.func113 zsh (by decide +kernel)
  · exact fnE h Tryz.func114 zpK (by decide +kernel)
  · exact fnE h Tryz.func115 ztg (by decide +kernel)
  · exact fnE h Tryz.func117 zsi (by decide +kernel)
  · exact fnE h Tryz.func132 zif (by decide +kernel)
  · exact fnE h Tryz.func140 zu6 (by decide +kernel)
  · exact fnE h Tryz.func141 zno (by decide +kernel)
  · exact fnE h Tryz.func142 znp (by decide +kernel)
  · exact fnE h Tryz.func143 zth (by decide +kernel)
  · exact fnE h Tryz.func144 zkL (by decide +kernel)
  · exact fnE h Tryz.func145 zmv (by decide +kernel)
  · exact fnE h Tryz.func146 ziL (by decide +kernel)
  · exact fnE h Tryz.func147 zsj (by decide +kernel)
  · exact fnE h Tryz.func148 znq (by decide +kernel)
  · exact fnE h Tryz.func149 zjc (by decide +kernel)
  · exact fnE h Tryz.func150 zkM (by decide +kernel)
  · exact fnE h Tryz.func151 zwG (by decide +kernel)
  · exact fnE h Tryz.func152 zjW (by decide +kernel)
  · exact fnE h Tryz.func158 zjX (by decide +kernel)
  · exact fnE h Tryz.func160 zti (by decide +kernel)
  · exact fnE h Tryz.func161 znt (by decide +kernel)
  · exact fnE h Tryz.func166 zlr (by decide +kernel)
  · exact fnE h Tryz.func167 zjZ (by decide +kernel)
  · exact fnE h Tryz.func168 zj0 (by decide +kernel)
  · exact fnE h Tryz.func176 zig (by decide +kernel)
  · exact fnE h Tryz.func180 ztj (by decide +kernel)
  · exact fnE h Tryz.func181 zoN (by decide +kernel)
  · exact fnE h Tryz.func182 zpL (by decide +kernel)
  · exact fnE h Tryz.func183 zoO (by decide +kernel)
  · exact fnE h Tryz.func184 zoP (by decide +kernel)
  · exact fnE h Tryz.func185 zve (by decide +kernel)
  · exact fnE h Tryz.func186 zkQ (by decide +kernel)
  · exact fnE h Tryz.func187 zgT (by decide +kernel)
  · exact fnE h Tryz.func188 zkR (by decide +kernel)
  · exact fnE h Tryz.func189 zvg (by decide +kernel)
  · exact fnE h Tryz.func195 zj7 (by decide +kernel)
  · exact fnE h Tryz.func196 zly (by decide +kernel)
  · exact fnE h Tryz.func197 zlA (by decide +kernel)
  · exact fnE h Tryz.func204 zvi (by decide +kernel)
  · exact fnE h Tryz.func205 ztl (by decide +kernel)
  · exact fnE h Tryz.func206 zwU (by decide +kernel)
  · exact fnE h Tryz.func207 zkU (by decide +kernel)
  · exact fnE h Tryz.func208 zyl (by decide +kernel)
  · exact fnE h Tryz.func209 zmC (by decide +kernel)
  · exact fnE h Tryz.func210 zkV (by decide +kernel)
  · exact fnE h Tryz.func211 zkW (by decide +kernel)
  · exact fnE h Tryz.func212 zmD (by decide +kernel)
  · exact fnE h Tryz.func213 zny (by decide +kernel)
  · exact fnE h Tryz.func214 zlE (by decide +kernel)
  · exact fnE h Tryz.func215 znz (by decide +kernel)
  · exact fnE h Tryz.func220 znA (by decide +kernel)
  · exact fnE h Tryz.func221 zoT (by decide +kernel)
  · exact fnE h Tryz.func222 znB (by decide +kernel)
  · exact fnE h Tryz.func223 zlG (by decide +kernel)
  · exact fnE h Tryz.func224 zjm (by decide +kernel)
  · exact fnE h Tryz.func230 zlH (by decide +kernel)
  · exact fnE h Tryz.func231 zyn (by decide +kernel)
  · exact fnE h Tryz.func232 zj9 (by decide +kernel)
  · exact fnE h Tryz.func233 zii (by decide +kernel)
  · exact fnE h Tryz.func234 zw0 (by decide +kernel)
  · exact fnE h Tryz.func235 zoW (by decide +kernel)
  · exact fnE h Tryz.func240 znG (by decide +kernel)
  · exact fnE h Tryz.func241 zvn (by decide +kernel)
  · exact fnE h Tryz.func242 zvo (by decide +kernel)
  · exact fnE h Tryz.func260 zht (by decide +kernel)
  · exact fnE h Tryz.func261 zgW (by decide +kernel)
  · exact fnE h Tryz.func262 zh4 (by decide +kernel)
  · exact fnE h Tryz.func263 zhu (by decide +kernel)
  · exact fnE h Tryz.func275 zmF (by decide +kernel)
  · exact fnE h Tryz.func282 zjp (by decide +kernel)
  · exact fnE h Tryz.func283 zlJ (by decide +kernel)
  · exact fnE h Tryz.func284 zk0 (by decide +kernel)
  · exact fnE h Tryz.func285 zo1 (by decide +kernel)
  · exact fnE h Tryz.func290 zlK (by decide +kernel)
  · exact fnE h Tryz.func291 zo2 (by decide +kernel)
  · exact fnE h Tryz.func297 zjq (by decide +kernel)
  · exact fnE h Tryz.func298 zlL (by decide +kernel)
  · exact fnE h Tryz.func304 ziN (by decide +kernel)
  · exact fnE h Tryz.func313 zlM (by decide +kernel)
  · exact fnE h Tryz.func343 zo5 (by decide +kernel)
  · simp at h
theorem zJb:(zL7.all fun r=>zu9 Tryz.prog r.1 r.2.1 r.2.2)=true:=by kernel_rfl
theorem zGh:(zHg.all fun r=>zrb Tryz.prog r.1 r.2.1 r.2.2.1 r.2.2.2)=true:=by kernel_rfl
theorem zJf:∀ t name path f,ctx.meth t name=some (path,f)→(path=[]∧zu9 Tryz.prog t name f=true)∨∃ k,path=[(k,1,false)]∧zrb Tryz.prog t name f k=true:=by
  intro t name path f h
  have h1:zIW t name=some (path,f):=h
  unfold zIW at h1
  split at h1
  · rename_i r he
    have h2:=List.find?_some he
    have h3:=List.all_eq_true.1 zJb r (List.mem_of_find?_eq_some he)
    simp only [Bool.and_eq_true,beq_iff_eq] at h2
    simp only [Option.some.injEq,Prod.mk.injEq] at h1
    rw [h2.1,h2.2,h1.2] at h3
    exact .inl ⟨h1.1.symm,h3⟩
  · obtain ⟨r,hr,he⟩:=Option.map_eq_some_iff.1 h1
    have h2:=List.find?_some hr
    have h3:=List.all_eq_true.1 zGh r (List.mem_of_find?_eq_some hr)
    simp only [Bool.and_eq_true,beq_iff_eq] at h2
    simp only [Prod.mk.injEq] at he
    rw [h2.1,h2.2,he.2] at h3
    exact .inr ⟨_,he.1.symm,h3⟩
theorem zAL {L:Lim} {args:List zaa} {h:zab} {v:zaa} {h':zab} (hp:zLO.pre L args h=some (.inl (v,h'))):zfR ctx Tryz.prog L 116 args h v h':=
  zD4 Tryz.func116 (by kernel_rfl) (by kernel_rfl) (by kernel_rfl) (e:=add64Entry) (by kernel_rfl) (fun x y c hc w=>zGB x y c hc w) hp
theorem zAM {L:Lim} {args:List zaa} {h:zab} {v:zaa} {h':zab} (hp:zMt.pre L args h=some (.inl (v,h'))):zfR ctx Tryz.prog L 159 args h v h':=
  zD4 Tryz.func159 (by kernel_rfl) (by kernel_rfl) (by kernel_rfl) (e:=zzL) (by kernel_rfl) (fun x y c hc w=>zGC x y c hc w) hp
theorem zMf:zw7 ctx Tryz.prog where
  fns:=zMe
  extA:=by
    intro f g h L args hh v h' hp
    simp only [ctx] at h
    unfold zOO at h
    split at h
    · obtain rfl:=Option.some.inj h;exact zAL hp
    · obtain rfl:=Option.some.inj h;exact zAM hp
    · simp at h
  extB:=by
    intro f g h L args hh f1 bs h1 hp
    simp only [ctx] at h
    unfold zOO at h
    split at h
    · obtain rfl:=Option.some.inj h;exact absurd hp zzO
    · obtain rfl:=Option.some.inj h;exact absurd hp zzO
    · simp at h
  meth:=by
    intro t name path f h s v cv r w hrep hm
    rcases zJf t name path f h with ⟨rfl,hrow⟩ | ⟨k,rfl,hrow⟩
    · obtain rfl:v=r:=Option.some.inj hm
      exact ⟨cv,zFF hrow _ cv w,hrep⟩
    · exact zDi hrow _ hrep hm w
end Go.Av
