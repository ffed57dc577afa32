/- The document's transcript. -/
import Derived.Test.YtafkceblllhheaaGreatDoorCE
import Derived.Test.YtafkceblllhheaaGreatDoorCD
import Derived.Test.YtafkceblllhheaaGreatDoorC8
import Derived.Test.YtafkceblllhheaaGreatDoorCA
set_option linter.unusedSimpArgs false
set_option linter.unusedVariables false
set_option maxHeartbeats 2000000
set_option maxRecDepth 20000
namespace Go.Av
def d6 (t:Tc):List J:=[Ii 1,.vsl false (t.g.l.map It.cells),Ii t.g.k,Ii t.g.e,.vsl false (eI .u8 t.tg),.vsl false (eI .u8 t.s.S),Ii t.s.a,Ii t.s.b,Ii t.s.c,.vsl false [],.vsl false [],.vsl false [],Ii 0,Ii 0,Ii 0]
def z15:List J:=[Ii 0,.nsl,Ii 0,Ii 0,.nsl,.nsl,Ii 0,Ii 0,Ii 0,.nsl,.nsl,.nsl,Ii 0,Ii 0,Ii 0]
theorem u4 (h:O)(t:Tc):nT h (.agg (d6 t))=some (.agg (d6 t),false):=by
 simp [nT,bC,J.flat,d6]
theorem kz (hh:O)(nb nt m:Nat)(t:Tc):frz hh nb nt (m+2) (.agg (d6 t))=some (.agg (d6 t)):=by
 have hfl:bC (d6 t)=false:=by simp [d6,bC,J.flat]
 have hg:frz hh nb nt (m+2) (.agg (d6 t))=((d6 t).mapM (frz hh nb nt (m+1))).map .agg:=by
  rw [frz.eq_def];simp only [hfl];rfl
 have fi:∀ a:Int,frz hh nb nt (m+1) (Ii a)=some (Ii a):=fun a=>by rw [frz.eq_def]
 have fv:=lq (h:=hh) (nb:=nb) (nt:=nt) (n:=m) false (nM nb nt t.g.l);have f0:=lq (h:=hh) (nb:=nb) (nt:=nt) (n:=m) false (es:=[]) rfl;rw [hg];simp only [d6,List.mapM_cons,List.mapM_nil,fv,fi,Sl,f0];rfl
@[simp] theorem bn (t:Tc):(d6 t).length=15:=rfl
@[simp] theorem At (g:Gd):(yg g).length=3:=rfl
@[simp] theorem HQ (s:Sp):(tv s).length=4:=rfl
theorem YH (t:Tc):cL false (d6 t) 0 1=some (Ii 1):=rfl
theorem zdF (t:Tc):cL true (d6 t) 1 3=some (.agg (yg t.g)):=rfl
theorem zop (t:Tc):cL false (d6 t) 3 1=some (Ii t.g.e):=rfl
theorem YJ (t:Tc):cL true (d6 t) 5 4=some (.agg (tv t.s)):=rfl
theorem Wu (t:Tc)(g:Gd):setAt (d6 t) 1 (yg g)=d6 {t with g:=g}:=rfl
theorem Rm (t:Tc)(s:Sp):setAt (d6 t) 5 (tv s)=d6 {t with s:=s}:=rfl
theorem HR (L:az)(h:O)(t:Tc)(k ty c:Int)(b:List Int)(d:J)(hd:∀ h,nT h d=some (.vsl false (eI .u8 b),false))(hdf:d.flat=false)(hk:t.g.k < 1000000000):
  Z ah L bK [.agg (d6 t),.agg [Ii k,Ii ty,Ii c,d]] h=some (.tup [.agg (d6 {t with g:=ak t.g k ty c}),Ii (ak t.g k ty c).e],h):=by
 rw [B6];have hf:=u4 h t;have hf2:=Jf h k ty c b d (hd h) hdf;have hbo:pe (.agg [Ii k,Ii ty,Ii c,.vsl false (eI .u8 b)])=some (.vptr [Ii k,Ii ty,Ii c,.vsl false (eI .u8 b)] 0):=rfl;have hN:=fun L h=>zdJ L h t.g k ty c hk;have s1:=Wu t (ak t.g k ty c);have p1:=zdF t;have l0:=bn t;have l1:=bn {t with g:=ak t.g k ty c};have l2:=At t.g;have l3:=At (ak t.g k ty c);have hfr:=fun hh nb nt m=>kz hh nb nt m {t with g:=ak t.g k ty c};generalize d6 {t with g:=ak t.g k ty c}=D1 at*;generalize d6 t=D0 at*;generalize (ak t.g k ty c).e=e1 at*;generalize yg (ak t.g k ty c)=G1 at*;generalize yg t.g=G0 at*;simp -implicitDefEqProofs [pH,V,hf,hf2,hbo,aF,J.cells,J.okV,aa,au,ae,p1,s1,hN,l0,l1,l2,l3,hfr]
theorem Ms (L:az)(h:O)(t:Tc)(e:Int):
  Z ah L fB [.agg (d6 t),Ii e] h=some (.tup [.agg (d6 {t with g:=aG t.g e}),Ii (aG t.g e).e],h):=by
 rw [B5];have hf:=u4 h t;have hN:=fun L h=>zdK L h t.g e;have s1:=Wu t (aG t.g e);have p1:=zdF t;have l0:=bn t;have l1:=bn {t with g:=aG t.g e};have l2:=At t.g;have l3:=At (aG t.g e);have hfr:=fun hh nb nt m=>kz hh nb nt m {t with g:=aG t.g e};generalize d6 {t with g:=aG t.g e}=D1 at*;generalize d6 t=D0 at*;generalize (aG t.g e).e=e1 at*;generalize yg (aG t.g e)=G1 at*;generalize yg t.g=G0 at*;simp -implicitDefEqProofs [pG,V,hf,aF,J.cells,J.okV,aa,au,ae,p1,s1,hN,l0,l1,l2,l3,hfr]
theorem Ww (L:az)(h:O)(t:Tc)(hk:t.g.k<=t.g.l.length):
  Z ah L jZ [.agg (d6 t)] h=some (.tup [.agg (d6 {t with g:=mg t.g}),Ii (mg t.g).e],h):=by
 rw [yA];have hf:=u4 h t;have hN:=fun L h=>Wv L h t.g hk;have s1:=Wu t (mg t.g);have p1:=zdF t;have l0:=bn t;have l1:=bn {t with g:=mg t.g};have l2:=At t.g;have l3:=At (mg t.g);have hfr:=fun hh nb nt m=>kz hh nb nt m {t with g:=mg t.g};generalize d6 {t with g:=mg t.g}=D1 at*;generalize d6 t=D0 at*;generalize (mg t.g).e=e1 at*;generalize yg (mg t.g)=G1 at*;generalize yg t.g=G0 at*;simp -implicitDefEqProofs [nH,V,hf,aF,J.cells,J.okV,aa,au,ae,p1,s1,hN,l0,l1,l2,l3,hfr]
theorem HT (L:az)(h:O)(t:Tc)(k ty c:Int)(b:List Int)(d:J)(hd:∀ h,nT h d=some (.vsl false (eI .u8 b),false))(hdf:d.flat=false)(hs:t.s.ok)(hc:t.s.c < 100000000)(hb:cw b)(hl:b.length < 10000000):
  Z ah L bL [.agg (d6 t),.agg [Ii k,Ii ty,Ii c,d]] h=some (.agg (d6 {t with s:=ay t.s (ig k ty c b)}),h):=by
 rw [B7];have hf:=u4 h t;have hf2:=Jf h k ty c b d (hd h) hdf;have hbo:pe (.agg [Ii k,Ii ty,Ii c,.vsl false (eI .u8 b)])=some (.vptr [Ii k,Ii ty,Ii c,.vsl false (eI .u8 b)] 0):=rfl;have hB:=fun L h=>zh9 L h k ty c b (.vsl false (eI .u8 b)) (by simp) rfl hb (by omega);have hT:=fun L h=>zfe L h t.s hs hc false (ig k ty c b) (rU k ty c hb) (V4 k ty c hl);have s5:=Rm t (ay t.s (ig k ty c b));have p0:=YH t;have p5:=YJ t;have l0:=bn t;have l1:=bn {t with s:=ay t.s (ig k ty c b)};have l2:=HQ t.s;have l3:=HQ (ay t.s (ig k ty c b));have hfr:=fun hh nb nt m=>kz hh nb nt m {t with s:=ay t.s (ig k ty c b)};generalize d6 {t with s:=ay t.s (ig k ty c b)}=D1 at*;generalize d6 t=D0 at*;generalize tv (ay t.s (ig k ty c b))=S1 at*;generalize tv t.s=S0 at*;generalize eI .u8 (ig k ty c b)=ob at*;simp -implicitDefEqProofs [pI,V,hf,hf2,hbo,aF,J.cells,J.okV,aa,au,ae,p0,p5,s5,hB,hT,l0,l1,l2,l3,hfr]
theorem T3 (L:az)(h:O)(t:Tc)(N:Int)(hk:t.g.k < 1000000000)(hs:t.s.ok)(hc:t.s.c < 10000000)(hn:(ak t.g 2 1 N).e=0->N.toNat < 1000000):
  Z ah L jm [.agg (d6 t),Ii N] h=some (.tup [.agg (d6 (j8 t N).2),.vsl false (eI .u8 (j8 t N).1.1),Ii (j8 t N).1.2],h):=by
 rw [yu];have hf:=u4 h t;have hN:∀ L h,Z ah L bK [.agg (d6 t),.agg [Ii 2,Ii 1,Ii N,.nsl]] h=_:=fun L h=>HR L h t 2 1 N [] .nsl (fun h=>Ez h) rfl hk;have l0:=bn t;have l1:=bn {t with g:=ak t.g 2 1 N};by_cases he:(ak t.g 2 1 N).e=0
 ·have hsq:j8 t N=((fm (ay t.s (ig 2 1 N [])) N.toNat,0),{t with g:=ak t.g 2 1 N,s:=bz (ay t.s (ig 2 1 N [])) N.toNat}):=by unfold j8;rw [if_pos he]
  rw [hsq];have hT:∀ L h,Z ah L bL [.agg (d6 {t with g:=ak t.g 2 1 N}),.agg [Ii 2,Ii 1,Ii N,.nsl]] h=_:=fun L h=>HT L h {t with g:=ak t.g 2 1 N} 2 1 N [] .nsl (fun h=>Ez h) rfl hs (by simp only;omega) qJ (by simp);have htk:=iO hs (rU 2 1 N qJ);have htc:=wa hs 2 1 N [];have hG:=fun L h=>UV L h (ay t.s (ig 2 1 N [])) htk N N.toNat rfl (hn he) (by simp at htc;omega);have l2:=bn {t with g:=ak t.g 2 1 N,s:=ay t.s (ig 2 1 N [])};have l3:=bn {t with g:=ak t.g 2 1 N,s:=bz (ay t.s (ig 2 1 N [])) N.toNat};have s5:=Rm {t with g:=ak t.g 2 1 N,s:=ay t.s (ig 2 1 N [])} (bz (ay t.s (ig 2 1 N [])) N.toNat);have p0:=YH {t with g:=ak t.g 2 1 N,s:=ay t.s (ig 2 1 N [])};have p5:=YJ {t with g:=ak t.g 2 1 N,s:=ay t.s (ig 2 1 N [])};have l4:=HQ (bz (ay t.s (ig 2 1 N [])) N.toNat);have hfr:=fun hh nb nt m=>kz hh nb nt m {t with g:=ak t.g 2 1 N,s:=bz (ay t.s (ig 2 1 N [])) N.toNat};simp only at s5 p5 hT;rw [he] at hN;generalize d6 {t with g:=ak t.g 2 1 N,s:=bz (ay t.s (ig 2 1 N [])) N.toNat}=D3 at*;generalize d6 {t with g:=ak t.g 2 1 N,s:=ay t.s (ig 2 1 N [])}=D2 at*;generalize d6 {t with g:=ak t.g 2 1 N}=D1 at*;generalize d6 t=D0 at*;generalize fm (ay t.s (ig 2 1 N [])) N.toNat=gl at*;generalize tv (bz (ay t.s (ig 2 1 N [])) N.toNat)=S3 at*;generalize tv (ay t.s (ig 2 1 N []))=S2 at*;simp -implicitDefEqProofs [jg,V,hf,aF,al,setAt,J.cells,J.okV,aa,au,ae,hN,hT,hG,p0,p5,s5,l0,l1,l2,l3,l4,hfr,bne]
 ·have hsq:j8 t N=(([],(ak t.g 2 1 N).e),{t with g:=ak t.g 2 1 N}):=by unfold j8;rw [if_neg he]
  rw [hsq];have be:((ak t.g 2 1 N).e==0)=false:=beq_false_of_ne he;have hfr:=fun hh nb nt m=>kz hh nb nt m {t with g:=ak t.g 2 1 N};generalize (ak t.g 2 1 N).e=e1 at*;generalize d6 {t with g:=ak t.g 2 1 N}=D1 at*;generalize d6 t=D0 at*;simp -implicitDefEqProofs [jg,V,hf,aF,al,setAt,J.cells,J.okV,aa,au,ae,hN,l0,l1,hfr,bne,be]
theorem Rn (L:az)(h:O)(t:Tc)(hk:t.g.k < 1000000000)(hs:t.s.ok)(hc:t.s.c < 10000000):
  Z ah L jn [.agg (d6 t)] h=some (.tup [.agg (d6 (wJ t).1),Ii (wJ t).2],h):=by
 rw [xQ];have hf:=u4 h t;have hN:∀ L h,Z ah L bK [.agg (d6 t),.agg [Ii 3,Ii 0,Ii 1,.nsl]] h=_:=fun L h=>HR L h t 3 0 1 [] .nsl (fun h=>Ez h) rfl hk;have l0:=bn t;have l1:=bn {t with g:=ak t.g 3 0 1};by_cases he:(ak t.g 3 0 1).e=0
 ·have hsq:wJ t=({t with g:=ak t.g 3 0 1,s:=zX (ay t.s (ig 3 0 1 []))},0):=by unfold wJ;rw [if_pos he]
  rw [hsq];have hT:∀ L h,Z ah L bL [.agg (d6 {t with g:=ak t.g 3 0 1}),.agg [Ii 3,Ii 0,Ii 1,.nsl]] h=_:=fun L h=>HT L h {t with g:=ak t.g 3 0 1} 3 0 1 [] .nsl (fun h=>Ez h) rfl hs (by simp only;omega) qJ (by simp);have htk:=iO hs (rU 3 0 1 qJ);have htc:=wa hs 3 0 1 [];have hG:=fun L h=>U1 L h (ay t.s (ig 3 0 1 [])) htk (by simp at htc;omega);have l2:=bn {t with g:=ak t.g 3 0 1,s:=ay t.s (ig 3 0 1 [])};have l3:=bn {t with g:=ak t.g 3 0 1,s:=zX (ay t.s (ig 3 0 1 []))};have s5:=Rm {t with g:=ak t.g 3 0 1,s:=ay t.s (ig 3 0 1 [])} (zX (ay t.s (ig 3 0 1 [])));have p0:=YH {t with g:=ak t.g 3 0 1,s:=ay t.s (ig 3 0 1 [])};have p5:=YJ {t with g:=ak t.g 3 0 1,s:=ay t.s (ig 3 0 1 [])};have l4:=HQ (zX (ay t.s (ig 3 0 1 [])));have hfr:=fun hh nb nt m=>kz hh nb nt m {t with g:=ak t.g 3 0 1,s:=zX (ay t.s (ig 3 0 1 []))};simp only at s5 p5 hT;rw [he] at hN;generalize d6 {t with g:=ak t.g 3 0 1,s:=zX (ay t.s (ig 3 0 1 []))}=D3 at*;generalize d6 {t with g:=ak t.g 3 0 1,s:=ay t.s (ig 3 0 1 [])}=D2 at*;generalize d6 {t with g:=ak t.g 3 0 1}=D1 at*;generalize d6 t=D0 at*;generalize tv (zX (ay t.s (ig 3 0 1 [])))=S3 at*;generalize tv (ay t.s (ig 3 0 1 []))=S2 at*;simp -implicitDefEqProofs [jh,V,hf,aF,al,setAt,J.cells,J.okV,aa,au,ae,hN,hT,hG,p0,p5,s5,l0,l1,l2,l3,l4,hfr,bne]
 ·have hsq:wJ t=({t with g:=ak t.g 3 0 1},(ak t.g 3 0 1).e):=by unfold wJ;rw [if_neg he]
  rw [hsq];have be:((ak t.g 3 0 1).e==0)=false:=beq_false_of_ne he;have hfr:=fun hh nb nt m=>kz hh nb nt m {t with g:=ak t.g 3 0 1};generalize (ak t.g 3 0 1).e=e1 at*;generalize d6 {t with g:=ak t.g 3 0 1}=D1 at*;generalize d6 t=D0 at*;simp -implicitDefEqProofs [jh,V,hf,aF,al,setAt,J.cells,J.okV,aa,au,ae,hN,l0,l1,hfr,bne,be]
theorem WA (L:az)(h:O)(t:Tc)(ty:Int)(c:Bool)(b:List Int)(hb:cw b)(hl:b.length < 10000000)(hk:t.g.k < 1000000000)(hs:t.s.ok)(hc:t.s.c < 10000000):
  Z ah L jY [.agg (d6 t),Ii ty,.vsl c (eI .u8 b)] h=some (.tup [.agg (d6 (iR t ty b).1),Ii (iR t ty b).2],h):=by
 rw [zr];have hf:=u4 h t;have hf2:=fw h c (eI .u8 b);have p3:=zop t;have l0:=bn t;by_cases h0:t.g.e=0
 ·rw [h0] at p3;have hC:=fun L h=>JH L h ty false b (by omega);by_cases hcn:(j3 ty b.length).2=0
  ·rw [hcn] at hC;generalize hn:(j3 ty b.length).1=n at*;have hN:=fun L h=>HR L h t 1 ty n b (.vsl false (eI .u8 b)) (by simp) rfl hk;have l1:=bn {t with g:=ak t.g 1 ty n};by_cases he:(ak t.g 1 ty n).e=0
   ·rw [he] at hN;have hK:=fun L h=>P5 L h ty false b hb (by omega);by_cases hck:ww ty b=0
    ·rw [hck] at hK;have hA:iR t ty b=({t with g:=ak t.g 1 ty n,s:=ay t.s (ig 1 ty n b)},0):=by
      unfold iR;rw [hn,if_pos h0,if_pos hcn,if_pos he,if_pos hck]
     rw [hA];have hT:=fun L h=>HT L h {t with g:=ak t.g 1 ty n} 1 ty n b (.vsl false (eI .u8 b)) (by simp) rfl hs (by simp only;omega) hb hl;have l2:=bn {t with g:=ak t.g 1 ty n,s:=ay t.s (ig 1 ty n b)};have hfr:=fun hh nb nt m=>kz hh nb nt m {t with g:=ak t.g 1 ty n,s:=ay t.s (ig 1 ty n b)};simp only at hT;generalize d6 {t with g:=ak t.g 1 ty n,s:=ay t.s (ig 1 ty n b)}=D2 at*;generalize d6 {t with g:=ak t.g 1 ty n}=D1 at*;generalize d6 t=D0 at*;generalize eI .u8 b=eb at*;generalize (n:Int)=nI at*;simp -implicitDefEqProofs [dc,V,hf,hf2,aF,al,setAt,J.cells,J.okV,aa,au,ae,p3,hC,hN,hK,hT,l0,l1,l2,hfr,bne]
    ·have hA:iR t ty b=({t with g:=aG (ak t.g 1 ty n) (ww ty b)},(aG (ak t.g 1 ty n) (ww ty b)).e):=by
      unfold iR;rw [hn,if_pos h0,if_pos hcn,if_pos he,if_neg hck]
     rw [hA];have hF:=fun L h=>Ms L h {t with g:=ak t.g 1 ty n} (ww ty b);have l2:=bn {t with g:=aG (ak t.g 1 ty n) (ww ty b)};have hfr:=fun hh nb nt m=>kz hh nb nt m {t with g:=aG (ak t.g 1 ty n) (ww ty b)};have be:(ww ty b==0)=false:=beq_false_of_ne hck;simp only at hF;generalize (aG (ak t.g 1 ty n) (ww ty b)).e=fe2 at*;generalize d6 {t with g:=aG (ak t.g 1 ty n) (ww ty b)}=D2 at*;generalize d6 {t with g:=ak t.g 1 ty n}=D1 at*;generalize d6 t=D0 at*;generalize ww ty b=ck at*;generalize eI .u8 b=eb at*;generalize (n:Int)=nI at*;simp -implicitDefEqProofs [dc,V,hf,hf2,aF,al,setAt,J.cells,J.okV,aa,au,ae,p3,hC,hN,hK,hF,l0,l1,l2,hfr,bne,be]
   ·have hA:iR t ty b=({t with g:=ak t.g 1 ty n},(ak t.g 1 ty n).e):=by
     unfold iR;rw [hn,if_pos h0,if_pos hcn,if_neg he]
    rw [hA];have be:((ak t.g 1 ty n).e==0)=false:=beq_false_of_ne he;have hfr:=fun hh nb nt m=>kz hh nb nt m {t with g:=ak t.g 1 ty n};generalize (ak t.g 1 ty n).e=e1 at*;generalize d6 {t with g:=ak t.g 1 ty n}=D1 at*;generalize d6 t=D0 at*;generalize eI .u8 b=eb at*;generalize (n:Int)=nI at*;simp -implicitDefEqProofs [dc,V,hf,hf2,aF,al,setAt,J.cells,J.okV,aa,au,ae,p3,hC,hN,l0,l1,hfr,bne,be]
  ·have hA:iR t ty b=({t with g:=aG t.g (j3 ty b.length).2},(aG t.g (j3 ty b.length).2).e):=by
    unfold iR;rw [if_pos h0,if_neg hcn]
   rw [hA];have hF:=fun L h=>Ms L h t (j3 ty b.length).2;have be:((j3 ty b.length).2==0)=false:=beq_false_of_ne hcn;have l1:=bn {t with g:=aG t.g (j3 ty b.length).2};have hfr:=fun hh nb nt m=>kz hh nb nt m {t with g:=aG t.g (j3 ty b.length).2};generalize (aG t.g (j3 ty b.length).2).e=fe2 at*;generalize d6 {t with g:=aG t.g (j3 ty b.length).2}=D1 at*;generalize d6 t=D0 at*;generalize j3 ty b.length=q at*;obtain ⟨n,er⟩:=q;simp only at*;generalize eI .u8 b=eb at*;simp -implicitDefEqProofs [dc,V,hf,hf2,aF,al,setAt,J.cells,J.okV,aa,au,ae,p3,hC,hF,l0,l1,hfr,bne,be]
 ·have hA:iR t ty b=(t,t.g.e):=by unfold iR;rw [if_neg h0]
  rw [hA];have be:(t.g.e==0)=false:=beq_false_of_ne h0;have hfr:=fun hh nb nt m=>kz hh nb nt m t;generalize t.g.e=e0 at*;generalize d6 t=D0 at*;generalize eI .u8 b=eb at*;simp -implicitDefEqProofs [dc,V,hf,hf2,aF,al,setAt,J.cells,J.okV,aa,au,ae,p3,l0,hfr,bne,be]
def Jx (l:List Nat):List (List J):=l.map fun n=>[.vsl false (eW (dg n))]
@[simp] theorem zpY (l:List Nat):(Jx l).length=l.length:=by simp [Jx]
theorem zdV (l:List Nat)(n:Nat):Jx (l++[n])=Jx l++[[.vsl false (eW (dg n))]]:=by simp [Jx]
theorem zdY (l:List Nat):eo 1 (Jx l)=true:=by cases l <;> simp [eo,Jx]
theorem PP (nb nt:Nat):∀ l:List Nat,aO nb nt (Jx l)=true
 | []=>rfl
 | n :: l => by
  have:=PP nb nt l;simp only [Jx,List.map_cons,aO] at this |-;rw [this];have e:aO nb nt (eW (dg n))=true:=by
   have:=lq (h:=default) (nb:=nb) (nt:=nt) (n:=0) false (es:=eW (dg n));exact zel nb nt _
  simp [aE,J.under,e]
def chH (h:O)(t:Tc)(s':Sp)(acc:List Nat)(hh:O):Prop:=∃ z rest,z.length=15/\hh=hx h (d6 {t with s:=s'} :: z :: rest) (gT (Jx acc))
def chO (h:O)(acc:List Nat)(x:J):Prop:=x=gL (.vsl true []) h.toks.length 0 (Jx acc)
def chJ (h:O)(t:Tc)(s:Sp)(acc:List Nat)(k:Nat)(fr:Fr)(hh:O):Prop:=
 (∃ s',fr 13=.bool false/\pg 64 s 0=pg (64 - k) s' k/\s'.ok/\s'.c<=s.c+32*k/\chH h t s' acc hh/\chO h acc (fr 11))\/
 (0 < k/\∃ s' v,fr 13=.bool true/\v < pN/\(pg 64 s 0).1.1=fe v/\(pg 64 s 0).1.2.2=0/\(pg 64 s 0).2=s'/\chH h t s' (acc++[v]) hh/\chO h (acc++[v]) (fr 11))
def chE (h:O)(t:Tc)(s:Sp)(acc:List Nat)(fr:Fr)(hh:O):Prop:=
 (fr 13=.bool false/\¬(pg 64 s 0).1.2.2=0/\chH h t (pg 64 s 0).2 acc hh/\chO h acc (fr 11))\/
 (∃ v,fr 13=.bool true/\v < pN/\(pg 64 s 0).1.1=fe v/\(pg 64 s 0).1.2.2=0/\chH h t (pg 64 s 0).2 (acc++[v]) hh/\chO h (acc++[v]) (fr 11))
theorem zbg {fr:Fr}{h H:O}{R:Option (dt × Fr × O)}(t:Tc)(s:Sp)(hs:s.ok)(hc:s.c < 100000000)(acc:List Nat)(ha:acc.length < 100000)
  (hF:run ah (V h) (.loop aK) fr H=R) (hH:chH h t s acc H)
  (h2:fr 2=pA h.blks.length 0 0) (h11:chO h acc (fr 11)) (h13:fr 13=.bool false) (h14:fr 14=Ii 0):
  ∃ fr' H',R=some (.exit 2,fr',H')/\chE h t s acc fr' H'/\∀ t,t∉wr aK->fr' t=fr t:=by
 obtain ⟨e,fr',h',rfl,⟨rfl,p1⟩,hk⟩:=af hF 64
  (fun k fr hh=>fr 14=Ii (k:Int)/\chJ h t s acc k fr hh)
  (fun e fr hh=>e=.exit 2/\chE h t s acc fr hh)
  ⟨h14, .inl ⟨s, h13, rfl, hs, by omega, hH, h11⟩⟩ (by
   rintro k fr1 hh hkN hkeep ⟨g14,hor⟩;have g2:=kp hkeep h2;rcases hor with ⟨s',g13,e1,o1,o2,⟨z,rest,hz,rfl⟩,o3⟩ | ⟨hk0,s',v,g13,v1,v2,v3,v4,⟨z,rest,hz,rfl⟩,v5⟩
   ·by_cases hk64:k < 64
    ·have hkI:(k:Int) < 64:=by omega
     have w1:Wr ((k:Int)+1)=((k+1:Nat):Int):=wy;obtain ⟨f,hf⟩:∃ f,64 - k=f+1:=⟨64 - k - 1,by omega⟩;have hf2:64 - (k+1)=f:=by omega
     rw [hf,Qh f] at e1;have hG:=fun L h=>UV L h s' o1 32 32 rfl (by decide) (by omega);have gin:=NA o1 32;have gln:=yG s' 32;have hFd:=fun L h=>zb7 L h true false (fm s' 32) gin gln;have gok:=qj o1 32;have gc:=zW s' 32;have p5:=YJ {t with s:=s'};have s5:=Rm {t with s:=s'} (bz s' 32);simp only at p5 s5;have l0:=bn {t with s:=s'};have l1:=HQ (bz s' 32);have hroom:acc.length+1 < ao:=by unfold ao;omega
     have hap:=fun bs v=>ER (V h) h bs 1 true (Jx acc) [[.vsl false (eW (dg v))]] (by simp [V,zdY,hroom,show ∀ x:J,eo 1 [[x]]=true from fun x=>rfl]);simp only [V] at hap;unfold fdD at hFd;generalize hB:fm s' 32=B at*;generalize hS2:bz s' 32=s2 at*;by_cases hlt:bi (kc B) < pN
     ·rw [if_pos hlt] at e1;simp only [if_pos hlt] at hFd;have hap:=fun bs=>hap bs (bi (kc B));have hsn:=zdV acc (bi (kc B));rw [<- hsn] at hap;have hfill:∀ x:List (List J),al (rep [J.nsl] 1) [(0,1,.vsl false x)]=some [.vsl false x]:=fun x=>rfl;unfold chO at o3;generalize bi (kc B)=v at*;generalize hD:d6 {t with s:=s2}=D1 at*;generalize d6 {t with s:=s'}=D0 at*;generalize tv s2=S1 at*;generalize tv s'=S0 at*;generalize hk1:((k+1:Nat):Int)=k1 at*;simp -implicitDefEqProofs [aK,V,g2,g13,g14,hkI,w1,o3,aa,au,ae,J.cells,J.okV,p5,s5,l0,l1,hG,hFd,hfill,chunks,hap,al];exact ⟨hk64,by omega,.inr ⟨by omega,s2,v,by simp,hlt,by rw [e1],by rw [e1],by rw [e1],⟨z,rest++[S1],hz,by rw [hD]⟩,by unfold chO;simp⟩⟩
     ·rw [if_neg hlt] at e1;simp only [if_neg hlt] at hFd;generalize hD:d6 {t with s:=s2}=D1 at*;generalize d6 {t with s:=s'}=D0 at*;generalize tv s2=S1 at*;generalize tv s'=S0 at*;generalize hk1:((k+1:Nat):Int)=k1 at*;simp -implicitDefEqProofs [aK,V,g2,g13,g14,hkI,w1,aa,au,ae,J.cells,J.okV,p5,s5,l0,l1,hG,hFd,al,rep,chunks,bne];exact ⟨hk64,by omega,.inl ⟨s2,by simp [g13],by rw [e1,hf2],gok,by omega,⟨z,rest++[S1],hz,by rw [hD]⟩,by unfold chO at o3 |-;simp [o3]⟩⟩
    ·have:k=64:=by omega
     subst this;rw [Nat.sub_self,Qf] at e1;simp -implicitDefEqProofs [aK,g14];refine .inl ⟨by simpa using g13,by rw [e1];simp,?_,by simpa using o3⟩;rw [e1];exact ⟨z,rest,hz,rfl⟩
   ·have hkk:∀ q:Bool,(if q=true then (J.bool false) else .bool false)=.bool false:=fun q=>by cases q <;> rfl
    by_cases hk64:k < 64
    ·have hkI:(k:Int) < 64:=by omega
     simp -implicitDefEqProofs [aK,g13,g14,hkI];exact .inr ⟨v,by simpa using g13,v1,v2,v3,by rw [v4];exact ⟨z,rest,hz,rfl⟩,by simpa using v5⟩
    ·have hkI:¬(k:Int) < 64:=by omega
     simp -implicitDefEqProofs [aK,g13,g14,hkI];exact .inr ⟨v,by simpa using g13,v1,v2,v3,by rw [v4];exact ⟨z,rest,hz,rfl⟩,by simpa using v5⟩)
 exact ⟨fr',h',rfl,p1,hk⟩
def chN (h:O)(t:Tc)(s:Sp)(n k:Nat)(fr:Fr)(hh:O):Prop:=∃ s' acc tt,ge n s [] 0=ge (n - k) s' (acc.map fe) tt/\(∀ v∈acc,v < pN)/\acc.length=k/\s'.ok/\s'.c<=s.c+2048*k/\chH h t s' acc hh/\chO h acc (fr 11)
def chF (h:O)(t:Tc)(s:Sp)(n:Nat)(e:dt)(fr:Fr)(hh:O):Prop:=
 (e=.exit 0/\(ge n s [] 0).1.2.2=0/\∃ acc,(ge n s [] 0).1.1=acc.map fe/\(∀ v∈acc,v < pN)/\chH h t (ge n s [] 0).2 acc hh/\chO h acc (fr 11))\/
 (e=.ret/\¬(ge n s [] 0).1.2.2=0/\(∃ rest ts,hh=hx h (d6 {t with g:=aG t.g 11,s:=(ge n s [] 0).2} :: d6 {t with g:=aG t.g 11,s:=(ge n s [] 0).2} :: rest) ts)/\fr 5=.nsl/\fr 6=Ii (aG t.g 11).e/\(ge n s [] 0).1.2.2=11)
theorem zbh {fr:Fr}{h H:O}{R:Option (dt × Fr × O)}(t:Tc)(s:Sp)(hs:s.ok)(N:Int)(n:Nat)(hN:n=N.toNat)(hn:n < 10000)(hc:s.c < 20000000)
  (hF:run ah (V h) (.loop cC) fr H=R) (z:List J) (hz:z.length=15) (rest0:List (List J)) (hH:H=hx h (d6 {t with s:=s} :: z :: rest0) [])
  (h1:fr 1=Ii N) (h2:fr 2=pA h.blks.length 0 0) (h4:fr 4=pA h.blks.length 1 0) (h11:fr 11=.vsl true []) (h12:fr 12=Ii 0):
  ∃ e fr' H',R=some (e,fr',H')/\chF h t s n e fr' H'/\∀ t,t∉wr cC->fr' t=fr t:=by
 obtain ⟨e,fr',h',rfl,p1,hk⟩:=af hF n
  (fun k fr hh=>fr 12=Ii (k:Int)/\chN h t s n k fr hh)
  (fun e fr hh=>chF h t s n e fr hh)
  ⟨h12, s, [], 0, rfl, by simp, rfl, hs, by omega, ⟨z, rest0, hz, by rw [hH]; rfl⟩, by unfold chO gL; simpa [Jx] using h11⟩ (by
   rintro k fr1 hh hkN hkeep ⟨g12,s',acc,tt,e1,va,la,o1,o2,hHH,hO⟩;have g1:=kp hkeep h1;have g2:=kp hkeep h2;have g4:=kp hkeep h4;by_cases hkn:k < n
   ·have hltI:(k:Int) < N:=by omega
    have w1:Wr ((k:Int)+1)=((k+1:Nat):Int):=wy;obtain ⟨f,hf⟩:∃ f,n - k=f+1:=⟨n - k - 1,by omega⟩;have hf2:n - (k+1)=f:=by omega
    rw [hf,ge,sG] at e1;have hlo:=fun fr H R=>zbg (fr:=fr) (h:=h) (H:=H) (R:=R) t s' o1 (by omega) acc (by omega);have he:=zgc s';have hok:=JY o1;rw [sG] at he hok;simp -implicitDefEqProofs [cC,g1,g12,hltI];generalize hF:run ah _ (.loop _) _ _=R;obtain ⟨fr2,H2,rfl,hE,hk2⟩:=hlo _ _ _ hF hHH (by simp [g2]) (by simpa using hO) (by simp) (by simp);unfold chE at hE;generalize pg 64 s' 0=F at*;rcases hE with ⟨f13,ne,⟨z2,rest,hz2,rfl⟩,f11⟩ | ⟨v,f13,v1,v2,v3,⟨z2,rest,hz2,rfl⟩,f11⟩
    ·rw [if_neg ne] at e1;have h11':F.1.2.2=11:=by omega
     have hFl:=fun L h=>Ms L h {t with s:=F.2} 11;have l0:=bn {t with s:=F.2};have l1:=bn {t with g:=aG t.g 11,s:=F.2};simp only at hFl;have hres:chF h t s n .ret=fun fr hh=>chF h t s n .ret fr hh:=rfl;have e2:(ge n s [] 0).2=F.2:=by rw [e1]
     have e3:(ge n s [] 0).1.2.2=F.1.2.2:=by rw [e1]
     generalize hD1:d6 {t with g:=aG t.g 11,s:=F.2}=D1 at*;generalize d6 {t with s:=F.2}=D0 at*;generalize hfe:(aG t.g 11).e=fe2 at*;simp -implicitDefEqProofs [hk2,wr,aK,bj,g2,g4,f13,V,aa,au,ae,hFl,l0,l1,hz2];exact .inr ⟨rfl,by rw [e3];exact ne,⟨rest,_,by rw [e2,hD1]⟩,by simp,by simp [hfe],by rw [e3];exact h11'⟩
    ·rw [if_pos v3] at e1;generalize hk1:((k+1:Nat):Int)=k1 at*;simp -implicitDefEqProofs [hk2,wr,aK,bj,g1,g12,f13,V,w1];refine ⟨hkn,by omega,F.2,acc++[v],IntKind.i64.wrap (tt+F.1.2.1),?_,?_,by simp [la],hok.1,by omega,⟨z2,rest,hz2,rfl⟩,by simpa using f11⟩
     ·rw [e1,hf2,v2];simp
     ·intro u hu;rcases List.mem_append.1 hu with q | q
      ·exact va u q
      ·rw [List.mem_singleton.1 q];exact v1
   ·have:k=n:=by omega
    subst this;have hltI:¬(k:Int) < N:=by omega
    rw [Nat.sub_self,ge] at e1;simp -implicitDefEqProofs [cC,g1,g12,hltI];refine .inl ⟨rfl,by rw [e1],acc,by rw [e1],va,by rw [e1];exact hHH,by simpa using hO⟩)
 exact ⟨e,fr',h',rfl,p1,hk⟩
theorem FM (L:az)(h:O)(t:Tc)(N:Int)(hk:t.g.k < 1000000000)(hs:t.s.ok)(hc:t.s.c < 10000000)(hn:(ak t.g 2 3 N).e=0->N.toNat < 10000):
  ∃ vs:List Nat,(∀ v∈vs,v < pN)/\(nC t N).1.1=vs.map fe/\
  Z ah L eK [.agg (d6 t),Ii N] h=some (.tup [.agg (d6 (nC t N).2),.vsl false (Jx vs),Ii (nC t N).1.2],h):=by
 rw [wb];have hf:=u4 h t;have hN:∀ L h,Z ah L bK [.agg (d6 t),.agg [Ii 2,Ii 3,Ii N,.nsl]] h=_:=fun L h=>HR L h t 2 3 N [] .nsl (fun h=>Ez h) rfl hk;have l0:=bn t;have l1:=bn {t with g:=ak t.g 2 3 N};by_cases he:(ak t.g 2 3 N).e=0
 ·have hT:∀ L h,Z ah L bL [.agg (d6 {t with g:=ak t.g 2 3 N}),.agg [Ii 2,Ii 3,Ii N,.nsl]] h=_:=fun L h=>HT L h {t with g:=ak t.g 2 3 N} 2 3 N [] .nsl (fun h=>Ez h) rfl hs (by simp only;omega) qJ (by simp);have htk:=iO hs (rU 2 3 N qJ);have htc:=wa hs 2 3 N [];have l2:=bn {t with g:=ak t.g 2 3 N,s:=ay t.s (ig 2 3 N [])};have p0:=YH {t with g:=ak t.g 2 3 N,s:=ay t.s (ig 2 3 N [])};simp only at hT;rw [he] at hN;have hlo:=fun fr H R z hz rest hH=>zbh (fr:=fr) (h:=h) (H:=H) (R:=R) {t with g:=ak t.g 2 3 N,s:=ay t.s (ig 2 3 N [])} (ay t.s (ig 2 3 N [])) htk N N.toNat rfl (hn he) (by simp at htc;omega) (z:=z) (hz:=hz) (rest0:=rest) (hH:=hH);have hch:nC t N=if (ge N.toNat (ay t.s (ig 2 3 N [])) [] 0).1.2.2=0 then (((ge N.toNat (ay t.s (ig 2 3 N [])) [] 0).1.1,0),{t with g:=ak t.g 2 3 N,s:=(ge N.toNat (ay t.s (ig 2 3 N [])) [] 0).2})
   else (([],(aG (ak t.g 2 3 N) (ge N.toNat (ay t.s (ig 2 3 N [])) [] 0).1.2.2).e),{t with g:=aG (ak t.g 2 3 N) (ge N.toNat (ay t.s (ig 2 3 N [])) [] 0).1.2.2,s:=(ge N.toNat (ay t.s (ig 2 3 N [])) [] 0).2}):=by
   unfold nC aY;rw [if_pos he]
  rw [hch];clear hch;generalize ay t.s (ig 2 3 N [])=s0 at*;unfold chF chH chO at hlo;simp only at hlo;generalize ge N.toNat s0 [] 0=F at*;generalize hD2:d6 {t with g:=ak t.g 2 3 N,s:=s0}=D2 at*;generalize hD1:d6 {t with g:=ak t.g 2 3 N}=D1 at*;generalize hD0:d6 t=D0 at*;have hz15:z15=[Ii 0,.nsl,Ii 0,Ii 0,.nsl,.nsl,Ii 0,Ii 0,Ii 0,.nsl,.nsl,.nsl,Ii 0,Ii 0,Ii 0]:=rfl;have hlo:=fun fr H R hH=>hlo fr H R z15 rfl [[Ii 2,Ii 3,Ii N,.nsl]] hH;rw [hz15] at hlo;have hfr:=fun hh nb nt m=>kz hh nb nt m;by_cases hF0:F.1.2.2=0
  ·rw [if_pos hF0];simp -implicitDefEqProofs [eH,V,hf,aF,al,rep,chunks,setAt,J.cells,J.okV,aa,au,ae,hN,hT,p0,l0,l1,l2,bne];generalize hFr:run ah _ (.loop _) _ _=R;obtain ⟨e,fr1,H1,rfl,hE,hk1⟩:=hlo _ _ _ rfl hFr (by simp) (by simp) (by simp) (by simp) (by simp);rcases hE with ⟨rfl,z0,acc,e1,va,⟨z,rest,hz,rfl⟩,f11⟩ | ⟨rfl,ne,_⟩
   ·refine ⟨acc,va,e1,?_⟩;have hg:=fun hh n'=>v6 (h1:=hh) (nb:=h.blks.length) (nt:=h.toks.length) (n:=n') (s:=.vsl true []) (es:=Jx acc) (.inr rfl) (PP _ _ _);have l3:=bn {t with g:=ak t.g 2 3 N,s:=F.2};have hfr:=fun hh nb nt m=>hfr hh nb nt m {t with g:=ak t.g 2 3 N,s:=F.2};generalize d6 {t with g:=ak t.g 2 3 N,s:=F.2}=D3 at*;simp -implicitDefEqProofs [hk1,wr,cC,aK,bj,aa,au,ae,l3,hz,f11,hg,hfr]
   ·exact absurd hF0 ne
  ·rw [if_neg hF0];refine ⟨[],by simp,rfl,?_⟩;simp -implicitDefEqProofs [eH,V,hf,aF,al,rep,chunks,setAt,J.cells,J.okV,aa,au,ae,hN,hT,p0,l0,l1,l2,bne];generalize hFr:run ah _ (.loop _) _ _=R;obtain ⟨e,fr1,H1,rfl,hE,hk1⟩:=hlo _ _ _ rfl hFr (by simp) (by simp) (by simp) (by simp) (by simp);rcases hE with ⟨rfl,z0,_⟩ | ⟨rfl,ne,⟨rest,ts,rfl⟩,f5,f6,h11⟩
   ·exact absurd z0 hF0
   ·rw [h11];have hd:Jx []=[]:=rfl;rw [hd];have hfr:=fun hh nb nt m=>hfr hh nb nt m {t with g:=aG (ak t.g 2 3 N) 11,s:=F.2};have l3:=bn {t with g:=aG (ak t.g 2 3 N) 11,s:=F.2};generalize (aG (ak t.g 2 3 N) 11).e=fe2 at*;generalize d6 {t with g:=aG (ak t.g 2 3 N) 11,s:=F.2}=D3 at*;have f4:=hk1 4 (by decide);simp at f4;simp -implicitDefEqProofs [f4,f5,f6,aa,l3,hfr]
 ·refine ⟨[],by simp,?_,?_⟩
  ·unfold nC;rw [if_neg he];rfl
  ·have hsq:nC t N=(([],(ak t.g 2 3 N).e),{t with g:=ak t.g 2 3 N}):=by unfold nC;rw [if_neg he]
   rw [hsq];have be:((ak t.g 2 3 N).e==0)=false:=beq_false_of_ne he;have hfr:=fun hh nb nt m=>kz hh nb nt m {t with g:=ak t.g 2 3 N};have hd:Jx []=[]:=rfl;rw [hd];generalize (ak t.g 2 3 N).e=e1 at*;generalize d6 {t with g:=ak t.g 2 3 N}=D1 at*;generalize d6 t=D0 at*;simp -implicitDefEqProofs [eH,V,hf,aF,al,setAt,J.cells,J.okV,aa,au,ae,hN,l0,l1,hfr,bne,be]
theorem Uk:∀ (f:Nat) (b:List Int) (k:Nat) (acc:List It),(GL f b k acc).2=(-1,0)\/((GL f b k acc).1=[]/\¬(GL f b k acc).2.2=0)
 | 0,b,k,acc=>.inl rfl
 | f + 1, b, k, acc => by
  unfold GL;split
  ·exact .inl rfl
  ·split
   ·exact .inr ⟨rfl,by simp⟩
   ·split
    ·exact Uk f _ _ _
    ·rename_i h;exact .inr ⟨rfl,h⟩
theorem Ul (p:List Int):(bJ p).2=(-1,0)\/((bJ p).1=[]/\¬(bJ p).2.2=0):=Uk _ _ _ _
theorem zeg (L:az)(h:O)(c:Bool)(p:List Int)(hp:cw p)(hl:p.length < 1000000000):
  Z ah L mU [.vsl c (eI .u8 p)] h=some (.tup [.agg (yg ⟨(bJ p).1,0,0⟩),Ii (bJ p).2.1,Ii (bJ p).2.2],h):=by
 rw [DU];have hf:=fw h c (eI .u8 p);have hP:=fun L h=>zaQ L h false p hp hl;have hfr:=fun hh nb nt m=>Lm hh nb nt m ⟨(bJ p).1,0,0⟩;rcases Ul p with h1 | ⟨h1,h2⟩
 ·have h3:(bJ p).2.1= -1:=by rw [h1]
  have h4:(bJ p).2.2=0:=by rw [h1]
  rw [h3,h4] at hP |-;have hfr:∀ hh nb nt m,frz hh nb nt (m+2) (.agg [.vsl false ((bJ p).1.map It.cells),Ii 0,Ii 0])=some (.agg [.vsl false ((bJ p).1.map It.cells),Ii 0,Ii 0]):=hfr;have hg:yg ⟨(bJ p).1,0,0⟩=[.vsl false ((bJ p).1.map It.cells),Ii 0,Ii 0]:=rfl;rw [hg];generalize (bJ p).1.map It.cells=es at*;simp -implicitDefEqProofs [mQ,V,hf,hP,bne,al,setAt,J.cells,J.okV,aa,au,ae,hfr]
 ·have be:((bJ p).2.2==0)=false:=beq_false_of_ne h2;rw [h1] at hP |-;have hg:yg ⟨[],0,0⟩=[.vsl false [],Ii 0,Ii 0]:=rfl;rw [hg];have hfn : ∀ hh nb nt m, frz hh nb nt (m + 2) (.agg [.nsl, Ii 0, Ii 0]) = some (.agg [.vsl false [], Ii 0, Ii 0]) := fun hh nb nt m => by
   have e:frz hh nb nt (m+2) (.agg [.nsl,Ii 0,Ii 0])=([J.nsl,Ii 0,Ii 0].mapM (frz hh nb nt (m+1))).map .agg:=by
    rw [frz.eq_def];rfl
   have f1:frz hh nb nt (m+1) (Ii 0)=some (Ii 0):=by rw [frz.eq_def]
   have f2:frz hh nb nt (m+1) .nsl=some (.vsl false []):=by simp [frz]
   rw [e];simp only [List.mapM_cons,List.mapM_nil,f1,f2];rfl
  simp only [List.map_nil] at hP;generalize (bJ p).2.2=er at*;generalize (bJ p).2.1=at_ at*;simp -implicitDefEqProofs [mQ,V,hf,hP,bne,be,al,setAt,J.cells,J.okV,aa,au,ae,hfn]
def zhX:List J:=[Ii 0,.vsl false [],Ii 0,Ii 0,.vsl false [],.vsl false [],Ii 0,Ii 0,Ii 0,.vsl false [],.vsl false [],.vsl false [],Ii 0,Ii 0,Ii 0]
theorem zhZ (hh:O)(nb nt m:Nat):frz hh nb nt (m+2) (.agg [Ii 0,.nsl,Ii 0,Ii 0,.nsl,.nsl,Ii 0,Ii 0,Ii 0,.nsl,.nsl,.nsl,Ii 0,Ii 0,Ii 0])=some (.agg zhX):=by
 have e:frz hh nb nt (m+2) (.agg [Ii 0,.nsl,Ii 0,Ii 0,.nsl,.nsl,Ii 0,Ii 0,Ii 0,.nsl,.nsl,.nsl,Ii 0,Ii 0,Ii 0])=([J.int .i64 0,.nsl,Ii 0,Ii 0,.nsl,.nsl,Ii 0,Ii 0,Ii 0,.nsl,.nsl,.nsl,Ii 0,Ii 0,Ii 0].mapM (frz hh nb nt (m+1))).map .agg:=by
  rw [frz.eq_def];rfl
 have f1:frz hh nb nt (m+1) (Ii 0)=some (Ii 0):=by rw [frz.eq_def]
 rw [e];simp only [List.mapM_cons,List.mapM_nil,f1,YE];rfl
def trR (t:Tc):List J:=[Ii 1,.vsl false (t.g.l.map It.cells),Ii t.g.k,Ii t.g.e,.vsl false (eI .u8 t.tg),.vsl false (eI .u8 t.s.S),Ii t.s.a,Ii t.s.b,Ii t.s.c,.nsl,.nsl,.nsl,Ii 0,Ii 0,Ii 0]
theorem zh2 (hh:O)(nb nt m:Nat)(t:Tc):frz hh nb nt (m+2) (.agg (trR t))=some (.agg (d6 t)):=by
 have hfl:bC (trR t)=false:=by simp [trR,bC,J.flat]
 have hg:frz hh nb nt (m+2) (.agg (trR t))=((trR t).mapM (frz hh nb nt (m+1))).map .agg:=by
  rw [frz.eq_def];simp only [hfl];rfl
 have fi:∀ a:Int,frz hh nb nt (m+1) (Ii a)=some (Ii a):=fun a=>by rw [frz.eq_def]
 have fv:=lq (h:=hh) (nb:=nb) (nt:=nt) (n:=m) false (nM nb nt t.g.l);rw [hg];simp only [trR,d6,List.mapM_cons,List.mapM_nil,fv,fi,Sl,YE];rfl
theorem zem (L:az)(h:O)(bk:Int)(hbk:bk≠2)(c:Bool)(p:List Int)(hp:cw p)(hl:p.length < 1000000):
  Z ah L mT [.agg [.nsl,.nsl],Ii bk,.vsl c (eI .u8 p)] h=
   some (if bk=1 then (if (bJ p).2.2=0 then .tup [.agg (d6 (gp p)),Ii (-1),Ii 0] else .tup [.agg zhX,Ii (bJ p).2.1,Ii (bJ p).2.2]) else .tup [.agg zhX,Ii (-1),Ii 15],h):=by
 rw [DR];have hf:nT h (.agg [.nsl,.nsl])=some (.agg [.vsl false [],.vsl false []],false):=by simp [nT,bC,J.flat]
 have hf2:=fw h c (eI .u8 p);have hbo:pe (.agg [.vsl false [],.vsl false []])=some (.vptr [.vsl false [],.vsl false []] 0):=rfl;have hz:=zhZ;have b2:(bk==2)=false:=beq_false_of_ne hbk;by_cases h1:bk=1
 ·subst h1;rw [if_pos rfl];have hG:=fun L h=>zeg L h false p hp (by omega);by_cases hpe:(bJ p).2.2=0
  ·rw [if_pos hpe];rcases Ul p with q | ⟨_,q⟩
   ·have h3:(bJ p).2.1= -1:=by rw [q]
    rw [h3,hpe] at hG;have hT:=fun L h=>zjp L h 1 (bJ p).1 (by have:=MS p;omega);rw [<- Ly] at hT;have htl:=Ib p;have hO:=fun L h=>zco L h false (Cz p) htl;have hfr:=fun hh nb nt m=>zh2 hh nb nt m (gp p);have hng:Uh p=⟨(bJ p).1,0,0⟩:=rfl;have hg:yg ⟨(bJ p).1,0,0⟩=[.vsl false ((bJ p).1.map It.cells),Ii 0,Ii 0]:=rfl;have hR:trR (gp p)=[Ii 1,.vsl false ((bJ p).1.map It.cells),Ii 0,Ii 0,.vsl false (eI .u8 (Cz p)),.vsl false (eI .u8 (qg (Cz p)).S),Ii 0,Ii 136,Ii 0,.nsl,.nsl,.nsl,Ii 0,Ii 0,Ii 0]:=rfl;have hS:tv (qg (Cz p))=[.vsl false (eI .u8 (qg (Cz p)).S),Ii 0,Ii 136,Ii 0]:=rfl;rw [hR] at hfr;rw [hg] at hG;rw [hS] at hO;generalize d6 (gp p)=D1 at*;generalize eI .u8 (qg (Cz p)).S=S0 at*;generalize eI .u8 (Cz p)=tg at*;generalize (bJ p).1.map It.cells=es at*;generalize (tH 1 (bJ p).1).2.1=q1 at*;generalize (tH 1 (bJ p).1).2.2=q2 at*;simp -implicitDefEqProofs [jQ,V,hf,hf2,hbo,hG,hT,hO,bne,al,setAt,J.cells,J.okV,aa,au,ae,hfr]
    try done
   ·exact absurd hpe q
  ·rw [if_neg hpe];have be:((bJ p).2.2==0)=false:=beq_false_of_ne hpe;have hl3:=At ⟨(bJ p).1,0,0⟩;generalize yg ⟨(bJ p).1,0,0⟩=G at*;generalize (bJ p).2.2=er at*;generalize (bJ p).2.1=at_ at*;simp -implicitDefEqProofs [jQ,V,hf,hf2,hbo,hG,bne,be,al,setAt,J.cells,J.okV,aa,au,ae,hz,hl3]
 ·rw [if_neg h1];have b1:(bk==1)=false:=beq_false_of_ne h1;simp -implicitDefEqProofs [jQ,V,hf,hf2,hbo,bne,b1,b2,al,setAt,J.cells,J.okV,aa,au,ae,hz]
theorem ziE (kd:IntKind)(c:Bool)(l:List Nat)(i:Nat)(h:i < l.length):bO none 1 (.vsl c (Jx l)) (.int kd (i:Int))=some (.vptr [.vsl false (eW (dg (gd l 0 i)))] 0):=by
 simp [bO,Ke,Jx,gd,List.getD,h]
theorem ze8:∀ vs ws:List Nat,(∀ v∈vs,v < pN)->(∀ v∈ws,v < pN)->vs.map fe=ws.map fe->vs=ws
 | [],[],_,_,_=>rfl
 | [],y :: ys,_,_,h=>by simp at h
 | x :: xs,[],_,_,h=>by simp at h
 | x :: xs, y :: ys, h1, h2, h => by
  simp only [List.map_cons,List.cons.injEq] at h;have e:=zlE h.1;rw [Nat.mod_eq_of_lt (h1 x (by simp)),Nat.mod_eq_of_lt (h2 y (by simp))] at e;rw [e,ze8 xs ys (fun v q=>h1 v (by simp [q])) (fun v q=>h2 v (by simp [q])) h.2]
theorem Ng (t:Tc)(N:Int)(hk:t.g.k < 1000000000)(hs:t.s.ok)(hc:t.s.c < 10000000)(hn:(ak t.g 2 3 N).e=0->N.toNat < 10000):
  ∃ vs:List Nat,(∀ v∈vs,v < pN)/\(nC t N).1.1=vs.map fe/\
  ∀ (L:az) (h:O),Z ah L eK [.agg (d6 t),Ii N] h=some (.tup [.agg (d6 (nC t N).2),.vsl false (Jx vs),Ii (nC t N).1.2],h):=by
 obtain ⟨vs,v1,v2,_⟩:=FM ⟨0,0,0,0⟩ ⟨[],[]⟩ t N hk hs hc hn;refine ⟨vs,v1,v2,fun L h=>?_⟩;obtain ⟨ws,w1,w2,hA⟩:=FM L h t N hk hs hc hn;rw [ze8 vs ws v1 w1 (v2.symm.trans w2)];exact hA
end Go.Av
