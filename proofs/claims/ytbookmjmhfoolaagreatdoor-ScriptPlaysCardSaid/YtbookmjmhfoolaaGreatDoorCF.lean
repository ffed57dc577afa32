/- The document's transcript, and a script that it plays. -/
import Derived.Test.YtbookmjmhfoolaaGreatDoorCE
import Derived.Test.YtbookmjmhfoolaaGreatDoorCD
import Derived.Test.YtbookmjmhfoolaaGreatDoorC8
import Derived.Test.YtbookmjmhfoolaaGreatDoorCA
set_option linter.unusedSimpArgs false
set_option linter.unusedVariables false
set_option maxHeartbeats 2000000
set_option maxRecDepth 20000
namespace Go.Av
def eC (t:Tc):List J:=[Ii 1,.vsl false (t.g.l.map It.cells),Ii t.g.k,Ii t.g.e,.vsl false (eI .u8 t.tg),.vsl false (eI .u8 t.s.S),Ii t.s.a,Ii t.s.b,Ii t.s.c,.vsl false [],.vsl false [],.vsl false [],Ii 0,Ii 0,Ii 0]
def z15:List J:=[Ii 0,.nsl,Ii 0,Ii 0,.nsl,.nsl,Ii 0,Ii 0,Ii 0,.nsl,.nsl,.nsl,Ii 0,Ii 0,Ii 0]
theorem vC (h:O)(t:Tc):oL h (.agg (eC t))=some (.agg (eC t),false):=by
 simp [oL,aZ,J.flat,eC]
theorem kI (hh:O)(nb nt m:Nat)(t:Tc):frz hh nb nt (m+2) (.agg (eC t))=some (.agg (eC t)):=by
 have hfl:aZ (eC t)=false:=by simp [eC,aZ,J.flat]
 have hg:frz hh nb nt (m+2) (.agg (eC t))=((eC t).mapM (frz hh nb nt (m+1))).map .agg:=by
  rw [frz.eq_def];simp only [hfl];rfl
 have fi:∀ a:Int,frz hh nb nt (m+1) (Ii a)=some (Ii a):=fun a=>by rw [frz.eq_def]
 have fv:=ix (h:=hh) (nb:=nb) (nt:=nt) (n:=m) false (nQ nb nt t.g.l);have f0:=ix (h:=hh) (nb:=nb) (nt:=nt) (n:=m) false (es:=[]) rfl;rw [hg];simp only [eC,List.mapM_cons,List.mapM_nil,fv,fi,Sk,f0];rfl
@[simp] theorem bf (t:Tc):(eC t).length=15:=rfl
@[simp] theorem Bx (g:Gd):(yZ g).length=3:=rfl
@[simp] theorem IK (s:Sp):(t6 s).length=4:=rfl
theorem zaj (t:Tc):eL false (eC t) 0 1=some (Ii 1):=rfl
theorem zgb (t:Tc):eL true (eC t) 1 3=some (.agg (yZ t.g)):=rfl
theorem zrc (t:Tc):eL false (eC t) 3 1=some (Ii t.g.e):=rfl
theorem zak (t:Tc):eL true (eC t) 5 4=some (.agg (t6 t.s)):=rfl
theorem Yl (t:Tc)(g:Gd):setAt (eC t) 1 (yZ g)=eC {t with g:=g}:=rfl
theorem SS (t:Tc)(s:Sp):setAt (eC t) 5 (t6 s)=eC {t with s:=s}:=rfl
theorem IM (L:az)(h:O)(t:Tc)(k ty c:Int)(b:List Int)(d:J)(hd:∀ h,oL h d=some (.vsl false (eI .u8 b),false))(hdf:d.flat=false)(hk:t.g.k < 1000000000):
  aa ah L bO [.agg (eC t),.agg [Ii k,Ii ty,Ii c,d]] h=some (.tup [.agg (eC {t with g:=al t.g k ty c}),Ii (al t.g k ty c).e],h):=by
 rw [CR];have hf:=vC h t;have hf2:=H8 h k ty c b d (hd h) hdf;have hbo:lx (.agg [Ii k,Ii ty,Ii c,.vsl false (eI .u8 b)])=some (.vptr [Ii k,Ii ty,Ii c,.vsl false (eI .u8 b)] 0):=rfl;have hN:=fun L h=>zhq L h t.g k ty c hk;have s1:=Yl t (al t.g k ty c);have p1:=zgb t;have l0:=bf t;have l1:=bf {t with g:=al t.g k ty c};have l2:=Bx t.g;have l3:=Bx (al t.g k ty c);have hfr:=fun hh nb nt m=>kI hh nb nt m {t with g:=al t.g k ty c};generalize eC {t with g:=al t.g k ty c}=D1 at*;generalize eC t=D0 at*;generalize (al t.g k ty c).e=e1 at*;generalize yZ (al t.g k ty c)=G1 at*;generalize yZ t.g=G0 at*;simp -implicitDefEqProofs [pY,V,hf,hf2,hbo,aE,J.cells,J.okV,Z,aq,ab,p1,s1,hN,l0,l1,l2,l3,hfr]
theorem NK (L:az)(h:O)(t:Tc)(e:Int):
  aa ah L fO [.agg (eC t),Ii e] h=some (.tup [.agg (eC {t with g:=aK t.g e}),Ii (aK t.g e).e],h):=by
 rw [CQ];have hf:=vC h t;have hN:=fun L h=>zht L h t.g e;have s1:=Yl t (aK t.g e);have p1:=zgb t;have l0:=bf t;have l1:=bf {t with g:=aK t.g e};have l2:=Bx t.g;have l3:=Bx (aK t.g e);have hfr:=fun hh nb nt m=>kI hh nb nt m {t with g:=aK t.g e};generalize eC {t with g:=aK t.g e}=D1 at*;generalize eC t=D0 at*;generalize (aK t.g e).e=e1 at*;generalize yZ (aK t.g e)=G1 at*;generalize yZ t.g=G0 at*;simp -implicitDefEqProofs [pX,V,hf,aE,J.cells,J.okV,Z,aq,ab,p1,s1,hN,l0,l1,l2,l3,hfr]
theorem Yq (L:az)(h:O)(t:Tc)(hk:t.g.k<=t.g.l.length):
  aa ah L kc [.agg (eC t)] h=some (.tup [.agg (eC {t with g:=me t.g}),Ii (me t.g).e],h):=by
 rw [zi];have hf:=vC h t;have hN:=fun L h=>Y2 L h t.g hk;have s1:=Yl t (me t.g);have p1:=zgb t;have l0:=bf t;have l1:=bf {t with g:=me t.g};have l2:=Bx t.g;have l3:=Bx (me t.g);have hfr:=fun hh nb nt m=>kI hh nb nt m {t with g:=me t.g};generalize eC {t with g:=me t.g}=D1 at*;generalize eC t=D0 at*;generalize (me t.g).e=e1 at*;generalize yZ (me t.g)=G1 at*;generalize yZ t.g=G0 at*;simp -implicitDefEqProofs [nK,V,hf,aE,J.cells,J.okV,Z,aq,ab,p1,s1,hN,l0,l1,l2,l3,hfr]
theorem IQ (L:az)(h:O)(t:Tc)(k ty c:Int)(b:List Int)(d:J)(hd:∀ h,oL h d=some (.vsl false (eI .u8 b),false))(hdf:d.flat=false)(hs:t.s.ok)(hc:t.s.c < 100000000)(hb:ce b)(hl:b.length < 10000000):
  aa ah L bP [.agg (eC t),.agg [Ii k,Ii ty,Ii c,d]] h=some (.agg (eC {t with s:=aA t.s (im k ty c b)}),h):=by
 rw [CS];have hf:=vC h t;have hf2:=H8 h k ty c b d (hd h) hdf;have hbo:lx (.agg [Ii k,Ii ty,Ii c,.vsl false (eI .u8 b)])=some (.vptr [Ii k,Ii ty,Ii c,.vsl false (eI .u8 b)] 0):=rfl;have hB:=fun L h=>zjH L h k ty c b (.vsl false (eI .u8 b)) (by simp) rfl hb (by omega);have hT:=fun L h=>zgh L h t.s hs hc false (im k ty c b) (sJ k ty c hb) (Xt k ty c hl);have s5:=SS t (aA t.s (im k ty c b));have p0:=zaj t;have p5:=zak t;have l0:=bf t;have l1:=bf {t with s:=aA t.s (im k ty c b)};have l2:=IK t.s;have l3:=IK (aA t.s (im k ty c b));have hfr:=fun hh nb nt m=>kI hh nb nt m {t with s:=aA t.s (im k ty c b)};generalize eC {t with s:=aA t.s (im k ty c b)}=D1 at*;generalize eC t=D0 at*;generalize t6 (aA t.s (im k ty c b))=S1 at*;generalize t6 t.s=S0 at*;generalize eI .u8 (im k ty c b)=ob at*;simp -implicitDefEqProofs [pZ,V,hf,hf2,hbo,aE,J.cells,J.okV,Z,aq,ab,p0,p5,s5,hB,hT,l0,l1,l2,l3,hfr]
theorem Vp (L:az)(h:O)(t:Tc)(N:Int)(hk:t.g.k < 1000000000)(hs:t.s.ok)(hc:t.s.c < 10000000)(hn:(al t.g 2 1 N).e=0->N.toNat < 1000000):
  aa ah L jB [.agg (eC t),Ii N] h=some (.tup [.agg (eC (kV t N).2),.vsl false (eI .u8 (kV t N).1.1),Ii (kV t N).1.2],h):=by
 rw [yC];have hf:=vC h t;have hN:∀ L h,aa ah L bO [.agg (eC t),.agg [Ii 2,Ii 1,Ii N,.nsl]] h=_:=fun L h=>IM L h t 2 1 N [] .nsl (fun h=>Fl h) rfl hk;have l0:=bf t;have l1:=bf {t with g:=al t.g 2 1 N};by_cases he:(al t.g 2 1 N).e=0
 ·have hsq:kV t N=((fu (aA t.s (im 2 1 N [])) N.toNat,0),{t with g:=al t.g 2 1 N,s:=bD (aA t.s (im 2 1 N [])) N.toNat}):=by unfold kV;rw [if_pos he]
  rw [hsq];have hT:∀ L h,aa ah L bP [.agg (eC {t with g:=al t.g 2 1 N}),.agg [Ii 2,Ii 1,Ii N,.nsl]] h=_:=fun L h=>IQ L h {t with g:=al t.g 2 1 N} 2 1 N [] .nsl (fun h=>Fl h) rfl hs (by simp only;omega) mT (by simp);have htk:=jh hs (sJ 2 1 N mT);have htc:=wc hs 2 1 N [];have hG:=fun L h=>Vs L h (aA t.s (im 2 1 N [])) htk N N.toNat rfl (hn he) (by simp at htc;omega);have l2:=bf {t with g:=al t.g 2 1 N,s:=aA t.s (im 2 1 N [])};have l3:=bf {t with g:=al t.g 2 1 N,s:=bD (aA t.s (im 2 1 N [])) N.toNat};have s5:=SS {t with g:=al t.g 2 1 N,s:=aA t.s (im 2 1 N [])} (bD (aA t.s (im 2 1 N [])) N.toNat);have p0:=zaj {t with g:=al t.g 2 1 N,s:=aA t.s (im 2 1 N [])};have p5:=zak {t with g:=al t.g 2 1 N,s:=aA t.s (im 2 1 N [])};have l4:=IK (bD (aA t.s (im 2 1 N [])) N.toNat);have hfr:=fun hh nb nt m=>kI hh nb nt m {t with g:=al t.g 2 1 N,s:=bD (aA t.s (im 2 1 N [])) N.toNat};simp only at s5 p5 hT;rw [he] at hN;generalize eC {t with g:=al t.g 2 1 N,s:=bD (aA t.s (im 2 1 N [])) N.toNat}=D3 at*;generalize eC {t with g:=al t.g 2 1 N,s:=aA t.s (im 2 1 N [])}=D2 at*;generalize eC {t with g:=al t.g 2 1 N}=D1 at*;generalize eC t=D0 at*;generalize fu (aA t.s (im 2 1 N [])) N.toNat=gl at*;generalize t6 (bD (aA t.s (im 2 1 N [])) N.toNat)=S3 at*;generalize t6 (aA t.s (im 2 1 N []))=S2 at*;simp -implicitDefEqProofs [jt,V,hf,aE,ak,setAt,J.cells,J.okV,Z,aq,ab,hN,hT,hG,p0,p5,s5,l0,l1,l2,l3,l4,hfr,bne]
 ·have hsq:kV t N=(([],(al t.g 2 1 N).e),{t with g:=al t.g 2 1 N}):=by unfold kV;rw [if_neg he]
  rw [hsq];have be:((al t.g 2 1 N).e==0)=false:=beq_false_of_ne he;have hfr:=fun hh nb nt m=>kI hh nb nt m {t with g:=al t.g 2 1 N};generalize (al t.g 2 1 N).e=e1 at*;generalize eC {t with g:=al t.g 2 1 N}=D1 at*;generalize eC t=D0 at*;simp -implicitDefEqProofs [jt,V,hf,aE,ak,setAt,J.cells,J.okV,Z,aq,ab,hN,l0,l1,hfr,bne,be]
theorem SW (L:az)(h:O)(t:Tc)(hk:t.g.k < 1000000000)(hs:t.s.ok)(hc:t.s.c < 10000000):
  aa ah L jC [.agg (eC t)] h=some (.tup [.agg (eC (rU t).1),Ii (rU t).2],h):=by
 rw [yD];have hf:=vC h t;have hN:∀ L h,aa ah L bO [.agg (eC t),.agg [Ii 3,Ii 0,Ii 1,.nsl]] h=_:=fun L h=>IM L h t 3 0 1 [] .nsl (fun h=>Fl h) rfl hk;have l0:=bf t;have l1:=bf {t with g:=al t.g 3 0 1};by_cases he:(al t.g 3 0 1).e=0
 ·have hsq:rU t=({t with g:=al t.g 3 0 1,s:=BR (aA t.s (im 3 0 1 []))},0):=by unfold rU;rw [if_pos he]
  rw [hsq];have hT:∀ L h,aa ah L bP [.agg (eC {t with g:=al t.g 3 0 1}),.agg [Ii 3,Ii 0,Ii 1,.nsl]] h=_:=fun L h=>IQ L h {t with g:=al t.g 3 0 1} 3 0 1 [] .nsl (fun h=>Fl h) rfl hs (by simp only;omega) mT (by simp);have htk:=jh hs (sJ 3 0 1 mT);have htc:=wc hs 3 0 1 [];have hG:=fun L h=>Vv L h (aA t.s (im 3 0 1 [])) htk (by simp at htc;omega);have l2:=bf {t with g:=al t.g 3 0 1,s:=aA t.s (im 3 0 1 [])};have l3:=bf {t with g:=al t.g 3 0 1,s:=BR (aA t.s (im 3 0 1 []))};have s5:=SS {t with g:=al t.g 3 0 1,s:=aA t.s (im 3 0 1 [])} (BR (aA t.s (im 3 0 1 [])));have p0:=zaj {t with g:=al t.g 3 0 1,s:=aA t.s (im 3 0 1 [])};have p5:=zak {t with g:=al t.g 3 0 1,s:=aA t.s (im 3 0 1 [])};have l4:=IK (BR (aA t.s (im 3 0 1 [])));have hfr:=fun hh nb nt m=>kI hh nb nt m {t with g:=al t.g 3 0 1,s:=BR (aA t.s (im 3 0 1 []))};simp only at s5 p5 hT;rw [he] at hN;generalize eC {t with g:=al t.g 3 0 1,s:=BR (aA t.s (im 3 0 1 []))}=D3 at*;generalize eC {t with g:=al t.g 3 0 1,s:=aA t.s (im 3 0 1 [])}=D2 at*;generalize eC {t with g:=al t.g 3 0 1}=D1 at*;generalize eC t=D0 at*;generalize t6 (BR (aA t.s (im 3 0 1 [])))=S3 at*;generalize t6 (aA t.s (im 3 0 1 []))=S2 at*;simp -implicitDefEqProofs [ju,V,hf,aE,ak,setAt,J.cells,J.okV,Z,aq,ab,hN,hT,hG,p0,p5,s5,l0,l1,l2,l3,l4,hfr,bne]
 ·have hsq:rU t=({t with g:=al t.g 3 0 1},(al t.g 3 0 1).e):=by unfold rU;rw [if_neg he]
  rw [hsq];have be:((al t.g 3 0 1).e==0)=false:=beq_false_of_ne he;have hfr:=fun hh nb nt m=>kI hh nb nt m {t with g:=al t.g 3 0 1};generalize (al t.g 3 0 1).e=e1 at*;generalize eC {t with g:=al t.g 3 0 1}=D1 at*;generalize eC t=D0 at*;simp -implicitDefEqProofs [ju,V,hf,aE,ak,setAt,J.cells,J.okV,Z,aq,ab,hN,l0,l1,hfr,bne,be]
theorem Ys (L:az)(h:O)(t:Tc)(ty:Int)(c:Bool)(b:List Int)(hb:ce b)(hl:b.length < 10000000)(hk:t.g.k < 1000000000)(hs:t.s.ok)(hc:t.s.c < 10000000):
  aa ah L kb [.agg (eC t),Ii ty,.vsl c (eI .u8 b)] h=some (.tup [.agg (eC (oh t ty b).1),Ii (oh t ty b).2],h):=by
 rw [zh];have hf:=vC h t;have hf2:=fR h c (eI .u8 b);have p3:=zrc t;have l0:=bf t;by_cases h0:t.g.e=0
 ·rw [h0] at p3;have hC:=fun L h=>Ka L h ty false b (by omega);by_cases hcn:(iT ty b.length).2=0
  ·rw [hcn] at hC;generalize hn:(iT ty b.length).1=n at*;have hN:=fun L h=>IM L h t 1 ty n b (.vsl false (eI .u8 b)) (by simp) rfl hk;have l1:=bf {t with g:=al t.g 1 ty n};by_cases he:(al t.g 1 ty n).e=0
   ·rw [he] at hN;have hK:=fun L h=>QL L h ty false b hb (by omega);by_cases hck:uP ty b=0
    ·rw [hck] at hK;have hA:oh t ty b=({t with g:=al t.g 1 ty n,s:=aA t.s (im 1 ty n b)},0):=by
      unfold oh;rw [hn,if_pos h0,if_pos hcn,if_pos he,if_pos hck]
     rw [hA];have hT:=fun L h=>IQ L h {t with g:=al t.g 1 ty n} 1 ty n b (.vsl false (eI .u8 b)) (by simp) rfl hs (by simp only;omega) hb hl;have l2:=bf {t with g:=al t.g 1 ty n,s:=aA t.s (im 1 ty n b)};have hfr:=fun hh nb nt m=>kI hh nb nt m {t with g:=al t.g 1 ty n,s:=aA t.s (im 1 ty n b)};simp only at hT;generalize eC {t with g:=al t.g 1 ty n,s:=aA t.s (im 1 ty n b)}=D2 at*;generalize eC {t with g:=al t.g 1 ty n}=D1 at*;generalize eC t=D0 at*;generalize eI .u8 b=eb at*;generalize (n:Int)=nI at*;simp -implicitDefEqProofs [dk,V,hf,hf2,aE,ak,setAt,J.cells,J.okV,Z,aq,ab,p3,hC,hN,hK,hT,l0,l1,l2,hfr,bne]
    ·have hA:oh t ty b=({t with g:=aK (al t.g 1 ty n) (uP ty b)},(aK (al t.g 1 ty n) (uP ty b)).e):=by
      unfold oh;rw [hn,if_pos h0,if_pos hcn,if_pos he,if_neg hck]
     rw [hA];have hF:=fun L h=>NK L h {t with g:=al t.g 1 ty n} (uP ty b);have l2:=bf {t with g:=aK (al t.g 1 ty n) (uP ty b)};have hfr:=fun hh nb nt m=>kI hh nb nt m {t with g:=aK (al t.g 1 ty n) (uP ty b)};have be:(uP ty b==0)=false:=beq_false_of_ne hck;simp only at hF;generalize (aK (al t.g 1 ty n) (uP ty b)).e=fe2 at*;generalize eC {t with g:=aK (al t.g 1 ty n) (uP ty b)}=D2 at*;generalize eC {t with g:=al t.g 1 ty n}=D1 at*;generalize eC t=D0 at*;generalize uP ty b=ck at*;generalize eI .u8 b=eb at*;generalize (n:Int)=nI at*;simp -implicitDefEqProofs [dk,V,hf,hf2,aE,ak,setAt,J.cells,J.okV,Z,aq,ab,p3,hC,hN,hK,hF,l0,l1,l2,hfr,bne,be]
   ·have hA:oh t ty b=({t with g:=al t.g 1 ty n},(al t.g 1 ty n).e):=by
     unfold oh;rw [hn,if_pos h0,if_pos hcn,if_neg he]
    rw [hA];have be:((al t.g 1 ty n).e==0)=false:=beq_false_of_ne he;have hfr:=fun hh nb nt m=>kI hh nb nt m {t with g:=al t.g 1 ty n};generalize (al t.g 1 ty n).e=e1 at*;generalize eC {t with g:=al t.g 1 ty n}=D1 at*;generalize eC t=D0 at*;generalize eI .u8 b=eb at*;generalize (n:Int)=nI at*;simp -implicitDefEqProofs [dk,V,hf,hf2,aE,ak,setAt,J.cells,J.okV,Z,aq,ab,p3,hC,hN,l0,l1,hfr,bne,be]
  ·have hA:oh t ty b=({t with g:=aK t.g (iT ty b.length).2},(aK t.g (iT ty b.length).2).e):=by
    unfold oh;rw [if_pos h0,if_neg hcn]
   rw [hA];have hF:=fun L h=>NK L h t (iT ty b.length).2;have be:((iT ty b.length).2==0)=false:=beq_false_of_ne hcn;have l1:=bf {t with g:=aK t.g (iT ty b.length).2};have hfr:=fun hh nb nt m=>kI hh nb nt m {t with g:=aK t.g (iT ty b.length).2};generalize (aK t.g (iT ty b.length).2).e=fe2 at*;generalize eC {t with g:=aK t.g (iT ty b.length).2}=D1 at*;generalize eC t=D0 at*;generalize iT ty b.length=q at*;obtain ⟨n,er⟩:=q;simp only at*;generalize eI .u8 b=eb at*;simp -implicitDefEqProofs [dk,V,hf,hf2,aE,ak,setAt,J.cells,J.okV,Z,aq,ab,p3,hC,hF,l0,l1,hfr,bne,be]
 ·have hA:oh t ty b=(t,t.g.e):=by unfold oh;rw [if_neg h0]
  rw [hA];have be:(t.g.e==0)=false:=beq_false_of_ne h0;have hfr:=fun hh nb nt m=>kI hh nb nt m t;generalize t.g.e=e0 at*;generalize eC t=D0 at*;generalize eI .u8 b=eb at*;simp -implicitDefEqProofs [dk,V,hf,hf2,aE,ak,setAt,J.cells,J.okV,Z,aq,ab,p3,l0,hfr,bne,be]
def NO (l:List Nat):List (List J):=l.map fun n=>[.vsl false (eW (dg n))]
@[simp] theorem zsI (l:List Nat):(NO l).length=l.length:=by simp [NO]
theorem zgq (l:List Nat)(n:Nat):NO (l++[n])=NO l++[[.vsl false (eW (dg n))]]:=by simp [NO]
theorem zgr (l:List Nat):cS 1 (NO l)=true:=by cases l <;> simp [cS,NO]
theorem Q7 (nb nt:Nat):∀ l:List Nat,aJ nb nt (NO l)=true
 | []=>rfl
 | n :: l => by
  have:=Q7 nb nt l;simp only [NO,List.map_cons,aJ] at this |-;rw [this];have e:aJ nb nt (eW (dg n))=true:=by
   have:=ix (h:=default) (nb:=nb) (nt:=nt) (n:=0) false (es:=eW (dg n));exact zeH nb nt _
  simp [ay,J.under,e]
def chH (h:O)(t:Tc)(s':Sp)(acc:List Nat)(hh:O):Prop:=∃ z rest,z.length=15/\hh=hx h (eC {t with s:=s'} :: z :: rest) (gT (NO acc))
def chO (h:O)(acc:List Nat)(x:J):Prop:=x=gL (.vsl true []) h.toks.length 0 (NO acc)
def chJ (h:O)(t:Tc)(s:Sp)(acc:List Nat)(k:Nat)(fr:Fr)(hh:O):Prop:=
 (∃ s',fr 13=.bool false/\o7 64 s 0=o7 (64 - k) s' k/\s'.ok/\s'.c<=s.c+32*k/\chH h t s' acc hh/\chO h acc (fr 11))\/
 (0 < k/\∃ s' v,fr 13=.bool true/\v < pN/\(o7 64 s 0).1.1=fe v/\(o7 64 s 0).1.2.2=0/\(o7 64 s 0).2=s'/\chH h t s' (acc++[v]) hh/\chO h (acc++[v]) (fr 11))
def chE (h:O)(t:Tc)(s:Sp)(acc:List Nat)(fr:Fr)(hh:O):Prop:=
 (fr 13=.bool false/\¬(o7 64 s 0).1.2.2=0/\chH h t (o7 64 s 0).2 acc hh/\chO h acc (fr 11))\/
 (∃ v,fr 13=.bool true/\v < pN/\(o7 64 s 0).1.1=fe v/\(o7 64 s 0).1.2.2=0/\chH h t (o7 64 s 0).2 (acc++[v]) hh/\chO h (acc++[v]) (fr 11))
theorem zcR {fr:Fr}{h H:O}{R:Option (cL × Fr × O)}(t:Tc)(s:Sp)(hs:s.ok)(hc:s.c < 100000000)(acc:List Nat)(ha:acc.length < 100000)
  (hF:run ah (V h) (.loop aN) fr H=R) (hH:chH h t s acc H)
  (h2:fr 2=pA h.blks.length 0 0) (h11:chO h acc (fr 11)) (h13:fr 13=.bool false) (h14:fr 14=Ii 0):
  ∃ fr' H',R=some (.exit 2,fr',H')/\chE h t s acc fr' H'/\∀ t,t∉wr aN->fr' t=fr t:=by
 obtain ⟨e,fr',h',rfl,⟨rfl,p1⟩,hk⟩:=af hF 64
  (fun k fr hh=>fr 14=Ii (k:Int)/\chJ h t s acc k fr hh)
  (fun e fr hh=>e=.exit 2/\chE h t s acc fr hh)
  ⟨h14, .inl ⟨s, h13, rfl, hs, by omega, hH, h11⟩⟩ (by
   rintro k fr1 hh hkN hkeep ⟨g14,hor⟩;have g2:=kp hkeep h2;rcases hor with ⟨s',g13,e1,o1,o2,⟨z,rest,hz,rfl⟩,o3⟩ | ⟨hk0,s',v,g13,v1,v2,v3,v4,⟨z,rest,hz,rfl⟩,v5⟩
   ·by_cases hk64:k < 64
    ·have hkI:(k:Int) < 64:=by omega
     have w1:Wr ((k:Int)+1)=((k+1:Nat):Int):=wy;obtain ⟨f,hf⟩:∃ f,64 - k=f+1:=⟨64 - k - 1,by omega⟩;have hf2:64 - (k+1)=f:=by omega
     rw [hf,Kc f] at e1;have hG:=fun L h=>Vs L h s' o1 32 32 rfl (by decide) (by omega);have gin:=OC o1 32;have gln:=wZ s' 32;have hFd:=fun L h=>zcu L h true false (fu s' 32) gin gln;have gok:=rJ o1 32;have gc:=BM s' 32;have p5:=zak {t with s:=s'};have s5:=SS {t with s:=s'} (bD s' 32);simp only at p5 s5;have l0:=bf {t with s:=s'};have l1:=IK (bD s' 32);have hroom:acc.length+1 < am:=by unfold am;omega
     have hap:=fun bs v=>yx (V h) h bs 1 true (NO acc) [[.vsl false (eW (dg v))]] (by simp [V,zgr,hroom,show ∀ x:J,cS 1 [[x]]=true from fun x=>rfl]);simp only [V] at hap;unfold fdD at hFd;generalize hB:fu s' 32=B at*;generalize hS2:bD s' 32=s2 at*;by_cases hlt:bx (kq B) < pN
     ·rw [if_pos hlt] at e1;simp only [if_pos hlt] at hFd;have hap:=fun bs=>hap bs (bx (kq B));have hsn:=zgq acc (bx (kq B));rw [<- hsn] at hap;have hfill:∀ x:List (List J),ak (rep [J.nsl] 1) [(0,1,.vsl false x)]=some [.vsl false x]:=fun x=>rfl;unfold chO at o3;generalize bx (kq B)=v at*;generalize hD:eC {t with s:=s2}=D1 at*;generalize eC {t with s:=s'}=D0 at*;generalize t6 s2=S1 at*;generalize t6 s'=S0 at*;generalize hk1:((k+1:Nat):Int)=k1 at*;simp -implicitDefEqProofs [aN,V,g2,g13,g14,hkI,w1,o3,Z,aq,ab,J.cells,J.okV,p5,s5,l0,l1,hG,hFd,hfill,chunks,hap,ak];exact ⟨hk64,by omega,.inr ⟨by omega,s2,v,by simp,hlt,by rw [e1],by rw [e1],by rw [e1],⟨z,rest++[S1],hz,by rw [hD]⟩,by unfold chO;simp⟩⟩
     ·rw [if_neg hlt] at e1;simp only [if_neg hlt] at hFd;generalize hD:eC {t with s:=s2}=D1 at*;generalize eC {t with s:=s'}=D0 at*;generalize t6 s2=S1 at*;generalize t6 s'=S0 at*;generalize hk1:((k+1:Nat):Int)=k1 at*;simp -implicitDefEqProofs [aN,V,g2,g13,g14,hkI,w1,Z,aq,ab,J.cells,J.okV,p5,s5,l0,l1,hG,hFd,ak,rep,chunks,bne];exact ⟨hk64,by omega,.inl ⟨s2,by simp [g13],by rw [e1,hf2],gok,by omega,⟨z,rest++[S1],hz,by rw [hD]⟩,by unfold chO at o3 |-;simp [o3]⟩⟩
    ·have:k=64:=by omega
     subst this;rw [Nat.sub_self,Kb] at e1;simp -implicitDefEqProofs [aN,g14];refine .inl ⟨by simpa using g13,by rw [e1];simp,?_,by simpa using o3⟩;rw [e1];exact ⟨z,rest,hz,rfl⟩
   ·have hkk:∀ q:Bool,(if q=true then (J.bool false) else .bool false)=.bool false:=fun q=>by cases q <;> rfl
    by_cases hk64:k < 64
    ·have hkI:(k:Int) < 64:=by omega
     simp -implicitDefEqProofs [aN,g13,g14,hkI];exact .inr ⟨v,by simpa using g13,v1,v2,v3,by rw [v4];exact ⟨z,rest,hz,rfl⟩,by simpa using v5⟩
    ·have hkI:¬(k:Int) < 64:=by omega
     simp -implicitDefEqProofs [aN,g13,g14,hkI];exact .inr ⟨v,by simpa using g13,v1,v2,v3,by rw [v4];exact ⟨z,rest,hz,rfl⟩,by simpa using v5⟩)
 exact ⟨fr',h',rfl,p1,hk⟩
def chN (h:O)(t:Tc)(s:Sp)(n k:Nat)(fr:Fr)(hh:O):Prop:=∃ s' acc tt,d6 n s [] 0=d6 (n - k) s' (acc.map fe) tt/\(∀ v∈acc,v < pN)/\acc.length=k/\s'.ok/\s'.c<=s.c+2048*k/\chH h t s' acc hh/\chO h acc (fr 11)
def chF (h:O)(t:Tc)(s:Sp)(n:Nat)(e:cL)(fr:Fr)(hh:O):Prop:=
 (e=.exit 0/\(d6 n s [] 0).1.2.2=0/\∃ acc,(d6 n s [] 0).1.1=acc.map fe/\(∀ v∈acc,v < pN)/\chH h t (d6 n s [] 0).2 acc hh/\chO h acc (fr 11))\/
 (e=.ret/\¬(d6 n s [] 0).1.2.2=0/\(∃ rest ts,hh=hx h (eC {t with g:=aK t.g 11,s:=(d6 n s [] 0).2} :: eC {t with g:=aK t.g 11,s:=(d6 n s [] 0).2} :: rest) ts)/\fr 5=.nsl/\fr 6=Ii (aK t.g 11).e/\(d6 n s [] 0).1.2.2=11)
theorem zcX {fr:Fr}{h H:O}{R:Option (cL × Fr × O)}(t:Tc)(s:Sp)(hs:s.ok)(N:Int)(n:Nat)(hN:n=N.toNat)(hn:n < 10000)(hc:s.c < 20000000)
  (hF:run ah (V h) (.loop cD) fr H=R) (z:List J) (hz:z.length=15) (rest0:List (List J)) (hH:H=hx h (eC {t with s:=s} :: z :: rest0) [])
  (h1:fr 1=Ii N) (h2:fr 2=pA h.blks.length 0 0) (h4:fr 4=pA h.blks.length 1 0) (h11:fr 11=.vsl true []) (h12:fr 12=Ii 0):
  ∃ e fr' H',R=some (e,fr',H')/\chF h t s n e fr' H'/\∀ t,t∉wr cD->fr' t=fr t:=by
 obtain ⟨e,fr',h',rfl,p1,hk⟩:=af hF n
  (fun k fr hh=>fr 12=Ii (k:Int)/\chN h t s n k fr hh)
  (fun e fr hh=>chF h t s n e fr hh)
  ⟨h12, s, [], 0, rfl, by simp, rfl, hs, by omega, ⟨z, rest0, hz, by rw [hH]; rfl⟩, by unfold chO gL; simpa [NO] using h11⟩ (by
   rintro k fr1 hh hkN hkeep ⟨g12,s',acc,tt,e1,va,la,o1,o2,hHH,hO⟩;have g1:=kp hkeep h1;have g2:=kp hkeep h2;have g4:=kp hkeep h4;by_cases hkn:k < n
   ·have hltI:(k:Int) < N:=by omega
    have w1:Wr ((k:Int)+1)=((k+1:Nat):Int):=wy;obtain ⟨f,hf⟩:∃ f,n - k=f+1:=⟨n - k - 1,by omega⟩;have hf2:n - (k+1)=f:=by omega
    rw [hf,d6,qx] at e1;have hlo:=fun fr H R=>zcR (fr:=fr) (h:=h) (H:=H) (R:=R) t s' o1 (by omega) acc (by omega);have he:=zeV s';have hok:=KL o1;rw [qx] at he hok;simp -implicitDefEqProofs [cD,g1,g12,hltI];generalize hF:run ah _ (.loop _) _ _=R;obtain ⟨fr2,H2,rfl,hE,hk2⟩:=hlo _ _ _ hF hHH (by simp [g2]) (by simpa using hO) (by simp) (by simp);unfold chE at hE;generalize o7 64 s' 0=F at*;rcases hE with ⟨f13,ne,⟨z2,rest,hz2,rfl⟩,f11⟩ | ⟨v,f13,v1,v2,v3,⟨z2,rest,hz2,rfl⟩,f11⟩
    ·rw [if_neg ne] at e1;have h11':F.1.2.2=11:=by omega
     have hFl:=fun L h=>NK L h {t with s:=F.2} 11;have l0:=bf {t with s:=F.2};have l1:=bf {t with g:=aK t.g 11,s:=F.2};simp only at hFl;have hres:chF h t s n .ret=fun fr hh=>chF h t s n .ret fr hh:=rfl;have e2:(d6 n s [] 0).2=F.2:=by rw [e1]
     have e3:(d6 n s [] 0).1.2.2=F.1.2.2:=by rw [e1]
     generalize hD1:eC {t with g:=aK t.g 11,s:=F.2}=D1 at*;generalize eC {t with s:=F.2}=D0 at*;generalize hfe:(aK t.g 11).e=fe2 at*;simp -implicitDefEqProofs [hk2,wr,aN,bn,g2,g4,f13,V,Z,aq,ab,hFl,l0,l1,hz2];exact .inr ⟨rfl,by rw [e3];exact ne,⟨rest,_,by rw [e2,hD1]⟩,by simp,by simp [hfe],by rw [e3];exact h11'⟩
    ·rw [if_pos v3] at e1;generalize hk1:((k+1:Nat):Int)=k1 at*;simp -implicitDefEqProofs [hk2,wr,aN,bn,g1,g12,f13,V,w1];refine ⟨hkn,by omega,F.2,acc++[v],IntKind.i64.wrap (tt+F.1.2.1),?_,?_,by simp [la],hok.1,by omega,⟨z2,rest,hz2,rfl⟩,by simpa using f11⟩
     ·rw [e1,hf2,v2];simp
     ·intro u hu;rcases List.mem_append.1 hu with q | q
      ·exact va u q
      ·rw [List.mem_singleton.1 q];exact v1
   ·have:k=n:=by omega
    subst this;have hltI:¬(k:Int) < N:=by omega
    rw [Nat.sub_self,d6] at e1;simp -implicitDefEqProofs [cD,g1,g12,hltI];refine .inl ⟨rfl,by rw [e1],acc,by rw [e1],va,by rw [e1];exact hHH,by simpa using hO⟩)
 exact ⟨e,fr',h',rfl,p1,hk⟩
theorem GY (L:az)(h:O)(t:Tc)(N:Int)(hk:t.g.k < 1000000000)(hs:t.s.ok)(hc:t.s.c < 10000000)(hn:(al t.g 2 3 N).e=0->N.toNat < 10000):
  ∃ vs:List Nat,(∀ v∈vs,v < pN)/\(ga t N).1.1=vs.map fe/\
  aa ah L eM [.agg (eC t),Ii N] h=some (.tup [.agg (eC (ga t N).2),.vsl false (NO vs),Ii (ga t N).1.2],h):=by
 rw [vT];have hf:=vC h t;have hN:∀ L h,aa ah L bO [.agg (eC t),.agg [Ii 2,Ii 3,Ii N,.nsl]] h=_:=fun L h=>IM L h t 2 3 N [] .nsl (fun h=>Fl h) rfl hk;have l0:=bf t;have l1:=bf {t with g:=al t.g 2 3 N};by_cases he:(al t.g 2 3 N).e=0
 ·have hT:∀ L h,aa ah L bP [.agg (eC {t with g:=al t.g 2 3 N}),.agg [Ii 2,Ii 3,Ii N,.nsl]] h=_:=fun L h=>IQ L h {t with g:=al t.g 2 3 N} 2 3 N [] .nsl (fun h=>Fl h) rfl hs (by simp only;omega) mT (by simp);have htk:=jh hs (sJ 2 3 N mT);have htc:=wc hs 2 3 N [];have l2:=bf {t with g:=al t.g 2 3 N,s:=aA t.s (im 2 3 N [])};have p0:=zaj {t with g:=al t.g 2 3 N,s:=aA t.s (im 2 3 N [])};simp only at hT;rw [he] at hN;have hlo:=fun fr H R z hz rest hH=>zcX (fr:=fr) (h:=h) (H:=H) (R:=R) {t with g:=al t.g 2 3 N,s:=aA t.s (im 2 3 N [])} (aA t.s (im 2 3 N [])) htk N N.toNat rfl (hn he) (by simp at htc;omega) (z:=z) (hz:=hz) (rest0:=rest) (hH:=hH);have hch:ga t N=if (d6 N.toNat (aA t.s (im 2 3 N [])) [] 0).1.2.2=0 then (((d6 N.toNat (aA t.s (im 2 3 N [])) [] 0).1.1,0),{t with g:=al t.g 2 3 N,s:=(d6 N.toNat (aA t.s (im 2 3 N [])) [] 0).2})
   else (([],(aK (al t.g 2 3 N) (d6 N.toNat (aA t.s (im 2 3 N [])) [] 0).1.2.2).e),{t with g:=aK (al t.g 2 3 N) (d6 N.toNat (aA t.s (im 2 3 N [])) [] 0).1.2.2,s:=(d6 N.toNat (aA t.s (im 2 3 N [])) [] 0).2}):=by
   unfold ga aU;rw [if_pos he]
  rw [hch];clear hch;generalize aA t.s (im 2 3 N [])=s0 at*;unfold chF chH chO at hlo;simp only at hlo;generalize d6 N.toNat s0 [] 0=F at*;generalize hD2:eC {t with g:=al t.g 2 3 N,s:=s0}=D2 at*;generalize hD1:eC {t with g:=al t.g 2 3 N}=D1 at*;generalize hD0:eC t=D0 at*;have hz15:z15=[Ii 0,.nsl,Ii 0,Ii 0,.nsl,.nsl,Ii 0,Ii 0,Ii 0,.nsl,.nsl,.nsl,Ii 0,Ii 0,Ii 0]:=rfl;have hlo:=fun fr H R hH=>hlo fr H R z15 rfl [[Ii 2,Ii 3,Ii N,.nsl]] hH;rw [hz15] at hlo;have hfr:=fun hh nb nt m=>kI hh nb nt m;by_cases hF0:F.1.2.2=0
  ·rw [if_pos hF0];simp -implicitDefEqProofs [eA,V,hf,aE,ak,rep,chunks,setAt,J.cells,J.okV,Z,aq,ab,hN,hT,p0,l0,l1,l2,bne];generalize hFr:run ah _ (.loop _) _ _=R;obtain ⟨e,fr1,H1,rfl,hE,hk1⟩:=hlo _ _ _ rfl hFr (by simp) (by simp) (by simp) (by simp) (by simp);rcases hE with ⟨rfl,z0,acc,e1,va,⟨z,rest,hz,rfl⟩,f11⟩ | ⟨rfl,ne,_⟩
   ·refine ⟨acc,va,e1,?_⟩;have hg:=fun hh n'=>pe (h1:=hh) (nb:=h.blks.length) (nt:=h.toks.length) (n:=n') (s:=.vsl true []) (es:=NO acc) (.inr rfl) (Q7 _ _ _);have l3:=bf {t with g:=al t.g 2 3 N,s:=F.2};have hfr:=fun hh nb nt m=>hfr hh nb nt m {t with g:=al t.g 2 3 N,s:=F.2};generalize eC {t with g:=al t.g 2 3 N,s:=F.2}=D3 at*;simp -implicitDefEqProofs [hk1,wr,cD,aN,bn,Z,aq,ab,l3,hz,f11,hg,hfr]
   ·exact absurd hF0 ne
  ·rw [if_neg hF0];refine ⟨[],by simp,rfl,?_⟩;simp -implicitDefEqProofs [eA,V,hf,aE,ak,rep,chunks,setAt,J.cells,J.okV,Z,aq,ab,hN,hT,p0,l0,l1,l2,bne];generalize hFr:run ah _ (.loop _) _ _=R;obtain ⟨e,fr1,H1,rfl,hE,hk1⟩:=hlo _ _ _ rfl hFr (by simp) (by simp) (by simp) (by simp) (by simp);rcases hE with ⟨rfl,z0,_⟩ | ⟨rfl,ne,⟨rest,ts,rfl⟩,f5,f6,h11⟩
   ·exact absurd z0 hF0
   ·rw [h11];have hd:NO []=[]:=rfl;rw [hd];have hfr:=fun hh nb nt m=>hfr hh nb nt m {t with g:=aK (al t.g 2 3 N) 11,s:=F.2};have l3:=bf {t with g:=aK (al t.g 2 3 N) 11,s:=F.2};generalize (aK (al t.g 2 3 N) 11).e=fe2 at*;generalize eC {t with g:=aK (al t.g 2 3 N) 11,s:=F.2}=D3 at*;have f4:=hk1 4 (by decide);simp at f4;simp -implicitDefEqProofs [f4,f5,f6,Z,l3,hfr]
 ·refine ⟨[],by simp,?_,?_⟩
  ·unfold ga;rw [if_neg he];rfl
  ·have hsq:ga t N=(([],(al t.g 2 3 N).e),{t with g:=al t.g 2 3 N}):=by unfold ga;rw [if_neg he]
   rw [hsq];have be:((al t.g 2 3 N).e==0)=false:=beq_false_of_ne he;have hfr:=fun hh nb nt m=>kI hh nb nt m {t with g:=al t.g 2 3 N};have hd:NO []=[]:=rfl;rw [hd];generalize (al t.g 2 3 N).e=e1 at*;generalize eC {t with g:=al t.g 2 3 N}=D1 at*;generalize eC t=D0 at*;simp -implicitDefEqProofs [eA,V,hf,aE,ak,setAt,J.cells,J.okV,Z,aq,ab,hN,l0,l1,hfr,bne,be]
theorem Wy:∀ (f:Nat) (b:List Int) (k:Nat) (acc:List It),(DN f b k acc).2=(-1,0)\/((DN f b k acc).1=[]/\¬(DN f b k acc).2.2=0)
 | 0,b,k,acc=>.inl rfl
 | f + 1, b, k, acc => by
  unfold DN;split
  ·exact .inl rfl
  ·split
   ·exact .inr ⟨rfl,by simp⟩
   ·split
    ·exact Wy f _ _ _
    ·rename_i h;exact .inr ⟨rfl,h⟩
theorem Wz (p:List Int):(bp p).2=(-1,0)\/((bp p).1=[]/\¬(bp p).2.2=0):=Wy _ _ _ _
theorem zhT (L:az)(h:O)(c:Bool)(p:List Int)(hp:ce p)(hl:p.length < 1000000000):
  aa ah L nu [.vsl c (eI .u8 p)] h=some (.tup [.agg (yZ ⟨(bp p).1,0,0⟩),Ii (bp p).2.1,Ii (bp p).2.2],h):=by
 rw [DC];have hf:=fR h c (eI .u8 p);have hP:=fun L h=>zdp L h false p hp hl;have hfr:=fun hh nb nt m=>Mu hh nb nt m ⟨(bp p).1,0,0⟩;rcases Wz p with h1 | ⟨h1,h2⟩
 ·have h3:(bp p).2.1= -1:=by rw [h1]
  have h4:(bp p).2.2=0:=by rw [h1]
  rw [h3,h4] at hP |-;have hfr:∀ hh nb nt m,frz hh nb nt (m+2) (.agg [.vsl false ((bp p).1.map It.cells),Ii 0,Ii 0])=some (.agg [.vsl false ((bp p).1.map It.cells),Ii 0,Ii 0]):=hfr;have hg:yZ ⟨(bp p).1,0,0⟩=[.vsl false ((bp p).1.map It.cells),Ii 0,Ii 0]:=rfl;rw [hg];generalize (bp p).1.map It.cells=es at*;simp -implicitDefEqProofs [mV,V,hf,hP,bne,ak,setAt,J.cells,J.okV,Z,aq,ab,hfr]
 ·have be:((bp p).2.2==0)=false:=beq_false_of_ne h2;rw [h1] at hP |-;have hg:yZ ⟨[],0,0⟩=[.vsl false [],Ii 0,Ii 0]:=rfl;rw [hg];have hfn : ∀ hh nb nt m, frz hh nb nt (m + 2) (.agg [.nsl, Ii 0, Ii 0]) = some (.agg [.vsl false [], Ii 0, Ii 0]) := fun hh nb nt m => by
   have e:frz hh nb nt (m+2) (.agg [.nsl,Ii 0,Ii 0])=([J.nsl,Ii 0,Ii 0].mapM (frz hh nb nt (m+1))).map .agg:=by
    rw [frz.eq_def];rfl
   have f1:frz hh nb nt (m+1) (Ii 0)=some (Ii 0):=by rw [frz.eq_def]
   have f2:frz hh nb nt (m+1) .nsl=some (.vsl false []):=by simp [frz]
   rw [e];simp only [List.mapM_cons,List.mapM_nil,f1,f2];rfl
  simp only [List.map_nil] at hP;generalize (bp p).2.2=er at*;generalize (bp p).2.1=at_ at*;simp -implicitDefEqProofs [mV,V,hf,hP,bne,be,ak,setAt,J.cells,J.okV,Z,aq,ab,hfn]
def zdO:List J:=[Ii 0,.vsl false [],Ii 0,Ii 0,.vsl false [],.vsl false [],Ii 0,Ii 0,Ii 0,.vsl false [],.vsl false [],.vsl false [],Ii 0,Ii 0,Ii 0]
theorem zk6 (hh:O)(nb nt m:Nat):frz hh nb nt (m+2) (.agg [Ii 0,.nsl,Ii 0,Ii 0,.nsl,.nsl,Ii 0,Ii 0,Ii 0,.nsl,.nsl,.nsl,Ii 0,Ii 0,Ii 0])=some (.agg zdO):=by
 have e:frz hh nb nt (m+2) (.agg [Ii 0,.nsl,Ii 0,Ii 0,.nsl,.nsl,Ii 0,Ii 0,Ii 0,.nsl,.nsl,.nsl,Ii 0,Ii 0,Ii 0])=([J.int .i64 0,.nsl,Ii 0,Ii 0,.nsl,.nsl,Ii 0,Ii 0,Ii 0,.nsl,.nsl,.nsl,Ii 0,Ii 0,Ii 0].mapM (frz hh nb nt (m+1))).map .agg:=by
  rw [frz.eq_def];rfl
 have f1:frz hh nb nt (m+1) (Ii 0)=some (Ii 0):=by rw [frz.eq_def]
 rw [e];simp only [List.mapM_cons,List.mapM_nil,f1,zai];rfl
def trR (t:Tc):List J:=[Ii 1,.vsl false (t.g.l.map It.cells),Ii t.g.k,Ii t.g.e,.vsl false (eI .u8 t.tg),.vsl false (eI .u8 t.s.S),Ii t.s.a,Ii t.s.b,Ii t.s.c,.nsl,.nsl,.nsl,Ii 0,Ii 0,Ii 0]
theorem zk8 (hh:O)(nb nt m:Nat)(t:Tc):frz hh nb nt (m+2) (.agg (trR t))=some (.agg (eC t)):=by
 have hfl:aZ (trR t)=false:=by simp [trR,aZ,J.flat]
 have hg:frz hh nb nt (m+2) (.agg (trR t))=((trR t).mapM (frz hh nb nt (m+1))).map .agg:=by
  rw [frz.eq_def];simp only [hfl];rfl
 have fi:∀ a:Int,frz hh nb nt (m+1) (Ii a)=some (Ii a):=fun a=>by rw [frz.eq_def]
 have fv:=ix (h:=hh) (nb:=nb) (nt:=nt) (n:=m) false (nQ nb nt t.g.l);rw [hg];simp only [trR,eC,List.mapM_cons,List.mapM_nil,fv,fi,Sk,zai];rfl
theorem zh2 (L:az)(h:O)(bk:Int)(hbk:bk≠2)(c:Bool)(p:List Int)(hp:ce p)(hl:p.length < 1000000):
  aa ah L ng [.agg [.nsl,.nsl],Ii bk,.vsl c (eI .u8 p)] h=
   some (if bk=1 then (if (bp p).2.2=0 then .tup [.agg (eC (xw p)),Ii (-1),Ii 0] else .tup [.agg zdO,Ii (bp p).2.1,Ii (bp p).2.2]) else .tup [.agg zdO,Ii (-1),Ii 15],h):=by
 rw [EW];have hf:oL h (.agg [.nsl,.nsl])=some (.agg [.vsl false [],.vsl false []],false):=by simp [oL,aZ,J.flat]
 have hf2:=fR h c (eI .u8 p);have hbo:lx (.agg [.vsl false [],.vsl false []])=some (.vptr [.vsl false [],.vsl false []] 0):=rfl;have hz:=zk6;have b2:(bk==2)=false:=beq_false_of_ne hbk;by_cases h1:bk=1
 ·subst h1;rw [if_pos rfl];have hG:=fun L h=>zhT L h false p hp (by omega);by_cases hpe:(bp p).2.2=0
  ·rw [if_pos hpe];rcases Wz p with q | ⟨_,q⟩
   ·have h3:(bp p).2.1= -1:=by rw [q]
    rw [h3,hpe] at hG;have hT:=fun L h=>zlT L h 1 (bp p).1 (by have:=Ov p;omega);rw [<- Mw] at hT;have htl:=Jo p;have hO:=fun L h=>zcC L h false (Du p) htl;have hfr:=fun hh nb nt m=>zk8 hh nb nt m (xw p);have hng:Sh p=⟨(bp p).1,0,0⟩:=rfl;have hg:yZ ⟨(bp p).1,0,0⟩=[.vsl false ((bp p).1.map It.cells),Ii 0,Ii 0]:=rfl;have hR:trR (xw p)=[Ii 1,.vsl false ((bp p).1.map It.cells),Ii 0,Ii 0,.vsl false (eI .u8 (Du p)),.vsl false (eI .u8 (rK (Du p)).S),Ii 0,Ii 136,Ii 0,.nsl,.nsl,.nsl,Ii 0,Ii 0,Ii 0]:=rfl;have hS:t6 (rK (Du p))=[.vsl false (eI .u8 (rK (Du p)).S),Ii 0,Ii 136,Ii 0]:=rfl;rw [hR] at hfr;rw [hg] at hG;rw [hS] at hO;generalize eC (xw p)=D1 at*;generalize eI .u8 (rK (Du p)).S=S0 at*;generalize eI .u8 (Du p)=tg at*;generalize (bp p).1.map It.cells=es at*;generalize (uo 1 (bp p).1).2.1=q1 at*;generalize (uo 1 (bp p).1).2.2=q2 at*;simp -implicitDefEqProofs [jX,V,hf,hf2,hbo,hG,hT,hO,bne,ak,setAt,J.cells,J.okV,Z,aq,ab,hfr]
    try done
   ·exact absurd hpe q
  ·rw [if_neg hpe];have be:((bp p).2.2==0)=false:=beq_false_of_ne hpe;have hl3:=Bx ⟨(bp p).1,0,0⟩;generalize yZ ⟨(bp p).1,0,0⟩=G at*;generalize (bp p).2.2=er at*;generalize (bp p).2.1=at_ at*;simp -implicitDefEqProofs [jX,V,hf,hf2,hbo,hG,bne,be,ak,setAt,J.cells,J.okV,Z,aq,ab,hz,hl3]
 ·rw [if_neg h1];have b1:(bk==1)=false:=beq_false_of_ne h1;simp -implicitDefEqProofs [jX,V,hf,hf2,hbo,bne,b1,b2,ak,setAt,J.cells,J.okV,Z,aq,ab,hz]
theorem zoG {x y:Nat}(h:fe x=fe y):Tj x=Tj y:=by
 unfold Tj;rw [zfv h]
theorem za7:∀ xs ys:List Nat,xs.map fe=ys.map fe->lW xs=lW ys
 | [],[],_=>rfl
 | [],y :: ys,h=>by simp at h
 | x :: xs,[],h=>by simp at h
 | x :: xs, y :: ys, h => by
  simp only [List.map_cons,List.cons.injEq] at h;have:=za7 xs ys h.2;simp only [lW,List.flatMap_cons] at this |-;rw [this,zoG h.1]
theorem zk0 {v:Nat}(h:v < pN):aS (w4 v)=Tj v:=by unfold Tj;rw [Nat.mod_eq_of_lt h]
theorem zlf (kd:IntKind)(c:Bool)(l:List Nat)(i:Nat)(h:i < l.length):bA none 1 (.vsl c (NO l)) (.int kd (i:Int))=some (.vptr [.vsl false (eW (dg (gd l 0 i)))] 0):=by
 simp [bA,JP,NO,gd,List.getD,h]
theorem zh8:∀ vs ws:List Nat,(∀ v∈vs,v < pN)->(∀ v∈ws,v < pN)->vs.map fe=ws.map fe->vs=ws
 | [],[],_,_,_=>rfl
 | [],y :: ys,_,_,h=>by simp at h
 | x :: xs,[],_,_,h=>by simp at h
 | x :: xs, y :: ys, h1, h2, h => by
  simp only [List.map_cons,List.cons.injEq] at h;have e:=zfv h.1;rw [Nat.mod_eq_of_lt (h1 x (by simp)),Nat.mod_eq_of_lt (h2 y (by simp))] at e;rw [e,zh8 xs ys (fun v q=>h1 v (by simp [q])) (fun v q=>h2 v (by simp [q])) h.2]
theorem ON (t:Tc)(N:Int)(hk:t.g.k < 1000000000)(hs:t.s.ok)(hc:t.s.c < 10000000)(hn:(al t.g 2 3 N).e=0->N.toNat < 10000):
  ∃ vs:List Nat,(∀ v∈vs,v < pN)/\(ga t N).1.1=vs.map fe/\
  ∀ (L:az) (h:O),aa ah L eM [.agg (eC t),Ii N] h=some (.tup [.agg (eC (ga t N).2),.vsl false (NO vs),Ii (ga t N).1.2],h):=by
 obtain ⟨vs,v1,v2,_⟩:=GY ⟨0,0,0,0⟩ ⟨[],[]⟩ t N hk hs hc hn;refine ⟨vs,v1,v2,fun L h=>?_⟩;obtain ⟨ws,w1,w2,hA⟩:=GY L h t N hk hs hc hn;rw [zh8 vs ws v1 w1 (v2.symm.trans w2)];exact hA
theorem zid {fr:Fr}{h:O}{R:Option (cL × Fr × O)}(bs:List (List J))(vs:List Nat)(hv:∀ v∈vs,v < pN)(hl:vs.length < 100000)
  (hF:run ah (V h) (.loop gF) fr (hx h bs [])=R)
  (h7:fr 7=.vsl true []) (h9:fr 9=.vsl false (NO vs)) (h11:fr 11=Ii 0):
  ∃ fr',R=some (.exit 1,fr',hx h bs (gT (eI .u8 (lW vs))))/\fr' 7=gL (.vsl true []) h.toks.length 0 (eI .u8 (lW vs))/\∀ t,t∉wr gF->fr' t=fr t:=by
 obtain ⟨e,fr',h',rfl,⟨rfl,rfl,p7⟩,hk⟩:=af hF vs.length
  (fun k fr hh=>fr 11=Ii (k:Int)/\fr 7=gL (.vsl true []) h.toks.length 0 (eI .u8 (lW (vs.take k)))/\hh=hx h bs (gT (eI .u8 (lW (vs.take k)))))
  (fun e fr hh=>e=.exit 1/\hh=hx h bs (gT (eI .u8 (lW vs)))/\fr 7=gL (.vsl true []) h.toks.length 0 (eI .u8 (lW vs)))
  ⟨h11, by simpa [lW, gL] using h7, by simp [lW, gT]⟩ (by
   rintro k fr1 hh hkN hkeep ⟨g11,g7,rfl⟩;have g9:=kp hkeep h9;by_cases hlt:k < vs.length
   ·have hltI:(k:Int) < vs.length:=by omega
    have w1:Wr ((k:Int)+1)=((k+1:Nat):Int):=wy;have ia:=zlf .i64 false vs k hlt;have hsu:=Rz vs k hlt;have hfl:=Ox (vs.take k);rw [List.length_take,Nat.min_eq_left (Nat.le_of_lt hlt)] at hfl;have hvk:gd vs 0 k < pN:=hv _ (by
     have:gd vs 0 k=vs[k]:=by simp [gd,List.getD,hlt]
     rw [this];exact List.getElem_mem hlt)
    have hBy:=fun L h=>Xf L h (.vsl false (eW (dg (gd vs 0 k)))) (gd vs 0 k) (LV.vsl _ _) (Nat.lt_trans hvk zeF);have hbl:=Tk (gd vs 0 k);rw [zk0 hvk] at hBy;have hroom:(lW (vs.take k)).length+32 < am:=by rw [hfl];unfold am;omega
    have hap:=yx (V h) h bs 1 false (eI .u8 (lW (vs.take k))) (eI .u8 (Tj (gd vs 0 k))) (by simp [V,hroom]);rw [KT,<- hsu] at hap;simp only [V] at hap;generalize Tj (gd vs 0 k)=fb at*;generalize dg (gd vs 0 k)=D at*;generalize hq:lW (vs.take (k+1))=q1 at*;generalize lW (vs.take k)=q0 at*;generalize hk1:((k+1:Nat):Int)=k1 at*;have hdl:(NO vs).length=vs.length:=by simp
    simp -implicitDefEqProofs [gF,V,g7,g9,g11,hltI,hlt,hdl,ia,hBy,hap,w1];exact ⟨by omega,by rw [hq],by rw [hq]⟩
   ·have:k=vs.length:=by omega
    subst this;rw [List.take_length] at g7 |-;simp -implicitDefEqProofs [gF,g9,g11,g7])
 exact ⟨fr',rfl,p7,hk⟩
theorem zoK (L:az)(h:O)(t:Tc)(ht:t.ok)(hc:t.s.c < 10000000)(x:aF)(hb:ce x.b)(hfew:x.few):
  aa ah L eJ [.agg (eC t),.agg x.cells] h=some (.tup [.agg (eC (stepT t x).2),.agg (lu (stepT t x).1)],h):=by
 rw [Gt];have hk:t.g.k < 1000000000:=by have:=ht.k;have:=ht.l;omega
 have hf:=vC h t;have l0:=bf t;obtain ⟨d,ty,N,b⟩:=x;obtain ⟨hfb,hfn⟩:=hfew;simp only at hfb hfn hb;have hf2:oL h (.agg (⟨d,ty,N,b⟩:aF).cells)=some (.agg [Ii d,Ii ty,Ii N,.vsl false (eI .u8 b)],false):=H8 h d ty N b _ (by simp) rfl;have hbo:lx (.agg [Ii d,Ii ty,Ii N,.vsl false (eI .u8 b)])=some (.vptr [Ii d,Ii ty,Ii N,.vsl false (eI .u8 b)] 0):=rfl;have hfr:=fun hh nb nt m t=>kI hh nb nt m t;have hfa:=fun hh nb nt n (e:Int) (b:List Int) (v:J) hv hn hf=>Bh hh nb nt n e b v hv hn hf;unfold stepT;simp only;by_cases h0:d=0
 ·subst h0;rw [if_neg (by omega)];have hd:Mr t 0 ty N b=(((oh t ty b).2,[]),(oh t ty b).1):=by unfold Mr;rw [if_pos rfl]
  rw [hd];have hA:=fun L h=>Ys L h t ty false b hb (by omega) hk ht.s hc;have l1:=bf (oh t ty b).1;have hfr:=fun hh nb nt m=>hfr hh nb nt m (oh t ty b).1;have hfv:∀ hh nb nt m e,frz hh nb nt (m+2) (.agg [Ii e,.vsl true []])=some (.agg (lu (e,[]))):=fun hh nb nt m e=>Bh hh nb nt (m+1) e [] (.vsl true []) (by simp [ix,show aJ nb nt ([]:List (List J))=true from rfl]) (by omega) rfl;generalize eC (oh t ty b).1=D1 at*;generalize (oh t ty b).2=e1 at*;generalize eC t=D0 at*;generalize eI .u8 b=eb at*;simp -implicitDefEqProofs [fG,V,hf,hf2,hbo,aE,ak,rep,chunks,setAt,J.cells,J.okV,Z,aq,ab,hA,l0,l1,hfr,hfv]
 ·have b0:(d==0)=false:=beq_false_of_ne h0;by_cases h1:d=1
  ·subst h1;rw [if_neg (by omega)];have hd:Mr t 1 ty N b=(((kV t N).1.2,(kV t N).1.1),(kV t N).2):=by unfold Mr;rw [if_neg (by decide),if_pos rfl]
   rw [hd];have hA:=fun L h=>Vp L h t N hk ht.s hc (fun he=>by have:=ht.count he;have:=hfn this;omega);have l1:=bf (kV t N).2;have hfr:=fun hh nb nt m=>hfr hh nb nt m (kV t N).2;have hfv:∀ hh nb nt m e,frz hh nb nt (m+2) (.agg [Ii e,.vsl false (eI .u8 (kV t N).1.1)])=some (.agg (lu (e,(kV t N).1.1))):=fun hh nb nt m e=>Bh hh nb nt (m+1) e _ _ (by simp) (by omega) rfl;generalize eC (kV t N).2=D1 at*;generalize (kV t N).1.2=e1 at*;generalize (kV t N).1.1=q1 at*;generalize eC t=D0 at*;generalize eI .u8 b=eb at*;simp -implicitDefEqProofs [fG,V,hf,hf2,hbo,aE,ak,rep,chunks,setAt,J.cells,J.okV,Z,aq,ab,hA,l0,l1,hfr,hfv]
  ·have b1:(d==1)=false:=beq_false_of_ne h1;by_cases h2:d=2
   ·subst h2;rw [if_neg (by omega)];have hd:Mr t 2 ty N b=(((ga t N).1.2,(T7 t N).flatMap Tj),(ga t N).2):=by unfold Mr;rw [if_neg (by decide),if_neg (by decide),if_pos rfl]
    rw [hd];obtain ⟨vs,v1,v2,hA⟩:=ON t N hk ht.s hc (fun he=>by have:=ht.count he;have:=hfn this;omega);have hle:=zaG t N 1000 (fun he=>by have:=ht.count he;have:=hfn this;omega);have hx:(T7 t N).flatMap Tj=lW vs:=(za7 _ _ ((Kf t N).symm.trans v2));have hvl:vs.length < 100000:=by
     have e:(T7 t N).map fe=vs.map fe:=(Kf t N).symm.trans v2;have:=congrArg List.length e;simp only [List.length_map] at this;omega
    rw [hx];have hlo:=fun fr R bs=>zid (fr:=fr) (h:=h) (R:=R) bs vs v1 hvl;have l1:=bf (ga t N).2;have hfr:=fun hh nb nt m=>hfr hh nb nt m (ga t N).2;have hg:=fun hh n'=>pe (h1:=hh) (nb:=h.blks.length) (nt:=h.toks.length) (n:=n') (s:=.vsl true []) (es:=eI .u8 (lW vs)) (.inr rfl) (by simp);have hfl : ∀ e : Int, aZ [Ii e, gL (.vsl true []) h.toks.length 0 (eI .u8 (lW vs))] = false := fun e => by
     unfold gL;split <;> simp [aZ,J.flat,gA]
    have hcl:∀ es,(gL (.vsl true []) h.toks.length 0 es).cells=[gL (.vsl true []) h.toks.length 0 es]:=fun es=>by unfold gL;split <;> simp [J.cells,gA]
    have hov:∀ es,(gL (.vsl true []) h.toks.length 0 es).okV=true:=fun es=>by unfold gL;split <;> simp [J.okV,gA]
    have hfv:∀ hh m (e:Int),frz hh h.blks.length h.toks.length (m+2) (.agg [Ii e,gL (.vsl true []) h.toks.length 0 (eI .u8 (lW vs))])=some (.agg (lu (e,lW vs))):=fun hh m e=>Bh hh _ _ (m+1) e _ _ (hg hh m) (by omega) (hfl e);have hdl:(NO vs).length=vs.length:=by simp
    generalize lW vs=fb at*;generalize eC (ga t N).2=D1 at*;generalize (ga t N).1.2=e1 at*;generalize eC t=D0 at*;generalize eI .u8 b=eb at*;simp -implicitDefEqProofs [fG,V,hf,hf2,hbo,aE,ak,rep,chunks,setAt,J.cells,J.okV,Z,aq,ab,hA,l0,l1];generalize hF:run ah _ (.loop _) _ _=R;obtain ⟨fr1,rfl,f7,hk1⟩:=hlo _ _ _ hF (by simp) (by simp) (by simp);generalize hgl:gL (.vsl true []) h.toks.length 0 (eI .u8 fb)=gl at*;have hcl:=hcl (eI .u8 fb);have hov:=hov (eI .u8 fb);rw [hgl] at hcl hov;have hci:(J.int .i64 e1).cells=[Ii e1]:=rfl;have hoi:(J.int .i64 e1).okV=true:=rfl;simp -implicitDefEqProofs [hk1,wr,gF,bn,ak,setAt,hci,hoi,Z,aq,ab,f7,l1,hcl,hov,hfr,hfv]
   ·have b2:(d==2)=false:=beq_false_of_ne h2;by_cases h3:d=3
    ·subst h3;rw [if_neg (by omega)];have hd:Mr t 3 ty N b=(((rU t).2,[]),(rU t).1):=by unfold Mr;rw [if_neg (by decide),if_neg (by decide),if_neg (by decide)]
     rw [hd];have hA:=fun L h=>SW L h t hk ht.s hc;have l1:=bf (rU t).1;have hfr:=fun hh nb nt m=>hfr hh nb nt m (rU t).1;have hfv:∀ hh nb nt m e,frz hh nb nt (m+2) (.agg [Ii e,.vsl true []])=some (.agg (lu (e,[]))):=fun hh nb nt m e=>Bh hh nb nt (m+1) e [] (.vsl true []) (by simp [ix,show aJ nb nt ([]:List (List J))=true from rfl]) (by omega) rfl;generalize eC (rU t).1=D1 at*;generalize (rU t).2=e1 at*;generalize eC t=D0 at*;generalize eI .u8 b=eb at*;simp -implicitDefEqProofs [fG,V,hf,hf2,hbo,aE,ak,rep,chunks,setAt,J.cells,J.okV,Z,aq,ab,hA,l0,l1,hfr,hfv]
    ·have b3:(d==3)=false:=beq_false_of_ne h3;rw [if_pos (by omega)];have hA:=fun L h=>Yq L h t ht.k;have l1:=bf {t with g:=me t.g};have hfr:=fun hh nb nt m=>hfr hh nb nt m {t with g:=me t.g};have hfv:∀ hh nb nt m e,frz hh nb nt (m+2) (.agg [Ii e,.vsl true []])=some (.agg (lu (e,[]))):=fun hh nb nt m e=>Bh hh nb nt (m+1) e [] (.vsl true []) (by simp [ix,show aJ nb nt ([]:List (List J))=true from rfl]) (by omega) rfl;generalize eC {t with g:=me t.g}=D1 at*;generalize (me t.g).e=e1 at*;generalize eC t=D0 at*;generalize eI .u8 b=eb at*;simp -implicitDefEqProofs [fG,V,hf,hf2,hbo,aE,ak,rep,chunks,setAt,J.cells,J.okV,Z,aq,ab,hA,l0,l1,hfr,hfv,b0,b1,b2,b3]
theorem zlj (p nt off:Nat):Xe p nt (.ptr p off) (.ptr (p+1) off):=by
 have:=Xe.ptr (p:=p) (nt:=nt) (p+1) off
 rwa [Qp] at this
theorem zll (p nt off:Nat):Xe p nt (.ptr (p+1) off) (.ptr p off):=by
 have:=Xe.ptr (p:=p) (nt:=nt) p off
 rwa [MO] at this
theorem ZH.sameP {p nt:Nat}:∀ {l:List J},ay p nt l=true->ZH p nt l l
 | [],_=>.nil
 | c :: l, h => by
  simp only [ay,Bool.and_eq_true] at h;exact .cons _ _ _ _ (.same _ h.1) (ZH.sameP h.2)
theorem RJ (nb nt:Nat)(t:Tc):ay nb nt (eC t)=true:=by
 have:=nQ nb nt t.g.l;have h0:aJ nb nt ([]:List (List J))=true:=rfl;simp [eC,ay,J.under,this,h0]
theorem Zm (nb nt:Nat)(a:Int × List Int):ay nb nt (lu a)=true:=by simp [lu,ay,J.under]
theorem zdY (nb nt:Nat)(x:aF):ay nb nt x.cells=true:=by simp [aF.cells,ay,J.under]
theorem zij {R:Option (cL × Fr × O)}(fr:Fr)(h:O)(tb:List J)(jk:List (List J))(ts:List Nat)(t t':Tc)(a:Int × List Int)(l:List aF)(b0 b1:J)(u0:b0.under (h.blks.length+(jk.length+2)) (h.toks.length+ts.length)=true)(u1:b1.under (h.blks.length+(jk.length+2)) (h.toks.length+ts.length)=true)(k:Nat)(hk:k < l.length)
    (hcall:∀ (L:az) (H:O),aa ah L eJ [.agg (eC t),.agg (gd l fM k).cells] H=some (.tup [.agg (eC t'),.agg (lu a)],H))
    (hD:run ah (V h) (.draw2 [⟨(some 41),.r (.ld 15 true (.t 6)),none,[6],0,2⟩,
      ⟨(some 42),.v (.fadr 2 (.t 1)),none,[1],0,0⟩,
      ⟨(some 43),.r (.ld 1 false (.t 42)),none,[42],0,2⟩,
      ⟨(some 44),.v (.mv (.t 10)),none,[10],0,0⟩,
      ⟨(some 45),.v (.iadr none 4 (.t 43) (.t 44)),none,[43,44],0,0⟩,
      ⟨(some 46),.r (.ld 4 true (.t 45)),none,[45],0,2⟩,
      ⟨(some 47),.r (.call eJ [.t 41,.t 46]),none,[41,46],0,2⟩,
      ⟨(some 40),.v (.mv (.t 47)),none,[47],0,0⟩,
      ⟨(some 48),.v (.ext (.t 40) 0),none,[40],0,0⟩,
      ⟨(some 49),.v (.ext (.t 40) 1),none,[40],0,0⟩,
      ic 11 (.alloc [Ii 0,.nsl,Ii 0,Ii 0,.nsl,.nsl,Ii 0,Ii 0,Ii 0,.nsl,.nsl,.nsl,Ii 0,Ii 0,Ii 0]),
      ic 12 (.alloc [Ii 0,.nsl]),
      ⟨none,.c (.st 15 (.t 11) (.t 48)),none,[11,48],0,0⟩,
      ⟨none,.c (.st 2 (.t 12) (.t 49)),none,[12,49],0,0⟩]
     [⟨(some 41),.r (.ld 15 true (.t 6)),none,[6],0,2⟩,
      ⟨(some 42),.v (.fadr 2 (.t 1)),none,[1],0,0⟩,
      ⟨(some 43),.r (.ld 1 false (.t 42)),none,[42],0,2⟩,
      ⟨(some 44),.v (.mv (.t 10)),none,[10],0,0⟩,
      ⟨(some 45),.v (.iadr none 4 (.t 43) (.t 44)),none,[43,44],0,0⟩,
      ⟨(some 46),.r (.ld 4 true (.t 45)),none,[45],0,2⟩,
      ⟨(some 47),.r (.call eJ [.t 41,.t 46]),none,[41,46],0,2⟩,
      ⟨(some 40),.v (.mv (.t 47)),none,[47],0,0⟩,
      ⟨(some 48),.v (.ext (.t 40) 0),none,[40],0,0⟩,
      ⟨(some 49),.v (.ext (.t 40) 1),none,[40],0,0⟩,
      ic 12 (.alloc [Ii 0,.nsl]),
      ic 11 (.alloc [Ii 0,.nsl,Ii 0,Ii 0,.nsl,.nsl,Ii 0,Ii 0,Ii 0,.nsl,.nsl,.nsl,Ii 0,Ii 0,Ii 0]),
      ⟨none,.c (.st 15 (.t 11) (.t 48)),none,[11,48],0,0⟩,
      ⟨none,.c (.st 2 (.t 12) (.t 49)),none,[12,49],0,0⟩]
     [(0,0),(1,1),(2,2),(3,3),(4,4),(5,5),(6,6),(7,7),(8,8),(9,9)]) fr (hx h (tb :: eC t :: jk) ts)=R)
    (h6:fr 6=pA h.blks.length 1 0) (h1:fr 1=.vptr [b0,b1,.vsl false (l.map aF.cells)] 0) (h10:fr 10=Ii (k:Int)):
    ∃ fr',R=some (.normal,fr',hx h (tb :: eC t :: (jk++[eC t',lu a])) ts)/\fr' 11=pA h.blks.length (jk.length+2) 0/\fr' 12=pA h.blks.length (jk.length+3) 0/\∀ q,q∉[41,42,43,44,45,46,47,40,48,49,11,12]->fr' q=fr q:=by
  subst hD
  have ia:=FH .i64 false l k hk
  have l0:=bf t
  have l1:=bf t'
  have l2:(lu a).length=2:=rfl
  have hxc:(gd l fM k).cells.length=4:=rfl
  have ut:=RJ (h.blks.length+(jk.length+2)) (h.toks.length+ts.length) t
  have ut':=RJ (h.blks.length+(jk.length+2)) (h.toks.length+ts.length) t'
  have ua:=Zm (h.blks.length+(jk.length+2)) (h.toks.length+ts.length) a
  have ux:=zdY (h.blks.length+(jk.length+2)) (h.toks.length+ts.length) (gd l fM k)
  have ul:=Ny (h.blks.length+(jk.length+2)) (h.toks.length+ts.length) l
  have hn1:eC t'≠[]:=fun e=>by have:=congrArg List.length e;simp at this
  have hn2:lu a≠[]:=fun e=>by have:=congrArg List.length e;simp [lu] at this
  generalize (gd l fM k).cells=xc at*
  generalize l.map aF.cells=lc at*
  generalize eC t=D0 at*
  generalize eC t'=D1 at*
  generalize lu a=A2 at*
  simp -implicitDefEqProofs [h6,h1,h10,l0,l1,l2,hxc,ia,hcall,V,aq,ab,Z]
  rw [zc8]
  · refine ⟨zb (zb (zb (zb (zb (zb (zb (zb (zb (zb (zb (zb fr 41 (.agg D0)) 42 (.vptr [b0,b1,.vsl false lc] 2)) 43 (.vsl false lc)) 44 (Ii (k:Int))) 45 (.vptr xc 0)) 46 (.agg xc)) 47 (.tup [.agg D1,.agg A2])) 40 (.tup [.agg D1,.agg A2])) 48 (.agg D1)) 49 (.agg A2)) 11 (pA h.blks.length (jk.length+1+1) 0)) 12 (pA h.blks.length (jk.length+1+1+1) 0),by simp,by simp,by simp,fun q q1 q2 q3 q4 q5 q6 q7 q8 q9 qa qb qc=>?_⟩
    simp [zb,q1,q2,q3,q4,q5,q6,q7,q8,q9,qa,qb,qc]
  · have e1:(hx h (tb :: D0 :: jk) ts).blks.length=h.blks.length+(jk.length+2):=by simp [hx]
    have e2:(hx h (tb :: D0 :: jk) ts).toks.length=h.toks.length+ts.length:=by simp [hx]
    refine ⟨.inr ⟨D1,A2,D1,A2,by simp [hx],by simp [hx],hn1,hn2,?_,?_,?_⟩,?_⟩
    · rw [e1,e2];exact .sameP ut'
    · rw [e1,e2];exact .sameP ua
    · rw [e1,e2]
      intro t ht
      have:t=41\/t=42\/t=43\/t=44\/t=45\/t=46\/t=47\/t=40\/t=48\/t=49\/t=11\/t=12:=by simpa [bn] using ht
      rcases this with rfl | rfl | rfl | rfl | rfl | rfl | rfl | rfl | rfl | rfl | rfl | rfl
      · exact .same _ (by simpa [J.under] using ut)
      · exact .same _ (by simp [J.under,ay,u0,u1,ul])
      · exact .same _ (by simp [J.under,ul])
      · exact .same _ rfl
      · exact .same _ (by simpa [J.under] using ux)
      · exact .same _ (by simpa [J.under] using ux)
      · exact .same _ (by simp [J.under,ay,ut',ua])
      · exact .same _ (by simp [J.under,ay,ut',ua])
      · exact .same _ (by simpa [J.under] using ut')
      · exact .same _ (by simpa [J.under] using ua)
      · exact zlj _ _ _
      · exact zll _ _ _
    · intro q hq
      simp only [List.mem_cons,List.not_mem_nil,or_false] at hq
      rcases hq with rfl | rfl | rfl | rfl | rfl | rfl | rfl | rfl | rfl | rfl <;> rfl
theorem Zo {fr:Fr}{h:O}{R:Option (cL × Fr × O)}(bk:Int)(p:List Int)(l:List aF)(hl:l.length<=20)(hb:∀ x∈l,ce x.b)(hf:∀ x∈l,x.few)(t0:Tc)(ht0:t0.ok)(hc0:t0.s.c=0)(tb:List J)
  (hF:run ah (V h) (.loop gX) fr (hx h [tb,eC t0] [])=R)
  (h1:fr 1=.vptr [Ii bk,.vsl false (eI .u8 p),.vsl false (l.map aF.cells)] 0) (h6:fr 6=pA h.blks.length 1 0) (h9:fr 9=.vsl true []) (h10:fr 10=Ii 0):
  ∃ fr' bs,R=some (.exit 0,fr',hx h bs (gT ((runT t0 l).1.map lu)))/\fr' 9=gL (.vsl true []) h.toks.length 0 ((runT t0 l).1.map lu)/\∀ t,t∉wr gX->fr' t=fr t:=by
 obtain ⟨e,fr',h',rfl,⟨rfl,⟨bs,rfl⟩,p9⟩,hk⟩:=af hF l.length
  (fun k fr hh=>fr 10=Ii (k:Int)/\(∃ jk,hh=hx h (tb :: eC (runT t0 (l.take k)).2 :: jk) (gT ((runT t0 (l.take k)).1.map lu)))/\fr 9=gL (.vsl true []) h.toks.length 0 ((runT t0 (l.take k)).1.map lu))
  (fun e fr hh=>e=.exit 0/\(∃ bs,hh=hx h bs (gT ((runT t0 l).1.map lu)))/\fr 9=gL (.vsl true []) h.toks.length 0 ((runT t0 l).1.map lu))
  ⟨h10, ⟨[], by simp [runT, gT]⟩, by simpa [runT, gL] using h9⟩ (by
   rintro k fr1 hh hkN hkeep ⟨g10,⟨jk,rfl⟩,g9⟩;have g1:=kp hkeep h1;have g6:=kp hkeep h6;by_cases hlt:k < l.length
   ·have hltI:(k:Int) < l.length:=by omega
    have w1:Wr ((k:Int)+1)=((k+1:Nat):Int):=wy;obtain ⟨o1,o2⟩:=Mm ht0 l hb hf k (by omega);have hsu:=vP t0 l k hlt;have hmem:gd l fM k∈l:=Hi hlt;have hcall:=fun L H=>zoK L H (runT t0 (l.take k)).2 o1 (by omega) (gd l fM k) (hb _ hmem) (hf _ hmem);have hln:((runT t0 (l.take k)).1).length<=20:=by rw [Ns];simp;omega
    generalize hq1:runT t0 (l.take (k+1))=q1 at*;generalize runT t0 (l.take k)=q0 at*;generalize stepT q0.2 (gd l fM k)=st at*;have hpt:=fun fr R=>zij (R:=R) fr h tb jk (gT (q0.1.map lu)) q0.2 st.2 st.1 l (Ii bk) (.vsl false (eI .u8 p)) rfl (by simp [J.under]) k hlt hcall;have hmp:q1.1.map lu=q0.1.map lu++[lu st.1]:=by rw [hsu];simp
    have hq2:q1.2=st.2:=by rw [hsu]
    have hap:=fun bs=>yx (V h) h bs 2 true (q0.1.map lu) [lu st.1] (by simp [V,Nt,am,show cS 2 [lu st.1]=true from rfl];omega);rw [<- hmp] at hap;have hfil:ak (rep [J.int .i64 0,.nsl] 1) [(0,2,.agg (lu st.1))]=some (lu st.1):=rfl;have hchk:chunks 2 1 (lu st.1)=[lu st.1]:=rfl;have hgA : ∀ A B : List J, (A :: B :: (jk ++ [eC st.2, lu st.1]))[jk.length + 2]? = some (eC st.2) := fun A B => by
     rw [List.getElem?_cons_succ,List.getElem?_cons_succ,List.getElem?_append_right (Nat.le_refl _)];simp
    have hgB : ∀ A B : List J, (A :: B :: (jk ++ [eC st.2, lu st.1]))[jk.length + 3]? = some (lu st.1) := fun A B => by
     rw [List.getElem?_cons_succ,List.getElem?_cons_succ,List.getElem?_append_right (by omega)];simp
    have l0:=bf q0.2;have l1:=bf st.2;have l2:(lu st.1).length=2:=rfl;simp only [V] at hap;have hlc:(l.map aF.cells).length=l.length:=by simp
    simp -implicitDefEqProofs [-wP,gX,g1,g10,Z,hltI,hlt];generalize hD:run ah _ (.draw2 _ _ _) _ _=R2;obtain ⟨fr2,rfl,f11,f12,hk2⟩:=hpt _ _ hD (by simp [g6]) (by simp [g1]) (by simp [g10]);have e6:=hk2 6 (by decide);have e9:=hk2 9 (by decide);have e10:=hk2 10 (by decide);simp [g6] at e6;simp [g9] at e9;simp [g10] at e10;generalize eC q0.2=D0 at*;generalize hD1:eC st.2=D1 at*;generalize lu st.1=A2 at*;generalize hM2:jk.length+2=M2 at*;generalize hM3:jk.length+3=M3 at*;simp -implicitDefEqProofs [V,f11,f12,e6,e9,e10,hgA,hgB,l0,l1,l2,Z,aq,ab,hfil,hchk,hap,w1];exact ⟨hlt,⟨jk++[D1,A2],by rw [hq1,hq2,hD1]⟩,by rw [hq1]⟩
   ·have:k=l.length:=by omega
    subst this;rw [List.take_length] at*;simp -implicitDefEqProofs [-wP,gX,g1,g10,Z];exact ⟨⟨_,rfl⟩,g9⟩)
 exact ⟨fr',bs,rfl,p9,hk⟩
theorem zil (L:az)(h:O)(bk:Int)(hbk:bk≠2)(p:List Int)(hp:ce p)(hpl:p.length<=1000)(l:List aF)(hl:l.length<=20)(hb:∀ x∈l,ce x.b)(hf:∀ x∈l,x.few):
  aa ah L jd [.agg [Ii bk,.vsl false (eI .u8 p),.vsl false (l.map aF.cells)]] h=some (.tup [.vsl false ((iJ bk p l).1.map lu),Ii (iJ bk p l).2.1,Ii (iJ bk p l).2.2],h):=by
 rw [Dw];have hfz:oL h (.agg [Ii bk,.vsl false (eI .u8 p),.vsl false (l.map aF.cells)])=some (.agg [Ii bk,.vsl false (eI .u8 p),.vsl false (l.map aF.cells)],false):=by simp [oL,aZ,J.flat]
 have hbo:lx (.agg [Ii bk,.vsl false (eI .u8 p),.vsl false (l.map aF.cells)])=some (.vptr [Ii bk,.vsl false (eI .u8 p),.vsl false (l.map aF.cells)] 0):=rfl;have b2:(bk==2)=false:=beq_false_of_ne hbk;have hN:=fun L h=>zh2 L h bk hbk false p hp (by omega);have hz15:zdO.length=15:=rfl;by_cases h1:bk=1
 ·by_cases hpe:(bp p).2.2=0
  ·have hP:iJ bk p l=((runT (xw p) l).1, -1,0):=by unfold iJ;rw [if_pos h1,if_pos hpe]
   rw [hP];simp only [if_pos h1,if_pos hpe] at hN;have hlo:=fun fr R tb=>Zo (fr:=fr) (h:=h) (R:=R) bk p l hl hb hf (xw p) (Ss p hp) (zfq p) tb;have l0:=bf (xw p);have hg:=fun hh n'=>pe (h1:=hh) (nb:=h.blks.length) (nt:=h.toks.length) (n:=n') (s:=.vsl true []) (es:=(runT (xw p) l).1.map lu) (.inr rfl) (Kh _ _ _);generalize (runT (xw p) l).1.map lu=res at*;generalize eC (xw p)=D0 at*;generalize hlc:l.map aF.cells=lc at*;simp -implicitDefEqProofs [-wP,iZ,V,hfz,hbo,b2,ak,rep,chunks,setAt,J.cells,J.okV,Z,aq,ab,hN,l0,bne];generalize hF:run ah _ (.loop _) _ _=R;obtain ⟨fr1,bs,rfl,f9,hk1⟩:=hlo _ _ _ hF (by simp) (by simp) (by simp) (by simp);simp -implicitDefEqProofs [f9,hg]
  ·have hP:iJ bk p l=([],(bp p).2.1,(bp p).2.2):=by unfold iJ;rw [if_pos h1,if_neg hpe]
   rw [hP];simp only [if_pos h1,if_neg hpe] at hN;have be:((bp p).2.2==0)=false:=beq_false_of_ne hpe;generalize (bp p).2.2=er at*;generalize (bp p).2.1=at_ at*;generalize zdO=z at*;generalize hlc:l.map aF.cells=lc at*;simp -implicitDefEqProofs [-wP,iZ,V,hfz,hbo,b2,ak,rep,chunks,setAt,J.cells,J.okV,Z,aq,ab,hN,hz15,bne,be]
 ·have hP:iJ bk p l=([], -1,15):=by unfold iJ;rw [if_neg h1]
  rw [hP];simp only [if_neg h1] at hN;generalize zdO=z at*;generalize hlc:l.map aF.cells=lc at*;simp -implicitDefEqProofs [-wP,iZ,V,hfz,hbo,b2,ak,rep,chunks,setAt,J.cells,J.okV,Z,aq,ab,hN,hz15,bne]
end Go.Av
