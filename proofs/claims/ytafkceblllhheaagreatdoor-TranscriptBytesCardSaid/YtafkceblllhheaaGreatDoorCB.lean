/- The document's numbers in digits of 32 bits. -/
import Derived.Test.YtafkceblllhheaaGreatDoorC2
import Derived.Test.YtafkceblllhheaaGreatDoorC3
import Derived.Test.YtafkceblllhheaaGreatDoorC5
import Derived.MapKept
set_option linter.unusedSimpArgs false
set_option linter.unusedVariables false
set_option maxHeartbeats 2000000
set_option maxRecDepth 20000
namespace Go.Av
structure LV (x:J) (l:List ac):Prop where
 fz:∀ h,nT h x=some (.vsl false (eW l),false)
 rd:∀ h,iV h x l
theorem LV.vsl (c:Bool)(l:List ac):LV (.vsl c (eW l)) l:=⟨fun h=>fw h c _,fun h=>iV.vsl h c l⟩
theorem zfm (x y:ac):aV .lss (wd x) (wd y)=some (.bool (decide (x.toNat < y.toNat))):=by
 show some (J.bool (decide ((x.toNat:Int) < y.toNat)))=_;simp
theorem zjY (x y:ac):aV .gtr (wd x) (wd y)=some (.bool (decide (y.toNat < x.toNat))):=by
 show some (J.bool (decide ((x.toNat:Int) > y.toNat)))=_;simp
def JR (x:ac)(c:Nat):ac:=BitVec.ofNat 64 (x.toNat % c)
def SX (x:ac)(c:Nat):ac:=BitVec.ofNat 64 (x.toNat / c)
theorem EU (x:ac)(c:Nat):(JR x c).toNat=x.toNat % c:=by
 unfold JR;rw [BitVec.toNat_ofNat,Nat.mod_eq_of_lt (Nat.lt_of_le_of_lt (Nat.mod_le _ _) x.isLt)]
theorem LF (x:ac)(c:Nat):(SX x c).toNat=x.toNat / c:=by
 unfold SX;rw [BitVec.toNat_ofNat,Nat.mod_eq_of_lt (Nat.lt_of_le_of_lt (Nat.div_le_self _ _) x.isLt)]
theorem Bm (x:ac)(c:Nat)(h:c≠0):aV .rem (wd x) (.int .u64 (c:Int))=some (wd (JR x c)):=by
 have:=bQ (k:=.u64) (a:=(x.toNat:Int)) (b:=(c:Int)) (by omega);rw [rt] at this;rw [wd,wd,EU];exact this
theorem Sf (x:ac)(c:Nat)(h:c≠0):aV .quo (wd x) (.int .u64 (c:Int))=some (wd (SX x c)):=by
 have:=eN (k:=.u64) (a:=(x.toNat:Int)) (b:=(c:Int)) (by omega);rw [vS,F1 _ (Nat.lt_of_le_of_lt (Nat.div_le_self _ _) x.isLt)] at this;rw [wd,wd,LF];exact this
theorem zfy (x:ac):aV .rem (wd x) (.int .u64 4294967296)=some (wd (JR x 4294967296)):=Bm x 4294967296 (by decide)
theorem zfz (x:ac):aV .quo (wd x) (.int .u64 4294967296)=some (wd (SX x 4294967296)):=Sf x 4294967296 (by decide)
theorem ziU (x:ac):aV .rem (wd x) (.int .u64 256)=some (wd (JR x 256)):=Bm x 256 (by decide)
theorem ziX (x:ac):aV .quo (wd x) (.int .u64 256)=some (wd (SX x 256)):=Sf x 256 (by decide)
theorem ziZ (x:ac):aV .rem (wd x) (.int .u64 2)=some (wd (JR x 2)):=Bm x 2 (by decide)
theorem Zs (x:ac):aV .quo (wd x) (.int .u64 2)=some (wd (SX x 2)):=Sf x 2 (by decide)
theorem Iz (L:az)(h:O)(x:J)(l:List ac)(hr:iV h x l)(i:Nat):Z ah L bS [x,Ii (i:Int)] h=some (wd (gd l 0#64 i),h):=by
 rw [Dd];obtain ⟨r1,p,r2,r3⟩:=hr;by_cases hi:i < l.length
 ·simp -implicitDefEqProofs [m5,V,r1,hi,r2 i hi,r3 i [] [] hi]
 ·have hg:gd l 0#64 i=0#64:=Gg (Nat.le_of_not_lt hi);simp -implicitDefEqProofs [m5,V,r1,hi,hg,OT]
theorem zb3 {fr:Fr}{h:O}{R:Option (dt × Fr × O)}(x:J)(l:List ac)(hr:iV h x l)(hn:l.length < 1000000000)
  (hF:run ah (V h) (.loop dL) fr (hx h [] [])=R)
  (h0:fr 0=x) (h3:fr 3=Ii (l.length:Int)):
  ∃ fr',R=some (.exit 0,fr',hx h [] [])/\fr' 3=Ii ((yR l l.length:Nat):Int)/\∀ t,t∉wr dL->fr' t=fr t:=by
 obtain ⟨r1,p,r2,r3⟩:=hr;generalize hT:yR l l.length=T at*;obtain ⟨e,fr',h',rfl,⟨rfl,rfl,h3'⟩,hk⟩:=af hF l.length
  (fun k fr hh=>∃ m,m+k=l.length/\fr 3=Ii (m:Int)/\T=yR l m/\hh=hx h [] [])
  (fun e fr hh=>e=.exit 0/\hh=hx h [] []/\fr 3=Ii (T:Int))
  ⟨l.length,rfl,h3,hT.symm,rfl⟩ (by
   rintro k fr1 hh hkN hkeep ⟨m,hm,g3,ht,rfl⟩;have g0:=kp hkeep h0
   cases m with
   | succ i=>
    have w1:Wr (((i+1:Nat):Int) - 1)=(i:Int):=wy;have hro:=r2 i (by omega);have hrd:=r3 i [] [] (by omega);have hst:yR l (i+1)=match gd l 0#64 i==0#64 with | true=>yR l i | false=>i+1:=rfl
    have e0:J.int .u64 0=wd 0#64:=rfl;have hgt:(0:Int) < ((i+1:Nat):Int):=by omega
    rw [hst] at ht
    cases hz:gd l 0#64 i==0#64 with
    | true=>
     rw [hz] at ht;simp only at ht;generalize ((i+1:Nat):Int)=ii at*;simp -implicitDefEqProofs [dL,V,g0,g3,hgt,w1,hro,hrd,e0,uR,hz, -Lf];exact ⟨by omega,i,by omega,rfl,ht⟩
    | false=>
     rw [hz] at ht;simp only at ht;subst ht;generalize ((i+1:Nat):Int)=ii at*;simp -implicitDefEqProofs [dL,V,g0,g3,hgt,w1,hro,hrd,e0,uR,hz, -Lf]
   | zero=>
    have ht0:T=0:=ht;subst ht0;simp [dL,g3])
 exact ⟨fr',rfl,h3',hk⟩
theorem U5 (L:az)(h:O)(x r r':J)(l:List ac)(hr:iV h x l)(hn:l.length < 1000000000)(hsl:eP .slc 1 x none (some (Ii ((yR l l.length:Nat):Int))) none=some r)
  (hfz:frz (hx h [] []) h.blks.length h.toks.length 12 r=some r'):Z ah L d9 [x] h=some (r',h):=by
 rw [B4];have hlo:=fun fr R=>zb3 (fr:=fr) (h:=h) (R:=R) x l hr hn;obtain ⟨r1,_⟩:=hr;generalize ((yR l l.length:Nat):Int)=tl at*;simp -implicitDefEqProofs [pF,V,r1];generalize hF:run ah _ (.loop _) _ _=R;obtain ⟨fr1,rfl,h3,hk1⟩:=hlo _ _ hF (by simp) (by simp);simp -implicitDefEqProofs [hk1,wr,dL,bj,h3,hsl,hfz]
theorem JT (L:az)(h:O)(bs:List (List J))(ts:List Nat)(i n c:Nat)(cs l:List ac)(hb:bs[i]?=some (cW cs))(hl:cs.take n=l)(hln:l.length=n)(hd:Dg l)(hn:n < 1000000000)(hnc:n<=c):
  ∃ r,Z ah L d9 [sA h.blks.length i 0 1 n (some c)] (hx h bs ts)=some (r,hx h bs ts)/\∀ js,frz (hx h (bs++js) ts) h.blks.length h.toks.length 12 r=some (.vsl false (eW (dg (vD l)))):=by
 have hrd:iV (hx h bs ts) (sA h.blks.length i 0 1 n (some c)) l:=by
  refine ⟨by simp [hln],fun k=>pA h.blks.length i (0+k*1),fun k hk=>?_,fun k bs' ts' hk=>?_⟩
  ·exact om h.blks.length i 0 1 n k (some c) .i64 (by simp;omega)
  ·rw [LW,Ts,Q3 bs' hb,VT,ap,Nat.zero_add,Nat.mul_one];have hkc:k < cs.length:=by rw [<- hl] at hk;simp at hk;omega
   have:gd l 0#64 k=gd cs 0#64 k:=by rw [<- hl,wR (by omega)]
   rw [this];exact M6 hkc
 have htl:=Yy l n;have htd:=zho hd;rw [hln] at htd;have hcl:n<=cs.length:=by rw [<- hl] at hln;simp at hln;omega
 have hb2:bs[i]?=some (cI .u64 (sf cs)):=by rw [hb,xm]
 have hbl:=(List.getElem?_eq_some_iff.1 hb).1;by_cases h0:yR l n=0
 ·have htd0:dg (vD l)=[]:=by rw [<- htd,h0];rfl
  rw [htd0];refine ⟨.vsl false (eW []),U5 L _ _ (.vsl (some c==some 0) (eW [])) _ l hrd (by omega) ?_ (Zj _ _ _ _ _ _),fun js=>Zj _ _ _ _ _ _⟩;rw [hln,h0];simp [eP,sA,jp]
 ·refine ⟨sA h.blks.length i 0 1 (yR l n) (some c),U5 L _ _ (sA h.blks.length i 0 1 (yR l n) (some c)) _ l hrd (by omega) ?_ ?_,fun js=>?_⟩
  ·rw [hln];simp [eP,sA,jp,h0,show yR l n<=c by omega]
  ·exact Nc _ _ _ _ _ _ _ _ _ (by simp [aB,hbl])
  ·have:=GO h (bs++js) ts h.toks.length 11 i (yR l n) (some c) .u64 (sf cs) (Q3 js hb2) (by simp;omega);rw [this,<- htd];generalize yR l n=T at*;rw [<- hl,List.take_take,Nat.min_eq_left htl,JD,<- AG]
theorem XE {f g:Nat->ac}(hf:∀ i,(f i).toNat < dB):∀ (n m:Nat),m < n->(∀ j,m < j->j < n->f j=g j)->(f m).toNat < (g m).toNat->sD f n < sD g n
 | 0,m,h,_,_=>by omega
 | n + 1, m, h, he, hl => by
  rw [sD,sD];by_cases e:m=n
  ·subst e;have h1:=Yv (f:=f) (n:=m) fun i _=>hf i;have h2:(f m).toNat*dB ^ m+dB ^ m<=(g m).toNat*dB ^ m:=by
    rw [<- Nat.succ_mul];exact Nat.mul_le_mul_right _ hl
   omega
  ·have h1:=XE hf n m (by omega) (fun j h1 h2=>he j h1 (by omega)) hl;rw [he n (by omega) (by omega)];omega
theorem Zu {x y:Nat}(h:x < y):jU x y= -1:=by unfold jU;rw [if_pos h]
theorem Zv {x y:Nat}(h:y < x):jU x y=1:=by unfold jU;rw [if_neg (by omega),if_pos h]
theorem Zw (x:Nat):jU x x=0:=by unfold jU;simp
theorem zb9 {fr:Fr}{h:O}{R:Option (dt × Fr × O)}(x y:J)(a b:List ac)(hx1:iV h x a)(hy1:iV h y b)(ha:Dg a)(hb:Dg b)(n:Nat)(hn:n < 1000000000)
  (hF:run ah (V h) (.loop ek) fr (hx h [] [])=R)
  (h0:fr 0=x) (h1:fr 1=y) (h5:fr 5=Ii ((n:Int) - 1)):
  ∃ e fr',R=some (e,fr',hx h [] [])/\(e=.exit 0/\(∀ j,j < n->gd a 0#64 j=gd b 0#64 j)/\(∀ t,t∉wr ek->fr' t=fr t)\/e=.ret/\fr' 4=Ii (jU (sD (gd a 0#64) n) (sD (gd b 0#64) n))):=by
 obtain ⟨e,fr',h',rfl,⟨rfl,hor⟩,hk⟩:=af hF n
  (fun k fr hh=>∃ m,m+k=n/\fr 5=Ii ((m:Int) - 1)/\(∀ j,m<=j->j < n->gd a 0#64 j=gd b 0#64 j)/\hh=hx h [] [])
  (fun e fr hh=>hh=hx h [] []/\(e=.exit 0/\(∀ j,j < n->gd a 0#64 j=gd b 0#64 j)\/e=.ret/\fr 4=Ii (jU (sD (gd a 0#64) n) (sD (gd b 0#64) n))))
  ⟨n, rfl, h5, fun j h1 h2 => by omega, rfl⟩ (by
   rintro k fr1 hh hkN hkeep ⟨m,hm,g5,he,rfl⟩;have g0:=kp hkeep h0;have g1:=kp hkeep h1
   cases m with
   | succ i=>
    rw [show (((i+1:Nat):Int) - 1)=(i:Int) by omega] at g5;have hga:=fun L=>Iz L (hx h [] []) x a (hx1.ext [] []) i;have hgb:=fun L=>Iz L (hx h [] []) y b (hy1.ext [] []) i;have w1:Wr ((i:Int) - 1)=(i:Int) - 1:=wz;have hnn:¬((i:Int) < 0):=by omega
    have c1:(gd a 0#64 i).toNat < (gd b 0#64 i).toNat->jU (sD (gd a 0#64) n) (sD (gd b 0#64) n)= -1:=fun hl=>Zu (XE ha n i (by omega) (fun j h1 h2=>he j (by omega) h2) hl);have c2:(gd b 0#64 i).toNat < (gd a 0#64 i).toNat->jU (sD (gd a 0#64) n) (sD (gd b 0#64) n)=1:=fun hl=>Zv (XE hb n i (by omega) (fun j h1 h2=>(he j (by omega) h2).symm) hl);generalize jU (sD (gd a 0#64) n) (sD (gd b 0#64) n)=r at*;by_cases hl:(gd a 0#64 i).toNat < (gd b 0#64 i).toNat
    ·simp -implicitDefEqProofs [ek,V,g0,g1,g5,w1,hga,hgb,zfm,hl,c1 hl]
    ·by_cases hl2:(gd b 0#64 i).toNat < (gd a 0#64 i).toNat
     ·simp -implicitDefEqProofs [ek,V,g0,g1,g5,w1,hga,hgb,zfm,zjY,hl,hl2,c2 hl2]
     ·simp -implicitDefEqProofs [ek,V,g0,g1,g5,w1,hga,hgb,zfm,zjY,hl,hl2];refine ⟨by omega,i,by omega,rfl,fun j h1 h2=>?_⟩;by_cases e:j=i
      ·subst e;exact BitVec.eq_of_toNat_eq (by omega)
      ·exact he j (by omega) h2
   | zero=>
    simp [ek,g5];exact fun j hj=>he j (by omega) hj)
 exact ⟨e,fr',rfl,hor.imp (fun ⟨p,q⟩=>⟨p,q,hk⟩) id⟩
theorem LG (L:az)(h:O)(x y:J)(a b:List ac)(hx1:iV h x a)(hy1:iV h y b)(ha:Dg a)(hb:Dg b)(hl:a.length < 100000000/\b.length < 100000000):
  Z ah L eS [x,y] h=some (Ii (jU (vD a) (vD b)),h):=by
 rw [CQ];have hlo:=fun fr R=>zb9 (fr:=fr) (h:=h) (R:=R) x y a b hx1 hy1 ha hb (a.length+b.length+1) (by omega);rw [<- wZ a _ (by omega),<- wZ b _ (by omega)] at hlo;have hsame : (∀ j, j < a.length + b.length + 1 -> gd a 0#64 j = gd b 0#64 j) -> jU (vD a) (vD b) = 0 := fun hh => by
  rw [wZ a (a.length+b.length+1) (by omega),wZ b (a.length+b.length+1) (by omega),HC hh,Zw]
 have w1:Wr ((a.length:Int)+b.length)=((a.length+b.length+1:Nat):Int) - 1:=wy;generalize jU (vD a) (vD b)=r at*;obtain ⟨q1,_⟩:=hx1;obtain ⟨q2,_⟩:=hy1;generalize ((a.length+b.length+1:Nat):Int) - 1=nn at*;simp -implicitDefEqProofs [qH,V,q1,q2,w1];generalize hF:run ah _ (.loop _) _ _=R;obtain ⟨e,fr1,rfl,⟨rfl,hs,hk⟩ | ⟨rfl,h4⟩⟩:=hlo _ _ hF (by simp) (by simp) (by simp)
 ·simp -implicitDefEqProofs [hsame hs]
 ·simp -implicitDefEqProofs [h4]
theorem zfX (x:ac):al (rep [J.int .u64 0] 1) [(0,1,wd x)]=some [wd x]:=rfl
theorem XH (x:J):chunks 1 1 [x]=[[x]]:=rfl
theorem zmc {α:Type}(l:List α)(i:Nat)(x:α)(h:i < l.length):putAt l i [x]=l.set i x:=by
 unfold putAt;rw [List.set_eq_take_append_cons_drop,if_pos h];rfl
theorem Zx {n:Nat}(h:n < 200000000000):(decide ((0:Int)<=(n:Int))&&decide ((n:Int) < ao))=true:=by
 have:(ao:Int)=274877906944:=rfl;rw [Bool.and_eq_true,decide_eq_true_eq,decide_eq_true_eq];omega
theorem zj6 (L:az)(h:O)(bs:List (List J))(ts:List Nat)(i n c:Nat)(l:List ac)(x:ac)(cl:Bool)(hb:bs[i]?=some (cW l))(hc:n < c)(hl:n < l.length)(hL:L.rob<=h.blks.length):
  ka L (hx h bs ts) 1 false (sA h.blks.length i 0 1 n (some c)) (.vsl cl [[wd x]])=some (sA h.blks.length i 0 1 (n+1) (some c),hx h (bs.set i (cW (l.set n x))) ts):=by
 have:=XF L h bs ts i 0 n c l [x] cl hb (by simp) (by simp;omega) (by simp;omega) hL;rw [Nat.zero_add,zmc _ _ _ hl] at this;exact this
theorem Zy (n:Nat):rep [J.int .u64 0] n=cW (tab n fun _=>0#64):=by rw [eR,bH]
theorem zor (x:ac):aV .add (.int .u64 4294967296) (wd x)=some (wd (4294967296#64+x)):=zme 4294967296#64 x
theorem one_sub (x:ac):aV .sub (.int .u64 1) (wd x)=some (wd (1#64 - x)):=zf4 1#64 x
def OG (a b:Nat->ac)(k:Nat)(c:ac):ac:=4294967296#64+a k - b k - c
def vF (a b:Nat->ac):Nat->ac
 | 0=>0#64
 | k+1=>1#64 - SX (OG a b k (vF a b k)) 4294967296
def Jq (a b:Nat->ac)(k:Nat):ac:=JR (OG a b k (vF a b k)) 4294967296
theorem zdP {a b:Nat->ac}(ha:∀ i,(a i).toNat < dB)(hb:∀ i,(b i).toNat < dB)(k:Nat)(c:ac)(hc:c.toNat<=1):(OG a b k c).toNat=4294967296+(a k).toNat - (b k).toNat - c.toNat:=by
 have h1:=ha k;have h2:=hb k;rw [show dB=4294967296 from rfl] at h1 h2;unfold OG;rw [BitVec.toNat_sub,BitVec.toNat_sub,BitVec.toNat_add];simp only [BitVec.toNat_ofNat];omega
theorem PJ {a b:Nat->ac}(ha:∀ i,(a i).toNat < dB)(hb:∀ i,(b i).toNat < dB)(k:Nat)(h0:(vF a b k).toNat<=1):(Jq a b k).toNat+(b k).toNat+(vF a b k).toNat=(a k).toNat+dB*(vF a b (k+1)).toNat/\(vF a b (k+1)).toNat<=1:=by
 have h1:=ha k;have h2:=hb k;have e:=zdP ha hb k _ h0;rw [show dB=4294967296 from rfl] at*;have h3:(vF a b (k+1)).toNat=1 - (OG a b k (vF a b k)).toNat / 4294967296:=by
  rw [vF,BitVec.toNat_sub,LF,e];simp only [BitVec.toNat_ofNat];omega
 have h4:(Jq a b k).toNat=(OG a b k (vF a b k)).toNat % 4294967296:=by unfold Jq;rw [EU]
 rw [h3,h4,e];omega
theorem Rp {a b:Nat->ac}(ha:∀ i,(a i).toNat < dB)(hb:∀ i,(b i).toNat < dB):∀ k,(vF a b k).toNat<=1
 | 0=>by simp [vF]
 | k+1=>(PJ ha hb k (Rp ha hb k)).2
theorem YP (a b:Nat->ac)(k:Nat):(Jq a b k).toNat < dB:=by
 unfold Jq;rw [EU];exact Nat.mod_lt _ (by decide)
theorem T4 {a b:Nat->ac}(ha:∀ i,(a i).toNat < dB)(hb:∀ i,(b i).toNat < dB):∀ k,sD (Jq a b) k+sD b k=sD a k+(vF a b k).toNat*dB ^ k
 | 0=>by simp [sD,vF]
 | k + 1 => by
  have ih:=T4 ha hb k;have hm:=(PJ ha hb k (Rp ha hb k)).1;rw [sD,sD,sD,Nat.pow_succ,<- Nat.mul_assoc,Nat.mul_right_comm];have:=congrArg (·*dB ^ k) hm;simp only [Nat.add_mul] at this;rw [Nat.mul_comm dB] at this;omega
theorem za6 {L:az}{fr:Fr}{h:O}{R:Option (dt × Fr × O)}(a b:List ac)(n:Nat)(han:a.length=n)(hn:n < 1000000000)(hL:L.rob<=h.blks.length)
  (hF:run ah L (.loop fL) fr (hx h [cW (cV n (Jq (gd a 0#64) (gd b 0#64)) (fun _=>0#64) 0)] [])=R)
  (h0:fr 0=.vsl false (eW a)) (h1:fr 1=.vsl false (eW b)) (h5:fr 5=sA h.blks.length 0 0 1 0 (some n)) (h6:fr 6=wd 0#64) (h7:fr 7=Ii 0):
  ∃ fr',R=some (.exit 0,fr',hx h [cW (tab n (Jq (gd a 0#64) (gd b 0#64)))] [])/\fr' 5=sA h.blks.length 0 0 1 n (some n)/\∀ t,t∉wr fL->fr' t=fr t:=by
 generalize hfd:Jq (gd a 0#64) (gd b 0#64)=f at*;obtain ⟨e,fr',h',rfl,⟨rfl,rfl,h5'⟩,hk⟩:=af hF n
  (fun k fr hh=>fr 7=Ii (k:Int)/\fr 5=sA h.blks.length 0 0 1 k (some n)/\fr 6=wd (vF (gd a 0#64) (gd b 0#64) k)/\hh=hx h [cW (cV n f (fun _=>0#64) k)] [])
  (fun e fr hh=>e=.exit 0/\hh=hx h [cW (tab n f)] []/\fr 5=sA h.blks.length 0 0 1 n (some n))
  ⟨h7,h5,h6,rfl⟩ (by
   rintro k fr1 hh hkN hkeep ⟨g7,g5,g6,rfl⟩;have g0:=kp hkeep h0;have g1:=kp hkeep h1;by_cases hlt:k < n
   ·have w1:Wr ((k:Int)+1)=k+1:=wz;obtain ⟨r1,p,r2,r3⟩:=iV.vsl h false a;have hro:=r2 k (by omega);have hrd:=fun bs ts=>r3 k bs ts (by omega);have hgb:=fun L h=>Iz L h (.vsl false (eW b)) b (iV.vsl h false b) k;have hap:=fun cl=>zj6 L h [cW (cV n f (fun _=>0#64) k)] [] 0 k n (cV n f (fun _=>0#64) k) (f k) cl rfl hlt (by simpa using hlt) hL;rw [nJ] at hap;simp only [List.set_cons_zero] at hap;have hS:wd (4294967296#64+gd a 0#64 k - gd b 0#64 k - vF (gd a 0#64) (gd b 0#64) k)=wd (OG (gd a 0#64) (gd b 0#64) k (vF (gd a 0#64) (gd b 0#64) k)):=rfl;have hD:JR (OG (gd a 0#64) (gd b 0#64) k (vF (gd a 0#64) (gd b 0#64) k)) 4294967296=f k:=by rw [<- hfd];rfl
    have hC:1#64 - SX (OG (gd a 0#64) (gd b 0#64) k (vF (gd a 0#64) (gd b 0#64) k)) 4294967296=vF (gd a 0#64) (gd b 0#64) (k+1):=rfl;generalize hc2:vF (gd a 0#64) (gd b 0#64) (k+1)=c2 at*;generalize vF (gd a 0#64) (gd b 0#64) k=c1,OG (gd a 0#64) (gd b 0#64) k (vF (gd a 0#64) (gd b 0#64) k)=s at*;generalize hm2:cV n f (fun _=>0#64) (k+1)=m2 at*;generalize cV n f (fun _=>0#64) k=m1 at*;have hle:(k:Int) < a.length:=by omega
    simp -implicitDefEqProofs [fL,g0,g1,g5,g6,g7,hle,w1,hro,hrd,hgb,zor,one_sub,hS,zfy,zfz,hD,hC,zfX,XH,hap];exact ⟨hlt,by rw [hc2],by rw [hm2]⟩
   ·have:k=n:=by omega
    subst this;have hgt:¬(k:Int) < a.length:=by omega
    rw [tO];generalize tab k f=m1 at*;simp [fL,g7,g5,g0,hgt])
 exact ⟨fr',rfl,h5',hk⟩
theorem YQ (L:az)(h:O)(x y:J)(a b:List ac)(hx1:LV x a)(hy1:LV y b)(ha:Dg a)(hb:Dg b)(hl:a.length < 100000000)(hba:b.length<=a.length)(hv:vD b<=vD a):
  Z ah L mH [x,y] h=some (.vsl false (eW (dg (vD a - vD b))),h):=by
 rw [De];obtain ⟨n,hn⟩:∃ n,a.length=n:=⟨_,rfl⟩;have hlo:=fun fr R=>za6 (L:=V h) (fr:=fr) (h:=h) (R:=R) a b n hn (by omega) (Nat.le_refl _);have hvd:vD (tab n (Jq (gd a 0#64) (gd b 0#64)))=vD a - vD b:=by
  have e:=T4 ha hb n;have e1:=Yv (f:=Jq (gd a 0#64) (gd b 0#64)) (n:=n) fun i _=>YP _ _ i;have e0:=Rp ha hb n;rw [<- wZ a n (by omega),<- wZ b n (by omega)] at e;rw [V6];rcases Nat.le_one_iff_eq_zero_or_eq_one.1 e0 with e2 | e2
  ·rw [e2] at e;omega
  ·rw [e2] at e;omega
 obtain ⟨r,hT,hfz⟩:=JT (V h) h [cW (tab n (Jq (gd a 0#64) (gd b 0#64)))] [] 0 n n _ _ rfl (by rw [List.take_of_length_le (by simp)]) (by simp) (Dg.tab fun i _=>YP _ _ i) (by omega) (Nat.le_refl _);rw [hvd] at hfz;have hfz0:=hfz [];rw [List.append_nil] at hfz0;rw [kR] at hlo;have hmk:=QA h [] [] 1 [J.int .u64 0] .i64 .i64 (n:Int) (Zx (by omega));rw [Int.toNat_natCast,Zy] at hmk;have hz:(J.int .u64 0)=wd 0#64:=rfl;have hf1:=hx1.fz;have hf2:=hy1.fz;generalize hm0:tab n (fun _=>0#64)=m0 at*;generalize tab n (Jq (gd a 0#64) (gd b 0#64))=m1 at*;generalize hr:eW (dg (vD a - vD b))=rr at*;simp -implicitDefEqProofs [qZ,hf1,hf2,hn,hmk];generalize hF:run ah _ (.loop _) _ _=R;obtain ⟨fr1,rfl,h5,hk1⟩:=hlo _ _ hF (by simp) (by simp) (by simp) (by simp [hz]) (by simp);simp -implicitDefEqProofs [hk1,wr,fL,bj,h5,hT,hfz0]
theorem YU {x y:Nat}(h:x<=y):(dg x).length<=(dg y).length:=Gq (Nat.lt_of_le_of_lt h (by have:=zn4 (xb y);rwa [j7] at this))
def grd (M:Nat):Nat->Nat->Nat
 | 0,x=>x
 | k+1,x=>grd M k (if M*2 ^ k<=x then x - M*2 ^ k else x)
theorem zhY (x y:Nat):(decide (jU x y>=0))=decide (y<=x):=by
 unfold jU;split
 ·simp;omega
 ·split <;> simp <;> omega
def sg (b:List Int)(m q:Nat):List Int:=(b.take (4*q+4)).drop (max m (4*q))
def Oe (b:List Int)(m q:Nat):ac:=BitVec.ofNat 64 (bi (sg b m q))
theorem zfj {b:List Int}(hb:cw b)(m q:Nat):bi (sg b m q) < dB:=by
 have h:=yd (oZ (lS hb (4*q+4)) (max m (4*q)));have hl:(sg b m q).length<=4:=by simp [sg];omega
 exact Nat.lt_of_lt_of_le h (Nat.pow_le_pow_right (by decide) hl)
theorem LD {b:List Int}(hb:cw b)(m q:Nat):(Oe b m q).toNat=bi (sg b m q):=by
 have:=zfj hb m q;unfold Oe;rw [BitVec.toNat_ofNat];rw [show dB=4294967296 from rfl] at this;omega
theorem zfp (b:List Int)(m q:Nat)(h:q≠m / 4):sg b m q=sg b (m+1) q:=by
 unfold sg;by_cases h1:m < 4*q
 ·rw [show max m (4*q)=max (m+1) (4*q) by omega]
 ·rw [List.drop_eq_nil_of_le (by simp;omega),List.drop_eq_nil_of_le (by simp;omega)]
theorem Zo (b:List Int)(m:Nat)(h:m < b.length):sg b m (m / 4)=gd b 0 m :: sg b (m+1) (m / 4):=by
 unfold sg;rw [show max m (4*(m / 4))=m by omega,show max (m+1) (4*(m / 4))=m+1 by omega];have hl:m < (b.take (4*(m / 4)+4)).length:=by simp;omega
 rw [List.drop_eq_getElem_cons hl,List.getElem_take]
 congr 1
 unfold gd;simp [List.getD,List.getElem?_eq_getElem h]
theorem zfr {b:List Int}(hb:cw b):∀ n,sD (Oe b 0) n=bi (b.take (4*n))
 | 0=>by simp [sD,bi]
 | n + 1 => by
  rw [sD,zfr hb n,LD hb];have e:b.take (4*(n+1))=b.take (4*n)++sg b 0 n:=by
   unfold sg;rw [show max 0 (4*n)=4*n by omega,show 4*(n+1)=4*n+4 by omega,List.drop_take,Nat.add_sub_cancel_left,List.take_add]
  rw [e,F8];by_cases h:4*n<=b.length
  ·rw [List.length_take,Nat.min_eq_left h,Nat.pow_mul];rfl
  ·have:sg b 0 n=[]:=by unfold sg;exact List.drop_eq_nil_of_le (by simp;omega)
   rw [this];simp [bi]
theorem zlY (x:ac):aV .mul (wd x) (.int .u64 256)=some (wd (x*256#64)):=XK x 256#64
theorem Se {fr:Fr}{h:O}{R:Option (dt × Fr × O)}(x:J)(b:List Int)(hr:IY h .u8 x b)(hb:cw b)(N:Nat)(hN:N=b.length / 4+1)(hl:b.length < 100000000)
  (hF:run ah (V h) (.loop dD) fr (hx h [cW (tab N (Oe b b.length))] [])=R)
  (h0:fr 0=x) (h3:fr 3=sA h.blks.length 0 0 1 N (some N)) (h4:fr 4=Ii ((b.length:Int) - 1)):
  ∃ fr',R=some (.exit 0,fr',hx h [cW (tab N (Oe b 0))] [])/\∀ t,t∉wr dD->fr' t=fr t:=by
 obtain ⟨e,fr',h',rfl,⟨rfl,rfl⟩,hk⟩:=af hF b.length
  (fun k fr hh=>∃ j,j+k=b.length/\fr 4=Ii ((j:Int) - 1)/\hh=hx h [cW (tab N (Oe b j))] [])
  (fun e fr hh=>e=.exit 0/\hh=hx h [cW (tab N (Oe b 0))] [])
  ⟨b.length,rfl,h4,rfl⟩ (by
   rintro k fr1 hh hkN hkeep ⟨j,hj,g4,rfl⟩;have g0:=kp hkeep h0;have g3:=kp hkeep h3
   cases j with
   | succ i=>
    rw [show (((i+1:Nat):Int) - 1)=(i:Int) by omega] at g4;have w1:Wr ((i:Int) - 1)=(i:Int) - 1:=wz;have w2:Wr ((i:Int) / 4)=((i / 4:Nat):Int):=wz;have hbi:=hb i (by omega);have hio:=kF h.blks.length 0 0 N (i / 4) (some N) (by simp;omega);rw [Nat.zero_add] at hio;have hat:=M6 (l:=tab N (Oe b (i+1))) (i:=i / 4) (by simp;omega);rw [dZ (by omega)] at hat;obtain ⟨r1,p,r2,r3⟩:=hr;have hib:=r2 i (by omega);have hld:=fun bs ts=>r3 i bs ts (by omega);have hlen:(cW (tab N (Oe b (i+1)))).length=N:=by simp
    have hv:Oe b (i+1) (i / 4)*256#64+bw (gd b 0 i)=Oe b i (i / 4):=by
     refine BitVec.eq_of_toNat_eq ?_;have e1:=LD hb (i+1) (i / 4);have e2:=LD hb i (i / 4);rw [Zo b i (by omega),bi] at e2;have e3:=zfj hb i (i / 4);rw [Zo b i (by omega),bi] at e3;have e4:(bw (gd b 0 i)).toNat=(gd b 0 i).toNat:=by
      obtain ⟨v,hv⟩:∃ v:Nat,gd b 0 i=(v:Int):=⟨(gd b 0 i).toNat,by omega⟩;rw [hv,MI v (by omega)];simp
     rw [BitVec.toNat_add,BitVec.toNat_mul,e1,e2,e4];rw [show dB=4294967296 from rfl] at e3;simp only [BitVec.toNat_ofNat];omega
    have hss:(cW (tab N (Oe b (i+1)))).set (i / 4) (wd (Oe b i (i / 4)))=cW (tab N (Oe b i)):=by
     rw [W9,vh]
     congr 1
     refine a8 fun q hq=>?_;split
     ·rename_i e;rw [e]
     ·rename_i e;unfold Oe;rw [zfp b i q e]
    have hrob:(V h).rob<=h.blks.length:=Nat.le_refl _;have hi4:i / 4+1<=N:=by omega
    generalize hm2:cW (tab N (Oe b i))=m2 at*;generalize cW (tab N (Oe b (i+1)))=m1 at*;generalize hq:i / 4=q at*;generalize (q:Int)=qi at*;have hnn:(i:Int)>=0:=by omega
    simp -implicitDefEqProofs [dD,g0,g3,g4,eN,w1,w2,hio,hat,ap,hib,hld,zmg, -iL,zlY,hv,am,hrob,hlen,hi4,hss];exact ⟨by omega,i,by omega,rfl,by rw [hm2]⟩
   | zero=>
    simp [dD,g4])
 exact ⟨fr',rfl,hk⟩
theorem Ix (L:az)(h:O)(x:J)(b:List Int)(hr:IY h .u8 x b)(hb:cw b)(hl:b.length < 100000000):
  Z ah L cE [x] h=some (.vsl false (eW (dg (bi b))),h):=by
 rw [xR];obtain ⟨N,hN⟩:∃ N,N=b.length / 4+1:=⟨_,rfl⟩;have hlo:=fun fr R=>Se (fr:=fr) (h:=h) (R:=R) x b hr hb N hN hl;have h0 : tab N (Oe b b.length) = tab N (fun _ => 0#64) := a8 fun q _ => by
  unfold Oe sg;rw [List.drop_eq_nil_of_le (by simp;omega)];rfl
 rw [h0] at hlo;have hvd:vD (tab N (Oe b 0))=bi b:=by rw [V6,zfr hb,List.take_of_length_le (by omega)]
 obtain ⟨r,hT,hfz⟩:=JT (V h) h [cW (tab N (Oe b 0))] [] 0 N N _ _ rfl (by rw [List.take_of_length_le (by simp)]) (by simp) (Dg.tab fun i _=>by rw [LD hb];exact zfj hb _ _) (by omega) (Nat.le_refl _);rw [hvd] at hfz;have hfz0:=hfz [];rw [List.append_nil] at hfz0;have hmk:=i7 h [] [] 1 [J.int .u64 0] .i64 (N:Int) (Zx (by omega));rw [Int.toNat_natCast,Zy] at hmk;have w1:Wr ((b.length:Int) / 4)=((b.length / 4:Nat):Int):=wz;have w2:Wr (((b.length / 4:Nat):Int)+1)=(N:Int):=wy;have w3:Wr ((b.length:Int) - 1)=(b.length:Int) - 1:=wz;have r1:=hr.1;generalize tab N (Oe b 0)=m1,tab N (fun _=>0#64)=m0,((b.length / 4:Nat):Int)=b4 at*;simp -implicitDefEqProofs [mj,r1,eN,w1,w2,w3,hmk];generalize hF:run ah _ (.loop _) _ _=R;obtain ⟨fr1,rfl,hk1⟩:=hlo _ _ hF (by simp) (by simp) (by simp);simp -implicitDefEqProofs [hk1,wr,dD,bj,hT,hfz0]
theorem Kv (L:az)(h:O)(c:Bool)(b:List Int)(hb:cw b)(hl:b.length < 100000000):
  Z ah L cE [.vsl c (eI .u8 b)] h=some (.vsl false (eW (dg (bi b))),h):=Ix L h _ b (IY.vsl h .u8 c b) hb hl
def Qv (l:List ac)(i:Nat):ac:=gd l 0#64 (2*i)+gd l 0#64 (2*i+1)*4294967296#64
theorem zo8 (x:ac):aV .mul (wd x) (.int .u64 4294967296)=some (wd (x*4294967296#64)):=XK x 4294967296#64
theorem ziT {l:List ac}(hl:Dg l)(i:Nat):(Qv l i).toNat=(gd l 0#64 (2*i)).toNat+(gd l 0#64 (2*i+1)).toNat*4294967296:=by
 have h1:=hl (2*i);have h2:=hl (2*i+1);rw [show dB=4294967296 from rfl] at h1 h2;unfold Qv;rw [BitVec.toNat_add,BitVec.toNat_mul];simp only [BitVec.toNat_ofNat];omega
theorem Zr {l:List ac}(hl:Dg l):∀ n,aQ (Qv l) n=sD (gd l 0#64) (2*n)
 | 0=>rfl
 | n + 1 => by
  rw [aQ,Zr hl n,ziT hl,show 2*(n+1)=2*n+1+1 by omega,sD,sD,Nat.pow_succ,Nat.add_mul,Nat.add_assoc,<- Nat.mul_assoc];have e:bN n=dB ^ (2*n):=by unfold bN;rw [Nat.pow_mul];rfl
  rw [e,Nat.mul_assoc,Nat.mul_comm 4294967296,<- Nat.mul_assoc];rfl
theorem U7 {fr:Fr}{h:O}{R:Option (dt × Fr × O)}(l:List ac)(n:Nat)(hn:n < 100000000)
  (hF:run ah (V h) (.loop eC) fr (hx h [cW (cV n (Qv l) (fun _=>0#64) 0)] [])=R)
  (h0:fr 0=.vsl false (eW l)) (h1:fr 1=Ii (n:Int)) (h5:fr 5=sA h.blks.length 0 0 1 0 (some n)) (h6:fr 6=Ii 0):
  ∃ fr',R=some (.exit 0,fr',hx h [cW (tab n (Qv l))] [])/\fr' 5=sA h.blks.length 0 0 1 n (some n)/\∀ t,t∉wr eC->fr' t=fr t:=by
 obtain ⟨e,fr',h',rfl,⟨rfl,rfl,h5'⟩,hk⟩:=af hF n
  (fun k fr hh=>fr 6=Ii (k:Int)/\fr 5=sA h.blks.length 0 0 1 k (some n)/\hh=hx h [cW (cV n (Qv l) (fun _=>0#64) k)] [])
  (fun e fr hh=>e=.exit 0/\hh=hx h [cW (tab n (Qv l))] []/\fr 5=sA h.blks.length 0 0 1 n (some n))
  ⟨h6,h5,rfl⟩ (by
   rintro k fr1 hh hkN hkeep ⟨g6,g5,rfl⟩;have g0:=kp hkeep h0;have g1:=kp hkeep h1;by_cases hlt:k < n
   ·have w1:Wr ((k:Int)+1)=k+1:=wz;have w2:Wr (2*(k:Int))=((2*k:Nat):Int):=wy;have w3:Wr (((2*k:Nat):Int)+1)=((2*k+1:Nat):Int):=wz;have hga:=fun L h=>Iz L h (.vsl false (eW l)) l (iV.vsl h false l) (2*k);have hgb:=fun L h=>Iz L h (.vsl false (eW l)) l (iV.vsl h false l) (2*k+1);have hrob:(V h).rob<=h.blks.length:=Nat.le_refl _;have hap:=fun cl=>zj6 (V h) h [cW (cV n (Qv l) (fun _=>0#64) k)] [] 0 k n (cV n (Qv l) (fun _=>0#64) k) (Qv l k) cl rfl hlt (by simpa using hlt) hrob;rw [nJ] at hap;simp only [List.set_cons_zero] at hap;have hS:wd (gd l 0#64 (2*k)+gd l 0#64 (2*k+1)*4294967296#64)=wd (Qv l k):=rfl;generalize hm2:cV n (Qv l) (fun _=>0#64) (k+1)=m2 at*;generalize ((2*k:Nat):Int)=i1,((2*k+1:Nat):Int)=i2,cV n (Qv l) (fun _=>0#64) k=m1 at*;have hle:(k:Int) < n:=by omega
    simp -implicitDefEqProofs [eC,g0,g1,g5,g6,hle,w1,w2,w3,hga,hgb,zo8,hS,zfX,XH,hap];exact ⟨hlt,by rw [hm2]⟩
   ·have:k=n:=by omega
    subst this;rw [tO];generalize tab k (Qv l)=m1 at*;simp [eC,g6,g5,g1])
 exact ⟨fr',rfl,h5',hk⟩
theorem zb5 (L:az)(h:O)(x:J)(l:List ac)(hx1:LV x l)(n:Nat)(hn:n < 100000000):
  Z ah L gR [x,Ii (n:Int)] h=some (.vsl false (eW (tab n (Qv l))),h):=by
 rw [Bh];have hlo:=fun fr R=>U7 (fr:=fr) (h:=h) (R:=R) l n hn;rw [kR] at hlo;have hfz:=Nb h [cW (tab n (Qv l))] [] h.toks.length 11 0 n (some n) (tab n (Qv l)) rfl (by simp);have hmk:=QA h [] [] 1 [J.int .u64 0] .i64 .i64 (n:Int) (Zx (by omega));rw [Int.toNat_natCast,Zy] at hmk;have hf1:=hx1.fz;generalize tab n (Qv l)=m1,tab n (fun _=>0#64)=m0 at*;simp -implicitDefEqProofs [oE,hf1,hmk];generalize hF:run ah _ (.loop _) _ _=R;obtain ⟨fr1,rfl,h5,hk1⟩:=hlo _ _ hF (by simp) (by simp) (by simp) (by simp);simp -implicitDefEqProofs [hk1,wr,eC,bj,h5,hfz]
theorem zfO (n:Nat)(f:Nat->ac):val (tab n f)=aQ f n:=by
 rw [ix _ n (by simp)];exact gO n fun i hi=>dZ hi
theorem zl7 (n x:Nat)(h:x < bN n):tab n (Qv (dg x))=wN n x:=by
 have hl:(dg x).length<=2*n:=Gq (by rw [Nat.pow_mul];exact h);refine val_inj (by simp) ?_;rw [zfO,Zr (xb x),<- wZ _ _ hl,j7,pE n x h]
theorem zl8 (w:ac)(k:Nat):SX (w >>> (8*k)) 256=w >>> (8*(k+1)):=by
 refine BitVec.eq_of_toNat_eq ?_;rw [LF,BitVec.toNat_ushiftRight,BitVec.toNat_ushiftRight,Nat.shiftRight_eq_div_pow,Nat.shiftRight_eq_div_pow,Nat.mul_add,Nat.pow_add,<- Nat.div_div_eq_div_mul]
theorem zl9 (w:ac):XA .u8 (wd (JR w 256))=some (.int .u8 ((w.toNat % 256:Nat):Int)):=by
 rw [ED,EU,Nat.mod_mod]
theorem Sj {fr : Fr}{h : O}{R : Option (dt × Fr × O)}(l : List ac)(i : Nat)(hi : i < l.length)(hl : l.length < 1000000)(f : Nat -> Int)(hf : f = fun j => N8 (gd l 0#64 (j / 8)) (j % 8))
  (hF:run ah (V h) (.loop eB) fr (hx h [] (gT (eI .u8 (tab (8*i) f))))=R)
  (h3:fr 3=gL (.vsl true []) h.toks.length 0 (eI .u8 (tab (8*i) f))) (h5:fr 5=wd (gd l 0#64 i)) (h6:fr 6=Ii 0):
  ∃ fr',R=some (.exit 2,fr',hx h [] (gT (eI .u8 (tab (8*(i+1)) f))))/\fr' 3=gL (.vsl true []) h.toks.length 0 (eI .u8 (tab (8*(i+1)) f))/\∀ t,t∉wr eB->fr' t=fr t:=by
 obtain ⟨e,fr',h',rfl,⟨rfl,rfl,h3'⟩,hk⟩:=af hF 8
  (fun k fr hh=>fr 6=Ii k/\fr 5=wd (gd l 0#64 i >>> (8*k))/\fr 3=gL (.vsl true []) h.toks.length 0 (eI .u8 (tab (8*i+k) f))/\hh=hx h [] (gT (eI .u8 (tab (8*i+k) f))))
  (fun e fr hh=>e=.exit 2/\hh=hx h [] (gT (eI .u8 (tab (8*(i+1)) f)))/\fr 3=gL (.vsl true []) h.toks.length 0 (eI .u8 (tab (8*(i+1)) f)))
  ⟨h6, by simpa using h5, h3, rfl⟩ (by
   rintro k fr1 hh hkN hkeep ⟨g6,g5,g3,rfl⟩;by_cases hlt:k < 8
   ·have w1:Wr ((k:Int)+1)=k+1:=wz;have hfk:((((gd l 0#64 i >>> (8*k)).toNat % 256:Nat):Int))=f (8*i+k):=by
     rw [hf];simp only [N8];rw [show (8*i+k) / 8=i by omega,show (8*i+k) % 8=k by omega]
    have hrb:=zl9 (gd l 0#64 i >>> (8*k));rw [hfk] at hrb;have hqt:=zl8 (gd l 0#64 i) k;generalize hw2:gd l 0#64 i >>> (8*(k+1))=w2 at*;generalize gd l 0#64 i >>> (8*k)=w at*;have hroom:8*i+k+1 < 274877906944:=by omega
    generalize hm:8*i+k=m at*;have hfill:∀ v:Int,al (rep [J.int .u8 0] 1) [(0,1,.int .u8 v)]=some [.int .u8 v]:=fun v=>rfl;simp [eB,g6,g5,g3,show (k:Int) < 8 by omega,w1,V,ziU,ziX,hrb, -ED,hfill,XH,fq,ER,ao,hroom,hqt];exact ⟨hlt,by rw [<- hw2,Nat.mul_add],by rw [<- hm];exact ⟨rfl,rfl⟩⟩
   ·have:k=8:=by omega
    subst this;simp [eB,g6,g3,Nat.mul_add])
 exact ⟨fr',rfl,h3',hk⟩
theorem U9 {fr : Fr}{h : O}{R : Option (dt × Fr × O)}(l : List ac)(hl : l.length < 1000000)(f : Nat -> Int)(hf : f = fun j => N8 (gd l 0#64 (j / 8)) (j % 8))
  (hF:run ah (V h) (.loop jG) fr (hx h [] (gT (eI .u8 (tab (8*0) f))))=R)
  (h0:fr 0=.vsl false (eW l)) (h3:fr 3=gL (.vsl true []) h.toks.length 0 (eI .u8 (tab (8*0) f))) (h4:fr 4=Ii 0):
  ∃ fr',R=some (.exit 0,fr',hx h [] (gT (eI .u8 (aR l))))/\fr' 3=gL (.vsl true []) h.toks.length 0 (eI .u8 (aR l)):=by
 have hb:aR l=tab (8*l.length) f:=by rw [hf];rfl
 rw [hb];obtain ⟨r1,p,r2,r3⟩:=iV.vsl h false l;obtain ⟨e,fr',h',rfl,⟨rfl,rfl,h3'⟩,hk⟩:=af hF l.length
  (fun k fr hh=>fr 4=Ii k/\fr 3=gL (.vsl true []) h.toks.length 0 (eI .u8 (tab (8*k) f))/\hh=hx h [] (gT (eI .u8 (tab (8*k) f))))
  (fun e fr hh=>e=.exit 0/\hh=hx h [] (gT (eI .u8 (tab (8*l.length) f)))/\fr 3=gL (.vsl true []) h.toks.length 0 (eI .u8 (tab (8*l.length) f)))
  ⟨h4,h3,rfl⟩ (by
   rintro k fr1 hh hkN hkeep ⟨g4,g3,rfl⟩;have g0:=kp hkeep h0;by_cases hlt:k < l.length
   ·have w1:Wr ((k:Int)+1)=k+1:=wz;have hro:=r2 k hlt;have hrd:=fun bs ts=>r3 k bs ts hlt;have hlo:=fun fr R=>Sj (fr:=fr) (h:=h) (R:=R) l k hlt hl f hf;have hle:(k:Int) < l.length:=by omega
    generalize gT (eI .u8 (tab (8*k) f))=tk at*;simp -implicitDefEqProofs [jG,g0,g3,g4,hle,hro,hrd];generalize hF:run ah _ (.loop _) _ _=R;obtain ⟨fr2,rfl,f3,hk2⟩:=hlo _ _ hF (by simp [g3]) (by simp) (by simp);simp -implicitDefEqProofs [hk2,wr,eB,bj,f3,g4,w1];exact hlt
   ·have:k=l.length:=by omega
    subst this;simp [jG,g4,g0,g3])
 exact ⟨fr',rfl,h3'⟩
theorem zca (L:az)(h:O)(x:J)(l:List ac)(hx1:LV x l)(hl:l.length < 1000000):Z ah L kw [x] h=some (.vsl false (eI .u8 (aR l)),h):=by
 rw [Bg];have hlo:=fun fr R=>U9 (fr:=fr) (h:=h) (R:=R) l hl _ rfl;have hf1:=hx1.fz;have hch:al (rep [J.int .u8 0] 0) []=some []:=rfl;have hch0:chunks 1 0 []=[]:=rfl;simp -implicitDefEqProofs [oD,hf1,hch,hch0];generalize hF:run ah _ (.loop _) _ _=R;obtain ⟨fr1,rfl,q1⟩:=hlo _ _ hF (by simp) (by simp [gL,tab]) (by simp);have hfz:=v6 (h1:=hx h [] (gT (eI .u8 (aR l)))) (nb:=h.blks.length) (nt:=h.toks.length) (n:=11) (s:=.vsl true []) (es:=eI .u8 (aR l)) (.inr rfl) (by simp);generalize aR l=bl1 at*;simp -implicitDefEqProofs [q1,hfz]
def pD:List ac:=[4026531841#64,1138881939#64,2042196113#64,674490440#64,2172737629#64,3092268470#64,3778125865#64,811880050#64]
theorem zj2:vD pD=pN:=by decide +kernel
theorem zj4:Dg pD:=by
 repeat refine Dg.cons (by decide) ?_
 exact Dg.nil
theorem zj5 (L:az)(h:O):Z ah L lM [] h=some (.vsl false (eW pD),h):=by
 rw [F5];have hf:∀ a b c d e f g i:J,al (rep [J.int .u64 0] 8) [(0,1,a),(1,1,b),(2,1,c),(3,1,d),(4,1,e),(5,1,f),(6,1,g),(7,1,i)]=some [a,b,c,d,e,f,g,i]->True:=fun _ _ _ _ _ _ _ _ _=>trivial;have hfill:al (rep [J.int .u64 0] 8) [(0,1,.int .u64 4026531841),(1,1,.int .u64 1138881939),(2,1,.int .u64 2042196113),(3,1,.int .u64 674490440),(4,1,.int .u64 2172737629),(5,1,.int .u64 3092268470),(6,1,.int .u64 3778125865),(7,1,.int .u64 811880050)]=some (cW pD):=rfl;have hch:chunks 1 8 (cW pD)=eW pD:=rfl;simp -implicitDefEqProofs [ul,hfill,hch]
theorem XI (L:az)(h:O)(x:J)(n:Nat)(hx1:LV x (dg n))(hn:n < rN):Z ah L kn [x] h=some (.vsl false (eI .u8 (aR (w4 n))),h):=by
 rw [AD];have hW:∀ L h,Z ah L gR [.vsl false (eW (dg n)),Ii 4] h=some (.vsl false (eW (tab 4 (Qv (dg n)))),h):=fun L h=>zb5 L h (.vsl false (eW (dg n))) (dg n) (LV.vsl _ _) 4 (by decide);rw [zl7 4 n hn,zis n hn] at hW;have hB:=fun L h=>zca L h (.vsl false (eW (w4 n))) (w4 n) (LV.vsl _ _) (by simp);have hf1:=hx1.fz;generalize aR (w4 n)=b4,eW (w4 n)=e4 at*;simp -implicitDefEqProofs [oy,hf1,hW,hB]
theorem zf1:pN < rN:=by decide
theorem zpd (L:az)(h:O)(x:Nat)(v:J)(hv:LV v (dg (x % pN))):Z ah L nU [.agg (cW (fe x)),v] h=some (.bool true,h):=by
 rw [EW];have hB:=fun L h=>zeU L h x;have hR:=fun L h=>XI L h (.vsl false (eW (dg (x % pN)))) (x % pN) (LV.vsl _ _) (Nat.lt_trans (Nat.mod_lt _ JG) zf1);have hf1:=hv.fz;have hfe:aR (w4 (x % pN))=feB x:=rfl;rw [hfe] at hR;have hl:=Zb x;have l1:=M3 x;have hsl:=vn 32 1 h.blks.length 0 0 (by decide);have hb2:=fun ts=>Yq h [cI .u8 (feB x)] ts 0 32 (some 32) (feB x) rfl hl;generalize eW (dg (x % pN))=ed,fe x=fx,feB x=fb at*;have hrI:=fJ .u8 0 32;simp -implicitDefEqProofs [sF,V,hf1,aa,l1,hB,hR,hrI,au,ae,hl,hsl,hb2];exact (Go.MapKept.bytes_beq _ _).2 rfl
end Go.Av
