/- The document's squares modulo the group's prime are the program's elements of the group. -/
import Derived.Test.YtbookmjmhfoolaaGreatDoorCB
import Derived.Test.YtbookmjmhfoolaaGreatDoorV7
import Derived.Test.YtbookmjmhfoolaaGreatDoorC6
set_option linter.unusedSimpArgs false
set_option linter.unusedVariables false
set_option maxHeartbeats 2000000
set_option maxRecDepth 20000
namespace Go.Av
theorem zlY:dB=4294967296:=rfl
def Mf (a:List ac)(i:Nat):ac:=Ug (gd a 0#64 i) 2+Ks (gd a 0#64 (i+1)) 2*2147483648#64
theorem ZJ {a:List ac}(ha:Dg a)(i:Nat):(Mf a i).toNat=(gd a 0#64 i).toNat / 2+(gd a 0#64 (i+1)).toNat % 2*2147483648:=by
 have h1:=ha i;have h2:=ha (i+1);rw [zlY] at h1 h2;unfold Mf;rw [BitVec.toNat_add,BitVec.toNat_mul,Mq,Fv];generalize (gd a 0#64 (i+1)).toNat=y,(gd a 0#64 i).toNat=x at*;have:(2147483648#64).toNat=2147483648:=rfl;rw [this];omega
theorem zmH {a:List ac}(ha:Dg a)(i:Nat):(Mf a i).toNat < dB:=by
 have h1:=ha i;rw [ZJ ha,zlY] at*;omega
theorem ZK {a:List ac}(ha:Dg a):∀ n,2*sD (Mf a) n+(gd a 0#64 0).toNat % 2=sD (gd a 0#64) n+(gd a 0#64 n).toNat % 2*dB ^ n
 | 0=>by simp [sD]
 | n + 1 => by
  have ih:=ZK ha n;rw [sD,sD,ZJ ha];have e1:dB ^ (n+1)=4294967296*dB ^ n:=by rw [Nat.pow_succ,Nat.mul_comm];rfl
  rw [e1];generalize dB ^ n=D at*;have e2:(gd a 0#64 n).toNat*D=2*((gd a 0#64 n).toNat / 2*D)+(gd a 0#64 n).toNat % 2*D:=by
   have:=Nat.div_add_mod (gd a 0#64 n).toNat 2
   conv=>lhs;rw [<- this]
   rw [Nat.add_mul,Nat.mul_assoc]
  rw [e2,Nat.add_mul];have e3:(gd a 0#64 (n+1)).toNat % 2*2147483648*D=(gd a 0#64 (n+1)).toNat % 2*D*2147483648:=by rw [Nat.mul_right_comm]
  have e4:(gd a 0#64 (n+1)).toNat % 2*(4294967296*D)=(gd a 0#64 (n+1)).toNat % 2*D*4294967296:=by rw [Nat.mul_left_comm,Nat.mul_comm]
  rw [e3,e4];omega
theorem zi4 {a:List ac}(ha:Dg a):sD (Mf a) a.length=vD a / 2:=by
 have h:=ZK ha a.length;rw [Hr (Nat.le_refl _),<- xO a _ (Nat.le_refl _)] at h;simp only [BitVec.toNat_ofNat,Nat.zero_mod,Nat.zero_mul,Nat.add_zero] at h;omega
theorem zeK (x:ac):aW .mul (wd x) (.int .u64 2147483648)=some (wd (x*2147483648#64)):=XD x 2147483648#64
theorem Xi {L:az}{fr:Fr}{h:O}{R:Option (cL × Fr × O)}(a:List ac)(n:Nat)(hn:a.length=n)(hl:n < 1000000000)(hL:L.rob<=h.blks.length)
  (hF:run ah L (.loop dQ) fr (hx h [cW (cY n (Mf a) (fun _=>0#64) 0)] [])=R)
  (h0:fr 0=.vsl false (eW a)) (h3:fr 3=sA h.blks.length 0 0 1 n (some n)) (h4:fr 4=Ii 0):
  ∃ fr',R=some (.exit 0,fr',hx h [cW (cY n (Mf a) (fun _=>0#64) n)] [])/\∀ t,t∉wr dQ->fr' t=fr t:=by
 obtain ⟨e,fr',h',rfl,⟨rfl,rfl⟩,hk⟩:=af hF n
  (fun k fr hh=>fr 4=Ii (k:Int)/\hh=hx h [cW (cY n (Mf a) (fun _=>0#64) k)] [])
  (fun e fr hh=>e=.exit 0/\hh=hx h [cW (cY n (Mf a) (fun _=>0#64) n)] [])
  ⟨h4,rfl⟩ (by
   rintro k fr1 hh hkN hkeep ⟨g4,rfl⟩;have g0:=kp hkeep h0;have g3:=kp hkeep h3;by_cases hlt:k < n
   ·have w1:Wr ((k:Int)+1)=((k+1:Nat):Int):=wy;obtain ⟨r1,p,r2,r3⟩:=i6.vsl h false a;have hro:=r2 k (by omega);have hrd:=fun bs ts=>r3 k bs ts (by omega);have hio:=kC h.blks.length 0 0 n k (some n) (by simp;omega);rw [Nat.zero_add] at hio;have hm:=nz n (Mf a) (fun _=>0#64) k;have hML:(cY n (Mf a) (fun _=>0#64) k).length=n:=DH _ _ _ _;generalize cY n (Mf a) (fun _=>0#64) k=M,hM':cY n (Mf a) (fun _=>0#64) (k+1)=M' at*;have hs1:=Xn M k (Ug (gd a 0#64 k) 2);have hat:(cW (M.set k (Ug (gd a 0#64 k) 2)))[k]?=some (wd (Ug (gd a 0#64 k) 2)):=by
     rw [MY (by simp;omega),qh _ _ _ _ _ (by omega),if_pos rfl]
    have hs2:(cW (M.set k (Ug (gd a 0#64 k) 2))).set k (wd (Mf a k))=cW M':=by
     rw [Xn,List.set_set,hm]
    have hlen1:(cW M).length=n:=by simp [hML]
    have hlen2:(cW (M.set k (Ug (gd a 0#64 k) 2))).length=n:=by simp [hML]
    have hkn:k+1<=n:=by omega
    have hltI:(k:Int) < a.length:=by omega
    by_cases h2:k+1 < n
    ·have hro':=r2 (k+1) (by omega);have hrd':=fun bs ts=>r3 (k+1) bs ts (by omega);have hlt2:((k+1:Nat):Int) < a.length:=by omega
     have hS:wd (Ug (gd a 0#64 k) 2+Ks (gd a 0#64 (k+1)) 2*2147483648#64)=wd (Mf a k):=rfl;generalize cW M=c0,cW (M.set k (Ug (gd a 0#64 k) 2))=c1 at*;generalize hk1e:((k+1:Nat):Int)=k1 at*;simp -implicitDefEqProofs [dQ,g0,g3,g4,hltI,w1,hlt2,hro,hrd,hro',hrd',hio,hat,hS,zaI,zkD,zeK,ao,ap,hL,hkn,hlen1,hlen2,hs1,hs2];exact ⟨hlt,by omega,by rw [hM']⟩
    ·have hnl:¬((k+1:Nat):Int) < a.length:=by omega
     have hS:Ug (gd a 0#64 k) 2=Mf a k:=by
      apply BitVec.eq_of_toNat_eq;unfold Mf;rw [Hr (l:=a) (i:=k+1) (by omega)];simp [Ks]
     rw [hS] at hs1;rw [hm] at hs1;generalize cW M=c0 at*;generalize hk1e:((k+1:Nat):Int)=k1 at*;simp -implicitDefEqProofs [dQ,g0,g3,g4,hltI,w1,hnl,hro,hrd,hio,hS,zaI,ao,ap,hL,hkn,hlen1,hs1];exact ⟨hlt,by omega,by rw [hM']⟩
   ·have:k=n:=by omega
    subst this;have hgt:¬(k:Int) < a.length:=by omega
    simp [dQ,g4,g0,hgt])
 exact ⟨fr',rfl,hk⟩
theorem zeL (L:az)(h:O)(x:J)(a:List ac)(hx1:LV x a)(ha:Dg a)(hl:a.length < 100000000):
  aa ah L lT [x] h=some (.vsl false (eW (dg (vD a / 2))),h):=by
 rw [CL];obtain ⟨n,hn⟩:∃ n,a.length=n:=⟨_,rfl⟩;have hlo:=fun fr R=>Xi (L:=V h) (fr:=fr) (h:=h) (R:=R) a n hn (by omega) (Nat.le_refl _);have hD:Dg (tab n (Mf a)):=Dg.tab fun i _=>zmH ha i;have hT:=KA (V h) h [cW (tab n (Mf a))] [] 0 n n (tab n (Mf a)) (tab n (Mf a)) rfl (by rw [List.take_of_length_le (by simp)]) (by simp) hD (by omega) (Nat.le_refl _);rw [Yf,<- hn,zi4 ha,hn] at hT;have hmk:=jv h [] [] 1 [J.int .u64 0] .i64 (n:Int) (zaP (by omega));rw [Int.toNat_natCast,zaQ,<- kT n (Mf a) fun _=>0#64] at hmk;rw [tK] at hlo;have hf1:=hx1.fz;generalize tab n (Mf a)=m1,cY n (Mf a) (fun _=>0#64) 0=m0 at*;generalize hr:eW (dg (vD a / 2))=rr at*;obtain ⟨r,hT1,hfz⟩:=hT;have hfz0:=hfz [];rw [List.append_nil] at hfz0;simp -implicitDefEqProofs [qf,hf1,hn,hmk];generalize hF:run ah _ (.loop _) _ _=R;obtain ⟨fr1,rfl,hk1⟩:=hlo _ _ hF (by simp) (by simp) (by simp);simp -implicitDefEqProofs [hk1,wr,dQ,bn,hT1,hfz0]
theorem MV (x:ac)(c:Nat)(hc:c < 2 ^ 64):aW .eql (wd x) (.int .u64 (c:Int))=some (.bool (decide (x.toNat=c))):=by
 have e:J.int .u64 (c:Int)=wd (BitVec.ofNat 64 c):=by
  unfold wd;rw [BitVec.toNat_ofNat,Nat.mod_eq_of_lt hc]
 rw [e,vz]
 congr 2
 have:(BitVec.ofNat 64 c).toNat=c:=by rw [BitVec.toNat_ofNat,Nat.mod_eq_of_lt hc]
 by_cases h:x=BitVec.ofNat 64 c
 ·subst h;simp [Nat.mod_eq_of_lt hc]
 ·have h2:¬x.toNat=c:=fun q=>h (BitVec.eq_of_toNat_eq (q.trans this.symm));simp [h,h2]
theorem R6 (A m k:Nat)(hm:dB=m*k):(Ks (gd (dg A) 0#64 0) m).toNat=A % m:=by
 rw [Fv,zrg,Nat.pow_zero,Nat.div_one,hm,Nat.mod_mul_right_mod]
theorem JV {A:Nat}(h:0 < A):0 < (dg A).length:=by
 rcases Nat.eq_zero_or_pos (dg A).length with h0 | h0
 ·have:dg A=[]:=List.length_eq_zero_iff.1 h0;have h1:=kl A;rw [this] at h1;simp [vD] at h1;omega
 ·exact h0
theorem R7 {A:Nat}(h:A < dB ^ 25):(dg A).length < 100:=by
 have:=Hy h;omega
def DI (g A n:Nat)(s:Bool):Prop:=n % 2=1/\Nat.gcd A n=1/\(gN n A+if s=true then 0 else 1) % 2=g
theorem zbJ {g A n:Nat}{s:Bool}(h:DI g A n s)(he:A % 2=0):DI g (A / 2) n (if n % 8=3\/n % 8=5 then !s else s):=by
 obtain ⟨h1,h2,h3⟩:=h;refine ⟨h1,WG h2 he,?_⟩;have:=ziI h1 h2 he;generalize gN n A=v,gN n (A / 2)=u at*;by_cases hh:n % 8=3\/n % 8=5
 ·rw [if_pos hh] at this |-
  cases s <;> simp at h3 |- <;> omega
 ·rw [if_neg hh] at this |-
  cases s <;> simp at h3 |- <;> omega
theorem zbK {g A n:Nat}{s:Bool}(h:DI g A n s)(ha:A % 2=1):DI g n A (if A % 4=3/\n % 4=3 then !s else s):=by
 obtain ⟨h1,h2,h3⟩:=h;refine ⟨ha,by rw [Nat.gcd_comm];exact h2,?_⟩;have:=ziJ ha h1 h2;generalize gN n A=v,gN A n=u at*;by_cases hh:A % 4=3/\n % 4=3
 ·rw [if_pos hh] at this |-
  cases s <;> simp at h3 |- <;> omega
 ·rw [if_neg hh] at this |-
  cases s <;> simp at h3 |- <;> omega
theorem Uw {g A n:Nat}{s:Bool}(h:DI g A n s)(hl:n<=A):DI g (A - n) n s:=by
 obtain ⟨h1,h2,h3⟩:=h;exact ⟨h1,zlM h2 hl,by rw [<- zlk hl];exact h3⟩
theorem zeQ {g n:Nat}{s:Bool}(h:DI g 0 n s):g=if s=true then 0 else 1:=by
 obtain ⟨h1,h2,h3⟩:=h;rw [zlO h2] at h3
 cases s <;> simp at h3 |- <;> omega
def sqI (g n A0 k:Nat)(fr:Fr):Prop:=∃ A s,fr 0=.vsl false (eW (dg A))/\fr 4=.bool s/\0 < A/\A+k<=A0/\DI g A n s
def sqE (g n A0:Nat)(fr:Fr):Prop:=∃ A s,fr 0=.vsl false (eW (dg A))/\fr 4=.bool s/\A % 2=1/\A<=A0/\DI g A n s
theorem zeR {fr:Fr}{h:O}{R:Option (cL × Fr × O)}(g A0 n:Nat)(hA0:0 < A0)(hA:A0 < dB ^ 25)(s0:Bool)(hj:DI g A0 n s0)
  (hF:run ah (V h) (.loop aL) fr (hx h [] [])=R)
  (h0:fr 0=.vsl false (eW (dg A0))) (h3:fr 3=.vsl false (eW (dg n))) (h4:fr 4=.bool s0):
  ∃ fr' A s,R=some (.exit 2,fr',hx h [] [])/\fr' 0=.vsl false (eW (dg A))/\fr' 4=.bool s/\A % 2=1/\A<=A0/\DI g A n s/\∀ t,t∉wr aL->fr' t=fr t:=by
 obtain ⟨e,fr',h',rfl,⟨rfl,rfl,A,s,p0,p4,p1,p2,p3⟩,hk⟩:=af hF A0
  (fun k fr hh=>hh=hx h [] []/\sqI g n A0 k fr)
  (fun e fr hh=>e=.exit 2/\hh=hx h [] []/\sqE g n A0 fr)
  ⟨rfl,A0,s0,h0,h4,hA0,Nat.le_refl _,hj⟩ (by
   rintro k fr1 hh hkN hkeep ⟨rfl,A,s,g0,g4,q1,q2,q3⟩;have g3:=kp hkeep h3;have hAl:A < dB ^ 25:=Nat.lt_of_le_of_lt (by omega) hA;clear hA;have hpos:=JV q1;obtain ⟨r1,p,r2,r3⟩:=i6.vsl h false (dg A);have hro:bA none 1 (.vsl false (eW (dg A))) (Ii 0)=some (p 0):=r2 0 hpos;have hrd:=fun bs ts=>r3 0 bs ts hpos;have hlow:=R6 A 2 2147483648 (by decide);have e1:aW .eql (wd (Ks (gd (dg A) 0#64 0) 2)) (.int .u64 0)=_:=MV (Ks (gd (dg A) 0#64 0) 2) 0 (by decide);rw [hlow] at e1;have hr2:aW .rem (wd (gd (dg A) 0#64 0)) (.int .u64 2)=_:=BD (gd (dg A) 0#64 0) 2 (by decide);generalize Ks (gd (dg A) 0#64 0) 2=x2 at*;by_cases he:A % 2=0
   ·have hh:=fun L=>zeL L (hx h [] []) (.vsl false (eW (dg A))) (dg A) (LV.vsl _ _) (xR _) (by have:=R7 hAl;omega);rw [kl] at hh;have hj2:=zbJ q3 he;have hlow8:=R6 n 8 536870912 (by decide);have hnpos:0 < (dg n).length:=JV (by have:=q3.1;omega);obtain ⟨r1',p',r2',r3'⟩:=i6.vsl h false (dg n);have hro':bA none 1 (.vsl false (eW (dg n))) (Ii 0)=some (p' 0):=r2' 0 hnpos;have hrd':=fun bs ts=>r3' 0 bs ts hnpos;have e3:aW .eql (wd (Ks (gd (dg n) 0#64 0) 8)) (.int .u64 3)=_:=MV (Ks (gd (dg n) 0#64 0) 8) 3 (by decide);have e5:aW .eql (wd (Ks (gd (dg n) 0#64 0) 8)) (.int .u64 5)=_:=MV (Ks (gd (dg n) 0#64 0) 8) 5 (by decide);rw [hlow8] at e3 e5;have hr8:aW .rem (wd (gd (dg n) 0#64 0)) (.int .u64 8)=_:=BD (gd (dg n) 0#64 0) 8 (by decide);generalize gd (dg A) 0#64 0=a0,gd (dg n) 0#64 0=n0,Ks (gd (dg n) 0#64 0) 8=x8 at*;generalize hd2:dg (A / 2)=d2 at*;generalize dg n=dn,dg A=dA at*;simp only [he,decide_true] at e1;by_cases h3':n % 8=3
    ·rw [if_pos (.inl h3')] at hj2;simp only [h3',decide_true] at e3;simp -implicitDefEqProofs [aL,V,g0,g3,g4,hro,hrd,hr2,e1,hh,hro',hrd',hr8,e3];exact ⟨by omega,A / 2,_,by simp [hd2],by simp,by omega,by omega,hj2⟩
    ·simp only [h3',decide_false] at e3;by_cases h5':n % 8=5
     ·rw [if_pos (.inr h5')] at hj2;simp only [h5',decide_true] at e5;simp -implicitDefEqProofs [aL,V,g0,g3,g4,hro,hrd,hr2,e1,hh,hro',hrd',hr8,e3,e5];exact ⟨by omega,A / 2,_,by simp [hd2],by simp,by omega,by omega,hj2⟩
     ·rw [if_neg (by omega)] at hj2;simp only [h5',decide_false] at e5;simp -implicitDefEqProofs [aL,V,g0,g3,g4,hro,hrd,hr2,e1,hh,hro',hrd',hr8,e3,e5];exact ⟨by omega,A / 2,_,by simp [hd2],by simp [g4],by omega,by omega,hj2⟩
   ·simp only [he,decide_false] at e1;simp -implicitDefEqProofs [aL,V,g0,g3,g4,hro,hrd,hr2,e1];exact ⟨A,s,by simp [g0],by simp [g4],by omega,by omega,q3⟩)
 exact ⟨fr',A,s,rfl,p0,p4,p1,p2,p3,hk⟩
def sqO (g M0 k:Nat)(fr:Fr):Prop:=∃ A n s,fr 0=.vsl false (eW (dg A))/\fr 3=.vsl false (eW (dg n))/\fr 4=.bool s/\A+n+k<=M0/\DI g A n s
def sqF (g:Nat)(fr:Fr):Prop:=∃ s,fr 4=.bool s/\g=if s=true then 0 else 1
theorem zeT (x y:Nat):decide (ka x y < 0)=decide (x < y):=by
 rcases Nat.lt_trichotomy x y with h | h | h
 ·rw [zaJ h];simp [h]
 ·subst h;rw [zaM];simp
 ·rw [zaL h];simp;omega
theorem zeU {fr:Fr}{h:O}{R:Option (cL × Fr × O)}(g A0 n0:Nat)(hM:A0+n0 < dB ^ 25)(hj:DI g A0 n0 true)
  (hF:run ah (V h) (.loop dW) fr (hx h [] [])=R)
  (h0:fr 0=.vsl false (eW (dg A0))) (h3:fr 3=.vsl false (eW (dg n0))) (h4:fr 4=.bool true):
  ∃ fr' s,R=some (.exit 0,fr',hx h [] [])/\fr' 4=.bool s/\g=(if s=true then 0 else 1)/\∀ t,t∉wr dW->fr' t=fr t:=by
 obtain ⟨e,fr',h',rfl,⟨rfl,rfl,s,p4,p1⟩,hk⟩:=af hF (A0+n0)
  (fun k fr hh=>hh=hx h [] []/\sqO g (A0+n0) k fr)
  (fun e fr hh=>e=.exit 0/\hh=hx h [] []/\sqF g fr)
  ⟨rfl,A0,n0,true,h0,h3,h4,Nat.le_refl _,hj⟩ (by
   rintro k fr1 hh hkN hkeep ⟨rfl,A,n,s,g0,g3,g4,q2,q3⟩;have hn1:=q3.1;generalize A0+n0=M0 at*;by_cases hA:A=0
   ·subst hA;have hl:dg 0=[]:=rfl;rw [hl] at g0;simp -implicitDefEqProofs [dW,g0];exact ⟨s,by simp [g4],zeQ q3⟩
   ·have hpos:=JV (Nat.pos_of_ne_zero hA);have hAl:A < dB ^ 25:=by omega
    have hlo:=fun fr R=>zeR (fr:=fr) (h:=h) (R:=R) g A n (by omega) hAl s q3;have hgt:(0:Int) < (dg A).length:=by omega
    have hle:(eW (dg A)).length=(dg A).length:=by simp
    simp -implicitDefEqProofs [dW,g0,hgt,hpos];generalize hF:run ah _ (.loop _) _ _=R;obtain ⟨fr2,A1,s1,rfl,f0,f4,f1,f2,f3,hk2⟩:=hlo _ _ hF (by simp [g0]) (by simp [g3]) (by simp [g4]);have hA1l:A1 < dB ^ 25:=by omega
    have hnl:n < dB ^ 25:=by omega
    have la:=R7 hA1l;have ln:=R7 hnl;have hA1p:=JV (show 0 < A1 by omega);have hnp:=JV (show 0 < n by omega);have hC:=fun L=>Ms L (hx h [] []) (.vsl false (eW (dg A1))) (.vsl false (eW (dg n))) (dg A1) (dg n) (i6.vsl _ _ _) (i6.vsl _ _ _) (xR _) (xR _) ⟨by omega,by omega⟩;rw [kl,kl] at hC;have hcl:=zeT A1 n;generalize ka A1 n=cm at*;have e0:=hk2 3 (by decide);simp [g3] at e0;by_cases hlt:A1 < n
    ·rw [decide_eq_true hlt] at hcl;have hcl:=of_decide_eq_true hcl;have hj2:=zbK f3 f1;have hS:=fun L=>za0 L (hx h [] []) (.vsl false (eW (dg n))) (.vsl false (eW (dg A1))) (dg n) (dg A1) (LV.vsl _ _) (LV.vsl _ _) (xR _) (xR _) (by omega) (za5 (by omega)) (by rw [kl,kl];omega);rw [kl,kl] at hS;obtain ⟨r1,p,r2,r3⟩:=i6.vsl h false (dg A1);have hro:bA none 1 (.vsl false (eW (dg A1))) (Ii 0)=some (p 0):=r2 0 hA1p;have hrd:=fun bs ts=>r3 0 bs ts hA1p;obtain ⟨r1',p',r2',r3'⟩:=i6.vsl h false (dg n);have hro':bA none 1 (.vsl false (eW (dg n))) (Ii 0)=some (p' 0):=r2' 0 hnp;have hrd':=fun bs ts=>r3' 0 bs ts hnp;have lw1:=R6 A1 4 1073741824 (by decide);have lw2:=R6 n 4 1073741824 (by decide);have e1:aW .eql (wd (Ks (gd (dg A1) 0#64 0) 4)) (.int .u64 3)=_:=MV (Ks (gd (dg A1) 0#64 0) 4) 3 (by decide);have e2:aW .eql (wd (Ks (gd (dg n) 0#64 0) 4)) (.int .u64 3)=_:=MV (Ks (gd (dg n) 0#64 0) 4) 3 (by decide);rw [lw1] at e1;rw [lw2] at e2;have m1:aW .rem (wd (gd (dg A1) 0#64 0)) (.int .u64 4)=_:=BD (gd (dg A1) 0#64 0) 4 (by decide);have m2:aW .rem (wd (gd (dg n) 0#64 0)) (.int .u64 4)=_:=BD (gd (dg n) 0#64 0) 4 (by decide);generalize gd (dg n) 0#64 0=y2,gd (dg A1) 0#64 0=y1,Ks (gd (dg n) 0#64 0) 4=x2,Ks (gd (dg A1) 0#64 0) 4=x1 at*;generalize hd1:dg A1=d1 at*;generalize hd2:dg n=d2 at*;generalize hd3:dg (n - A1)=d3 at*;have hfin:∀ fr' s',fr' 0=.vsl false (eW d3)->fr' 3=.vsl false (eW d1)->fr' 4=.bool s'->DI g n A1 s'->sqO g M0 (k+1) fr':=fun fr' s' a b c d=>⟨n - A1,A1,s',by rw [a,hd3],by rw [b,hd1],c,by omega,Uw d (by omega)⟩;by_cases h1:A1 % 4=3
     ·simp only [h1,decide_true] at e1;by_cases h2:n % 4=3
      ·simp only [h2,decide_true] at e2;rw [if_pos ⟨h1,h2⟩] at hj2;simp -implicitDefEqProofs [hk2,wr,aL,bn,g3,f0,f4,hC,hcl,hro,hrd,hro',hrd',m1,m2,e1,e2,hS];exact ⟨by omega,hfin _ _ (by simp) (by simp) (by simp) hj2⟩
      ·simp only [h2,decide_false] at e2;rw [if_neg (fun q=>h2 q.2)] at hj2;simp -implicitDefEqProofs [hk2,wr,aL,bn,g3,f0,f4,hC,hcl,hro,hrd,hro',hrd',m1,m2,e1,e2,hS];exact ⟨by omega,hfin _ _ (by simp) (by simp) (by simp [f4]) hj2⟩
     ·simp only [h1,decide_false] at e1;rw [if_neg (fun q=>h1 q.1)] at hj2;simp -implicitDefEqProofs [hk2,wr,aL,bn,g3,f0,f4,hC,hcl,hro,hrd,hro',hrd',m1,m2,e1,hS];exact ⟨by omega,hfin _ _ (by simp) (by simp) (by simp [f4]) hj2⟩
    ·rw [decide_eq_false hlt] at hcl;have hcl:=of_decide_eq_false hcl;have hS:=fun L=>za0 L (hx h [] []) (.vsl false (eW (dg A1))) (.vsl false (eW (dg n))) (dg A1) (dg n) (LV.vsl _ _) (LV.vsl _ _) (xR _) (xR _) (by omega) (za5 (by omega)) (by rw [kl,kl];omega);rw [kl,kl] at hS;have hj2:=Uw f3 (show n<=A1 by omega);generalize hd3:dg (A1 - n)=d3 at*;generalize hd1:dg A1=d1 at*;generalize hd2:dg n=d2 at*;simp -implicitDefEqProofs [hk2,wr,aL,bn,g3,f0,f4,hC,hcl,hS];exact ⟨by omega,A1 - n,n,s1,by simp [hd3],by simp [hk2,wr,aL,bn,g3,hd2],by simp [f4],by omega,hj2⟩)
 exact ⟨fr',s,rfl,p4,p1,hk⟩
def gD:List ac:=[4294967295#64,4294967295#64,2788832800#64,4098638569#64,1650360006#64,3833967990#64,1834074693#64,1340159341#64,4066317367#64,808127085#64,3443147547#64,4019526067#64,2385773789#64,1363806329#64,991140642#64,34324134#64,2322058356#64,688016904#64,2161908945#64,3301335691#64,560513588#64,3373259426#64,4294967295#64,4294967295#64]
theorem zqz:vD gD=zc:=by decide +kernel
theorem zmT:val gW=zc:=by decide +kernel
theorem zqA:val qW=qN:=by decide +kernel
theorem zqC:Dg gD:=by
 repeat refine Dg.cons (by decide) ?_
 exact Dg.nil
theorem zqD:gD=dg zc:=by rw [<- zqz];exact zmd ⟨zqC,.inr (by decide)⟩
theorem ze3:zc < dB ^ 24:=by decide +kernel
theorem Xv (L:az)(h:O):aa ah L jM [] h=some (.vsl false (eW (dg zc)),h):=by
 rw [G3,<- zqD];have hfill:ak (rep [J.int .u64 0] 24) [(0,1,.int .u64 4294967295),(1,1,.int .u64 4294967295),(2,1,.int .u64 2788832800),(3,1,.int .u64 4098638569),(4,1,.int .u64 1650360006),(5,1,.int .u64 3833967990),(6,1,.int .u64 1834074693),(7,1,.int .u64 1340159341),(8,1,.int .u64 4066317367),(9,1,.int .u64 808127085),(10,1,.int .u64 3443147547),(11,1,.int .u64 4019526067),(12,1,.int .u64 2385773789),(13,1,.int .u64 1363806329),(14,1,.int .u64 991140642),(15,1,.int .u64 34324134),(16,1,.int .u64 2322058356),(17,1,.int .u64 688016904),(18,1,.int .u64 2161908945),(19,1,.int .u64 3301335691),(20,1,.int .u64 560513588),(21,1,.int .u64 3373259426),(22,1,.int .u64 4294967295),(23,1,.int .u64 4294967295)]=some (cW gD):=rfl;have hch:chunks 1 24 (cW gD)=eW gD:=rfl;simp -implicitDefEqProofs [uK,hfill,hch]
theorem UC (P A g:Nat)(hP:∀ L h,aa ah L jM [] h=some (.vsl false (eW (dg P)),h))(hM:A+P < dB ^ 25)(hj:DI g A P true)(L:az)(h:O)(x:J)(hx1:LV x (dg A)):
  aa ah L eu [x] h=some (.bool (decide (g=0)),h):=by
 rw [Ap];have hf1:=hx1.fz;have hlo:=fun fr R=>zeU (fr:=fr) (h:=h) (R:=R) g A P hM hj;generalize dg A=dA,dg P=dP at*;simp -implicitDefEqProofs [nP,hf1,hP];generalize hF:run ah _ (.loop _) _ _=R;obtain ⟨fr1,s,rfl,f4,f1,hk1⟩:=hlo _ _ hF (by simp) (by simp) (by simp)
 have hs:decide (g=0)=s:=by rw [f1];cases s <;> rfl
 simp -implicitDefEqProofs [hk1,wr,dW,aL,bn,f4,hs]
theorem ze5 {A P:Nat}(h1:P < dB ^ 24)(h2:A < P):A+P < dB ^ 25:=by
 rw [Nat.pow_succ];have:dB ^ 24*2<=dB ^ 24*dB:=Nat.mul_le_mul_left _ (by decide);omega
theorem zmX {A P g:Nat}(h1:P % 2=1)(h2:Nat.gcd A P=1)(hg:g=gN P A % 2):DI g A P true:=⟨h1,h2,by rw [hg];simp⟩
theorem zmZ {A:Nat}(h0:0 < A)(hA:A < zc):DI (gN zc A % 2) A zc true:=zmX zbu (zlQ h0 hA) rfl
theorem XA (L:az)(h:O)(x:J)(A:Nat)(hx1:LV x (dg A))(h0:0 < A)(hA:A < zc):
  aa ah L eu [x] h=some (.bool (decide (gN zc A % 2=0)),h):=
 UC zc A (gN zc A % 2) Xv (ze5 ze3 hA) (zmZ h0 hA) L h x hx1
theorem ze7 (x y:Nat):decide (ka x y>=0)=decide (y<=x):=zle x y
def W0 (b:List Int):Int:=if b.length=96 then (if bx b < zc then 0 else 4) else 1
theorem zbU (L:az)(h:O)(c:Bool)(b:List Int)(hb:ce b)(hl:b.length < 100000000):
  aa ah L lJ [.bool true,.vsl c (eI .u8 b)] h=some (.tup [if W0 b=0 then .vsl false (eW (dg (bx b))) else .vsl false [],Ii (W0 b)],h):=by
 rw [Dq];have hP:=Xv;have hO:=fun L h=>Lw L h false b hb hl;have hf:=fR h c (eI .u8 b);have hSz : ∀ L h, aa ah L lS [.bool true] h = some (.vsl false (eW (dg zc)), h) := fun L h => by
  rw [DA];have hP:=Xv;generalize dg zc=dP at*;simp -implicitDefEqProofs [qe,hP]
 unfold W0;by_cases h96:b.length=96
 ·have hbd:bx b < dB ^ 24:=by
   have:=yX hb;rw [h96] at this;exact this
  have hlb:=Hy hbd;have hlp:=Hy ze3;have hC:=fun L h=>Ms L h (.vsl false (eW (dg (bx b)))) (.vsl false (eW (dg zc))) (dg (bx b)) (dg zc) (i6.vsl _ _ _) (i6.vsl _ _ _) (xR _) (xR _) ⟨by omega,by omega⟩;rw [kl,kl] at hC;have hcl:=ze7 (bx b) zc;generalize ka (bx b) zc=cm at*;rw [if_pos h96];by_cases hlt:bx b < zc
  ·rw [if_pos hlt,if_pos rfl];rw [decide_eq_false (show ¬zc<=bx b by omega)] at hcl;have hcl:=of_decide_eq_false hcl;have hcl2:¬(0:Int)<=cm:=hcl;generalize dg (bx b)=db,dg zc=dP at*;have hlen:(eI .u8 b).length=96:=by simp [h96]
   generalize eI .u8 b=ebb at*;simp -implicitDefEqProofs [ja,hf,hO,hSz,hC,hlen,bne,hcl,hcl2]
  ·rw [if_neg hlt,if_neg (by decide)];rw [decide_eq_true (show zc<=bx b by omega)] at hcl;have hcl:=of_decide_eq_true hcl;have hcl2:(0:Int)<=cm:=hcl;generalize dg (bx b)=db,dg zc=dP at*;have hlen:(eI .u8 b).length=96:=by simp [h96]
   generalize eI .u8 b=ebb at*;simp -implicitDefEqProofs [ja,hf,hO,hSz,hC,hlen,bne,hcl,hcl2]
 ·rw [if_neg h96,if_neg (by decide)];have hlen:(((eI .u8 b).length:Int)==96)=false:=beq_false_of_ne (by simp;omega);generalize eI .u8 b=ebb at*;simp -implicitDefEqProofs [ja,hf,hlen,bne]
theorem zjh (b:List Int):MG b=if W0 b=0 then (if 0 < bx b/\gN zc (bx b) % 2=0 then 0 else 4) else W0 b:=by
 unfold MG W0;rw [zmT,zqA];by_cases h96:b.length=96
 ·rw [if_pos h96,if_pos h96];by_cases hlt:bx b < zc
  ·rw [if_pos hlt,if_pos hlt,if_pos rfl];have h:=TV hlt;have hp:Ud (bx b) qN zc=bx b ^ qN % zc:=by unfold Ud;exact rfl
   rw [hp];by_cases hq:bx b ^ qN % zc=1
   ·rw [if_pos hq,if_pos (h.1 hq)]
   ·rw [if_neg hq,if_neg (fun q=>hq (h.2 q))]
  ·rw [if_neg hlt,if_neg hlt,if_neg (by decide)]
 ·rw [if_neg h96,if_neg h96,if_neg (by decide)]
theorem XC (L:az)(h:O)(c:Bool)(b:List Int)(hb:ce b)(hl:b.length < 100000000)(g e:Int)(hg:g=W0 b)(q:Bool)
  (hS:∀ L h,W0 b=0->0 < bx b->aa ah L eu [.vsl false (eW (dg (bx b)))] h=some (.bool q,h))
  (he:e=if W0 b=0 then (if 0 < bx b/\q=true then 0 else 4) else W0 b):
  aa ah L iW [.vsl c (eI .u8 b)] h=some (.tup [if e=0 then .vsl false (eW (dg (bx b))) else .vsl false [],Ii e],h):=by
 rw [C7];have hR:=fun L h=>zbU L h false b hb hl;have hf:=fR h c (eI .u8 b);by_cases h0:W0 b=0
 ·rw [if_pos h0] at he;rw [if_pos h0,h0] at hR;by_cases hp:0 < bx b
  ·have hS:=fun L h=>hS L h h0 hp;have hpos:=JV hp;have hln:(((eW (dg (bx b))).length:Int)==0)=false:=beq_false_of_ne (by rw [show (eW (dg (bx b))).length=(dg (bx b)).length by simp];omega);have hln3:(((dg (bx b)).length:Int)==0)=false:=beq_false_of_ne (by omega);have hln2:¬dg (bx b)=[]:=fun q=>by rw [q] at hpos;simp at hpos
   cases q with
   | true=>
    rw [if_pos ⟨hp,rfl⟩] at he;subst he;rw [if_pos rfl];generalize eI .u8 b=ebb,dg (bx b)=db at*;simp -implicitDefEqProofs [fE,hf,hR,hS,hln,hln2,hln3,bne]
   | false=>
    rw [if_neg (fun q=>by simp at q)] at he;subst he;rw [if_neg (by decide)];generalize eI .u8 b=ebb,dg (bx b)=db at*;simp -implicitDefEqProofs [fE,hf,hR,hS,hln,hln2,hln3,bne]
  ·have h00:bx b=0:=by omega
   rw [if_neg (fun q=>hp q.1)] at he;subst he;rw [if_neg (by decide)];rw [h00] at hR;have hd0:dg 0=[]:=rfl;rw [hd0] at hR;generalize eI .u8 b=ebb at*;simp -implicitDefEqProofs [fE,hf,hR,bne]
 ·rw [if_neg h0] at he;subst he;rw [if_neg h0] at hR |-;have hne:(W0 b==0)=false:=beq_false_of_ne h0;generalize eI .u8 b=ebb,W0 b=r at*;simp -implicitDefEqProofs [fE,hf,hR,hne,bne]
theorem zm3 {b:List Int}(h0:W0 b=0):bx b < zc:=by
 unfold W0 at h0;split at h0
 ·split at h0
  ·assumption
  ·simp at h0
 ·simp at h0
theorem zbX (L:az)(h:O)(c:Bool)(b:List Int)(hb:ce b)(hl:b.length < 100000000):
  aa ah L iW [.vsl c (eI .u8 b)] h=some (.tup [if MG b=0 then .vsl false (eW (dg (bx b))) else .vsl false [],Ii (MG b)],h):=
 XC L h c b hb hl (W0 b) (MG b) rfl (decide (gN zc (bx b) % 2=0)) (fun L h h0 hp=>XA L h _ _ (LV.vsl _ _) hp (zm3 h0)) (by rw [zjh];simp only [decide_eq_true_eq])
theorem zbY (L:az)(h:O)(c:Bool)(b:List Int)(hb:ce b)(hl:b.length=32):
  ∃ v,aa ah L lG [.vsl c (eI .u8 b)] h=some (.tup [v,Ii (AE 3 b)],h)/\v.cells=[v]/\v.okV=true:=by
 rw [C6];have hP:=zlX;have hO:=fun L h=>Lw L h false b hb (by omega);have hf:=fR h c (eI .u8 b);have hbd:bx b < dB ^ 8:=by
  have:=yX hb;rw [hl] at this;exact this
 have hlb:=Hy hbd;have hC:=fun L h=>Ms L h (.vsl false (eW (dg (bx b)))) (.vsl false (eW pD)) (dg (bx b)) pD (i6.vsl _ _ _) (i6.vsl _ _ _) (xR _) zlW ⟨by omega,by decide⟩;rw [kl,zlV] at hC;have hcl:=ze7 (bx b) pN;generalize ka (bx b) pN=cm at*;unfold AE;rw [if_pos rfl];have hlen:(eI .u8 b).length=32:=by simp [hl]
 by_cases hlt:bx b < pN
 ·rw [if_pos hlt];rw [decide_eq_false (show ¬pN<=bx b by omega)] at hcl;have hcl:=of_decide_eq_false hcl;have hcl2:¬(0:Int)<=cm:=hcl;generalize eI .u8 b=ebb,dg (bx b)=db,pD=dP at*;refine ⟨.vsl false (eW db),?_,rfl,rfl⟩;simp -implicitDefEqProofs [lD,hf,hO,hP,hC,hlen,bne,hcl,hcl2]
 ·rw [if_neg hlt];rw [decide_eq_true (show pN<=bx b by omega)] at hcl;have hcl:=of_decide_eq_true hcl;have hcl2:(0:Int)<=cm:=hcl;generalize eI .u8 b=ebb,dg (bx b)=db,pD=dP at*;refine ⟨.vsl false [],?_,rfl,rfl⟩;simp -implicitDefEqProofs [lD,hf,hO,hP,hC,hlen,bne,hcl,hcl2]
end Go.Av
