/- The document's squares modulo the group's prime are the program's elements of the group. -/
import Derived.Test.YtafkceblllhheaaGreatDoorCB
import Derived.Test.YtafkceblllhheaaGreatDoorV7
import Derived.Test.YtafkceblllhheaaGreatDoorC6
set_option linter.unusedSimpArgs false
set_option linter.unusedVariables false
set_option maxHeartbeats 2000000
set_option maxRecDepth 20000
namespace Go.Av
theorem zj7:dB=4294967296:=rfl
def LH (a:List ac)(i:Nat):ac:=SX (gd a 0#64 i) 2+JR (gd a 0#64 (i+1)) 2*2147483648#64
theorem ZG {a:List ac}(ha:Dg a)(i:Nat):(LH a i).toNat=(gd a 0#64 i).toNat / 2+(gd a 0#64 (i+1)).toNat % 2*2147483648:=by
 have h1:=ha i;have h2:=ha (i+1);rw [zj7] at h1 h2;unfold LH;rw [BitVec.toNat_add,BitVec.toNat_mul,LF,EU];generalize (gd a 0#64 (i+1)).toNat=y,(gd a 0#64 i).toNat=x at*;have:(2147483648#64).toNat=2147483648:=rfl;rw [this];omega
theorem zmi {a:List ac}(ha:Dg a)(i:Nat):(LH a i).toNat < dB:=by
 have h1:=ha i;rw [ZG ha,zj7] at*;omega
theorem ZK {a:List ac}(ha:Dg a):∀ n,2*sD (LH a) n+(gd a 0#64 0).toNat % 2=sD (gd a 0#64) n+(gd a 0#64 n).toNat % 2*dB ^ n
 | 0=>by simp [sD]
 | n + 1 => by
  have ih:=ZK ha n;rw [sD,sD,ZG ha];have e1:dB ^ (n+1)=4294967296*dB ^ n:=by rw [Nat.pow_succ,Nat.mul_comm];rfl
  rw [e1];generalize dB ^ n=D at*;have e2:(gd a 0#64 n).toNat*D=2*((gd a 0#64 n).toNat / 2*D)+(gd a 0#64 n).toNat % 2*D:=by
   have:=Nat.div_add_mod (gd a 0#64 n).toNat 2
   conv=>lhs;rw [<- this]
   rw [Nat.add_mul,Nat.mul_assoc]
  rw [e2,Nat.add_mul];have e3:(gd a 0#64 (n+1)).toNat % 2*2147483648*D=(gd a 0#64 (n+1)).toNat % 2*D*2147483648:=by rw [Nat.mul_right_comm]
  have e4:(gd a 0#64 (n+1)).toNat % 2*(4294967296*D)=(gd a 0#64 (n+1)).toNat % 2*D*4294967296:=by rw [Nat.mul_left_comm,Nat.mul_comm]
  rw [e3,e4];omega
theorem zjh {a:List ac}(ha:Dg a):sD (LH a) a.length=vD a / 2:=by
 have h:=ZK ha a.length;rw [Gg (Nat.le_refl _),<- wZ a _ (Nat.le_refl _)] at h;simp only [BitVec.toNat_ofNat,Nat.zero_mod,Nat.zero_mul,Nat.add_zero] at h;omega
theorem zga (x:ac):aV .mul (wd x) (.int .u64 2147483648)=some (wd (x*2147483648#64)):=XK x 2147483648#64
theorem XM {L:az}{fr:Fr}{h:O}{R:Option (dt × Fr × O)}(a:List ac)(n:Nat)(hn:a.length=n)(hl:n < 1000000000)(hL:L.rob<=h.blks.length)
  (hF:run ah L (.loop dN) fr (hx h [cW (cV n (LH a) (fun _=>0#64) 0)] [])=R)
  (h0:fr 0=.vsl false (eW a)) (h3:fr 3=sA h.blks.length 0 0 1 n (some n)) (h4:fr 4=Ii 0):
  ∃ fr',R=some (.exit 0,fr',hx h [cW (cV n (LH a) (fun _=>0#64) n)] [])/\∀ t,t∉wr dN->fr' t=fr t:=by
 obtain ⟨e,fr',h',rfl,⟨rfl,rfl⟩,hk⟩:=af hF n
  (fun k fr hh=>fr 4=Ii (k:Int)/\hh=hx h [cW (cV n (LH a) (fun _=>0#64) k)] [])
  (fun e fr hh=>e=.exit 0/\hh=hx h [cW (cV n (LH a) (fun _=>0#64) n)] [])
  ⟨h4,rfl⟩ (by
   rintro k fr1 hh hkN hkeep ⟨g4,rfl⟩;have g0:=kp hkeep h0;have g3:=kp hkeep h3;by_cases hlt:k < n
   ·have w1:Wr ((k:Int)+1)=((k+1:Nat):Int):=wy;obtain ⟨r1,p,r2,r3⟩:=iV.vsl h false a;have hro:=r2 k (by omega);have hrd:=fun bs ts=>r3 k bs ts (by omega);have hio:=kF h.blks.length 0 0 n k (some n) (by simp;omega);rw [Nat.zero_add] at hio;have hm:=nJ n (LH a) (fun _=>0#64) k;have hML:(cV n (LH a) (fun _=>0#64) k).length=n:=DN _ _ _ _;generalize cV n (LH a) (fun _=>0#64) k=M,hM':cV n (LH a) (fun _=>0#64) (k+1)=M' at*;have hs1:=W9 M k (SX (gd a 0#64 k) 2);have hat:(cW (M.set k (SX (gd a 0#64 k) 2)))[k]?=some (wd (SX (gd a 0#64 k) 2)):=by
     rw [M6 (by simp;omega),pB _ _ _ _ _ (by omega),if_pos rfl]
    have hs2:(cW (M.set k (SX (gd a 0#64 k) 2))).set k (wd (LH a k))=cW M':=by
     rw [W9,List.set_set,hm]
    have hlen1:(cW M).length=n:=by simp [hML]
    have hlen2:(cW (M.set k (SX (gd a 0#64 k) 2))).length=n:=by simp [hML]
    have hkn:k+1<=n:=by omega
    have hltI:(k:Int) < a.length:=by omega
    by_cases h2:k+1 < n
    ·have hro':=r2 (k+1) (by omega);have hrd':=fun bs ts=>r3 (k+1) bs ts (by omega);have hlt2:((k+1:Nat):Int) < a.length:=by omega
     have hS:wd (SX (gd a 0#64 k) 2+JR (gd a 0#64 (k+1)) 2*2147483648#64)=wd (LH a k):=rfl;generalize cW M=c0,cW (M.set k (SX (gd a 0#64 k) 2))=c1 at*;generalize hk1e:((k+1:Nat):Int)=k1 at*;simp -implicitDefEqProofs [dN,g0,g3,g4,hltI,w1,hlt2,hro,hrd,hro',hrd',hio,hat,hS,Zs,ziZ,zga,ap,am,hL,hkn,hlen1,hlen2,hs1,hs2];exact ⟨hlt,by omega,by rw [hM']⟩
    ·have hnl:¬((k+1:Nat):Int) < a.length:=by omega
     have hS:SX (gd a 0#64 k) 2=LH a k:=by
      apply BitVec.eq_of_toNat_eq;unfold LH;rw [Gg (l:=a) (i:=k+1) (by omega)];simp [JR]
     rw [hS] at hs1;rw [hm] at hs1;generalize cW M=c0 at*;generalize hk1e:((k+1:Nat):Int)=k1 at*;simp -implicitDefEqProofs [dN,g0,g3,g4,hltI,w1,hnl,hro,hrd,hio,hS,Zs,ap,am,hL,hkn,hlen1,hs1];exact ⟨hlt,by omega,by rw [hM']⟩
   ·have:k=n:=by omega
    subst this;have hgt:¬(k:Int) < a.length:=by omega
    simp [dN,g4,g0,hgt])
 exact ⟨fr',rfl,hk⟩
theorem zgb (L:az)(h:O)(x:J)(a:List ac)(hx1:LV x a)(ha:Dg a)(hl:a.length < 100000000):
  Z ah L li [x] h=some (.vsl false (eW (dg (vD a / 2))),h):=by
 rw [Cp];obtain ⟨n,hn⟩:∃ n,a.length=n:=⟨_,rfl⟩;have hlo:=fun fr R=>XM (L:=V h) (fr:=fr) (h:=h) (R:=R) a n hn (by omega) (Nat.le_refl _);have hD:Dg (tab n (LH a)):=Dg.tab fun i _=>zmi ha i;have hT:=JT (V h) h [cW (tab n (LH a))] [] 0 n n (tab n (LH a)) (tab n (LH a)) rfl (by rw [List.take_of_length_le (by simp)]) (by simp) hD (by omega) (Nat.le_refl _);rw [V6,<- hn,zjh ha,hn] at hT;have hmk:=i7 h [] [] 1 [J.int .u64 0] .i64 (n:Int) (Zx (by omega));rw [Int.toNat_natCast,Zy,<- kR n (LH a) fun _=>0#64] at hmk;rw [tO] at hlo;have hf1:=hx1.fz;generalize tab n (LH a)=m1,cV n (LH a) (fun _=>0#64) 0=m0 at*;generalize hr:eW (dg (vD a / 2))=rr at*;obtain ⟨r,hT1,hfz⟩:=hT;have hfz0:=hfz [];rw [List.append_nil] at hfz0;simp -implicitDefEqProofs [pK,hf1,hn,hmk];generalize hF:run ah _ (.loop _) _ _=R;obtain ⟨fr1,rfl,hk1⟩:=hlo _ _ hF (by simp) (by simp) (by simp);simp -implicitDefEqProofs [hk1,wr,dN,bj,hT1,hfz0]
theorem NK (x:ac)(c:Nat)(hc:c < 2 ^ 64):aV .eql (wd x) (.int .u64 (c:Int))=some (.bool (decide (x.toNat=c))):=by
 have e:J.int .u64 (c:Int)=wd (BitVec.ofNat 64 c):=by
  unfold wd;rw [BitVec.toNat_ofNat,Nat.mod_eq_of_lt hc]
 rw [e,uR]
 congr 2
 have:(BitVec.ofNat 64 c).toNat=c:=by rw [BitVec.toNat_ofNat,Nat.mod_eq_of_lt hc]
 by_cases h:x=BitVec.ofNat 64 c
 ·subst h;simp [Nat.mod_eq_of_lt hc]
 ·have h2:¬x.toNat=c:=fun q=>h (BitVec.eq_of_toNat_eq (q.trans this.symm));simp [h,h2]
theorem So (A m k:Nat)(hm:dB=m*k):(JR (gd (dg A) 0#64 0) m).toNat=A % m:=by
 rw [EU,zn6,Nat.pow_zero,Nat.div_one,hm,Nat.mod_mul_right_mod]
theorem J1 {A:Nat}(h:0 < A):0 < (dg A).length:=by
 rcases Nat.eq_zero_or_pos (dg A).length with h0 | h0
 ·have:dg A=[]:=List.length_eq_zero_iff.1 h0;have h1:=j7 A;rw [this] at h1;simp [vD] at h1;omega
 ·exact h0
theorem Sq {A:Nat}(h:A < dB ^ 25):(dg A).length < 100:=by
 have:=Gq h;omega
def Ee (g A n:Nat)(s:Bool):Prop:=n % 2=1/\Nat.gcd A n=1/\(gN n A+if s=true then 0 else 1) % 2=g
theorem zci {g A n:Nat}{s:Bool}(h:Ee g A n s)(he:A % 2=0):Ee g (A / 2) n (if n % 8=3\/n % 8=5 then !s else s):=by
 obtain ⟨h1,h2,h3⟩:=h;refine ⟨h1,T5 h2 he,?_⟩;have:=zdl h1 h2 he;generalize gN n A=v,gN n (A / 2)=u at*;by_cases hh:n % 8=3\/n % 8=5
 ·rw [if_pos hh] at this |-
  cases s <;> simp at h3 |- <;> omega
 ·rw [if_neg hh] at this |-
  cases s <;> simp at h3 |- <;> omega
theorem zcj {g A n:Nat}{s:Bool}(h:Ee g A n s)(ha:A % 2=1):Ee g n A (if A % 4=3/\n % 4=3 then !s else s):=by
 obtain ⟨h1,h2,h3⟩:=h;refine ⟨ha,by rw [Nat.gcd_comm];exact h2,?_⟩;have:=zdm ha h1 h2;generalize gN n A=v,gN A n=u at*;by_cases hh:A % 4=3/\n % 4=3
 ·rw [if_pos hh] at this |-
  cases s <;> simp at h3 |- <;> omega
 ·rw [if_neg hh] at this |-
  cases s <;> simp at h3 |- <;> omega
theorem Vl {g A n:Nat}{s:Bool}(h:Ee g A n s)(hl:n<=A):Ee g (A - n) n s:=by
 obtain ⟨h1,h2,h3⟩:=h;exact ⟨h1,zhv h2 hl,by rw [<- zhI hl];exact h3⟩
theorem zgm {g n:Nat}{s:Bool}(h:Ee g 0 n s):g=if s=true then 0 else 1:=by
 obtain ⟨h1,h2,h3⟩:=h;rw [zhw h2] at h3
 cases s <;> simp at h3 |- <;> omega
def sqI (g n A0 k:Nat)(fr:Fr):Prop:=∃ A s,fr 0=.vsl false (eW (dg A))/\fr 4=.bool s/\0 < A/\A+k<=A0/\Ee g A n s
def sqE (g n A0:Nat)(fr:Fr):Prop:=∃ A s,fr 0=.vsl false (eW (dg A))/\fr 4=.bool s/\A % 2=1/\A<=A0/\Ee g A n s
theorem zgo {fr:Fr}{h:O}{R:Option (dt × Fr × O)}(g A0 n:Nat)(hA0:0 < A0)(hA:A0 < dB ^ 25)(s0:Bool)(hj:Ee g A0 n s0)
  (hF:run ah (V h) (.loop aH) fr (hx h [] [])=R)
  (h0:fr 0=.vsl false (eW (dg A0))) (h3:fr 3=.vsl false (eW (dg n))) (h4:fr 4=.bool s0):
  ∃ fr' A s,R=some (.exit 2,fr',hx h [] [])/\fr' 0=.vsl false (eW (dg A))/\fr' 4=.bool s/\A % 2=1/\A<=A0/\Ee g A n s/\∀ t,t∉wr aH->fr' t=fr t:=by
 obtain ⟨e,fr',h',rfl,⟨rfl,rfl,A,s,p0,p4,p1,p2,p3⟩,hk⟩:=af hF A0
  (fun k fr hh=>hh=hx h [] []/\sqI g n A0 k fr)
  (fun e fr hh=>e=.exit 2/\hh=hx h [] []/\sqE g n A0 fr)
  ⟨rfl,A0,s0,h0,h4,hA0,Nat.le_refl _,hj⟩ (by
   rintro k fr1 hh hkN hkeep ⟨rfl,A,s,g0,g4,q1,q2,q3⟩;have g3:=kp hkeep h3;have hAl:A < dB ^ 25:=Nat.lt_of_le_of_lt (by omega) hA;clear hA;have hpos:=J1 q1;obtain ⟨r1,p,r2,r3⟩:=iV.vsl h false (dg A);have hro:bO none 1 (.vsl false (eW (dg A))) (Ii 0)=some (p 0):=r2 0 hpos;have hrd:=fun bs ts=>r3 0 bs ts hpos;have hlow:=So A 2 2147483648 (by decide);have e1:aV .eql (wd (JR (gd (dg A) 0#64 0) 2)) (.int .u64 0)=_:=NK (JR (gd (dg A) 0#64 0) 2) 0 (by decide);rw [hlow] at e1;have hr2:aV .rem (wd (gd (dg A) 0#64 0)) (.int .u64 2)=_:=Bm (gd (dg A) 0#64 0) 2 (by decide);generalize JR (gd (dg A) 0#64 0) 2=x2 at*;by_cases he:A % 2=0
   ·have hh:=fun L=>zgb L (hx h [] []) (.vsl false (eW (dg A))) (dg A) (LV.vsl _ _) (xb _) (by have:=Sq hAl;omega);rw [j7] at hh;have hj2:=zci q3 he;have hlow8:=So n 8 536870912 (by decide);have hnpos:0 < (dg n).length:=J1 (by have:=q3.1;omega);obtain ⟨r1',p',r2',r3'⟩:=iV.vsl h false (dg n);have hro':bO none 1 (.vsl false (eW (dg n))) (Ii 0)=some (p' 0):=r2' 0 hnpos;have hrd':=fun bs ts=>r3' 0 bs ts hnpos;have e3:aV .eql (wd (JR (gd (dg n) 0#64 0) 8)) (.int .u64 3)=_:=NK (JR (gd (dg n) 0#64 0) 8) 3 (by decide);have e5:aV .eql (wd (JR (gd (dg n) 0#64 0) 8)) (.int .u64 5)=_:=NK (JR (gd (dg n) 0#64 0) 8) 5 (by decide);rw [hlow8] at e3 e5;have hr8:aV .rem (wd (gd (dg n) 0#64 0)) (.int .u64 8)=_:=Bm (gd (dg n) 0#64 0) 8 (by decide);generalize gd (dg A) 0#64 0=a0,gd (dg n) 0#64 0=n0,JR (gd (dg n) 0#64 0) 8=x8 at*;generalize hd2:dg (A / 2)=d2 at*;generalize dg n=dn,dg A=dA at*;simp only [he,decide_true] at e1;by_cases h3':n % 8=3
    ·rw [if_pos (.inl h3')] at hj2;simp only [h3',decide_true] at e3;simp -implicitDefEqProofs [aH,V,g0,g3,g4,hro,hrd,hr2,e1,hh,hro',hrd',hr8,e3];exact ⟨by omega,A / 2,_,by simp [hd2],by simp,by omega,by omega,hj2⟩
    ·simp only [h3',decide_false] at e3;by_cases h5':n % 8=5
     ·rw [if_pos (.inr h5')] at hj2;simp only [h5',decide_true] at e5;simp -implicitDefEqProofs [aH,V,g0,g3,g4,hro,hrd,hr2,e1,hh,hro',hrd',hr8,e3,e5];exact ⟨by omega,A / 2,_,by simp [hd2],by simp,by omega,by omega,hj2⟩
     ·rw [if_neg (by omega)] at hj2;simp only [h5',decide_false] at e5;simp -implicitDefEqProofs [aH,V,g0,g3,g4,hro,hrd,hr2,e1,hh,hro',hrd',hr8,e3,e5];exact ⟨by omega,A / 2,_,by simp [hd2],by simp [g4],by omega,by omega,hj2⟩
   ·simp only [he,decide_false] at e1;simp -implicitDefEqProofs [aH,V,g0,g3,g4,hro,hrd,hr2,e1];exact ⟨A,s,by simp [g0],by simp [g4],by omega,by omega,q3⟩)
 exact ⟨fr',A,s,rfl,p0,p4,p1,p2,p3,hk⟩
def sqO (g M0 k:Nat)(fr:Fr):Prop:=∃ A n s,fr 0=.vsl false (eW (dg A))/\fr 3=.vsl false (eW (dg n))/\fr 4=.bool s/\A+n+k<=M0/\Ee g A n s
def sqF (g:Nat)(fr:Fr):Prop:=∃ s,fr 4=.bool s/\g=if s=true then 0 else 1
theorem zgp (x y:Nat):decide (jU x y < 0)=decide (x < y):=by
 rcases Nat.lt_trichotomy x y with h | h | h
 ·rw [Zu h];simp [h]
 ·subst h;rw [Zw];simp
 ·rw [Zv h];simp;omega
theorem zgq {fr:Fr}{h:O}{R:Option (dt × Fr × O)}(g A0 n0:Nat)(hM:A0+n0 < dB ^ 25)(hj:Ee g A0 n0 true)
  (hF:run ah (V h) (.loop dU) fr (hx h [] [])=R)
  (h0:fr 0=.vsl false (eW (dg A0))) (h3:fr 3=.vsl false (eW (dg n0))) (h4:fr 4=.bool true):
  ∃ fr' s,R=some (.exit 0,fr',hx h [] [])/\fr' 4=.bool s/\g=(if s=true then 0 else 1)/\∀ t,t∉wr dU->fr' t=fr t:=by
 obtain ⟨e,fr',h',rfl,⟨rfl,rfl,s,p4,p1⟩,hk⟩:=af hF (A0+n0)
  (fun k fr hh=>hh=hx h [] []/\sqO g (A0+n0) k fr)
  (fun e fr hh=>e=.exit 0/\hh=hx h [] []/\sqF g fr)
  ⟨rfl,A0,n0,true,h0,h3,h4,Nat.le_refl _,hj⟩ (by
   rintro k fr1 hh hkN hkeep ⟨rfl,A,n,s,g0,g3,g4,q2,q3⟩;have hn1:=q3.1;generalize A0+n0=M0 at*;by_cases hA:A=0
   ·subst hA;have hl:dg 0=[]:=rfl;rw [hl] at g0;simp -implicitDefEqProofs [dU,g0];exact ⟨s,by simp [g4],zgm q3⟩
   ·have hpos:=J1 (Nat.pos_of_ne_zero hA);have hAl:A < dB ^ 25:=by omega
    have hlo:=fun fr R=>zgo (fr:=fr) (h:=h) (R:=R) g A n (by omega) hAl s q3;have hgt:(0:Int) < (dg A).length:=by omega
    have hle:(eW (dg A)).length=(dg A).length:=by simp
    simp -implicitDefEqProofs [dU,g0,hgt,hpos];generalize hF:run ah _ (.loop _) _ _=R;obtain ⟨fr2,A1,s1,rfl,f0,f4,f1,f2,f3,hk2⟩:=hlo _ _ hF (by simp [g0]) (by simp [g3]) (by simp [g4]);have hA1l:A1 < dB ^ 25:=by omega
    have hnl:n < dB ^ 25:=by omega
    have la:=Sq hA1l;have ln:=Sq hnl;have hA1p:=J1 (show 0 < A1 by omega);have hnp:=J1 (show 0 < n by omega);have hC:=fun L=>LG L (hx h [] []) (.vsl false (eW (dg A1))) (.vsl false (eW (dg n))) (dg A1) (dg n) (iV.vsl _ _ _) (iV.vsl _ _ _) (xb _) (xb _) ⟨by omega,by omega⟩;rw [j7,j7] at hC;have hcl:=zgp A1 n;generalize jU A1 n=cm at*;have e0:=hk2 3 (by decide);simp [g3] at e0;by_cases hlt:A1 < n
    ·rw [decide_eq_true hlt] at hcl;have hcl:=of_decide_eq_true hcl;have hj2:=zcj f3 f1;have hS:=fun L=>YQ L (hx h [] []) (.vsl false (eW (dg n))) (.vsl false (eW (dg A1))) (dg n) (dg A1) (LV.vsl _ _) (LV.vsl _ _) (xb _) (xb _) (by omega) (YU (by omega)) (by rw [j7,j7];omega);rw [j7,j7] at hS;obtain ⟨r1,p,r2,r3⟩:=iV.vsl h false (dg A1);have hro:bO none 1 (.vsl false (eW (dg A1))) (Ii 0)=some (p 0):=r2 0 hA1p;have hrd:=fun bs ts=>r3 0 bs ts hA1p;obtain ⟨r1',p',r2',r3'⟩:=iV.vsl h false (dg n);have hro':bO none 1 (.vsl false (eW (dg n))) (Ii 0)=some (p' 0):=r2' 0 hnp;have hrd':=fun bs ts=>r3' 0 bs ts hnp;have lw1:=So A1 4 1073741824 (by decide);have lw2:=So n 4 1073741824 (by decide);have e1:aV .eql (wd (JR (gd (dg A1) 0#64 0) 4)) (.int .u64 3)=_:=NK (JR (gd (dg A1) 0#64 0) 4) 3 (by decide);have e2:aV .eql (wd (JR (gd (dg n) 0#64 0) 4)) (.int .u64 3)=_:=NK (JR (gd (dg n) 0#64 0) 4) 3 (by decide);rw [lw1] at e1;rw [lw2] at e2;have m1:aV .rem (wd (gd (dg A1) 0#64 0)) (.int .u64 4)=_:=Bm (gd (dg A1) 0#64 0) 4 (by decide);have m2:aV .rem (wd (gd (dg n) 0#64 0)) (.int .u64 4)=_:=Bm (gd (dg n) 0#64 0) 4 (by decide);generalize gd (dg n) 0#64 0=y2,gd (dg A1) 0#64 0=y1,JR (gd (dg n) 0#64 0) 4=x2,JR (gd (dg A1) 0#64 0) 4=x1 at*;generalize hd1:dg A1=d1 at*;generalize hd2:dg n=d2 at*;generalize hd3:dg (n - A1)=d3 at*;have hfin:∀ fr' s',fr' 0=.vsl false (eW d3)->fr' 3=.vsl false (eW d1)->fr' 4=.bool s'->Ee g n A1 s'->sqO g M0 (k+1) fr':=fun fr' s' a b c d=>⟨n - A1,A1,s',by rw [a,hd3],by rw [b,hd1],c,by omega,Vl d (by omega)⟩;by_cases h1:A1 % 4=3
     ·simp only [h1,decide_true] at e1;by_cases h2:n % 4=3
      ·simp only [h2,decide_true] at e2;rw [if_pos ⟨h1,h2⟩] at hj2;simp -implicitDefEqProofs [hk2,wr,aH,bj,g3,f0,f4,hC,hcl,hro,hrd,hro',hrd',m1,m2,e1,e2,hS];exact ⟨by omega,hfin _ _ (by simp) (by simp) (by simp) hj2⟩
      ·simp only [h2,decide_false] at e2;rw [if_neg (fun q=>h2 q.2)] at hj2;simp -implicitDefEqProofs [hk2,wr,aH,bj,g3,f0,f4,hC,hcl,hro,hrd,hro',hrd',m1,m2,e1,e2,hS];exact ⟨by omega,hfin _ _ (by simp) (by simp) (by simp [f4]) hj2⟩
     ·simp only [h1,decide_false] at e1;rw [if_neg (fun q=>h1 q.1)] at hj2;simp -implicitDefEqProofs [hk2,wr,aH,bj,g3,f0,f4,hC,hcl,hro,hrd,hro',hrd',m1,m2,e1,hS];exact ⟨by omega,hfin _ _ (by simp) (by simp) (by simp [f4]) hj2⟩
    ·rw [decide_eq_false hlt] at hcl;have hcl:=of_decide_eq_false hcl;have hS:=fun L=>YQ L (hx h [] []) (.vsl false (eW (dg A1))) (.vsl false (eW (dg n))) (dg A1) (dg n) (LV.vsl _ _) (LV.vsl _ _) (xb _) (xb _) (by omega) (YU (by omega)) (by rw [j7,j7];omega);rw [j7,j7] at hS;have hj2:=Vl f3 (show n<=A1 by omega);generalize hd3:dg (A1 - n)=d3 at*;generalize hd1:dg A1=d1 at*;generalize hd2:dg n=d2 at*;simp -implicitDefEqProofs [hk2,wr,aH,bj,g3,f0,f4,hC,hcl,hS];exact ⟨by omega,A1 - n,n,s1,by simp [hd3],by simp [hk2,wr,aH,bj,g3,hd2],by simp [f4],by omega,hj2⟩)
 exact ⟨fr',s,rfl,p4,p1,hk⟩
def gD:List ac:=[4294967295#64,4294967295#64,2788832800#64,4098638569#64,1650360006#64,3833967990#64,1834074693#64,1340159341#64,4066317367#64,808127085#64,3443147547#64,4019526067#64,2385773789#64,1363806329#64,991140642#64,34324134#64,2322058356#64,688016904#64,2161908945#64,3301335691#64,560513588#64,3373259426#64,4294967295#64,4294967295#64]
theorem zpn:vD gD=yz:=by decide +kernel
theorem zmt:val gW=yz:=by decide +kernel
theorem zpp:val qW=qN:=by decide +kernel
theorem zpq:Dg gD:=by
 repeat refine Dg.cons (by decide) ?_
 exact Dg.nil
theorem zps:gD=dg yz:=by rw [<- zpn];exact zjE ⟨zpq,.inr (by decide)⟩
theorem zgA:yz < dB ^ 24:=by decide +kernel
theorem X3 (L:az)(h:O):Z ah L jw [] h=some (.vsl false (eW (dg yz)),h):=by
 rw [GG,<- zps];have hfill:al (rep [J.int .u64 0] 24) [(0,1,.int .u64 4294967295),(1,1,.int .u64 4294967295),(2,1,.int .u64 2788832800),(3,1,.int .u64 4098638569),(4,1,.int .u64 1650360006),(5,1,.int .u64 3833967990),(6,1,.int .u64 1834074693),(7,1,.int .u64 1340159341),(8,1,.int .u64 4066317367),(9,1,.int .u64 808127085),(10,1,.int .u64 3443147547),(11,1,.int .u64 4019526067),(12,1,.int .u64 2385773789),(13,1,.int .u64 1363806329),(14,1,.int .u64 991140642),(15,1,.int .u64 34324134),(16,1,.int .u64 2322058356),(17,1,.int .u64 688016904),(18,1,.int .u64 2161908945),(19,1,.int .u64 3301335691),(20,1,.int .u64 560513588),(21,1,.int .u64 3373259426),(22,1,.int .u64 4294967295),(23,1,.int .u64 4294967295)]=some (cW gD):=rfl;have hch:chunks 1 24 (cW gD)=eW gD:=rfl;simp -implicitDefEqProofs [uq,hfill,hch]
theorem Vr (P A g:Nat)(hP:∀ L h,Z ah L jw [] h=some (.vsl false (eW (dg P)),h))(hM:A+P < dB ^ 25)(hj:Ee g A P true)(L:az)(h:O)(x:J)(hx1:LV x (dg A)):
  Z ah L et [x] h=some (.bool (decide (g=0)),h):=by
 rw [yD];have hf1:=hx1.fz;have hlo:=fun fr R=>zgq (fr:=fr) (h:=h) (R:=R) g A P hM hj;generalize dg A=dA,dg P=dP at*;simp -implicitDefEqProofs [nL,hf1,hP];generalize hF:run ah _ (.loop _) _ _=R;obtain ⟨fr1,s,rfl,f4,f1,hk1⟩:=hlo _ _ hF (by simp) (by simp) (by simp)
 have hs:decide (g=0)=s:=by rw [f1];cases s <;> rfl
 simp -implicitDefEqProofs [hk1,wr,dU,aH,bj,f4,hs]
theorem zgB {A P:Nat}(h1:P < dB ^ 24)(h2:A < P):A+P < dB ^ 25:=by
 rw [Nat.pow_succ];have:dB ^ 24*2<=dB ^ 24*dB:=Nat.mul_le_mul_left _ (by decide);omega
theorem zln {A P g:Nat}(h1:P % 2=1)(h2:Nat.gcd A P=1)(hg:g=gN P A % 2):Ee g A P true:=⟨h1,h2,by rw [hg];simp⟩
theorem zli {A:Nat}(h0:0 < A)(hA:A < yz):Ee (gN yz A % 2) A yz true:=zln YD (zhy h0 hA) rfl
theorem WN (L:az)(h:O)(x:J)(A:Nat)(hx1:LV x (dg A))(h0:0 < A)(hA:A < yz):
  Z ah L et [x] h=some (.bool (decide (gN yz A % 2=0)),h):=
 Vr yz A (gN yz A % 2) X3 (zgB zgA hA) (zli h0 hA) L h x hx1
theorem zen (x y:Nat):decide (jU x y>=0)=decide (y<=x):=zhY x y
def VA (b:List Int):Int:=if b.length=96 then (if bi b < yz then 0 else 4) else 1
theorem zbu (L:az)(h:O)(c:Bool)(b:List Int)(hb:cw b)(hl:b.length < 100000000):
  Z ah L k9 [.bool true,.vsl c (eI .u8 b)] h=some (.tup [if VA b=0 then .vsl false (eW (dg (bi b))) else .vsl false [],Ii (VA b)],h):=by
 rw [B3];have hP:=X3;have hO:=fun L h=>Kv L h false b hb hl;have hf:=fw h c (eI .u8 b);have hSz : ∀ L h, Z ah L lg [.bool true] h = some (.vsl false (eW (dg yz)), h) := fun L h => by
  rw [Co];have hP:=X3;generalize dg yz=dP at*;simp -implicitDefEqProofs [pJ,hP]
 unfold VA;by_cases h96:b.length=96
 ·have hbd:bi b < dB ^ 24:=by
   have:=yd hb;rw [h96] at this;exact this
  have hlb:=Gq hbd;have hlp:=Gq zgA;have hC:=fun L h=>LG L h (.vsl false (eW (dg (bi b)))) (.vsl false (eW (dg yz))) (dg (bi b)) (dg yz) (iV.vsl _ _ _) (iV.vsl _ _ _) (xb _) (xb _) ⟨by omega,by omega⟩;rw [j7,j7] at hC;have hcl:=zen (bi b) yz;generalize jU (bi b) yz=cm at*;rw [if_pos h96];by_cases hlt:bi b < yz
  ·rw [if_pos hlt,if_pos rfl];rw [decide_eq_false (show ¬yz<=bi b by omega)] at hcl;have hcl:=of_decide_eq_false hcl;have hcl2:¬(0:Int)<=cm:=hcl;generalize dg (bi b)=db,dg yz=dP at*;have hlen:(eI .u8 b).length=96:=by simp [h96]
   generalize eI .u8 b=ebb at*;simp -implicitDefEqProofs [i4,hf,hO,hSz,hC,hlen,bne,hcl,hcl2]
  ·rw [if_neg hlt,if_neg (by decide)];rw [decide_eq_true (show yz<=bi b by omega)] at hcl;have hcl:=of_decide_eq_true hcl;have hcl2:(0:Int)<=cm:=hcl;generalize dg (bi b)=db,dg yz=dP at*;have hlen:(eI .u8 b).length=96:=by simp [h96]
   generalize eI .u8 b=ebb at*;simp -implicitDefEqProofs [i4,hf,hO,hSz,hC,hlen,bne,hcl,hcl2]
 ·rw [if_neg h96,if_neg (by decide)];have hlen:(((eI .u8 b).length:Int)==96)=false:=beq_false_of_ne (by simp;omega);generalize eI .u8 b=ebb at*;simp -implicitDefEqProofs [i4,hf,hlen,bne]
theorem zh5 (b:List Int):LI b=if VA b=0 then (if 0 < bi b/\gN yz (bi b) % 2=0 then 0 else 4) else VA b:=by
 unfold LI VA;rw [zmt,zpp];by_cases h96:b.length=96
 ·rw [if_pos h96,if_pos h96];by_cases hlt:bi b < yz
  ·rw [if_pos hlt,if_pos hlt,if_pos rfl];have h:=Rb hlt;have hp:S4 (bi b) qN yz=bi b ^ qN % yz:=by unfold S4;exact rfl
   rw [hp];by_cases hq:bi b ^ qN % yz=1
   ·rw [if_pos hq,if_pos (h.1 hq)]
   ·rw [if_neg hq,if_neg (fun q=>hq (h.2 q))]
  ·rw [if_neg hlt,if_neg hlt,if_neg (by decide)]
 ·rw [if_neg h96,if_neg h96,if_neg (by decide)]
theorem WP (L:az)(h:O)(c:Bool)(b:List Int)(hb:cw b)(hl:b.length < 100000000)(g e:Int)(hg:g=VA b)(q:Bool)
  (hS:∀ L h,VA b=0->0 < bi b->Z ah L et [.vsl false (eW (dg (bi b)))] h=some (.bool q,h))
  (he:e=if VA b=0 then (if 0 < bi b/\q=true then 0 else 4) else VA b):
  Z ah L i5 [.vsl c (eI .u8 b)] h=some (.tup [if e=0 then .vsl false (eW (dg (bi b))) else .vsl false [],Ii e],h):=by
 rw [CG];have hR:=fun L h=>zbu L h false b hb hl;have hf:=fw h c (eI .u8 b);by_cases h0:VA b=0
 ·rw [if_pos h0] at he;rw [if_pos h0,h0] at hR;by_cases hp:0 < bi b
  ·have hS:=fun L h=>hS L h h0 hp;have hpos:=J1 hp;have hln:(((eW (dg (bi b))).length:Int)==0)=false:=beq_false_of_ne (by rw [show (eW (dg (bi b))).length=(dg (bi b)).length by simp];omega);have hln3:(((dg (bi b)).length:Int)==0)=false:=beq_false_of_ne (by omega);have hln2:¬dg (bi b)=[]:=fun q=>by rw [q] at hpos;simp at hpos
   cases q with
   | true=>
    rw [if_pos ⟨hp,rfl⟩] at he;subst he;rw [if_pos rfl];generalize eI .u8 b=ebb,dg (bi b)=db at*;simp -implicitDefEqProofs [fC,hf,hR,hS,hln,hln2,hln3,bne]
   | false=>
    rw [if_neg (fun q=>by simp at q)] at he;subst he;rw [if_neg (by decide)];generalize eI .u8 b=ebb,dg (bi b)=db at*;simp -implicitDefEqProofs [fC,hf,hR,hS,hln,hln2,hln3,bne]
  ·have h00:bi b=0:=by omega
   rw [if_neg (fun q=>hp q.1)] at he;subst he;rw [if_neg (by decide)];rw [h00] at hR;have hd0:dg 0=[]:=rfl;rw [hd0] at hR;generalize eI .u8 b=ebb at*;simp -implicitDefEqProofs [fC,hf,hR,bne]
 ·rw [if_neg h0] at he;subst he;rw [if_neg h0] at hR |-;have hne:(VA b==0)=false:=beq_false_of_ne h0;generalize eI .u8 b=ebb,VA b=r at*;simp -implicitDefEqProofs [fC,hf,hR,hne,bne]
theorem zlk {b:List Int}(h0:VA b=0):bi b < yz:=by
 unfold VA at h0;split at h0
 ·split at h0
  ·assumption
  ·simp at h0
 ·simp at h0
theorem zbw (L:az)(h:O)(c:Bool)(b:List Int)(hb:cw b)(hl:b.length < 100000000):
  Z ah L i5 [.vsl c (eI .u8 b)] h=some (.tup [if LI b=0 then .vsl false (eW (dg (bi b))) else .vsl false [],Ii (LI b)],h):=
 WP L h c b hb hl (VA b) (LI b) rfl (decide (gN yz (bi b) % 2=0)) (fun L h h0 hp=>WN L h _ _ (LV.vsl _ _) hp (zlk h0)) (by rw [zh5];simp only [decide_eq_true_eq])
theorem zbx (L:az)(h:O)(c:Bool)(b:List Int)(hb:cw b)(hl:b.length=32):
  ∃ v,Z ah L lD [.vsl c (eI .u8 b)] h=some (.tup [v,Ii (zR 3 b)],h)/\v.cells=[v]/\v.okV=true:=by
 rw [CF];have hP:=zj5;have hO:=fun L h=>Kv L h false b hb (by omega);have hf:=fw h c (eI .u8 b);have hbd:bi b < dB ^ 8:=by
  have:=yd hb;rw [hl] at this;exact this
 have hlb:=Gq hbd;have hC:=fun L h=>LG L h (.vsl false (eW (dg (bi b)))) (.vsl false (eW pD)) (dg (bi b)) pD (iV.vsl _ _ _) (iV.vsl _ _ _) (xb _) zj4 ⟨by omega,by decide⟩;rw [j7,zj2] at hC;have hcl:=zen (bi b) pN;generalize jU (bi b) pN=cm at*;unfold zR;rw [if_pos rfl];have hlen:(eI .u8 b).length=32:=by simp [hl]
 by_cases hlt:bi b < pN
 ·rw [if_pos hlt];rw [decide_eq_false (show ¬pN<=bi b by omega)] at hcl;have hcl:=of_decide_eq_false hcl;have hcl2:¬(0:Int)<=cm:=hcl;generalize eI .u8 b=ebb,dg (bi b)=db,pD=dP at*;refine ⟨.vsl false (eW db),?_,rfl,rfl⟩;simp -implicitDefEqProofs [lr,hf,hO,hP,hC,hlen,bne,hcl,hcl2]
 ·rw [if_neg hlt];rw [decide_eq_true (show pN<=bi b by omega)] at hcl;have hcl:=of_decide_eq_true hcl;have hcl2:(0:Int)<=cm:=hcl;generalize eI .u8 b=ebb,dg (bi b)=db,pD=dP at*;refine ⟨.vsl false [],?_,rfl,rfl⟩;simp -implicitDefEqProofs [lr,hf,hO,hP,hC,hlen,bne,hcl,hcl2]
end Go.Av
