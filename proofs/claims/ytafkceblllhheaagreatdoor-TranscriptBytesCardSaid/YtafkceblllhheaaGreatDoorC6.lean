/- Powers modulo great numbers, and what the program's check of operations answers. -/
import Derived.Test.YtafkceblllhheaaGreatDoorC2
import Derived.Test.YtafkceblllhheaaGreatDoorC5
import Derived.Test.YtafkceblllhheaaGreatDoorC1
set_option linter.unusedSimpArgs false
set_option linter.unusedVariables false
set_option maxHeartbeats 2000000
set_option maxRecDepth 20000
namespace Go.Av
theorem qY (l:List ac)(v:ac)(i j:Nat)(h:i≠j):gd (l.set i v) 0#64 j=gd l 0#64 j:=by
 by_cases hi:i < l.length
 ·rw [pB _ _ _ _ _ hi,if_neg h]
 ·rw [List.set_eq_of_length_le (by omega)]
theorem J2 (l:List ac)(v:ac)(i:Nat)(h:i < l.length):gd (l.set i v) 0#64 i=v:=by rw [pB _ _ _ _ _ h,if_pos rfl]
theorem J3 (t:List ac)(x:ac)(b:List ac):∀ j i,j<=i->gd (cd t x b j).1 0#64 i=gd t 0#64 i
 | 0,i,_=>rfl
 | j + 1, i, h => by
  show gd ((cd t x b j).1.set j _) 0#64 i=_;rw [qY _ _ _ _ (by omega)];exact J3 t x b j i (by omega)
theorem ZM (t:List ac)(x:ac)(b:List ac):∀ j,j<=t.length->aQ (gd (cd t x b j).1 0#64) j+bN j*(cd t x b j).2.toNat=aQ (gd t 0#64) j+x.toNat*aQ (gd b 0#64) j
 | 0,_=>by simp [aQ,cd,bN]
 | j + 1, h => by
  have ih:=ZM t x b j (by omega);have hl:=vX t x b j;have hab:=J3 t x b j j (Nat.le_refl _);have hs:=Ds (gd (cd t x b j).1 0#64 j) x (gd b 0#64 j) (cd t x b j).2;rw [cd];generalize cd t x b j=q at*;obtain ⟨u,c⟩:=q;simp only at*;have e1:aQ (gd (u.set j (HS (gd u 0#64 j) x (gd b 0#64 j) c)) 0#64) j=aQ (gd u 0#64) j:=gO j fun i hi=>qY _ _ _ _ (by omega);have e2:=J2 u (HS (gd u 0#64 j) x (gd b 0#64 j) c) j (by omega);rw [aQ,aQ,aQ,e1,e2,ly];rw [<- hab];generalize c.toNat=c,(gd b 0#64 j).toNat=z,(gd u 0#64 j).toNat=y,aQ (gd b 0#64) j=S3,aQ (gd t 0#64) j=S2,aQ (gd u 0#64) j=S1,Ki (gd u 0#64 j) x (gd b 0#64 j) c=h0,HS (gd u 0#64 j) x (gd b 0#64 j) c=l0 at*;generalize bN j=B,x.toNat=x,h0.toNat=h0,l0.toNat=l0 at*
  grind
def lX (m t:List ac)(k:ac):Nat->List ac × ac
 | 0=>(t,Ki (gd t 0#64 0) k (gd m 0#64 0) 0#64)
 | j+1=>((lX m t k j).1.set j (HS (gd (lX m t k j).1 0#64 (j+1)) k (gd m 0#64 (j+1)) (lX m t k j).2),Ki (gd (lX m t k j).1 0#64 (j+1)) k (gd m 0#64 (j+1)) (lX m t k j).2)
@[simp] theorem Ek (m t:List ac)(k:ac):∀ j,(lX m t k j).1.length=t.length
 | 0=>rfl
 | j+1=>by simp [lX,Ek m t k j]
theorem EV (m t:List ac)(k:ac):∀ j i,j<=i->gd (lX m t k j).1 0#64 i=gd t 0#64 i
 | 0,i,_=>rfl
 | j + 1, i, h => by
  show gd ((lX m t k j).1.set j _) 0#64 i=_;rw [qY _ _ _ _ (by omega)];exact EV m t k j i (by omega)
theorem ZP (m t:List ac)(k:ac)(h0:((gd t 0#64 0).toNat+k.toNat*(gd m 0#64 0).toNat) % 18446744073709551616=0):∀ j,j+1<=t.length->
  18446744073709551616*aQ (gd (lX m t k j).1 0#64) j+bN (j+1)*(lX m t k j).2.toNat=aQ (gd t 0#64) (j+1)+k.toNat*aQ (gd m 0#64) (j+1)
 | 0, _ => by
  have hs:=Ds (gd t 0#64 0) k (gd m 0#64 0) 0#64;have hz:(HS (gd t 0#64 0) k (gd m 0#64 0) 0#64).toNat=0:=by
   simp only [HS,BitVec.toNat_ofNat,BitVec.toNat_zero,Nat.add_zero];exact h0
  simp only [aQ,lX,ly,Y7,Nat.zero_add,Nat.mul_one,Nat.mul_zero] at*;rw [hz] at hs;simp only [BitVec.toNat_zero] at hs;omega
 | j + 1, h => by
  have ih:=ZP m t k h0 j (by omega);have hl:=Ek m t k j;have hab:=EV m t k j (j+1) (by omega);have hs:=Ds (gd (lX m t k j).1 0#64 (j+1)) k (gd m 0#64 (j+1)) (lX m t k j).2;rw [lX];generalize lX m t k j=q at*;obtain ⟨u,c⟩:=q;simp only at*;have e1:aQ (gd (u.set j (HS (gd u 0#64 (j+1)) k (gd m 0#64 (j+1)) c)) 0#64) j=aQ (gd u 0#64) j:=gO j fun i hi=>qY _ _ _ _ (by omega);have e2:=J2 u (HS (gd u 0#64 (j+1)) k (gd m 0#64 (j+1)) c) j (by omega);have s1:∀ f:Nat->ac,aQ f (j+1+1)=aQ f (j+1)+(f (j+1)).toNat*bN (j+1):=fun _=>rfl;rw [aQ,e1,e2,s1,s1,ly (j+1),<- hab];rw [ly] at ih |-;generalize c.toNat=c,(gd m 0#64 (j+1)).toNat=z,(gd u 0#64 (j+1)).toNat=y,aQ (gd m 0#64) (j+1)=S3,aQ (gd t 0#64) (j+1)=S2,aQ (gd u 0#64) j=S1,Ki (gd u 0#64 (j+1)) k (gd m 0#64 (j+1)) c=h0,HS (gd u 0#64 (j+1)) k (gd m 0#64 (j+1)) c=l0 at*;generalize bN j=B,k.toNat=k,h0.toNat=h0,l0.toNat=l0 at*
  grind
def adG (n:Nat)(t:List ac)(c:ac):List ac:=(t.set n (OV (gd t 0#64 n) c 0#64)).set (n+1) (RV (gd t 0#64 n) c 0#64)
def enG (n:Nat)(u:List ac)(c:ac):List ac:=(u.set (n - 1) (OV (gd u 0#64 n) c 0#64)).set n (gd u 0#64 (n+1)+RV (gd u 0#64 n) c 0#64)
def Pb (n:Nat)(b t:List ac)(x:ac):List ac:=adG n (cd t x b n).1 (cd t x b n).2
def Sz (n:Nat)(m:List ac)(i:ac)(b t:List ac)(x:ac):List ac:=
 enG n (lX m (Pb n b t x) (gd (Pb n b t x) 0#64 0*i) (n - 1)).1 (lX m (Pb n b t x) (gd (Pb n b t x) 0#64 0*i) (n - 1)).2
def vj (n:Nat)(m:List ac)(i:ac)(a b:List ac):Nat->List ac
 | 0=>tab (n+2) fun _=>0#64
 | j+1=>Sz n m i b (vj n m i a b j) (gd a 0#64 j)
@[simp] theorem zjs (n:Nat)(t:List ac)(c:ac):(adG n t c).length=t.length:=by simp [adG]
@[simp] theorem zqn (n:Nat)(t:List ac)(c:ac):(enG n t c).length=t.length:=by simp [enG]
@[simp] theorem zgx (n:Nat)(b t:List ac)(x:ac):(Pb n b t x).length=t.length:=by simp [Pb]
@[simp] theorem zpo (n:Nat)(m:List ac)(i:ac)(b t:List ac)(x:ac):(Sz n m i b t x).length=t.length:=by simp [Sz]
@[simp] theorem Eo (n:Nat)(m:List ac)(i:ac)(a b:List ac):∀ j,(vj n m i a b j).length=n+2
 | 0=>by simp [vj]
 | j+1=>by simp [vj,Eo n m i a b j]
theorem zgy (n:Nat)(b t:List ac)(x:ac)(hb:b.length=n)(ht:t.length=n+2):aQ (gd (Pb n b t x) 0#64) (n+2)=aQ (gd t 0#64) (n+1)+x.toNat*val b/\(gd (Pb n b t x) 0#64 (n+1)).toNat<=1:=by
 have h1:=ZM t x b n (by omega);have hl:=vX t x b n;have hab:=J3 t x b n n (Nat.le_refl _);rw [<- ix b n (by omega)] at h1;unfold Pb adG;generalize cd t x b n=q at*;obtain ⟨u,c⟩:=q;simp only at*;obtain ⟨h2,h3⟩:=M8 (gd u 0#64 n) c 0#64 (by decide);generalize RV (gd u 0#64 n) c 0#64=hi,OV (gd u 0#64 n) c 0#64=lo at*;have e1:gd ((u.set n lo).set (n+1) hi) 0#64 (n+1)=hi:=J2 _ _ _ (by simp;omega);have e2:gd ((u.set n lo).set (n+1) hi) 0#64 n=lo:=by rw [qY _ _ _ _ (by omega),J2 _ _ _ (by omega)]
 have e3:aQ (gd ((u.set n lo).set (n+1) hi) 0#64) n=aQ (gd u 0#64) n:=gO n fun i hi=>by rw [qY _ _ _ _ (by omega),qY _ _ _ _ (by omega)]
 refine ⟨?_,by rw [e1];exact h3⟩;rw [aQ,aQ,e1,e2,e3,aQ,<- hab,ly];simp only [BitVec.toNat_zero,Nat.add_zero] at h2;generalize bN n=B,x.toNat=x,hi.toNat=hi,lo.toNat=lo,c.toNat=c,val b=vb,(gd u 0#64 n).toNat=y,aQ (gd t 0#64) n=S2,aQ (gd u 0#64) n=S1 at*
 grind
theorem zju (n:Nat)(m:List ac)(i:ac)(b t:List ac)(x:ac)(hn:0 < n)(hm:m.length=n)(hb:b.length=n)(ht:t.length=n+2)(hi:(1+i.toNat*(gd m 0#64 0).toNat) % 18446744073709551616=0):
  ∃ k,k < 18446744073709551616/\18446744073709551616*aQ (gd (Sz n m i b t x) 0#64) (n+1)=aQ (gd t 0#64) (n+1)+x.toNat*val b+k*val m:=by
 obtain ⟨h1,h2⟩:=zgy n b t x hb ht;have hlv:=zgx n b t x;unfold Sz;rw [ht] at hlv;generalize Pb n b t x=v at*;refine ⟨(gd v 0#64 0*i).toNat,(gd v 0#64 0*i).isLt,?_⟩;have hk:((gd v 0#64 0).toNat+(gd v 0#64 0*i).toNat*(gd m 0#64 0).toNat) % 18446744073709551616=0:=by
  rw [BitVec.toNat_mul];generalize i.toNat=j,(gd m 0#64 0).toNat=z,(gd v 0#64 0).toNat=y at*;have e1:(y+y*j % 18446744073709551616*z) % 18446744073709551616=(y*(1+j*z)) % 18446744073709551616:=by
   rw [Nat.add_mod,Nat.mod_mul_mod,<- Nat.add_mod]
   congr 1
   rw [Nat.mul_add,Nat.mul_one,Nat.mul_assoc]
  rw [show (2:Nat) ^ 64=18446744073709551616 from rfl,e1,Nat.mul_mod,hi];simp
 have hr:=ZP m v (gd v 0#64 0*i) hk (n - 1) (by omega);have hlr:=Ek m v (gd v 0#64 0*i) (n - 1);have a1:=EV m v (gd v 0#64 0*i) (n - 1) n (by omega);have a2:=EV m v (gd v 0#64 0*i) (n - 1) (n+1) (by omega);rw [show n - 1+1=n by omega,<- ix m n (by omega)] at hr;generalize (gd v 0#64 0*i)=k at*;unfold enG;generalize lX m v k (n - 1)=q at*;obtain ⟨u,c⟩:=q;simp only at*;obtain ⟨h3,h4⟩:=M8 (gd u 0#64 n) c 0#64 (by decide);generalize RV (gd u 0#64 n) c 0#64=hi,OV (gd u 0#64 n) c 0#64=lo at*;have ew:(gd u 0#64 (n+1)+hi).toNat=(gd v 0#64 (n+1)).toNat+hi.toNat:=by
  rw [BitVec.toNat_add,a2];omega
 generalize gd u 0#64 (n+1)+hi=top at*;obtain ⟨n',rfl⟩:∃ n',n=n' + 1:=⟨n - 1,by omega⟩;simp only [Nat.add_sub_cancel] at*;have e1:gd ((u.set n' lo).set (n' + 1) top) 0#64 (n' + 1)=top:=J2 _ _ _ (by simp;omega);have e2:gd ((u.set n' lo).set (n' + 1) top) 0#64 n'=lo:=by rw [qY _ _ _ _ (by omega),J2 _ _ _ (by omega)]
 have e3:aQ (gd ((u.set n' lo).set (n' + 1) top) 0#64) n'=aQ (gd u 0#64) n':=gO n' fun i hi=>by rw [qY _ _ _ _ (by omega),qY _ _ _ _ (by omega)]
 rw [aQ,aQ,e1,e2,e3,ew];rw [aQ,aQ] at h1;rw [a1] at h3;simp only [BitVec.toNat_zero,Nat.add_zero] at h3;rw [<- h1];rw [ly (n' + 1)];generalize k.toNat=k,hi.toNat=hi,lo.toNat=lo,c.toNat=c,val m=vm,(gd v 0#64 (n' + 1+1)).toNat=y2,(gd v 0#64 (n' + 1)).toNat=y,aQ (gd v 0#64) (n' + 1)=S2,aQ (gd u 0#64) n'=S1 at*;rw [ly] at*;generalize bN n'=B at*
 grind
theorem ZL (n:Nat)(m:List ac)(i:ac)(a b:List ac)(hn:0 < n)(hm:m.length=n)(hb:b.length=n)(hi:(1+i.toNat*(gd m 0#64 0).toNat) % 18446744073709551616=0)(hbm:val b < val m):
  ∀ j,aQ (gd (vj n m i a b j) 0#64) (n+1) < 2*val m/\∃ K,bN j*aQ (gd (vj n m i a b j) 0#64) (n+1)=aQ (gd a 0#64) j*val b+K*val m
 | 0 => by
  have h0 : ∀ k, k <= n + 2 -> aQ (gd (tab (n + 2) fun _ => (0#64 : ac)) 0#64) k = 0 := fun k => by
   induction k with
   | zero=>intro _;rfl
   | succ k ih=>intro hk;rw [aQ,ih (by omega),dZ (by omega)];simp
  show aQ (gd (tab (n+2) fun _=>(0#64:ac)) 0#64) (n+1) < 2*val m/\_;rw [h0 _ (by omega)];refine ⟨by omega,0,?_⟩;show bN 0*aQ (gd (tab (n+2) fun _=>(0#64:ac)) 0#64) (n+1)=_;rw [h0 _ (by omega)];simp [aQ]
 | j + 1 => by
  obtain ⟨h1,K,h2⟩:=ZL n m i a b hn hm hb hi hbm j;obtain ⟨k,hk,h3⟩:=zju n m i b (vj n m i a b j) (gd a 0#64 j) hn hm hb (Eo n m i a b j) hi;rw [show vj n m i a b (j+1)=Sz n m i b (vj n m i a b j) (gd a 0#64 j) from rfl];have ha:=(gd a 0#64 j).isLt;have s1:aQ (gd a 0#64) (j+1)=aQ (gd a 0#64) j+(gd a 0#64 j).toNat*bN j:=rfl;rw [s1,ly];clear s1;generalize bN j=P,aQ (gd a 0#64) j=S,val m=vm,val b=vb,(gd a 0#64 j).toNat=x,aQ (gd (vj n m i a b j) 0#64) (n+1)=T,aQ (gd (Sz n m i b (vj n m i a b j) (gd a 0#64 j)) 0#64) (n+1)=T' at*;have q1:x*vb<=18446744073709551615*vb:=Nat.mul_le_mul_right _ (by omega);have q2:k*vm<=18446744073709551615*vm:=Nat.mul_le_mul_right _ (by omega);refine ⟨by omega,K+P*k,?_⟩;have e:18446744073709551616*P*T'=P*(18446744073709551616*T'):=by rw [Nat.mul_comm 18446744073709551616 P,Nat.mul_assoc]
  rw [e,h3,Nat.mul_add,Nat.mul_add,h2,Nat.add_mul,Nat.add_mul,Nat.mul_comm x P,Nat.mul_assoc,Nat.mul_assoc];omega
def hN (m:Nat):Nat:=(m+1) / 2
@[irreducible] def Xh (n m x:Nat):Nat:=x*hN m ^ (64*n) % m
theorem Vm (m e:Nat)(h:m % 2=1):(2*hN m) ^ e % m=1 % m:=by
 have:2*hN m=m+1:=by unfold hN;omega
 rw [this,Nat.pow_mod,Nat.add_mod_left,<- Nat.pow_mod,Nat.one_pow]
theorem zlO (n m x r:Nat)(h:m % 2=1)(hr:r < m)(hx:bN n*r % m=x % m):r=Xh n m x:=by
 have h1:=Vm m (64*n) h;have h2:bN n=2 ^ (64*n):=by rw [bN,Nat.pow_mul]
 unfold Xh;have e1:(bN n*r)*hN m ^ (64*n) % m=r:=by
  rw [h2,Nat.mul_right_comm,<- Nat.mul_pow,Nat.mul_mod,h1,<- Nat.mul_mod,Nat.one_mul,Nat.mod_eq_of_lt hr]
 rw [Nat.mul_mod,hx,<- Nat.mul_mod] at e1;exact e1.symm
theorem ziD (n:Nat)(m:List ac)(i:ac)(a b:List ac)(hn:0 < n)(hm:m.length=n)(ha:a.length=n)(hb:b.length=n)(hi:(1+i.toNat*(gd m 0#64 0).toNat) % 18446744073709551616=0)(hbm:val b < val m)(hodd:val m % 2=1):
  S8 n (gd (vj n m i a b n) 0#64 n).toNat (val ((vj n m i a b n).take n)) (val m)=Xh n (val m) (val a*val b):=by
 obtain ⟨h1,K,h2⟩:=ZL n m i a b hn hm hb hi hbm n;have hl:=Eo n m i a b n;have hvm:val m < bN n:=by rw [<- hm];exact oM m
 rw [<- ix a n (by omega)] at h2;generalize vj n m i a b n=t at*;have e1:aQ (gd t 0#64) n=val (t.take n):=by
  rw [ix (t.take n) n (by simp;omega)];exact gO n fun k hk => by
   unfold gd;rw [List.getD_eq_getElem?_getD,List.getD_eq_getElem?_getD,List.getElem?_take_of_lt hk]
 have hvt:val (t.take n) < bN n:=by
  have:=oM (t.take n)
  rwa [show (t.take n).length=n by simp;omega] at this
 rw [aQ,e1] at h1 h2;generalize val a*val b=X,val m=M,(gd t 0#64 n).toNat=c,val (t.take n)=v at*;have key : ∀ r, r < M -> (r = v + c * bN n \/ r + M = v + c * bN n) -> r = Xh n M X := fun r hr hor => by
  refine zlO n M X r hodd hr ?_;rcases hor with e | e
  ·rw [e,h2,Nat.add_mul_mod_self_right]
  ·rw [<- e,Nat.mul_add] at h2;have:=congrArg (· % M) h2;simpa using this
 unfold S8;by_cases hc:c=0
 ·subst hc;rw [Nat.zero_mul,Nat.add_zero] at h1 key;by_cases hlt:v < M
  ·rw [if_pos ⟨rfl,hlt⟩];exact key v hlt (.inl rfl)
  ·rw [if_neg (by omega),if_neg hlt];exact key (v - M) (by omega) (.inr (by omega))
 ·have hc1:c=1:=by
   rcases Nat.lt_or_ge c 2 with q | q
   ·omega
   ·have:2*bN n<=c*bN n:=Nat.mul_le_mul_right _ q;omega
  subst hc1;rw [Nat.one_mul] at h1 key;rw [if_neg (by omega)];by_cases hlt:v < M
  ·rw [if_pos hlt];exact key _ (by omega) (.inr (by omega))
  ·omega
theorem R8 (L:az)(h:O)(a x y c:ac):Z ah L pP [wd a,wd x,wd y,wd c] h=some (.tup [wd (HS a x y c),wd (Ki a x y c)],h):=by
 rw [Nr];have h0:(0#64:ac).toNat=0:=rfl;simp [DD,V,OT,TN,yS,h0];have h1:=a.isLt;have h2:=x.isLt;have h3:=y.isLt;have h4:=c.isLt;have h5:x.toNat*y.toNat<=18446744073709551615*18446744073709551615:=Nat.mul_le_mul (by omega) (by omega);have e1:(x*y).toNat=x.toNat*y.toNat % 18446744073709551616:=by rw [BitVec.toNat_mul]
 constructor
 ·congr 1
  apply BitVec.eq_of_toNat_eq;simp only [HS,OV,BitVec.toNat_ofNat,e1,h0];omega
 ·congr 1
  apply BitVec.eq_of_toNat_eq;simp only [Ki,OV,RV,zdp,BitVec.toNat_ofNat,BitVec.toNat_add,e1,h0];generalize x.toNat*y.toNat=m at*;omega
theorem Zl (c:Bool)(l:List ac)(i:Nat)(h:decide (i < l.length)=true):bO none 1 (.vsl c (eW l)) (Ii (i:Int))=some (.vptr [wd (gd l 0#64 i)] 0):=by
 have hi:i < l.length:=by simpa using h
 simp [bO,Ke,zgr,hi,gd,List.getD]
abbrev sT (h:O)(n:Nat):J:=sA h.blks.length 0 0 1 (n+2) (some (n+2))
theorem zeb {fr:Fr}{h:O}{R:Option (dt × Fr × O)}(y:J)(t b:List ac)(x:ac)(n:Nat)(hr:iV h y b)(ht:t.length=n+2)(hb:b.length=n)(hn:n < 1000000)
  (hF:run ah (V h) (.loop aM) fr (hx h [cW t] [])=R)
  (h8:fr 8=sT h n) (h10:fr 10=wd x) (h11:fr 11=wd 0#64) (h31:fr 31=y) (h32:fr 32=Ii n) (h33:fr 33=Ii 0):
  ∃ fr',R=some (.exit 2,fr',hx h [cW (cd t x b n).1] [])/\fr' 11=wd (cd t x b n).2/\∀ t,t∉wr aM->fr' t=fr t:=by
 obtain ⟨r1,p,r2,r3⟩:=hr;obtain ⟨e,fr',h',rfl,⟨rfl,rfl,h2'⟩,hk⟩:=af hF n
  (fun k fr hh=>fr 33=Ii k/\fr 11=wd (cd t x b k).2/\hh=hx h [cW (cd t x b k).1] [])
  (fun e fr hh=>e=.exit 2/\hh=hx h [cW (cd t x b n).1] []/\fr 11=wd (cd t x b n).2)
  ⟨h33,h11,rfl⟩ (by
   rintro k fr1 hh hkN hkeep ⟨g33,g11,rfl⟩;have g8:=kp hkeep h8;have g10:=kp hkeep h10;have g31:=kp hkeep h31;have g32:=kp hkeep h32;by_cases hlt:k < n
   ·have w1:Wr ((k:Int)+1)=k+1:=wz;have hl:=vX t x b k;have hst:cd t x b (k+1)=((cd t x b k).1.set k (HS (gd (cd t x b k).1 0#64 k) x (gd b 0#64 k) (cd t x b k).2),Ki (gd (cd t x b k).1 0#64 k) x (gd b 0#64 k) (cd t x b k).2):=by rw [cd]
    generalize cd t x b k=q at*;obtain ⟨u,c⟩:=q;simp only at hl g11 hst;have hrd:=fun L=>r3 k L [] (by omega);have hro:=r2 k (by omega);simp -implicitDefEqProofs [aM,V,g8,g10,g11,g31,g32,g33,show (k:Int) < n by omega,hlt,hro,hrd,kF,hl,ht,show k+1<=n+2 by omega,show k < n+2 by omega,w1,hst,R8]
   ·have:k=n:=by omega
    subst this;simp [aM,g33,g32,g11])
 exact ⟨fr',rfl,h2',hk⟩
theorem ze9 {fr:Fr}{h:O}{R:Option (dt × Fr × O)}(m:List ac)(i0:ac)(q0:List ac)(t:List ac)(k0:ac)(n:Nat)(hn0:0 < n)(ht:t.length=n+2)(hm:m.length=n)(hn:n < 1000000)
  (hF:run ah (V h) (.loop bG) fr (hx h [cW t] [])=R)
  (h0:fr 0=modV m i0 q0) (h7:fr 7=Ii n) (h8:fr 8=sT h n) (h11:fr 11=wd (lX m t k0 0).2) (h15:fr 15=wd k0) (h16:fr 16=Ii 1):
  ∃ fr',R=some (.exit 4,fr',hx h [cW (lX m t k0 (n - 1)).1] [])/\fr' 11=wd (lX m t k0 (n - 1)).2/\∀ t,t∉wr bG->fr' t=fr t:=by
 obtain ⟨e,fr',h',rfl,⟨rfl,rfl,h2'⟩,hk⟩:=af hF (n - 1)
  (fun k fr hh=>∃ j:Nat,j=k+1/\fr 16=Ii (j:Int)/\fr 11=wd (lX m t k0 k).2/\hh=hx h [cW (lX m t k0 k).1] [])
  (fun e fr hh=>e=.exit 4/\hh=hx h [cW (lX m t k0 (n - 1)).1] []/\fr 11=wd (lX m t k0 (n - 1)).2)
  ⟨1,rfl,h16,h11,rfl⟩ (by
   rintro k fr1 hh hkN hkeep ⟨j,hj,g16,g11,rfl⟩;have g0:=kp hkeep h0;have g7:=kp hkeep h7;have g8:=kp hkeep h8;have g15:=kp hkeep h15;by_cases hlt:k < n - 1
   ·obtain ⟨j2,hj2⟩:∃ j2,j2=j+1:=⟨_,rfl⟩;have w1:Wr ((j:Int)+1)=(j2:Int):=wy;have w2:Wr ((j:Int) - 1)=(k:Int):=wy;have hl:=Ek m t k0 k;have hst:lX m t k0 (k+1)=((lX m t k0 k).1.set k (HS (gd (lX m t k0 k).1 0#64 j) k0 (gd m 0#64 j) (lX m t k0 k).2),Ki (gd (lX m t k0 k).1 0#64 j) k0 (gd m 0#64 j) (lX m t k0 k).2):=by rw [lX,hj]
    generalize lX m t k0 k=q at*;obtain ⟨u,c⟩:=q;simp only at hl g11 hst;have hi1:=kF h.blks.length 0 0 (n+2) j (some (n+2)) (by simp;omega);have hi0:=kF h.blks.length 0 0 (n+2) k (some (n+2)) (by simp;omega);have him:=Zl false m j (by simp;omega);have hc1:(j:Int) < (n:Int):=by omega
    have b1:j < n+2:=by omega
    have b0:k < n+2:=by omega
    have b3:j<=n+1:=by omega
    have b2:k<=n+1:=by omega
    simp -implicitDefEqProofs [bG,V,modV,g0,g7,g8,g11,g15,g16,hc1,hi0,hi1,him,hl,ht,b0,b1,b2,b3,w1,w2,R8];rw [hst];exact ⟨hlt,by omega,rfl,rfl⟩
   ·have:k=n - 1:=by omega
    subst this;have hc1:¬(j:Int) < (n:Int):=by omega
    simp [bG,g16,g7,hc1];exact g11)
 exact ⟨fr',rfl,h2',hk⟩
theorem zfa {fr:Fr}{h:O}{R:Option (dt × Fr × O)}(x y:J)(m:List ac)(i0:ac)(q0:List ac)(a b:List ac)(n:Nat)(hn0:0 < n)(hm:m.length=n)(ha:a.length=n)(hb:b.length=n)(hn:n < 1000000)(hra:iV h x a)(hrb:iV h y b)
  (hF:run ah (V h) (.loop bf) fr (hx h [cW (vj n m i0 a b 0)] [])=R)
  (h0:fr 0=modV m i0 q0) (h2:fr 2=y) (h7:fr 7=Ii n) (h8:fr 8=sT h n) (h25:fr 25=x) (h26:fr 26=Ii n) (h27:fr 27=Ii 0):
  ∃ fr',R=some (.exit 0,fr',hx h [cW (vj n m i0 a b n)] [])/\∀ t,t∉wr bf->fr' t=fr t:=by
 obtain ⟨r1,p,r2,r3⟩:=hra;obtain ⟨e,fr',h',rfl,⟨rfl,rfl⟩,hk⟩:=af hF n
  (fun k fr hh=>fr 27=Ii k/\hh=hx h [cW (vj n m i0 a b k)] [])
  (fun e fr hh=>e=.exit 0/\hh=hx h [cW (vj n m i0 a b n)] [])
  ⟨h27,rfl⟩ (by
   rintro k fr1 hh hkN hkeep ⟨g27,rfl⟩;have g0:=kp hkeep h0;have g2:=kp hkeep h2;have g7:=kp hkeep h7;have g8:=kp hkeep h8;have g25:=kp hkeep h25;have g26:=kp hkeep h26;by_cases hlt:k < n
   ·have w1:Wr ((k:Int)+1)=k+1:=wz;have hl:=Eo n m i0 a b k;have hst:vj n m i0 a b (k+1)=Sz n m i0 b (vj n m i0 a b k) (gd a 0#64 k):=rfl;have hro:=r2 k (by omega);have hrd:=fun L=>r3 k L [] (by omega);have hlenb:B9 y=some n:=by rw [hrb.1,hb]
    generalize vj n m i0 a b k=t at*;generalize gd a 0#64 k=xx at*;simp -implicitDefEqProofs [bf,V,g0,g2,g7,g8,g25,g26,g27,show (k:Int) < n by omega,hro,hrd,hlenb,OT];generalize hF:run ah _ (.loop _) _ _=R;obtain ⟨fr2,rfl,q11,q1⟩:=zeb y t b xx n hrb hl hb hn hF (by simp [g8]) (by simp) (by simp) (by simp) (by simp) (by simp);have hlm:(cd t xx b n).1.length=n+2:=(vX _ _ _ _).trans hl;have hr:Sz n m i0 b t xx=enG n (lX m (adG n (cd t xx b n).1 (cd t xx b n).2) (gd (adG n (cd t xx b n).1 (cd t xx b n).2) 0#64 0*i0) (n - 1)).1 (lX m (adG n (cd t xx b n).1 (cd t xx b n).2) (gd (adG n (cd t xx b n).1 (cd t xx b n).2) 0#64 0*i0) (n - 1)).2:=rfl;rw [hr] at hst;clear hr;generalize cd t xx b n=q at*;obtain ⟨u,c⟩:=q;simp only at hlm q11 hst;obtain ⟨n1,hn1⟩:∃ n1,n1=n+1:=⟨_,rfl⟩;have w2:Wr ((n:Int)+1)=(n1:Int):=wy;have had:(u.set n (OV (gd u 0#64 n) c 0#64)).set n1 (RV (gd u 0#64 n) c 0#64)=adG n u c:=by rw [hn1];rfl
    have hi0:=kF h.blks.length 0 0 (n+2) 0 (some (n+2)) (by simp);have hin:=kF h.blks.length 0 0 (n+2) n (some (n+2)) (by simp);have hin1:=kF h.blks.length 0 0 (n+2) n1 (some (n+2)) (by simp;omega);have him:=Zl false m 0 (by simp;omega);simp only [Int.natCast_zero] at hi0 him;have b0:n < n+2:=by omega
    have b1:n1 < n+2:=by omega
    have b2:n<=n+1:=by omega
    have b3:n1<=n+1:=by omega
    have hlv:(adG n u c).length=n+2:=(zjs n u c).trans hlm;have hz:(0#64:ac).toNat<=1:=by decide
    generalize hv:adG n u c=v at*;simp -implicitDefEqProofs [q11,q1,wr,aM,bf,bj,V,modV,g0,g2,g7,g8,hi0,hin,hin1,him,hlm,hlv,hm,b0,b1,b2,b3,w2,OT,had,yS,R8,hn0];generalize hF:run ah _ (.loop _) _ _=R;obtain ⟨fr3,rfl,p11,p1⟩:=ze9 m i0 q0 v (gd v 0#64 0*i0) n hn0 hlv hm hn hF (by simp [q1,wr,aM,bj,g0,modV]) (by simp [q1,wr,aM,bj,g7]) (by simp [q1,wr,aM,bj,g8]) (by simp;rfl) (by simp) (by simp);have hlr:(lX m v (gd v 0#64 0*i0) (n - 1)).1.length=n+2:=(Ek _ _ _ _).trans hlv;generalize lX m v (gd v 0#64 0*i0) (n - 1)=q2 at*;obtain ⟨u2,c2⟩:=q2;simp only at hlr p11 hst;obtain ⟨nm,hnm⟩:∃ nm,nm=n - 1:=⟨_,rfl⟩;have w3:Wr ((n:Int) - 1)=(nm:Int):=wy;have him1:=kF h.blks.length 0 0 (n+2) nm (some (n+2)) (by simp;omega);have b4:nm < n+2:=by omega
    have b5:nm<=n+1:=by omega
    have b6:¬nm=n1:=by omega
    have hen:(u2.set nm (OV (gd u2 0#64 n) c2 0#64)).set n (gd u2 0#64 n1+RV (gd u2 0#64 n) c2 0#64)=enG n u2 c2:=by rw [hn1,hnm];rfl
    have hgs:gd (u2.set nm (OV (gd u2 0#64 n) c2 0#64)) 0#64 n1=gd u2 0#64 n1:=qY _ _ _ _ b6;simp -implicitDefEqProofs [p11,p1,q1,wr,aM,bG,bf,bj,V,g7,g8,g27,hin,hin1,him1,hlr,b0,b1,b2,b3,b4,b5,w1,w2,w3,OT,yS,hgs,hen];rw [hst];exact ⟨hlt,rfl⟩
   ·have:k=n:=by omega
    subst this;simp [bf,g27,g26])
 exact ⟨fr',rfl,hk⟩
theorem gdT {n:Nat}(l:List ac)(i:Nat)(h:i < n):gd (l.take n) 0#64 i=gd l 0#64 i:=by
 unfold gd;rw [List.getD_eq_getElem?_getD,List.getD_eq_getElem?_getD,List.getElem?_take_of_lt h]
theorem ziI (h:O)(t:List ac)(n m:Nat)(cap:Option Nat)(ht:t.length=m)(hn:n<=m):iV (hx h [cW t] []) (sA h.blks.length 0 0 1 n cap) (t.take n):=by
 refine ⟨by simp [B9,sA];omega,fun i=>pA h.blks.length 0 i,fun i hi=>?_,fun i bs ts hi=>?_⟩
 ·have:=kF h.blks.length 0 0 n i cap (by simp at hi |-;omega);simpa using this
 ·rw [LW,gdT t i (by simp at hi;omega)];simp at hi;simp [show i < t.length by omega]
theorem ziK (h:O)(t:List ac)(nt k n m:Nat)(cap:Option Nat)(ht:t.length=m)(hn:n<=m):frz (hx h [cW t] []) h.blks.length nt (k+1) (sA h.blks.length 0 0 1 n cap)=some (.vsl false (eW (t.take n))):=by
 have:=GO h [cW t] [] nt k 0 n cap .u64 (sf t) (by rw [<- xm];rfl) (by simp;omega);rw [this,JD,<- AG]
theorem zx (L:az)(h:O)(x y:J)(m:List ac)(i0:ac)(q0 a b:List ac)(n:Nat)(hn0:0 < n)(hm:m.length=n)(ha:a.length=n)(hb:b.length=n)(hn:n < 100000)(hra:iV h x a)(hrb:iV h y b)
  (hi:(1+i0.toNat*(gd m 0#64 0).toNat) % 18446744073709551616=0) (hbm:val b < val m) (hodd:val m % 2=1):
  Z ah L bP [modV m i0 q0,x,y] h=some (.vsl false (eW (wN n (Xh n (val m) (val a*val b)))),h):=by
 rw [yv];have hall:=ziD n m i0 a b hn0 hm ha hb hi hbm hodd;have hl:=Eo n m i0 a b n;have hpm:=ZZ.modV (hx h [cW (vj n m i0 a b n)] []) m i0 q0;obtain ⟨N2,hN2⟩:∃ N2,N2=n+2:=⟨_,rfl⟩;have w1:Wr ((n:Int)+2)=(N2:Int):=wy;have e0:cW (tab N2 fun _=>0#64)=cW (vj n m i0 a b 0):=by rw [hN2];rfl
 have hbig:(N2:Int) < 274877906944:=by omega
 simp -implicitDefEqProofs [mh,V,modV,hm,hra.1,ha,w1,i7,ao,hbig,eR,bH,e0];generalize hF:run ah _ (.loop _) _ _=R;subst hN2;obtain ⟨fr1,rfl,hk1⟩:=zfa x y m i0 q0 a b n hn0 hm ha hb (by omega) hra hrb hF (by simp [modV]) (by simp) (by simp) (by simp) (by simp) (by simp) (by simp);generalize vj n m i0 a b n=t at*;have hsl:=I6 1 h.blks.length 0 (n+2) n (some (n+2)) .i64 (by simp;omega);have hin:=kF h.blks.length 0 0 (n+2) n (some (n+2)) (by simp);have b0:n < n+2:=by omega
 have b2:n<=n+1:=by omega
 have hru:=ziI h t n (n+2) (some (n+2)) hl (by omega);have hfz:=fun k=>ziK h t h.toks.length k n (n+2) (some (n+2)) hl (by omega);have hlt:(t.take n).length=n:=by simp;omega
 generalize hc:gd t 0#64 n=c at*;by_cases hca:c=0#64/\val (t.take n) < val m
 ·have hless:=fun L=>Pg L (hx h [cW t] []) (modV m i0 q0) _ (sA h.blks.length 0 0 1 n (some (n+2))) m (t.take n) hpm hru (fun h1=>Nc h1 _ _ 11 _ 0 1 n _ (by simp [aB])) ⟨by omega,by omega⟩ hca.2;obtain ⟨hc0,hum⟩:=hca;have hres:wN n (Xh n (val m) (val a*val b))=t.take n:=by
   rw [<- hall];unfold S8;rw [if_pos ⟨by rw [hc0];rfl,hum⟩];exact G4 hlt
  subst hc0;simp only [modV] at hless;simp -implicitDefEqProofs [hk1,wr,aM,bG,bf,bj,hsl,hin,hl,b0,b2,hc,hless,hfz,hres]
 ·have hless:=fun L=>Ph L (hx h [cW t] []) (modV m i0 q0) _ m (t.take n) c hpm hru n ⟨hlt,hm⟩ hn0 (by omega) hca;have hres:(if val (t.take n) < val m then val (t.take n)+bN n - val m else val (t.take n) - val m)=Xh n (val m) (val a*val b):=by
   have hnn:¬(c.toNat=0/\val (t.take n) < val m):=fun q=>hca ⟨BitVec.eq_of_toNat_eq q.1,q.2⟩;rw [<- hall,S8,if_neg hnn]
  rw [hres] at hless;simp only [modV] at hless;simp -implicitDefEqProofs [hk1,wr,aM,bG,bf,bj,hsl,hin,hl,b0,b2,hc,hless]
@[irreducible] def K1 (n m y:Nat):Nat:=y*2 ^ (64*n) % m
theorem Xv (n m:Nat)(h:m % 2=1):2 ^ (64*n)*hN m ^ (64*n) % m=1 % m:=by rw [<- Nat.mul_pow];exact Vm m _ h
theorem mod_one (a b m:Nat)(h:b % m=1 % m):a*b % m=a % m:=by rw [Nat.mul_mod,h,<- Nat.mul_mod,Nat.mul_one]
theorem Xs (a b c m:Nat):a % m*(b % m)*c % m=a*b*c % m:=by
 rw [Nat.mul_mod (a % m*(b % m)),<- Nat.mul_mod a b,<- Nat.mul_mod]
theorem Zq (n m y z:Nat)(h:m % 2=1):Xh n m (K1 n m y*K1 n m z)=K1 n m (y*z):=by
 unfold Xh K1;rw [Xs,show y*2 ^ (64*n)*(z*2 ^ (64*n))*hN m ^ (64*n)=y*z*2 ^ (64*n)*(2 ^ (64*n)*hN m ^ (64*n)) by ac_rfl];exact mod_one _ _ _ (Xv n m h)
theorem zfB (n m y:Nat)(h:m % 2=1):Xh n m (y % m*(2 ^ (128*n) % m))=K1 n m y:=by
 unfold Xh K1;rw [Xs,show 2 ^ (128*n)=2 ^ (64*n)*2 ^ (64*n) by rw [<- Nat.pow_add];congr 1;omega,show y*(2 ^ (64*n)*2 ^ (64*n))*hN m ^ (64*n)=y*2 ^ (64*n)*(2 ^ (64*n)*hN m ^ (64*n)) by ac_rfl];exact mod_one _ _ _ (Xv n m h)
theorem ziY (n m:Nat)(h:m % 2=1):Xh n m (1*(2 ^ (128*n) % m))=K1 n m 1:=by
 rw [<- zfB n m 1 h];unfold Xh;rw [Xs,Nat.mul_comm 1,Nat.mul_one,Nat.one_mul,Nat.mod_mul_mod]
theorem zi0 (n m y:Nat)(h:m % 2=1):Xh n m (K1 n m y*1)=y % m:=by
 unfold Xh K1;rw [Nat.mul_one,Nat.mod_mul_mod,Nat.mul_assoc];exact mod_one _ _ _ (Xv n m h)
theorem Sh (n m y:Nat)(h:0 < m):K1 n m y < m:=by unfold K1;exact Nat.mod_lt _ h
theorem zfF (v e i:Nat):v ^ (e / 2 ^ i)=v ^ (e / 2 ^ (i+1))*v ^ (e / 2 ^ (i+1))*(if e / 2 ^ i % 2=1 then v else 1):=by
 have h1:e / 2 ^ (i+1)=e / 2 ^ i / 2:=by rw [Nat.pow_succ,Nat.div_div_eq_div_mul]
 rw [h1];generalize e / 2 ^ i=x;rw [<- Nat.pow_add];split
 ·rename_i hb;rw [<- Nat.pow_succ]
  congr 1;omega
 ·rw [Nat.mul_one]
  congr 1;omega
theorem zb4 {fr:Fr}{h:O}{R:Option (dt × Fr × O)}(y:J)(m:List ac)(i0:ac)(q0 e:List ac)(v n:Nat)(one:List ac)(hn0:0 < n)(hm:m.length=n)(hn:n < 100000)(hre:iV h y e)(hel:e.length < 1000000)
  (hi:(1+i0.toNat*(gd m 0#64 0).toNat) % 18446744073709551616=0) (hodd:val m % 2=1)
  (hF:run ah (V h) (.loop dK) fr (hx h [one.map wd] [])=R)
  (h0:fr 0=modV m i0 q0) (h2:fr 2=y) (h8:fr 8=.vsl false (eW (wN n (K1 n (val m) v)))) (h9:fr 9=.vsl false (eW (wN n (K1 n (val m) 1)))) (h10:fr 10=Ii (((bl (val e):Nat):Int) - 1)):
  ∃ fr',R=some (.exit 0,fr',hx h [one.map wd] [])/\fr' 9=.vsl false (eW (wN n (K1 n (val m) (v ^ val e))))/\∀ t,t∉wr dK->fr' t=fr t:=by
 obtain ⟨r1,pp,r2,r3⟩:=hre;have hN:bl (val e)<=64*e.length:=Pi (by rw [<- Jb];exact oM e);have hvN:val e / 2 ^ bl (val e)=0:=Nat.div_eq_of_lt (zjy _);have h0m:0 < val m:=by omega
 have hvm:val m < bN n:=by rw [<- hm];exact oM m
 have hval:∀ z,val (wN n (K1 n (val m) z))=K1 n (val m) z:=fun z=>pE n _ (Nat.lt_trans (Sh n _ z h0m) hvm);obtain ⟨ex,fr',h',rfl,⟨rfl,rfl,h9'⟩,hk⟩:=af hF (bl (val e))
  (fun k fr hh=>fr 10=Ii (((bl (val e):Nat):Int) - 1 - k)/\hh=hx h [one.map wd] []/\fr 9=.vsl false (eW (wN n (K1 n (val m) (v ^ (val e / 2 ^ (bl (val e) - k)))))))
  (fun ex fr hh=>ex=.exit 0/\hh=hx h [one.map wd] []/\fr 9=.vsl false (eW (wN n (K1 n (val m) (v ^ val e)))))
  ⟨by rw [h10]; simp, rfl, by rw [Nat.sub_zero, hvN, Nat.pow_zero]; exact h9⟩ (by
   rintro k fr1 hh hkN hkeep ⟨g10,rfl,g9⟩;have g0:=kp hkeep h0;have g2:=kp hkeep h2;have g8:=kp hkeep h8;by_cases hlt:k < bl (val e)
   ·obtain ⟨i,hii⟩:∃ i:Nat,i=bl (val e) - 1 - k:=⟨_,rfl⟩;have e1:bl (val e) - k=i+1:=by omega
    have e2:bl (val e) - (k+1)=i:=by omega
    have hpb:=zfF v (val e) i;have hvb:=Yl e i;have hil:i / 64 < e.length:=by omega
    rw [e1] at g9;generalize v ^ (val e / 2 ^ (i+1))=z at*;have hsq:=fun L=>zx L (hx h [one.map wd] []) (.vsl false (eW (wN n (K1 n (val m) z)))) (.vsl false (eW (wN n (K1 n (val m) z)))) m i0 q0 _ _ n hn0 hm (A7 _ _) (A7 _ _) hn (iV.vsl _ _ _) (iV.vsl _ _ _) hi (by rw [hval];exact Sh n _ z h0m) hodd;simp only [hval,Zq n (val m) _ _ hodd] at hsq;have hmu:=fun L=>zx L (hx h [one.map wd] []) (.vsl false (eW (wN n (K1 n (val m) (z*z))))) (.vsl false (eW (wN n (K1 n (val m) v)))) m i0 q0 _ _ n hn0 hm (A7 _ _) (A7 _ _) hn (iV.vsl _ _ _) (iV.vsl _ _ _) hi (by rw [hval];exact Sh n _ v h0m) hodd;simp only [hval,Zq n (val m) _ _ hodd] at hmu;have g10':fr1 10=Ii (i:Int):=by rw [g10];congr 1;omega
    have w1:Wr ((i:Int) - 1)=((bl (val e):Nat):Int) - 1 - ((k+1:Nat):Int):=wy;have t1:(i:Int).tdiv 64=((i / 64:Nat):Int):=vS i 64;have t2:=eF (i / 64) (by omega);have t3:(i:Int).tmod 64=((i % 64:Nat):Int):=rt i 64;have hro:=r2 (i / 64) hil;have hrd:=fun L=>r3 (i / 64) L [] hil;have hsh:=yw (gd e 0#64 (i / 64)) .i64 (i % 64) (by simp;omega);have hand:aV .and (wd (gd e 0#64 (i / 64) >>> (i % 64))) (wd 1#64)=some (wd (gd e 0#64 (i / 64) >>> (i % 64)&&&1#64)):=Be _ _;have hbb:(gd e 0#64 (i / 64) >>> (i % 64)&&&1#64==1#64)=decide (val e / 2 ^ i % 2=1):=by
     rw [<- hvb];rw [Bool.eq_iff_iff];simp only [beq_iff_eq,decide_eq_true_eq];constructor
     ·intro q;rw [q];rfl
     ·intro q;exact BitVec.eq_of_toNat_eq q
    generalize gd e 0#64 (i / 64) >>> (i % 64)&&&1#64=di at*;generalize i / 64=iq,i % 64=ir,gd e 0#64 (i / 64)=wq,gd e 0#64 (i / 64) >>> (i % 64)=sh at*;by_cases hbit:val e / 2 ^ i % 2=1
    ·rw [if_pos hbit] at hpb;rw [decide_eq_true hbit] at hbb;simp -implicitDefEqProofs [dK,V,g0,g2,g8,g9,g10',show (0:Int)<=(i:Int) by omega,t1,t2,t3,eN,bQ,hro,hrd,hsh,wd1,hand,uR,hbb,hsq,hmu,w1, -jz, -wS, -Be,e2,hpb];exact hlt
    ·rw [if_neg hbit,Nat.mul_one] at hpb;rw [decide_eq_false hbit] at hbb;simp -implicitDefEqProofs [dK,V,g0,g2,g8,g9,g10',show (0:Int)<=(i:Int) by omega,t1,t2,t3,eN,bQ,hro,hrd,hsh,wd1,hand,uR,hbb,hsq,hmu,w1, -jz, -wS, -Be,e2,hpb];exact hlt
   ·have:k=bl (val e):=by omega
    subst this;have hz:((bl (val e):Nat):Int) - 1 - ((bl (val e):Nat):Int)= -1:=by omega
    rw [hz] at g10;rw [Nat.sub_self,Nat.pow_zero,Nat.div_one] at g9;simp [dK,g10];exact g9)
 exact ⟨fr',rfl,h9',hk⟩
theorem zi1 (L:az)(h:O)(x y:J)(m:List ac)(i0:ac)(a e:List ac)(n:Nat)(hn0:0 < n)(hm:m.length=n)(hn:n < 100000)(hra:iV h x a)(hal:a.length < 1000000)(hre:iV h y e)(hel:e.length < 1000000)
  (hi:(1+i0.toNat*(gd m 0#64 0).toNat) % 18446744073709551616=0) (hodd:val m % 2=1) (h1m:1 < val m):
  Z ah L ec [modV m i0 (wN n (EX (val m) (128*n))),x,y] h=some (.vsl false (eW (wN n (val a ^ val e % val m))),h):=by
 rw [CH,show EX (val m) (128*n)=2 ^ (128*n) % val m from rfl];have h0m:0 < val m:=by omega
 have hvm:val m < bN n:=by rw [<- hm];exact oM m
 have hval:∀ z,val (wN n (K1 n (val m) z))=K1 n (val m) z:=fun z=>pE n _ (Nat.lt_trans (Sh n _ z h0m) hvm);have hvs:val (wN n (2 ^ (128*n) % val m))=2 ^ (128*n) % val m:=pE n _ (Nat.lt_trans (Nat.mod_lt _ h0m) hvm);have hvr:val (wN n (val a % val m))=val a % val m:=pE n _ (Nat.lt_trans (Nat.mod_lt _ h0m) hvm);have hv1:val (wN n 1)=1:=pE n 1 (by omega);have hset:=Pv n hn0;generalize hsq:wN n (2 ^ (128*n) % val m)=sq at*;have hsl:sq.length=n:=by rw [<- hsq];simp
 have hpm:=ZZ.modV (hx h [cW (wN n 1)] []) m i0 sq;have hR:=fun L=>zak L (hx h [cW (wN n 1)] []) (modV m i0 sq) x m a hpm (hra.ext _ _) hal ⟨by omega,by omega⟩ h0m;rw [hm] at hR;have ho:iV (hx h [cW (wN n 1)] []) (sA h.blks.length 0 0 1 n (some n)) (wN n 1):=iV.sA [] 0 n _ _ (by simp) rfl;have s1:=fun L=>zx L (hx h [cW (wN n 1)] []) (.vsl false (eW (wN n (val a % val m)))) (.vsl false (eW sq)) m i0 sq _ _ n hn0 hm (A7 _ _) hsl hn (iV.vsl _ _ _) (iV.vsl _ _ _) hi (by rw [hvs];exact Nat.mod_lt _ h0m) hodd;simp only [hvr,hvs,zfB n (val m) _ hodd] at s1;have s2:=fun L=>zx L (hx h [cW (wN n 1)] []) (sA h.blks.length 0 0 1 n (some n)) (.vsl false (eW sq)) m i0 sq _ _ n hn0 hm (A7 _ _) hsl hn ho (iV.vsl _ _ _) hi (by rw [hvs];exact Nat.mod_lt _ h0m) hodd;simp only [hv1,hvs,ziY n (val m) hodd] at s2;have s3:=fun L=>zx L (hx h [cW (wN n 1)] []) (.vsl false (eW (wN n (K1 n (val m) (val a ^ val e))))) (sA h.blks.length 0 0 1 n (some n)) m i0 sq _ _ n hn0 hm (A7 _ _) (A7 _ _) hn (iV.vsl _ _ _) ho hi (by rw [hv1];exact h1m) hodd;simp only [hv1,hval,zi0 n (val m) _ hodd] at s3;have hB:=fun L=>Yo L (hx h [cW (wN n 1)] []) y e (hre.ext _ _) hel;have hN:bl (val e)<=64*e.length:=Pi (by rw [<- Jb];exact oM e);have w1:Wr (((bl (val e):Nat):Int) - 1)=((bl (val e):Nat):Int) - 1:=wz;have hbig:(n:Int) < 274877906944:=by omega
 have hi0:=kF h.blks.length 0 0 n 0 (some n) (by simpa using hn0);simp only [Int.natCast_zero] at hi0;simp only [modV] at hR s1 s2 s3;have hcw:cW (wN n 1)=(wN n 1).map wd:=rfl;simp -implicitDefEqProofs [px,V,modV,hm,i7,ao,hbig,eR,bH,hi0,hn0,show 1<=n by omega,wd1,hset,hR,s1,s2,hB,w1];generalize hF:run ah _ (.loop _) _ _=R;obtain ⟨fr1,rfl,h9,hk1⟩:=zb4 y m i0 sq e (val a) n (wN n 1) hn0 hm hn hre hel hi hodd hF (by simp [modV]) (by simp) (by simp) (by simp) (by simp);rw [<- hcw];simp -implicitDefEqProofs [h9,hk1,wr,dK,bj,s3]
@[irreducible] def S4 (a e m:Nat):Nat:=a ^ e % m
def gW:List ac:=[18446744073709551615#64,17603518614768072224#64,16466767132611215046#64,5755940542857986629#64,3470879405153129527#64,17263733006627652379#64,5857503583518590173#64,147421033984662306#64,2955010104097229940#64,14179128828124470481#64,14488038916154245684#64,18446744073709551615#64]
def qW:List ac:=[9223372036854775807#64,8801759307384036112#64,17456755603160383331#64,12101342308283769122#64,10958811739431340571#64,17855238540168601997#64,2928751791759295086#64,73710516992331153#64,10700877088903390778#64,7089564414062235240#64,16467391494931898650#64,9223372036854775807#64]
theorem zfW:cW gW=[.int .u64 18446744073709551615,.int .u64 17603518614768072224,.int .u64 16466767132611215046,.int .u64 5755940542857986629,.int .u64 3470879405153129527,.int .u64 17263733006627652379,.int .u64 5857503583518590173,.int .u64 147421033984662306,.int .u64 2955010104097229940,.int .u64 14179128828124470481,.int .u64 14488038916154245684,.int .u64 18446744073709551615]:=rfl
theorem BW:gW.length=12/\1 < val gW/\gd gW 0#64 0&&&1#64≠0#64/\gd gW 0#64 (gW.length - 1)≠0#64/\val gW % 2=1/\(1+(-(wF (gd gW 0#64 0) 6)).toNat*(gd gW 0#64 0).toNat) % 18446744073709551616=0:=by
 refine ⟨rfl,by decide +kernel,by decide +kernel,by decide +kernel,by decide +kernel,by decide +kernel⟩
theorem QD:qW.length=12/\1 < val qW/\gd qW 0#64 0&&&1#64≠0#64/\gd qW 0#64 (qW.length - 1)≠0#64/\val qW % 2=1/\(1+(-(wF (gd qW 0#64 0) 6)).toNat*(gd qW 0#64 0).toNat) % 18446744073709551616=0:=by
 refine ⟨rfl,by decide +kernel,by decide +kernel,by decide +kernel,by decide +kernel,by decide +kernel⟩
theorem QE (L:az)(h:O):Z ah L qm [] h=some (.agg (cW gW),h):=by
 rw [KY];simp [Ai,V,aL,al,au,ae,aa,mO,zfW,J.cells,J.okV,setAt]
@[irreducible] def sqW (m:List ac):List ac:=wN 12 (EX (val m) (128*12))
theorem zf0 (m:List ac):wN 12 (EX (val m) (128*12))=sqW m:=by unfold sqW;exact rfl
def Nu (m:List ac):J:=.vptr [modV m (-(wF (gd m 0#64 0) 6)) (sqW m)] 0
theorem Nv (n:Nat)(l:List ac)(hl:l.length=n):eP (.arr n) 1 (.vptr (cW l) 0) none none none=some (.vsl true (eW l)):=by
 have e:=Bx n (cW l) (by simpa using hl);have e2:(cW l).map (fun c=>[c])=eW l:=by simp [cW,eW]
 rw [e2] at e;simp [eP,jp,hl,e,CV,List.take_of_length_le]
theorem XJ (h:O)(nb nt n:Nat)(m:List ac)(i:ac)(q:List ac):frz h nb nt (n+1) (.vptr [modV m i q] 0)=some (.vptr [modV m i q] 0):=by
 have hu:aE nb nt [modV m i q]=true:=by simp [aE,modV,J.under];rfl
 simp only [frz,VY,hu,if_true,Option.map_some]
theorem Vd (L:az)(h:O)(m:List ac)(hm:m.length=12)(h1:1 < val m)(h2:gd m 0#64 0&&&1#64≠0#64)(h3:gd m 0#64 (m.length - 1)≠0#64):Z ah L tq [.agg (cW m)] h=some (Nu m,h):=by
 rw [Nd];have hsl:=Nv 12 m hm;have hbox:pe (.agg (cW m))=some (.vptr (cW m) 0):=rfl;have hne:GF .slc (.vsl true (eW m)) .nsl=some false:=by
  cases m with
  | nil=>simp at hm
  | cons x m=>rfl
 have hN:=fun L h=>zkB L h (.vsl true (eW m)) m (LsW.vsl _ _ _) hne (by omega) h1 h2 h3 (by omega);rw [hm] at hN;rw [zf0] at hN;unfold Nu;generalize sqW m=sq,-(wF (gd m 0#64 0) 6)=iv at*;have hb2:pe (.agg [modV m iv sq])=some (.vptr [modV m iv sq] 0):=rfl;have hfi:al [J.nilp] [(0,1,modV m iv sq)]=some [modV m iv sq]:=rfl;have hf:=fun hh nb nt n=>XJ hh nb nt n m iv sq;generalize modV m iv sq=mv at*;simp -implicitDefEqProofs [C4,hbox,hsl,hN,hfi,hb2,hf]
theorem zcc (L:az)(h:O):Z ah L u0 [] h=some (Nu gW,h):=by
 rw [KR];have hR:=fun L h=>Vd L h gW BW.1 BW.2.1 BW.2.2.1 BW.2.2.2.1;have hf:∀ hh nb nt n,frz hh nb nt (n+1) (Nu gW)=some (Nu gW):=fun hh nb nt n=>XJ hh nb nt n _ _ _;generalize Nu gW=r at*;simp -implicitDefEqProofs [Ab,QE,hR,hf]
def S5 (q:List ac):Nat->List ac × ac
 | 0=>(q,0#64)
 | k+1=>((S5 q k).1.set (11 - k) (gd (S5 q k).1 0#64 (11 - k) >>> 1|||(S5 q k).2 <<< 63),gd (S5 q k).1 0#64 (11 - k)&&&1#64)
@[simp] theorem ZE (q:List ac):∀ k,(S5 q k).1.length=q.length
 | 0=>rfl
 | k+1=>by simp [S5,ZE q k]
theorem zjd:(S5 gW 12).1=qW:=by decide +kernel
theorem zcd {fr:Fr}{h:O}{R:Option (dt × Fr × O)}(q:List ac)(hq:q.length=12)
  (hF:run ah (V h) (.loop mE) fr (hx h [cW q] [])=R) (h1:fr 1=pA h.blks.length 0 0) (h2:fr 2=wd 0#64) (h3:fr 3=Ii 11):
  ∃ fr',R=some (.exit 0,fr',hx h [cW (S5 q 12).1] [])/\fr' 1=fr 1:=by
 obtain ⟨e,fr',h',rfl,⟨rfl,rfl⟩,hk⟩:=af hF 12
  (fun k fr hh=>fr 3=Ii (11 - (k:Int))/\fr 2=wd (S5 q k).2/\hh=hx h [cW (S5 q k).1] [])
  (fun e fr hh=>e=.exit 0/\hh=hx h [cW (S5 q 12).1] [])
  ⟨by simpa using h3, h2, rfl⟩ (by
   rintro k fr1 hh hkN hkeep ⟨g3,g2,rfl⟩;have g1:=kp hkeep h1;by_cases hlt:k < 12
   ·obtain ⟨i,hi⟩:∃ i,i=11 - k:=⟨_,rfl⟩;have g3':fr1 3=Ii (i:Int):=by rw [g3];congr 1;omega
    have w1:Wr ((i:Int) - 1)=11 - ((k+1:Nat):Int):=wy;have hl:=(ZE q k).trans hq;have hst:S5 q (k+1)=((S5 q k).1.set i (gd (S5 q k).1 0#64 i >>> 1|||(S5 q k).2 <<< 63),gd (S5 q k).1 0#64 i&&&1#64):=by rw [S5,<- hi]
    generalize S5 q k=u at*;obtain ⟨u,c⟩:=u;simp only at hl g2 hst;have s1:=yw (gd u 0#64 i) .u64 1 (by decide);have s2:=Nz c .u64 63 (by decide);simp only [Int.cast_ofNat_Int,Int.natCast_one,wd1] at s1 s2;have s3:aV .and (wd (gd u 0#64 i)) (wd 1#64)=some (wd (gd u 0#64 i&&&1#64)):=Be _ _;have hia:=e7 12 1 0 h.blks.length 0 i .i64 (by simp;omega);simp -implicitDefEqProofs [mE,V,g1,g2,g3',show (0:Int)<=(i:Int) by omega,e7,show i < 12 by omega,show i<=11 by omega,hl,s1,s2,s3,wd1,w1, -jz, -wV, -wS, -Be,hst];omega
   ·have:k=12:=by omega
    subst this;simp [mE,g3])
 exact ⟨fr',rfl,hk 1 (by decide)⟩
theorem zjf (L:az)(h:O):Z ah L nW [] h=some (Nu qW,h):=by
 rw [E8];have hR:=fun L h=>Vd L h qW QD.1 QD.2.1 QD.2.2.1 QD.2.2.2.1;have hf:∀ hh nb nt n,frz hh nb nt (n+1) (Nu qW)=some (Nu qW):=fun hh nb nt n=>XJ hh nb nt n _ _ _;generalize Nu qW=r at*;have hg:gW.length=12:=rfl;simp -implicitDefEqProofs [rR,V,QE,bH,lN,au,ae,aa,hg,OT];generalize hF:run ah _ (.loop _) _ _=R;obtain ⟨fr1,rfl,k1⟩:=zcd gW rfl hF (by simp) (by simp) (by simp);rw [zjd];have hq:qW.length=12:=rfl;simp -implicitDefEqProofs [k1,aa,hq,hR,hf]
theorem QG (L:az)(h:O)(m:List ac)(i0:ac)(q0:List ac)(hm:0 < m.length/\m.length < 1000):Z ah L fW [modV m i0 q0] h=some (.vsl false (eW m),h):=by
 rw [zu];have hne:GF .slc (.vsl false (eW m)) .nsl=some false:=by
  cases m with
  | nil=>simp at hm
  | cons x m=>rfl
 have hc:=fun L H=>Tw L H (.vsl false (eW m)) m (LsW.vsl _ _ _) hne ⟨hm.1,by omega⟩;simp -implicitDefEqProofs [nk,modV,hc]
theorem zf7 (L:az)(h:O)(m:List ac)(hm:m.length=12):Z ah L nX [Nu m] h=some (.agg (cW m),h):=by
 rw [E9];have hw:=fun L h i q=>QG L h m i q (by omega);have h2a:=Md 12 false m (by decide) (by omega);rw [List.take_of_length_le (by omega)] at h2a;simp -implicitDefEqProofs [rS,V,Nu,hw,h2a,bH,lN,au,ae,aa,hm]
theorem zmh (L:az)(h:O)(m:List ac)(a e:List ac)(hm:m.length=12)(ha:a.length=12)(he:e.length=12)(h1:1 < val m)(hodd:val m % 2=1)(hi:(1+(-(wF (gd m 0#64 0) 6)).toNat*(gd m 0#64 0).toNat) % 18446744073709551616=0):
  Z ah L EA [.fn (.func ec) [modV m (-(wF (gd m 0#64 0) 6)) (sqW m)] [],.agg (cW a),.agg (cW e)] h=some (.agg (cW (wN 12 (S4 (val a) (val e) (val m)))),h):=by
 rw [Sa];have s1:=Nv 12 a ha;have s2:=Nv 12 e he;have b1:pe (.agg (cW a))=some (.vptr (cW a) 0):=rfl;have b2:pe (.agg (cW e))=some (.vptr (cW e) 0):=rfl;have hE:=fun L H=>zi1 L H (.vsl true (eW a)) (.vsl true (eW e)) m (-(wF (gd m 0#64 0) 6)) a e 12 (by decide) hm (by decide) (iV.vsl _ _ _) (by omega) (iV.vsl _ _ _) (by omega) hi hodd h1;have hp:val a ^ val e % val m=S4 (val a) (val e) (val m):=by unfold S4;rfl
 rw [hp,zf0] at hE;generalize sqW m=sq,-(wF (gd m 0#64 0) 6)=iv,S4 (val a) (val e) (val m)=p at*;have hfz:∀ h,nT h (.fn (.func ec) [modV m iv sq] [])=some (.fn (.func ec) [modV m iv sq] [],false):=fun h=>by simp [nT]
 have h2a:=Md 12 false (wN 12 p) (by decide) (by simp);rw [List.take_of_length_le (by simp)] at h2a;simp only [modV] at hE hfz |-;simp -implicitDefEqProofs [Jj,V,hfz,b1,b2,s1,s2,hE,h2a,bH,lN,au,ae,aa]
theorem zgd (L:az)(h:O)(m a e:List ac)(hm:m.length=12)(ha:a.length=12)(he:e.length=12)(h1:1 < val m)(hodd:val m % 2=1)(hi:(1+(-(wF (gd m 0#64 0) 6)).toNat*(gd m 0#64 0).toNat) % 18446744073709551616=0):
  Z ah L pi [Nu m,.agg (cW a),.agg (cW e)] h=some (.agg (cW (wN 12 (S4 (val a) (val e) (val m)))),h):=by
 rw [GM];have b1:pe (.agg (cW a))=some (.vptr (cW a) 0):=rfl;have b2:pe (.agg (cW e))=some (.vptr (cW e) 0):=rfl;have hof:=fun L h=>zmh L h m a e hm ha he h1 hodd hi;unfold Nu;generalize S4 (val a) (val e) (val m)=p at*;generalize hmv:modV m (-(wF (gd m 0#64 0) 6)) (sqW m)=mv at*;have hp:(wN 12 p).length=12:=by simp
 generalize wN 12 p=r at*;simp -implicitDefEqProofs [tZ,V,b1,b2,hof,ha,he,hp,aa,bH,lN,au,ae]
theorem zge (L:az)(h:O)(m:List ac)(c:Bool)(b:List Int)(hm:m.length=12)(hb:cw b)(hl:b.length < 1000000):
  Z ah L nV [Nu m,.vsl c (eI .u8 b)] h=some (if b.length=96 then (if bi b < val m then .tup [.agg (cW (wN 12 (bi b))),Ii 0] else .tup [.agg (cW (wN 12 0)),Ii 4]) else .tup [.agg (cW (wN 12 0)),Ii 1],h):=by
 rw [E7];have hz:cW (tab 12 fun _=>0#64)=cW (wN 12 0):=by rw [Q2]
 by_cases h96:b.length=96
 ·rw [if_pos h96];have hW:=fun L H=>L6 L H (.vsl false (eI .u8 b)) b (IY.vsl H .u8 false b) (by omega);rw [h96,show (96+7) / 8=12 from rfl] at hW;have hv:val (EH b 12 96)=bi b:=by have:=Ys b hb 12 (by omega);rwa [h96] at this
  have hwl:(EH b 12 96).length=12:=by simp
  have hw2:EH b 12 96=wN 12 (bi b):=by rw [<- hv,G4 hwl]
  have hmw:=fun L h i q=>QG L h m i q (by omega);have hC:=fun L H=>VJ L H (.vsl false (eW (EH b 12 96))) (.vsl false (eW m)) _ m (iV.vsl _ _ _) (iV.vsl _ _ _) ⟨by omega,by omega⟩;rw [hv] at hC;rw [hw2] at hC hW;have h2a:=Md 12 false (wN 12 (bi b)) (by decide) (by simp);rw [List.take_of_length_le (by simp)] at h2a;have hwn:(wN 12 (bi b)).length=12:=by simp
  generalize wN 12 (bi b)=w at*;unfold Nu;by_cases hlt:bi b < val m
  ·rw [if_pos hlt];have hc:jU (bi b) (val m)= -1:=by unfold jU;rw [if_pos hlt]
   rw [hc] at hC;simp -implicitDefEqProofs [kO,V,h96,hW,hmw,hC,h2a,hwn,aa,bH,lN,au,ae]
  ·rw [if_neg hlt];have hc:decide (0<=jU (bi b) (val m))=true:=by
    unfold jU;rw [if_neg hlt];split <;> decide
   simp -implicitDefEqProofs [kO,V,h96,hW,hmw,hC,hc,hwn,aa,bH,lN,au,ae,hz,al]
 ·rw [if_neg h96];have hne:((b.length:Int)==96)=false:=by simp;omega
  unfold Nu;simp -implicitDefEqProofs [kO,V,bne,hne,aa,bH,lN,au,ae,hz,al]
def LI (b:List Int):Int:=if b.length=96 then (if bi b < val gW then (if S4 (bi b) (val qW) (val gW)=1 then 0 else 4) else 4) else 1
def grV (b:List Int):J:=.tup [.agg (cW (wN 12 (if LI b=0 then bi b else 0))),Ii (LI b)]
theorem zjj (L:az)(h:O):Z ah L xd [] h=some (.agg (cW (wN 12 1)),h):=by
 rw [MC];have e:cW (wN 12 1)=[.int .u64 1,.int .u64 0,.int .u64 0,.int .u64 0,.int .u64 0,.int .u64 0,.int .u64 0,.int .u64 0,.int .u64 0,.int .u64 0,.int .u64 0,.int .u64 0]:=rfl;rw [e];simp [CY,V,aL,al,au,ae,aa,mO,J.cells,J.okV,setAt]
theorem zmm (a e m:Nat)(h:0 < m):S4 a e m < m:=by unfold S4;exact Nat.mod_lt _ h
theorem zgj (L:az)(h:O)(c:Bool)(b:List Int)(hb:cw b)(hl:b.length < 1000000):Z ah L uX [.vsl c (eI .u8 b)] h=some (grV b,h):=by
 rw [KH];have hG:=zcc;have hX:=zjf;have hRd:=fun L h=>zge L h gW false b BW.1 hb hl;have hSz:=fun L h=>zf7 L h qW QD.1;have hz:aL (wd 0#64) 12=cW (wN 12 0):=by rw [lN,Q2]
 have hz2:aL (J.int .u64 0) 12=cW (wN 12 0):=hz;have hz0:(wN 12 0).length=12:=by simp
 have hfz:al (cW (wN 12 0)) []=some (cW (wN 12 0)):=rfl;by_cases h96:b.length=96
 ·by_cases hlt:bi b < val gW
  ·rw [if_pos h96,if_pos hlt] at hRd;have hvn:=pE 12 (bi b) (Nat.lt_trans hlt (by have:=oM gW;rwa [BW.1] at this));have hE:=fun L h=>zgd L h gW (wN 12 (bi b)) qW BW.1 (by simp) QD.1 BW.2.1 BW.2.2.2.2.1 BW.2.2.2.2.2;rw [hvn] at hE;have hOne:=zjj;have heq:=zkD (wN 12 (S4 (bi b) (val qW) (val gW))) (wN 12 1) 12 (by simp) (by simp);have hpl:=zmm (bi b) (val qW) (val gW) (by have:=BW.2.1;omega);have hiff:(wN 12 (S4 (bi b) (val qW) (val gW))=wN 12 1)↔S4 (bi b) (val qW) (val gW)=1:=by
    constructor
    ·intro e;have:=congrArg val e
     rwa [pE 12 _ (Nat.lt_trans hpl (by have:=oM gW;rwa [BW.1] at this)),pE 12 1 (by decide +kernel)] at this
    ·intro e;rw [e]
   have hql:qW.length=12:=rfl;have hnl:(wN 12 (bi b)).length=12:=by simp
   have hpl2:(wN 12 (S4 (bi b) (val qW) (val gW))).length=12:=by simp
   have h1l:(wN 12 1).length=12:=by simp
   have hfl : ∀ (x : List ac), x.length = 12 -> al (cW (wN 12 0)) [(0, 12, .agg (cW x))] = some (cW x) := fun x hx => by
    simp [al,J.cells,hx,J.okV];exact ae _ _ (by simp [hx])
   by_cases hp:S4 (bi b) (val qW) (val gW)=1
   ·have e:grV b=.tup [.agg (cW (wN 12 (bi b))),Ii 0]:=by
     have:LI b=0:=by unfold LI;rw [if_pos h96,if_pos hlt,if_pos hp]
     unfold grV;rw [this];rfl
    rw [e];rw [decide_eq_true (hiff.2 hp)] at heq;have hf:=hfl (wN 12 (bi b)) hnl;generalize Nu qW=g2,Nu gW=g1,wN 12 0=z,wN 12 1=o,wN 12 (bi b)=w,wN 12 (S4 (bi b) (val qW) (val gW))=r at*;simp -implicitDefEqProofs [ol,V,hG,hX,hRd,hSz,hE,hOne,heq,hz,hz2,hz0,hf,hnl,hql,hpl2,h1l,aa,au,ae]
   ·have e:grV b=.tup [.agg (cW (wN 12 0)),Ii 4]:=by
     have:LI b=4:=by unfold LI;rw [if_pos h96,if_pos hlt,if_neg hp]
     unfold grV;rw [this];rfl
    rw [e];rw [decide_eq_false (fun q=>hp (hiff.1 q))] at heq;generalize Nu qW=g2,Nu gW=g1,wN 12 0=z,wN 12 1=o,wN 12 (bi b)=w,wN 12 (S4 (bi b) (val qW) (val gW))=r at*;simp -implicitDefEqProofs [ol,V,hG,hX,hRd,hSz,hE,hOne,heq,hz,hz2,hz0,hfz,hnl,hql,hpl2,h1l,aa,au,ae]
  ·rw [if_pos h96,if_neg hlt] at hRd;have e:grV b=.tup [.agg (cW (wN 12 0)),Ii 4]:=by
    have:LI b=4:=by unfold LI;rw [if_pos h96,if_neg hlt]
    unfold grV;rw [this];rfl
   rw [e];generalize Nu gW=g1,wN 12 0=z at*;simp -implicitDefEqProofs [ol,V,hG,hRd,hz,hz2,hz0,hfz,aa,au,ae,bne]
 ·rw [if_neg h96] at hRd;have e:grV b=.tup [.agg (cW (wN 12 0)),Ii 1]:=by
   have:LI b=1:=by unfold LI;rw [if_neg h96]
   unfold grV;rw [this];rfl
  rw [e];generalize Nu gW=g1,wN 12 0=z at*;simp -implicitDefEqProofs [ol,V,hG,hRd,hz,hz2,hz0,hfz,aa,au,ae,bne]
def iE (t:Int):Nat:=if t=1 then 1 else if t=2 then 8 else if t=3 then 32 else if t=4 then 96 else 0
def BB (t:Int):J:=if t=3 then .fn (.func gr) [] [] else if t=4 then .fn (.func gu) [] [] else .nfn
def Kz (t:Int):List Int:=if t=2 then [8] else if t=3 then [32] else if t=4 then [31,31,31,3] else []
def Sw (t:Int):J:=.agg [Ii (iE t:Int),BB t,.vsl false (eI .i64 (Kz t))]
theorem El (h:O)(nb nt n:Nat)(cs:List J)(hc:bC cs=false):frz h nb nt (n+1) (.agg cs)=(OD h nb nt n cs).map .agg:=by
 rw [<- RF];simp [frz,hc]
@[simp] theorem zql (h:O)(nb nt n:Nat):frz h nb nt (n+1) .nfn=some .nfn:=by simp only [frz]
@[simp] theorem zqm (h:O)(nb nt n:Nat)(f:FuncId):frz h nb nt (n+1) (.fn (.func f) [] [])=some (.fn (.func f) [] []):=by simp [frz,aE]
theorem QK (L:az)(h:O)(t:Int):Z ah L lK [Ii t] h=some (Sw t,h):=by
 rw [F4];by_cases h1:t=1
 ·subst h1;simp [gM,V,Sw,iE,BB,Kz,al,rep,J.cells,J.okV,chunks,setAt,aa,au,ae,El,bC,J.flat]
 ·by_cases h2:t=2
  ·subst h2;simp [gM,V,Sw,iE,BB,Kz,al,rep,J.cells,J.okV,chunks,setAt,aa,au,ae,El,bC,J.flat,fq]
  ·by_cases h3:t=3
   ·subst h3;simp [gM,V,Sw,iE,BB,Kz,al,rep,J.cells,J.okV,chunks,setAt,aa,au,ae,El,bC,J.flat,fq]
   ·by_cases h4:t=4
    ·subst h4;simp [gM,V,Sw,iE,BB,Kz,al,rep,J.cells,J.okV,chunks,setAt,aa,au,ae,El,bC,J.flat,fq,xC]
    ·have b1:(t==1)=false:=by simpa using h1
     have b2:(t==2)=false:=by simpa using h2
     have b3:(t==3)=false:=by simpa using h3
     have b4:(t==4)=false:=by simpa using h4
     simp [gM,V,Sw,iE,BB,Kz,b1,b2,b3,b4,h1,h2,h3,h4,al,rep,J.cells,J.okV,chunks,setAt,aa,au,ae,El,bC,J.flat,fq,xC]
theorem zjq (L:az)(h:O)(t:Int):Z ah L sW [Ii t] h=some (Ii (iE t:Int),h):=by
 rw [I3];have hv:=fun L h=>QK L h t;simp only [Sw] at hv;have hf:∀ a b c:J,zi4 0 1 false (.agg [a,b,c])=some a:=fun a b c=>rfl;simp [yj,hv,hf]
def j3 (t:Int)(n:Nat):Nat × Int:=
 if iE t=0 then (0,6) else if ¬n % iE t=0 then (0,3) else if n=0\/1048576 < n / iE t then (0,7) else (n / iE t,0)
theorem J4 (L:az)(h:O)(t:Int)(c:Bool)(b:List Int)(hl:b.length < 9223372036854775808):Z ah L kT [Ii t,.vsl c (eI .u8 b)] h=some (.tup [Ii ((j3 t b.length).1:Int),Ii (j3 t b.length).2],h):=by
 rw [Ij];have hS:=fun L h=>zjq L h t;unfold j3;have hlen:(eI .u8 b).length=b.length:=by simp
 generalize b.length=n at*;generalize eI .u8 b=eb at*;generalize hs:iE t=s at*
 have hs8:s<=96:=by rw [<- hs];unfold iE;split <;> (try split) <;> (try split) <;> (try split) <;> omega
 by_cases h0:s=0
 ·rw [if_pos h0];have b0:((s:Int)==0)=true:=by simp;omega
  simp [iU,hS,b0,hlen]
 ·rw [if_neg h0];have b0:((s:Int)==0)=false:=by simp;omega
  have z0:¬(s:Int)=0:=by omega
  have t1:(n:Int).tmod (s:Int)=((n % s:Nat):Int):=rt n s;have t2:(n:Int).tdiv (s:Int)=((n / s:Nat):Int):=vS n s;have hle:n / s<=n:=Nat.div_le_self _ _;have t3:IntKind.i64.wrap ((n / s:Nat):Int)=((n / s:Nat):Int):=eF _ (by omega);have br:aV .rem (Ii (n:Int)) (Ii (s:Int))=some (Ii ((n % s:Nat):Int)):=by rw [bQ .i64 (n:Int) (s:Int) z0,t1]
  have bq:aV .quo (Ii (n:Int)) (Ii (s:Int))=some (Ii ((n / s:Nat):Int)):=by rw [eN .i64 (n:Int) (s:Int) z0,t2,t3]
  generalize n % s=r at*;generalize n / s=q at*;by_cases h1:r=0
  ·rw [if_neg (by omega)];subst h1;by_cases h2:n=0
   ·rw [if_pos (.inl h2)];have b2:((n:Int)==0)=true:=by simp;omega
    simp [iU,hS,b0,hlen,br,bq,b2]
   ·have b2:((n:Int)==0)=false:=by simp;omega
    by_cases h3:1048576 < q
    ·rw [if_pos (.inr h3)];simp [iU,hS,b0,hlen,br,bq,b2,show (1048576:Int) < q by omega]
    ·rw [if_neg (by omega)];simp [iU,hS,b0,hlen,br,bq,b2,show ¬(1048576:Int) < q by omega]
  ·rw [if_pos h1];have b1:((r:Int)==0)=false:=by simp;omega
   simp [iU,hS,b0,hlen,br,bq,b1,bne]
def zR (t:Int)(b:List Int):Int:=if t=3 then (if bi b < pN then 0 else 4) else LI b
def mr (b:List Int)(s k:Nat):List Int:=(b.drop (k*s)).take s
def KB (t:Int)(b:List Int)(s:Nat):Nat->Bool
 | 0=>true
 | n+1=>KB t b s n&&(zR t (mr b s n)==0)
def ww (t:Int)(b:List Int):Int:=
 if ¬(j3 t b.length).2=0 then (j3 t b.length).2 else if t=3\/t=4 then (if KB t b (iE t) (j3 t b.length).1=true then 0 else 4) else 0
theorem zpu (L:az)(h:O)(c:Bool)(b:List Int)(hb:cw b)(hl:b.length=32):Z ah L gr [.vsl c (eI .u8 b)] h=some (Ii (zR 3 b),h):=by
 rw [CT];have hF:=fun L h=>Ip L h false b hb hl;unfold zR;rw [if_pos rfl];by_cases hlt:bi b < pN
 ·rw [if_pos hlt] at hF |-;have hfe:(fe (bi b)).length=4:=rfl;generalize fe (bi b)=e at*;simp -implicitDefEqProofs [mZ,V,hF,hfe,bH,lN,au,ae]
 ·rw [if_neg hlt] at hF |-;simp -implicitDefEqProofs [mZ,V,hF,bH,lN,au,ae]
theorem zpv (L:az)(h:O)(c:Bool)(b:List Int)(hb:cw b)(hl:b.length < 1000000):Z ah L gu [.vsl c (eI .u8 b)] h=some (Ii (zR 4 b),h):=by
 rw [CU];have hF:=fun L h=>zgj L h false b hb hl;unfold grV at hF;have e:zR 4 b=LI b:=by unfold zR;rw [if_neg (by decide)]
 rw [e];have hfe:(wN 12 (if LI b=0 then bi b else 0)).length=12:=by simp
 generalize wN 12 (if LI b=0 then bi b else 0)=w at*;simp -implicitDefEqProofs [qS,V,hF,hfe,bH,lN,au,ae]
theorem Hx (c:Bool)(b:List Int)(i s j:Nat)(hj:j=i+s)(hl:j<=b.length):eP .slc 1 (.vsl c (eI .u8 b)) (some (Ii (i:Int))) (some (Ii (j:Int))) none=some (.vsl (c&&j==b.length) (eI .u8 ((b.drop i).take s))):=by
 have e:CV i j (eI .u8 b)=eI .u8 ((b.drop i).take s):=by
  simp only [CV,eI,List.map_take,List.map_drop,List.drop_take];rw [show j - i=s by omega]
 have h1:i<=j:=by omega
 simp [eP,jp,hl,h1,e,show (i:Int)<=j by omega,show (j:Int)<=b.length by omega]
theorem zc1 {fr:Fr}{h:O}{R:Option (dt × Fr × O)}(t:Int)(f:FuncId)(b:List Int)(s n:Nat)(z:J)(hb:cw b)(hs:0 < s/\s<=96)(hl:b.length=n*s)(hn:b.length < 100000000)
  (hf:∀ L h c ch,cw ch->ch.length=s->Z ah L f [.vsl c (eI .u8 ch)] h=some (Ii (zR t ch),h))
  (hF:run ah (V h) (.loop jx) fr (hx h [[Ii (s:Int),.fn (.func f) [] [],z]] [])=R)
  (h1:fr 1=.vsl false (eI .u8 b)) (h7:fr 7=pA h.blks.length 0 0) (h8:fr 8=Ii 0):
  ∃ e fr',R=some (e,fr',hx h [[Ii (s:Int),.fn (.func f) [] [],z]] [])/\(e=.exit 0/\KB t b s n=true\/e=.ret/\fr' 4=Ii 4/\KB t b s n=false):=by
 obtain ⟨e,fr',h',rfl,⟨rfl,hp⟩,hk⟩:=af hF n
  (fun k fr hh=>∃ i:Nat,i=k*s/\fr 8=Ii (i:Int)/\KB t b s k=true/\hh=hx h [[Ii (s:Int),.fn (.func f) [] [],z]] [])
  (fun e fr hh=>hh=hx h [[Ii (s:Int),.fn (.func f) [] [],z]] []/\(e=.exit 0/\KB t b s n=true\/e=.ret/\fr 4=Ii 4/\KB t b s n=false))
  ⟨0, by simp, h8, rfl, rfl⟩ (by
   rintro k fr1 hh hkN hkeep ⟨i,hi,g8,hok,rfl⟩;have g1:=kp hkeep h1;have g7:=kp hkeep h7;have hne:GF .fn (.fn (.func f) [] []) .nfn=some false:=rfl;by_cases hlt:k < n
   ·obtain ⟨j,hj⟩:∃ j,j=i+s:=⟨_,rfl⟩;have hjl:j<=b.length:=by
     have:(k+1)*s<=n*s:=Nat.mul_le_mul_right _ hlt;rw [Nat.add_mul,Nat.one_mul] at this;omega
    have w1:Wr ((i:Int)+(s:Int))=(j:Int):=wy;have hsl:=Hx false b i s j hj hjl;have hch:(b.drop i).take s=mr b s k:=by rw [hi];rfl
    rw [hch] at hsl;have hcl:(mr b s k).length=s:=by unfold mr;simp;omega
    have hcb:cw (mr b s k):=lS (oZ hb _) _;have hcall:=fun L h=>hf L h false (mr b s k) hcb hcl;have hst:KB t b s (k+1)=(KB t b s k&&(zR t (mr b s k)==0)):=rfl;rw [hok,Bool.true_and] at hst;have hmono : ∀ d, KB t b s (k + 1) = false -> KB t b s (k + 1 + d) = false := fun d e => by
     induction d with
     | zero=>exact e
     | succ d ih=>show (KB t b s (k+1+d)&&_)=false;rw [ih];rfl
    have hmul:(k+1)*s=j:=by rw [Nat.add_mul,Nat.one_mul];omega
    generalize mr b s k=ch at*;generalize zR t ch=er at*;by_cases he:er=0
    ·have be:(er==0)=true:=by simp [he]
     rw [be] at hst;simp -implicitDefEqProofs [jx,V,g1,g7,g8,hne,show (i:Int) < b.length by omega,ap,w1,hsl,hcall,bne,be];exact ⟨hlt,by rw [<- hmul];simp,hst⟩
    ·have be:(er==0)=false:=by simpa using he
     rw [be] at hst;have hno:KB t b s n=false:=by
      have:=hmono (n - (k+1)) hst
      rwa [show k+1+(n - (k+1))=n by omega] at this
     simp -implicitDefEqProofs [jx,V,g1,g7,g8,hne,show (i:Int) < b.length by omega,ap,w1,hsl,hcall,bne,be,hno]
   ·have:k=n:=by omega
    subst this;simp -implicitDefEqProofs [jx,V,g1,g7,g8,hne,show ¬(i:Int) < b.length by omega,ap,hok])
 exact ⟨e,fr',rfl,hp⟩
theorem Yt (L:az)(h:O)(t:Int)(c:Bool)(b:List Int)(hb:cw b)(hl:b.length < 100000000):Z ah L nO [Ii t,.vsl c (eI .u8 b)] h=some (Ii (ww t b),h):=by
 rw [Im];have hC:=fun L h=>J4 L h t false b (by omega);have hV:=fun L h=>QK L h t;unfold ww;have hcnt : ∀ q, j3 t b.length = q -> q.2 = 0 -> ¬ iE t = 0 /\ b.length = q.1 * iE t := fun q hq h0 => by
  unfold j3 at hq;split at hq
  ·subst hq;simp at h0
  ·rename_i h1;split at hq
   ·subst hq;simp at h0
   ·rename_i h2;split at hq
    ·subst hq;simp at h0
    ·subst hq;refine ⟨h1,?_⟩;have:=Nat.div_add_mod b.length (iE t);simp only;rw [Nat.mul_comm];omega
 generalize j3 t b.length=q at*;have hcnt:=hcnt q rfl;obtain ⟨n,er⟩:=q;simp only at hC hcnt |-;by_cases he:er=0
 ·rw [if_neg (by simpa using he)];obtain ⟨hs0,hbl⟩:=hcnt he;have be:(er==0)=true:=by simp [he]
  have hs8:iE t<=96:=by unfold iE;split <;> (try split) <;> (try split) <;> (try split) <;> omega
  by_cases h34:t=3\/t=4
  ·rw [if_pos h34];obtain ⟨f,hrt,hf⟩:∃ f,BB t=.fn (.func f) [] []/\∀ L h c ch,cw ch->ch.length=iE t->Z ah L f [.vsl c (eI .u8 ch)] h=some (Ii (zR t ch),h):=by
    rcases h34 with rfl | rfl
    ·exact ⟨gr,rfl,fun L h c ch h1 h2=>zpu L h c ch h1 h2⟩
    ·exact ⟨gu,rfl,fun L h c ch h1 h2=>zpv L h c ch h1 (by rw [h2];show 96 < 1000000;omega)⟩
   unfold Sw at hV;rw [hrt] at hV;generalize J.vsl false (eI .i64 (Kz t))=z at*;simp -implicitDefEqProofs [np,V,hC,hV,bne,be,aa,au,ae];generalize hF:run ah _ (.loop _) _ _=R;obtain ⟨e,fr',rfl,⟨rfl,hok⟩ | ⟨rfl,h4,hok⟩⟩:=zc1 t f b (iE t) n z hb ⟨by omega,hs8⟩ hbl hl hf hF (by simp) (by simp) (by simp)
   ·simp [hok]
   ·simp [hok,h4]
  ·rw [if_neg h34];have hrt:BB t=.nfn:=by unfold BB;rw [if_neg (by omega),if_neg (by omega)]
   unfold Sw at hV;rw [hrt] at hV;have hne:GF .fn .nfn .nfn=some true:=rfl;generalize J.vsl false (eI .i64 (Kz t))=z at*;simp -implicitDefEqProofs [np,V,hC,hV,bne,be,aa,au,ae];rw [JZ];simp -implicitDefEqProofs [jx,ap,hne]
 ·rw [if_pos (by simpa using he)];have be:(er==0)=false:=by simpa using he
  simp -implicitDefEqProofs [np,V,hC,bne,be]
def itO (k t c:Int):It:=⟨k,t,c,⟨#[]⟩⟩
def ckO (k t c:Int):Int:=wc (itO k t c)
def z8 (k t c:Int)(b:List Int):Bool:=
 if ckO k t c=0 then (if k=1 then decide (((j3 t b.length).1:Int)=c)&&decide (ww t b=0) else decide (b.length=0)) else false
def ig (k t c:Int)(b:List Int):List Int:=if z8 k t c b=true then [IntKind.u8.wrap k,IntKind.u8.wrap t]++le c 4++b else []
theorem Jf (h:O)(k t c:Int)(b:List Int)(d:J)(hd:nT h d=some (.vsl false (eI .u8 b),false))(hf:d.flat=false):nT h (.agg [Ii k,Ii t,Ii c,d])=some (.agg [Ii k,Ii t,Ii c,.vsl false (eI .u8 b)],false):=by
 have hn:bC [Ii k,Ii t,Ii c,d]=false:=by simp [bC,hf]
 simp only [nT,hn,Bool.false_eq_true,if_false];simp [hd]
theorem zao (L:az)(h:O)(k t c:Int)(b:List Int)(hb:cw b)(hl:b.length < 100000000):Z ah L mS [.agg [Ii k,Ii t,Ii c,.vsl false (eI .u8 b)]] h=some (.bool (z8 k t c b),h):=by
 rw [DO];have hC:∀ L h,Z ah L lE [.agg [Ii k,Ii t,Ii c,.str ⟨#[]⟩]] h=some (Ii (ckO k t c),h):=fun L h=>Nj L h (itO k t c);have hN:=fun L h=>J4 L h t false b (by omega);have hK:=fun L h=>Yt L h t false b hb hl;have hfz:∀ h,nT h (.agg [Ii k,Ii t,Ii c,.vsl false (eI .u8 b)])=some (.agg [Ii k,Ii t,Ii c,.vsl false (eI .u8 b)],false):=fun h=>Jf h k t c b _ (by simp) rfl;have hbo:pe (.agg [Ii k,Ii t,Ii c,.vsl false (eI .u8 b)])=some (.vptr [Ii k,Ii t,Ii c,.vsl false (eI .u8 b)] 0):=rfl;have hlen:(eI .u8 b).length=b.length:=by simp
 unfold z8;generalize ww t b=e,j3 t b.length=q,ckO k t c=ck at*;obtain ⟨n,er⟩:=q;simp only at hN |-;by_cases h0:ck=0
 ·have b0:(ck==0)=true:=by simp [h0]
  rw [if_pos h0];by_cases h1:k=1
  ·have b1:(k==1)=true:=by simp [h1]
   rw [if_pos h1];by_cases h2:(n:Int)=c
   ·have b2:((n:Int)==c)=true:=by simp [h2]
    have b3:(e==0)=decide (e=0):=by rw [Bool.eq_iff_iff];simp
    simp -implicitDefEqProofs [gy,V,hfz,hbo,al,setAt,J.cells,J.okV,hC,hN,hK,bne,b0,b1,b2,b3,h2]
   ·have b2:((n:Int)==c)=false:=by simpa using h2
    simp -implicitDefEqProofs [gy,V,hfz,hbo,al,setAt,J.cells,J.okV,hC,hN,hK,bne,b0,b1,b2,h2]
  ·have b1:(k==1)=false:=by simpa using h1
   rw [if_neg h1];have b2:((b.length:Int)==0)=decide (b.length=0):=by rw [Bool.eq_iff_iff];simp
   generalize eI .u8 b=eb at*;simp -implicitDefEqProofs [gy,V,hfz,hbo,al,setAt,J.cells,J.okV,hC,bne,b0,b1,hlen,b2]
 ·have b0:(ck==0)=false:=by simpa using h0
  rw [if_neg h0];simp -implicitDefEqProofs [gy,V,hfz,hbo,al,setAt,J.cells,J.okV,hC,bne,b0]
theorem zky (n:Int)(k:Nat)(hk:k<=64):ua .shr .i64 n (k:Int)=some (Ii (n.fdiv (2 ^ k))):=by
 rw [zeO .i64 n (k:Int) (by simp only [Bool.and_eq_true,decide_eq_true_eq];exact ⟨by omega,by show (k:Int)<=64;omega⟩)];simp
theorem Aa (n:Int):le n 4=[IntKind.u8.wrap n,IntKind.u8.wrap (n.fdiv (2 ^ 8)),IntKind.u8.wrap (n.fdiv (2 ^ 16)),IntKind.u8.wrap (n.fdiv (2 ^ 24))]:=by
 simp [le]
theorem zc5 (L:az)(h:O)(sz:Nat)(c:Bool)(es:List (List J))(he:eo sz es=true):ka L h sz false (.vsl true es) (.vsl c [])=some (.vsl true es,h):=by
 simp [ka,aN,lO,C6,he,show eo sz ([]:List (List J))=true from rfl]
theorem zkz (L:az)(h:O)(k t c:Int)(b:List Int)(d:J)(hd:∀ h,nT h d=some (.vsl false (eI .u8 b),false))(hf:d.flat=false)(hb:cw b)(hl:b.length < 100000000):
  Z ah L od [.agg [Ii k,Ii t,Ii c,d]] h=some (.vsl false (eI .u8 (ig k t c b)),h):=by
 rw [E6];have hfz:=fun h=>Jf h k t c b d (hd h) hf;have hbo:pe (.agg [Ii k,Ii t,Ii c,.vsl false (eI .u8 b)])=some (.vptr [Ii k,Ii t,Ii c,.vsl false (eI .u8 b)] 0):=rfl;have hR:=fun L h=>zao L h k t c b hb hl;have s1:=zky c 8 (by decide);have s2:=zky c 16 (by decide);have s3:=zky c 24 (by decide);simp only [Int.cast_ofNat_Int] at s1 s2 s3;unfold ig
 cases hr:z8 k t c b with
 | true=>
  rw [hr] at hR;rw [if_pos rfl];have hl4:=Aa c;generalize c.fdiv (2 ^ 24)=c3,c.fdiv (2 ^ 16)=c2,c.fdiv (2 ^ 8)=c1 at*;rw [hl4]
  cases b with
  | nil=>
   simp only [W1] at hfz hbo hR;simp -implicitDefEqProofs [kL,V,hfz,hbo,hR,aa,s1,s2,s3,al,rep,J.cells,J.okV,chunks,setAt,fq,xC,zc5]
  | cons x b=>
   simp only [List.length_cons] at hl;simp -implicitDefEqProofs [kL,V,hfz,hbo,hR,aa,s1,s2,s3,al,rep,J.cells,J.okV,chunks,setAt,fq,xC,Ql,ao,show 6+(b.length+1) < 274877906944 by omega]
 | false=>
  rw [hr] at hR;simp -implicitDefEqProofs [kL,V,hfz,hbo,hR,aa]
end Go.Av
