/- Powers modulo great numbers, and what the program's check of operations answers. -/
import Derived.Test.YtbookmjmhfoolaaGreatDoorC2
import Derived.Test.YtbookmjmhfoolaaGreatDoorC5
import Derived.Test.YtbookmjmhfoolaaGreatDoorC1
set_option linter.unusedSimpArgs false
set_option linter.unusedVariables false
set_option maxHeartbeats 2000000
set_option maxRecDepth 20000
namespace Go.Av
theorem qS (l:List ac)(v:ac)(i j:Nat)(h:i≠j):gd (l.set i v) 0#64 j=gd l 0#64 j:=by
 by_cases hi:i < l.length
 ·rw [qh _ _ _ _ _ hi,if_neg h]
 ·rw [List.set_eq_of_length_le (by omega)]
theorem J2 (l:List ac)(v:ac)(i:Nat)(h:i < l.length):gd (l.set i v) 0#64 i=v:=by rw [qh _ _ _ _ _ h,if_pos rfl]
theorem J3 (t:List ac)(x:ac)(b:List ac):∀ j i,j<=i->gd (cf t x b j).1 0#64 i=gd t 0#64 i
 | 0,i,_=>rfl
 | j + 1, i, h => by
  show gd ((cf t x b j).1.set j _) 0#64 i=_;rw [qS _ _ _ _ (by omega)];exact J3 t x b j i (by omega)
theorem ZT (t:List ac)(x:ac)(b:List ac):∀ j,j<=t.length->aR (gd (cf t x b j).1 0#64) j+bN j*(cf t x b j).2.toNat=aR (gd t 0#64) j+x.toNat*aR (gd b 0#64) j
 | 0,_=>by simp [aR,cf,bN]
 | j + 1, h => by
  have ih:=ZT t x b j (by omega);have hl:=wa t x b j;have hab:=J3 t x b j j (Nat.le_refl _);have hs:=DM (gd (cf t x b j).1 0#64 j) x (gd b 0#64 j) (cf t x b j).2;rw [cf];generalize cf t x b j=q at*;obtain ⟨u,c⟩:=q;simp only at*;have e1:aR (gd (u.set j (Im (gd u 0#64 j) x (gd b 0#64 j) c)) 0#64) j=aR (gd u 0#64) j:=gU j fun i hi=>qS _ _ _ _ (by omega);have e2:=J2 u (Im (gd u 0#64 j) x (gd b 0#64 j) c) j (by omega);rw [aR,aR,aR,e1,e2,lZ];rw [<- hab];generalize c.toNat=c,(gd b 0#64 j).toNat=z,(gd u 0#64 j).toNat=y,aR (gd b 0#64) j=S3,aR (gd t 0#64) j=S2,aR (gd u 0#64) j=S1,K2 (gd u 0#64 j) x (gd b 0#64 j) c=h0,Im (gd u 0#64 j) x (gd b 0#64 j) c=l0 at*;generalize bN j=B,x.toNat=x,h0.toNat=h0,l0.toNat=l0 at*
  grind
def l7 (m t:List ac)(k:ac):Nat->List ac × ac
 | 0=>(t,K2 (gd t 0#64 0) k (gd m 0#64 0) 0#64)
 | j+1=>((l7 m t k j).1.set j (Im (gd (l7 m t k j).1 0#64 (j+1)) k (gd m 0#64 (j+1)) (l7 m t k j).2),K2 (gd (l7 m t k j).1 0#64 (j+1)) k (gd m 0#64 (j+1)) (l7 m t k j).2)
@[simp] theorem DP (m t:List ac)(k:ac):∀ j,(l7 m t k j).1.length=t.length
 | 0=>rfl
 | j+1=>by simp [l7,DP m t k j]
theorem Fj (m t:List ac)(k:ac):∀ j i,j<=i->gd (l7 m t k j).1 0#64 i=gd t 0#64 i
 | 0,i,_=>rfl
 | j + 1, i, h => by
  show gd ((l7 m t k j).1.set j _) 0#64 i=_;rw [qS _ _ _ _ (by omega)];exact Fj m t k j i (by omega)
theorem ZV (m t:List ac)(k:ac)(h0:((gd t 0#64 0).toNat+k.toNat*(gd m 0#64 0).toNat) % 18446744073709551616=0):∀ j,j+1<=t.length->
  18446744073709551616*aR (gd (l7 m t k j).1 0#64) j+bN (j+1)*(l7 m t k j).2.toNat=aR (gd t 0#64) (j+1)+k.toNat*aR (gd m 0#64) (j+1)
 | 0, _ => by
  have hs:=DM (gd t 0#64 0) k (gd m 0#64 0) 0#64;have hz:(Im (gd t 0#64 0) k (gd m 0#64 0) 0#64).toNat=0:=by
   simp only [Im,BitVec.toNat_ofNat,BitVec.toNat_zero,Nat.add_zero];exact h0
  simp only [aR,l7,lZ,zbo,Nat.zero_add,Nat.mul_one,Nat.mul_zero] at*;rw [hz] at hs;simp only [BitVec.toNat_zero] at hs;omega
 | j + 1, h => by
  have ih:=ZV m t k h0 j (by omega);have hl:=DP m t k j;have hab:=Fj m t k j (j+1) (by omega);have hs:=DM (gd (l7 m t k j).1 0#64 (j+1)) k (gd m 0#64 (j+1)) (l7 m t k j).2;rw [l7];generalize l7 m t k j=q at*;obtain ⟨u,c⟩:=q;simp only at*;have e1:aR (gd (u.set j (Im (gd u 0#64 (j+1)) k (gd m 0#64 (j+1)) c)) 0#64) j=aR (gd u 0#64) j:=gU j fun i hi=>qS _ _ _ _ (by omega);have e2:=J2 u (Im (gd u 0#64 (j+1)) k (gd m 0#64 (j+1)) c) j (by omega);have s1:∀ f:Nat->ac,aR f (j+1+1)=aR f (j+1)+(f (j+1)).toNat*bN (j+1):=fun _=>rfl;rw [aR,e1,e2,s1,s1,lZ (j+1),<- hab];rw [lZ] at ih |-;generalize c.toNat=c,(gd m 0#64 (j+1)).toNat=z,(gd u 0#64 (j+1)).toNat=y,aR (gd m 0#64) (j+1)=S3,aR (gd t 0#64) (j+1)=S2,aR (gd u 0#64) j=S1,K2 (gd u 0#64 (j+1)) k (gd m 0#64 (j+1)) c=h0,Im (gd u 0#64 (j+1)) k (gd m 0#64 (j+1)) c=l0 at*;generalize bN j=B,k.toNat=k,h0.toNat=h0,l0.toNat=l0 at*
  grind
def adG (n:Nat)(t:List ac)(c:ac):List ac:=(t.set n (P3 (gd t 0#64 n) c 0#64)).set (n+1) (Sm (gd t 0#64 n) c 0#64)
def enG (n:Nat)(u:List ac)(c:ac):List ac:=(u.set (n - 1) (P3 (gd u 0#64 n) c 0#64)).set n (gd u 0#64 (n+1)+Sm (gd u 0#64 n) c 0#64)
def PK (n:Nat)(b t:List ac)(x:ac):List ac:=adG n (cf t x b n).1 (cf t x b n).2
def Si (n:Nat)(m:List ac)(i:ac)(b t:List ac)(x:ac):List ac:=
 enG n (l7 m (PK n b t x) (gd (PK n b t x) 0#64 0*i) (n - 1)).1 (l7 m (PK n b t x) (gd (PK n b t x) 0#64 0*i) (n - 1)).2
def vu (n:Nat)(m:List ac)(i:ac)(a b:List ac):Nat->List ac
 | 0=>tab (n+2) fun _=>0#64
 | j+1=>Si n m i b (vu n m i a b j) (gd a 0#64 j)
@[simp] theorem zjq (n:Nat)(t:List ac)(c:ac):(adG n t c).length=t.length:=by simp [adG]
@[simp] theorem zsu (n:Nat)(t:List ac)(c:ac):(enG n t c).length=t.length:=by simp [enG]
@[simp] theorem zfe (n:Nat)(b t:List ac)(x:ac):(PK n b t x).length=t.length:=by simp [PK]
@[simp] theorem zqP (n:Nat)(m:List ac)(i:ac)(b t:List ac)(x:ac):(Si n m i b t x).length=t.length:=by simp [Si]
@[simp] theorem DU (n:Nat)(m:List ac)(i:ac)(a b:List ac):∀ j,(vu n m i a b j).length=n+2
 | 0=>by simp [vu]
 | j+1=>by simp [vu,DU n m i a b j]
theorem zfg (n:Nat)(b t:List ac)(x:ac)(hb:b.length=n)(ht:t.length=n+2):aR (gd (PK n b t x) 0#64) (n+2)=aR (gd t 0#64) (n+1)+x.toNat*val b/\(gd (PK n b t x) 0#64 (n+1)).toNat<=1:=by
 have h1:=ZT t x b n (by omega);have hl:=wa t x b n;have hab:=J3 t x b n n (Nat.le_refl _);rw [<- iH b n (by omega)] at h1;unfold PK adG;generalize cf t x b n=q at*;obtain ⟨u,c⟩:=q;simp only at*;obtain ⟨h2,h3⟩:=N0 (gd u 0#64 n) c 0#64 (by decide);generalize Sm (gd u 0#64 n) c 0#64=hi,P3 (gd u 0#64 n) c 0#64=lo at*;have e1:gd ((u.set n lo).set (n+1) hi) 0#64 (n+1)=hi:=J2 _ _ _ (by simp;omega);have e2:gd ((u.set n lo).set (n+1) hi) 0#64 n=lo:=by rw [qS _ _ _ _ (by omega),J2 _ _ _ (by omega)]
 have e3:aR (gd ((u.set n lo).set (n+1) hi) 0#64) n=aR (gd u 0#64) n:=gU n fun i hi=>by rw [qS _ _ _ _ (by omega),qS _ _ _ _ (by omega)]
 refine ⟨?_,by rw [e1];exact h3⟩;rw [aR,aR,e1,e2,e3,aR,<- hab,lZ];simp only [BitVec.toNat_zero,Nat.add_zero] at h2;generalize bN n=B,x.toNat=x,hi.toNat=hi,lo.toNat=lo,c.toNat=c,val b=vb,(gd u 0#64 n).toNat=y,aR (gd t 0#64) n=S2,aR (gd u 0#64) n=S1 at*
 grind
theorem zjy (n:Nat)(m:List ac)(i:ac)(b t:List ac)(x:ac)(hn:0 < n)(hm:m.length=n)(hb:b.length=n)(ht:t.length=n+2)(hi:(1+i.toNat*(gd m 0#64 0).toNat) % 18446744073709551616=0):
  ∃ k,k < 18446744073709551616/\18446744073709551616*aR (gd (Si n m i b t x) 0#64) (n+1)=aR (gd t 0#64) (n+1)+x.toNat*val b+k*val m:=by
 obtain ⟨h1,h2⟩:=zfg n b t x hb ht;have hlv:=zfe n b t x;unfold Si;rw [ht] at hlv;generalize PK n b t x=v at*;refine ⟨(gd v 0#64 0*i).toNat,(gd v 0#64 0*i).isLt,?_⟩;have hk:((gd v 0#64 0).toNat+(gd v 0#64 0*i).toNat*(gd m 0#64 0).toNat) % 18446744073709551616=0:=by
  rw [BitVec.toNat_mul];generalize i.toNat=j,(gd m 0#64 0).toNat=z,(gd v 0#64 0).toNat=y at*;have e1:(y+y*j % 18446744073709551616*z) % 18446744073709551616=(y*(1+j*z)) % 18446744073709551616:=by
   rw [Nat.add_mod,Nat.mod_mul_mod,<- Nat.add_mod]
   congr 1
   rw [Nat.mul_add,Nat.mul_one,Nat.mul_assoc]
  rw [show (2:Nat) ^ 64=18446744073709551616 from rfl,e1,Nat.mul_mod,hi];simp
 have hr:=ZV m v (gd v 0#64 0*i) hk (n - 1) (by omega);have hlr:=DP m v (gd v 0#64 0*i) (n - 1);have a1:=Fj m v (gd v 0#64 0*i) (n - 1) n (by omega);have a2:=Fj m v (gd v 0#64 0*i) (n - 1) (n+1) (by omega);rw [show n - 1+1=n by omega,<- iH m n (by omega)] at hr;generalize (gd v 0#64 0*i)=k at*;unfold enG;generalize l7 m v k (n - 1)=q at*;obtain ⟨u,c⟩:=q;simp only at*;obtain ⟨h3,h4⟩:=N0 (gd u 0#64 n) c 0#64 (by decide);generalize Sm (gd u 0#64 n) c 0#64=hi,P3 (gd u 0#64 n) c 0#64=lo at*;have ew:(gd u 0#64 (n+1)+hi).toNat=(gd v 0#64 (n+1)).toNat+hi.toNat:=by
  rw [BitVec.toNat_add,a2];omega
 generalize gd u 0#64 (n+1)+hi=top at*;obtain ⟨n',rfl⟩:∃ n',n=n' + 1:=⟨n - 1,by omega⟩;simp only [Nat.add_sub_cancel] at*;have e1:gd ((u.set n' lo).set (n' + 1) top) 0#64 (n' + 1)=top:=J2 _ _ _ (by simp;omega);have e2:gd ((u.set n' lo).set (n' + 1) top) 0#64 n'=lo:=by rw [qS _ _ _ _ (by omega),J2 _ _ _ (by omega)]
 have e3:aR (gd ((u.set n' lo).set (n' + 1) top) 0#64) n'=aR (gd u 0#64) n':=gU n' fun i hi=>by rw [qS _ _ _ _ (by omega),qS _ _ _ _ (by omega)]
 rw [aR,aR,e1,e2,e3,ew];rw [aR,aR] at h1;rw [a1] at h3;simp only [BitVec.toNat_zero,Nat.add_zero] at h3;rw [<- h1];rw [lZ (n' + 1)];generalize k.toNat=k,hi.toNat=hi,lo.toNat=lo,c.toNat=c,val m=vm,(gd v 0#64 (n' + 1+1)).toNat=y2,(gd v 0#64 (n' + 1)).toNat=y,aR (gd v 0#64) (n' + 1)=S2,aR (gd u 0#64) n'=S1 at*;rw [lZ] at*;generalize bN n'=B at*
 grind
theorem ZS (n:Nat)(m:List ac)(i:ac)(a b:List ac)(hn:0 < n)(hm:m.length=n)(hb:b.length=n)(hi:(1+i.toNat*(gd m 0#64 0).toNat) % 18446744073709551616=0)(hbm:val b < val m):
  ∀ j,aR (gd (vu n m i a b j) 0#64) (n+1) < 2*val m/\∃ K,bN j*aR (gd (vu n m i a b j) 0#64) (n+1)=aR (gd a 0#64) j*val b+K*val m
 | 0 => by
  have h0 : ∀ k, k <= n + 2 -> aR (gd (tab (n + 2) fun _ => (0#64 : ac)) 0#64) k = 0 := fun k => by
   induction k with
   | zero=>intro _;rfl
   | succ k ih=>intro hk;rw [aR,ih (by omega),dY (by omega)];simp
  show aR (gd (tab (n+2) fun _=>(0#64:ac)) 0#64) (n+1) < 2*val m/\_;rw [h0 _ (by omega)];refine ⟨by omega,0,?_⟩;show bN 0*aR (gd (tab (n+2) fun _=>(0#64:ac)) 0#64) (n+1)=_;rw [h0 _ (by omega)];simp [aR]
 | j + 1 => by
  obtain ⟨h1,K,h2⟩:=ZS n m i a b hn hm hb hi hbm j;obtain ⟨k,hk,h3⟩:=zjy n m i b (vu n m i a b j) (gd a 0#64 j) hn hm hb (DU n m i a b j) hi;rw [show vu n m i a b (j+1)=Si n m i b (vu n m i a b j) (gd a 0#64 j) from rfl];have ha:=(gd a 0#64 j).isLt;have s1:aR (gd a 0#64) (j+1)=aR (gd a 0#64) j+(gd a 0#64 j).toNat*bN j:=rfl;rw [s1,lZ];clear s1;generalize bN j=P,aR (gd a 0#64) j=S,val m=vm,val b=vb,(gd a 0#64 j).toNat=x,aR (gd (vu n m i a b j) 0#64) (n+1)=T,aR (gd (Si n m i b (vu n m i a b j) (gd a 0#64 j)) 0#64) (n+1)=T' at*;have q1:x*vb<=18446744073709551615*vb:=Nat.mul_le_mul_right _ (by omega);have q2:k*vm<=18446744073709551615*vm:=Nat.mul_le_mul_right _ (by omega);refine ⟨by omega,K+P*k,?_⟩;have e:18446744073709551616*P*T'=P*(18446744073709551616*T'):=by rw [Nat.mul_comm 18446744073709551616 P,Nat.mul_assoc]
  rw [e,h3,Nat.mul_add,Nat.mul_add,h2,Nat.add_mul,Nat.add_mul,Nat.mul_comm x P,Nat.mul_assoc,Nat.mul_assoc];omega
def hN (m:Nat):Nat:=(m+1) / 2
@[irreducible] def XK (n m x:Nat):Nat:=x*hN m ^ (64*n) % m
theorem UD (m e:Nat)(h:m % 2=1):(2*hN m) ^ e % m=1 % m:=by
 have:2*hN m=m+1:=by unfold hN;omega
 rw [this,Nat.pow_mod,Nat.add_mod_left,<- Nat.pow_mod,Nat.one_pow]
theorem zna (n m x r:Nat)(h:m % 2=1)(hr:r < m)(hx:bN n*r % m=x % m):r=XK n m x:=by
 have h1:=UD m (64*n) h;have h2:bN n=2 ^ (64*n):=by rw [bN,Nat.pow_mul]
 unfold XK;have e1:(bN n*r)*hN m ^ (64*n) % m=r:=by
  rw [h2,Nat.mul_right_comm,<- Nat.mul_pow,Nat.mul_mod,h1,<- Nat.mul_mod,Nat.one_mul,Nat.mod_eq_of_lt hr]
 rw [Nat.mul_mod,hx,<- Nat.mul_mod] at e1;exact e1.symm
theorem zjF (n:Nat)(m:List ac)(i:ac)(a b:List ac)(hn:0 < n)(hm:m.length=n)(ha:a.length=n)(hb:b.length=n)(hi:(1+i.toNat*(gd m 0#64 0).toNat) % 18446744073709551616=0)(hbm:val b < val m)(hodd:val m % 2=1):
  WT n (gd (vu n m i a b n) 0#64 n).toNat (val ((vu n m i a b n).take n)) (val m)=XK n (val m) (val a*val b):=by
 obtain ⟨h1,K,h2⟩:=ZS n m i a b hn hm hb hi hbm n;have hl:=DU n m i a b n;have hvm:val m < bN n:=by rw [<- hm];exact pf m
 rw [<- iH a n (by omega)] at h2;generalize vu n m i a b n=t at*;have e1:aR (gd t 0#64) n=val (t.take n):=by
  rw [iH (t.take n) n (by simp;omega)];exact gU n fun k hk => by
   unfold gd;rw [List.getD_eq_getElem?_getD,List.getD_eq_getElem?_getD,List.getElem?_take_of_lt hk]
 have hvt:val (t.take n) < bN n:=by
  have:=pf (t.take n)
  rwa [show (t.take n).length=n by simp;omega] at this
 rw [aR,e1] at h1 h2;generalize val a*val b=X,val m=M,(gd t 0#64 n).toNat=c,val (t.take n)=v at*;have key : ∀ r, r < M -> (r = v + c * bN n \/ r + M = v + c * bN n) -> r = XK n M X := fun r hr hor => by
  refine zna n M X r hodd hr ?_;rcases hor with e | e
  ·rw [e,h2,Nat.add_mul_mod_self_right]
  ·rw [<- e,Nat.mul_add] at h2;have:=congrArg (· % M) h2;simpa using this
 unfold WT;by_cases hc:c=0
 ·subst hc;rw [Nat.zero_mul,Nat.add_zero] at h1 key;by_cases hlt:v < M
  ·rw [if_pos ⟨rfl,hlt⟩];exact key v hlt (.inl rfl)
  ·rw [if_neg (by omega),if_neg hlt];exact key (v - M) (by omega) (.inr (by omega))
 ·have hc1:c=1:=by
   rcases Nat.lt_or_ge c 2 with q | q
   ·omega
   ·have:2*bN n<=c*bN n:=Nat.mul_le_mul_right _ q;omega
  subst hc1;rw [Nat.one_mul] at h1 key;rw [if_neg (by omega)];by_cases hlt:v < M
  ·rw [if_pos hlt];exact key _ (by omega) (.inr (by omega))
  ·omega
theorem Sw (L:az)(h:O)(a x y c:ac):aa ah L qw [wd a,wd x,wd y,wd c] h=some (.tup [wd (Im a x y c),wd (K2 a x y c)],h):=by
 rw [MT];have h0:(0#64:ac).toNat=0:=rfl;simp [Ey,V,PM,VF,zX,h0];have h1:=a.isLt;have h2:=x.isLt;have h3:=y.isLt;have h4:=c.isLt;have h5:x.toNat*y.toNat<=18446744073709551615*18446744073709551615:=Nat.mul_le_mul (by omega) (by omega);have e1:(x*y).toNat=x.toNat*y.toNat % 18446744073709551616:=by rw [BitVec.toNat_mul]
 constructor
 ·congr 1
  apply BitVec.eq_of_toNat_eq;simp only [Im,P3,BitVec.toNat_ofNat,e1,h0];omega
 ·congr 1
  apply BitVec.eq_of_toNat_eq;simp only [K2,P3,Sm,zgE,BitVec.toNat_ofNat,BitVec.toNat_add,e1,h0];generalize x.toNat*y.toNat=m at*;omega
theorem Z1 (c:Bool)(l:List ac)(i:Nat)(h:decide (i < l.length)=true):bA none 1 (.vsl c (eW l)) (Ii (i:Int))=some (.vptr [wd (gd l 0#64 i)] 0):=by
 have hi:i < l.length:=by simpa using h
 simp [bA,JP,zfY,hi,gd,List.getD]
abbrev sT (h:O)(n:Nat):J:=sA h.blks.length 0 0 1 (n+2) (some (n+2))
theorem zfj {fr:Fr}{h:O}{R:Option (cL × Fr × O)}(y:J)(t b:List ac)(x:ac)(n:Nat)(hr:i6 h y b)(ht:t.length=n+2)(hb:b.length=n)(hn:n < 1000000)
  (hF:run ah (V h) (.loop aP) fr (hx h [cW t] [])=R)
  (h8:fr 8=sT h n) (h10:fr 10=wd x) (h11:fr 11=wd 0#64) (h31:fr 31=y) (h32:fr 32=Ii n) (h33:fr 33=Ii 0):
  ∃ fr',R=some (.exit 2,fr',hx h [cW (cf t x b n).1] [])/\fr' 11=wd (cf t x b n).2/\∀ t,t∉wr aP->fr' t=fr t:=by
 obtain ⟨r1,p,r2,r3⟩:=hr;obtain ⟨e,fr',h',rfl,⟨rfl,rfl,h2'⟩,hk⟩:=af hF n
  (fun k fr hh=>fr 33=Ii k/\fr 11=wd (cf t x b k).2/\hh=hx h [cW (cf t x b k).1] [])
  (fun e fr hh=>e=.exit 2/\hh=hx h [cW (cf t x b n).1] []/\fr 11=wd (cf t x b n).2)
  ⟨h33,h11,rfl⟩ (by
   rintro k fr1 hh hkN hkeep ⟨g33,g11,rfl⟩;have g8:=kp hkeep h8;have g10:=kp hkeep h10;have g31:=kp hkeep h31;have g32:=kp hkeep h32;by_cases hlt:k < n
   ·have w1:Wr ((k:Int)+1)=k+1:=wz;have hl:=wa t x b k;have hst:cf t x b (k+1)=((cf t x b k).1.set k (Im (gd (cf t x b k).1 0#64 k) x (gd b 0#64 k) (cf t x b k).2),K2 (gd (cf t x b k).1 0#64 k) x (gd b 0#64 k) (cf t x b k).2):=by rw [cf]
    generalize cf t x b k=q at*;obtain ⟨u,c⟩:=q;simp only at hl g11 hst;have hrd:=fun L=>r3 k L [] (by omega);have hro:=r2 k (by omega);simp -implicitDefEqProofs [aP,V,g8,g10,g11,g31,g32,g33,show (k:Int) < n by omega,hlt,hro,hrd,kC,hl,ht,show k+1<=n+2 by omega,show k < n+2 by omega,w1,hst,Sw]
   ·have:k=n:=by omega
    subst this;simp [aP,g33,g32,g11])
 exact ⟨fr',rfl,h2',hk⟩
theorem zft {fr:Fr}{h:O}{R:Option (cL × Fr × O)}(m:List ac)(i0:ac)(q0:List ac)(t:List ac)(k0:ac)(n:Nat)(hn0:0 < n)(ht:t.length=n+2)(hm:m.length=n)(hn:n < 1000000)
  (hF:run ah (V h) (.loop bK) fr (hx h [cW t] [])=R)
  (h0:fr 0=modV m i0 q0) (h7:fr 7=Ii n) (h8:fr 8=sT h n) (h11:fr 11=wd (l7 m t k0 0).2) (h15:fr 15=wd k0) (h16:fr 16=Ii 1):
  ∃ fr',R=some (.exit 4,fr',hx h [cW (l7 m t k0 (n - 1)).1] [])/\fr' 11=wd (l7 m t k0 (n - 1)).2/\∀ t,t∉wr bK->fr' t=fr t:=by
 obtain ⟨e,fr',h',rfl,⟨rfl,rfl,h2'⟩,hk⟩:=af hF (n - 1)
  (fun k fr hh=>∃ j:Nat,j=k+1/\fr 16=Ii (j:Int)/\fr 11=wd (l7 m t k0 k).2/\hh=hx h [cW (l7 m t k0 k).1] [])
  (fun e fr hh=>e=.exit 4/\hh=hx h [cW (l7 m t k0 (n - 1)).1] []/\fr 11=wd (l7 m t k0 (n - 1)).2)
  ⟨1,rfl,h16,h11,rfl⟩ (by
   rintro k fr1 hh hkN hkeep ⟨j,hj,g16,g11,rfl⟩;have g0:=kp hkeep h0;have g7:=kp hkeep h7;have g8:=kp hkeep h8;have g15:=kp hkeep h15;by_cases hlt:k < n - 1
   ·obtain ⟨j2,hj2⟩:∃ j2,j2=j+1:=⟨_,rfl⟩;have w1:Wr ((j:Int)+1)=(j2:Int):=wy;have w2:Wr ((j:Int) - 1)=(k:Int):=wy;have hl:=DP m t k0 k;have hst:l7 m t k0 (k+1)=((l7 m t k0 k).1.set k (Im (gd (l7 m t k0 k).1 0#64 j) k0 (gd m 0#64 j) (l7 m t k0 k).2),K2 (gd (l7 m t k0 k).1 0#64 j) k0 (gd m 0#64 j) (l7 m t k0 k).2):=by rw [l7,hj]
    generalize l7 m t k0 k=q at*;obtain ⟨u,c⟩:=q;simp only at hl g11 hst;have hi1:=kC h.blks.length 0 0 (n+2) j (some (n+2)) (by simp;omega);have hi0:=kC h.blks.length 0 0 (n+2) k (some (n+2)) (by simp;omega);have him:=Z1 false m j (by simp;omega);have hc1:(j:Int) < (n:Int):=by omega
    have b1:j < n+2:=by omega
    have b0:k < n+2:=by omega
    have b3:j<=n+1:=by omega
    have b2:k<=n+1:=by omega
    simp -implicitDefEqProofs [bK,V,modV,g0,g7,g8,g11,g15,g16,hc1,hi0,hi1,him,hl,ht,b0,b1,b2,b3,w1,w2,Sw];rw [hst];exact ⟨hlt,by omega,rfl,rfl⟩
   ·have:k=n - 1:=by omega
    subst this;have hc1:¬(j:Int) < (n:Int):=by omega
    simp [bK,g16,g7,hc1];exact g11)
 exact ⟨fr',rfl,h2',hk⟩
theorem zfu {fr:Fr}{h:O}{R:Option (cL × Fr × O)}(x y:J)(m:List ac)(i0:ac)(q0:List ac)(a b:List ac)(n:Nat)(hn0:0 < n)(hm:m.length=n)(ha:a.length=n)(hb:b.length=n)(hn:n < 1000000)(hra:i6 h x a)(hrb:i6 h y b)
  (hF:run ah (V h) (.loop bm) fr (hx h [cW (vu n m i0 a b 0)] [])=R)
  (h0:fr 0=modV m i0 q0) (h2:fr 2=y) (h7:fr 7=Ii n) (h8:fr 8=sT h n) (h25:fr 25=x) (h26:fr 26=Ii n) (h27:fr 27=Ii 0):
  ∃ fr',R=some (.exit 0,fr',hx h [cW (vu n m i0 a b n)] [])/\∀ t,t∉wr bm->fr' t=fr t:=by
 obtain ⟨r1,p,r2,r3⟩:=hra;obtain ⟨e,fr',h',rfl,⟨rfl,rfl⟩,hk⟩:=af hF n
  (fun k fr hh=>fr 27=Ii k/\hh=hx h [cW (vu n m i0 a b k)] [])
  (fun e fr hh=>e=.exit 0/\hh=hx h [cW (vu n m i0 a b n)] [])
  ⟨h27,rfl⟩ (by
   rintro k fr1 hh hkN hkeep ⟨g27,rfl⟩;have g0:=kp hkeep h0;have g2:=kp hkeep h2;have g7:=kp hkeep h7;have g8:=kp hkeep h8;have g25:=kp hkeep h25;have g26:=kp hkeep h26;by_cases hlt:k < n
   ·have w1:Wr ((k:Int)+1)=k+1:=wz;have hl:=DU n m i0 a b k;have hst:vu n m i0 a b (k+1)=Si n m i0 b (vu n m i0 a b k) (gd a 0#64 k):=rfl;have hro:=r2 k (by omega);have hrd:=fun L=>r3 k L [] (by omega);have hlenb:Cg y=some n:=by rw [hrb.1,hb]
    generalize vu n m i0 a b k=t at*;generalize gd a 0#64 k=xx at*;simp -implicitDefEqProofs [bm,V,g0,g2,g7,g8,g25,g26,g27,show (k:Int) < n by omega,hro,hrd,hlenb,PM];generalize hF:run ah _ (.loop _) _ _=R;obtain ⟨fr2,rfl,q11,q1⟩:=zfj y t b xx n hrb hl hb hn hF (by simp [g8]) (by simp) (by simp) (by simp) (by simp) (by simp);have hlm:(cf t xx b n).1.length=n+2:=(wa _ _ _ _).trans hl;have hr:Si n m i0 b t xx=enG n (l7 m (adG n (cf t xx b n).1 (cf t xx b n).2) (gd (adG n (cf t xx b n).1 (cf t xx b n).2) 0#64 0*i0) (n - 1)).1 (l7 m (adG n (cf t xx b n).1 (cf t xx b n).2) (gd (adG n (cf t xx b n).1 (cf t xx b n).2) 0#64 0*i0) (n - 1)).2:=rfl;rw [hr] at hst;clear hr;generalize cf t xx b n=q at*;obtain ⟨u,c⟩:=q;simp only at hlm q11 hst;obtain ⟨n1,hn1⟩:∃ n1,n1=n+1:=⟨_,rfl⟩;have w2:Wr ((n:Int)+1)=(n1:Int):=wy;have had:(u.set n (P3 (gd u 0#64 n) c 0#64)).set n1 (Sm (gd u 0#64 n) c 0#64)=adG n u c:=by rw [hn1];rfl
    have hi0:=kC h.blks.length 0 0 (n+2) 0 (some (n+2)) (by simp);have hin:=kC h.blks.length 0 0 (n+2) n (some (n+2)) (by simp);have hin1:=kC h.blks.length 0 0 (n+2) n1 (some (n+2)) (by simp;omega);have him:=Z1 false m 0 (by simp;omega);simp only [Int.natCast_zero] at hi0 him;have b0:n < n+2:=by omega
    have b1:n1 < n+2:=by omega
    have b2:n<=n+1:=by omega
    have b3:n1<=n+1:=by omega
    have hlv:(adG n u c).length=n+2:=(zjq n u c).trans hlm;have hz:(0#64:ac).toNat<=1:=by decide
    generalize hv:adG n u c=v at*;simp -implicitDefEqProofs [q11,q1,wr,aP,bm,bn,V,modV,g0,g2,g7,g8,hi0,hin,hin1,him,hlm,hlv,hm,b0,b1,b2,b3,w2,PM,had,zX,Sw,hn0];generalize hF:run ah _ (.loop _) _ _=R;obtain ⟨fr3,rfl,p11,p1⟩:=zft m i0 q0 v (gd v 0#64 0*i0) n hn0 hlv hm hn hF (by simp [q1,wr,aP,bn,g0,modV]) (by simp [q1,wr,aP,bn,g7]) (by simp [q1,wr,aP,bn,g8]) (by simp;rfl) (by simp) (by simp);have hlr:(l7 m v (gd v 0#64 0*i0) (n - 1)).1.length=n+2:=(DP _ _ _ _).trans hlv;generalize l7 m v (gd v 0#64 0*i0) (n - 1)=q2 at*;obtain ⟨u2,c2⟩:=q2;simp only at hlr p11 hst;obtain ⟨nm,hnm⟩:∃ nm,nm=n - 1:=⟨_,rfl⟩;have w3:Wr ((n:Int) - 1)=(nm:Int):=wy;have him1:=kC h.blks.length 0 0 (n+2) nm (some (n+2)) (by simp;omega);have b4:nm < n+2:=by omega
    have b5:nm<=n+1:=by omega
    have b6:¬nm=n1:=by omega
    have hen:(u2.set nm (P3 (gd u2 0#64 n) c2 0#64)).set n (gd u2 0#64 n1+Sm (gd u2 0#64 n) c2 0#64)=enG n u2 c2:=by rw [hn1,hnm];rfl
    have hgs:gd (u2.set nm (P3 (gd u2 0#64 n) c2 0#64)) 0#64 n1=gd u2 0#64 n1:=qS _ _ _ _ b6;simp -implicitDefEqProofs [p11,p1,q1,wr,aP,bK,bm,bn,V,g7,g8,g27,hin,hin1,him1,hlr,b0,b1,b2,b3,b4,b5,w1,w2,w3,PM,zX,hgs,hen];rw [hst];exact ⟨hlt,rfl⟩
   ·have:k=n:=by omega
    subst this;simp [bm,g27,g26])
 exact ⟨fr',rfl,hk⟩
theorem gdT {n:Nat}(l:List ac)(i:Nat)(h:i < n):gd (l.take n) 0#64 i=gd l 0#64 i:=by
 unfold gd;rw [List.getD_eq_getElem?_getD,List.getD_eq_getElem?_getD,List.getElem?_take_of_lt h]
theorem zj6 (h:O)(t:List ac)(n m:Nat)(cap:Option Nat)(ht:t.length=m)(hn:n<=m):i6 (hx h [cW t] []) (sA h.blks.length 0 0 1 n cap) (t.take n):=by
 refine ⟨by simp [Cg,sA];omega,fun i=>pA h.blks.length 0 i,fun i hi=>?_,fun i bs ts hi=>?_⟩
 ·have:=kC h.blks.length 0 0 n i cap (by simp at hi |-;omega);simpa using this
 ·rw [Ng,gdT t i (by simp at hi;omega)];simp at hi;simp [show i < t.length by omega]
theorem zj7 (h:O)(t:List ac)(nt k n m:Nat)(cap:Option Nat)(ht:t.length=m)(hn:n<=m):frz (hx h [cW t] []) h.blks.length nt (k+1) (sA h.blks.length 0 0 1 n cap)=some (.vsl false (eW (t.take n))):=by
 have:=G6 h [cW t] [] nt k 0 n cap .u64 (sy t) (by rw [<- xD];rfl) (by simp;omega);rw [this,JS,<- AJ]
theorem zw (L:az)(h:O)(x y:J)(m:List ac)(i0:ac)(q0 a b:List ac)(n:Nat)(hn0:0 < n)(hm:m.length=n)(ha:a.length=n)(hb:b.length=n)(hn:n < 100000)(hra:i6 h x a)(hrb:i6 h y b)
  (hi:(1+i0.toNat*(gd m 0#64 0).toNat) % 18446744073709551616=0) (hbm:val b < val m) (hodd:val m % 2=1):
  aa ah L bS [modV m i0 q0,x,y] h=some (.vsl false (eW (wN n (XK n (val m) (val a*val b)))),h):=by
 rw [yF];have hall:=zjF n m i0 a b hn0 hm ha hb hi hbm hodd;have hl:=DU n m i0 a b n;have hpm:=PtM.modV (hx h [cW (vu n m i0 a b n)] []) m i0 q0;obtain ⟨N2,hN2⟩:∃ N2,N2=n+2:=⟨_,rfl⟩;have w1:Wr ((n:Int)+2)=(N2:Int):=wy;have e0:cW (tab N2 fun _=>0#64)=cW (vu n m i0 a b 0):=by rw [hN2];rfl
 have hbig:(N2:Int) < 274877906944:=by omega
 simp -implicitDefEqProofs [mG,V,modV,hm,hra.1,ha,w1,jv,am,hbig,eV,bH,e0];generalize hF:run ah _ (.loop _) _ _=R;subst hN2;obtain ⟨fr1,rfl,hk1⟩:=zfu x y m i0 q0 a b n hn0 hm ha hb (by omega) hra hrb hF (by simp [modV]) (by simp) (by simp) (by simp) (by simp) (by simp) (by simp);generalize vu n m i0 a b n=t at*;have hsl:=Kr 1 h.blks.length 0 (n+2) n (some (n+2)) .i64 (by simp;omega);have hin:=kC h.blks.length 0 0 (n+2) n (some (n+2)) (by simp);have b0:n < n+2:=by omega
 have b2:n<=n+1:=by omega
 have hru:=zj6 h t n (n+2) (some (n+2)) hl (by omega);have hfz:=fun k=>zj7 h t h.toks.length k n (n+2) (some (n+2)) hl (by omega);have hlt:(t.take n).length=n:=by simp;omega
 generalize hc:gd t 0#64 n=c at*;by_cases hca:c=0#64/\val (t.take n) < val m
 ·have hless:=fun L=>QW L (hx h [cW t] []) (modV m i0 q0) _ (sA h.blks.length 0 0 1 n (some (n+2))) m (t.take n) hpm hru (fun h1=>MQ h1 _ _ 11 _ 0 1 n _ (by simp [aC])) ⟨by omega,by omega⟩ hca.2;obtain ⟨hc0,hum⟩:=hca;have hres:wN n (XK n (val m) (val a*val b))=t.take n:=by
   rw [<- hall];unfold WT;rw [if_pos ⟨by rw [hc0];rfl,hum⟩];exact H5 hlt
  subst hc0;simp only [modV] at hless;simp -implicitDefEqProofs [hk1,wr,aP,bK,bm,bn,hsl,hin,hl,b0,b2,hc,hless,hfz,hres]
 ·have hless:=fun L=>QX L (hx h [cW t] []) (modV m i0 q0) _ m (t.take n) c hpm hru n ⟨hlt,hm⟩ hn0 (by omega) hca;have hres:(if val (t.take n) < val m then val (t.take n)+bN n - val m else val (t.take n) - val m)=XK n (val m) (val a*val b):=by
   have hnn:¬(c.toNat=0/\val (t.take n) < val m):=fun q=>hca ⟨BitVec.eq_of_toNat_eq q.1,q.2⟩;rw [<- hall,WT,if_neg hnn]
  rw [hres] at hless;simp only [modV] at hless;simp -implicitDefEqProofs [hk1,wr,aP,bK,bm,bn,hsl,hin,hl,b0,b2,hc,hless]
@[irreducible] def LK (n m y:Nat):Nat:=y*2 ^ (64*n) % m
theorem Yg (n m:Nat)(h:m % 2=1):2 ^ (64*n)*hN m ^ (64*n) % m=1 % m:=by rw [<- Nat.mul_pow];exact UD m _ h
theorem mod_one (a b m:Nat)(h:b % m=1 % m):a*b % m=a % m:=by rw [Nat.mul_mod,h,<- Nat.mul_mod,Nat.mul_one]
theorem Yd (a b c m:Nat):a % m*(b % m)*c % m=a*b*c % m:=by
 rw [Nat.mul_mod (a % m*(b % m)),<- Nat.mul_mod a b,<- Nat.mul_mod]
theorem zah (n m y z:Nat)(h:m % 2=1):XK n m (LK n m y*LK n m z)=LK n m (y*z):=by
 unfold XK LK;rw [Yd,show y*2 ^ (64*n)*(z*2 ^ (64*n))*hN m ^ (64*n)=y*z*2 ^ (64*n)*(2 ^ (64*n)*hN m ^ (64*n)) by ac_rfl];exact mod_one _ _ _ (Yg n m h)
theorem zf5 (n m y:Nat)(h:m % 2=1):XK n m (y % m*(2 ^ (128*n) % m))=LK n m y:=by
 unfold XK LK;rw [Yd,show 2 ^ (128*n)=2 ^ (64*n)*2 ^ (64*n) by rw [<- Nat.pow_add];congr 1;omega,show y*(2 ^ (64*n)*2 ^ (64*n))*hN m ^ (64*n)=y*2 ^ (64*n)*(2 ^ (64*n)*hN m ^ (64*n)) by ac_rfl];exact mod_one _ _ _ (Yg n m h)
theorem zka (n m:Nat)(h:m % 2=1):XK n m (1*(2 ^ (128*n) % m))=LK n m 1:=by
 rw [<- zf5 n m 1 h];unfold XK;rw [Yd,Nat.mul_comm 1,Nat.mul_one,Nat.one_mul,Nat.mod_mul_mod]
theorem zkb (n m y:Nat)(h:m % 2=1):XK n m (LK n m y*1)=y % m:=by
 unfold XK LK;rw [Nat.mul_one,Nat.mod_mul_mod,Nat.mul_assoc];exact mod_one _ _ _ (Yg n m h)
theorem SO (n m y:Nat)(h:0 < m):LK n m y < m:=by unfold LK;exact Nat.mod_lt _ h
theorem zf9 (v e i:Nat):v ^ (e / 2 ^ i)=v ^ (e / 2 ^ (i+1))*v ^ (e / 2 ^ (i+1))*(if e / 2 ^ i % 2=1 then v else 1):=by
 have h1:e / 2 ^ (i+1)=e / 2 ^ i / 2:=by rw [Nat.pow_succ,Nat.div_div_eq_div_mul]
 rw [h1];generalize e / 2 ^ i=x;rw [<- Nat.pow_add];split
 ·rename_i hb;rw [<- Nat.pow_succ]
  congr 1;omega
 ·rw [Nat.mul_one]
  congr 1;omega
theorem zcD {fr:Fr}{h:O}{R:Option (cL × Fr × O)}(y:J)(m:List ac)(i0:ac)(q0 e:List ac)(v n:Nat)(one:List ac)(hn0:0 < n)(hm:m.length=n)(hn:n < 100000)(hre:i6 h y e)(hel:e.length < 1000000)
  (hi:(1+i0.toNat*(gd m 0#64 0).toNat) % 18446744073709551616=0) (hodd:val m % 2=1)
  (hF:run ah (V h) (.loop dO) fr (hx h [one.map wd] [])=R)
  (h0:fr 0=modV m i0 q0) (h2:fr 2=y) (h8:fr 8=.vsl false (eW (wN n (LK n (val m) v)))) (h9:fr 9=.vsl false (eW (wN n (LK n (val m) 1)))) (h10:fr 10=Ii (((bl (val e):Nat):Int) - 1)):
  ∃ fr',R=some (.exit 0,fr',hx h [one.map wd] [])/\fr' 9=.vsl false (eW (wN n (LK n (val m) (v ^ val e))))/\∀ t,t∉wr dO->fr' t=fr t:=by
 obtain ⟨r1,pp,r2,r3⟩:=hre;have hN:bl (val e)<=64*e.length:=Q0 (by rw [<- Kp];exact pf e);have hvN:val e / 2 ^ bl (val e)=0:=Nat.div_eq_of_lt (zmb _);have h0m:0 < val m:=by omega
 have hvm:val m < bN n:=by rw [<- hm];exact pf m
 have hval:∀ z,val (wN n (LK n (val m) z))=LK n (val m) z:=fun z=>qk n _ (Nat.lt_trans (SO n _ z h0m) hvm);obtain ⟨ex,fr',h',rfl,⟨rfl,rfl,h9'⟩,hk⟩:=af hF (bl (val e))
  (fun k fr hh=>fr 10=Ii (((bl (val e):Nat):Int) - 1 - k)/\hh=hx h [one.map wd] []/\fr 9=.vsl false (eW (wN n (LK n (val m) (v ^ (val e / 2 ^ (bl (val e) - k)))))))
  (fun ex fr hh=>ex=.exit 0/\hh=hx h [one.map wd] []/\fr 9=.vsl false (eW (wN n (LK n (val m) (v ^ val e)))))
  ⟨by rw [h10]; simp, rfl, by rw [Nat.sub_zero, hvN, Nat.pow_zero]; exact h9⟩ (by
   rintro k fr1 hh hkN hkeep ⟨g10,rfl,g9⟩;have g0:=kp hkeep h0;have g2:=kp hkeep h2;have g8:=kp hkeep h8;by_cases hlt:k < bl (val e)
   ·obtain ⟨i,hii⟩:∃ i:Nat,i=bl (val e) - 1 - k:=⟨_,rfl⟩;have e1:bl (val e) - k=i+1:=by omega
    have e2:bl (val e) - (k+1)=i:=by omega
    have hpb:=zf9 v (val e) i;have hvb:=zap e i;have hil:i / 64 < e.length:=by omega
    rw [e1] at g9;generalize v ^ (val e / 2 ^ (i+1))=z at*;have hsq:=fun L=>zw L (hx h [one.map wd] []) (.vsl false (eW (wN n (LK n (val m) z)))) (.vsl false (eW (wN n (LK n (val m) z)))) m i0 q0 _ _ n hn0 hm (Co _ _) (Co _ _) hn (i6.vsl _ _ _) (i6.vsl _ _ _) hi (by rw [hval];exact SO n _ z h0m) hodd;simp only [hval,zah n (val m) _ _ hodd] at hsq;have hmu:=fun L=>zw L (hx h [one.map wd] []) (.vsl false (eW (wN n (LK n (val m) (z*z))))) (.vsl false (eW (wN n (LK n (val m) v)))) m i0 q0 _ _ n hn0 hm (Co _ _) (Co _ _) hn (i6.vsl _ _ _) (i6.vsl _ _ _) hi (by rw [hval];exact SO n _ v h0m) hodd;simp only [hval,zah n (val m) _ _ hodd] at hmu;have g10':fr1 10=Ii (i:Int):=by rw [g10];congr 1;omega
    have w1:Wr ((i:Int) - 1)=((bl (val e):Nat):Int) - 1 - ((k+1:Nat):Int):=wy;have t1:(i:Int).tdiv 64=((i / 64:Nat):Int):=xe i 64;have t2:=eK (i / 64) (by omega);have t3:(i:Int).tmod 64=((i % 64:Nat):Int):=sv i 64;have hro:=r2 (i / 64) hil;have hrd:=fun L=>r3 (i / 64) L [] hil;have hsh:=yK (gd e 0#64 (i / 64)) .i64 (i % 64) (by simp;omega);have hand:aW .and (wd (gd e 0#64 (i / 64) >>> (i % 64))) (wd 1#64)=some (wd (gd e 0#64 (i / 64) >>> (i % 64)&&&1#64)):=A8 _ _;have hbb:(gd e 0#64 (i / 64) >>> (i % 64)&&&1#64==1#64)=decide (val e / 2 ^ i % 2=1):=by
     rw [<- hvb];rw [Bool.eq_iff_iff];simp only [beq_iff_eq,decide_eq_true_eq];constructor
     ·intro q;rw [q];rfl
     ·intro q;exact BitVec.eq_of_toNat_eq q
    generalize gd e 0#64 (i / 64) >>> (i % 64)&&&1#64=du at*;generalize i / 64=iq,i % 64=ir,gd e 0#64 (i / 64)=wq,gd e 0#64 (i / 64) >>> (i % 64)=sh at*;by_cases hbit:val e / 2 ^ i % 2=1
    ·rw [if_pos hbit] at hpb;rw [decide_eq_true hbit] at hbb;simp -implicitDefEqProofs [dO,V,g0,g2,g8,g9,g10',show (0:Int)<=(i:Int) by omega,t1,t2,t3,da,bC,hro,hrd,hsh,wd1,hand,vz,hbb,hsq,hmu,w1, -j9, -yu, -A8,e2,hpb];exact hlt
    ·rw [if_neg hbit,Nat.mul_one] at hpb;rw [decide_eq_false hbit] at hbb;simp -implicitDefEqProofs [dO,V,g0,g2,g8,g9,g10',show (0:Int)<=(i:Int) by omega,t1,t2,t3,da,bC,hro,hrd,hsh,wd1,hand,vz,hbb,hsq,hmu,w1, -j9, -yu, -A8,e2,hpb];exact hlt
   ·have:k=bl (val e):=by omega
    subst this;have hz:((bl (val e):Nat):Int) - 1 - ((bl (val e):Nat):Int)= -1:=by omega
    rw [hz] at g10;rw [Nat.sub_self,Nat.pow_zero,Nat.div_one] at g9;simp [dO,g10];exact g9)
 exact ⟨fr',rfl,h9',hk⟩
theorem zkd (L:az)(h:O)(x y:J)(m:List ac)(i0:ac)(a e:List ac)(n:Nat)(hn0:0 < n)(hm:m.length=n)(hn:n < 100000)(hra:i6 h x a)(hal:a.length < 1000000)(hre:i6 h y e)(hel:e.length < 1000000)
  (hi:(1+i0.toNat*(gd m 0#64 0).toNat) % 18446744073709551616=0) (hodd:val m % 2=1) (h1m:1 < val m):
  aa ah L ef [modV m i0 (wN n (FZ (val m) (128*n))),x,y] h=some (.vsl false (eW (wN n (val a ^ val e % val m))),h):=by
 rw [CN,show FZ (val m) (128*n)=2 ^ (128*n) % val m from rfl];have h0m:0 < val m:=by omega
 have hvm:val m < bN n:=by rw [<- hm];exact pf m
 have hval:∀ z,val (wN n (LK n (val m) z))=LK n (val m) z:=fun z=>qk n _ (Nat.lt_trans (SO n _ z h0m) hvm);have hvs:val (wN n (2 ^ (128*n) % val m))=2 ^ (128*n) % val m:=qk n _ (Nat.lt_trans (Nat.mod_lt _ h0m) hvm);have hvr:val (wN n (val a % val m))=val a % val m:=qk n _ (Nat.lt_trans (Nat.mod_lt _ h0m) hvm);have hv1:val (wN n 1)=1:=qk n 1 (by omega);have hset:=QO n hn0;generalize hsq:wN n (2 ^ (128*n) % val m)=sq at*;have hsl:sq.length=n:=by rw [<- hsq];simp
 have hpm:=PtM.modV (hx h [cW (wN n 1)] []) m i0 sq;have hR:=fun L=>zcT L (hx h [cW (wN n 1)] []) (modV m i0 sq) x m a hpm (hra.ext _ _) hal ⟨by omega,by omega⟩ h0m;rw [hm] at hR;have ho:i6 (hx h [cW (wN n 1)] []) (sA h.blks.length 0 0 1 n (some n)) (wN n 1):=i6.sA [] 0 n _ _ (by simp) rfl;have s1:=fun L=>zw L (hx h [cW (wN n 1)] []) (.vsl false (eW (wN n (val a % val m)))) (.vsl false (eW sq)) m i0 sq _ _ n hn0 hm (Co _ _) hsl hn (i6.vsl _ _ _) (i6.vsl _ _ _) hi (by rw [hvs];exact Nat.mod_lt _ h0m) hodd;simp only [hvr,hvs,zf5 n (val m) _ hodd] at s1;have s2:=fun L=>zw L (hx h [cW (wN n 1)] []) (sA h.blks.length 0 0 1 n (some n)) (.vsl false (eW sq)) m i0 sq _ _ n hn0 hm (Co _ _) hsl hn ho (i6.vsl _ _ _) hi (by rw [hvs];exact Nat.mod_lt _ h0m) hodd;simp only [hv1,hvs,zka n (val m) hodd] at s2;have s3:=fun L=>zw L (hx h [cW (wN n 1)] []) (.vsl false (eW (wN n (LK n (val m) (val a ^ val e))))) (sA h.blks.length 0 0 1 n (some n)) m i0 sq _ _ n hn0 hm (Co _ _) (Co _ _) hn (i6.vsl _ _ _) ho hi (by rw [hv1];exact h1m) hodd;simp only [hv1,hval,zkb n (val m) _ hodd] at s3;have hB:=fun L=>zas L (hx h [cW (wN n 1)] []) y e (hre.ext _ _) hel;have hN:bl (val e)<=64*e.length:=Q0 (by rw [<- Kp];exact pf e);have w1:Wr (((bl (val e):Nat):Int) - 1)=((bl (val e):Nat):Int) - 1:=wz;have hbig:(n:Int) < 274877906944:=by omega
 have hi0:=kC h.blks.length 0 0 n 0 (some n) (by simpa using hn0);simp only [Int.natCast_zero] at hi0;simp only [modV] at hR s1 s2 s3;have hcw:cW (wN n 1)=(wN n 1).map wd:=rfl;simp -implicitDefEqProofs [p8,V,modV,hm,jv,am,hbig,eV,bH,hi0,hn0,show 1<=n by omega,wd1,hset,hR,s1,s2,hB,w1];generalize hF:run ah _ (.loop _) _ _=R;obtain ⟨fr1,rfl,h9,hk1⟩:=zcD y m i0 sq e (val a) n (wN n 1) hn0 hm hn hre hel hi hodd hF (by simp [modV]) (by simp) (by simp) (by simp) (by simp);rw [<- hcw];simp -implicitDefEqProofs [h9,hk1,wr,dO,bn,s3]
@[irreducible] def Ud (a e m:Nat):Nat:=a ^ e % m
def gW:List ac:=[18446744073709551615#64,17603518614768072224#64,16466767132611215046#64,5755940542857986629#64,3470879405153129527#64,17263733006627652379#64,5857503583518590173#64,147421033984662306#64,2955010104097229940#64,14179128828124470481#64,14488038916154245684#64,18446744073709551615#64]
def qW:List ac:=[9223372036854775807#64,8801759307384036112#64,17456755603160383331#64,12101342308283769122#64,10958811739431340571#64,17855238540168601997#64,2928751791759295086#64,73710516992331153#64,10700877088903390778#64,7089564414062235240#64,16467391494931898650#64,9223372036854775807#64]
theorem zgj:cW gW=[.int .u64 18446744073709551615,.int .u64 17603518614768072224,.int .u64 16466767132611215046,.int .u64 5755940542857986629,.int .u64 3470879405153129527,.int .u64 17263733006627652379,.int .u64 5857503583518590173,.int .u64 147421033984662306,.int .u64 2955010104097229940,.int .u64 14179128828124470481,.int .u64 14488038916154245684,.int .u64 18446744073709551615]:=rfl
theorem Cz:gW.length=12/\1 < val gW/\gd gW 0#64 0&&&1#64≠0#64/\gd gW 0#64 (gW.length - 1)≠0#64/\val gW % 2=1/\(1+(-(xp (gd gW 0#64 0) 6)).toNat*(gd gW 0#64 0).toNat) % 18446744073709551616=0:=by
 refine ⟨rfl,by decide +kernel,by decide +kernel,by decide +kernel,by decide +kernel,by decide +kernel⟩
theorem Q4:qW.length=12/\1 < val qW/\gd qW 0#64 0&&&1#64≠0#64/\gd qW 0#64 (qW.length - 1)≠0#64/\val qW % 2=1/\(1+(-(xp (gd qW 0#64 0) 6)).toNat*(gd qW 0#64 0).toNat) % 18446744073709551616=0:=by
 refine ⟨rfl,by decide +kernel,by decide +kernel,by decide +kernel,by decide +kernel,by decide +kernel⟩
theorem Q5 (L:az)(h:O):aa ah L rI [] h=some (.agg (cW gW),h):=by
 rw [LA];simp [BG,V,aO,ak,aq,ab,Z,mY,zgj,J.cells,J.okV,setAt]
@[irreducible] def sqW (m:List ac):List ac:=wN 12 (FZ (val m) (128*12))
theorem zgl (m:List ac):wN 12 (FZ (val m) (128*12))=sqW m:=by unfold sqW;exact rfl
def NL (m:List ac):J:=.vptr [modV m (-(xp (gd m 0#64 0) 6)) (sqW m)] 0
theorem NM (n:Nat)(l:List ac)(hl:l.length=n):eP (.arr n) 1 (.vptr (cW l) 0) none none none=some (.vsl true (eW l)):=by
 have e:=Bg n (cW l) (by simpa using hl);have e2:(cW l).map (fun c=>[c])=eW l:=by simp [cW,eW]
 rw [e2] at e;simp [eP,jE,hl,e,E5,List.take_of_length_le]
theorem Yt (h:O)(nb nt n:Nat)(m:List ac)(i:ac)(q:List ac):frz h nb nt (n+1) (.vptr [modV m i q] 0)=some (.vptr [modV m i q] 0):=by
 have hu:ay nb nt [modV m i q]=true:=by simp [ay,modV,J.under];rfl
 simp only [frz,Zh,hu,if_true,Option.map_some]
theorem Vt (L:az)(h:O)(m:List ac)(hm:m.length=12)(h1:1 < val m)(h2:gd m 0#64 0&&&1#64≠0#64)(h3:gd m 0#64 (m.length - 1)≠0#64):aa ah L uq [.agg (cW m)] h=some (NL m,h):=by
 rw [MM];have hsl:=NM 12 m hm;have hbox:lx (.agg (cW m))=some (.vptr (cW m) 0):=rfl;have hne:JQ .slc (.vsl true (eW m)) .nsl=some false:=by
  cases m with
  | nil=>simp at hm
  | cons x m=>rfl
 have hN:=fun L h=>znn L h (.vsl true (eW m)) m (LsW.vsl _ _ _) hne (by omega) h1 h2 h3 (by omega);rw [hm] at hN;rw [zgl] at hN;unfold NL;generalize sqW m=sq,-(xp (gd m 0#64 0) 6)=iv at*;have hb2:lx (.agg [modV m iv sq])=some (.vptr [modV m iv sq] 0):=rfl;have hfi:ak [J.nilp] [(0,1,modV m iv sq)]=some [modV m iv sq]:=rfl;have hf:=fun hh nb nt n=>Yt hh nb nt n m iv sq;generalize modV m iv sq=mv at*;simp -implicitDefEqProofs [Eo,hbox,hsl,hN,hfi,hb2,hf]
theorem zcM (L:az)(h:O):aa ah L vI [] h=some (NL gW,h):=by
 rw [L6];have hR:=fun L h=>Vt L h gW Cz.1 Cz.2.1 Cz.2.2.1 Cz.2.2.2.1;have hf:∀ hh nb nt n,frz hh nb nt (n+1) (NL gW)=some (NL gW):=fun hh nb nt n=>Yt hh nb nt n _ _ _;generalize NL gW=r at*;simp -implicitDefEqProofs [BK,Q5,hR,hf]
def Ue (q:List ac):Nat->List ac × ac
 | 0=>(q,0#64)
 | k+1=>((Ue q k).1.set (11 - k) (gd (Ue q k).1 0#64 (11 - k) >>> 1|||(Ue q k).2 <<< 63),gd (Ue q k).1 0#64 (11 - k)&&&1#64)
@[simp] theorem zav (q:List ac):∀ k,(Ue q k).1.length=q.length
 | 0=>rfl
 | k+1=>by simp [Ue,zav q k]
theorem zkj:(Ue gW 12).1=qW:=by decide +kernel
theorem zcP {fr:Fr}{h:O}{R:Option (cL × Fr × O)}(q:List ac)(hq:q.length=12)
  (hF:run ah (V h) (.loop m8) fr (hx h [cW q] [])=R) (h1:fr 1=pA h.blks.length 0 0) (h2:fr 2=wd 0#64) (h3:fr 3=Ii 11):
  ∃ fr',R=some (.exit 0,fr',hx h [cW (Ue q 12).1] [])/\fr' 1=fr 1:=by
 obtain ⟨e,fr',h',rfl,⟨rfl,rfl⟩,hk⟩:=af hF 12
  (fun k fr hh=>fr 3=Ii (11 - (k:Int))/\fr 2=wd (Ue q k).2/\hh=hx h [cW (Ue q k).1] [])
  (fun e fr hh=>e=.exit 0/\hh=hx h [cW (Ue q 12).1] [])
  ⟨by simpa using h3, h2, rfl⟩ (by
   rintro k fr1 hh hkN hkeep ⟨g3,g2,rfl⟩;have g1:=kp hkeep h1;by_cases hlt:k < 12
   ·obtain ⟨i,hi⟩:∃ i,i=11 - k:=⟨_,rfl⟩;have g3':fr1 3=Ii (i:Int):=by rw [g3];congr 1;omega
    have w1:Wr ((i:Int) - 1)=11 - ((k+1:Nat):Int):=wy;have hl:=(zav q k).trans hq;have hst:Ue q (k+1)=((Ue q k).1.set i (gd (Ue q k).1 0#64 i >>> 1|||(Ue q k).2 <<< 63),gd (Ue q k).1 0#64 i&&&1#64):=by rw [Ue,<- hi]
    generalize Ue q k=u at*;obtain ⟨u,c⟩:=u;simp only at hl g2 hst;have s1:=yK (gd u 0#64 i) .u64 1 (by decide);have s2:=Nf c .u64 63 (by decide);simp only [Int.cast_ofNat_Int,Int.natCast_one,wd1] at s1 s2;have s3:aW .and (wd (gd u 0#64 i)) (wd 1#64)=some (wd (gd u 0#64 i&&&1#64)):=A8 _ _;have hia:=eR 12 1 0 h.blks.length 0 i .i64 (by simp;omega);simp -implicitDefEqProofs [m8,V,g1,g2,g3',show (0:Int)<=(i:Int) by omega,eR,show i < 12 by omega,show i<=11 by omega,hl,s1,s2,s3,wd1,w1, -j9, -yv, -yu, -A8,hst];omega
   ·have:k=12:=by omega
    subst this;simp [m8,g3])
 exact ⟨fr',rfl,hk 1 (by decide)⟩
theorem zkk (L:az)(h:O):aa ah L oy [] h=some (NL qW,h):=by
 rw [Gs];have hR:=fun L h=>Vt L h qW Q4.1 Q4.2.1 Q4.2.2.1 Q4.2.2.2.1;have hf:∀ hh nb nt n,frz hh nb nt (n+1) (NL qW)=some (NL qW):=fun hh nb nt n=>Yt hh nb nt n _ _ _;generalize NL qW=r at*;have hg:gW.length=12:=rfl;simp -implicitDefEqProofs [sX,V,Q5,bH,l8,aq,ab,Z,hg,PM];generalize hF:run ah _ (.loop _) _ _=R;obtain ⟨fr1,rfl,k1⟩:=zcP gW rfl hF (by simp) (by simp) (by simp);rw [zkj];have hq:qW.length=12:=rfl;simp -implicitDefEqProofs [k1,Z,hq,hR,hf]
theorem Rb (L:az)(h:O)(m:List ac)(i0:ac)(q0:List ac)(hm:0 < m.length/\m.length < 1000):aa ah L gm [modV m i0 q0] h=some (.vsl false (eW m),h):=by
 rw [zk];have hne:JQ .slc (.vsl false (eW m)) .nsl=some false:=by
  cases m with
  | nil=>simp at hm
  | cons x m=>rfl
 have hc:=fun L H=>UY L H (.vsl false (eW m)) m (LsW.vsl _ _ _) hne ⟨hm.1,by omega⟩;simp -implicitDefEqProofs [nT,modV,hc]
theorem zgv (L:az)(h:O)(m:List ac)(hm:m.length=12):aa ah L oz [NL m] h=some (.agg (cW m),h):=by
 rw [Gu];have hw:=fun L h i q=>Rb L h m i q (by omega);have h2a:=Nu 12 false m (by decide) (by omega);rw [List.take_of_length_le (by omega)] at h2a;simp -implicitDefEqProofs [sY,V,NL,hw,h2a,bH,l8,aq,ab,Z,hm]
theorem znX (L:az)(h:O)(m:List ac)(a e:List ac)(hm:m.length=12)(ha:a.length=12)(he:e.length=12)(h1:1 < val m)(hodd:val m % 2=1)(hi:(1+(-(xp (gd m 0#64 0) 6)).toNat*(gd m 0#64 0).toNat) % 18446744073709551616=0):
  aa ah L FG [.fn (.func ef) [modV m (-(xp (gd m 0#64 0) 6)) (sqW m)] [],.agg (cW a),.agg (cW e)] h=some (.agg (cW (wN 12 (Ud (val a) (val e) (val m)))),h):=by
 rw [RZ];have s1:=NM 12 a ha;have s2:=NM 12 e he;have b1:lx (.agg (cW a))=some (.vptr (cW a) 0):=rfl;have b2:lx (.agg (cW e))=some (.vptr (cW e) 0):=rfl;have hE:=fun L H=>zkd L H (.vsl true (eW a)) (.vsl true (eW e)) m (-(xp (gd m 0#64 0) 6)) a e 12 (by decide) hm (by decide) (i6.vsl _ _ _) (by omega) (i6.vsl _ _ _) (by omega) hi hodd h1;have hp:val a ^ val e % val m=Ud (val a) (val e) (val m):=by unfold Ud;rfl
 rw [hp,zgl] at hE;generalize sqW m=sq,-(xp (gd m 0#64 0) 6)=iv,Ud (val a) (val e) (val m)=p at*;have hfz:∀ h,oL h (.fn (.func ef) [modV m iv sq] [])=some (.fn (.func ef) [modV m iv sq] [],false):=fun h=>by simp [oL]
 have h2a:=Nu 12 false (wN 12 p) (by decide) (by simp);rw [List.take_of_length_le (by simp)] at h2a;simp only [modV] at hE hfz |-;simp -implicitDefEqProofs [Kx,V,hfz,b1,b2,s1,s2,hE,h2a,bH,l8,aq,ab,Z]
theorem zim (L:az)(h:O)(m a e:List ac)(hm:m.length=12)(ha:a.length=12)(he:e.length=12)(h1:1 < val m)(hodd:val m % 2=1)(hi:(1+(-(xp (gd m 0#64 0) 6)).toNat*(gd m 0#64 0).toNat) % 18446744073709551616=0):
  aa ah L pK [NL m,.agg (cW a),.agg (cW e)] h=some (.agg (cW (wN 12 (Ud (val a) (val e) (val m)))),h):=by
 rw [HV];have b1:lx (.agg (cW a))=some (.vptr (cW a) 0):=rfl;have b2:lx (.agg (cW e))=some (.vptr (cW e) 0):=rfl;have hof:=fun L h=>znX L h m a e hm ha he h1 hodd hi;unfold NL;generalize Ud (val a) (val e) (val m)=p at*;generalize hmv:modV m (-(xp (gd m 0#64 0) 6)) (sqW m)=mv at*;have hp:(wN 12 p).length=12:=by simp
 generalize wN 12 p=r at*;simp -implicitDefEqProofs [uI,V,b1,b2,hof,ha,he,hp,Z,bH,l8,aq,ab]
theorem zip (L:az)(h:O)(m:List ac)(c:Bool)(b:List Int)(hm:m.length=12)(hb:ce b)(hl:b.length < 1000000):
  aa ah L ox [NL m,.vsl c (eI .u8 b)] h=some (if b.length=96 then (if bx b < val m then .tup [.agg (cW (wN 12 (bx b))),Ii 0] else .tup [.agg (cW (wN 12 0)),Ii 4]) else .tup [.agg (cW (wN 12 0)),Ii 1],h):=by
 rw [Gp];have hz:cW (tab 12 fun _=>0#64)=cW (wN 12 0):=by rw [S6]
 by_cases h96:b.length=96
 ·rw [if_pos h96];have hW:=fun L H=>NN L H (.vsl false (eI .u8 b)) b (JM.vsl H .u8 false b) (by omega);rw [h96,show (96+7) / 8=12 from rfl] at hW;have hv:val (FD b 12 96)=bx b:=by have:=zat b hb 12 (by omega);rwa [h96] at this
  have hwl:(FD b 12 96).length=12:=by simp
  have hw2:FD b 12 96=wN 12 (bx b):=by rw [<- hv,H5 hwl]
  have hmw:=fun L h i q=>Rb L h m i q (by omega);have hC:=fun L H=>X9 L H (.vsl false (eW (FD b 12 96))) (.vsl false (eW m)) _ m (i6.vsl _ _ _) (i6.vsl _ _ _) ⟨by omega,by omega⟩;rw [hv] at hC;rw [hw2] at hC hW;have h2a:=Nu 12 false (wN 12 (bx b)) (by decide) (by simp);rw [List.take_of_length_le (by simp)] at h2a;have hwn:(wN 12 (bx b)).length=12:=by simp
  generalize wN 12 (bx b)=w at*;unfold NL;by_cases hlt:bx b < val m
  ·rw [if_pos hlt];have hc:ka (bx b) (val m)= -1:=by unfold ka;rw [if_pos hlt]
   rw [hc] at hC;simp -implicitDefEqProofs [li,V,h96,hW,hmw,hC,h2a,hwn,Z,bH,l8,aq,ab]
  ·rw [if_neg hlt];have hc:decide (0<=ka (bx b) (val m))=true:=by
    unfold ka;rw [if_neg hlt];split <;> decide
   simp -implicitDefEqProofs [li,V,h96,hW,hmw,hC,hc,hwn,Z,bH,l8,aq,ab,hz,ak]
 ·rw [if_neg h96];have hne:((b.length:Int)==96)=false:=by simp;omega
  unfold NL;simp -implicitDefEqProofs [li,V,bne,hne,Z,bH,l8,aq,ab,hz,ak]
def MG (b:List Int):Int:=if b.length=96 then (if bx b < val gW then (if Ud (bx b) (val qW) (val gW)=1 then 0 else 4) else 4) else 1
def grV (b:List Int):J:=.tup [.agg (cW (wN 12 (if MG b=0 then bx b else 0))),Ii (MG b)]
theorem zlx (L:az)(h:O):aa ah L yj [] h=some (.agg (cW (wN 12 1)),h):=by
 rw [OB];have e:cW (wN 12 1)=[.int .u64 1,.int .u64 0,.int .u64 0,.int .u64 0,.int .u64 0,.int .u64 0,.int .u64 0,.int .u64 0,.int .u64 0,.int .u64 0,.int .u64 0,.int .u64 0]:=rfl;rw [e];simp [Eu,V,aO,ak,aq,ab,Z,mY,J.cells,J.okV,setAt]
theorem zoS (a e m:Nat)(h:0 < m):Ud a e m < m:=by unfold Ud;exact Nat.mod_lt _ h
theorem ziu (L:az)(h:O)(c:Bool)(b:List Int)(hb:ce b)(hl:b.length < 1000000):aa ah L vv [.vsl c (eI .u8 b)] h=some (grV b,h):=by
 rw [LU];have hG:=zcM;have hX:=zkk;have hRd:=fun L h=>zip L h gW false b Cz.1 hb hl;have hSz:=fun L h=>zgv L h qW Q4.1;have hz:aO (wd 0#64) 12=cW (wN 12 0):=by rw [l8,S6]
 have hz2:aO (J.int .u64 0) 12=cW (wN 12 0):=hz;have hz0:(wN 12 0).length=12:=by simp
 have hfz:ak (cW (wN 12 0)) []=some (cW (wN 12 0)):=rfl;by_cases h96:b.length=96
 ·by_cases hlt:bx b < val gW
  ·rw [if_pos h96,if_pos hlt] at hRd;have hvn:=qk 12 (bx b) (Nat.lt_trans hlt (by have:=pf gW;rwa [Cz.1] at this));have hE:=fun L h=>zim L h gW (wN 12 (bx b)) qW Cz.1 (by simp) Q4.1 Cz.2.1 Cz.2.2.2.2.1 Cz.2.2.2.2.2;rw [hvn] at hE;have hOne:=zlx;have heq:=znp (wN 12 (Ud (bx b) (val qW) (val gW))) (wN 12 1) 12 (by simp) (by simp);have hpl:=zoS (bx b) (val qW) (val gW) (by have:=Cz.2.1;omega);have hiff:(wN 12 (Ud (bx b) (val qW) (val gW))=wN 12 1)↔Ud (bx b) (val qW) (val gW)=1:=by
    constructor
    ·intro e;have:=congrArg val e
     rwa [qk 12 _ (Nat.lt_trans hpl (by have:=pf gW;rwa [Cz.1] at this)),qk 12 1 (by decide +kernel)] at this
    ·intro e;rw [e]
   have hql:qW.length=12:=rfl;have hnl:(wN 12 (bx b)).length=12:=by simp
   have hpl2:(wN 12 (Ud (bx b) (val qW) (val gW))).length=12:=by simp
   have h1l:(wN 12 1).length=12:=by simp
   have hfl : ∀ (x : List ac), x.length = 12 -> ak (cW (wN 12 0)) [(0, 12, .agg (cW x))] = some (cW x) := fun x hx => by
    simp [ak,J.cells,hx,J.okV];exact ab _ _ (by simp [hx])
   by_cases hp:Ud (bx b) (val qW) (val gW)=1
   ·have e:grV b=.tup [.agg (cW (wN 12 (bx b))),Ii 0]:=by
     have:MG b=0:=by unfold MG;rw [if_pos h96,if_pos hlt,if_pos hp]
     unfold grV;rw [this];rfl
    rw [e];rw [decide_eq_true (hiff.2 hp)] at heq;have hf:=hfl (wN 12 (bx b)) hnl;generalize NL qW=g2,NL gW=g1,wN 12 0=z,wN 12 1=o,wN 12 (bx b)=w,wN 12 (Ud (bx b) (val qW) (val gW))=r at*;simp -implicitDefEqProofs [oq,V,hG,hX,hRd,hSz,hE,hOne,heq,hz,hz2,hz0,hf,hnl,hql,hpl2,h1l,Z,aq,ab]
   ·have e:grV b=.tup [.agg (cW (wN 12 0)),Ii 4]:=by
     have:MG b=4:=by unfold MG;rw [if_pos h96,if_pos hlt,if_neg hp]
     unfold grV;rw [this];rfl
    rw [e];rw [decide_eq_false (fun q=>hp (hiff.1 q))] at heq;generalize NL qW=g2,NL gW=g1,wN 12 0=z,wN 12 1=o,wN 12 (bx b)=w,wN 12 (Ud (bx b) (val qW) (val gW))=r at*;simp -implicitDefEqProofs [oq,V,hG,hX,hRd,hSz,hE,hOne,heq,hz,hz2,hz0,hfz,hnl,hql,hpl2,h1l,Z,aq,ab]
  ·rw [if_pos h96,if_neg hlt] at hRd;have e:grV b=.tup [.agg (cW (wN 12 0)),Ii 4]:=by
    have:MG b=4:=by unfold MG;rw [if_pos h96,if_neg hlt]
    unfold grV;rw [this];rfl
   rw [e];generalize NL gW=g1,wN 12 0=z at*;simp -implicitDefEqProofs [oq,V,hG,hRd,hz,hz2,hz0,hfz,Z,aq,ab,bne]
 ·rw [if_neg h96] at hRd;have e:grV b=.tup [.agg (cW (wN 12 0)),Ii 1]:=by
   have:MG b=1:=by unfold MG;rw [if_neg h96]
   unfold grV;rw [this];rfl
  rw [e];generalize NL gW=g1,wN 12 0=z at*;simp -implicitDefEqProofs [oq,V,hG,hRd,hz,hz2,hz0,hfz,Z,aq,ab,bne]
def iM (t:Int):Nat:=if t=1 then 1 else if t=2 then 8 else if t=3 then 32 else if t=4 then 96 else 0
def Cn (t:Int):J:=if t=3 then .fn (.func gv) [] [] else if t=4 then .fn (.func gy) [] [] else .nfn
def Lx (t:Int):List Int:=if t=2 then [8] else if t=3 then [32] else if t=4 then [31,31,31,3] else []
def TP (t:Int):J:=.agg [Ii (iM t:Int),Cn t,.vsl false (eI .i64 (Lx t))]
theorem xj (h:O)(nb nt n:Nat)(cs:List J)(hc:aZ cs=false):frz h nb nt (n+1) (.agg cs)=(LL h nb nt n cs).map .agg:=by
 rw [<- SR];simp [frz,hc]
@[simp] theorem zs3 (h:O)(nb nt n:Nat):frz h nb nt (n+1) .nfn=some .nfn:=by simp only [frz]
@[simp] theorem zs4 (h:O)(nb nt n:Nat)(f:FuncId):frz h nb nt (n+1) (.fn (.func f) [] [])=some (.fn (.func f) [] []):=by simp [frz,ay]
theorem RQ (L:az)(h:O)(t:Int):aa ah L ml [Ii t] h=some (TP t,h):=by
 rw [Hu];by_cases h1:t=1
 ·subst h1;simp [gP,V,TP,iM,Cn,Lx,ak,rep,J.cells,J.okV,chunks,setAt,Z,aq,ab,xj,aZ,J.flat]
 ·by_cases h2:t=2
  ·subst h2;simp [gP,V,TP,iM,Cn,Lx,ak,rep,J.cells,J.okV,chunks,setAt,Z,aq,ab,xj,aZ,J.flat,fx]
  ·by_cases h3:t=3
   ·subst h3;simp [gP,V,TP,iM,Cn,Lx,ak,rep,J.cells,J.okV,chunks,setAt,Z,aq,ab,xj,aZ,J.flat,fx]
   ·by_cases h4:t=4
    ·subst h4;simp [gP,V,TP,iM,Cn,Lx,ak,rep,J.cells,J.okV,chunks,setAt,Z,aq,ab,xj,aZ,J.flat,fx,yw]
    ·have b1:(t==1)=false:=by simpa using h1
     have b2:(t==2)=false:=by simpa using h2
     have b3:(t==3)=false:=by simpa using h3
     have b4:(t==4)=false:=by simpa using h4
     simp [gP,V,TP,iM,Cn,Lx,b1,b2,b3,b4,h1,h2,h3,h4,ak,rep,J.cells,J.okV,chunks,setAt,Z,aq,ab,xj,aZ,J.flat,fx,yw]
theorem zlG (L:az)(h:O)(t:Int):aa ah L tE [Ii t] h=some (Ii (iM t:Int),h):=by
 rw [Km];have hv:=fun L h=>RQ L h t;simp only [TP] at hv;have hf:∀ a b c:J,zk2 0 1 false (.agg [a,b,c])=some a:=fun a b c=>rfl;simp [yE,hv,hf]
def iT (t:Int)(n:Nat):Nat × Int:=
 if iM t=0 then (0,6) else if ¬n % iM t=0 then (0,3) else if n=0\/1048576 < n / iM t then (0,7) else (n / iM t,0)
theorem KU (L:az)(h:O)(t:Int)(c:Bool)(b:List Int)(hl:b.length < 9223372036854775808):aa ah L ls [Ii t,.vsl c (eI .u8 b)] h=some (.tup [Ii ((iT t b.length).1:Int),Ii (iT t b.length).2],h):=by
 rw [Ib];have hS:=fun L h=>zlG L h t;unfold iT;have hlen:(eI .u8 b).length=b.length:=by simp
 generalize b.length=n at*;generalize eI .u8 b=eb at*;generalize hs:iM t=s at*
 have hs8:s<=96:=by rw [<- hs];unfold iM;split <;> (try split) <;> (try split) <;> (try split) <;> omega
 by_cases h0:s=0
 ·rw [if_pos h0];have b0:((s:Int)==0)=true:=by simp;omega
  simp [i7,hS,b0,hlen]
 ·rw [if_neg h0];have b0:((s:Int)==0)=false:=by simp;omega
  have z0:¬(s:Int)=0:=by omega
  have t1:(n:Int).tmod (s:Int)=((n % s:Nat):Int):=sv n s;have t2:(n:Int).tdiv (s:Int)=((n / s:Nat):Int):=xe n s;have hle:n / s<=n:=Nat.div_le_self _ _;have t3:IntKind.i64.wrap ((n / s:Nat):Int)=((n / s:Nat):Int):=eK _ (by omega);have br:aW .rem (Ii (n:Int)) (Ii (s:Int))=some (Ii ((n % s:Nat):Int)):=by rw [bC .i64 (n:Int) (s:Int) z0,t1]
  have bq:aW .quo (Ii (n:Int)) (Ii (s:Int))=some (Ii ((n / s:Nat):Int)):=by rw [da .i64 (n:Int) (s:Int) z0,t2,t3]
  generalize n % s=r at*;generalize n / s=q at*;by_cases h1:r=0
  ·rw [if_neg (by omega)];subst h1;by_cases h2:n=0
   ·rw [if_pos (.inl h2)];have b2:((n:Int)==0)=true:=by simp;omega
    simp [i7,hS,b0,hlen,br,bq,b2]
   ·have b2:((n:Int)==0)=false:=by simp;omega
    by_cases h3:1048576 < q
    ·rw [if_pos (.inr h3)];simp [i7,hS,b0,hlen,br,bq,b2,show (1048576:Int) < q by omega]
    ·rw [if_neg (by omega)];simp [i7,hS,b0,hlen,br,bq,b2,show ¬(1048576:Int) < q by omega]
  ·rw [if_pos h1];have b1:((r:Int)==0)=false:=by simp;omega
   simp [i7,hS,b0,hlen,br,bq,b1,bne]
def AE (t:Int)(b:List Int):Int:=if t=3 then (if bx b < pN then 0 else 4) else MG b
def mM (b:List Int)(s k:Nat):List Int:=(b.drop (k*s)).take s
def Lz (t:Int)(b:List Int)(s:Nat):Nat->Bool
 | 0=>true
 | n+1=>Lz t b s n&&(AE t (mM b s n)==0)
def uP (t:Int)(b:List Int):Int:=
 if ¬(iT t b.length).2=0 then (iT t b.length).2 else if t=3\/t=4 then (if Lz t b (iM t) (iT t b.length).1=true then 0 else 4) else 0
theorem zsa (L:az)(h:O)(c:Bool)(b:List Int)(hb:ce b)(hl:b.length=32):aa ah L gv [.vsl c (eI .u8 b)] h=some (Ii (AE 3 b),h):=by
 rw [EG];have hF:=fun L h=>Ji L h false b hb hl;unfold AE;rw [if_pos rfl];by_cases hlt:bx b < pN
 ·rw [if_pos hlt] at hF |-;have hfe:(fe (bx b)).length=4:=rfl;generalize fe (bx b)=e at*;simp -implicitDefEqProofs [mZ,V,hF,hfe,bH,l8,aq,ab]
 ·rw [if_neg hlt] at hF |-;simp -implicitDefEqProofs [mZ,V,hF,bH,l8,aq,ab]
theorem zsb (L:az)(h:O)(c:Bool)(b:List Int)(hb:ce b)(hl:b.length < 1000000):aa ah L gy [.vsl c (eI .u8 b)] h=some (Ii (AE 4 b),h):=by
 rw [EJ];have hF:=fun L h=>ziu L h false b hb hl;unfold grV at hF;have e:AE 4 b=MG b:=by unfold AE;rw [if_neg (by decide)]
 rw [e];have hfe:(wN 12 (if MG b=0 then bx b else 0)).length=12:=by simp
 generalize wN 12 (if MG b=0 then bx b else 0)=w at*;simp -implicitDefEqProofs [rc,V,hF,hfe,bH,l8,aq,ab]
theorem JD (c:Bool)(b:List Int)(i s j:Nat)(hj:j=i+s)(hl:j<=b.length):eP .slc 1 (.vsl c (eI .u8 b)) (some (Ii (i:Int))) (some (Ii (j:Int))) none=some (.vsl (c&&j==b.length) (eI .u8 ((b.drop i).take s))):=by
 have e:E5 i j (eI .u8 b)=eI .u8 ((b.drop i).take s):=by
  simp only [E5,eI,List.map_take,List.map_drop,List.drop_take];rw [show j - i=s by omega]
 have h1:i<=j:=by omega
 simp [eP,jE,hl,h1,e,show (i:Int)<=j by omega,show (j:Int)<=b.length by omega]
theorem ziK {fr:Fr}{h:O}{R:Option (cL × Fr × O)}(t:Int)(f:FuncId)(b:List Int)(s n:Nat)(z:J)(hb:ce b)(hs:0 < s/\s<=96)(hl:b.length=n*s)(hn:b.length < 100000000)
  (hf:∀ L h c ch,ce ch->ch.length=s->aa ah L f [.vsl c (eI .u8 ch)] h=some (Ii (AE t ch),h))
  (hF:run ah (V h) (.loop jK) fr (hx h [[Ii (s:Int),.fn (.func f) [] [],z]] [])=R)
  (h1:fr 1=.vsl false (eI .u8 b)) (h7:fr 7=pA h.blks.length 0 0) (h8:fr 8=Ii 0):
  ∃ e fr',R=some (e,fr',hx h [[Ii (s:Int),.fn (.func f) [] [],z]] [])/\(e=.exit 0/\Lz t b s n=true\/e=.ret/\fr' 4=Ii 4/\Lz t b s n=false):=by
 obtain ⟨e,fr',h',rfl,⟨rfl,hp⟩,hk⟩:=af hF n
  (fun k fr hh=>∃ i:Nat,i=k*s/\fr 8=Ii (i:Int)/\Lz t b s k=true/\hh=hx h [[Ii (s:Int),.fn (.func f) [] [],z]] [])
  (fun e fr hh=>hh=hx h [[Ii (s:Int),.fn (.func f) [] [],z]] []/\(e=.exit 0/\Lz t b s n=true\/e=.ret/\fr 4=Ii 4/\Lz t b s n=false))
  ⟨0, by simp, h8, rfl, rfl⟩ (by
   rintro k fr1 hh hkN hkeep ⟨i,hi,g8,hok,rfl⟩;have g1:=kp hkeep h1;have g7:=kp hkeep h7;have hne:JQ .fn (.fn (.func f) [] []) .nfn=some false:=rfl;by_cases hlt:k < n
   ·obtain ⟨j,hj⟩:∃ j,j=i+s:=⟨_,rfl⟩;have hjl:j<=b.length:=by
     have:(k+1)*s<=n*s:=Nat.mul_le_mul_right _ hlt;rw [Nat.add_mul,Nat.one_mul] at this;omega
    have w1:Wr ((i:Int)+(s:Int))=(j:Int):=wy;have hsl:=JD false b i s j hj hjl;have hch:(b.drop i).take s=mM b s k:=by rw [hi];rfl
    rw [hch] at hsl;have hcl:(mM b s k).length=s:=by unfold mM;simp;omega
    have hcb:ce (mM b s k):=mg (pB hb _) _;have hcall:=fun L h=>hf L h false (mM b s k) hcb hcl;have hst:Lz t b s (k+1)=(Lz t b s k&&(AE t (mM b s k)==0)):=rfl;rw [hok,Bool.true_and] at hst;have hmono : ∀ d, Lz t b s (k + 1) = false -> Lz t b s (k + 1 + d) = false := fun d e => by
     induction d with
     | zero=>exact e
     | succ d ih=>show (Lz t b s (k+1+d)&&_)=false;rw [ih];rfl
    have hmul:(k+1)*s=j:=by rw [Nat.add_mul,Nat.one_mul];omega
    generalize mM b s k=ch at*;generalize AE t ch=er at*;by_cases he:er=0
    ·have be:(er==0)=true:=by simp [he]
     rw [be] at hst;simp -implicitDefEqProofs [jK,V,g1,g7,g8,hne,show (i:Int) < b.length by omega,ao,w1,hsl,hcall,bne,be];exact ⟨hlt,by rw [<- hmul];simp,hst⟩
    ·have be:(er==0)=false:=by simpa using he
     rw [be] at hst;have hno:Lz t b s n=false:=by
      have:=hmono (n - (k+1)) hst
      rwa [show k+1+(n - (k+1))=n by omega] at this
     simp -implicitDefEqProofs [jK,V,g1,g7,g8,hne,show (i:Int) < b.length by omega,ao,w1,hsl,hcall,bne,be,hno]
   ·have:k=n:=by omega
    subst this;simp -implicitDefEqProofs [jK,V,g1,g7,g8,hne,show ¬(i:Int) < b.length by omega,ao,hok])
 exact ⟨e,fr',rfl,hp⟩
theorem zbv (L:az)(h:O)(t:Int)(c:Bool)(b:List Int)(hb:ce b)(hl:b.length < 100000000):aa ah L oa [Ii t,.vsl c (eI .u8 b)] h=some (Ii (uP t b),h):=by
 rw [Ie];have hC:=fun L h=>KU L h t false b (by omega);have hV:=fun L h=>RQ L h t;unfold uP;have hcnt : ∀ q, iT t b.length = q -> q.2 = 0 -> ¬ iM t = 0 /\ b.length = q.1 * iM t := fun q hq h0 => by
  unfold iT at hq;split at hq
  ·subst hq;simp at h0
  ·rename_i h1;split at hq
   ·subst hq;simp at h0
   ·rename_i h2;split at hq
    ·subst hq;simp at h0
    ·subst hq;refine ⟨h1,?_⟩;have:=Nat.div_add_mod b.length (iM t);simp only;rw [Nat.mul_comm];omega
 generalize iT t b.length=q at*;have hcnt:=hcnt q rfl;obtain ⟨n,er⟩:=q;simp only at hC hcnt |-;by_cases he:er=0
 ·rw [if_neg (by simpa using he)];obtain ⟨hs0,hbl⟩:=hcnt he;have be:(er==0)=true:=by simp [he]
  have hs8:iM t<=96:=by unfold iM;split <;> (try split) <;> (try split) <;> (try split) <;> omega
  by_cases h34:t=3\/t=4
  ·rw [if_pos h34];obtain ⟨f,hrt,hf⟩:∃ f,Cn t=.fn (.func f) [] []/\∀ L h c ch,ce ch->ch.length=iM t->aa ah L f [.vsl c (eI .u8 ch)] h=some (Ii (AE t ch),h):=by
    rcases h34 with rfl | rfl
    ·exact ⟨gv,rfl,fun L h c ch h1 h2=>zsa L h c ch h1 h2⟩
    ·exact ⟨gy,rfl,fun L h c ch h1 h2=>zsb L h c ch h1 (by rw [h2];show 96 < 1000000;omega)⟩
   unfold TP at hV;rw [hrt] at hV;generalize J.vsl false (eI .i64 (Lx t))=z at*;simp -implicitDefEqProofs [nM,V,hC,hV,bne,be,Z,aq,ab];generalize hF:run ah _ (.loop _) _ _=R;obtain ⟨e,fr',rfl,⟨rfl,hok⟩ | ⟨rfl,h4,hok⟩⟩:=ziK t f b (iM t) n z hb ⟨by omega,hs8⟩ hbl hl hf hF (by simp) (by simp) (by simp)
   ·simp [hok]
   ·simp [hok,h4]
  ·rw [if_neg h34];have hrt:Cn t=.nfn:=by unfold Cn;rw [if_neg (by omega),if_neg (by omega)]
   unfold TP at hV;rw [hrt] at hV;have hne:JQ .fn .nfn .nfn=some true:=rfl;generalize J.vsl false (eI .i64 (Lx t))=z at*;simp -implicitDefEqProofs [nM,V,hC,hV,bne,be,Z,aq,ab];rw [J8];simp -implicitDefEqProofs [jK,ao,hne]
 ·rw [if_pos (by simpa using he)];have be:(er==0)=false:=by simpa using he
  simp -implicitDefEqProofs [nM,V,hC,bne,be]
def itO (k t c:Int):It:=⟨k,t,c,⟨#[]⟩⟩
def ckO (k t c:Int):Int:=chk (itO k t c)
def Cs (k t c:Int)(b:List Int):Bool:=
 if ckO k t c=0 then (if k=1 then decide (((iT t b.length).1:Int)=c)&&decide (uP t b=0) else decide (b.length=0)) else false
def im (k t c:Int)(b:List Int):List Int:=if Cs k t c b=true then [IntKind.u8.wrap k,IntKind.u8.wrap t]++le c 4++b else []
theorem H8 (h:O)(k t c:Int)(b:List Int)(d:J)(hd:oL h d=some (.vsl false (eI .u8 b),false))(hf:d.flat=false):oL h (.agg [Ii k,Ii t,Ii c,d])=some (.agg [Ii k,Ii t,Ii c,.vsl false (eI .u8 b)],false):=by
 have hn:aZ [Ii k,Ii t,Ii c,d]=false:=by simp [aZ,hf]
 simp only [oL,hn,Bool.false_eq_true,if_false];simp [hd]
theorem zbM (L:az)(h:O)(k t c:Int)(b:List Int)(hb:ce b)(hl:b.length < 100000000):aa ah L nr [.agg [Ii k,Ii t,Ii c,.vsl false (eI .u8 b)]] h=some (.bool (Cs k t c b),h):=by
 rw [DJ];have hC:∀ L h,aa ah L lH [.agg [Ii k,Ii t,Ii c,.str ⟨#[]⟩]] h=some (Ii (ckO k t c),h):=fun L h=>N6 L h (itO k t c);have hN:=fun L h=>KU L h t false b (by omega);have hK:=fun L h=>zbv L h t false b hb hl;have hfz:∀ h,oL h (.agg [Ii k,Ii t,Ii c,.vsl false (eI .u8 b)])=some (.agg [Ii k,Ii t,Ii c,.vsl false (eI .u8 b)],false):=fun h=>H8 h k t c b _ (by simp) rfl;have hbo:lx (.agg [Ii k,Ii t,Ii c,.vsl false (eI .u8 b)])=some (.vptr [Ii k,Ii t,Ii c,.vsl false (eI .u8 b)] 0):=rfl;have hlen:(eI .u8 b).length=b.length:=by simp
 unfold Cs;generalize uP t b=e,iT t b.length=q,ckO k t c=ck at*;obtain ⟨n,er⟩:=q;simp only at hN |-;by_cases h0:ck=0
 ·have b0:(ck==0)=true:=by simp [h0]
  rw [if_pos h0];by_cases h1:k=1
  ·have b1:(k==1)=true:=by simp [h1]
   rw [if_pos h1];by_cases h2:(n:Int)=c
   ·have b2:((n:Int)==c)=true:=by simp [h2]
    have b3:(e==0)=decide (e=0):=by rw [Bool.eq_iff_iff];simp
    simp -implicitDefEqProofs [gH,V,hfz,hbo,ak,setAt,J.cells,J.okV,hC,hN,hK,bne,b0,b1,b2,b3,h2]
   ·have b2:((n:Int)==c)=false:=by simpa using h2
    simp -implicitDefEqProofs [gH,V,hfz,hbo,ak,setAt,J.cells,J.okV,hC,hN,hK,bne,b0,b1,b2,h2]
  ·have b1:(k==1)=false:=by simpa using h1
   rw [if_neg h1];have b2:((b.length:Int)==0)=decide (b.length=0):=by rw [Bool.eq_iff_iff];simp
   generalize eI .u8 b=eb at*;simp -implicitDefEqProofs [gH,V,hfz,hbo,ak,setAt,J.cells,J.okV,hC,bne,b0,b1,hlen,b2]
 ·have b0:(ck==0)=false:=by simpa using h0
  rw [if_neg h0];simp -implicitDefEqProofs [gH,V,hfz,hbo,ak,setAt,J.cells,J.okV,hC,bne,b0]
theorem zmL (n:Int)(k:Nat)(hk:k<=64):uO .shr .i64 n (k:Int)=some (Ii (n.fdiv (2 ^ k))):=by
 rw [ziM .i64 n (k:Int) (by simp only [Bool.and_eq_true,decide_eq_true_eq];exact ⟨by omega,by show (k:Int)<=64;omega⟩)];simp
theorem AX (n:Int):le n 4=[IntKind.u8.wrap n,IntKind.u8.wrap (n.fdiv (2 ^ 8)),IntKind.u8.wrap (n.fdiv (2 ^ 16)),IntKind.u8.wrap (n.fdiv (2 ^ 24))]:=by
 simp [le]
theorem zeW (L:az)(h:O)(sz:Nat)(c:Bool)(es:List (List J))(he:cS sz es=true):jm L h sz false (.vsl true es) (.vsl c [])=some (.vsl true es,h):=by
 simp [jm,aH,fc,Fb,he,show cS sz ([]:List (List J))=true from rfl]
theorem zmP (L:az)(h:O)(k t c:Int)(b:List Int)(d:J)(hd:∀ h,oL h d=some (.vsl false (eI .u8 b),false))(hf:d.flat=false)(hb:ce b)(hl:b.length < 100000000):
  aa ah L oF [.agg [Ii k,Ii t,Ii c,d]] h=some (.vsl false (eI .u8 (im k t c b)),h):=by
 rw [FN];have hfz:=fun h=>H8 h k t c b d (hd h) hf;have hbo:lx (.agg [Ii k,Ii t,Ii c,.vsl false (eI .u8 b)])=some (.vptr [Ii k,Ii t,Ii c,.vsl false (eI .u8 b)] 0):=rfl;have hR:=fun L h=>zbM L h k t c b hb hl;have s1:=zmL c 8 (by decide);have s2:=zmL c 16 (by decide);have s3:=zmL c 24 (by decide);simp only [Int.cast_ofNat_Int] at s1 s2 s3;unfold im
 cases hr:Cs k t c b with
 | true=>
  rw [hr] at hR;rw [if_pos rfl];have hl4:=AX c;generalize c.fdiv (2 ^ 24)=c3,c.fdiv (2 ^ 16)=c2,c.fdiv (2 ^ 8)=c1 at*;rw [hl4]
  cases b with
  | nil=>
   simp only [Zz] at hfz hbo hR;simp -implicitDefEqProofs [lm,V,hfz,hbo,hR,Z,s1,s2,s3,ak,rep,J.cells,J.okV,chunks,setAt,fx,yw,zeW]
  | cons x b=>
   simp only [List.length_cons] at hl;simp -implicitDefEqProofs [lm,V,hfz,hbo,hR,Z,s1,s2,s3,ak,rep,J.cells,J.okV,chunks,setAt,fx,yw,RP,am,show 6+(b.length+1) < 274877906944 by omega]
 | false=>
  rw [hr] at hR;simp -implicitDefEqProofs [lm,V,hfz,hbo,hR,Z]
end Go.Av
