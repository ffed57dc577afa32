/- Powers modulo great numbers, and what the program's check of operations answers. -/
import Derived.Test.YtbookmjmhfoolaaGreatDoorC2
import Derived.Test.YtbookmjmhfoolaaGreatDoorC5
import Derived.Test.YtbookmjmhfoolaaGreatDoorC1
set_option linter.unusedSimpArgs false
set_option linter.unusedVariables false
set_option maxHeartbeats 2000000
set_option maxRecDepth 20000
namespace Go.Av
theorem zhY (l:List W64) (v:W64) (i j:Nat) (h:i≠j):gd (l.set i v) 0#64 j=gd l 0#64 j:=by
  by_cases hi:i < l.length
  · rw [zmc _ _ _ _ _ hi,if_neg h]
  · rw [List.set_eq_of_length_le (by omega)]
theorem zur (l:List W64) (v:W64) (i:Nat) (h:i < l.length):gd (l.set i v) 0#64 i=v:=by rw [zmc _ _ _ _ _ h,if_pos rfl]
theorem zr5 (t:List W64) (x:W64) (b:List W64):∀ j i,j≤i→gd (zdf t x b j).1 0#64 i=gd t 0#64 i
  | 0,i,_=>rfl
  | j + 1, i, h => by
    show gd ((zdf t x b j).1.set j _) 0#64 i=_
    rw [zhY _ _ _ _ (by omega)]
    exact zr5 t x b j i (by omega)
theorem zDj (t:List W64) (x:W64) (b:List W64):∀ j,j≤t.length→zbl (gd (zdf t x b j).1 0#64) j+bN j*(zdf t x b j).2.toNat=zbl (gd t 0#64) j+x.toNat*zbl (gd b 0#64) j
  | 0,_=>by simp [zbl,zdf,bN]
  | j + 1, h => by
    have ih:=zDj t x b j (by omega)
    have hl:=zj7 t x b j
    have hab:=zr5 t x b j j (Nat.le_refl _)
    have hs:=zsb (gd (zdf t x b j).1 0#64 j) x (gd b 0#64 j) (zdf t x b j).2
    rw [zdf]
    generalize zdf t x b j=q at*
    obtain ⟨u,c⟩:=q
    simp only at*
    have e1:zbl (gd (u.set j (lnL (gd u 0#64 j) x (gd b 0#64 j) c)) 0#64) j=zbl (gd u 0#64) j:=zcS j fun i hi=>zhY _ _ _ _ (by omega)
    have e2:=zur u (lnL (gd u 0#64 j) x (gd b 0#64 j) c) j (by omega)
    rw [zbl,zbl,zbl,e1,e2,zeY]
    rw [← hab]
    generalize lnL (gd u 0#64 j) x (gd b 0#64 j) c=l0 at*
    generalize lnH (gd u 0#64 j) x (gd b 0#64 j) c=h0 at*
    generalize zbl (gd u 0#64) j=S1 at*
    generalize zbl (gd t 0#64) j=S2 at*
    generalize zbl (gd b 0#64) j=S3 at*
    generalize (gd u 0#64 j).toNat=y at*
    generalize (gd b 0#64 j).toNat=z at*
    generalize c.toNat=c at*
    generalize l0.toNat=l0 at*
    generalize h0.toNat=h0 at*
    generalize x.toNat=x at*
    generalize bN j=B at*
    grind
def zkI (m t:List W64) (k:W64):Nat→List W64 × W64
  | 0=>(t,lnH (gd t 0#64 0) k (gd m 0#64 0) 0#64)
  | j+1=>((zkI m t k j).1.set j (lnL (gd (zkI m t k j).1 0#64 (j+1)) k (gd m 0#64 (j+1)) (zkI m t k j).2),lnH (gd (zkI m t k j).1 0#64 (j+1)) k (gd m 0#64 (j+1)) (zkI m t k j).2)
@[simp] theorem zoH (m t:List W64) (k:W64):∀ j,(zkI m t k j).1.length=t.length
  | 0=>rfl
  | j+1=>by simp [zkI,zoH m t k j]
theorem zoI (m t:List W64) (k:W64):∀ j i,j≤i→gd (zkI m t k j).1 0#64 i=gd t 0#64 i
  | 0,i,_=>rfl
  | j + 1, i, h => by
    show gd ((zkI m t k j).1.set j _) 0#64 i=_
    rw [zhY _ _ _ _ (by omega)]
    exact zoI m t k j i (by omega)
theorem zDn (m t:List W64) (k:W64) (h0:((gd t 0#64 0).toNat+k.toNat*(gd m 0#64 0).toNat) % 18446744073709551616=0):∀ j,j+1≤t.length→
    18446744073709551616*zbl (gd (zkI m t k j).1 0#64) j+bN (j+1)*(zkI m t k j).2.toNat=zbl (gd t 0#64) (j+1)+k.toNat*zbl (gd m 0#64) (j+1)
  | 0, _ => by
    have hs:=zsb (gd t 0#64 0) k (gd m 0#64 0) 0#64
    have hz:(lnL (gd t 0#64 0) k (gd m 0#64 0) 0#64).toNat=0:=by
      simp only [lnL,BitVec.toNat_ofNat,BitVec.toNat_zero,Nat.add_zero]
      exact h0
    simp only [zbl,zkI,zeY,zCJ,Nat.zero_add,Nat.mul_one,Nat.mul_zero] at*
    rw [hz] at hs
    simp only [BitVec.toNat_zero] at hs
    omega
  | j + 1, h => by
    have ih:=zDn m t k h0 j (by omega)
    have hl:=zoH m t k j
    have hab:=zoI m t k j (j+1) (by omega)
    have hs:=zsb (gd (zkI m t k j).1 0#64 (j+1)) k (gd m 0#64 (j+1)) (zkI m t k j).2
    rw [zkI]
    generalize zkI m t k j=q at*
    obtain ⟨u,c⟩:=q
    simp only at*
    have e1:zbl (gd (u.set j (lnL (gd u 0#64 (j+1)) k (gd m 0#64 (j+1)) c)) 0#64) j=zbl (gd u 0#64) j:=zcS j fun i hi=>zhY _ _ _ _ (by omega)
    have e2:=zur u (lnL (gd u 0#64 (j+1)) k (gd m 0#64 (j+1)) c) j (by omega)
    have s1:∀ f:Nat→W64,zbl f (j+1+1)=zbl f (j+1)+(f (j+1)).toNat*bN (j+1):=fun _=>rfl
    rw [zbl,e1,e2,s1,s1,zeY (j+1),← hab]
    rw [zeY] at ih ⊢
    generalize lnL (gd u 0#64 (j+1)) k (gd m 0#64 (j+1)) c=l0 at*
    generalize lnH (gd u 0#64 (j+1)) k (gd m 0#64 (j+1)) c=h0 at*
    generalize zbl (gd u 0#64) j=S1 at*
    generalize zbl (gd t 0#64) (j+1)=S2 at*
    generalize zbl (gd m 0#64) (j+1)=S3 at*
    generalize (gd u 0#64 (j+1)).toNat=y at*
    generalize (gd m 0#64 (j+1)).toNat=z at*
    generalize c.toNat=c at*
    generalize l0.toNat=l0 at*
    generalize h0.toNat=h0 at*
    generalize k.toNat=k at*
    generalize bN j=B at*
    grind
def adG (n:Nat) (t:List W64) (c:W64):List W64:=(t.set n (adL (gd t 0#64 n) c 0#64)).set (n+1) (adH (gd t 0#64 n) c 0#64)
def enG (n:Nat) (u:List W64) (c:W64):List W64:=(u.set (n - 1) (adL (gd u 0#64 n) c 0#64)).set n (gd u 0#64 (n+1)+adH (gd u 0#64 n) c 0#64)
def zF2 (n:Nat) (b t:List W64) (x:W64):List W64:=adG n (zdf t x b n).1 (zdf t x b n).2
def zGQ (n:Nat) (m:List W64) (i:W64) (b t:List W64) (x:W64):List W64:=
  enG n (zkI m (zF2 n b t x) (gd (zF2 n b t x) 0#64 0*i) (n - 1)).1 (zkI m (zF2 n b t x) (gd (zF2 n b t x) 0#64 0*i) (n - 1)).2
def zrv (n:Nat) (m:List W64) (i:W64) (a b:List W64):Nat→List W64
  | 0=>tab (n+2) fun _=>0#64
  | j+1=>zGQ n m i b (zrv n m i a b j) (gd a 0#64 j)
@[simp] theorem zJ2 (n:Nat) (t:List W64) (c:W64):(adG n t c).length=t.length:=by simp [adG]
@[simp] theorem zQt (n:Nat) (t:List W64) (c:W64):(enG n t c).length=t.length:=by simp [enG]
@[simp] theorem zGR (n:Nat) (b t:List W64) (x:W64):(zF2 n b t x).length=t.length:=by simp [zF2]
@[simp] theorem zPk (n:Nat) (m:List W64) (i:W64) (b t:List W64) (x:W64):(zGQ n m i b t x).length=t.length:=by simp [zGQ]
@[simp] theorem zoJ (n:Nat) (m:List W64) (i:W64) (a b:List W64):∀ j,(zrv n m i a b j).length=n+2
  | 0=>by simp [zrv]
  | j+1=>by simp [zrv,zoJ n m i a b j]
theorem zGT (n:Nat) (b t:List W64) (x:W64) (hb:b.length=n) (ht:t.length=n+2):zbl (gd (zF2 n b t x) 0#64) (n+2)=zbl (gd t 0#64) (n+1)+x.toNat*val b∧(gd (zF2 n b t x) 0#64 (n+1)).toNat≤1:=by
  have h1:=zDj t x b n (by omega)
  have hl:=zj7 t x b n
  have hab:=zr5 t x b n n (Nat.le_refl _)
  rw [← zdq b n (by omega)] at h1
  unfold zF2 adG
  generalize zdf t x b n=q at*
  obtain ⟨u,c⟩:=q
  simp only at*
  obtain ⟨h2,h3⟩:=zy2 (gd u 0#64 n) c 0#64 (by decide)
  generalize adL (gd u 0#64 n) c 0#64=lo at*
  generalize adH (gd u 0#64 n) c 0#64=hi at*
  have e1:gd ((u.set n lo).set (n+1) hi) 0#64 (n+1)=hi:=zur _ _ _ (by simp;omega)
  have e2:gd ((u.set n lo).set (n+1) hi) 0#64 n=lo:=by rw [zhY _ _ _ _ (by omega),zur _ _ _ (by omega)]
  have e3:zbl (gd ((u.set n lo).set (n+1) hi) 0#64) n=zbl (gd u 0#64) n:=zcS n fun i hi=>by rw [zhY _ _ _ _ (by omega),zhY _ _ _ _ (by omega)]
  refine ⟨?_,by rw [e1];exact h3⟩
  rw [zbl,zbl,e1,e2,e3,zbl,← hab,zeY]
  simp only [BitVec.toNat_zero,Nat.add_zero] at h2
  generalize zbl (gd u 0#64) n=S1 at*
  generalize zbl (gd t 0#64) n=S2 at*
  generalize (gd u 0#64 n).toNat=y at*
  generalize val b=vb at*
  generalize c.toNat=c at*
  generalize lo.toNat=lo at*
  generalize hi.toNat=hi at*
  generalize x.toNat=x at*
  generalize bN n=B at*
  grind
theorem zJ3 (n:Nat) (m:List W64) (i:W64) (b t:List W64) (x:W64) (hn:0 < n) (hm:m.length=n) (hb:b.length=n) (ht:t.length=n+2) (hi:(1+i.toNat*(gd m 0#64 0).toNat) % 18446744073709551616=0):
    ∃ k,k < 18446744073709551616∧18446744073709551616*zbl (gd (zGQ n m i b t x) 0#64) (n+1)=zbl (gd t 0#64) (n+1)+x.toNat*val b+k*val m:=by
  obtain ⟨h1,h2⟩:=zGT n b t x hb ht
  have hlv:=zGR n b t x
  unfold zGQ
  rw [ht] at hlv
  generalize zF2 n b t x=v at*
  refine ⟨(gd v 0#64 0*i).toNat,(gd v 0#64 0*i).isLt,?_⟩
  have hk:((gd v 0#64 0).toNat+(gd v 0#64 0*i).toNat*(gd m 0#64 0).toNat) % 18446744073709551616=0:=by
    rw [BitVec.toNat_mul]
    generalize (gd v 0#64 0).toNat=y at*
    generalize (gd m 0#64 0).toNat=z at*
    generalize i.toNat=j at*
    have e1:(y+y*j % 18446744073709551616*z) % 18446744073709551616=(y*(1+j*z)) % 18446744073709551616:=by
      rw [Nat.add_mod,Nat.mod_mul_mod,← Nat.add_mod]
      congr 1
      rw [Nat.mul_add,Nat.mul_one,Nat.mul_assoc]
    rw [show (2:Nat) ^ 64=18446744073709551616 from rfl,e1,Nat.mul_mod,hi]
    simp
  have hr:=zDn m v (gd v 0#64 0*i) hk (n - 1) (by omega)
  have hlr:=zoH m v (gd v 0#64 0*i) (n - 1)
  have a1:=zoI m v (gd v 0#64 0*i) (n - 1) n (by omega)
  have a2:=zoI m v (gd v 0#64 0*i) (n - 1) (n+1) (by omega)
  rw [show n - 1+1=n by omega,← zdq m n (by omega)] at hr
  generalize (gd v 0#64 0*i)=k at*
  unfold enG
  generalize zkI m v k (n - 1)=q at*
  obtain ⟨u,c⟩:=q
  simp only at*
  obtain ⟨h3,h4⟩:=zy2 (gd u 0#64 n) c 0#64 (by decide)
  generalize adL (gd u 0#64 n) c 0#64=lo at*
  generalize adH (gd u 0#64 n) c 0#64=hi at*
  have ew:(gd u 0#64 (n+1)+hi).toNat=(gd v 0#64 (n+1)).toNat+hi.toNat:=by
    rw [BitVec.toNat_add,a2];omega
  generalize gd u 0#64 (n+1)+hi=top at*
  obtain ⟨n',rfl⟩:∃ n',n=n' + 1:=⟨n - 1,by omega⟩
  simp only [Nat.add_sub_cancel] at*
  have e1:gd ((u.set n' lo).set (n' + 1) top) 0#64 (n' + 1)=top:=zur _ _ _ (by simp;omega)
  have e2:gd ((u.set n' lo).set (n' + 1) top) 0#64 n'=lo:=by rw [zhY _ _ _ _ (by omega),zur _ _ _ (by omega)]
  have e3:zbl (gd ((u.set n' lo).set (n' + 1) top) 0#64) n'=zbl (gd u 0#64) n':=zcS n' fun i hi=>by rw [zhY _ _ _ _ (by omega),zhY _ _ _ _ (by omega)]
  rw [zbl,zbl,e1,e2,e3,ew]
  rw [zbl,zbl] at h1
  rw [a1] at h3
  simp only [BitVec.toNat_zero,Nat.add_zero] at h3
  rw [← h1]
  rw [zeY (n' + 1)]
  generalize zbl (gd u 0#64) n'=S1 at*
  generalize zbl (gd v 0#64) (n' + 1)=S2 at*
  generalize (gd v 0#64 (n' + 1)).toNat=y at*
  generalize (gd v 0#64 (n' + 1+1)).toNat=y2 at*
  generalize val m=vm at*
  generalize c.toNat=c at*
  generalize lo.toNat=lo at*
  generalize hi.toNat=hi at*
  generalize k.toNat=k at*
  rw [zeY] at*
  generalize bN n'=B at*
  grind
end Go.Av
namespace Go.Av
theorem zDi (n:Nat) (m:List W64) (i:W64) (a b:List W64) (hn:0 < n) (hm:m.length=n) (hb:b.length=n) (hi:(1+i.toNat*(gd m 0#64 0).toNat) % 18446744073709551616=0) (hbm:val b < val m):
    ∀ j,zbl (gd (zrv n m i a b j) 0#64) (n+1) < 2*val m∧∃ K,bN j*zbl (gd (zrv n m i a b j) 0#64) (n+1)=zbl (gd a 0#64) j*val b+K*val m
  | 0 => by
    have h0 : ∀ k, k ≤ n + 2 → zbl (gd (tab (n + 2) fun _ => (0#64 : W64)) 0#64) k = 0 := fun k => by
      induction k with
      | zero=>intro _;rfl
      | succ k ih=>intro hk;rw [zbl,ih (by omega),zkQ (by omega)];simp
    show zbl (gd (tab (n+2) fun _=>(0#64:W64)) 0#64) (n+1) < 2*val m∧_
    rw [h0 _ (by omega)]
    refine ⟨by omega,0,?_⟩
    show bN 0*zbl (gd (tab (n+2) fun _=>(0#64:W64)) 0#64) (n+1)=_
    rw [h0 _ (by omega)]
    simp [zbl]
  | j + 1 => by
    obtain ⟨h1,K,h2⟩:=zDi n m i a b hn hm hb hi hbm j
    obtain ⟨k,hk,h3⟩:=zJ3 n m i b (zrv n m i a b j) (gd a 0#64 j) hn hm hb (zoJ n m i a b j) hi
    rw [show zrv n m i a b (j+1)=zGQ n m i b (zrv n m i a b j) (gd a 0#64 j) from rfl]
    have ha:=(gd a 0#64 j).isLt
    have s1:zbl (gd a 0#64) (j+1)=zbl (gd a 0#64) j+(gd a 0#64 j).toNat*bN j:=rfl
    rw [s1,zeY]
    clear s1
    generalize zbl (gd (zGQ n m i b (zrv n m i a b j) (gd a 0#64 j)) 0#64) (n+1)=T' at*
    generalize zbl (gd (zrv n m i a b j) 0#64) (n+1)=T at*
    generalize (gd a 0#64 j).toNat=x at*
    generalize val b=vb at*
    generalize val m=vm at*
    generalize zbl (gd a 0#64) j=S at*
    generalize bN j=P at*
    have q1:x*vb≤18446744073709551615*vb:=Nat.mul_le_mul_right _ (by omega)
    have q2:k*vm≤18446744073709551615*vm:=Nat.mul_le_mul_right _ (by omega)
    refine ⟨by omega,K+P*k,?_⟩
    have e:18446744073709551616*P*T'=P*(18446744073709551616*T'):=by rw [Nat.mul_comm 18446744073709551616 P,Nat.mul_assoc]
    rw [e,h3,Nat.mul_add,Nat.mul_add,h2,Nat.add_mul,Nat.add_mul,Nat.mul_comm x P,Nat.mul_assoc,Nat.mul_assoc]
    omega
def hN (m:Nat):Nat:=(m+1) / 2
@[irreducible] def shN (n m x:Nat):Nat:=x*hN m ^ (64*n) % m
theorem zzS (m e:Nat) (h:m % 2=1):(2*hN m) ^ e % m=1 % m:=by
  have:2*hN m=m+1:=by unfold hN;omega
  rw [this,Nat.pow_mod,Nat.add_mod_left,← Nat.pow_mod,Nat.one_pow]
theorem zNg (n m x r:Nat) (h:m % 2=1) (hr:r < m) (hx:bN n*r % m=x % m):r=shN n m x:=by
  have h1:=zzS m (64*n) h
  have h2:bN n=2 ^ (64*n):=by rw [bN,Nat.pow_mul]
  unfold shN
  have e1:(bN n*r)*hN m ^ (64*n) % m=r:=by
    rw [h2,Nat.mul_right_comm,← Nat.mul_pow,Nat.mul_mod,h1,← Nat.mul_mod,Nat.one_mul,Nat.mod_eq_of_lt hr]
  rw [Nat.mul_mod,hx,← Nat.mul_mod] at e1
  exact e1.symm
theorem zJ5 (n:Nat) (m:List W64) (i:W64) (a b:List W64) (hn:0 < n) (hm:m.length=n) (ha:a.length=n) (hb:b.length=n) (hi:(1+i.toNat*(gd m 0#64 0).toNat) % 18446744073709551616=0) (hbm:val b < val m) (hodd:val m % 2=1):
    zIS n (gd (zrv n m i a b n) 0#64 n).toNat (val ((zrv n m i a b n).take n)) (val m)=shN n (val m) (val a*val b):=by
  obtain ⟨h1,K,h2⟩:=zDi n m i a b hn hm hb hi hbm n
  have hl:=zoJ n m i a b n
  have hvm:val m < bN n:=by rw [← hm];exact zhc m
  rw [← zdq a n (by omega)] at h2
  generalize zrv n m i a b n=t at*
  have e1:zbl (gd t 0#64) n=val (t.take n):=by
    rw [zdq (t.take n) n (by simp;omega)]
    exact zcS n fun k hk => by
      unfold gd
      rw [List.getD_eq_getElem?_getD,List.getD_eq_getElem?_getD,List.getElem?_take_of_lt hk]
  have hvt:val (t.take n) < bN n:=by
    have:=zhc (t.take n)
    rwa [show (t.take n).length=n by simp;omega] at this
  rw [zbl,e1] at h1 h2
  generalize val (t.take n)=v at*
  generalize (gd t 0#64 n).toNat=c at*
  generalize val m=M at*
  generalize val a*val b=X at*
  have key : ∀ r, r < M → (r = v + c * bN n ∨ r + M = v + c * bN n) → r = shN n M X := fun r hr hor => by
    refine zNg n M X r hodd hr ?_
    rcases hor with e | e
    · rw [e,h2,Nat.add_mul_mod_self_right]
    · rw [← e,Nat.mul_add] at h2
      have:=congrArg (· % M) h2
      simpa using this
  unfold zIS
  by_cases hc:c=0
  · subst hc
    rw [Nat.zero_mul,Nat.add_zero] at h1 key
    by_cases hlt:v < M
    · rw [if_pos ⟨rfl,hlt⟩]
      exact key v hlt (.inl rfl)
    · rw [if_neg (by omega), if_neg hlt]
      exact key (v - M) (by omega) (.inr (by omega))
  · have hc1:c=1:=by
      rcases Nat.lt_or_ge c 2 with q | q
      · omega
      · have:2*bN n≤c*bN n:=Nat.mul_le_mul_right _ q
        omega
    subst hc1
    rw [Nat.one_mul] at h1 key
    rw [if_neg (by omega)]
    by_cases hlt:v < M
    · rw [if_pos hlt]
      exact key _ (by omega) (.inr (by omega))
    · omega
end Go.Av
namespace Go.Av
theorem zyW (L:Lim) (h:zab) (a x y c:W64):zag ctx L zga [wd a,wd x,wd y,wd c] h=some (.tup [wd (lnL a x y c),wd (lnH a x y c)],h):=by
  rw [ztF]
  have h0:(0#64:W64).toNat=0:=rfl
  simp [znQ,zau,wd0,zAc,zmq,h0]
  have h1:=a.isLt;have h2:=x.isLt;have h3:=y.isLt;have h4:=c.isLt
  have h5:x.toNat*y.toNat≤18446744073709551615*18446744073709551615:=Nat.mul_le_mul (by omega) (by omega)
  have e1:(x*y).toNat=x.toNat*y.toNat % 18446744073709551616:=by rw [BitVec.toNat_mul]
  constructor
  · congr 1
    apply BitVec.eq_of_toNat_eq
    simp only [lnL,adL,BitVec.toNat_ofNat,e1,h0]
    omega
  · congr 1
    apply BitVec.eq_of_toNat_eq
    simp only [lnH,adL,adH,zNG,BitVec.toNat_ofNat,BitVec.toNat_add,e1,h0]
    generalize x.toNat*y.toNat=m at*
    omega
theorem zDy (c:Bool) (l:List W64) (i:Nat) (h:decide (i < l.length)=true):zbP none 1 (.vsl c (eW l)) (.int .i64 (i:Int))=some (.vptr [wd (gd l 0#64 i)] 0):=by
  have hi:i < l.length:=by simpa using h
  simp [zbP,asI,zJr,hi,gd,List.getD]
abbrev sT (h:zab) (n:Nat):zaa:=sA h.blks.length 0 0 1 (n+2) (some (n+2))
theorem zGU {fr:Fr} {h:zab} {R:Option (AEx × Fr × zab)} (y:zaa) (t b:List W64) (x:W64) (n:Nat) (hr:RdW h y b) (ht:t.length=n+2) (hb:b.length=n) (hn:n < 1000000)
    (hF:run ctx (zau h) (.loop zao) fr (hx h [cW t] [])=R)
    (h8:fr 8=sT h n) (h10:fr 10=wd x) (h11:fr 11=wd 0#64) (h31:fr 31=y) (h32:fr 32=.int .i64 n) (h33:fr 33=.int .i64 0):
    ∃ fr',R=some (.exit 2,fr',hx h [cW (zdf t x b n).1] [])∧fr' 11=wd (zdf t x b n).2∧∀ t,t∉wr zao→fr' t=fr t:=by
  obtain ⟨r1,p,r2,r3⟩:=hr
  obtain ⟨e,fr',h',rfl,⟨rfl,rfl,h2'⟩,hk⟩:=zaj hF n
    (fun k fr hh=>fr 33=.int .i64 k∧fr 11=wd (zdf t x b k).2∧hh=hx h [cW (zdf t x b k).1] [])
    (fun e fr hh=>e=.exit 2∧hh=hx h [cW (zdf t x b n).1] []∧fr 11=wd (zdf t x b n).2)
    ⟨h33,h11,rfl⟩ (by
      rintro k fr1 hh hkN hkeep ⟨g33,g11,rfl⟩
      have g8:=(hkeep 8 (by decide)).trans h8
      have g10:=(hkeep 10 (by decide)).trans h10
      have g31:=(hkeep 31 (by decide)).trans h31
      have g32:=(hkeep 32 (by decide)).trans h32
      by_cases hlt:k < n
      · have w1 : IntKind.i64.wrap ((k : Int) + 1) = k + 1 := wrap_i64 (by omega) (by omega)
        have hl:=zj7 t x b k
        have hst:zdf t x b (k+1)=((zdf t x b k).1.set k (lnL (gd (zdf t x b k).1 0#64 k) x (gd b 0#64 k) (zdf t x b k).2),lnH (gd (zdf t x b k).1 0#64 k) x (gd b 0#64 k) (zdf t x b k).2):=by rw [zdf]
        generalize zdf t x b k=q at*
        obtain ⟨u,c⟩:=q
        simp only at hl g11 hst
        have hrd:=fun L=>r3 k L [] (by omega)
        have hro:=r2 k (by omega)
        simp -implicitDefEqProofs [zao,zau,g8,g10,g11,g31,g32,g33,show (k:Int) < n by omega,hlt,hro,hrd,zfD,hl,ht,show k+1≤n+2 by omega,show k < n+2 by omega,w1,hst,zyW]
      · have : k = n := by omega
        subst this
        simp [zao,g33,g32,g11])
  exact ⟨fr',rfl,h2',hk⟩
theorem zGX {fr:Fr} {h:zab} {R:Option (AEx × Fr × zab)} (m:List W64) (i0:W64) (q0:List W64) (t:List W64) (k0:W64) (n:Nat) (hn0:0 < n) (ht:t.length=n+2) (hm:m.length=n) (hn:n < 1000000)
    (hF:run ctx (zau h) (.loop zaE) fr (hx h [cW t] [])=R)
    (h0:fr 0=modV m i0 q0) (h7:fr 7=.int .i64 n) (h8:fr 8=sT h n) (h11:fr 11=wd (zkI m t k0 0).2) (h15:fr 15=wd k0) (h16:fr 16=.int .i64 1):
    ∃ fr',R=some (.exit 4,fr',hx h [cW (zkI m t k0 (n - 1)).1] [])∧fr' 11=wd (zkI m t k0 (n - 1)).2∧∀ t,t∉wr zaE→fr' t=fr t:=by
  obtain ⟨e,fr',h',rfl,⟨rfl,rfl,h2'⟩,hk⟩:=zaj hF (n - 1)
    (fun k fr hh=>∃ j:Nat,j=k+1∧fr 16=.int .i64 (j:Int)∧fr 11=wd (zkI m t k0 k).2∧hh=hx h [cW (zkI m t k0 k).1] [])
    (fun e fr hh=>e=.exit 4∧hh=hx h [cW (zkI m t k0 (n - 1)).1] []∧fr 11=wd (zkI m t k0 (n - 1)).2)
    ⟨1,rfl,h16,h11,rfl⟩ (by
      rintro k fr1 hh hkN hkeep ⟨j,hj,g16,g11,rfl⟩
      have g0:=(hkeep 0 (by decide)).trans h0
      have g7:=(hkeep 7 (by decide)).trans h7
      have g8:=(hkeep 8 (by decide)).trans h8
      have g15:=(hkeep 15 (by decide)).trans h15
      by_cases hlt:k < n - 1
      · obtain ⟨j2,hj2⟩:∃ j2,j2=j+1:=⟨_,rfl⟩
        have w1:IntKind.i64.wrap ((j:Int)+1)=(j2:Int):=(wrap_i64 (by omega) (by omega)).trans (by omega)
        have w2:IntKind.i64.wrap ((j:Int) - 1)=(k:Int):=(wrap_i64 (by omega) (by omega)).trans (by omega)
        have hl:=zoH m t k0 k
        have hst:zkI m t k0 (k+1)=((zkI m t k0 k).1.set k (lnL (gd (zkI m t k0 k).1 0#64 j) k0 (gd m 0#64 j) (zkI m t k0 k).2),lnH (gd (zkI m t k0 k).1 0#64 j) k0 (gd m 0#64 j) (zkI m t k0 k).2):=by rw [zkI,hj]
        generalize zkI m t k0 k=q at*
        obtain ⟨u,c⟩:=q
        simp only at hl g11 hst
        have hi1:=zfD h.blks.length 0 0 (n+2) j (some (n+2)) (by simp;omega)
        have hi0:=zfD h.blks.length 0 0 (n+2) k (some (n+2)) (by simp;omega)
        have him:=zDy false m j (by simp;omega)
        have hc1:(j:Int) < (n:Int):=by omega
        have b1:j < n+2:=by omega
        have b0:k < n+2:=by omega
        have b3:j≤n+1:=by omega
        have b2:k≤n+1:=by omega
        simp -implicitDefEqProofs [zaE,zau,modV,g0,g7,g8,g11,g15,g16,hc1,hi0,hi1,him,hl,ht,b0,b1,b2,b3,w1,w2,zyW]
        rw [hst]
        exact ⟨hlt,by omega,rfl,rfl⟩
      · have : k = n - 1 := by omega
        subst this
        have hc1:¬(j:Int) < (n:Int):=by omega
        simp [zaE,g16,g7,hc1]
        exact g11)
  exact ⟨fr',rfl,h2',hk⟩
theorem zGY {fr:Fr} {h:zab} {R:Option (AEx × Fr × zab)} (x y:zaa) (m:List W64) (i0:W64) (q0:List W64) (a b:List W64) (n:Nat) (hn0:0 < n) (hm:m.length=n) (ha:a.length=n) (hb:b.length=n) (hn:n < 1000000) (hra:RdW h x a) (hrb:RdW h y b)
    (hF:run ctx (zau h) (.loop zaz) fr (hx h [cW (zrv n m i0 a b 0)] [])=R)
    (h0:fr 0=modV m i0 q0) (h2:fr 2=y) (h7:fr 7=.int .i64 n) (h8:fr 8=sT h n) (h25:fr 25=x) (h26:fr 26=.int .i64 n) (h27:fr 27=.int .i64 0):
    ∃ fr',R=some (.exit 0,fr',hx h [cW (zrv n m i0 a b n)] [])∧∀ t,t∉wr zaz→fr' t=fr t:=by
  obtain ⟨r1,p,r2,r3⟩:=hra
  obtain ⟨e,fr',h',rfl,⟨rfl,rfl⟩,hk⟩:=zaj hF n
    (fun k fr hh=>fr 27=.int .i64 k∧hh=hx h [cW (zrv n m i0 a b k)] [])
    (fun e fr hh=>e=.exit 0∧hh=hx h [cW (zrv n m i0 a b n)] [])
    ⟨h27,rfl⟩ (by
      rintro k fr1 hh hkN hkeep ⟨g27,rfl⟩
      have g0:=(hkeep 0 (by decide)).trans h0
      have g2:=(hkeep 2 (by decide)).trans h2
      have g7:=(hkeep 7 (by decide)).trans h7
      have g8:=(hkeep 8 (by decide)).trans h8
      have g25:=(hkeep 25 (by decide)).trans h25
      have g26:=(hkeep 26 (by decide)).trans h26
      by_cases hlt:k < n
      · have w1 : IntKind.i64.wrap ((k : Int) + 1) = k + 1 := wrap_i64 (by omega) (by omega)
        have hl:=zoJ n m i0 a b k
        have hst:zrv n m i0 a b (k+1)=zGQ n m i0 b (zrv n m i0 a b k) (gd a 0#64 k):=rfl
        have hro:=r2 k (by omega)
        have hrd:=fun L=>r3 k L [] (by omega)
        have hlenb:zwy y=some n:=by rw [hrb.1,hb]
        generalize zrv n m i0 a b k=t at*
        generalize gd a 0#64 k=xx at*
        simp -implicitDefEqProofs [zaz,zau,g0,g2,g7,g8,g25,g26,g27,show (k:Int) < n by omega,hro,hrd,hlenb,wd0]
        generalize hF:run ctx _ (.loop _) _ _=R
        obtain ⟨fr2,rfl,q11,q1⟩:=zGU y t b xx n hrb hl hb hn hF (by simp [g8]) (by simp) (by simp) (by simp) (by simp) (by simp)
        have hlm:(zdf t xx b n).1.length=n+2:=(zj7 _ _ _ _).trans hl
        have hr:zGQ n m i0 b t xx=enG n (zkI m (adG n (zdf t xx b n).1 (zdf t xx b n).2) (gd (adG n (zdf t xx b n).1 (zdf t xx b n).2) 0#64 0*i0) (n - 1)).1 (zkI m (adG n (zdf t xx b n).1 (zdf t xx b n).2) (gd (adG n (zdf t xx b n).1 (zdf t xx b n).2) 0#64 0*i0) (n - 1)).2:=rfl
        rw [hr] at hst
        clear hr
        generalize zdf t xx b n=q at*
        obtain ⟨u,c⟩:=q
        simp only at hlm q11 hst
        obtain ⟨n1,hn1⟩:∃ n1,n1=n+1:=⟨_,rfl⟩
        have w2:IntKind.i64.wrap ((n:Int)+1)=(n1:Int):=(wrap_i64 (by omega) (by omega)).trans (by omega)
        have had:(u.set n (adL (gd u 0#64 n) c 0#64)).set n1 (adH (gd u 0#64 n) c 0#64)=adG n u c:=by rw [hn1];rfl
        have hi0:=zfD h.blks.length 0 0 (n+2) 0 (some (n+2)) (by simp)
        have hin:=zfD h.blks.length 0 0 (n+2) n (some (n+2)) (by simp)
        have hin1:=zfD h.blks.length 0 0 (n+2) n1 (some (n+2)) (by simp;omega)
        have him:=zDy false m 0 (by simp;omega)
        simp only [Int.natCast_zero] at hi0 him
        have b0:n < n+2:=by omega
        have b1:n1 < n+2:=by omega
        have b2:n≤n+1:=by omega
        have b3:n1≤n+1:=by omega
        have hlv:(adG n u c).length=n+2:=(zJ2 n u c).trans hlm
        have hz:(0#64:W64).toNat≤1:=by decide
        generalize hv:adG n u c=v at*
        simp -implicitDefEqProofs [q11,q1,wr,zao,zaz,zgR,zau,modV,g0,g2,g7,g8,hi0,hin,hin1,him,hlm,hlv,hm,b0,b1,b2,b3,w2,wd0,had,zmq,zyW,hn0]
        generalize hF:run ctx _ (.loop _) _ _=R
        obtain ⟨fr3,rfl,p11,p1⟩:=zGX m i0 q0 v (gd v 0#64 0*i0) n hn0 hlv hm hn hF (by simp [q1,wr,zao,zgR,g0,modV]) (by simp [q1,wr,zao,zgR,g7]) (by simp [q1,wr,zao,zgR,g8]) (by simp;rfl) (by simp) (by simp)
        have hlr:(zkI m v (gd v 0#64 0*i0) (n - 1)).1.length=n+2:=(zoH _ _ _ _).trans hlv
        generalize zkI m v (gd v 0#64 0*i0) (n - 1)=q2 at*
        obtain ⟨u2,c2⟩:=q2
        simp only at hlr p11 hst
        obtain ⟨nm,hnm⟩:∃ nm,nm=n - 1:=⟨_,rfl⟩
        have w3:IntKind.i64.wrap ((n:Int) - 1)=(nm:Int):=(wrap_i64 (by omega) (by omega)).trans (by omega)
        have him1:=zfD h.blks.length 0 0 (n+2) nm (some (n+2)) (by simp;omega)
        have b4:nm < n+2:=by omega
        have b5:nm≤n+1:=by omega
        have b6:¬nm=n1:=by omega
        have hen:(u2.set nm (adL (gd u2 0#64 n) c2 0#64)).set n (gd u2 0#64 n1+adH (gd u2 0#64 n) c2 0#64)=enG n u2 c2:=by rw [hn1,hnm];rfl
        have hgs:gd (u2.set nm (adL (gd u2 0#64 n) c2 0#64)) 0#64 n1=gd u2 0#64 n1:=zhY _ _ _ _ b6
        simp -implicitDefEqProofs [p11,p1,q1,wr,zao,zaE,zaz,zgR,zau,g7,g8,g27,hin,hin1,him1,hlr,b0,b1,b2,b3,b4,b5,w1,w2,w3,wd0,zmq,hgs,hen]
        rw [hst]
        exact ⟨hlt,rfl⟩
      · have : k = n := by omega
        subst this
        simp [zaz,g27,g26])
  exact ⟨fr',rfl,hk⟩
end Go.Av
namespace Go.Av
theorem gdT {n:Nat} (l:List W64) (i:Nat) (h:i < n):gd (l.take n) 0#64 i=gd l 0#64 i:=by
  unfold gd
  rw [List.getD_eq_getElem?_getD,List.getD_eq_getElem?_getD,List.getElem?_take_of_lt h]
theorem zJ8 (h:zab) (t:List W64) (n m:Nat) (cap:Option Nat) (ht:t.length=m) (hn:n≤m):RdW (hx h [cW t] []) (sA h.blks.length 0 0 1 n cap) (t.take n):=by
  refine ⟨by simp [zwy,sA];omega,fun i=>pA h.blks.length 0 i,fun i hi=>?_,fun i bs ts hi=>?_⟩
  · have := zfD h.blks.length 0 0 n i cap (by simp at hi ⊢; omega)
    simpa using this
  · rw [zFB, gdT t i (by simp at hi; omega)]
    simp at hi
    simp [show i < t.length by omega]
theorem zJ9 (h:zab) (t:List W64) (nt k n m:Nat) (cap:Option Nat) (ht:t.length=m) (hn:n≤m):frz (hx h [cW t] []) h.blks.length nt (k+1) (sA h.blks.length 0 0 1 n cap)=some (.vsl false (eW (t.take n))):=by
  have:=zJj h [cW t] [] nt k 0 n cap .u64 (zv2 t) (by rw [← zs7];rfl) (by simp;omega)
  rw [this,zxV,← zs8]
theorem zlG (L:Lim) (h:zab) (x y:zaa) (m:List W64) (i0:W64) (q0 a b:List W64) (n:Nat) (hn0:0 < n) (hm:m.length=n) (ha:a.length=n) (hb:b.length=n) (hn:n < 100000) (hra:RdW h x a) (hrb:RdW h y b)
    (hi:(1+i0.toNat*(gd m 0#64 0).toNat) % 18446744073709551616=0) (hbm:val b < val m) (hodd:val m % 2=1):
    zag ctx L zaH [modV m i0 q0,x,y] h=some (.vsl false (eW (wN n (shN n (val m) (val a*val b)))),h):=by
  rw [zje]
  have hall:=zJ5 n m i0 a b hn0 hm ha hb hi hbm hodd
  have hl:=zoJ n m i0 a b n
  have hpm:=PtM.modV (hx h [cW (zrv n m i0 a b n)] []) m i0 q0
  obtain ⟨N2,hN2⟩:∃ N2,N2=n+2:=⟨_,rfl⟩
  have w1:IntKind.i64.wrap ((n:Int)+2)=(N2:Int):=(wrap_i64 (by omega) (by omega)).trans (by omega)
  have e0:cW (tab N2 fun _=>0#64)=cW (zrv n m i0 a b 0):=by rw [hN2];rfl
  have hbig:(N2:Int) < 274877906944:=by omega
  simp -implicitDefEqProofs [zdN,zau,modV,hm,hra.1,ha,w1,zlx,zat,hbig,zgd,zbk,e0]
  generalize hF:run ctx _ (.loop _) _ _=R
  subst hN2
  obtain ⟨fr1,rfl,hk1⟩:=zGY x y m i0 q0 a b n hn0 hm ha hb (by omega) hra hrb hF (by simp [modV]) (by simp) (by simp) (by simp) (by simp) (by simp) (by simp)
  generalize zrv n m i0 a b n=t at*
  have hsl:=zwK 1 h.blks.length 0 (n+2) n (some (n+2)) .i64 (by simp;omega)
  have hin:=zfD h.blks.length 0 0 (n+2) n (some (n+2)) (by simp)
  have b0:n < n+2:=by omega
  have b2:n≤n+1:=by omega
  have hru:=zJ8 h t n (n+2) (some (n+2)) hl (by omega)
  have hfz:=fun k=>zJ9 h t h.toks.length k n (n+2) (some (n+2)) hl (by omega)
  have hlt:(t.take n).length=n:=by simp;omega
  generalize hc:gd t 0#64 n=c at*
  by_cases hca:c=0#64∧val (t.take n) < val m
  · have hless := fun L => zwZ L (hx h [cW t] []) (modV m i0 q0) _ (sA h.blks.length 0 0 1 n (some (n + 2))) m (t.take n) hpm hru (fun h1 => zAJ h1 _ _ 11 _ 0 1 n _ (by simp [zan])) ⟨by omega, by omega⟩ hca.2
    obtain ⟨hc0,hum⟩:=hca
    have hres:wN n (shN n (val m) (val a*val b))=t.take n:=by
      rw [← hall]
      unfold zIS
      rw [if_pos ⟨by rw [hc0];rfl,hum⟩]
      exact zrQ hlt
    subst hc0
    simp only [modV] at hless
    simp -implicitDefEqProofs [hk1,wr,zao,zaE,zaz,zgR,hsl,hin,hl,b0,b2,hc,hless,hfz,hres]
  · have hless := fun L => zw0 L (hx h [cW t] []) (modV m i0 q0) _ m (t.take n) c hpm hru n ⟨hlt, hm⟩ hn0 (by omega) hca
    have hres:(if val (t.take n) < val m then val (t.take n)+bN n - val m else val (t.take n) - val m)=shN n (val m) (val a*val b):=by
      have hnn:¬(c.toNat=0∧val (t.take n) < val m):=fun q=>hca ⟨BitVec.eq_of_toNat_eq q.1,q.2⟩
      rw [← hall,zIS,if_neg hnn]
    rw [hres] at hless
    simp only [modV] at hless
    simp -implicitDefEqProofs [hk1,wr,zao,zaE,zaz,zgR,hsl,hin,hl,b0,b2,hc,hless]
end Go.Av
namespace Go.Av
@[irreducible] def toM (n m y:Nat):Nat:=y*2 ^ (64*n) % m
theorem zDJ (n m:Nat) (h:m % 2=1):2 ^ (64*n)*hN m ^ (64*n) % m=1 % m:=by rw [← Nat.mul_pow];exact zzS m _ h
theorem mod_one (a b m:Nat) (h:b % m=1 % m):a*b % m=a % m:=by rw [Nat.mul_mod,h,← Nat.mul_mod,Nat.mul_one]
theorem zDH (a b c m:Nat):a % m*(b % m)*c % m=a*b*c % m:=by
  rw [Nat.mul_mod (a % m*(b % m)),← Nat.mul_mod a b,← Nat.mul_mod]
theorem zDK (n m y z:Nat) (h:m % 2=1):shN n m (toM n m y*toM n m z)=toM n m (y*z):=by
  unfold shN toM
  rw [zDH,show y*2 ^ (64*n)*(z*2 ^ (64*n))*hN m ^ (64*n)=y*z*2 ^ (64*n)*(2 ^ (64*n)*hN m ^ (64*n)) by ac_rfl]
  exact mod_one _ _ _ (zDJ n m h)
theorem zIY (n m y:Nat) (h:m % 2=1):shN n m (y % m*(2 ^ (128*n) % m))=toM n m y:=by
  unfold shN toM
  rw [zDH,show 2 ^ (128*n)=2 ^ (64*n)*2 ^ (64*n) by rw [← Nat.pow_add];congr 1;omega,show y*(2 ^ (64*n)*2 ^ (64*n))*hN m ^ (64*n)=y*2 ^ (64*n)*(2 ^ (64*n)*hN m ^ (64*n)) by ac_rfl]
  exact mod_one _ _ _ (zDJ n m h)
theorem zKg (n m:Nat) (h:m % 2=1):shN n m (1*(2 ^ (128*n) % m))=toM n m 1:=by
  rw [← zIY n m 1 h]
  unfold shN
  rw [zDH,Nat.mul_comm 1,Nat.mul_one,Nat.one_mul,Nat.mod_mul_mod]
theorem zKi (n m y:Nat) (h:m % 2=1):shN n m (toM n m y*1)=y % m:=by
  unfold shN toM
  rw [Nat.mul_one,Nat.mod_mul_mod,Nat.mul_assoc]
  exact mod_one _ _ _ (zDJ n m h)
theorem zz4 (n m y:Nat) (h:0 < m):toM n m y < m:=by unfold toM;exact Nat.mod_lt _ h
theorem zG7 (v e i:Nat):v ^ (e / 2 ^ i)=v ^ (e / 2 ^ (i+1))*v ^ (e / 2 ^ (i+1))*(if e / 2 ^ i % 2=1 then v else 1):=by
  have h1:e / 2 ^ (i+1)=e / 2 ^ i / 2:=by rw [Nat.pow_succ,Nat.div_div_eq_div_mul]
  rw [h1]
  generalize e / 2 ^ i=x
  rw [← Nat.pow_add]
  split
  · rename_i hb
    rw [← Nat.pow_succ]
    congr 1;omega
  · rw [Nat.mul_one]
    congr 1;omega
theorem zDN {fr:Fr} {h:zab} {R:Option (AEx × Fr × zab)} (y:zaa) (m:List W64) (i0:W64) (q0 e:List W64) (v n:Nat) (one:List W64) (hn0:0 < n) (hm:m.length=n) (hn:n < 100000) (hre:RdW h y e) (hel:e.length < 1000000)
    (hi:(1+i0.toNat*(gd m 0#64 0).toNat) % 18446744073709551616=0) (hodd:val m % 2=1)
    (hF:run ctx (zau h) (.loop zbc) fr (hx h [one.map wd] [])=R)
    (h0:fr 0=modV m i0 q0) (h2:fr 2=y) (h8:fr 8=.vsl false (eW (wN n (toM n (val m) v)))) (h9:fr 9=.vsl false (eW (wN n (toM n (val m) 1)))) (h10:fr 10=.int .i64 (((bl (val e):Nat):Int) - 1)):
    ∃ fr',R=some (.exit 0,fr',hx h [one.map wd] [])∧fr' 9=.vsl false (eW (wN n (toM n (val m) (v ^ val e))))∧∀ t,t∉wr zbc→fr' t=fr t:=by
  obtain ⟨r1,pp,r2,r3⟩:=hre
  have hN:bl (val e)≤64*e.length:=zBg (by rw [← zus];exact zhc e)
  have hvN:val e / 2 ^ bl (val e)=0:=Nat.div_eq_of_lt (zM4 _)
  have h0m:0 < val m:=by omega
  have hvm:val m < bN n:=by rw [← hm];exact zhc m
  have hval:∀ z,val (wN n (toM n (val m) z))=toM n (val m) z:=fun z=>zja n _ (Nat.lt_trans (zz4 n _ z h0m) hvm)
  obtain ⟨ex,fr',h',rfl,⟨rfl,rfl,h9'⟩,hk⟩:=zaj hF (bl (val e))
    (fun k fr hh=>fr 10=.int .i64 (((bl (val e):Nat):Int) - 1 - k)∧hh=hx h [one.map wd] []∧fr 9=.vsl false (eW (wN n (toM n (val m) (v ^ (val e / 2 ^ (bl (val e) - k)))))))
    (fun ex fr hh=>ex=.exit 0∧hh=hx h [one.map wd] []∧fr 9=.vsl false (eW (wN n (toM n (val m) (v ^ val e)))))
    ⟨by rw [h10]; simp, rfl, by rw [Nat.sub_zero, hvN, Nat.pow_zero]; exact h9⟩ (by
      rintro k fr1 hh hkN hkeep ⟨g10,rfl,g9⟩
      have g0:=(hkeep 0 (by decide)).trans h0
      have g2:=(hkeep 2 (by decide)).trans h2
      have g8:=(hkeep 8 (by decide)).trans h8
      by_cases hlt:k < bl (val e)
      · obtain ⟨i,hii⟩:∃ i:Nat,i=bl (val e) - 1 - k:=⟨_,rfl⟩
        have e1:bl (val e) - k=i+1:=by omega
        have e2:bl (val e) - (k+1)=i:=by omega
        have hpb:=zG7 v (val e) i
        have hvb:=zDo e i
        have hil:i / 64 < e.length:=by omega
        rw [e1] at g9
        generalize v ^ (val e / 2 ^ (i+1))=z at*
        have hsq:=fun L=>zlG L (hx h [one.map wd] []) (.vsl false (eW (wN n (toM n (val m) z)))) (.vsl false (eW (wN n (toM n (val m) z)))) m i0 q0 _ _ n hn0 hm (zom _ _) (zom _ _) hn (RdW.vsl _ _ _) (RdW.vsl _ _ _) hi (by rw [hval];exact zz4 n _ z h0m) hodd
        simp only [hval,zDK n (val m) _ _ hodd] at hsq
        have hmu:=fun L=>zlG L (hx h [one.map wd] []) (.vsl false (eW (wN n (toM n (val m) (z*z))))) (.vsl false (eW (wN n (toM n (val m) v)))) m i0 q0 _ _ n hn0 hm (zom _ _) (zom _ _) hn (RdW.vsl _ _ _) (RdW.vsl _ _ _) hi (by rw [hval];exact zz4 n _ v h0m) hodd
        simp only [hval,zDK n (val m) _ _ hodd] at hmu
        have g10':fr1 10=.int .i64 (i:Int):=by rw [g10];congr 1;omega
        have w1:IntKind.i64.wrap ((i:Int) - 1)=((bl (val e):Nat):Int) - 1 - ((k+1:Nat):Int):=(wrap_i64 (by omega) (by omega)).trans (by omega)
        have t1:(i:Int).tdiv 64=((i / 64:Nat):Int):=zyC i 64
        have t2:=zit (i / 64) (by omega)
        have t3:(i:Int).tmod 64=((i % 64:Nat):Int):=zFj i 64
        have hro:=r2 (i / 64) hil
        have hrd:=fun L=>r3 (i / 64) L [] hil
        have hsh:=znj (gd e 0#64 (i / 64)) .i64 (i % 64) (by simp;omega)
        have hand:zew .and (wd (gd e 0#64 (i / 64) >>> (i % 64))) (wd 1#64)=some (wd (gd e 0#64 (i / 64) >>> (i % 64)&&&1#64)):=zpn _ _
        have hbb:(gd e 0#64 (i / 64) >>> (i % 64)&&&1#64==1#64)=decide (val e / 2 ^ i % 2=1):=by
          rw [← hvb]
          rw [Bool.eq_iff_iff]
          simp only [beq_iff_eq,decide_eq_true_eq]
          constructor
          · intro q;rw [q];rfl
          · intro q;exact BitVec.eq_of_toNat_eq q
        generalize gd e 0#64 (i / 64) >>> (i % 64)&&&1#64=bit at*
        generalize gd e 0#64 (i / 64) >>> (i % 64)=sh at*
        generalize gd e 0#64 (i / 64)=wq at*
        generalize i % 64=ir at*
        generalize i / 64=iq at*
        by_cases hbit:val e / 2 ^ i % 2=1
        · rw [if_pos hbit] at hpb
          rw [decide_eq_true hbit] at hbb
          simp -implicitDefEqProofs [zbc,zau,g0,g2,g8,g9,g10',show (0:Int)≤(i:Int) by omega,t1,t2,t3,zlY,zi0,hro,hrd,hsh,wd1,hand,zpU,hbb,hsq,hmu,w1, -zdO, -zlZ, -zpn,e2,hpb]
          exact hlt
        · rw [if_neg hbit,Nat.mul_one] at hpb
          rw [decide_eq_false hbit] at hbb
          simp -implicitDefEqProofs [zbc,zau,g0,g2,g8,g9,g10',show (0:Int)≤(i:Int) by omega,t1,t2,t3,zlY,zi0,hro,hrd,hsh,wd1,hand,zpU,hbb,hsq,hmu,w1, -zdO, -zlZ, -zpn,e2,hpb]
          exact hlt
      · have : k = bl (val e) := by omega
        subst this
        have hz:((bl (val e):Nat):Int) - 1 - ((bl (val e):Nat):Int)= -1:=by omega
        rw [hz] at g10
        rw [Nat.sub_self,Nat.pow_zero,Nat.div_one] at g9
        simp [zbc,g10]
        exact g9)
  exact ⟨fr',rfl,h9',hk⟩
theorem zKj (L:Lim) (h:zab) (x y:zaa) (m:List W64) (i0:W64) (a e:List W64) (n:Nat) (hn0:0 < n) (hm:m.length=n) (hn:n < 100000) (hra:RdW h x a) (hal:a.length < 1000000) (hre:RdW h y e) (hel:e.length < 1000000)
    (hi:(1+i0.toNat*(gd m 0#64 0).toNat) % 18446744073709551616=0) (hodd:val m % 2=1) (h1m:1 < val m):
    zag ctx L zbn [modV m i0 (wN n (zyr (val m) (128*n))),x,y] h=some (.vsl false (eW (wN n (val a ^ val e % val m))),h):=by
  rw [zlv,show zyr (val m) (128*n)=2 ^ (128*n) % val m from rfl]
  have h0m:0 < val m:=by omega
  have hvm:val m < bN n:=by rw [← hm];exact zhc m
  have hval:∀ z,val (wN n (toM n (val m) z))=toM n (val m) z:=fun z=>zja n _ (Nat.lt_trans (zz4 n _ z h0m) hvm)
  have hvs:val (wN n (2 ^ (128*n) % val m))=2 ^ (128*n) % val m:=zja n _ (Nat.lt_trans (Nat.mod_lt _ h0m) hvm)
  have hvr:val (wN n (val a % val m))=val a % val m:=zja n _ (Nat.lt_trans (Nat.mod_lt _ h0m) hvm)
  have hv1:val (wN n 1)=1:=zja n 1 (by omega)
  have hset:=zw8 n hn0
  generalize hsq:wN n (2 ^ (128*n) % val m)=sq at*
  have hsl:sq.length=n:=by rw [← hsq];simp
  have hpm:=PtM.modV (hx h [cW (wN n 1)] []) m i0 sq
  have hR:=fun L=>zDx L (hx h [cW (wN n 1)] []) (modV m i0 sq) x m a hpm (hra.ext _ _) hal ⟨by omega,by omega⟩ h0m
  rw [hm] at hR
  have ho:RdW (hx h [cW (wN n 1)] []) (sA h.blks.length 0 0 1 n (some n)) (wN n 1):=RdW.sA [] 0 n _ _ (by simp) rfl
  have s1:=fun L=>zlG L (hx h [cW (wN n 1)] []) (.vsl false (eW (wN n (val a % val m)))) (.vsl false (eW sq)) m i0 sq _ _ n hn0 hm (zom _ _) hsl hn (RdW.vsl _ _ _) (RdW.vsl _ _ _) hi (by rw [hvs];exact Nat.mod_lt _ h0m) hodd
  simp only [hvr,hvs,zIY n (val m) _ hodd] at s1
  have s2:=fun L=>zlG L (hx h [cW (wN n 1)] []) (sA h.blks.length 0 0 1 n (some n)) (.vsl false (eW sq)) m i0 sq _ _ n hn0 hm (zom _ _) hsl hn ho (RdW.vsl _ _ _) hi (by rw [hvs];exact Nat.mod_lt _ h0m) hodd
  simp only [hv1,hvs,zKg n (val m) hodd] at s2
  have s3:=fun L=>zlG L (hx h [cW (wN n 1)] []) (.vsl false (eW (wN n (toM n (val m) (val a ^ val e))))) (sA h.blks.length 0 0 1 n (some n)) m i0 sq _ _ n hn0 hm (zom _ _) (zom _ _) hn (RdW.vsl _ _ _) ho hi (by rw [hv1];exact h1m) hodd
  simp only [hv1,hval,zKi n (val m) _ hodd] at s3
  have hB:=fun L=>zDq L (hx h [cW (wN n 1)] []) y e (hre.ext _ _) hel
  have hN:bl (val e)≤64*e.length:=zBg (by rw [← zus];exact zhc e)
  have w1:IntKind.i64.wrap (((bl (val e):Nat):Int) - 1)=((bl (val e):Nat):Int) - 1:=wrap_i64 (by omega) (by omega)
  have hbig:(n:Int) < 274877906944:=by omega
  have hi0:=zfD h.blks.length 0 0 n 0 (some n) (by simpa using hn0)
  simp only [Int.natCast_zero] at hi0
  simp only [modV] at hR s1 s2 s3
  have hcw:cW (wN n 1)=(wN n 1).map wd:=rfl
  simp -implicitDefEqProofs [zfw,zau,modV,hm,zlx,zat,hbig,zgd,zbk,hi0,hn0,show 1≤n by omega,wd1,hset,hR,s1,s2,hB,w1]
  generalize hF:run ctx _ (.loop _) _ _=R
  obtain ⟨fr1,rfl,h9,hk1⟩:=zDN y m i0 sq e (val a) n (wN n 1) hn0 hm hn hre hel hi hodd hF (by simp [modV]) (by simp) (by simp) (by simp) (by simp)
  rw [← hcw]
  simp -implicitDefEqProofs [h9,hk1,wr,zbc,zgR,s3]
end Go.Av
namespace Go.Av
@[irreducible] def pwM (a e m:Nat):Nat:=a ^ e % m
def gW:List W64:=[18446744073709551615#64,17603518614768072224#64,16466767132611215046#64,5755940542857986629#64,3470879405153129527#64,17263733006627652379#64,5857503583518590173#64,147421033984662306#64,2955010104097229940#64,14179128828124470481#64,14488038916154245684#64,18446744073709551615#64]
def qW:List W64:=[9223372036854775807#64,8801759307384036112#64,17456755603160383331#64,12101342308283769122#64,10958811739431340571#64,17855238540168601997#64,2928751791759295086#64,73710516992331153#64,10700877088903390778#64,7089564414062235240#64,16467391494931898650#64,9223372036854775807#64]
theorem zHf:cW gW=[.int .u64 18446744073709551615,.int .u64 17603518614768072224,.int .u64 16466767132611215046,.int .u64 5755940542857986629,.int .u64 3470879405153129527,.int .u64 17263733006627652379,.int .u64 5857503583518590173,.int .u64 147421033984662306,.int .u64 2955010104097229940,.int .u64 14179128828124470481,.int .u64 14488038916154245684,.int .u64 18446744073709551615]:=rfl
theorem zq7:gW.length=12∧1 < val gW∧gd gW 0#64 0&&&1#64≠0#64∧gd gW 0#64 (gW.length - 1)≠0#64∧val gW % 2=1∧(1+(-(ztv (gd gW 0#64 0) 6)).toNat*(gd gW 0#64 0).toNat) % 18446744073709551616=0:=by
  refine ⟨rfl,by decide +kernel,by decide +kernel,by decide +kernel,by decide +kernel,by decide +kernel⟩
theorem zBv:qW.length=12∧1 < val qW∧gd qW 0#64 0&&&1#64≠0#64∧gd qW 0#64 (qW.length - 1)≠0#64∧val qW % 2=1∧(1+(-(ztv (gd qW 0#64 0) 6)).toNat*(gd qW 0#64 0).toNat) % 18446744073709551616=0:=by
  refine ⟨rfl,by decide +kernel,by decide +kernel,by decide +kernel,by decide +kernel,by decide +kernel⟩
theorem zxj (L:Lim) (h:zab):zag ctx L zgA [] h=some (.agg (cW gW),h):=by
  rw [zrP]
  simp [zlS,zau,zaV,zaA,zbF,zah,zaf,zjS,zHf,zaa.cells,zaa.okV,setAt]
@[irreducible] def sqW (m:List W64):List W64:=wN 12 (zyr (val m) (128*12))
theorem zI4 (m:List W64):wN 12 (zyr (val m) (128*12))=sqW m:=by unfold sqW;exact rfl
def rgV (m:List W64):zaa:=.vptr [modV m (-(ztv (gd m 0#64 0) 6)) (sqW m)] 0
theorem zvB (n:Nat) (l:List W64) (hl:l.length=n):zc0 (.arr n) 1 (.vptr (cW l) 0) none none none=some (.vsl true (eW l)):=by
  have e:=zmv n (cW l) (by simpa using hl)
  have e2:(cW l).map (fun c=>[c])=eW l:=by simp [cW,eW]
  rw [e2] at e
  simp [zc0,zio,hl,e,zwz,List.take_of_length_le]
theorem zD3 (h:zab) (nb nt n:Nat) (m:List W64) (i:W64) (q:List W64):frz h nb nt (n+1) (.vptr [modV m i q] 0)=some (.vptr [modV m i q] 0):=by
  have hu:zap nb nt [modV m i q]=true:=by simp [zap,modV,zaa.under];rfl
  simp only [frz,zK7,hu,if_true,Option.map_some]
theorem zz8 (L:Lim) (h:zab) (m:List W64) (hm:m.length=12) (h1:1 < val m) (h2:gd m 0#64 0&&&1#64≠0#64) (h3:gd m 0#64 (m.length - 1)≠0#64):zag ctx L zh5 [.agg (cW m)] h=some (rgV m,h):=by
  rw [ztC]
  have hsl:=zvB 12 m hm
  have hbox:znl (.agg (cW m))=some (.vptr (cW m) 0):=rfl
  have hne:eqA .slc (.vsl true (eW m)) .nsl=some false:=by
    cases m with
    | nil=>simp at hm
    | cons x m=>rfl
  have hN:=fun L h=>zNn L h (.vsl true (eW m)) m (LsW.vsl _ _ _) hne (by omega) h1 h2 h3 (by omega)
  rw [hm] at hN
  rw [zI4] at hN
  unfold rgV
  generalize -(ztv (gd m 0#64 0) 6)=iv at*
  generalize sqW m=sq at*
  have hb2:znl (.agg [modV m iv sq])=some (.vptr [modV m iv sq] 0):=rfl
  have hfi:zaA [zaa.nilp] [(0,1,modV m iv sq)]=some [modV m iv sq]:=rfl
  have hf:=fun hh nb nt n=>zD3 hh nb nt n m iv sq
  generalize modV m iv sq=mv at*
  simp -implicitDefEqProofs [znL,hbox,hsl,hN,hfi,hb2,hf]
theorem zD5 (L:Lim) (h:zab):zag ctx L ziD [] h=some (rgV gW,h):=by
  rw [zsL]
  have hR:=fun L h=>zz8 L h gW zq7.1 zq7.2.1 zq7.2.2.1 zq7.2.2.2.1
  have hf:∀ hh nb nt n,frz hh nb nt (n+1) (rgV gW)=some (rgV gW):=fun hh nb nt n=>zD3 hh nb nt n _ _ _
  generalize rgV gW=r at*
  simp -implicitDefEqProofs [zly,zxj,hR,hf]
end Go.Av
namespace Go.Av
def hfK (q:List W64):Nat→List W64 × W64
  | 0=>(q,0#64)
  | k+1=>((hfK q k).1.set (11 - k) (gd (hfK q k).1 0#64 (11 - k) >>> 1|||(hfK q k).2 <<< 63),gd (hfK q k).1 0#64 (11 - k)&&&1#64)
@[simp] theorem zEc (q:List W64):∀ k,(hfK q k).1.length=q.length
  | 0=>rfl
  | k+1=>by simp [hfK,zEc q k]
theorem zKu:(hfK gW 12).1=qW:=by decide +kernel
theorem zEa {fr:Fr} {h:zab} {R:Option (AEx × Fr × zab)} (q:List W64) (hq:q.length=12)
    (hF:run ctx (zau h) (.loop zdZ) fr (hx h [cW q] [])=R) (h1:fr 1=pA h.blks.length 0 0) (h2:fr 2=wd 0#64) (h3:fr 3=.int .i64 11):
    ∃ fr',R=some (.exit 0,fr',hx h [cW (hfK q 12).1] [])∧fr' 1=fr 1:=by
  obtain ⟨e,fr',h',rfl,⟨rfl,rfl⟩,hk⟩:=zaj hF 12
    (fun k fr hh=>fr 3=.int .i64 (11 - (k:Int))∧fr 2=wd (hfK q k).2∧hh=hx h [cW (hfK q k).1] [])
    (fun e fr hh=>e=.exit 0∧hh=hx h [cW (hfK q 12).1] [])
    ⟨by simpa using h3, h2, rfl⟩ (by
      rintro k fr1 hh hkN hkeep ⟨g3,g2,rfl⟩
      have g1:=(hkeep 1 (by decide)).trans h1
      by_cases hlt:k < 12
      · obtain ⟨i,hi⟩:∃ i,i=11 - k:=⟨_,rfl⟩
        have g3':fr1 3=.int .i64 (i:Int):=by rw [g3];congr 1;omega
        have w1:IntKind.i64.wrap ((i:Int) - 1)=11 - ((k+1:Nat):Int):=(wrap_i64 (by omega) (by omega)).trans (by omega)
        have hl:=(zEc q k).trans hq
        have hst:hfK q (k+1)=((hfK q k).1.set i (gd (hfK q k).1 0#64 i >>> 1|||(hfK q k).2 <<< 63),gd (hfK q k).1 0#64 i&&&1#64):=by rw [hfK,← hi]
        generalize hfK q k=u at*
        obtain ⟨u,c⟩:=u
        simp only at hl g2 hst
        have s1:=znj (gd u 0#64 i) .u64 1 (by decide)
        have s2:=zxY c .u64 63 (by decide)
        simp only [Int.cast_ofNat_Int,Int.natCast_one,wd1] at s1 s2
        have s3:zew .and (wd (gd u 0#64 i)) (wd 1#64)=some (wd (gd u 0#64 i&&&1#64)):=zpn _ _
        have hia:=zgb 12 1 0 h.blks.length 0 i .i64 (by simp;omega)
        simp -implicitDefEqProofs [zdZ,zau,g1,g2,g3',show (0:Int)≤(i:Int) by omega,zgb,show i < 12 by omega,show i≤11 by omega,hl,s1,s2,s3,wd1,w1, -zdO, -zl0, -zlZ, -zpn,hst]
        omega
      · have : k = 12 := by omega
        subst this
        simp [zdZ,g3])
  exact ⟨fr',rfl,hk 1 (by decide)⟩
theorem zKw (L:Lim) (h:zab):zag ctx L zeO [] h=some (rgV qW,h):=by
  rw [znU]
  have hR:=fun L h=>zz8 L h qW zBv.1 zBv.2.1 zBv.2.2.1 zBv.2.2.2.1
  have hf:∀ hh nb nt n,frz hh nb nt (n+1) (rgV qW)=some (rgV qW):=fun hh nb nt n=>zD3 hh nb nt n _ _ _
  generalize rgV qW=r at*
  have hg:gW.length=12:=rfl
  simp -implicitDefEqProofs [zgT,zau,zxj,zbk,zeM,zbF,zah,zaf,hg,wd0]
  generalize hF:run ctx _ (.loop _) _ _=R
  obtain ⟨fr1,rfl,k1⟩:=zEa gW rfl hF (by simp) (by simp) (by simp)
  rw [zKu]
  have hq:qW.length=12:=rfl
  simp -implicitDefEqProofs [k1,zaf,hq,hR,hf]
theorem zxm (L:Lim) (h:zab) (m:List W64) (i0:W64) (q0:List W64) (hm:0 < m.length∧m.length < 1000):zag ctx L zbO [modV m i0 q0] h=some (.vsl false (eW m),h):=by
  rw [zjW]
  have hne:eqA .slc (.vsl false (eW m)) .nsl=some false:=by
    cases m with
    | nil=>simp at hm
    | cons x m=>rfl
  have hc:=fun L H=>zzW L H (.vsl false (eW m)) m (LsW.vsl _ _ _) hne ⟨hm.1,by omega⟩
  simp -implicitDefEqProofs [zet,modV,hc]
theorem zHo (L:Lim) (h:zab) (m:List W64) (hm:m.length=12):zag ctx L zeP [rgV m] h=some (.agg (cW m),h):=by
  rw [znV]
  have hw:=fun L h i q=>zxm L h m i q (by omega)
  have h2a:=zxc 12 false m (by decide) (by omega)
  rw [List.take_of_length_le (by omega)] at h2a
  simp -implicitDefEqProofs [zgU,zau,rgV,hw,h2a,zbk,zeM,zbF,zah,zaf,hm]
theorem zNK (L:Lim) (h:zab) (m:List W64) (a e:List W64) (hm:m.length=12) (ha:a.length=12) (he:e.length=12) (h1:1 < val m) (hodd:val m % 2=1) (hi:(1+(-(ztv (gd m 0#64 0) 6)).toNat*(gd m 0#64 0).toNat) % 18446744073709551616=0):
    zag ctx L zoX [.fn (.func zbn) [modV m (-(ztv (gd m 0#64 0) 6)) (sqW m)] [],.agg (cW a),.agg (cW e)] h=some (.agg (cW (wN 12 (pwM (val a) (val e) (val m)))),h):=by
  rw [zwJ]
  have s1:=zvB 12 a ha
  have s2:=zvB 12 e he
  have b1:znl (.agg (cW a))=some (.vptr (cW a) 0):=rfl
  have b2:znl (.agg (cW e))=some (.vptr (cW e) 0):=rfl
  have hE:=fun L H=>zKj L H (.vsl true (eW a)) (.vsl true (eW e)) m (-(ztv (gd m 0#64 0) 6)) a e 12 (by decide) hm (by decide) (RdW.vsl _ _ _) (by omega) (RdW.vsl _ _ _) (by omega) hi hodd h1
  have hp:val a ^ val e % val m=pwM (val a) (val e) (val m):=by unfold pwM;rfl
  rw [hp,zI4] at hE
  generalize pwM (val a) (val e) (val m)=p at*
  generalize -(ztv (gd m 0#64 0) 6)=iv at*
  generalize sqW m=sq at*
  have hfz:∀ h,fzA h (.fn (.func zbn) [modV m iv sq] [])=some (.fn (.func zbn) [modV m iv sq] [],false):=fun h=>by simp [fzA]
  have h2a:=zxc 12 false (wN 12 p) (by decide) (by simp)
  rw [List.take_of_length_le (by simp)] at h2a
  simp only [modV] at hE hfz ⊢
  simp -implicitDefEqProofs [zsx,zau,hfz,b1,b2,s1,s2,hE,h2a,zbk,zeM,zbF,zah,zaf]
end Go.Av
namespace Go.Av
theorem zHt (L:Lim) (h:zab) (m a e:List W64) (hm:m.length=12) (ha:a.length=12) (he:e.length=12) (h1:1 < val m) (hodd:val m % 2=1) (hi:(1+(-(ztv (gd m 0#64 0) 6)).toNat*(gd m 0#64 0).toNat) % 18446744073709551616=0):
    zag ctx L zft [rgV m,.agg (cW a),.agg (cW e)] h=some (.agg (cW (wN 12 (pwM (val a) (val e) (val m)))),h):=by
  rw [zpg]
  have b1:znl (.agg (cW a))=some (.vptr (cW a) 0):=rfl
  have b2:znl (.agg (cW e))=some (.vptr (cW e) 0):=rfl
  have hof:=fun L h=>zNK L h m a e hm ha he h1 hodd hi
  unfold rgV
  generalize pwM (val a) (val e) (val m)=p at*
  generalize hmv:modV m (-(ztv (gd m 0#64 0) 6)) (sqW m)=mv at*
  have hp:(wN 12 p).length=12:=by simp
  generalize wN 12 p=r at*
  simp -implicitDefEqProofs [zhS,zau,b1,b2,hof,ha,he,hp,zaf,zbk,zeM,zbF,zah]
theorem zHu (L:Lim) (h:zab) (m:List W64) (c:Bool) (b:List Int) (hm:m.length=12) (hb:inB b) (hl:b.length < 1000000):
    zag ctx L zeN [rgV m,.vsl c (eI .u8 b)] h=some (if b.length=96 then (if leN b < val m then .tup [.agg (cW (wN 12 (leN b))),.int .i64 0] else .tup [.agg (cW (wN 12 0)),.int .i64 4]) else .tup [.agg (cW (wN 12 0)),.int .i64 1],h):=by
  rw [znT]
  have hz:cW (tab 12 fun _=>0#64)=cW (wN 12 0):=by rw [zyU]
  by_cases h96:b.length=96
  · rw [if_pos h96]
    have hW:=fun L H=>zvu L H (.vsl false (eI .u8 b)) b (RdI.vsl H .u8 false b) (by omega)
    rw [h96,show (96+7) / 8=12 from rfl] at hW
    have hv:val (wdP b 12 96)=leN b:=by have:=zDt b hb 12 (by omega);rwa [h96] at this
    have hwl:(wdP b 12 96).length=12:=by simp
    have hw2:wdP b 12 96=wN 12 (leN b):=by rw [← hv,zrQ hwl]
    have hmw:=fun L h i q=>zxm L h m i q (by omega)
    have hC:=fun L H=>zCY L H (.vsl false (eW (wdP b 12 96))) (.vsl false (eW m)) _ m (RdW.vsl _ _ _) (RdW.vsl _ _ _) ⟨by omega,by omega⟩
    rw [hv] at hC
    rw [hw2] at hC hW
    have h2a:=zxc 12 false (wN 12 (leN b)) (by decide) (by simp)
    rw [List.take_of_length_le (by simp)] at h2a
    have hwn:(wN 12 (leN b)).length=12:=by simp
    generalize wN 12 (leN b)=w at*
    unfold rgV
    by_cases hlt:leN b < val m
    · rw [if_pos hlt]
      have hc:ztw (leN b) (val m)= -1:=by unfold ztw;rw [if_pos hlt]
      rw [hc] at hC
      simp -implicitDefEqProofs [zde,zau,h96,hW,hmw,hC,h2a,hwn,zaf,zbk,zeM,zbF,zah]
    · rw [if_neg hlt]
      have hc:decide (0≤ztw (leN b) (val m))=true:=by
        unfold ztw;rw [if_neg hlt];split <;> decide
      simp -implicitDefEqProofs [zde,zau,h96,hW,hmw,hC,hc,hwn,zaf,zbk,zeM,zbF,zah,hz,zaA]
  · rw [if_neg h96]
    have hne:((b.length:Int)==96)=false:=by simp;omega
    unfold rgV
    simp -implicitDefEqProofs [zde,zau,bne,hne,zaf,zbk,zeM,zbF,zah,hz,zaA]
end Go.Av
namespace Go.Av
def grE (b:List Int):Int:=if b.length=96 then (if leN b < val gW then (if pwM (leN b) (val qW) (val gW)=1 then 0 else 4) else 4) else 1
def grV (b:List Int):zaa:=.tup [.agg (cW (wN 12 (if grE b=0 then leN b else 0))),.int .i64 (grE b)]
theorem zLj (L:Lim) (h:zab):zag ctx L zj6 [] h=some (.agg (cW (wN 12 1)),h):=by
  rw [ztU]
  have e:cW (wN 12 1)=[.int .u64 1,.int .u64 0,.int .u64 0,.int .u64 0,.int .u64 0,.int .u64 0,.int .u64 0,.int .u64 0,.int .u64 0,.int .u64 0,.int .u64 0,.int .u64 0]:=rfl
  rw [e]
  simp [zny,zau,zaV,zaA,zbF,zah,zaf,zjS,zaa.cells,zaa.okV,setAt]
theorem zOq (a e m:Nat) (h:0 < m):pwM a e m < m:=by unfold pwM;exact Nat.mod_lt _ h
theorem zIg (L:Lim) (h:zab) (c:Bool) (b:List Int) (hb:inB b) (hl:b.length < 1000000):zag ctx L ziA [.vsl c (eI .u8 b)] h=some (grV b,h):=by
  rw [zsA]
  have hG:=zD5
  have hX:=zKw
  have hRd:=fun L h=>zHu L h gW false b zq7.1 hb hl
  have hSz:=fun L h=>zHo L h qW zBv.1
  have hz:zaV (wd 0#64) 12=cW (wN 12 0):=by rw [zeM,zyU]
  have hz2:zaV (zaa.int .u64 0) 12=cW (wN 12 0):=hz
  have hz0:(wN 12 0).length=12:=by simp
  have hfz:zaA (cW (wN 12 0)) []=some (cW (wN 12 0)):=rfl
  by_cases h96:b.length=96
  · by_cases hlt:leN b < val gW
    · rw [if_pos h96,if_pos hlt] at hRd
      have hvn:=zja 12 (leN b) (Nat.lt_trans hlt (by have:=zhc gW;rwa [zq7.1] at this))
      have hE:=fun L h=>zHt L h gW (wN 12 (leN b)) qW zq7.1 (by simp) zBv.1 zq7.2.1 zq7.2.2.2.2.1 zq7.2.2.2.2.2
      rw [hvn] at hE
      have hOne:=zLj
      have heq:=zNs (wN 12 (pwM (leN b) (val qW) (val gW))) (wN 12 1) 12 (by simp) (by simp)
      have hpl:=zOq (leN b) (val qW) (val gW) (by have:=zq7.2.1;omega)
      have hiff:(wN 12 (pwM (leN b) (val qW) (val gW))=wN 12 1)↔pwM (leN b) (val qW) (val gW)=1:=by
        constructor
        · intro e
          have:=congrArg val e
          rwa [zja 12 _ (Nat.lt_trans hpl (by have:=zhc gW;rwa [zq7.1] at this)),zja 12 1 (by decide +kernel)] at this
        · intro e;rw [e]
      have hql:qW.length=12:=rfl
      have hnl:(wN 12 (leN b)).length=12:=by simp
      have hpl2:(wN 12 (pwM (leN b) (val qW) (val gW))).length=12:=by simp
      have h1l:(wN 12 1).length=12:=by simp
      have hfl : ∀ (x : List W64), x.length = 12 → zaA (cW (wN 12 0)) [(0, 12, .agg (cW x))] = some (cW x) := fun x hx => by
        simp [zaA,zaa.cells,hx,zaa.okV]
        exact zah _ _ (by simp [hx])
      by_cases hp:pwM (leN b) (val qW) (val gW)=1
      · have e:grV b=.tup [.agg (cW (wN 12 (leN b))),.int .i64 0]:=by
          have:grE b=0:=by unfold grE;rw [if_pos h96,if_pos hlt,if_pos hp]
          unfold grV;rw [this];rfl
        rw [e]
        rw [decide_eq_true (hiff.2 hp)] at heq
        have hf:=hfl (wN 12 (leN b)) hnl
        generalize wN 12 (pwM (leN b) (val qW) (val gW))=r at*
        generalize wN 12 (leN b)=w at*
        generalize wN 12 1=o at*
        generalize wN 12 0=z at*
        generalize rgV gW=g1 at*
        generalize rgV qW=g2 at*
        simp -implicitDefEqProofs [zfg,zau,hG,hX,hRd,hSz,hE,hOne,heq,hz,hz2,hz0,hf,hnl,hql,hpl2,h1l,zaf,zbF,zah]
      · have e:grV b=.tup [.agg (cW (wN 12 0)),.int .i64 4]:=by
          have:grE b=4:=by unfold grE;rw [if_pos h96,if_pos hlt,if_neg hp]
          unfold grV;rw [this];rfl
        rw [e]
        rw [decide_eq_false (fun q=>hp (hiff.1 q))] at heq
        generalize wN 12 (pwM (leN b) (val qW) (val gW))=r at*
        generalize wN 12 (leN b)=w at*
        generalize wN 12 1=o at*
        generalize wN 12 0=z at*
        generalize rgV gW=g1 at*
        generalize rgV qW=g2 at*
        simp -implicitDefEqProofs [zfg,zau,hG,hX,hRd,hSz,hE,hOne,heq,hz,hz2,hz0,hfz,hnl,hql,hpl2,h1l,zaf,zbF,zah]
    · rw [if_pos h96,if_neg hlt] at hRd
      have e:grV b=.tup [.agg (cW (wN 12 0)),.int .i64 4]:=by
        have:grE b=4:=by unfold grE;rw [if_pos h96,if_neg hlt]
        unfold grV;rw [this];rfl
      rw [e]
      generalize wN 12 0=z at*
      generalize rgV gW=g1 at*
      simp -implicitDefEqProofs [zfg,zau,hG,hRd,hz,hz2,hz0,hfz,zaf,zbF,zah,bne]
  · rw [if_neg h96] at hRd
    have e:grV b=.tup [.agg (cW (wN 12 0)),.int .i64 1]:=by
      have:grE b=1:=by unfold grE;rw [if_neg h96]
      unfold grV;rw [this];rfl
    rw [e]
    generalize wN 12 0=z at*
    generalize rgV gW=g1 at*
    simp -implicitDefEqProofs [zfg,zau,hG,hRd,hz,hz2,hz0,hfz,zaf,zbF,zah,bne]
end Go.Av
namespace Go.Av
def zi5 (t:Int):Nat:=if t=1 then 1 else if t=2 then 8 else if t=3 then 32 else if t=4 then 96 else 0
def zpp (t:Int):zaa:=if t=3 then .fn (.func zbZ) [] [] else if t=4 then .fn (.func zb1) [] [] else .nfn
def zx0 (t:Int):List Int:=if t=2 then [8] else if t=3 then [32] else if t=4 then [31,31,31,3] else []
def zIj (t:Int):zaa:=.agg [.int .i64 (zi5 t:Int),zpp t,.vsl false (eI .i64 (zx0 t))]
theorem zks (h:zab) (nb nt n:Nat) (cs:List zaa) (hc:zck cs=false):frz h nb nt (n+1) (.agg cs)=(zCk h nb nt n cs).map .agg:=by
  rw [← zyy];simp [frz,hc]
@[simp] theorem zQY (h:zab) (nb nt n:Nat):frz h nb nt (n+1) .nfn=some .nfn:=by simp only [frz]
@[simp] theorem zQZ (h:zab) (nb nt n:Nat) (f:FuncId):frz h nb nt (n+1) (.fn (.func f) [] [])=some (.fn (.func f) [] []):=by simp [frz,zap]
theorem zx2 (L:Lim) (h:zab) (t:Int):zag ctx L zdD [.int .i64 t] h=some (zIj t,h):=by
  rw [zoF]
  by_cases h1:t=1
  · subst h1
    simp [zb7,zau,zIj,zi5,zpp,zx0,zaA,rep,zaa.cells,zaa.okV,chunks,setAt,zaf,zbF,zah,zks,zck,zaa.flat]
  · by_cases h2:t=2
    · subst h2
      simp [zb7,zau,zIj,zi5,zpp,zx0,zaA,rep,zaa.cells,zaa.okV,chunks,setAt,zaf,zbF,zah,zks,zck,zaa.flat,zii]
    · by_cases h3:t=3
      · subst h3
        simp [zb7,zau,zIj,zi5,zpp,zx0,zaA,rep,zaa.cells,zaa.okV,chunks,setAt,zaf,zbF,zah,zks,zck,zaa.flat,zii]
      · by_cases h4:t=4
        · subst h4
          simp [zb7,zau,zIj,zi5,zpp,zx0,zaA,rep,zaa.cells,zaa.okV,chunks,setAt,zaf,zbF,zah,zks,zck,zaa.flat,zii,zs9]
        · have b1 : (t == 1) = false := by simpa using h1
          have b2:(t==2)=false:=by simpa using h2
          have b3:(t==3)=false:=by simpa using h3
          have b4:(t==4)=false:=by simpa using h4
          simp [zb7,zau,zIj,zi5,zpp,zx0,b1,b2,b3,b4,h1,h2,h3,h4,zaA,rep,zaa.cells,zaa.okV,chunks,setAt,zaf,zbF,zah,zks,zck,zaa.flat,zii,zs9]
theorem zLo (L:Lim) (h:zab) (t:Int):zag ctx L zhr [.int .i64 t] h=some (.int .i64 (zi5 t:Int),h):=by
  rw [zq5]
  have hv:=fun L h=>zx2 L h t
  simp only [zIj] at hv
  have hf:∀ a b c:zaa,zP9 0 1 false (.agg [a,b,c])=some a:=fun a b c=>rfl
  simp [zj9,hv,hf]
def zqR (t:Int) (n:Nat):Nat × Int:=
  if zi5 t=0 then (0,6) else if ¬n % zi5 t=0 then (0,3) else if n=0∨1048576 < n / zi5 t then (0,7) else (n / zi5 t,0)
theorem zta (L:Lim) (h:zab) (t:Int) (c:Bool) (b:List Int) (hl:b.length < 9223372036854775808):zag ctx L zdo [.int .i64 t,.vsl c (eI .u8 b)] h=some (.tup [.int .i64 ((zqR t b.length).1:Int),.int .i64 (zqR t b.length).2],h):=by
  rw [zpY]
  have hS:=fun L h=>zLo L h t
  unfold zqR
  have hlen:(eI .u8 b).length=b.length:=by simp
  generalize b.length=n at*
  generalize eI .u8 b=eb at*
  generalize hs:zi5 t=s at*
  have hs8:s≤96:=by rw [← hs];unfold zi5;split <;> (try split) <;> (try split) <;> (try split) <;> omega
  by_cases h0:s=0
  · rw [if_pos h0]
    have b0:((s:Int)==0)=true:=by simp;omega
    simp [zcG,hS,b0,hlen]
  · rw [if_neg h0]
    have b0:((s:Int)==0)=false:=by simp;omega
    have z0:¬(s:Int)=0:=by omega
    have t1:(n:Int).tmod (s:Int)=((n % s:Nat):Int):=zFj n s
    have t2:(n:Int).tdiv (s:Int)=((n / s:Nat):Int):=zyC n s
    have hle:n / s≤n:=Nat.div_le_self _ _
    have t3:IntKind.i64.wrap ((n / s:Nat):Int)=((n / s:Nat):Int):=zit _ (by omega)
    have br:zew .rem (.int .i64 (n:Int)) (.int .i64 (s:Int))=some (.int .i64 ((n % s:Nat):Int)):=by rw [zi0 .i64 (n:Int) (s:Int) z0,t1]
    have bq:zew .quo (.int .i64 (n:Int)) (.int .i64 (s:Int))=some (.int .i64 ((n / s:Nat):Int)):=by rw [zlY .i64 (n:Int) (s:Int) z0,t2,t3]
    generalize n % s=r at*
    generalize n / s=q at*
    by_cases h1:r=0
    · rw [if_neg (by omega)]
      subst h1
      by_cases h2:n=0
      · rw [if_pos (.inl h2)]
        have b2:((n:Int)==0)=true:=by simp;omega
        simp [zcG,hS,b0,hlen,br,bq,b2]
      · have b2 : ((n : Int) == 0) = false := by simp; omega
        by_cases h3:1048576 < q
        · rw [if_pos (.inr h3)]
          simp [zcG,hS,b0,hlen,br,bq,b2,show (1048576:Int) < q by omega]
        · rw [if_neg (by omega)]
          simp [zcG,hS,b0,hlen,br,bq,b2,show ¬(1048576:Int) < q by omega]
    · rw [if_pos h1]
      have b1:((r:Int)==0)=false:=by simp;omega
      simp [zcG,hS,b0,hlen,br,bq,b1,bne]
end Go.Av
namespace Go.Av
def zGa (t:Int) (b:List Int):Int:=if t=3 then (if leN b < pN then 0 else 4) else grE b
def zqS (b:List Int) (s k:Nat):List Int:=(b.drop (k*s)).take s
def okN (t:Int) (b:List Int) (s:Nat):Nat→Bool
  | 0=>true
  | n+1=>okN t b s n&&(zGa t (zqS b s n)==0)
def zF9 (t:Int) (b:List Int):Int:=
  if ¬(zqR t b.length).2=0 then (zqR t b.length).2 else if t=3∨t=4 then (if okN t b (zi5 t) (zqR t b.length).1=true then 0 else 4) else 0
theorem zQ4 (L:Lim) (h:zab) (c:Bool) (b:List Int) (hb:inB b) (hl:b.length=32):zag ctx L zbZ [.vsl c (eI .u8 b)] h=some (.int .i64 (zGa 3 b),h):=by
  rw [zmW]
  have hF:=fun L h=>zqI L h false b hb hl
  unfold zGa
  rw [if_pos rfl]
  by_cases hlt:leN b < pN
  · rw [if_pos hlt] at hF ⊢
    have hfe:(fe (leN b)).length=4:=rfl
    generalize fe (leN b)=e at*
    simp -implicitDefEqProofs [zd8,zau,hF,hfe,zbk,zeM,zbF,zah]
  · rw [if_neg hlt] at hF ⊢
    simp -implicitDefEqProofs [zd8,zau,hF,zbk,zeM,zbF,zah]
theorem zQ6 (L:Lim) (h:zab) (c:Bool) (b:List Int) (hb:inB b) (hl:b.length < 1000000):zag ctx L zb1 [.vsl c (eI .u8 b)] h=some (.int .i64 (zGa 4 b),h):=by
  rw [zmX]
  have hF:=fun L h=>zIg L h false b hb hl
  unfold grV at hF
  have e:zGa 4 b=grE b:=by unfold zGa;rw [if_neg (by decide)]
  rw [e]
  have hfe:(wN 12 (if grE b=0 then leN b else 0)).length=12:=by simp
  generalize wN 12 (if grE b=0 then leN b else 0)=w at*
  simp -implicitDefEqProofs [zf9,zau,hF,hfe,zbk,zeM,zbF,zah]
theorem zLp (c:Bool) (b:List Int) (i s j:Nat) (hj:j=i+s) (hl:j≤b.length):zc0 .slc 1 (.vsl c (eI .u8 b)) (some (.int .i64 (i:Int))) (some (.int .i64 (j:Int))) none=some (.vsl (c&&j==b.length) (eI .u8 ((b.drop i).take s))):=by
  have e:zwz i j (eI .u8 b)=eI .u8 ((b.drop i).take s):=by
    simp only [zwz,eI,List.map_take,List.map_drop,List.drop_take]
    rw [show j - i=s by omega]
  have h1:i≤j:=by omega
  simp [zc0,zio,hl,h1,e,show (i:Int)≤j by omega,show (j:Int)≤b.length by omega]
theorem zIo {fr:Fr} {h:zab} {R:Option (AEx × Fr × zab)} (t:Int) (f:FuncId) (b:List Int) (s n:Nat) (z:zaa) (hb:inB b) (hs:0 < s∧s≤96) (hl:b.length=n*s) (hn:b.length < 100000000)
    (hf:∀ L h c ch,inB ch→ch.length=s→zag ctx L f [.vsl c (eI .u8 ch)] h=some (.int .i64 (zGa t ch),h))
    (hF:run ctx (zau h) (.loop zcW) fr (hx h [[.int .i64 (s:Int),.fn (.func f) [] [],z]] [])=R)
    (h1:fr 1=.vsl false (eI .u8 b)) (h7:fr 7=pA h.blks.length 0 0) (h8:fr 8=.int .i64 0):
    ∃ e fr',R=some (e,fr',hx h [[.int .i64 (s:Int),.fn (.func f) [] [],z]] [])∧(e=.exit 0∧okN t b s n=true∨e=.ret∧fr' 4=.int .i64 4∧okN t b s n=false):=by
  obtain ⟨e,fr',h',rfl,⟨rfl,hp⟩,hk⟩:=zaj hF n
    (fun k fr hh=>∃ i:Nat,i=k*s∧fr 8=.int .i64 (i:Int)∧okN t b s k=true∧hh=hx h [[.int .i64 (s:Int),.fn (.func f) [] [],z]] [])
    (fun e fr hh=>hh=hx h [[.int .i64 (s:Int),.fn (.func f) [] [],z]] []∧(e=.exit 0∧okN t b s n=true∨e=.ret∧fr 4=.int .i64 4∧okN t b s n=false))
    ⟨0, by simp, h8, rfl, rfl⟩ (by
      rintro k fr1 hh hkN hkeep ⟨i,hi,g8,hok,rfl⟩
      have g1:=(hkeep 1 (by decide)).trans h1
      have g7:=(hkeep 7 (by decide)).trans h7
      have hne:eqA .fn (.fn (.func f) [] []) .nfn=some false:=rfl
      by_cases hlt:k < n
      · obtain ⟨j,hj⟩:∃ j,j=i+s:=⟨_,rfl⟩
        have hjl:j≤b.length:=by
          have:(k+1)*s≤n*s:=Nat.mul_le_mul_right _ hlt
          rw [Nat.add_mul,Nat.one_mul] at this
          omega
        have w1:IntKind.i64.wrap ((i:Int)+(s:Int))=(j:Int):=(wrap_i64 (by omega) (by omega)).trans (by omega)
        have hsl:=zLp false b i s j hj hjl
        have hch:(b.drop i).take s=zqS b s k:=by rw [hi];rfl
        rw [hch] at hsl
        have hcl:(zqS b s k).length=s:=by unfold zqS;simp;omega
        have hcb:inB (zqS b s k):=zmu (zrH hb _) _
        have hcall:=fun L h=>hf L h false (zqS b s k) hcb hcl
        have hst:okN t b s (k+1)=(okN t b s k&&(zGa t (zqS b s k)==0)):=rfl
        rw [hok,Bool.true_and] at hst
        have hmono : ∀ d, okN t b s (k + 1) = false → okN t b s (k + 1 + d) = false := fun d e => by
          induction d with
          | zero=>exact e
          | succ d ih=>show (okN t b s (k+1+d)&&_)=false;rw [ih];rfl
        have hmul:(k+1)*s=j:=by rw [Nat.add_mul,Nat.one_mul];omega
        generalize zqS b s k=ch at*
        generalize zGa t ch=er at*
        by_cases he:er=0
        · have be : (er == 0) = true := by simp [he]
          rw [be] at hst
          simp -implicitDefEqProofs [zcW,zau,g1,g7,g8,hne,show (i:Int) < b.length by omega,zae,w1,hsl,hcall,bne,be]
          exact ⟨hlt,by rw [← hmul];simp,hst⟩
        · have be : (er == 0) = false := by simpa using he
          rw [be] at hst
          have hno:okN t b s n=false:=by
            have:=hmono (n - (k+1)) hst
            rwa [show k+1+(n - (k+1))=n by omega] at this
          simp -implicitDefEqProofs [zcW,zau,g1,g7,g8,hne,show (i:Int) < b.length by omega,zae,w1,hsl,hcall,bne,be,hno]
      · have : k = n := by omega
        subst this
        simp -implicitDefEqProofs [zcW,zau,g1,g7,g8,hne,show ¬(i:Int) < b.length by omega,zae,hok])
  exact ⟨e,fr',rfl,hp⟩
theorem zFl (L:Lim) (h:zab) (t:Int) (c:Bool) (b:List Int) (hb:inB b) (hl:b.length < 100000000):zag ctx L zeJ [.int .i64 t,.vsl c (eI .u8 b)] h=some (.int .i64 (zF9 t b),h):=by
  rw [zpZ]
  have hC:=fun L h=>zta L h t false b (by omega)
  have hV:=fun L h=>zx2 L h t
  unfold zF9
  have hcnt : ∀ q, zqR t b.length = q → q.2 = 0 → ¬ zi5 t = 0 ∧ b.length = q.1 * zi5 t := fun q hq h0 => by
    unfold zqR at hq
    split at hq
    · subst hq;simp at h0
    · rename_i h1
      split at hq
      · subst hq;simp at h0
      · rename_i h2
        split at hq
        · subst hq;simp at h0
        · subst hq
          refine ⟨h1,?_⟩
          have:=Nat.div_add_mod b.length (zi5 t)
          simp only
          rw [Nat.mul_comm]
          omega
  generalize zqR t b.length=q at*
  have hcnt:=hcnt q rfl
  obtain ⟨n,er⟩:=q
  simp only at hC hcnt ⊢
  by_cases he:er=0
  · rw [if_neg (by simpa using he)]
    obtain ⟨hs0,hbl⟩:=hcnt he
    have be:(er==0)=true:=by simp [he]
    have hs8:zi5 t≤96:=by unfold zi5;split <;> (try split) <;> (try split) <;> (try split) <;> omega
    by_cases h34:t=3∨t=4
    · rw [if_pos h34]
      obtain ⟨f,hrt,hf⟩:∃ f,zpp t=.fn (.func f) [] []∧∀ L h c ch,inB ch→ch.length=zi5 t→zag ctx L f [.vsl c (eI .u8 ch)] h=some (.int .i64 (zGa t ch),h):=by
        rcases h34 with rfl | rfl
        · exact ⟨zbZ,rfl,fun L h c ch h1 h2=>zQ4 L h c ch h1 h2⟩
        · exact ⟨zb1,rfl,fun L h c ch h1 h2=>zQ6 L h c ch h1 (by rw [h2];show 96 < 1000000;omega)⟩
      unfold zIj at hV
      rw [hrt] at hV
      generalize zaa.vsl false (eI .i64 (zx0 t))=z at*
      simp -implicitDefEqProofs [zeB,zau,hC,hV,bne,be,zaf,zbF,zah]
      generalize hF:run ctx _ (.loop _) _ _=R
      obtain ⟨e,fr',rfl,⟨rfl,hok⟩ | ⟨rfl,h4,hok⟩⟩:=zIo t f b (zi5 t) n z hb ⟨by omega,hs8⟩ hbl hl hf hF (by simp) (by simp) (by simp)
      · simp [hok]
      · simp [hok,h4]
    · rw [if_neg h34]
      have hrt:zpp t=.nfn:=by unfold zpp;rw [if_neg (by omega),if_neg (by omega)]
      unfold zIj at hV
      rw [hrt] at hV
      have hne:eqA .fn .nfn .nfn=some true:=rfl
      generalize zaa.vsl false (eI .i64 (zx0 t))=z at*
      simp -implicitDefEqProofs [zeB,zau,hC,hV,bne,be,zaf,zbF,zah]
      rw [zr7]
      simp -implicitDefEqProofs [zcW,zae,hne]
  · rw [if_pos (by simpa using he)]
    have be:(er==0)=false:=by simpa using he
    simp -implicitDefEqProofs [zeB,zau,hC,bne,be]
end Go.Av
namespace Go.Av
def itO (k t c:Int):It:=⟨k,t,c,⟨#[]⟩⟩
def ckO (k t c:Int):Int:=chk (itO k t c)
def zAN (k t c:Int) (b:List Int):Bool:=
  if ckO k t c=0 then (if k=1 then decide (((zqR t b.length).1:Int)=c)&&decide (zF9 t b=0) else decide (b.length=0)) else false
def opB (k t c:Int) (b:List Int):List Int:=if zAN k t c b=true then [IntKind.u8.wrap k,IntKind.u8.wrap t]++le c 4++b else []
theorem zJq (h:zab) (k t c:Int) (b:List Int) (d:zaa) (hd:fzA h d=some (.vsl false (eI .u8 b),false)) (hf:d.flat=false):fzA h (.agg [.int .i64 k,.int .i64 t,.int .i64 c,d])=some (.agg [.int .i64 k,.int .i64 t,.int .i64 c,.vsl false (eI .u8 b)],false):=by
  have hn:zck [.int .i64 k,.int .i64 t,.int .i64 c,d]=false:=by simp [zck,hf]
  simp only [fzA,hn,Bool.false_eq_true,if_false]
  simp [hd]
theorem zFn (L:Lim) (h:zab) (k t c:Int) (b:List Int) (hb:inB b) (hl:b.length < 100000000):zag ctx L zec [.agg [.int .i64 k,.int .i64 t,.int .i64 c,.vsl false (eI .u8 b)]] h=some (.bool (zAN k t c b),h):=by
  rw [zmO]
  have hC:∀ L h,zag ctx L zdH [.agg [.int .i64 k,.int .i64 t,.int .i64 c,.str ⟨#[]⟩]] h=some (.int .i64 (ckO k t c),h):=fun L h=>zvJ L h (itO k t c)
  have hN:=fun L h=>zta L h t false b (by omega)
  have hK:=fun L h=>zFl L h t false b hb hl
  have hfz:∀ h,fzA h (.agg [.int .i64 k,.int .i64 t,.int .i64 c,.vsl false (eI .u8 b)])=some (.agg [.int .i64 k,.int .i64 t,.int .i64 c,.vsl false (eI .u8 b)],false):=fun h=>zJq h k t c b _ (by simp) rfl
  have hbo:znl (.agg [.int .i64 k,.int .i64 t,.int .i64 c,.vsl false (eI .u8 b)])=some (.vptr [.int .i64 k,.int .i64 t,.int .i64 c,.vsl false (eI .u8 b)] 0):=rfl
  have hlen:(eI .u8 b).length=b.length:=by simp
  unfold zAN
  generalize ckO k t c=ck at*
  generalize zqR t b.length=q at*
  generalize zF9 t b=e at*
  obtain ⟨n,er⟩:=q
  simp only at hN ⊢
  by_cases h0:ck=0
  · have b0 : (ck == 0) = true := by simp [h0]
    rw [if_pos h0]
    by_cases h1:k=1
    · have b1 : (k == 1) = true := by simp [h1]
      rw [if_pos h1]
      by_cases h2:(n:Int)=c
      · have b2 : ((n : Int) == c) = true := by simp [h2]
        have b3:(e==0)=decide (e=0):=by rw [Bool.eq_iff_iff];simp
        simp -implicitDefEqProofs [zbY,zau,hfz,hbo,zaA,setAt,zaa.cells,zaa.okV,hC,hN,hK,bne,b0,b1,b2,b3,h2]
      · have b2 : ((n : Int) == c) = false := by simpa using h2
        simp -implicitDefEqProofs [zbY,zau,hfz,hbo,zaA,setAt,zaa.cells,zaa.okV,hC,hN,hK,bne,b0,b1,b2,h2]
    · have b1 : (k == 1) = false := by simpa using h1
      rw [if_neg h1]
      have b2:((b.length:Int)==0)=decide (b.length=0):=by rw [Bool.eq_iff_iff];simp
      generalize eI .u8 b=eb at*
      simp -implicitDefEqProofs [zbY,zau,hfz,hbo,zaA,setAt,zaa.cells,zaa.okV,hC,bne,b0,b1,hlen,b2]
  · have b0 : (ck == 0) = false := by simpa using h0
    rw [if_neg h0]
    simp -implicitDefEqProofs [zbY,zau,hfz,hbo,zaA,setAt,zaa.cells,zaa.okV,hC,bne,b0]
theorem zQ7 (n:Int) (k:Nat) (hk:k≤64):zkP .shr .i64 n (k:Int)=some (.int .i64 (n.fdiv (2 ^ k))):=by
  rw [zOA .i64 n (k:Int) (by simp only [Bool.and_eq_true,decide_eq_true_eq];exact ⟨by omega,by show (k:Int)≤64;omega⟩)]
  simp
theorem zn3 (n:Int):le n 4=[IntKind.u8.wrap n,IntKind.u8.wrap (n.fdiv (2 ^ 8)),IntKind.u8.wrap (n.fdiv (2 ^ 16)),IntKind.u8.wrap (n.fdiv (2 ^ 24))]:=by
  simp [le]
theorem zIq (L:Lim) (h:zab) (sz:Nat) (c:Bool) (es:List (List zaa)) (he:zeH sz es=true):zrI L h sz false (.vsl true es) (.vsl c [])=some (.vsl true es,h):=by
  simp [zrI,zay,zeo,zCr,he,show zeH sz ([]:List (List zaa))=true from rfl]
theorem zOG (L:Lim) (h:zab) (k t c:Int) (b:List Int) (d:zaa) (hd:∀ h,fzA h d=some (.vsl false (eI .u8 b),false)) (hf:d.flat=false) (hb:inB b) (hl:b.length < 100000000):
    zag ctx L zeS [.agg [.int .i64 k,.int .i64 t,.int .i64 c,d]] h=some (.vsl false (eI .u8 (opB k t c b)),h):=by
  rw [znB]
  have hfz:=fun h=>zJq h k t c b d (hd h) hf
  have hbo:znl (.agg [.int .i64 k,.int .i64 t,.int .i64 c,.vsl false (eI .u8 b)])=some (.vptr [.int .i64 k,.int .i64 t,.int .i64 c,.vsl false (eI .u8 b)] 0):=rfl
  have hR:=fun L h=>zFn L h k t c b hb hl
  have s1:=zQ7 c 8 (by decide)
  have s2:=zQ7 c 16 (by decide)
  have s3:=zQ7 c 24 (by decide)
  simp only [Int.cast_ofNat_Int] at s1 s2 s3
  unfold opB
  cases hr:zAN k t c b with
  | true=>
    rw [hr] at hR
    rw [if_pos rfl]
    have hl4:=zn3 c
    generalize c.fdiv (2 ^ 8)=c1 at*
    generalize c.fdiv (2 ^ 16)=c2 at*
    generalize c.fdiv (2 ^ 24)=c3 at*
    rw [hl4]
    cases b with
    | nil=>
      simp only [zJl] at hfz hbo hR
      simp -implicitDefEqProofs [zdd,zau,hfz,hbo,hR,zaf,s1,s2,s3,zaA,rep,zaa.cells,zaa.okV,chunks,setAt,zii,zs9,zIq]
    | cons x b=>
      simp only [List.length_cons] at hl
      simp -implicitDefEqProofs [zdd,zau,hfz,hbo,hR,zaf,s1,s2,s3,zaA,rep,zaa.cells,zaa.okV,chunks,setAt,zii,zs9,zxW,zat,show 6+(b.length+1) < 274877906944 by omega]
  | false=>
    rw [hr] at hR
    simp -implicitDefEqProofs [zdd,zau,hfz,hbo,hR,zaf]
end Go.Av
