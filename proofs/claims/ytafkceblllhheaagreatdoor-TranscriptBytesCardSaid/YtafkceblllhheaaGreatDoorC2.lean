/- The rests of great numbers, and the element of any bytes, are those of the numbers. -/
import Derived.Test.YtafkceblllhheaaGreatDoorC1
set_option linter.unusedSimpArgs false
set_option linter.unusedVariables false
set_option maxHeartbeats 2000000
set_option maxRecDepth 20000
namespace Go.Av
def bN (n:Nat):Nat:=18446744073709551616 ^ n
theorem zeM (n:Nat):0 < bN n:=Nat.pow_pos (by decide)
theorem Y7:bN 0=1:=rfl
theorem ly (n:Nat):bN (n+1)=18446744073709551616*bN n:=by unfold bN;rw [Nat.pow_succ,Nat.mul_comm]
def wN:Nat->Nat->List ac
 | 0,_=>[]
 | n+1,x=>BitVec.ofNat 64 x :: wN n (x / 18446744073709551616)
@[simp] theorem A7:∀ n x,(wN n x).length=n
 | 0,_=>rfl
 | n+1,x=>by simp [wN,A7 n]
theorem pE:∀ n x,x < bN n->val (wN n x)=x
  | 0, x, h => by have : x = 0 := by simpa [bN] using h
                  subst this;rfl
  | n + 1, x, h => by
    rw [ly] at h
    have ih:=pE n (x / 18446744073709551616) (by rw [Nat.div_lt_iff_lt_mul (by decide),Nat.mul_comm];exact h)
    simp only [wN,val,ih,BitVec.toNat_ofNat]
    omega
theorem oM:∀ l:List ac,val l < bN l.length
 | []=>by simp [val,bN]
 | w :: l => by
  have h1:=w.isLt;have ih:=oM l;simp only [val,List.length_cons,ly];omega
theorem G4:∀ {l:List ac} {n:Nat},l.length=n->wN n (val l)=l
 | [],n,h=>by subst h;rfl
 | w :: l, n, h => by
  subst h;have h1:=w.isLt;simp only [List.length_cons,wN,val];have e1:(w.toNat+18446744073709551616*val l) / 18446744073709551616=val l:=by omega
  rw [e1,G4 rfl]
  congr 1
  apply BitVec.eq_of_toNat_eq;rw [BitVec.toNat_ofNat];omega
theorem val_inj {l m:List ac}(hl:l.length=m.length)(h:val l=val m):l=m:=by
 rw [<- G4 (l:=l) rfl,<- G4 (l:=m) rfl,hl,h]
theorem zis (x:Nat)(h:x < rN):wN 4 x=w4 x:=val_inj rfl (by rw [Ji x h,pE 4 x h])
def aQ (f:Nat->ac):Nat->Nat
 | 0=>0
 | n+1=>aQ f n+(f n).toNat*bN n
theorem Ig (f:Nat->ac):∀ n,aQ f n < bN n
 | 0=>by simp [aQ,bN]
 | n + 1 => by
  have h1:=(f n).isLt;have ih:=Ig f n;rw [ly,aQ];have:(f n).toNat*bN n<=18446744073709551615*bN n:=Nat.mul_le_mul_right _ (by omega);omega
theorem gO {f g:Nat->ac}:∀ n,(∀ i,i < n->f i=g i)->aQ f n=aQ g n
 | 0,_=>rfl
 | n+1,h=>by rw [aQ,aQ,gO n fun i hi=>h i (by omega),h n (by omega)]
theorem M5 (f : Nat -> ac) : ∀ n, aQ f (n + 1) = (f 0).toNat + 18446744073709551616 * aQ (fun i => f (i + 1)) n
 | 0=>by simp [aQ,bN]
 | n + 1 => by
  rw [aQ,M5 f n,aQ,ly,Nat.mul_add,Nat.add_assoc,Nat.mul_left_comm]
theorem ix:∀ (l:List ac) (n:Nat),l.length<=n->val l=aQ (gd l 0#64) n
 | [], n, _ => by
  induction n with
  | zero=>rfl
  | succ n ih=>rw [aQ,<- ih (by simp)];simp [val,gd]
 | w :: l,0,h=>by simp at h
 | w :: l, n + 1, h => by
  rw [M5,val,ix l n (by simpa using h)];rfl
theorem JN {f g:Nat->ac}{i:Nat}(h:(f i).toNat < (g i).toNat):∀ n,i < n->(∀ j,i < j->j < n->f j=g j)->aQ f n < aQ g n
 | 0,hi,_=>by omega
 | n + 1, hi, hj => by
  by_cases hn:i=n
  ·subst hn;rw [aQ,aQ];have h1:=Ig f i;have h2:((f i).toNat+1)*bN i<=(g i).toNat*bN i:=Nat.mul_le_mul_right _ h;rw [Nat.add_mul,Nat.one_mul] at h2;omega
  ·rw [aQ,aQ,hj n (by omega) (by omega)];have:=JN h n (by omega) fun j h1 h2=>hj j h1 (by omega);omega
def wC (lo hi:ac->ac->ac->ac)(a b:List ac)(n:Nat):Nat->List ac × ac
 | 0=>(tab n fun _=>0#64,0#64)
 | k+1=>((wC lo hi a b n k).1.set k (lo (gd a 0#64 k) (gd b 0#64 k) (wC lo hi a b n k).2),hi (gd a 0#64 k) (gd b 0#64 k) (wC lo hi a b n k).2)
@[simp] theorem LB (lo hi:ac->ac->ac->ac)(a b:List ac)(n:Nat):∀ k,(wC lo hi a b n k).1.length=n
 | 0=>by simp [wC]
 | k+1=>by simp [wC,LB lo hi a b n k]
theorem Za {lo hi:ac->ac->ac->ac}(hh:∀ x y c:ac,c.toNat<=1->(hi x y c).toNat<=1)(a b:List ac)(n:Nat):∀ k,(wC lo hi a b n k).2.toNat<=1
 | 0=>by simp [wC]
 | k+1=>hh _ _ _ (Za hh a b n k)
theorem LK (lo hi:ac->ac->ac->ac)(a b:List ac)(n:Nat)(j:Nat):∀ k,j < k->j < n->gd (wC lo hi a b n k).1 0#64 j=gd (wC lo hi a b n (j+1)).1 0#64 j
 | 0,h,_=>by omega
 | k + 1, h, hn => by
  by_cases hj:j=k
  ·subst hj;rfl
  ·have ih:=LK lo hi a b n j k (by omega) hn;rw [<- ih];show gd ((wC lo hi a b n k).1.set k _) 0#64 j=_;by_cases hk:k < n
   ·rw [pB _ _ _ _ _ (by simpa using hk),if_neg (by omega)]
   ·rw [List.set_eq_of_length_le (by simp;omega)]
theorem X4 (a b:List ac)(n:Nat):∀ k,k<=n->aQ (gd (wC BT Bc a b n k).1 0#64) k+aQ (gd b 0#64) k=aQ (gd a 0#64) k+bN k*(wC BT Bc a b n k).2.toNat
 | 0,_=>by simp [aQ,wC]
 | k + 1, hk => by
  have ih:=X4 a b n k (by omega);have hc:=Za (lo:=BT) (hi:=Bc) (fun x y c h=>(Is x y c h).2) a b n k;have hs:=(Is (gd a 0#64 k) (gd b 0#64 k) (wC BT Bc a b n k).2 hc).1;have e1 : aQ (gd (wC BT Bc a b n (k + 1)).1 0#64) k = aQ (gd (wC BT Bc a b n k).1 0#64) k := gO k fun j hj => by
   rw [LK _ _ _ _ _ _ _ (show j < k+1 by omega) (by omega),<- LK _ _ _ _ _ _ _ hj (by omega)]
  have e2:gd (wC BT Bc a b n (k+1)).1 0#64 k=BT (gd a 0#64 k) (gd b 0#64 k) (wC BT Bc a b n k).2:=by
   show gd ((wC BT Bc a b n k).1.set k _) 0#64 k=_;rw [pB _ _ _ _ _ (by simp;omega),if_pos rfl]
  have e3:(wC BT Bc a b n (k+1)).2=Bc (gd a 0#64 k) (gd b 0#64 k) (wC BT Bc a b n k).2:=rfl;rw [aQ,aQ,aQ,e1,e2,e3,ly];generalize (gd b 0#64 k).toNat=y,(gd a 0#64 k).toNat=x,bN k=B,(wC BT Bc a b n k).2.toNat=c,Bc (gd a 0#64 k) (gd b 0#64 k) (wC BT Bc a b n k).2=v,BT (gd a 0#64 k) (gd b 0#64 k) (wC BT Bc a b n k).2=u at*;generalize v.toNat=v,u.toNat=u at*
  grind
theorem zgO (a b:List ac)(n:Nat)(ha:a.length<=n)(hb:b.length<=n):(wC BT Bc a b n n).1=wN n (if val a < val b then val a+bN n - val b else val a - val b)/\(wC BT Bc a b n n).2=if val a < val b then 1#64 else 0#64:=by
 have h:=X4 a b n n (Nat.le_refl _);have hl:=LB BT Bc a b n n;have hc:=Za (lo:=BT) (hi:=Bc) (fun x y c h=>(Is x y c h).2) a b n n;rw [<- ix _ n (by omega),<- ix _ n hb,<- ix _ n ha] at h;have hv:=oM (wC BT Bc a b n n).1;have hva:val a < bN n:=by rw [ix a n ha];exact Ig _ n
 have hvb:val b < bN n:=by rw [ix b n hb];exact Ig _ n
 rw [hl] at hv;have hw:=G4 hl;generalize wC BT Bc a b n n=q at*;obtain ⟨l,c⟩:=q;simp only at*;rw [<- hw];rcases (show c.toNat=0\/c.toNat=1 by omega) with h0 | h0
 ·rw [h0,Nat.mul_zero] at h;have hn:¬val a < val b:=by omega
  rw [if_neg hn,if_neg hn];exact ⟨congrArg (wN n) (by omega),BitVec.eq_of_toNat_eq h0⟩
 ·rw [h0,Nat.mul_one] at h;have hn:val a < val b:=by omega
  rw [if_pos hn,if_pos hn];exact ⟨congrArg (wN n) (by omega),BitVec.eq_of_toNat_eq h0⟩
def zU (a:List ac)(di:ac):Nat->List ac × ac
 | 0=>(tab a.length fun _=>0#64,di)
 | k+1=>((zU a di k).1.set k (gd a 0#64 k <<< 1|||(zU a di k).2),gd a 0#64 k >>> 63)
@[simp] theorem Lc (a:List ac)(di:ac):∀ k,(zU a di k).1.length=a.length
 | 0=>by simp [zU]
 | k+1=>by simp [zU,Lc a di k]
theorem zcF (a:List ac)(di:ac)(hb:di.toNat<=1):∀ k,(zU a di k).2.toNat<=1
 | 0=>hb
 | k + 1 => by
  simp only [zU];rw [BitVec.toNat_ushiftRight,Nat.shiftRight_eq_div_pow];have:=(gd a 0#64 k).isLt;omega
theorem zkf (w c:ac)(hc:c.toNat<=1):(w <<< 1|||c).toNat+18446744073709551616*(w >>> 63).toNat=2*w.toNat+c.toNat:=by
 have h1:=w.isLt;have e1:(w <<< 1).toNat=2*(w.toNat % 9223372036854775808):=by
  rw [BitVec.toNat_shiftLeft,Nat.shiftLeft_eq];omega
 have e2:(w <<< 1|||c).toNat=2*(w.toNat % 9223372036854775808)+c.toNat:=by
  rw [BitVec.toNat_or,e1];have:2*(w.toNat % 9223372036854775808)=(w.toNat % 9223372036854775808) <<< 1:=by rw [Nat.shiftLeft_eq];omega
  rw [this,<- Nat.shiftLeft_add_eq_or_of_lt (by omega)]
 rw [e2,BitVec.toNat_ushiftRight,Nat.shiftRight_eq_div_pow];omega
theorem LM (a:List ac)(di:ac)(j:Nat):∀ k,j < k->j < a.length->gd (zU a di k).1 0#64 j=gd (zU a di (j+1)).1 0#64 j
 | 0,h,_=>by omega
 | k + 1, h, hn => by
  by_cases hj:j=k
  ·subst hj;rfl
  ·have ih:=LM a di j k (by omega) hn;rw [<- ih];show gd ((zU a di k).1.set k _) 0#64 j=_;by_cases hk:k < a.length
   ·rw [pB _ _ _ _ _ (by simpa using hk),if_neg (by omega)]
   ·rw [List.set_eq_of_length_le (by simp;omega)]
theorem zcH (a:List ac)(di:ac)(hb:di.toNat<=1):∀ k,k<=a.length->aQ (gd (zU a di k).1 0#64) k+bN k*(zU a di k).2.toNat=2*aQ (gd a 0#64) k+di.toNat
 | 0,_=>by simp [aQ,zU,bN]
 | k + 1, hk => by
  have ih:=zcH a di hb k (by omega);have hc:=zcF a di hb k;have hs:=zkf (gd a 0#64 k) (zU a di k).2 hc;have e1 : aQ (gd (zU a di (k + 1)).1 0#64) k = aQ (gd (zU a di k).1 0#64) k := gO k fun j hj => by
   rw [LM _ _ _ _ (show j < k+1 by omega) (by omega),<- LM _ _ _ _ hj (by omega)]
  have e2:gd (zU a di (k+1)).1 0#64 k=gd a 0#64 k <<< 1|||(zU a di k).2:=by
   show gd ((zU a di k).1.set k _) 0#64 k=_;rw [pB _ _ _ _ _ (by simp;omega),if_pos rfl]
  have e3:(zU a di (k+1)).2=gd a 0#64 k >>> 63:=rfl;rw [aQ,aQ,e1,e2,e3,ly];generalize (gd a 0#64 k).toNat=x,bN k=B,(zU a di k).2.toNat=c,gd a 0#64 k >>> 63=v,gd a 0#64 k <<< 1|||(zU a di k).2=u at*;generalize di.toNat=bt,v.toNat=v,u.toNat=u at*
  grind
def S8 (n c x m:Nat):Nat:=if c=0/\x < m then x else if x < m then x+bN n - m else x - m
theorem zkh (a:List ac)(di:ac)(hb:di.toNat<=1)(m:Nat)(ha:val a < m)(hm:m < bN a.length):
  S8 a.length (zU a di a.length).2.toNat (val (zU a di a.length).1) m=(2*val a+di.toNat) % m:=by
 have h:=zcH a di hb a.length (Nat.le_refl _);have hl:=Lc a di a.length;have hc:=zcF a di hb a.length;rw [<- ix _ a.length (by omega),<- ix _ a.length (Nat.le_refl _)] at h;have hv:=oM (zU a di a.length).1;rw [hl] at hv;generalize zU a di a.length=q at*;obtain ⟨l,c⟩:=q;simp only at*;have hlt2:2*val a+di.toNat < 2*m:=by omega
 have hmod:(2*val a+di.toNat) % m=if 2*val a+di.toNat < m then 2*val a+di.toNat else 2*val a+di.toNat - m:=by
  split
  ·rw [Nat.mod_eq_of_lt (by assumption)]
  ·rw [Nat.mod_eq_sub_mod (by omega),Nat.mod_eq_of_lt (by omega)]
 rw [hmod];unfold S8;rcases (show c.toNat=0\/c.toNat=1 by omega) with h0 | h0
 ·rw [h0,Nat.mul_zero,Nat.add_zero] at h;rw [h0,h];by_cases hx:2*val a+di.toNat < m
  ·rw [if_pos ⟨rfl,hx⟩,if_pos hx]
  ·rw [if_neg (fun q=>hx q.2),if_neg hx,if_neg hx]
 ·rw [h0,Nat.mul_one] at h;have hx:¬(2*val a+di.toNat < m):=by omega
  have hy:val l < m:=by omega
  rw [h0,if_neg (by omega),if_pos hy,if_neg hx];omega
theorem Zf (L:az)(h:O)(x:J)(l:List ac)(hr:iV h x l)(i:Nat):Z ah L rW [x,Ii (i:Int)] h=some (wd (gd l 0#64 i),h):=by
 rw [Sg];obtain ⟨r1,p,r2,r3⟩:=hr;by_cases hi:i < l.length
 ·simp -implicitDefEqProofs [EJ,V,r1,hi,r2 i hi,r3 i [] [] hi]
 ·have hg:gd l 0#64 i=0#64:=by unfold gd;simp [List.getD,List.getElem?_eq_none (Nat.le_of_not_lt hi)]
  simp -implicitDefEqProofs [EJ,V,r1,hi,hg,OT]
def jU (x y:Nat):Int:=if x < y then -1 else if y < x then 1 else 0
theorem Xe (x y:ac):aV .lss (wd x) (wd y)=some (.bool (decide (x.toNat < y.toNat))):=by unfold wd;rw [zgV];simp
theorem Xd (x y:ac):aV .gtr (wd x) (wd y)=some (.bool (decide (y.toNat < x.toNat))):=by unfold wd;rw [zgX];simp
theorem DW (x y:ac):aV .geq (wd x) (wd y)=some (.bool (decide (y.toNat<=x.toNat))):=by unfold wd;rw [uT];simp
theorem Xf (x y:ac):aV .neq (wd x) (wd y)=some (.bool (x !=y)):=by
 unfold wd;rw [Lg]
 congr 2
 by_cases h:x=y
 ·subst h;simp
 ·have h2:x.toNat≠y.toNat:=fun e=>h (BitVec.eq_of_toNat_eq e);rw [bne_iff_ne.2 h,bne_iff_ne.2 (by omega)]
theorem uR (x y:ac):aV .eql (wd x) (wd y)=some (.bool (x==y)):=by
 unfold wd;rw [Lf]
 congr 2
 by_cases h:x=y
 ·subst h;simp
 ·have h2:x.toNat≠y.toNat:=fun e=>h (BitVec.eq_of_toNat_eq e);rw [beq_false_of_ne h,beq_false_of_ne (by omega)]
theorem LO (L:az)(h:O)(x:ac):Z ah L jP [wd x] h=some (.bool false,h):=by
 rw [D8];simp [qz,V,Xf, -Lg]
theorem VI (L:az)(h:O)(x y:ac):Z ah L ky [wd x,wd y] h=some (Ii (jU x.toNat y.toNat),h):=by
 rw [Bn];unfold jU;by_cases h1:x.toNat < y.toNat
 ·simp -implicitDefEqProofs [gU,V,LO,Xe,Xd,h1]
 ·by_cases h2:y.toNat < x.toNat
  ·simp -implicitDefEqProofs [gU,V,LO,Xe,Xd,h1,h2]
  ·simp -implicitDefEqProofs [gU,V,LO,Xe,Xd,h1,h2]
theorem zcK {fr:Fr}{h:O}{R:Option (dt × Fr × O)}(x y:J)(a b:List ac)(hx1:iV h x a)(hy1:iV h y b)(n:Nat)(hn:n < 1000000000)
  (hF:run ah (V h) (.loop pO) fr (hx h [] [])=R)
  (h0:fr 0=x) (h1:fr 1=y) (h5:fr 5=Ii ((n:Int) - 1)):
  ∃ e fr',R=some (e,fr',hx h [] [])/\(e=.exit 0/\(∀ j,j < n->gd a 0#64 j=gd b 0#64 j)\/e=.ret/\fr' 4=Ii (jU (aQ (gd a 0#64) n) (aQ (gd b 0#64) n))):=by
 obtain ⟨e,fr',h',rfl,⟨rfl,hp⟩,hk⟩:=af hF n
  (fun k fr hh=>fr 5=Ii ((n:Int) - 1 - k)/\hh=hx h [] []/\∀ j,n - k<=j->j < n->gd a 0#64 j=gd b 0#64 j)
  (fun e fr hh=>hh=hx h [] []/\(e=.exit 0/\(∀ j,j < n->gd a 0#64 j=gd b 0#64 j)\/e=.ret/\fr 4=Ii (jU (aQ (gd a 0#64) n) (aQ (gd b 0#64) n))))
  ⟨by rw [h5]; simp, rfl, fun j h1 h2 => by omega⟩ (by
   rintro k fr1 hh hkN hkeep ⟨g5,rfl,heq⟩;have g0:=kp hkeep h0;have g1:=kp hkeep h1;by_cases hlt:k < n
   ·obtain ⟨i,hi⟩:∃ i:Nat,i=n - 1 - k:=⟨_,rfl⟩;have g5':fr1 5=Ii (i:Int):=by rw [g5];congr 1;omega
    have hin:i < n:=by omega
    have w1:Wr ((i:Int) - 1)=(n:Int) - 1 - ((k+1:Nat):Int):=wy;have ca:=fun L=>Zf L (hx h [] []) x a (hx1.ext [] []) i;have cb:=fun L=>Zf L (hx h [] []) y b (hy1.ext [] []) i;have hcm:=fun L h=>VI L h (gd a 0#64 i) (gd b 0#64 i);have hup:∀ j,i < j->j < n->gd a 0#64 j=gd b 0#64 j:=fun j h1 h2=>heq j (by omega) h2;by_cases c1:(gd a 0#64 i).toNat < (gd b 0#64 i).toNat
    ·have hs:=JN c1 n hin hup;have e1:jU (gd a 0#64 i).toNat (gd b 0#64 i).toNat= -1:=by unfold jU;rw [if_pos c1]
     have e2:jU (aQ (gd a 0#64) n) (aQ (gd b 0#64) n)= -1:=by unfold jU;rw [if_pos hs]
     simp only [e1] at hcm;simp -implicitDefEqProofs [pO,V,g0,g1,g5',show (0:Int)<=(i:Int) by omega,ca,cb,hcm,e2]
    ·by_cases c2:(gd b 0#64 i).toNat < (gd a 0#64 i).toNat
     ·have hs:=JN c2 n hin fun j h1 h2=>(hup j h1 h2).symm;have e1:jU (gd a 0#64 i).toNat (gd b 0#64 i).toNat=1:=by unfold jU;rw [if_neg c1,if_pos c2]
      have e2:jU (aQ (gd a 0#64) n) (aQ (gd b 0#64) n)=1:=by unfold jU;rw [if_neg (by omega),if_pos hs]
      simp only [e1] at hcm;simp -implicitDefEqProofs [pO,V,g0,g1,g5',show (0:Int)<=(i:Int) by omega,ca,cb,hcm,e2]
     ·have e0:gd a 0#64 i=gd b 0#64 i:=BitVec.eq_of_toNat_eq (by omega);have e1:jU (gd a 0#64 i).toNat (gd b 0#64 i).toNat=0:=by unfold jU;rw [if_neg c1,if_neg c2]
      simp only [e1] at hcm;simp -implicitDefEqProofs [pO,V,g0,g1,g5',show (0:Int)<=(i:Int) by omega,ca,cb,hcm,w1];refine ⟨hlt,fun j h1 h2=>?_⟩;by_cases hj:j=i
      ·subst hj;exact e0
      ·exact heq j (by omega) h2
   ·have:k=n:=by omega
    subst this;have hz:(k:Int) - 1 - k= -1:=by omega
    rw [hz] at g5;simp [pO,g5];exact fun j hj=>heq j (by omega) hj)
 exact ⟨e,fr',rfl,hp⟩
theorem VJ (L:az)(h:O)(x y:J)(a b:List ac)(hx1:iV h x a)(hy1:iV h y b)(hn:a.length < 1000000/\b.length < 1000000):Z ah L vz [x,y] h=some (Ii (jU (val a) (val b)),h):=by
 rw [OY];have w1:Wr (((max a.length b.length:Nat):Int) - 1)=((max a.length b.length:Nat):Int) - 1:=wz;have hva:=ix a (max a.length b.length) (by omega);have hvb:=ix b (max a.length b.length) (by omega);have hm:=zff .i64 a.length b.length;have hnn:max a.length b.length < 1000000000:=by omega
 generalize max a.length b.length=n at*;simp -implicitDefEqProofs [Gt,V,hx1.1,hy1.1,hm,w1];generalize hF:run ah _ (.loop _) _ _=R;obtain ⟨e,fr1,rfl,hp⟩:=zcK x y a b hx1 hy1 n hnn hF (by simp) (by simp) (by simp);rw [hva,hvb];rcases hp with ⟨rfl,heq⟩ | ⟨rfl,h4⟩
 ·have e0:aQ (gd a 0#64) n=aQ (gd b 0#64) n:=gO n heq;rw [e0];simp [jU]
 ·simp [h4]
theorem ZX {fr:Fr}{h:O}{R:Option (dt × Fr × O)}(x y:J)(a b:List ac)(hx1:iV h x a)(hy1:iV h y b)(n:Nat)(hn:n < 1000000000)(f:FuncId)(lo hi:ac->ac->ac->ac)
  (hf:∀ L h (x y c:ac),c.toNat<=1->Z ah L f [wd x,wd y,wd c] h=some (.tup [wd (lo x y c),wd (hi x y c)],h)) (hh:∀ x y c:ac,c.toNat<=1->(hi x y c).toNat<=1)
  (hF:run ah (V h) (.loop n9) fr (hx h [cW (wC lo hi a b n 0).1] [])=R)
  (h0:fr 0=x) (h1:fr 1=y) (h2:fr 2=.fn (.func f) [] []) (h8:fr 8=sA h.blks.length 0 0 1 n (some n)) (h9:fr 9=wd 0#64) (h18:fr 18=Ii n) (h19:fr 19=Ii 0):
  ∃ fr',R=some (.exit 0,fr',hx h [cW (wC lo hi a b n n).1] [])/\fr' 9=wd (wC lo hi a b n n).2/\∀ t,t∉wr n9->fr' t=fr t:=by
 obtain ⟨e,fr',h',rfl,⟨rfl,rfl,h9'⟩,hk⟩:=af hF n
  (fun k fr hh=>fr 19=Ii k/\fr 9=wd (wC lo hi a b n k).2/\hh=hx h [cW (wC lo hi a b n k).1] [])
  (fun e fr hh=>e=.exit 0/\hh=hx h [cW (wC lo hi a b n n).1] []/\fr 9=wd (wC lo hi a b n n).2)
  ⟨h19,h9,rfl⟩ (by
   rintro k fr1 hh hkN hkeep ⟨g19,g9,rfl⟩;have g0:=kp hkeep h0;have g1:=kp hkeep h1;have g2:=kp hkeep h2;have g8:=kp hkeep h8;have g18:=kp hkeep h18;by_cases hlt:k < n
   ·have w1:Wr ((k:Int)+1)=k+1:=wz;have hc:=Za (lo:=lo) hh a b n k;have hl:=LB lo hi a b n k;have hst:wC lo hi a b n (k+1)=((wC lo hi a b n k).1.set k (lo (gd a 0#64 k) (gd b 0#64 k) (wC lo hi a b n k).2),hi (gd a 0#64 k) (gd b 0#64 k) (wC lo hi a b n k).2):=by rw [wC]
    have hS:=fun L h=>hf L h (gd a 0#64 k) (gd b 0#64 k) (wC lo hi a b n k).2 hc;generalize wC lo hi a b n k=q at*;obtain ⟨u,c⟩:=q;simp only at hl hc g9 hst hS;have ca:=fun L=>Zf L (hx h [cW u] []) x a (hx1.ext _ _) k;have cb:=fun L=>Zf L (hx h [cW u] []) y b (hy1.ext _ _) k;generalize hi (gd a 0#64 k) (gd b 0#64 k) c=c1,lo (gd a 0#64 k) (gd b 0#64 k) c=u1 at*;simp -implicitDefEqProofs [n9,V,g0,g1,g2,g8,g9,g18,g19,show (k:Int) < n by omega,hlt,ca,cb,hS,kF,hl,show k+1<=n by omega,w1,hst]
   ·have:k=n:=by omega
    subst this;simp [n9,g19,g18,g9])
 exact ⟨fr',rfl,h9',hk⟩
theorem zkj (L:az)(h:O)(x y:J)(a b:List ac)(hx1:iV h x a)(hy1:iV h y b)(n:Nat)(hn:n=max a.length b.length)(h0:0 < n)(hnn:n < 1000000):
  Z ah L Ap [x,y] h=some (.tup [.vsl false (eW (wN n (if val a < val b then val a+bN n - val b else val a - val b))),wd (if val a < val b then 1#64 else 0#64)],h):=by
 have he:∀ L,Z ah L xe [x,y,.fn (.func gx) [] []] (hx h [] [])=some (.tup [.vsl false (eW (wN n (if val a < val b then val a+bN n - val b else val a - val b))),wd (if val a < val b then 1#64 else 0#64)],hx h [] []):=by
  intro L;rw [LY];rw [Ns];have hm:=zff .i64 a.length b.length;rw [<- hn] at hm;obtain ⟨s1,s2⟩:=zgO a b n (by omega) (by omega);have e0:cW (tab n fun _=>0#64)=cW (wC BT Bc a b n 0).1:=rfl;have hl:=LB BT Bc a b n n;simp -implicitDefEqProofs [DF,V,hx1.1,hy1.1,hm,i7,ao,show (n:Int) < 274877906944 by omega,eR,bH,e0];generalize hF:run ah _ (.loop _) _ _=R;obtain ⟨fr1,rfl,h9,hk1⟩:=ZX x y a b hx1 hy1 n (by omega) gx BT Bc (fun L h x y c hc=>TM L h x y c (by simpa using hc)) (fun x y c hc=>(Is x y c hc).2) hF (by simp) (by simp) (by simp) (by simp) (by simp [OT]) (by simp) (by simp);have hfz:=Nb h [cW (wC BT Bc a b n n).1] [] h.toks.length 10 0 n (some n) (wC BT Bc a b n n).1 rfl hl;rw [s1] at hfz;rw [s2] at h9;simp -implicitDefEqProofs [hk1,h9,wr,n9,bj];rw [s1,hfz];simp
 rw [O4];simp -implicitDefEqProofs [GW,V,he]
def ZZ (h:O)(p:J)(m:List ac):Prop:=O5 p=some p/\∃ p0,Kw 0 p=some p0/\∀ bs ts,qk (hx h bs ts) p0 1 false=some (.vsl false (eW m))
theorem ZZ.ext {h:O}{p:J}{m:List ac}(hp:ZZ h p m)(bs:List (List J))(ts:List Nat):ZZ (hx h bs ts) p m:=by
 obtain ⟨h1,p0,h2,h3⟩:=hp;exact ⟨h1,p0,h2,fun bs' ts'=>by rw [LW];exact h3 _ _⟩
def modV (m:List ac)(i:ac)(q:List ac):J:=.vptr [.vsl false (eW m),wd i,.vsl false (eW q)] 0
theorem ZZ.modV (h:O)(m:List ac)(i:ac)(q:List ac):ZZ h (modV m i q) m:=
 ⟨by simp [Av.modV],.vptr [.vsl false (eW m),wd i,.vsl false (eW q)] 0,by simp [Av.modV],fun bs ts=>by simp⟩
theorem Th (x y:Nat):(decide (jU x y < 0))=decide (x < y):=by
 unfold jU;split
 ·simp [*]
 ·split <;> simp [*]
theorem Pg (L:az)(h:O)(p x x':J)(m a:List ac)(hp:ZZ h p m)(hr:iV h x a)(hold:∀ h1,frz h1 h.blks.length h.toks.length 12 x=some x')(hl:a.length < 1000000/\m.length < 1000000)(hlt:val a < val m):
  Z ah L fc [p,x,wd 0#64] h=some (x',h):=by
 rw [qM];obtain ⟨h1,p0,h2,h3⟩:=hp;have hc:=fun L=>VJ L (hx h [] []) x (.vsl false (eW m)) a m (hr.ext [] []) (iV.vsl _ _ _) hl;have e0:=Th (val a) (val m);rw [decide_eq_true hlt] at e0;simp -implicitDefEqProofs [gS,V,OT,uR,h1,h2,h3,hc,e0,hold]
theorem Ph (L:az)(h:O)(p x:J)(m a:List ac)(c:ac)(hp:ZZ h p m)(hr:iV h x a)(n:Nat)(hl:a.length=n/\m.length=n)(h0:0 < n)(hn:n < 1000000)(hlt:¬(c=0#64/\val a < val m)):
  Z ah L fc [p,x,wd c] h=some (.vsl false (eW (wN n (if val a < val m then val a+bN n - val m else val a - val m))),h):=by
 rw [qM];obtain ⟨h1,p0,h2,h3⟩:=hp;have hc:=fun L=>VJ L (hx h [] []) x (.vsl false (eW m)) a m (hr.ext [] []) (iV.vsl _ _ _) ⟨by omega,by omega⟩;have hs:=fun L=>zkj L (hx h [] []) x (.vsl false (eW m)) a m (hr.ext [] []) (iV.vsl _ _ _) n (by omega) h0 hn;generalize (if val a < val m then 1#64 else 0#64)=cc,wN n (if val a < val m then val a+bN n - val m else val a - val m)=r at*;by_cases hz:c=0#64
 ·have e0:=Th (val a) (val m);rw [decide_eq_false (fun q=>hlt ⟨hz,q⟩)] at e0;subst hz;simp -implicitDefEqProofs [gS,V,OT,uR,h1,h2,h3,hc,e0,hs]
 ·have e1:(c==0#64)=false:=beq_false_of_ne hz;simp -implicitDefEqProofs [gS,V,OT,uR,h1,h2,h3,hc,e1,hs]
theorem VN {fr:Fr}{h:O}{R:Option (dt × Fr × O)}(x:J)(a:List ac)(di:ac)(hr:iV h x a)(hn:a.length < 1000000)
  (hF:run ah (V h) (.loop cF) fr (hx h [cW (zU a di 0).1] [])=R)
  (h2:fr 2=wd di) (h7:fr 7=sA h.blks.length 0 0 1 a.length (some a.length)) (h13:fr 13=x) (h14:fr 14=Ii a.length) (h15:fr 15=Ii 0):
  ∃ fr',R=some (.exit 0,fr',hx h [cW (zU a di a.length).1] [])/\fr' 2=wd (zU a di a.length).2/\∀ t,t∉wr cF->fr' t=fr t:=by
 obtain ⟨r1,p,r2,r3⟩:=hr;obtain ⟨e,fr',h',rfl,⟨rfl,rfl,h2'⟩,hk⟩:=af hF a.length
  (fun k fr hh=>fr 15=Ii k/\fr 2=wd (zU a di k).2/\hh=hx h [cW (zU a di k).1] [])
  (fun e fr hh=>e=.exit 0/\hh=hx h [cW (zU a di a.length).1] []/\fr 2=wd (zU a di a.length).2)
  ⟨h15,h2,rfl⟩ (by
   rintro k fr1 hh hkN hkeep ⟨g15,g2,rfl⟩;have g7:=kp hkeep h7;have g13:=kp hkeep h13;have g14:=kp hkeep h14;by_cases hlt:k < a.length
   ·have w1:Wr ((k:Int)+1)=k+1:=wz;have hl:=Lc a di k;have hst:zU a di (k+1)=((zU a di k).1.set k (gd a 0#64 k <<< 1|||(zU a di k).2),gd a 0#64 k >>> 63):=by rw [zU]
    generalize zU a di k=q at*;obtain ⟨u,c⟩:=q;simp only at hl g2 hst;have s1:=Nz (gd a 0#64 k) .u64 1 (by decide);have s2:=yw (gd a 0#64 k) .u64 63 (by decide);simp only [Int.cast_ofNat_Int,Int.natCast_one] at s1 s2;have hrd:=r3 k [cW u] [] hlt;have hro:=r2 k hlt;generalize hgn:a.length=n at*;simp -implicitDefEqProofs [cF,V,g2,g7,g13,g14,g15,show (k:Int) < n by omega,hlt,hro,hrd,kF,hl,show k+1<=n by omega,w1,hst,s1,s2, -wV, -jz]
   ·have:k=a.length:=by omega
    subst this;simp [cF,g15,g14,g2])
 exact ⟨fr',rfl,h2',hk⟩
theorem Tk (L:az)(h:O)(p x:J)(m a:List ac)(di:ac)(hp:ZZ h p m)(hr:iV h x a)(n:Nat)(hl:a.length=n/\m.length=n)(h0:0 < n)(hn:n < 1000000)(hb:di.toNat<=1)(hlt:val a < val m):
  Z ah L fV [p,x,wd di] h=some (.vsl false (eW (wN n ((2*val a+di.toNat) % val m))),h):=by
 rw [zc];obtain ⟨hla,hlm⟩:=hl;have e0:cW (tab n fun _=>0#64)=cW (zU a di 0).1:=by rw [<- hla];rfl
 have htw:=zkh a di hb (val m) hlt (by rw [hla,<- hlm];exact oM m);simp -implicitDefEqProofs [nh,V,hr.1,hla,i7,ao,show (n:Int) < 274877906944 by omega,eR,bH,e0];generalize hF:run ah _ (.loop _) _ _=R;subst hla;obtain ⟨fr1,rfl,h2,hk1⟩:=VN x a di hr hn hF (by simp) (by simp) (by simp) (by simp) (by simp);have hlt':=Lc a di a.length;have hcc:=zcF a di hb a.length;generalize zU a di a.length=q at*;obtain ⟨u,c⟩:=q;simp only at*;have hru:iV (hx h [cW u] []) (sA h.blks.length 0 0 1 a.length (some a.length)) u:=iV.sA [] 0 a.length _ u hlt' rfl;have hpu:=hp.ext [cW u] [];have hfz:=Nb h [cW u] [] h.toks.length 11 0 a.length (some a.length) u rfl hlt';by_cases hca:c=0#64/\val u < val m
 ·have hless:=fun L=>Pg L (hx h [cW u] []) p _ (sA h.blks.length 0 0 1 a.length (some a.length)) m u hpu hru (fun h1=>Nc h1 _ _ 11 _ 0 1 a.length _ (by simp [aB])) ⟨by omega,by omega⟩ hca.2;obtain ⟨hc0,hum⟩:=hca;subst hc0;have hres:wN a.length ((2*val a+di.toNat) % val m)=u:=by
   rw [<- htw];unfold S8;rw [if_pos ⟨rfl,hum⟩];exact G4 hlt'
  simp -implicitDefEqProofs [hk1,h2,wr,cF,bj,hless,hfz,hres]
 ·have hless:=fun L=>Ph L (hx h [cW u] []) p _ m u c hpu hru a.length ⟨hlt',hlm⟩ h0 hn hca;have hres:(if val u < val m then val u+bN a.length - val m else val u - val m)=(2*val a+di.toNat) % val m:=by
   have hnn:¬(c.toNat=0/\val u < val m):=fun q=>hca ⟨BitVec.eq_of_toNat_eq q.1,q.2⟩;rw [<- htw,S8,if_neg hnn]
  rw [hres] at hless;simp -implicitDefEqProofs [hk1,h2,wr,cF,bj,hless]
def bl (x:Nat):Nat:=if x=0 then 0 else x.log2+1
theorem zjy (x:Nat):x < 2 ^ bl x:=by
 unfold bl;split
 ·subst x;decide
 ·rename_i h;exact (Nat.log2_lt h).1 (Nat.lt_succ_self _)
theorem Pi {x n:Nat}(h:x < 2 ^ n):bl x<=n:=by
 unfold bl;split
 ·omega
 ·rename_i h0;exact (Nat.log2_lt h0).2 h
theorem Hr {x s:Nat}(h:x / 2 ^ s≠0):bl x=s+bl (x / 2 ^ s):=by
 have hx:x≠0:=by rintro rfl;simp at h
 unfold bl;rw [if_neg hx,if_neg h];have h1:s+(x / 2 ^ s).log2<=x.log2:=by
  rw [Nat.le_log2 hx,Nat.pow_add];have:=(Nat.le_log2 h).1 (Nat.le_refl _)
  calc 2 ^ s*2 ^ (x / 2 ^ s).log2<=2 ^ s*(x / 2 ^ s):=Nat.mul_le_mul_left _ this
   _<=x:=Nat.mul_div_le _ _
 have h2:x.log2 < s+(x / 2 ^ s).log2+1:=by
  rw [Nat.log2_lt hx,Nat.add_assoc,Nat.pow_add];have:=(Nat.log2_lt h).1 (Nat.lt_succ_self _);rw [Nat.div_lt_iff_lt_mul (Nat.two_pow_pos s),Nat.mul_comm] at this;exact this
 omega
theorem zko:∀ v:Nat,v < 256->zfU (.str zcG) (.int .u8 (v:Int))=some (.int .u8 ((bl v:Nat):Int)):=by
 have key:∀ v:Fin 256,((zcG:ByteArray).data.toList[v.val]?).map (fun b=>b.toNat)=some (bl v.val):=by decide +kernel
 intro v hv;have:=key ⟨v,hv⟩;simp only [Option.map_eq_some_iff] at this;obtain ⟨b,h1,h2⟩:=this;simp only [zfU];rw [if_pos (by omega),Int.toNat_natCast,h1];simp [h2]
theorem zcT (L:az)(h:O)(x:ac):Z ah L mL [wd x] h=some (Ii ((bl x.toNat:Nat):Int),h):=by
 rw [D5];have c32:J.int .u64 4294967296=wd 4294967296#64:=rfl;have c16:J.int .u64 65536=wd 65536#64:=rfl;have c8:J.int .u64 256=wd 256#64:=rfl;have s32:=fun y:ac=>yw y .u64 32 (by decide);have s16:=fun y:ac=>yw y .u64 16 (by decide);have s8:=fun y:ac=>yw y .u64 8 (by decide);simp only [Int.cast_ofNat_Int] at s32 s16 s8;have t32:(4294967296#64:ac).toNat=4294967296:=rfl;have t16:(65536#64:ac).toNat=65536:=rfl;have t8:(256#64:ac).toNat=256:=rfl;have u32:∀ y:ac,(y >>> 32).toNat=y.toNat / 2 ^ 32:=fun y=>by rw [BitVec.toNat_ushiftRight,Nat.shiftRight_eq_div_pow]
 have u16:∀ y:ac,(y >>> 16).toNat=y.toNat / 2 ^ 16:=fun y=>by rw [BitVec.toNat_ushiftRight,Nat.shiftRight_eq_div_pow]
 have u8:∀ y:ac,(y >>> 8).toNat=y.toNat / 2 ^ 8:=fun y=>by rw [BitVec.toNat_ushiftRight,Nat.shiftRight_eq_div_pow]
 have hxl:=x.isLt;obtain ⟨x1,n1,hx1,e1,f1⟩:∃ (x1:ac) (n1:Nat),x1.toNat < 4294967296/\bl x.toNat=n1+bl x1.toNat/\((4294967296<=x.toNat/\x >>> 32=x1/\n1=32)\/(¬4294967296<=x.toNat/\x1=x/\n1=0)):=by
  by_cases hc:4294967296<=x.toNat
  ·exact ⟨x >>> 32,32,by rw [u32];omega,by rw [u32];exact Hr (by omega),.inl ⟨hc,rfl,rfl⟩⟩
  ·exact ⟨x,0,by omega,by omega,.inr ⟨hc,rfl,rfl⟩⟩
 obtain ⟨x2,n2,hx2,e2,f2⟩:∃ (x2:ac) (n2:Nat),x2.toNat < 65536/\bl x1.toNat=n2+bl x2.toNat/\((65536<=x1.toNat/\x1 >>> 16=x2/\n2=16)\/(¬65536<=x1.toNat/\x2=x1/\n2=0)):=by
  by_cases hc:65536<=x1.toNat
  ·exact ⟨x1 >>> 16,16,by rw [u16];omega,by rw [u16];exact Hr (by omega),.inl ⟨hc,rfl,rfl⟩⟩
  ·exact ⟨x1,0,by omega,by omega,.inr ⟨hc,rfl,rfl⟩⟩
 obtain ⟨x3,n3,hx3,e3,f3⟩:∃ (x3:ac) (n3:Nat),x3.toNat < 256/\bl x2.toNat=n3+bl x3.toNat/\((256<=x2.toNat/\x2 >>> 8=x3/\n3=8)\/(¬256<=x2.toNat/\x3=x2/\n3=0)):=by
  by_cases hc:256<=x2.toNat
  ·exact ⟨x2 >>> 8,8,by rw [u8];omega,by rw [u8];exact Hr (by omega),.inl ⟨hc,rfl,rfl⟩⟩
  ·exact ⟨x2,0,by omega,by omega,.inr ⟨hc,rfl,rfl⟩⟩
 have hT:=zko x3.toNat hx3;have hi:XA .u8 (wd x3)=some (.int .u8 (x3.toNat:Int)):=by
  unfold wd;rw [iL];congr 2;exact wrap_u8 (by omega) (by omega)
 have hbl:bl x3.toNat<=8:=Pi hx3;rw [e1,e2,e3];have hw:∀ n:Nat,n < 1000->IntKind.i64.wrap (n:Int)=n:=fun n hn=>eF n (by omega);have hw2:IntKind.i64.wrap ((bl x3.toNat:Nat):Int)=((bl x3.toNat:Nat):Int):=hw _ (by omega);generalize bl x3.toNat=b at*;clear e1 e2 e3;have hn1:IntKind.i64.wrap (((n1+n2+n3:Nat):Int)+(b:Int))=((n1+(n2+(n3+b)):Nat):Int):=by
  rw [<- Int.natCast_add,hw _ (by omega)];congr 1;omega
 have ws:IntKind.i64.wrap (32+16)=48/\IntKind.i64.wrap (32+8)=40/\IntKind.i64.wrap (48+8)=56/\IntKind.i64.wrap (16+8)=24/\IntKind.i64.wrap 16=16/\IntKind.i64.wrap 8=8/\IntKind.i64.wrap 48=48/\IntKind.i64.wrap 40=40/\IntKind.i64.wrap 56=56/\IntKind.i64.wrap 24=24:=⟨rfl,rfl,rfl,rfl,rfl,rfl,rfl,rfl,rfl,rfl⟩;obtain ⟨ws1,ws2,ws3,ws4,ws5,ws6,ws7,ws8,ws9,ws10⟩:=ws;rcases f1 with ⟨g1,q1,rfl⟩ | ⟨g1,rfl,rfl⟩
 ·rcases f2 with ⟨g2,q2,rfl⟩ | ⟨g2,rfl,rfl⟩
  ·rcases f3 with ⟨g3,q3,rfl⟩ | ⟨g3,rfl,rfl⟩
   ·simp only [Nat.zero_add,Nat.add_zero,Nat.reduceAdd,Int.cast_ofNat_Int,Int.natCast_zero] at hn1;simp -implicitDefEqProofs [bU,V,c32,c16,c8,DW,t32,t16,t8,g1,g2,g3,s32,s16,s8,hi,hT,hw2, -jz, -iL, -uT,ws1,ws2,ws3,ws4,ws5,ws6,hn1,q1,q2,q3]
    try (simp [hw2,ws7,ws8,ws9,ws10];try simpa using hn1)
   ·simp only [Nat.zero_add,Nat.add_zero,Nat.reduceAdd,Int.cast_ofNat_Int,Int.natCast_zero] at hn1;simp -implicitDefEqProofs [bU,V,c32,c16,c8,DW,t32,t16,t8,g1,g2,g3,s32,s16,s8,hi,hT,hw2, -jz, -iL, -uT,ws1,ws2,ws3,ws4,ws5,ws6,hn1,q1,q2]
    try (simp [hw2,ws7,ws8,ws9,ws10];try simpa using hn1)
  ·rcases f3 with ⟨g3,q3,rfl⟩ | ⟨g3,rfl,rfl⟩
   ·simp only [Nat.zero_add,Nat.add_zero,Nat.reduceAdd,Int.cast_ofNat_Int,Int.natCast_zero] at hn1;simp -implicitDefEqProofs [bU,V,c32,c16,c8,DW,t32,t16,t8,g1,g2,g3,s32,s16,s8,hi,hT,hw2, -jz, -iL, -uT,ws1,ws2,ws3,ws4,ws5,ws6,hn1,q1,q3]
    try (simp [hw2,ws7,ws8,ws9,ws10];try simpa using hn1)
   ·simp only [Nat.zero_add,Nat.add_zero,Nat.reduceAdd,Int.cast_ofNat_Int,Int.natCast_zero] at hn1;simp -implicitDefEqProofs [bU,V,c32,c16,c8,DW,t32,t16,t8,g1,g2,g3,s32,s16,s8,hi,hT,hw2, -jz, -iL, -uT,ws1,ws2,ws3,ws4,ws5,ws6,hn1,q1]
    try (simp [hw2,ws7,ws8,ws9,ws10];try simpa using hn1)
 ·rcases f2 with ⟨g2,q2,rfl⟩ | ⟨g2,rfl,rfl⟩
  ·rcases f3 with ⟨g3,q3,rfl⟩ | ⟨g3,rfl,rfl⟩
   ·simp only [Nat.zero_add,Nat.add_zero,Nat.reduceAdd,Int.cast_ofNat_Int,Int.natCast_zero] at hn1;simp -implicitDefEqProofs [bU,V,c32,c16,c8,DW,t32,t16,t8,g1,g2,g3,s32,s16,s8,hi,hT,hw2, -jz, -iL, -uT,ws1,ws2,ws3,ws4,ws5,ws6,hn1,q2,q3]
    try (simp [hw2,ws7,ws8,ws9,ws10];try simpa using hn1)
   ·simp only [Nat.zero_add,Nat.add_zero,Nat.reduceAdd,Int.cast_ofNat_Int,Int.natCast_zero] at hn1;simp -implicitDefEqProofs [bU,V,c32,c16,c8,DW,t32,t16,t8,g1,g2,g3,s32,s16,s8,hi,hT,hw2, -jz, -iL, -uT,ws1,ws2,ws3,ws4,ws5,ws6,hn1,q2]
    try (simp [hw2,ws7,ws8,ws9,ws10];try simpa using hn1)
  ·rcases f3 with ⟨g3,q3,rfl⟩ | ⟨g3,rfl,rfl⟩
   ·simp only [Nat.zero_add,Nat.add_zero,Nat.reduceAdd,Int.cast_ofNat_Int,Int.natCast_zero] at hn1;simp -implicitDefEqProofs [bU,V,c32,c16,c8,DW,t32,t16,t8,g1,g2,g3,s32,s16,s8,hi,hT,hw2, -jz, -iL, -uT,ws1,ws2,ws3,ws4,ws5,ws6,hn1,q3]
    try (simp [hw2,ws7,ws8,ws9,ws10];try simpa using hn1)
   ·simp only [Nat.zero_add,Nat.add_zero,Nat.reduceAdd,Int.cast_ofNat_Int,Int.natCast_zero] at hn1;simp -implicitDefEqProofs [bU,V,c32,c16,c8,DW,t32,t16,t8,g1,g2,g3,s32,s16,s8,hi,hT,hw2, -jz, -iL, -uT,ws1,ws2,ws3,ws4,ws5,ws6,hn1]
    try (simp [hw2,ws7,ws8,ws9,ws10];try simpa using hn1)
theorem Jb (n:Nat):bN n=2 ^ (64*n):=by unfold bN;rw [show (18446744073709551616:Nat)=2 ^ 64 from rfl,<- Nat.pow_mul]
theorem Yk:∀ (l:List ac) (q:Nat),val l / bN q % 18446744073709551616=(gd l 0#64 q).toNat
 | [],q=>by simp [val,gd]
 | w :: l, 0 => by
  have h:=w.isLt;simp only [val,Y7,Nat.div_one,gd,List.getD_cons_zero];omega
 | w :: l, q + 1 => by
  have h:=w.isLt;rw [ly,<- Nat.div_div_eq_div_mul];have:val (w :: l) / 18446744073709551616=val l:=by simp only [val];omega
  rw [this,Yk l q];rfl
theorem Yl (l:List ac)(i:Nat):(gd l 0#64 (i / 64) >>> (i % 64)&&&1#64).toNat=val l / 2 ^ i % 2:=by
 rw [BitVec.toNat_and,BitVec.toNat_ushiftRight,<- Yk,Nat.shiftRight_eq_div_pow,show (1#64:ac).toNat=2 ^ 1 - 1 from rfl,Nat.and_two_pow_sub_one_eq_mod];have e:2 ^ i=bN (i / 64)*2 ^ (i % 64):=by rw [Jb,<- Nat.pow_add];congr 1;omega
 rw [e,<- Nat.div_div_eq_div_mul];generalize val l / bN (i / 64)=x;have h1:=Nat.testBit_mod_two_pow x 64 (i % 64);have h2:i % 64 < 64:=Nat.mod_lt _ (by decide);rw [decide_eq_true h2,Bool.true_and] at h1;simp only [Nat.testBit_eq_decide_div_mod_eq,show (2:Nat) ^ 64=18446744073709551616 from rfl] at h1;have h3:(x % 18446744073709551616 / 2 ^ (i % 64) % 2=1)↔(x / 2 ^ (i % 64) % 2=1):=by simpa using h1
 generalize x % 18446744073709551616 / 2 ^ (i % 64)=u at*;generalize x / 2 ^ (i % 64)=v at*;show u % 2 ^ 1=v % 2;omega
theorem LZ {f:Nat->ac}{i:Nat}(h:f i≠0#64):∀ n,i < n->(∀ j,i < j->j < n->f j=0#64)->aQ f n=aQ f i+(f i).toNat*bN i
 | 0,hi,_=>by omega
 | n + 1, hi, hj => by
  by_cases hn:i=n
  ·subst hn;rfl
  ·rw [aQ,hj n (by omega) (by omega),LZ h n (by omega) fun j h1 h2=>hj j h1 (by omega)];simp
theorem zkt {f:Nat->ac}{i:Nat}(h:f i≠0#64)(n:Nat)(hi:i < n)(hj:∀ j,i < j->j < n->f j=0#64):bl (aQ f n)=64*i+bl (f i).toNat:=by
 have h1:=LZ h n hi hj;have h2:=Ig f i;have hd:aQ f n / 2 ^ (64*i)=(f i).toNat:=by
  rw [<- Jb,h1,Nat.add_mul_div_right _ _ (zeM i),Nat.div_eq_of_lt h2,Nat.zero_add]
 have h0:(f i).toNat≠0:=fun e=>h (BitVec.eq_of_toNat_eq e);rw [Hr (s:=64*i) (by rw [hd];exact h0),hd]
theorem Je : ∀ n, aQ (fun _ => 0#64) n = 0
 | 0=>rfl
 | n+1=>by rw [aQ,Je n];simp
theorem zac {fr:Fr}{h:O}{R:Option (dt × Fr × O)}(x:J)(a:List ac)(hr:iV h x a)(hn:a.length < 1000000)
  (hF:run ah (V h) (.loop ql) fr (hx h [] [])=R)
  (h0:fr 0=x) (h3:fr 3=Ii ((a.length:Int) - 1)):
  ∃ e fr',R=some (e,fr',hx h [] [])/\(e=.exit 0/\bl (val a)=0\/e=.ret/\fr' 2=Ii ((bl (val a):Nat):Int)):=by
 obtain ⟨r1,p,r2,r3⟩:=hr;have hva:=ix a a.length (Nat.le_refl _);obtain ⟨e,fr',h',rfl,⟨rfl,hp⟩,hk⟩:=af hF a.length
  (fun k fr hh=>fr 3=Ii ((a.length:Int) - 1 - k)/\hh=hx h [] []/\∀ j,a.length - k<=j->j < a.length->gd a 0#64 j=0#64)
  (fun e fr hh=>hh=hx h [] []/\(e=.exit 0/\bl (val a)=0\/e=.ret/\fr 2=Ii ((bl (val a):Nat):Int)))
  ⟨by rw [h3]; simp, rfl, fun j h1 h2 => by omega⟩ (by
   rintro k fr1 hh hkN hkeep ⟨g3,rfl,heq⟩;have g0:=kp hkeep h0;generalize hgn:a.length=n at*;by_cases hlt:k < n
   ·obtain ⟨i,hi⟩:∃ i:Nat,i=n - 1 - k:=⟨_,rfl⟩;have g3':fr1 3=Ii (i:Int):=by rw [g3];congr 1;omega
    have hin:i < n:=by omega
    have w1:Wr ((i:Int) - 1)=(n:Int) - 1 - ((k+1:Nat):Int):=wy;have hro:=r2 i hin;have hrd:=r3 i [] [] hin;by_cases hz:gd a 0#64 i=0#64
    ·rw [hz] at hrd;simp -implicitDefEqProofs [ql,V,g0,g3',show (0:Int)<=(i:Int) by omega,hro,hrd,OT,Xf,w1, -Lg];refine ⟨hlt,fun j h1 h2=>?_⟩;by_cases hj:j=i
     ·subst hj;exact hz
     ·exact heq j (by omega) h2
    ·have hb:=zkt (f:=gd a 0#64) hz n hin fun j h1 h2=>heq j (by omega) h2;have hbl:bl (gd a 0#64 i).toNat<=64:=Pi (gd a 0#64 i).isLt;have w2:Wr (64*(i:Int))=((64*i:Nat):Int):=wy;have w3:IntKind.i64.wrap (((64*i:Nat):Int)+((bl (gd a 0#64 i).toNat:Nat):Int))=((bl (aQ (gd a 0#64) n):Nat):Int):=by
      rw [hb];exact wy
     have hL:=fun L h=>zcT L h (gd a 0#64 i);rw [hva];have hne:(gd a 0#64 i !=0#64)=true:=bne_iff_ne.2 hz;generalize gd a 0#64 i=wv at*;generalize bl (aQ (gd a 0#64) n)=b2,bl wv.toNat=b at*;generalize hm:64*i=i64 at*;simp -implicitDefEqProofs [ql,V,g0,g3',show (0:Int)<=(i:Int) by omega,hro,hrd,OT,Xf,hne,hL,w2,w3, -Lg]
   ·have:k=n:=by omega
    subst this;have hz:(k:Int) - 1 - k= -1:=by omega
    rw [hz] at g3;have e0:aQ (gd a 0#64) k=0:=by
     rw [gO (g:=fun _=>0#64) k fun j hj=>heq j (by omega) hj,Je]
    simp [ql,g3];rw [hva,e0];rfl)
 exact ⟨e,fr',rfl,hp⟩
theorem Yo (L:az)(h:O)(x:J)(a:List ac)(hr:iV h x a)(hn:a.length < 1000000):Z ah L tp [x] h=some (Ii ((bl (val a):Nat):Int),h):=by
 rw [MD];have w1:Wr ((a.length:Int) - 1)=(a.length:Int) - 1:=wz;simp -implicitDefEqProofs [CZ,V,hr.1,w1];generalize hF:run ah _ (.loop _) _ _=R;obtain ⟨e,fr1,rfl,hp⟩:=zac x a hr hn hF (by simp) (by simp);rcases hp with ⟨rfl,h0⟩ | ⟨rfl,h2⟩
 ·simp [h0]
 ·simp [h2]
theorem F8:∀ a b:List Int,bi (a++b)=bi a+bi b*256 ^ a.length
 | [],b=>by simp [bi]
 | x :: a, b => by
  simp only [List.cons_append,bi,F8 a b,List.length_cons,Nat.pow_succ];generalize 256 ^ a.length=q;generalize bi b=y;generalize bi a=z
  grind
theorem Ys (b:List Int)(hb:cw b)(n:Nat)(hn:b.length<=8*n):val (EH b n b.length)=bi b:=by
 rw [ix _ n (by simp)];have key:∀ m,m<=n->aQ (gd (EH b n b.length) 0#64) m=bi (b.take (8*m)):=by
  intro m
  induction m with
  | zero=>intro _;simp [aQ,bi]
  | succ m ih=>
   intro hm;rw [aQ,ih (by omega),WS b hb n b.length (Nat.le_refl _) hn m (by omega)];have hc:bck b m b.length=(b.take (8*m+8)).drop (8*m):=by
    unfold bck;by_cases h:b.length<=8*m+8
    ·rw [Nat.min_eq_left h,List.take_of_length_le (Nat.le_refl _),List.take_of_length_le h]
    ·rw [Nat.min_eq_right (by omega)]
   have hs:b.take (8*(m+1))=b.take (8*m)++(b.take (8*m+8)).drop (8*m):=by
    have:=(List.take_append_drop (8*m) (b.take (8*m+8))).symm;rw [List.take_take,Nat.min_eq_left (by omega)] at this;rw [show 8*(m+1)=8*m+8 by omega];exact this
   rw [hc,hs,F8];by_cases h:8*m<=b.length
   ·rw [List.length_take,Nat.min_eq_left h,bN,Nat.pow_mul]
   ·rw [List.drop_eq_nil_of_le (by simp;omega)];simp [bi]
 rw [key n (Nat.le_refl _),List.take_of_length_le hn]
theorem VW {fr:Fr}{h:O}{R:Option (dt × Fr × O)}(x:J)(b:List Int)(hr:IY h .u8 x b)(hb:b.length < 10000000000)(n:Nat)(hn:n=(b.length+7) / 8)
  (hF:run ah (V h) (.loop l5) fr (hx h [cW (EH b n 0)] [])=R)
  (h3:fr 3=sA h.blks.length 0 0 1 n (some n)) (h11:fr 11=x) (h12:fr 12=Ii b.length) (h13:fr 13=Ii 0):
  ∃ fr',R=some (.exit 0,fr',hx h [cW (EH b n b.length)] [])/\∀ t,t∉wr l5->fr' t=fr t:=by
 obtain ⟨r1,p,r2,r3⟩:=hr;obtain ⟨e,fr',h',rfl,⟨rfl,rfl⟩,hk⟩:=af hF b.length
  (fun k fr hh=>fr 13=Ii k/\hh=hx h [cW (EH b n k)] [])
  (fun e fr hh=>e=.exit 0/\hh=hx h [cW (EH b n b.length)] [])
  ⟨h13,rfl⟩ (by
   rintro k fr1 hh hkN hkeep ⟨g13,rfl⟩;have g3:=kp hkeep h3;have g11:=kp hkeep h11;have g12:=kp hkeep h12;generalize hgn:b.length=len at*;by_cases hlt:k < len
   ·have w1:Wr ((k:Int)+1)=k+1:=wz;have t1:(k:Int).tdiv 8=((k / 8:Nat):Int):=vS k 8;have t2:=eF (k / 8) (by omega);have t3:(k:Int).tmod 8=((k % 8:Nat):Int):=rt k 8;have t4:IntKind.i64.wrap (8*((k % 8:Nat):Int))=((8*(k % 8):Nat):Int):=by
     rw [<- eF (8*(k % 8)) (by omega)];simp only [Int.natCast_mul,Int.cast_ofNat_Int]
    have hq:k / 8 < n:=by omega
    have hb64:8*(k % 8)<=64:=by omega
    have hst:EH b n (k+1)=(EH b n k).set (k / 8) (gd (EH b n k) 0#64 (k / 8)|||(bw (gd b 0 k) <<< (8*(k % 8)))):=by rw [EH]
    have hl:=Lx b n k;have hro:=r2 k hlt;have hrd:=r3 k [cW (EH b n k)] [] hlt;generalize k / 8=q,k % 8=r,8*(k % 8)=s,EH b n k=u at*;have hsl:=Nz (bw (gd b 0 k)) .i64 s (by simpa using hb64);simp -implicitDefEqProofs [l5,V,g3,g11,g12,g13,show (k:Int) < len by omega,hro,hrd,t1,t2,t3,t4,eN,bQ,kF,hq,hl,show q+1<=n by omega,hsl,w1,hst,hlt, -iL, -wV]
   ·have:k=len:=by omega
    subst this;simp [l5,g13,g12])
 exact ⟨fr',rfl,hk⟩
theorem L6 (L:az)(h:O)(x:J)(b:List Int)(hr:IY h .u8 x b)(hb:b.length < 10000000000):
  Z ah L nR [x] h=some (.vsl false (eW (EH b ((b.length+7) / 8) b.length)),h):=by
 rw [KE];have w1:Wr ((b.length:Int)+7)=(b.length:Int)+7:=wz;have t1:((b.length:Int)+7).tdiv 8=(((b.length+7) / 8:Nat):Int):=vS (b.length+7) 8;have t2:=eF ((b.length+7) / 8) (by omega);have hbig:(((b.length+7) / 8:Nat):Int) < 274877906944:=by omega
 generalize hn:(b.length+7) / 8=n at*;have e0:cW (tab n fun _=>0#64)=cW (EH b n 0):=rfl;simp -implicitDefEqProofs [Ba,V,hr.1,w1,t1,t2,eN,i7,ao,hbig,eR,bH,e0];generalize hF:run ah _ (.loop _) _ _=R;obtain ⟨fr1,rfl,hk1⟩:=VW x b hr hb n hn.symm hF (by simp) (by simp) (by simp) (by simp);have hfz:=Nb h [cW (EH b n b.length)] [] h.toks.length 11 0 n (some n) (EH b n b.length) rfl (by simp);simp -implicitDefEqProofs [hk1,wr,l5,bj,hfz]
theorem zag (n : Nat) : val (tab n fun _ => (0#64 : ac)) = 0 := by
 have e:aQ (gd (tab n fun _=>(0#64:ac)) 0#64) n=aQ (fun _=>0#64) n:=gO n fun j hj=>dZ hj;rw [ix _ n (by simp),e,Je]
theorem Q2 (n:Nat):wN n 0=tab n fun _=>0#64:=val_inj (by simp) (by rw [zag,pE n 0 (zeM n)])
theorem zah (v m i:Nat)(hm:0 < m):(2*(v / 2 ^ (i+1) % m)+v / 2 ^ i % 2) % m=v / 2 ^ i % m:=by
 have h1:v / 2 ^ (i+1)=v / 2 ^ i / 2:=by rw [Nat.pow_succ,Nat.div_div_eq_div_mul]
 rw [h1];generalize v / 2 ^ i=x;rw [Nat.add_mod,Nat.mul_mod_mod,<- Nat.add_mod]
 congr 1
 omega
theorem Tu {fr:Fr}{h:O}{R:Option (dt × Fr × O)}(p x:J)(m a:List ac)(hp:ZZ h p m)(hr:iV h x a)(hn:a.length < 1000000)(hm0:0 < m.length/\m.length < 1000000)(h0m:0 < val m)
  (hF:run ah (V h) (.loop iz) fr (hx h [cW (tab m.length fun _=>0#64)] [])=R)
  (h0:fr 0=p) (h1:fr 1=x) (h5:fr 5=sA h.blks.length 0 0 1 m.length (some m.length)) (h6:fr 6=Ii (((bl (val a):Nat):Int) - 1)):
  ∃ fr',R=some (.exit 0,fr',hx h [cW (tab m.length fun _=>0#64)] [])/\(fr' 5=.vsl false (eW (wN m.length (val a % val m)))\/fr' 5=sA h.blks.length 0 0 1 m.length (some m.length)/\wN m.length (val a % val m)=tab m.length fun _=>0#64):=by
 obtain ⟨r1,pp,r2,r3⟩:=hr;have hN:bl (val a)<=64*a.length:=Pi (by rw [<- Jb];exact oM a);have hvN:val a / 2 ^ bl (val a)=0:=Nat.div_eq_of_lt (zjy _);obtain ⟨e,fr',h',rfl,⟨rfl,rfl,h5'⟩,hk⟩:=af hF (bl (val a))
  (fun k fr hh => fr 6 = Ii (((bl (val a) : Nat) : Int) - 1 - k) /\ hh = hx h [cW (tab m.length fun _ => 0#64)] [] /\
   (fr 5=.vsl false (eW (wN m.length (val a / 2 ^ (bl (val a) - k) % val m)))\/fr 5=sA h.blks.length 0 0 1 m.length (some m.length)/\wN m.length (val a / 2 ^ (bl (val a) - k) % val m)=tab m.length fun _=>0#64))
  (fun e fr hh=>e=.exit 0/\hh=hx h [cW (tab m.length fun _=>0#64)] []/\(fr 5=.vsl false (eW (wN m.length (val a % val m)))\/fr 5=sA h.blks.length 0 0 1 m.length (some m.length)/\wN m.length (val a % val m)=tab m.length fun _=>0#64))
  ⟨by rw [h6]; simp, rfl, .inr ⟨h5, by rw [Nat.sub_zero, hvN, Nat.zero_mod, Q2]⟩⟩ (by
   rintro k fr1 hh hkN hkeep ⟨g6,rfl,g5⟩;have g0:=kp hkeep h0;have g1:=kp hkeep h1;by_cases hlt:k < bl (val a)
   ·obtain ⟨i,hi⟩:∃ i:Nat,i=bl (val a) - 1 - k:=⟨_,rfl⟩;have e1:bl (val a) - k=i+1:=by omega
    have e2:bl (val a) - (k+1)=i:=by omega
    have hst:=zah (val a) (val m) i h0m;have hvb:=Yl a i;have hbit:(gd a 0#64 (i / 64) >>> (i % 64)&&&1#64).toNat<=1:=by rw [hvb];omega
    have hvm:val m < bN m.length:=oM m;have hrest:=Nat.mod_lt (val a / 2 ^ (i+1)) h0m;have hvw:=pE m.length (val a / 2 ^ (i+1) % val m) (by omega);have hil:i / 64 < a.length:=by omega
    rw [e1] at g5;have hrw : iV (hx h [cW (tab m.length fun _ => 0#64)] []) (fr1 5) (wN m.length (val a / 2 ^ (i + 1) % val m)) := by
     rcases g5 with g | ⟨g,gz⟩
     ·rw [g];exact iV.vsl _ _ _
     ·rw [g,gz];exact iV.sA [] 0 m.length _ _ (by simp) rfl
    have htw:=fun L=>Tk L (hx h [cW (tab m.length fun _=>0#64)] []) p (fr1 5) m _ (gd a 0#64 (i / 64) >>> (i % 64)&&&1#64) (hp.ext _ _) hrw m.length ⟨by simp,rfl⟩ hm0.1 hm0.2 hbit (by rw [hvw];exact hrest);rw [hvw,hvb,hst] at htw;have g6':fr1 6=Ii (i:Int):=by rw [g6];congr 1;omega
    have w1:Wr ((i:Int) - 1)=((bl (val a):Nat):Int) - 1 - ((k+1:Nat):Int):=wy;have t1:(i:Int).tdiv 64=((i / 64:Nat):Int):=vS i 64;have t2:=eF (i / 64) (by omega);have t3:(i:Int).tmod 64=((i % 64:Nat):Int):=rt i 64;have hro:=r2 (i / 64) hil;have hrd:=r3 (i / 64) [cW (tab m.length fun _=>0#64)] [] hil;have hsh:=yw (gd a 0#64 (i / 64)) .i64 (i % 64) (by simp;omega);have hand:aV .and (wd (gd a 0#64 (i / 64) >>> (i % 64))) (wd 1#64)=some (wd (gd a 0#64 (i / 64) >>> (i % 64)&&&1#64)):=Be _ _;generalize i / 64=iq,i % 64=ir,gd a 0#64 (i / 64)=wq,gd a 0#64 (i / 64) >>> (i % 64)=sh,gd a 0#64 (i / 64) >>> (i % 64)&&&1#64=di at*;simp -implicitDefEqProofs [iz,V,g0,g1,g6',show (0:Int)<=(i:Int) by omega,t1,t2,t3,eN,bQ,hro,hrd,hsh,wd1,hand,htw,w1, -jz, -wS, -Be,e2];exact hlt
   ·have:k=bl (val a):=by omega
    subst this;have hz:((bl (val a):Nat):Int) - 1 - ((bl (val a):Nat):Int)= -1:=by omega
    rw [hz] at g6;rw [Nat.sub_self,Nat.pow_zero,Nat.div_one] at g5;simp [iz,g6];exact g5)
 exact ⟨fr',rfl,h5'⟩
theorem zak (L:az)(h:O)(p x:J)(m a:List ac)(hp:ZZ h p m)(hr:iV h x a)(hn:a.length < 1000000)(hm0:0 < m.length/\m.length < 1000000)(h0m:0 < val m):
  Z ah L ja [p,x] h=some (.vsl false (eW (wN m.length (val a % val m))),h):=by
 rw [ya];obtain ⟨p1,p0,p2,p3⟩:=id hp;have hB:=fun L bs=>Yo L (hx h bs []) x a (hr.ext bs []) hn;have hN:bl (val a)<=64*a.length:=Pi (by rw [<- Jb];exact oM a);have w1:Wr (((bl (val a):Nat):Int) - 1)=((bl (val a):Nat):Int) - 1:=wz;have hbig:((m.length:Nat):Int) < 274877906944:=by omega
 simp -implicitDefEqProofs [mn,V,p1,p2,p3,i7,ao,hbig,eR,bH,hB,w1];generalize hF:run ah _ (.loop _) _ _=R;obtain ⟨fr1,rfl,h5⟩:=Tu p x m a hp hr hn hm0 h0m hF (by simp) (by simp) (by simp) (by simp);rcases h5 with h5 | ⟨h5,hz⟩
 ·simp -implicitDefEqProofs [h5]
 ·have hfz:=Nb h [cW (tab m.length fun _=>0#64)] [] h.toks.length 11 0 m.length (some m.length) _ rfl (by simp);rw [hz];simp -implicitDefEqProofs [h5,hfz]
theorem VZ (L:az)(h:O)(bs:List (List J))(ts:List Nat)(y:J)(l:List ac)(hy:aN (hx h bs ts) 1 y=some (eW l))(hl:decide (0 < l.length)=true)(hl2:decide (l.length < 1000000)=true):
  ka L (hx h bs ts) 1 false (.vsl true []) y=some (gA h.toks.length ts.length (eW l),hx h bs (ts++[l.length])):=by
 have h1:0 < l.length:=by simpa using hl
 have h2:l.length < 1000000:=by simpa using hl2
 have hne:eW l≠[]:=fun e=>by have:=congrArg List.length e;simp at this;subst this;simp at h1
 have h3:l.length < ao:=by unfold ao;omega
 have hs:eo 1 ([]:List (List J))=true:=rfl;simp only [ka,hy,Option.bind_some,Jw,if_true,C6,zh1,hs,if_neg hne,List.nil_append,List.length_nil,Nat.zero_add,zmq,if_pos h3];simp [iT,gA,hx,ptok]
theorem Tw (L:az)(h:O)(x:J)(l:List ac)(hr:LsW h x l)(hne:GF .slc x .nsl=some false)(hl:0 < l.length/\l.length < 1000000):Z ah L cJ [x] h=some (.vsl false (eW l),h):=by
 rw [se];have hy:=hr.2 [] [];have ha:=fun L=>VZ L h [] [] x l hy (by simp [hl.1]) (by simp [hl.2]);simp -implicitDefEqProofs [il,V,hne,al,rep,chunks,ha]
def wF (m0:ac):Nat->ac
 | 0=>1#64
 | k+1=>wF m0 k*(2#64 - m0*wF m0 k)
theorem zan (m0:ac)(k:Nat):wF m0 (k+1)=wF m0 k*(2#64 - m0*wF m0 k):=rfl
theorem zap {L:az}{fr:Fr}{H:O}{R:Option (dt × Fr × O)}(x:J)(m0:ac)(q0:J)(hro:bO none 1 x (Ii 0)=some q0)(hrd:qk H q0 1 false=some (wd m0))
  (hF:run ah L (.loop j1) fr H=R)
  (h0:fr 0=x) (h5:fr 5=wd 1#64) (h45:fr 45=Ii 0):
  ∃ fr',R=some (.exit 0,fr',H)/\fr' 5=wd (wF m0 6)/\∀ t,t∉wr j1->fr' t=fr t:=by
 obtain ⟨e,fr',h',rfl,⟨rfl,rfl,h5'⟩,hk⟩:=af hF 6
  (fun k fr hh=>fr 45=Ii k/\fr 5=wd (wF m0 k)/\hh=H)
  (fun e fr hh=>e=.exit 0/\hh=H/\fr 5=wd (wF m0 6))
  ⟨h45,h5,rfl⟩ (by
   rintro k fr1 hh hkN hkeep ⟨g45,g5,rfl⟩;have g0:=kp hkeep h0;by_cases hlt:k < 6
   ·have w1:Wr ((k:Int)+1)=k+1:=wz;have e2:J.int .u64 2=wd 2#64:=rfl;have hst:=zan m0 k;generalize wF m0 k=q at*;simp -implicitDefEqProofs [j1,g45,g5,g0,hlt,show (k:Int) < 6 by omega,w1,e2,hst,hro,hrd]
   ·have:k=6:=by omega
    subst this;simp [j1,g45,g5])
 exact ⟨fr',rfl,h5',hk⟩
def EX (m k:Nat):Nat:=2 ^ k % m
theorem Pu (m k:Nat):(2*EX m k+0) % m=EX m (k+1):=by
 unfold EX;rw [Nat.add_zero,Nat.mul_mod_mod,Nat.pow_succ,Nat.mul_comm]
def sqV (n:Nat)(nb:Nat)(m k:Nat)(v:J):Prop:=v=.vsl false (eW (wN n (EX m k)))\/k=0/\v=sA nb 1 0 1 n (some n)
theorem zar {fr:Fr}{h:O}{R:Option (dt × Fr × O)}(m:List ac)(i:ac)(v0:J)(hm0:0 < m.length/\m.length < 100)(hm1:1 < val m)
  (hF:run ah (V h) (.loop p7) fr (hx h [[.vsl false (eW m),wd i,v0],cW (wN m.length 1)] [])=R)
  (hv0:v0=sA h.blks.length 1 0 1 m.length (some m.length))
  (h4:fr 4=pA h.blks.length 0 0) (h74:fr 74=Ii ((128*m.length:Nat):Int)) (h75:fr 75=Ii 0):
  ∃ fr' v,R=some (.exit 2,fr',hx h [[.vsl false (eW m),wd i,v],cW (wN m.length 1)] [])/\sqV m.length h.blks.length (val m) (128*m.length) v/\∀ t,t∉wr p7->fr' t=fr t:=by
 obtain ⟨e,fr',h',rfl,⟨rfl,v,hv,rfl⟩,hk⟩:=af hF (128*m.length)
  (fun k fr hh=>fr 75=Ii k/\∃ v,sqV m.length h.blks.length (val m) k v/\hh=hx h [[.vsl false (eW m),wd i,v],cW (wN m.length 1)] [])
  (fun e fr hh=>e=.exit 2/\∃ v,sqV m.length h.blks.length (val m) (128*m.length) v/\hh=hx h [[.vsl false (eW m),wd i,v],cW (wN m.length 1)] [])
  ⟨h75,v0,.inr ⟨rfl,hv0⟩,rfl⟩ (by
   rintro k fr1 hh hkN hkeep ⟨g75,v,hv,rfl⟩;have g4:=kp hkeep h4;have g74:=kp hkeep h74;generalize hN:128*m.length=N at*;by_cases hlt:k < N
   ·have w1:Wr ((k:Int)+1)=k+1:=wz;have hvm:val m < bN m.length:=oM m;have hrest:EX (val m) k < val m:=Nat.mod_lt _ (by omega);have hvw:=pE m.length (EX (val m) k) (by omega);have h1m:EX (val m) 0=1:=by unfold EX;rw [Nat.pow_zero,Nat.mod_eq_of_lt hm1]
    have hrw:iV (hx h [[.vsl false (eW m),wd i,v],cW (wN m.length 1)] []) v (wN m.length (EX (val m) k)):=by
     rcases hv with g | ⟨rfl,g⟩
     ·subst g;exact iV.vsl _ _ _
     ·subst g;rw [h1m];exact iV.sA [] 1 m.length _ _ (by simp) rfl
    have hpt:ZZ (hx h [[.vsl false (eW m),wd i,v],cW (wN m.length 1)] []) (pA h.blks.length 0 0) m:=
     ⟨by simp,pA h.blks.length 0 0,by simp,fun bs ts=>by rw [LW,Ts];simp [ap]⟩
    have htw:=fun L=>Tk L _ (pA h.blks.length 0 0) v m _ 0#64 hpt hrw m.length ⟨by simp,rfl⟩ hm0.1 (by omega) (by decide) (by rw [hvw];exact hrest);rw [hvw,show (0#64:ac).toNat=0 from rfl,Pu] at htw;simp -implicitDefEqProofs [p7,V,g4,g74,g75,show (k:Int) < N by omega,ap,OT,htw,w1];exact ⟨hlt,_,.inl rfl,rfl⟩
   ·have:k=N:=by omega
    subst this;simp [p7,g74,g75];exact ⟨v,hv,rfl⟩)
 exact ⟨fr',v,rfl,hv,hk⟩
theorem zkA (h:O)(bs:List (List J))(ts:List Nat)(nt n i off:Nat)(cs:List J)(hb:bs[i]?=some cs)(hu:aE h.blks.length nt cs=true):
  frz (hx h bs ts) h.blks.length nt (n+1) (pA h.blks.length i off)=some (.vptr cs off):=by
 have e1:(hx h bs ts).blks[h.blks.length+i]?=some cs:=BG ts hb;simp only [pA,frz];rw [if_neg (by omega),e1];simp [VY,hu]
theorem Pv (n : Nat)(h : 0 < n) : (tab n fun _ => (0#64 : ac)).set 0 1#64 = wN n 1 := by
 refine val_inj (by simp) ?_;rw [pE n 1 (by have:=Nat.one_lt_pow (a:=18446744073709551616) (n:=n) (by omega) (by decide);exact this)];rw [ix _ n (by simp)];have e0:gd ((tab n fun _=>(0#64:ac)).set 0 1#64) 0#64 0=1#64:=by rw [pB _ _ _ _ _ (by simpa using h),if_pos rfl]
 rw [LZ (i:=0) (by rw [e0];decide) n h fun j h1 h2=>by rw [pB _ _ _ _ _ (by simpa using h),if_neg (by omega),dZ h2],e0];rfl
theorem lN (n:Nat):aL (wd 0#64) n=cW (tab n fun _=>0#64):=bH n
theorem zkB (L:az)(h:O)(x:J)(m:List ac)(hr:LsW h x m)(hne:GF .slc x .nsl=some false)(hm0:0 < m.length/\m.length<=16)(hm1:1 < val m)
  (hodd:gd m 0#64 0&&&1#64≠0#64) (htop:gd m 0#64 (m.length - 1)≠0#64) (hone:m.length≠1):
  Z ah L Ag [x] h=some (.tup [modV m (-(wF (gd m 0#64 0) 6)) (wN m.length (EX (val m) (128*m.length))),Ii 0],h):=by
 rw [OL];obtain ⟨r1,p,r2,r3⟩:=id hr.1;have hro0:=r2 0 hm0.1;have hrd0:=fun bs ts=>r3 0 bs ts hm0.1;have hroT:=r2 (m.length - 1) (by omega);have hrdT:=r3 (m.length - 1) [] [] (by omega);have hc:=fun L=>Tw L (hx h [] []) x m (hr.ext [] []) hne ⟨hm0.1,by omega⟩;have wT:Wr ((m.length:Int) - 1)=((m.length - 1:Nat):Int):=wy;have w128:Wr (128*(m.length:Int))=((128*m.length:Nat):Int):=wy;have bo:(gd m 0#64 0&&&1#64==0#64)=false:=beq_false_of_ne hodd;have bt:(gd m 0#64 (m.length - 1)==0#64)=false:=beq_false_of_ne htop;have hlast:=Pu (val m) 0;simp only [Int.natCast_zero] at hro0;have hand:aV .and (wd (gd m 0#64 0)) (wd 1#64)=some (wd (gd m 0#64 0&&&1#64)):=Be _ _;have hS:=fun fr v0 R=>zar (fr:=fr) (h:=h) (R:=R) m (-(wF (gd m 0#64 0) 6)) v0 ⟨hm0.1,by omega⟩ hm1;have hI:=fun L fr H R=>zap (L:=L) (fr:=fr) (H:=H) (R:=R) x (gd m 0#64 0) (p 0) hro0;have hset:=Pv m.length hm0.1;generalize gd m 0#64 0&&&1#64=mo at*;generalize hm0v:gd m 0#64 0=mz at*;generalize gd m 0#64 (m.length - 1)=mt at*;generalize hmt:m.length - 1=nt at*;generalize hnn:m.length=n at*;have b1:¬((n:Int) < 1):=by omega
 have b2:¬(16 < (n:Int)):=by omega
 have b3:((n:Int)==1)=false:=beq_false_of_ne (by omega);have ia0 : ∀ (i off : Nat) (cap : Option Nat), bO none 1 (sA h.blks.length i off 1 n cap) (Ii 0) = some (pA h.blks.length i off) := fun i off cap => by
  have:=kF h.blks.length i off n 0 cap (by simp;omega);simpa using this
 simp -implicitDefEqProofs [Hf,V,r1,b1,b2,b3,hro0,hrd0,wd1,OT,hand,uR,bo,bt,hroT,hrdT,wT, -wS, -Be,hc,al,aF,J.okV,J.cells];generalize hF:run ah _ (.loop _) _ _=R;obtain ⟨fr1,rfl,h5,hk1⟩:=hI _ _ _ _ (hrd0 _ _) hF (by simp) (by simp) (by simp);simp -implicitDefEqProofs [hk1,h5,wr,j1,bj,V,r1,hrd0,PG,i7,ao,show (n:Int) < 274877906944 by omega,ap,eR,bH,lN,hset,show 1<=n by omega,hm0.1,w128,ia0,OT,wd1];generalize hF:run ah _ (.loop _) _ _=R;obtain ⟨fr2,v,rfl,hv,hk2⟩:=hS _ _ _ hF rfl (by simp [hk1,wr,j1,bj]) (by simp [hk1,wr,j1,bj]) (by simp);have hv2:v=.vsl false (eW (wN n (EX (val m) (128*n)))):=by
  rcases hv with g | ⟨g,_⟩
  ·exact g
  ·omega
 subst hv2;have hfz:=zkA h [[.vsl false (eW m),wd (-(wF mz 6)),.vsl false (eW (wN n (EX (val m) (128*n))))],cW (wN n 1)] [] h.toks.length 10 0 0 _ rfl (by simp [aE,J.under];rfl);simp -implicitDefEqProofs [hk1,hk2,wr,j1,p7,bj,hfz,modV]
theorem Md (n:Nat)(c:Bool)(l:List ac)(h0:0 < n)(h:n<=l.length):zfY n (.vsl c (eW l))=some (.vptr (cW (l.take n)) 0):=by
 rw [AG,SA n c .u64 (sf l) (by simp [h0,h]),JD,<- xm]
theorem TF:∀ {a b:List ac},sf a=sf b->a=b
 | [],[],_=>rfl
 | [],y :: b,h=>by simp [sf] at h
 | x :: a,[],h=>by simp [sf] at h
 | x :: a, y :: b, h => by
  simp only [sf,List.map_cons,List.cons.injEq] at h;rw [TF (a:=a) (b:=b) h.2]
  congr 1
  exact BitVec.eq_of_toNat_eq (Int.ofNat.inj h.1)
theorem zkD (a b:List ac)(n:Nat)(ha:a.length=n)(hb:b.length=n):GF (.agg (aL .i n)) (.agg (cW a)) (.agg (cW b))=some (decide (a=b)):=by
 rw [xm,xm,zks .u64 n (sf a) (sf b) (by simpa using ha) (by simpa using hb)]
 congr 1
 by_cases h:a=b
 ·subst h;simp
 ·rw [decide_eq_false h];refine beq_false_of_ne fun e=>h ?_;exact TF e
theorem Q3 {α:Type}{bs:List α}{i:Nat}{x:α}(js:List α)(h:bs[i]?=some x):(bs++js)[i]?=some x:=by
 rw [List.getElem?_append_left (List.getElem?_eq_some_iff.1 h).1,h]
theorem iQ {α:Type}(bs js:List α)(n k:Nat)(h:n=bs.length):(bs++js)[n+k]?=js[k]?:=by
 subst h;rw [List.getElem?_append_right (Nat.le_add_right _ _),Nat.add_sub_cancel_left]
theorem lL {α:Type}(bs js:List α)(n k:Nat)(x:α)(h:n=bs.length):(bs++js).set (n+k) x=bs++js.set k x:=by
 subst h;rw [List.set_append_right _ _ (Nat.le_add_right _ _),Nat.add_sub_cancel_left]
theorem Ev (h:O)(bs js:List (List J))(ts:List Nat)(n:Nat)(hn:n=bs.length):fY (hx h (bs++js) ts) (h.blks.length+n) (h.toks.length+ts.length)=hx h bs ts:=by
 subst hn;unfold fY hx;have e : ∀ {α : Type} (a b c : List α), (a ++ (b ++ c)).take (a.length + b.length) = a ++ b := fun a b c => by
  rw [<- List.append_assoc,<- List.length_append];exact List.take_left
 simp only [e];rw [<- List.length_append,List.take_length]
def dB:Nat:=4294967296
def vD:List ac->Nat
 | []=>0
 | x :: l=>x.toNat+dB*vD l
def Dg (l:List ac):Prop:=∀ i,(gd l 0#64 i).toNat < dB
theorem Gg {l:List ac}{i:Nat}(h:l.length<=i):gd l 0#64 i=0#64:=by
 unfold gd;simp [List.getD,List.getElem?_eq_none h]
theorem Tv (x:ac)(l:List ac):gd (x :: l) 0#64 0=x:=rfl
theorem Ma (x:ac)(l:List ac)(i:Nat):gd (x :: l) 0#64 (i+1)=gd l 0#64 i:=rfl
theorem Dg.tail {x:ac}{l:List ac}(h:Dg (x :: l)):Dg l:=fun i=>h (i+1)
theorem Dg.head {x:ac}{l:List ac}(h:Dg (x :: l)):x.toNat < dB:=h 0
theorem Dg.nil:Dg []:=fun i=>by rw [Gg (by simp)];decide
theorem Dg.cons {x : ac}{l : List ac}(h1 : x.toNat < dB)(h : Dg l) : Dg (x :: l) := fun i => match i with
 | 0=>h1
 | i+1=>h i
theorem Dg.take {l : List ac}(h : Dg l)(n : Nat) : Dg (l.take n) := fun i => by
 by_cases hi:i < n
 ·rw [wR hi];exact h i
 ·rw [Gg (by simp;omega)];decide
theorem Dg.tab {n : Nat}{f : Nat -> ac}(h : ∀ i, i < n -> (f i).toNat < dB) : Dg (tab n f) := fun i => by
 by_cases hi:i < n
 ·rw [dZ hi];exact h i hi
 ·rw [Gg (by simp;omega)];decide
def sD (f:Nat->ac):Nat->Nat
 | 0=>0
 | k+1=>sD f k+(f k).toNat*dB ^ k
theorem HC {f g:Nat->ac}:∀ {n:Nat},(∀ i,i < n->f i=g i)->sD f n=sD g n
 | 0,_=>rfl
 | n+1,h=>by unfold sD;rw [HC fun i hi=>h i (by omega),h n (by omega)]
theorem TA (f : Nat -> ac) : ∀ n, sD f (n + 1) = (f 0).toNat + dB * sD (fun i => f (i + 1)) n
 | 0=>by simp [sD]
 | n + 1 => by
  rw [sD,TA f n,sD,Nat.mul_add,Nat.add_assoc,Nat.pow_succ]
  congr 2
  rw [Nat.mul_comm dB,Nat.mul_assoc]
theorem wZ:∀ (l:List ac) (n:Nat),l.length<=n->vD l=sD (gd l 0#64) n
 | [], n, _ => by
  have:∀ n,sD (gd ([]:List ac) 0#64) n=0:=by
   intro n
   induction n with
   | zero=>rfl
   | succ n ih=>rw [sD,ih];simp [gd,List.getD]
  rw [this];rfl
 | x :: l,0,h=>by simp at h
 | x :: l, n + 1, h => by
  rw [TA,vD,wZ l n (by simpa using h)];rfl
theorem Yv {f:Nat->ac}:∀ {n:Nat},(∀ i,i < n->(f i).toNat < dB)->sD f n < dB ^ n
 | 0,_=>by simp [sD]
 | n + 1, h => by
  have a:=Yv (f:=f) (n:=n) fun i hi=>h i (by omega);have b:=h n (by omega);have:(f n).toNat*dB ^ n+dB ^ n<=dB*dB ^ n:=by
   rw [<- Nat.succ_mul];exact Nat.mul_le_mul_right _ b
  rw [sD,Nat.pow_succ,Nat.mul_comm (dB ^ n)];omega
theorem zn4 {l:List ac}(h:Dg l):vD l < dB ^ l.length:=by
 rw [wZ l _ (Nat.le_refl _)];exact Yv fun i _=>h i
theorem V6 (n:Nat)(f:Nat->ac):vD (tab n f)=sD f n:=by
 rw [wZ _ n (by simp)];exact HC fun i hi=>dZ hi
def Pz (l:List ac):Prop:=Dg l/\(l=[]\/gd l 0#64 (l.length - 1)≠0#64)
theorem Pz.nil:Pz []:=⟨Dg.nil,.inl rfl⟩
theorem Pz.tail {x:ac}{l:List ac}(h:Pz (x :: l)):Pz l:=⟨h.1.tail,by
 cases l with
 | nil=>exact .inl rfl
 | cons y l=>
  right
  rcases h.2 with e | e
  ·cases e
  ·simpa [Ma] using e⟩
theorem toNat_ne {x:ac}(h:x≠0#64):x.toNat≠0:=fun e=>h (BitVec.eq_of_toNat_eq e)
theorem Pz.pos:∀ {l:List ac},Pz l->l≠[]->vD l≠0
 | [],_,h=>absurd rfl h
 | [x], h, _ => by
  rcases h.2 with e | e
  ·cases e
  ·have:=toNat_ne (x:=x) e;unfold vD;omega
 | x :: y :: l, h, _ => by
  have:=Pz.pos h.tail (by simp);have hB:dB=4294967296:=rfl;unfold vD;rw [hB];omega
theorem Pz.uniq:∀ {l m:List ac},Pz l->Pz m->vD l=vD m->l=m
 | [],[],_,_,_=>rfl
 | [],y :: m,_,h,e=>absurd e.symm (h.pos (by simp))
 | x :: l,[],h,_,e=>absurd e (h.pos (by simp))
 | x :: l, y :: m, h, h2, e => by
  have a:=h.1.head;have b:=h2.1.head;have hB:dB=4294967296:=rfl;unfold vD at e;rw [hB] at e a b;have e1:x=y:=BitVec.eq_of_toNat_eq (by omega);have e2:vD l=vD m:=by subst e1;omega
  rw [e1,Pz.uniq h.tail h2.tail e2]
def dgF:Nat->Nat->List ac
 | 0,_=>[]
 | f+1,n=>if n=0 then [] else BitVec.ofNat 64 (n % dB) :: dgF f (n / dB)
def dg (n:Nat):List ac:=dgF n n
theorem V8:∀ (f n:Nat),n<=f->Pz (dgF f n)/\vD (dgF f n)=n
 | 0, n, h => ⟨Pz.nil, by
  have:n=0:=by omega
  subst this;rfl⟩
 | f + 1, n, h => by
  unfold dgF;by_cases h0:n=0
  ·rw [if_pos h0];exact ⟨Pz.nil,h0.symm⟩
  ·rw [if_neg h0];have hB:dB=4294967296:=rfl;have hlt:n % dB < dB:=by rw [hB];omega
   have hx:(BitVec.ofNat 64 (n % dB):ac).toNat=n % dB:=by
    rw [BitVec.toNat_ofNat];rw [hB] at*;omega
   obtain ⟨a,b⟩:=V8 f (n / dB) (by
    have:n / dB<=n / 2:=Nat.div_le_div_left (by rw [hB];omega) (by omega);omega)
   refine ⟨⟨Dg.cons (by rw [hx];exact hlt) a.1,.inr ?_⟩,?_⟩
   ·cases hd:dgF f (n / dB) with
    | nil=>
     rw [hd] at b;have:n / dB=0:=b.symm;intro e;have e2:=congrArg BitVec.toNat e;simp only [List.length_cons,List.length_nil] at e2;rw [show (0+1 - 1)=0 from rfl,Tv,hx] at e2;rw [hB] at*;simp at e2;omega
    | cons y l=>
     rw [hd] at a;rcases a.2 with e | e
     ·cases e
     ·simpa [Ma] using e
   ·rw [vD,hx,b,hB];omega
theorem V9 (n:Nat):Pz (dg n):=(V8 n n (Nat.le_refl _)).1
@[simp] theorem j7 (n:Nat):vD (dg n)=n:=(V8 n n (Nat.le_refl _)).2
theorem xb (n:Nat):Dg (dg n):=(V9 n).1
theorem zjE {l:List ac}(h:Pz l):l=dg (vD l):=Pz.uniq h (V9 _) (j7 _).symm
theorem Gq {n k:Nat}(h:n < dB ^ k):(dg n).length<=k:=by
 refine Nat.le_of_not_lt fun hk=>?_;rcases (V9 n).2 with e | e
 ·rw [e] at hk;simp at hk
 ·have h1:=wZ (dg n) (dg n).length (Nat.le_refl _);obtain ⟨m,hm⟩:∃ m,(dg n).length=m+1:=⟨(dg n).length - 1,by omega⟩;rw [hm] at e h1;simp only [Nat.add_sub_cancel] at e;rw [j7,sD] at h1;have:=toNat_ne e;have h2:dB ^ k<=dB ^ m:=Nat.pow_le_pow_right (by decide) (by omega);have h3:dB ^ m<=(gd (dg n) 0#64 m).toNat*dB ^ m:=Nat.le_mul_of_pos_left _ (by omega);omega
theorem zn6 (n i:Nat):(gd (dg n) 0#64 i).toNat=n / dB ^ i % dB:=by
 have key:∀ (l:List ac),Dg l->∀ i,(gd l 0#64 i).toNat=vD l / dB ^ i % dB:=by
  intro l
  induction l with
  | nil=>intro _ i;simp [gd,List.getD,vD]
  | cons x l ih=>
   intro h i;have hB:0 < dB:=by decide
   cases i with
   | zero=>rw [Tv,vD,Nat.pow_zero,Nat.div_one,Nat.add_mul_mod_self_left,Nat.mod_eq_of_lt h.head]
   | succ i=>
    rw [Ma,ih h.tail i,vD,Nat.pow_succ,Nat.mul_comm (dB ^ i),<- Nat.div_div_eq_div_mul,Nat.add_mul_div_left _ _ hB,Nat.div_eq_of_lt h.head,Nat.zero_add]
 rw [key _ (xb n),j7]
def yR (l:List ac):Nat->Nat
 | 0=>0
 | k + 1 => match gd l 0#64 k == 0#64 with
  | true=>yR l k
  | false=>k+1
theorem Yy (l:List ac):∀ k,yR l k<=k
 | 0=>Nat.le_refl _
 | k + 1 => by
  unfold yR;split
  ·have:=Yy l k;omega
  ·exact Nat.le_refl _
theorem Yz (l:List ac)(h:Dg l):∀ k,k<=l.length->vD (l.take k)=vD (l.take (yR l k))/\Pz (l.take (yR l k))
 | 0,_=>⟨rfl,Pz.nil⟩
 | k + 1, hk => by
  unfold yR
  cases h0:gd l 0#64 k==0#64 with
  | true=>
   obtain ⟨a,b⟩:=Yz l h k (by omega);refine ⟨?_,b⟩;simp only;rw [<- a,wZ (l.take (k+1)) (k+1) (by simp;omega),wZ (l.take k) (k+1) (by simp;omega)];refine HC fun i hi=>?_;by_cases hik:i < k
   ·rw [wR hi,wR hik]
   ·have:i=k:=by omega
    subst this;rw [wR hi,Gg (l:=l.take i) (by simp;omega)];exact beq_iff_eq.1 h0
  | false=>
   refine ⟨rfl,h.take _,.inr ?_⟩;simp only;rw [List.length_take,Nat.min_eq_left hk,Nat.add_sub_cancel,wR (by omega)];intro e;rw [e] at h0;simp at h0
theorem zho {l:List ac}(h:Dg l):l.take (yR l l.length)=dg (vD l):=by
 obtain ⟨a,b⟩:=Yz l h l.length (Nat.le_refl _);rw [List.take_length] at a;rw [zjE b,<- a]
end Go.Av
