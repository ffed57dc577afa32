/- The document's digest, tag, sponge of bytes and samples. -/
import Derived.Test.YtbookmjmhfoolaaGreatDoorC3
import Derived.Test.YtbookmjmhfoolaaGreatDoorV5
import Derived.Test.YtbookmjmhfoolaaGreatDoorCD
import Derived.Test.YtbookmjmhfoolaaGreatDoorC8
import Derived.Test.YtbookmjmhfoolaaGreatDoorC4
import Derived.Test.YtbookmjmhfoolaaGreatDoorC2
import Derived.Test.YtbookmjmhfoolaaGreatDoorCC
import Derived.Test.YtbookmjmhfoolaaGreatDoorC5
set_option linter.unusedSimpArgs false
set_option linter.unusedVariables false
set_option maxHeartbeats 2000000
set_option maxRecDepth 20000
namespace Go.Av
@[simp] theorem zsV (k:IntKind)(l:List Int)(i:Nat)(h:i < (cI k l).length):(cI k l)[i]=.int k (gd l 0 i):=by
 have:=NG (k:=k) (l:=l) (i:=i) (by simpa using h);rw [List.getElem?_eq_getElem h] at this;exact sj this
def Y3 (a b:Int):Int:=((a.toNat ^^^ b.toNat:Nat):Int)
theorem zhy {L:az}{fr:Fr}{H:O}{R:Option (cL × Fr × O)}(a b:Nat)(ha:a < 256)(hb:b < 256)
  (hF:run ah L (.loop iV) fr H=R)
  (h5:fr 5=Ii 0) (h6:fr 6=Ii 1) (h7:fr 7=Ii a) (h8:fr 8=Ii b) (h9:fr 9=Ii 0):
  ∃ fr',R=some (.exit 0,fr',H)/\fr' 5=Ii ((a ^^^ b:Nat):Int):=by
 have hab:(a ^^^ b) % 2 ^ 8=a ^^^ b:=Nat.mod_eq_of_lt (Nat.xor_lt_two_pow (n:=8) ha hb);obtain ⟨e,fr',h',rfl,⟨rfl,rfl,h3'⟩,hk⟩:=af hF 8
  (fun k fr hh=>fr 9=Ii k/\fr 5=Ii (((a ^^^ b) % 2 ^ k:Nat):Int)/\fr 6=Ii ((2 ^ k:Nat):Int)/\fr 7=Ii ((a / 2 ^ k:Nat):Int)/\fr 8=Ii ((b / 2 ^ k:Nat):Int)/\hh=H)
  (fun e fr hh=>e=.exit 0/\hh=H/\fr 5=Ii ((a ^^^ b:Nat):Int))
  ⟨h9, by simpa [Nat.mod_one] using h5, h6, by simpa using h7, by simpa using h8, rfl⟩ (by
   rintro k fr1 hh hkN hkeep ⟨g9,g5,g6,g7,g8,rfl⟩;by_cases hlt:k < 8
   ·have w0:Wr ((k:Int)+1)=k+1:=wz;have hp2:2 ^ k<=128:=by
     have:2 ^ k<=2 ^ 7:=Nat.pow_le_pow_right (by decide) (by omega);simpa using this
    have hstep:(a ^^^ b) % 2 ^ (k+1)=(a ^^^ b) % 2 ^ k+2 ^ k*((a ^^^ b) / 2 ^ k % 2):=Nat.mod_pow_succ;have tc:=Nat.testBit_eq_decide_div_mod_eq (x:=a ^^^ b) (i:=k);rw [Nat.testBit_xor] at tc;have ta:=Nat.testBit_eq_decide_div_mod_eq (x:=a) (i:=k);have tb:=Nat.testBit_eq_decide_div_mod_eq (x:=b) (i:=k);have hda:a / 2 ^ (k+1)=a / 2 ^ k / 2:=by rw [Nat.pow_succ,Nat.div_div_eq_div_mul]
    have hdb:b / 2 ^ (k+1)=b / 2 ^ k / 2:=by rw [Nat.pow_succ,Nat.div_div_eq_div_mul]
    have hp3:2 ^ (k+1)=2*2 ^ k:=by rw [Nat.pow_succ,Nat.mul_comm]
    have hmlt:(a ^^^ b) % 2 ^ k < 2 ^ k:=Nat.mod_lt _ (Nat.two_pow_pos k);have hal:a / 2 ^ k<=a:=Nat.div_le_self _ _;have hbl:b / 2 ^ k<=b:=Nat.div_le_self _ _;have hPI:(2:Int) ^ (k+1)=((2*2 ^ k:Nat):Int):=by rw [<- hp3,Int.natCast_pow];rfl
    have hAI:(a:Int) / 2 ^ (k+1)=((a / 2 ^ k / 2:Nat):Int):=by rw [<- hda,Int.natCast_ediv,Int.natCast_pow];rfl
    have hBI:(b:Int) / 2 ^ (k+1)=((b / 2 ^ k / 2:Nat):Int):=by rw [<- hdb,Int.natCast_ediv,Int.natCast_pow];rfl
    have hMI:(((a ^^^ b:Nat):Int)) % 2 ^ (k+1)=(((a ^^^ b) % 2 ^ (k+1):Nat):Int):=by rw [Int.natCast_emod,Int.natCast_pow];rfl
    rw [hPI] at hAI hBI hMI;rw [ta,tb] at tc;have hc2:(a ^^^ b) / 2 ^ k % 2 < 2:=Nat.mod_lt _ (by decide);generalize 2 ^ k=pk,b / 2 ^ k=y,a / 2 ^ k=x,(a ^^^ b) % 2 ^ k=m,(a ^^^ b) % 2 ^ (k+1)=m1,(a ^^^ b) / 2 ^ k % 2=c at*;have t1:(x:Int).tmod 2=((x % 2:Nat):Int):=sv x 2;have t2:(y:Int).tmod 2=((y % 2:Nat):Int):=sv y 2;have t3:=VS x;have t4:=VS y;have w1:=eK (x / 2) (by omega);have w2:=eK (y / 2) (by omega);have w3:Wr ((pk:Int)*2)=((2*pk:Nat):Int):=wy;have w4:Wr ((m:Int)+(pk:Int))=((m+pk:Nat):Int):=wy;by_cases hne:x % 2=y % 2
    ·have hc0:c=0:=by
      rw [hne] at tc;simp at tc;omega
     have hm:m1=m:=by rw [hstep,hc0];simp
     have hq:(((x % 2:Nat):Int)==((y % 2:Nat):Int))=true:=by simp [hne]
     generalize x / 2=xh at*;generalize 2*pk=pk2,y % 2=yl,x % 2=xl,y / 2=yh at*;simp [iV,g5,g6,g7,g8,g9,hlt,show (k:Int) < 8 by omega,w0,t1,t2,t3,t4,w1,w2,w3,bC,da,bne,hq,hPI];exact ⟨by rw [hMI,hm],hAI.symm,hBI.symm⟩
    ·have hm:m1=m+pk:=by
      have hc1:c=1:=by
       have hx:x % 2=0\/x % 2=1:=by omega
       have hy:y % 2=0\/y % 2=1:=by omega
       rcases hx with hx | hx <;> rcases hy with hy | hy <;> simp [hx,hy] at hne tc <;> omega
      rw [hstep,hc1,Nat.mul_one]
     have hq:(((x % 2:Nat):Int)==((y % 2:Nat):Int))=false:=beq_false_of_ne (by omega);generalize m+pk=mp,2*pk=pk2,y % 2=yl,x % 2=xl,y / 2=yh,x / 2=xh at*;simp [iV,g5,g6,g7,g8,g9,hlt,show (k:Int) < 8 by omega,w0,t1,t2,t3,t4,w1,w2,w3,w4,bC,da,bne,hq,hPI];exact ⟨by rw [hMI,hm],hAI.symm,hBI.symm⟩
   ·have:k=8:=by omega
    subst this;rw [hab] at g5;simp [iV,g9,g5])
 exact ⟨fr',rfl,h3'⟩
theorem zoq (L:az)(h:O)(a b:Int)(ha:0<=a/\a < 256)(hb:0<=b/\b < 256):aa ah L mR [.int .u8 a,.int .u8 b] h=some (.int .u8 (Y3 a b),h):=by
 obtain ⟨x,rfl⟩:∃ k:Nat,a=k:=⟨a.toNat,by omega⟩;obtain ⟨y,rfl⟩:∃ k:Nat,b=k:=⟨b.toNat,by omega⟩;rw [Ei];have w1:=eK x (by omega);have w2:=eK y (by omega);simp [qR,w1,w2];generalize hF:run ah _ (.loop _) _ _=R;obtain ⟨fr2,rfl,q1⟩:=zhy x y (by omega) (by omega) hF (by simp) (by simp) (by simp) (by simp) (by simp);have hlt:x ^^^ y < 2 ^ 8:=Nat.xor_lt_two_pow (by omega) (by omega);have w3:IntKind.u8.wrap ((x ^^^ y:Nat):Int)=((x ^^^ y:Nat):Int):=wrap_u8 (by omega) (by omega);simp [q1,w3,Y3]
def gn (n:Nat):Nat:=(136 - (n+1) % 136) % 136
def xa (b:List Int)(k:Nat):List Int:=b++[6]++List.replicate k 0
def qJ (b:List Int):List Int:=(xa b (gn b.length)).set (b.length+gn b.length) (IntKind.u8.wrap (gd (xa b (gn b.length)) 0 (b.length+gn b.length)+128))
@[simp] theorem Ow (b:List Int)(k:Nat):(xa b k).length=b.length+1+k:=by simp [xa];omega
theorem zdD (b:List Int)(k:Nat):xa b k++[0]=xa b (k+1):=by simp [xa,List.replicate_succ']
theorem zhE {fr:Fr}{h:O}{R:Option (cL × Fr × O)}(b:List Int)(hn:b.length < 100000000000)(bs0:List (List J))(ts:List Nat)
  (hF:run ah (V h) (.loop lB) fr (hx h (bs0++[cI .u8 (xa b 0)]) ts)=R)
  (h3:fr 3=sA h.blks.length bs0.length 0 1 (b.length+1) none):
  ∃ fr' bs',R=some (.exit 0,fr',hx h (bs'++[cI .u8 (xa b (gn b.length))]) ts)/\fr' 3=sA h.blks.length bs'.length 0 1 (b.length+1+gn b.length) none:=by
 obtain ⟨e,fr',h',rfl,⟨rfl,bs',rfl,h3'⟩,hk⟩:=af hF (gn b.length)
  (fun k fr hh=>∃ bs',hh=hx h (bs'++[cI .u8 (xa b k)]) ts/\fr 3=sA h.blks.length bs'.length 0 1 (b.length+1+k) none)
  (fun e fr hh=>e=.exit 0/\∃ bs',hh=hx h (bs'++[cI .u8 (xa b (gn b.length))]) ts/\fr 3=sA h.blks.length bs'.length 0 1 (b.length+1+gn b.length) none)
  ⟨bs0,rfl,h3⟩ (by
   rintro k fr1 hh hkN hkeep ⟨bs',rfl,g3⟩;have hz:gn b.length < 136:=Nat.mod_lt _ (by decide);have t1:((b.length+1+k:Nat):Int).tmod 136=(((b.length+1+k) % 136:Nat):Int):=sv _ 136;by_cases hlt:k < gn b.length
   ·have hne:(b.length+1+k) % 136≠0:=by unfold gn at hlt;omega
    have hq:((((b.length+1+k) % 136:Nat):Int)==0)=false:=beq_false_of_ne (by omega);have ha:=SI (V h) h (bs'++[cI .u8 (xa b k)]) ts bs'.length (b.length+1+k) .u8 (xa b k) [0] true (by simp) (by simp [V,am];omega);rw [zdD] at ha;have e1:(bs'++[cI .u8 (xa b k)]).set bs'.length []=bs'++[[]]:=by simp
    rw [e1] at ha;generalize (b.length+1+k) % 136=m at*;have hass:b.length+1+(k+1)=b.length+1+k+1:=rfl;generalize b.length+1+k=n at*;simp [lB,g3,t1,bC,bne,hq,ak,rep,J.cells,J.okV,chunks,fx,ha,hlt,hass];exact ⟨bs'++[[]],by simp,by simp⟩
   ·have:k=gn b.length:=by omega
    subst this;have h0:(b.length+1+gn b.length) % 136=0:=by unfold gn;omega
    rw [h0] at t1;generalize hn1:b.length+1+gn b.length=n at*;simp [lB,g3,t1,bC,bne];exact ⟨bs',rfl,rfl⟩)
 exact ⟨fr',bs',rfl,h3'⟩
theorem zos (L:az)(h:O)(c:Bool)(b:List Int)(hn:b.length < 100000000000):aa ah L mQ [.vsl c (eI .u8 b)] h=some (.vsl false (eI .u8 (qJ b)),h):=by
 rw [Eh];have key:∃ bs0,jm (V h) (hx h [] []) 1 true (.vsl true []) (.vsl false (eI .u8 b))=some (if b=[] then .vsl true [] else sA h.blks.length 0 0 1 b.length none,hx h (if b=[] then [] else [cI .u8 b]) [])/\
   jm (V h) (hx h (if b=[] then [] else [cI .u8 b]) []) 1 true (if b=[] then .vsl true [] else sA h.blks.length 0 0 1 b.length none) (.vsl true (eI .u8 [6]))=some (sA h.blks.length bs0.length 0 1 (b.length+1) none,hx h (bs0++[cI .u8 (xa b 0)]) []):=by
  by_cases hb:b=[]
  ·subst hb;refine ⟨[],?_,?_⟩
   ·simpa using zch (V h) h [] [] 1 (.vsl true []) false
   ·have:=zu (V h) h [] [] 1 true [] (eI .u8 [6]) (by simp [am];rfl);simpa [xa,eI,cI] using this
  ·have hpos:0 < b.length:=List.length_pos_iff.2 hb;refine ⟨[[]],?_,?_⟩
   ·rw [if_neg hb,if_neg hb];have:=zu (V h) h [] [] 1 false [] (eI .u8 b) (by simp [am,hpos];exact ⟨rfl,by omega⟩);simpa [Br] using this
   ·rw [if_neg hb,if_neg hb];have:=SI (V h) h [cI .u8 b] [] 0 b.length .u8 b [6] true (by simp) (by simp [V,am,hpos];omega);simpa [xa] using this
 obtain ⟨bs0,k1,k2⟩:=key;have hz:gn b.length < 136:=Nat.mod_lt _ (by decide);simp [qQ,rep,chunks,ak,J.cells,J.okV,k1,k2,fx];generalize hF:run ah _ (.loop _) _ _=R;obtain ⟨fr',bs',rfl,e1⟩:=zhE b hn bs0 [] hF (by simp);have w1:Wr (((b.length+1+gn b.length:Nat):Int) - 1)=((b.length+gn b.length:Nat):Int):=wy;have hlen:=Ow b (gn b.length);have hpad:qJ b=(xa b (gn b.length)).set (b.length+gn b.length) (IntKind.u8.wrap (gd (xa b (gn b.length)) 0 (b.length+gn b.length)+128)):=rfl;have hplen:(qJ b).length=b.length+1+gn b.length:=by rw [hpad,List.length_set,hlen]
 have hi:b.length+gn b.length < b.length+1+gn b.length:=by omega
 have hget:(cI .u8 (xa b (gn b.length)))[b.length+gn b.length]?=some (.int .u8 (gd (xa b (gn b.length)) 0 (b.length+gn b.length))):=NG (by rw [hlen];omega);generalize b.length+gn b.length=m,b.length+1+gn b.length=n at*;have hmn:m+1<=n:=hi;have hf:=fun n' nt=>G6 h (bs'++[cI .u8 (qJ b)]) [] nt n' bs'.length n none .u8 (qJ b) (by simp) (by omega);rw [List.take_of_length_le (by omega)] at hf;simp [e1,w1,om,hi,V,hlen,hmn,<- hpad,hf]
def uN (s p:List Int)(at_:Nat)(i:Nat):Int:=if i < 136 then Y3 (gd s 0 i) (gd p 0 (at_+i)) else gd s 0 i
def Mx (p:List Int):Nat->List Int
 | 0=>tab 200 fun _=>0
 | k+1=>aS (lq (cg (tab 200 (uN (Mx p k) p (136*k)))))
@[simp] theorem zov (b:List Int):(cg b).length=25:=by simp [cg]
@[simp] theorem zkU (p:List Int):∀ k,(Mx p k).length=200
 | 0=>by simp [Mx]
 | k+1=>by simp [Mx,fN]
theorem zdI (l : List ac) : ce (aS l) := fun i hi => by
 unfold aS at hi |-;rw [dY (by simpa using hi)];unfold Pl;omega
theorem zkV (p:List Int):∀ k,ce (Mx p k)
 | 0=>fun i hi=>by simp only [Mx] at hi |-;rw [dY (by simpa using hi)];omega
 | k+1=>by rw [Mx];exact zdI _
theorem Y8 {fr:Fr}{h:O}{R:Option (cL × Fr × O)}(s p:List Int)(hs:s.length=200)(hsB:ce s)(hpB:ce p)(at_:Nat)(hat:at_+136<=p.length)(hp:p.length < 200000000000)(bs:List (List J))(ts:List Nat)(i:Nat)(cap:Option Nat)(hb:bs[i]?=some (cI .u8 s))
  (hF:run ah (V h) (.loop fI) fr (hx h bs ts)=R)
  (h3:fr 3=.vsl false (eI .u8 p)) (h4:fr 4=sA h.blks.length i 0 1 200 cap) (h5:fr 5=Ii at_) (h6:fr 6=Ii 0):
  ∃ fr',R=some (.exit 2,fr',hx h (bs.set i (cI .u8 (tab 200 (uN s p at_)))) ts)/\∀ t,t∉wr fI->fr' t=fr t:=by
 have hi:=(List.getElem?_eq_some_iff.1 hb).1;have hself:bs.set i (cI .u8 s)=bs:=by
  refine List.ext_getElem? fun j=>?_;by_cases e:i=j
  ·subst e;rw [List.getElem?_set_self hi,hb]
  ·rw [List.getElem?_set_ne e]
 obtain ⟨e,fr',h',rfl,⟨rfl,rfl⟩,hk⟩:=af hF 136
  (fun k fr hh=>fr 6=Ii k/\hh=hx h (bs.set i (cI .u8 (cY 200 (uN s p at_) (gd s 0) k))) ts)
  (fun e fr hh=>e=.exit 2/\hh=hx h (bs.set i (cI .u8 (tab 200 (uN s p at_)))) ts)
  ⟨h6, by rw [kT, <- Fg 0 hs, hself]⟩ (by
   rintro k fr1 hh hkN hkeep ⟨g6,rfl⟩;have g3:=kp hkeep h3;have g4:=kp hkeep h4;have g5:=kp hkeep h5;by_cases hlt:k < 136
   ·have w0:Wr ((k:Int)+1)=k+1:=wz;have w1:Wr ((at_:Int)+(k:Int))=((at_+k:Nat):Int):=wy;have hset:=nz 200 (uN s p at_) (gd s 0) k;have hv:uN s p at_ k=Y3 (gd s 0 k) (gd p 0 (at_+k)):=by unfold uN;rw [if_pos hlt]
    rw [hv] at hset;have hx1:=fun L h=>zoq L h (gd s 0 k) (gd p 0 (at_+k)) (hsB k (by omega)) (hpB (at_+k) (by omega));have b0:gd (cY 200 (uN s p at_) (gd s 0) k) 0 k=gd s 0 k:=Mh (by omega);have hML:=DH 200 (uN s p at_) (gd s 0) k;generalize hM1:cY 200 (uN s p at_) (gd s 0) (k+1)=M1 at*;generalize cY 200 (uN s p at_) (gd s 0) k=M0 at*;have hq:at_+k < p.length:=by omega
    generalize at_+k=q at*;simp [fI,V,g3,g4,g5,g6,hlt,show (k:Int) < 136 by omega,w0,w1,om,pI,show k < 200 by omega,show k<=199 by omega,hq,hi,hML,b0,hx1,hset]
    try rw [hM1]
   ·have:k=136:=by omega
    subst this;have e0 : cY 200 (uN s p at_) (gd s 0) 136 = tab 200 (uN s p at_) := bj fun j hj => by
     by_cases hj:j < 136
     ·rw [if_pos hj]
     ·rw [if_neg hj];unfold uN;rw [if_neg hj]
    simp [fI,g6,e0])
 exact ⟨fr',rfl,hk⟩
theorem zlB {fr:Fr}{h:O}{R:Option (cL × Fr × O)}(p:List Int)(hpB:ce p)(n:Nat)(hn:p.length=136*n)(hn0:0 < n)(hp:p.length < 200000000000)
  (hF:run ah (V h) (.loop lM) fr (hx h [cI .u8 (Mx p 0)] [])=R)
  (h3:fr 3=.vsl false (eI .u8 p)) (h4:fr 4=sA h.blks.length 0 0 1 200 (some 200)) (h5:fr 5=Ii 0):
  ∃ fr' bs',R=some (.exit 0,fr',hx h (bs'++[cI .u8 (Mx p n)]) [])/\fr' 4=sA h.blks.length bs'.length 0 1 200 none:=by
 obtain ⟨e,fr',h',rfl,⟨rfl,bs',cap,rfl,hc,h4'⟩,hk⟩:=af hF n
  (fun k fr hh=>fr 5=Ii ((136*k:Nat):Int)/\∃ bs' cap,hh=hx h (bs'++[cI .u8 (Mx p k)]) []/\(0 < k->cap=none)/\fr 4=sA h.blks.length bs'.length 0 1 200 cap)
  (fun e fr hh=>e=.exit 0/\∃ bs' cap,hh=hx h (bs'++[cI .u8 (Mx p n)]) []/\(0 < n->cap=none)/\fr 4=sA h.blks.length bs'.length 0 1 200 cap)
  ⟨h5, [], some 200, rfl, by simp, h4⟩ (by
   rintro k fr1 hh hkN hkeep ⟨g5,bs',cap,rfl,hc,g4⟩;have g3:=kp hkeep h3;by_cases hlt:k < n
   ·have w0:Wr (((136*k:Nat):Int)+136)=((136*(k+1):Nat):Int):=wy;have hlt2:((136*k:Nat):Int) < (p.length:Int):=by omega
    have hst:Mx p (k+1)=aS (lq (cg (tab 200 (uN (Mx p k) p (136*k))))):=rfl;have hin:=fun (fr:Fr) (R:Option (cL × Fr × O)) hF h3 h4 h5 h6=>Y8 (fr:=fr) (h:=h) (R:=R) (Mx p k) p (zkU p k) (zkV p k) hpB (136*k) (by omega) hp (bs'++[cI .u8 (Mx p k)]) [] bs'.length cap (by simp) hF h3 h4 h5 h6;generalize hS1:Mx p (k+1)=S1 at*;generalize Mx p k=S0 at*;generalize hq:136*(k+1)=q1 at*;generalize 136*k=q at*;simp [lM,g3,g4,g5,hlt2];generalize hF:run ah _ (.loop _) _ _=R;obtain ⟨fr2,rfl,q2⟩:=hin _ _ hF (by simp [g3]) (by simp [g4]) (by simp [g5]) (by simp);have ho:=N9 (V h) h (bs'++[cI .u8 (tab 200 (uN S0 p q))]) [] bs'.length cap (tab 200 (uN S0 p q)) (by simp) (by simp);obtain ⟨bs2,hby⟩:=YK (V h) h (bs'++[cI .u8 (tab 200 (uN S0 p q))]) [] (lq (cg (tab 200 (uN S0 p q)))) (by simp [fN]) (by simp [V]);rw [<- hst] at hby;simp [q2,wr,fI,bn,g4,g5,ho,I8,hby,w0];exact ⟨hlt,by omega,bs2,by rw [hS1],rfl⟩
   ·have:k=n:=by omega
    subst this;have hlt2:¬((136*k:Nat):Int) < (p.length:Int):=by omega
    generalize 136*k=q at*;simp [lM,g3,g5,hlt2];exact ⟨bs',rfl,cap,hc,g4⟩)
 rw [hc hn0] at h4';exact ⟨fr',bs',rfl,h4'⟩
def zbh (b:List Int):List Int:=(Mx (qJ b) ((qJ b).length / 136)).take 32
theorem E8 (b:List Int):(qJ b).length=b.length+1+gn b.length:=by unfold qJ;rw [List.length_set,Ow]
theorem ziz {α:Type}(n:Nat)(d v:α)(j:Nat)(hj:j < n):gd (List.replicate n v) d j=v:=by
 unfold gd;simp [List.getD,hj]
theorem zbi (b:List Int)(k j:Nat)(hj:j < b.length+1+k):gd (xa b k) 0 j=if j < b.length then gd b 0 j else if j=b.length then 6 else 0:=by
 unfold xa;by_cases h1:j < b.length
 ·rw [if_pos h1,vJ _ _ _ _ (by simp;omega),vJ _ _ _ _ h1]
 ·rw [if_neg h1];by_cases h2:j=b.length
  ·subst h2;rw [if_pos rfl,vJ _ _ _ _ (by simp),yk _ _ _ _ (Nat.le_refl _),Nat.sub_self];rfl
  ·rw [if_neg h2,yk _ _ _ _ (by simp;omega),ziz _ _ _ _ (by simp;omega)]
theorem zbj (b:List Int)(j:Nat)(hj:j < b.length+1+gn b.length):gd (qJ b) 0 j=
  if j < b.length then gd b 0 j else if j=b.length+gn b.length then (if gn b.length=0 then 134 else 128) else if j=b.length then 6 else 0:=by
 unfold qJ;rw [qh _ _ _ _ _ (by rw [Ow];omega),zbi _ _ _ hj,zbi _ _ _ (by omega)];by_cases h1:b.length+gn b.length=j
 ·subst h1;by_cases h0:gn b.length=0
  ·simp [h0];decide
  ·simp [h0,show ¬b.length+gn b.length < b.length by omega];decide
 ·rw [if_neg h1];by_cases h2:j < b.length
  ·rw [if_pos h2,if_pos h2]
  ·rw [if_neg h2,if_neg h2,if_neg (Ne.symm h1)]
theorem zbk (b : List Int)(hb : ce b) : ce (qJ b) := fun j hj => by
 rw [E8] at hj;rw [zbj b j hj];by_cases h1:j < b.length
 ·rw [if_pos h1];exact hb j h1
 ·rw [if_neg h1];split
  ·split <;> omega
  ·split <;> omega
theorem zbm (b:List Int):(qJ b).length=136*((qJ b).length / 136)/\0 < (qJ b).length / 136:=by
 rw [E8];unfold gn;omega
theorem zlD (L:az)(h:O)(c:Bool)(b:List Int)(hn:b.length < 100000000000)(hb:ce b):aa ah L gO [.vsl c (eI .u8 b)] h=some (.vsl false (eI .u8 (zbh b)),h):=by
 rw [nC];obtain ⟨n1,n2⟩:=zbm b;have hz:gn b.length < 136:=Nat.mod_lt _ (by decide);have hpl:=E8 b;have e0:cI .u8 (tab 200 fun _=>0)=cI .u8 (Mx (qJ b) 0):=rfl;simp [rh,zos,hn,jv,am,eV,gQ,e0];generalize hF:run ah _ (.loop _) _ _=R;obtain ⟨fr',bs',rfl,e1⟩:=zlB (qJ b) (zbk b hb) ((qJ b).length / 136) n1 n2 (by omega) hF (by simp) (by simp) (by simp);have hsl:=Kr 1 h.blks.length bs'.length 200 32 none .i64 (by decide);simp only [Int.cast_ofNat_Int] at hsl;have hf:=fun n' nt=>G6 h (bs'++[cI .u8 (Mx (qJ b) ((qJ b).length / 136))]) [] nt n' bs'.length 32 none .u8 (Mx (qJ b) ((qJ b).length / 136)) (by simp) (by simp);simp [e1,hsl,hf,zbh]
theorem zbn (w:ac)(k:Nat):Pl w k=((w.toNat >>> (8*k) % 2 ^ 8:Nat):Int):=by unfold Pl;rw [BitVec.toNat_ushiftRight]
theorem zlE (w:ac)(v:Nat)(hv:v < 256)(m k:Nat)(hm:m < 8)(hk:k < 8):
  Pl (w ^^^ (bw (v:Int) <<< (8*m))) k=if k=m then Y3 (Pl w k) v else Pl w k:=by
 rw [zbn,zbn,BitVec.toNat_xor,Nat.shiftRight_xor_distrib,Nat.xor_mod_two_pow];have hx:(bw (v:Int) <<< (8*m)).toNat >>> (8*k) % 2 ^ 8=if k=m then v else 0:=by
  rw [BitVec.toNat_shiftLeft,Oj v hv,Nat.shiftLeft_eq,Nat.shiftRight_eq_div_pow];have hm':m=0\/m=1\/m=2\/m=3\/m=4\/m=5\/m=6\/m=7:=by omega
  have hk':k=0\/k=1\/k=2\/k=3\/k=4\/k=5\/k=6\/k=7:=by omega
  rcases hm' with rfl | rfl | rfl | rfl | rfl | rfl | rfl | rfl <;> rcases hk' with rfl | rfl | rfl | rfl | rfl | rfl | rfl | rfl <;> simp <;> omega
 rw [hx];by_cases h:k=m
 ·rw [if_pos h,if_pos h];unfold Y3;rw [Int.toNat_natCast,Int.toNat_natCast]
 ·rw [if_neg h,if_neg h,Nat.xor_zero]
theorem zeb (s:List ac)(hs:s.length=25)(i:Nat)(hi:i < 200)(v:Int)(hv:0<=v/\v < 256):aS (sS s i v)=(aS s).set i (Y3 (gd (aS s) 0 i) v):=by
 obtain ⟨n,rfl⟩:∃ k:Nat,v=k:=⟨v.toNat,by omega⟩;unfold aS;rw [vq,VA,hs];refine bj fun j hj=>?_;rw [dY (by omega)];unfold sS;rw [qh _ _ _ _ _ (by omega)];by_cases hq:i / 8=j / 8
 ·rw [if_pos hq,<- hq,zlE _ n (by omega) (i % 8) (j % 8) (by omega) (by omega)];by_cases hij:j=i
  ·subst hij;rw [if_pos rfl,if_pos rfl]
  ·rw [if_neg hij,if_neg (by omega)]
 ·rw [if_neg hq,if_neg (by intro h;subst h;exact hq rfl)]
theorem TQ (w:ac)(a:Nat)(h:64<=a):w >>> a=0#64:=by
 apply BitVec.eq_of_toNat_eq;rw [BitVec.toNat_ushiftRight,Nat.shiftRight_eq_div_pow,Nat.div_eq_of_lt]
 ·rfl
 ·exact Nat.lt_of_lt_of_le w.isLt (Nat.pow_le_pow_right (by decide) h)
theorem ziE (w:ac)(m:Nat):w >>> (8*(m+1))*256#64+bw (Pl w m)=w >>> (8*m):=by
 have h1:w >>> (8*(m+1))=w >>> (8*m) >>> 8:=by rw [<- BitVec.shiftRight_add];rfl
 have h2:Pl w m=(((w >>> (8*m)).toNat % 256:Nat):Int):=rfl;rw [h1,h2];generalize w >>> (8*m)=u;apply BitVec.eq_of_toNat_eq;rw [BitVec.toNat_add,BitVec.toNat_mul,BitVec.toNat_ushiftRight,Oj _ (by omega),Nat.shiftRight_eq_div_pow];have:=u.isLt;show (u.toNat / 2 ^ 8*256 % 2 ^ 64+u.toNat % 256) % 2 ^ 64=u.toNat;omega
theorem zec (s : List ac)(hs : s.length = 25) : ∀ k, k <= 200 -> P6 (aS s) 200 k = tab 25 fun q => gd s 0#64 q >>> (8 * ((200 - k) - 8 * q)) := by
 intro k
 induction k with
 | zero=>
  intro _;exact bj fun q hq=>(TQ _ _ (by omega)).symm
 | succ k ih=>
  intro hk;obtain ⟨i,hi⟩:∃ i,i=199 - k:=⟨_,rfl⟩;rw [P6,show 200 - 1 - k=i by omega,ih (by omega),vq,dY (by omega)];refine bj fun q hq=>?_;have hb:gd (aS s) 0 i=Pl (gd s 0#64 (i / 8)) (i % 8):=by
   unfold aS;rw [dY (by rw [hs];omega)]
  by_cases h:q=i / 8
  ·subst h;rw [if_pos rfl,hb,show 200 - k - 8*(i / 8)=i % 8+1 by omega,show 200 - (k+1) - 8*(i / 8)=i % 8 by omega];exact ziE _ _
  ·rw [if_neg h];by_cases h2:200 - (k+1)<=8*q
   ·rw [show 200 - k - 8*q=0 by omega,show 200 - (k+1) - 8*q=0 by omega]
   ·rw [TQ _ _ (by omega),TQ _ _ (by omega)]
theorem WP (s:List ac)(hs:s.length=25):cg (aS s)=s:=by
 unfold cg;rw [zec s hs 200 (Nat.le_refl _)]
 conv=>rhs;rw [Fg 0#64 hs]
 exact bj fun q hq=>by rw [show 200 - 200 - 8*q=0 by omega];simp
def Jz (s:List ac)(p:List Int)(a:Nat):Nat->List ac
 | 0=>s
 | k+1=>sS (Jz s p a k) k (gd p 0 (a+k))
theorem JB (s:List ac)(p:List Int)(a:Nat):∀ k,(Jz s p a k).length=s.length
 | 0=>rfl
 | k+1=>by rw [Jz,VA,JB s p a k]
theorem ZA (s:List ac)(hs:s.length=25)(p:List Int)(hp:ce p)(a:Nat)(ha:a+136<=p.length):∀ k,k<=136->aS (Jz s p a k)=cY 200 (uN (aS s) p a) (gd (aS s) 0) k:=by
 intro k
 induction k with
 | zero=>intro _;rw [kT,Jz];exact Fg 0 (by simp [hs])
 | succ k ih=>
  intro hk;rw [Jz,zeb _ (by rw [JB,hs]) k (by omega) _ (hp _ (by omega)),ih (by omega),Mh (by omega),<- nz]
  congr 1
  unfold uN;rw [if_pos (by omega)]
theorem WR (s:List ac)(hs:s.length=25)(p:List Int)(hp:ce p)(a:Nat)(ha:a+136<=p.length):cg (tab 200 (uN (aS s) p a))=Jz s p a 136:=by
 have h:=ZA s hs p hp a ha 136 (Nat.le_refl _);have e0 : cY 200 (uN (aS s) p a) (gd (aS s) 0) 136 = tab 200 (uN (aS s) p a) := bj fun j hj => by
  by_cases hj:j < 136
  ·rw [if_pos hj]
  ·rw [if_neg hj];unfold uN;rw [if_neg hj]
 rw [<- e0,<- h,WP _ (by rw [JB,hs])]
theorem ZB : aS (tab 25 fun _ => 0#64) = tab 200 fun _ => 0 := by
 unfold aS;rw [AK];refine bj fun j hj=>?_;rw [dY (by omega)];unfold Pl;simp
def Cp (p:List Int):Nat->List ac
 | 0=>tab 25 fun _=>0#64
 | k+1=>lq (Jz (Cp p k) p (136*k) 136)
theorem O1 (p:List Int):∀ k,(Cp p k).length=25
 | 0=>by simp [Cp]
 | k+1=>by rw [Cp];exact fN _ (by rw [JB,O1 p k])
theorem RR (p:List Int)(hp:ce p):∀ k,136*k<=p.length->Mx p k=aS (Cp p k)
 | 0,_=>by rw [Mx,Cp,ZB]
 | k+1,h=>by rw [Mx,Cp,RR p hp k (by omega),WR _ (O1 p k) p hp _ (by omega)]
theorem qD (q:List ac × Nat)(v:Int):a7 q [v]=vf q v:=by simp only [a7,List.foldl_cons,List.foldl_nil]
theorem H6 (s:List ac)(v:Int):vf (s,135) v=(lq (sS s 135 v),0):=by unfold vf;rw [if_pos (show (s,135).2+1=136 from rfl)]
theorem H7 (s:List ac)(a:Nat)(v:Int)(h:a+1 < 136):vf (s,a) v=(sS s a v,a+1):=by unfold vf;rw [if_neg (by simp only [];omega)]
theorem ZC (s:List ac)(p:List Int)(a:Nat)(ha:a+136<=p.length):∀ k,k < 136->a7 (s,0) ((p.drop a).take k)=(Jz s p a k,k):=by
 intro k
 induction k with
 | zero=>intro _;rfl
 | succ k ih=>
  intro hk;have hlen:k < (p.drop a).length:=by simp;omega
  have hg:gd (p.drop a) 0 k=gd p 0 (a+k):=by unfold gd;simp [List.getD,List.getElem?_drop]
  rw [sQ 0 hlen,gh,ih (by omega),hg];rw [qD,H7 _ _ _ (by omega),Jz]
theorem O5 (s:List ac)(p:List Int)(a:Nat)(ha:a+136<=p.length):a7 (s,0) ((p.drop a).take 136)=(lq (Jz s p a 136),0):=by
 have hlen:135 < (p.drop a).length:=by simp;omega
 have hg:gd (p.drop a) 0 135=gd p 0 (a+135):=by unfold gd;simp [List.getD,List.getElem?_drop]
 have e:(p.drop a).take (135+1)=(p.drop a).take 135++[gd p 0 (a+135)]:=by rw [sQ 0 hlen,hg]
 have e2:Jz s p a (135+1)=sS (Jz s p a 135) 135 (gd p 0 (a+135)):=by rw [Jz]
 have h:=gh (s,0) ((p.drop a).take 135) [gd p 0 (a+135)];rw [<- e,ZC s p a ha 135 (by decide),qD,H6,<- e2] at h;exact h
theorem O6 (p : List Int) : ∀ k, 136 * k <= p.length -> a7 (tab 25 fun _ => 0#64, 0) (p.take (136 * k)) = (Cp p k, 0) := by
 intro k
 induction k with
 | zero=>intro _;rfl
 | succ k ih=>
  intro h;have e:p.take (136*(k+1))=p.take (136*k)++(p.drop (136*k)).take 136:=by
   rw [<- List.take_add,show 136*k+136=136*(k+1) by omega]
  rw [e,gh,ih (by omega),O5 _ _ _ (by omega)];rfl
theorem zef (s:List ac)(i:Nat)(hi:i / 8 < s.length):sS s i 0=s:=by
 unfold sS;have:bw 0 <<< (8*(i % 8))=0#64:=by rw [show bw 0=0#64 from by decide];simp
 rw [this,BitVec.xor_zero];refine List.ext_getElem? fun j=>?_;by_cases h:i / 8=j
 ·subst h;rw [List.getElem?_set_self hi,Fh (d:=0#64) hi]
 ·rw [List.getElem?_set_ne h]
theorem ZD (s:List ac)(hs:s.length=25)(a:Nat):∀ z,a+z < 136->a7 (s,a) (List.replicate z 0)=(s,a+z):=by
 intro z
 induction z with
 | zero=>intro _;rfl
 | succ z ih=>
  intro h;rw [List.replicate_succ',gh,ih (by omega)];rw [qD,H7 _ _ _ (by omega),zef s (a+z) (by omega),Nat.add_assoc]
theorem ziN (s:List ac)(hs:s.length=25):sS (sS s 135 6) 135 128=sS s 135 134:=by
 unfold sS;rw [qh _ _ _ _ _ (by omega),if_pos rfl,List.set_set,BitVec.xor_assoc]
 congr 2
theorem ZE (b : List Int) : (a7 (tab 25 fun _ => 0#64, 0) b).2 = b.length % 136 := by
 have key:∀ (l:List Int) (q:List ac × Nat),q.2 < 136->(a7 q l).2=(q.2+l.length) % 136:=by
  intro l
  induction l with
  | nil=>intro q hq;simp [a7];omega
  | cons v l ih=>
   intro q hq;show (a7 (vf q v) l).2=_;unfold vf;split
   ·rw [ih _ (by simp)];simp only [List.length_cons];omega
   ·rw [ih _ (by simp only [];omega)];simp only [List.length_cons];omega
 rw [key b _ (by simp)];simp
theorem zei (b:List Int):qJ b=b++(if gn b.length=0 then [134] else [6]++List.replicate (gn b.length - 1) 0++[128]):=by
 have hl:(qJ b).length=(b++(if gn b.length=0 then [134] else [6]++List.replicate (gn b.length - 1) 0++[128]:List Int)).length:=by
  rw [E8];split <;> simp <;> omega
 rw [<- zeM (qJ b) 0,<- zeM (b++_) 0,<- hl];refine bj fun j hj=>?_;rw [E8] at hj;rw [zbj b j hj];by_cases h1:j < b.length
 ·rw [if_pos h1,vJ _ _ _ _ h1]
 ·rw [if_neg h1,yk _ _ _ _ (by omega)];by_cases h0:gn b.length=0
  ·rw [if_pos h0,if_pos (by omega),if_pos h0,show j - b.length=0 by omega];rfl
  ·simp only [if_neg h0];by_cases h2:j=b.length+gn b.length
   ·rw [if_pos h2,yk _ _ _ _ (by simp;omega)];simp only [List.length_append,List.length_cons,List.length_nil,List.length_replicate];rw [show j - b.length - (0+1+(gn b.length - 1))=0 by omega];rfl
   ·rw [if_neg h2,vJ _ _ _ _ (by simp;omega)];by_cases h3:j=b.length
    ·rw [if_pos h3,vJ _ _ _ _ (by simp;omega),show j - b.length=0 by omega];rfl
    ·rw [if_neg h3,yk _ _ _ _ (by simp;omega),ziz _ _ _ _ (by simp;omega)]
theorem ziQ (b:List Int)(hb:ce b):zbh b=P4 b:=by
 obtain ⟨n1,n2⟩:=zbm b;unfold zbh P4 VE;rw [RR _ (zbk b hb) _ (by omega)];have h1:=O6 (qJ b) ((qJ b).length / 136) (by omega);rw [<- n1,List.take_length] at h1;have hst:Cp (qJ b) ((qJ b).length / 136)=(a7 (tab 25 fun _=>0#64,0) (qJ b)).1:=by rw [h1]
 rw [hst]
 congr 2
 have hat:=ZE b;obtain ⟨c1,c2⟩:=sU b (q:=(tab 25 fun _=>0#64,0)) (by simp) (by simp);rw [zei,gh];generalize a7 (tab 25 fun _=>0#64,0) b=q at*;obtain ⟨s,a⟩:=q;simp only at hat c1 c2 |-;have hz:gn b.length=135 - a:=by unfold gn;omega
 by_cases h0:gn b.length=0
 ·have ha:a=135:=by omega
  subst ha;rw [if_pos h0];rw [qD,H6,ziN s c1]
 ·rw [if_neg h0,gh,gh];have e1:a7 (s,a) [6]=(sS s a 6,a+1):=by rw [qD,H7 _ _ _ (by omega)]
  rw [e1,ZD _ (by simp [c1]) _ _ (by omega),show a+1+(gn b.length - 1)=135 by omega];rw [qD,H6]
theorem yq {l m : List Int}(hl : ce l)(hm : ce m) : ce (l ++ m) := fun i hi => by
 by_cases h:i < l.length
 ·rw [vJ _ _ _ _ h];exact hl i h
 ·rw [yk _ _ _ _ (by omega)];exact hm _ (by simp at hi;omega)
theorem Wt (n:Int):0<=IntKind.u8.wrap n/\IntKind.u8.wrap n < 256:=by
 have:IntKind.u8.wrap n=n % 256:=by unfold IntKind.wrap;simp [IntKind.signed,IntKind.bits]
 rw [this];omega
theorem Ju:ce []:=fun i hi=>by simp at hi
theorem TL {l : List Int}(h : ∀ x ∈ l, 0 <= x /\ x < 256) : ce l := fun i hi => by
 have:=Fh (d:=(0:Int)) hi;exact h _ (List.mem_of_getElem? this)
theorem MF (n : Int) : ce [IntKind.u8.wrap n] := TL fun x hx => by
 simp at hx;subst hx;exact Wt n
theorem Zr (n:Int):∀ k,ce (le n k)
 | 0=>Ju
 | k+1=>by rw [le];exact yq (Zr n k) (MF _)
theorem zlv (s : ByteArray) : ce (bts s) := TL fun x hx => by
 unfold bts at hx;simp only [List.mem_map] at hx;obtain ⟨b,_,rfl⟩:=hx;have:=b.toNat_lt;omega
theorem ziq (x:It):ce (KG x):=by
 unfold KG;have h0:ce [IntKind.u8.wrap x.kind,IntKind.u8.wrap x.typ]:=yq (l:=[_]) (MF _) (MF _);exact yq (yq (yq h0 (Zr _ _)) (Zr _ _)) (zlv _)
theorem zbx:∀ (l:List It) (k:Nat) (out:List Int),ce out->ce (fw l k out).1
 | [],k,out,h=>h
 | x :: l, k, out, h => by
  rw [fw];split
  ·exact Ju
  ·split
   ·exact zbx l (k+1) _ (yq h (ziq x))
   ·exact Ju
theorem zlS : ce uL := TL fun x hx => by
 have:∀ x∈uL,0<=x/\x < 256:=by decide
 exact this x hx
theorem zby (L:az)(h:O)(n i:Nat)(es:List (List J)):aa ah L gO [gA n i es] h=aa ah L gO [.vsl false es] h:=by
 rw [nC,nC];simp
theorem zlT (L:az)(h:O)(b:Int)(l:List It)(hn:l.length<=2000):
  aa ah L nv [Ii b,.vsl false (l.map It.cells)] h=some (.tup [.vsl false (eI .u8 (uo b l).1),Ii (uo b l).2.1,Ii (uo b l).2.2],h):=by
 rw [DD];have hser:=fun L h=>zjv L h l hn;have hz:cI .u8 (tab 32 fun _=>0)=cI .u8 su:=rfl;have hf:=fun bs ts n' nt=>G6 h (cI .u8 su :: bs) ts nt n' 0 32 (some 32) .u8 su (by simp) (by simp [su]);have ht:su.take 32=su:=List.take_of_length_le (by simp [su]);by_cases hb:b≠1/\b≠2
 ·have e1:uo b l=(su, -1,15):=by unfold uo;rw [if_pos hb]
  rw [e1];simp [eT, -List.map_take,V,jv,am,eV,gQ,bne,beq_false_of_ne hb.1,beq_false_of_ne hb.2,hz,hf,ht]
 ·have hb':b=1\/b=2:=by omega
  by_cases h0:(fw l 0 []).2.2=0
  ·have e1:uo b l=(P4 (uL++([IntKind.u8.wrap b]++(fw l 0 []).1)), -1,0):=by unfold uo;rw [if_neg hb,if_neg (by simpa using h0)]
   rw [e1];have hlen:(fw l 0 []).1.length < 90000000000:=by
    have:=HS l 0 [];simp at this;omega
   have hB:ce (uL++([IntKind.u8.wrap b]++(fw l 0 []).1)):=yq zlS (yq (MF b) (zbx l 0 [] Ju));have hsum:=fun L h c=>zlD L h c (uL++([IntKind.u8.wrap b]++(fw l 0 []).1)) (by simp [uL];omega) hB;rw [ziQ _ hB] at hsum;simp only [List.cons_append,List.nil_append] at hsum;have hdl:uL.length=19:=rfl;rcases hb' with rfl | rfl
   ·have ha:=fun L bs=>Jy L h (bs :: [cI .u8 uL]) [] 1 19 .u8 uL [IntKind.u8.wrap 1] true (by simp) (by simp [am,uL]);simp [eT, -List.map_take,V,jv,am,eV,gQ,hser,h0,ak,rep,aO,chunks,fx,FE,ha,Cm,hdl,zby,hsum,show 20+(fw l 0 []).1.length < 274877906944 by omega]
   ·have ha:=fun L bs=>Jy L h (bs :: [cI .u8 uL]) [] 1 19 .u8 uL [IntKind.u8.wrap 2] true (by simp) (by simp [am,uL]);simp [eT, -List.map_take,V,jv,am,eV,gQ,hser,h0,ak,rep,aO,chunks,fx,FE,ha,Cm,hdl,zby,hsum,show 20+(fw l 0 []).1.length < 274877906944 by omega]
  ·have e1:uo b l=(su,(fw l 0 []).2.1,(fw l 0 []).2.2):=by unfold uo;rw [if_neg hb,if_pos h0]
   rw [e1];have b0:((fw l 0 []).2.2==0)=false:=beq_false_of_ne h0;rcases hb' with rfl | rfl
   ·simp [eT, -List.map_take,V,jv,am,eV,gQ,hser,bne,b0,hz,hf,ht]
   ·simp [eT, -List.map_take,V,jv,am,eV,gQ,hser,bne,b0,hz,hf,ht]
def sP (l:List Int)(k:Nat):List Int:=(tab 136 fun _=>0)++l++(tab k fun _=>0)
theorem NE (l:List Int)(hl:l.length=32)(k:Nat):(sP l k).length=168+k:=by simp [sP,hl];omega
theorem zcx (l:List Int)(k:Nat):sP l k++[0]=sP l (k+1):=by
 unfold sP;rw [List.append_assoc _ _ [0],Vr k fun _=>(0:Int)]
theorem zfW (l:List Int)(hl:l.length=32):sP l 32=(rK l).S:=by
 unfold sP rK putAt;have h1 : (tab 200 fun _ => (0 : Int)).take 136 = tab 136 fun _ => 0 := by
  have:=yG 200 (fun _=>(0:Int)) 0 136 (by decide);simpa using this
 have h2 : (tab 200 fun _ => (0 : Int)).drop (136 + l.length) = tab 32 fun _ => 0 := by
  have:=yG 200 (fun _=>(0:Int)) 168 32 (by decide);rw [List.take_of_length_le (by simp)] at this;rw [hl];exact this
 rw [h1,h2,List.append_assoc]
theorem Yc {fr:Fr}{h:O}{R:Option (cL × Fr × O)}(l:List Int)(hl:l.length=32)(y z:List J)
  (hF:run ah (V h) (.loop cV) fr (hx h [y,z] [(sP l 0).length])=R)
  (h4:fr 4=gA h.toks.length 0 (eI .u8 (sP l 0))):
  ∃ fr',R=some (.exit 0,fr',hx h [y,z] [200])/\fr' 4=gA h.toks.length 0 (eI .u8 (sP l 32))/\∀ t,t∉wr cV->fr' t=fr t:=by
 obtain ⟨e,fr',h',rfl,⟨rfl,rfl,g4⟩,hk⟩:=af hF 32
  (fun k fr hh=>fr 4=gA h.toks.length 0 (eI .u8 (sP l k))/\hh=hx h [y,z] [(sP l k).length])
  (fun e fr hh=>e=.exit 0/\hh=hx h [y,z] [200]/\fr 4=gA h.toks.length 0 (eI .u8 (sP l 32)))
  ⟨h4,rfl⟩ (by
   rintro k fr1 hh hkN hkeep ⟨g4,rfl⟩;have hlen:=NE l hl k;have hlen2:=NE l hl (k+1);by_cases hlt:k < 32
   ·have hap:=Cm (V h) h [y,z] [(sP l k).length] 1 0 true (eI .u8 (sP l k)) (eI .u8 [0]) (by simp [V,am];omega);have hsn:=zcx l k;rw [KT,hsn] at hap;simp only [V,TR,List.length_singleton,List.set_cons_zero] at hap;have hl1:((sP l k).length:Int) < 200:=by omega
    have e1:(sP l k).length+1=(sP l (k+1)).length:=by omega
    rw [e1] at hap;generalize hm1:sP l (k+1)=m1 at*;generalize sP l k=m at*;simp -implicitDefEqProofs [cV,V,g4,hl1,ak,rep,chunks,setAt,fx,hap,hlt];exact ⟨by rw [hm1],by rw [hm1]⟩
   ·have:k=32:=by omega
    subst this;simp [cV,g4,hlen])
 exact ⟨fr',rfl,g4,hk⟩
theorem Ve (h:O)(bs:List (List J))(ts:List Nat)(m i:Nat)(es:List (List J))(hu:∀ nb nt,aJ nb nt es=true)(a b c:Int):
  frz (hx h bs ts) h.blks.length h.toks.length (m+2) (.agg [gA h.toks.length i es,Ii a,Ii b,Ii c])=some (.agg [.vsl false es,Ii a,Ii b,Ii c]):=by
 have hfl:aZ [gA h.toks.length i es,Ii a,Ii b,Ii c]=false:=by simp [aZ,J.flat,gA]
 have hg:frz (hx h bs ts) h.blks.length h.toks.length (m+2) (.agg [gA h.toks.length i es,Ii a,Ii b,Ii c])=
   ([gA h.toks.length i es,Ii a,Ii b,Ii c].mapM (frz (hx h bs ts) h.blks.length h.toks.length (m+1))).map .agg:=by
  rw [frz.eq_def];simp only [hfl];rfl
 have fi:∀ a:Int,frz (hx h bs ts) h.blks.length h.toks.length (m+1) (Ii a)=some (Ii a):=fun a=>by rw [frz.eq_def]
 have fg:=Sj (hx h bs ts) h.blks.length h.toks.length m i es (hu _ _);rw [hg];simp only [List.mapM_cons,List.mapM_nil,fg,fi];rfl
theorem zfX (L:az)(h:O)(c:Bool)(l:List Int)(hl:l.length=32):
  aa ah L iG [.vsl c (eI .u8 l)] h=some (.tup [.agg (t6 (rK l)),Ii 0],h):=by
 rw [xm];have e1:t6 (rK l)=[.vsl false (eI .u8 (rK l).S),Ii 0,Ii 136,Ii 0]:=rfl;rw [e1,<- zfW l hl];have hf:=fR h c (eI .u8 l);have hap:=fun y=>Jy (V h) h [y,cI .u8 (tab 136 fun _=>0)] [] 1 136 .u8 (tab 136 fun _=>0) l false rfl (by simp [hl,am]);have e2:(tab 136 fun _=>(0:Int))++l=sP l 0:=by simp [sP,tab]
 rw [e2] at hap;have e3:[136+l.length]=[(sP l 0).length]:=by rw [NE l hl,hl]
 simp only [List.nil_append,List.length_nil,e3] at hap;have hlo:=fun fr R y z=>Yc (fr:=fr) (h:=h) (R:=R) l hl y z;have hu:∀ nb nt,aJ nb nt (eI .u8 (sP l 32))=true:=fun nb nt=>by simp
 have hfz:=fun bs ts m=>Ve h bs ts m 0 (eI .u8 (sP l 32)) hu 0 136 0;simp only [V] at hap;simp only [gA,Nat.add_zero] at hfz;generalize hz:(tab 136 fun _=>(0:Int))=zz at*;generalize sP l 0=m0,eI .u8 (sP l 32)=e32 at*;simp -implicitDefEqProofs [lN,V,hf,hl,jv,am,eV,gQ,hz,hap];generalize hF:run ah _ (.loop _) _ _=R;obtain ⟨fr1,rfl,f4,hk1⟩:=hlo _ _ _ _ hF (by simp);simp -implicitDefEqProofs [hk1,wr,cV,bn,f4,ak,setAt,Z,aq,ab,hfz,gA,J.cells,J.okV]
theorem zcC (L:az)(h:O)(c:Bool)(l:List Int)(hl:l.length=32):
  aa ah L jA [.vsl c (eI .u8 l)] h=some (.agg (t6 (rK l)),h):=by
 rw [yA];have hf:=fR h c (eI .u8 l);have hN:=fun L h=>zfX L h false l hl;have l1:(t6 (rK l)).length=4:=rfl;have hfr:=fun hh nb nt m=>zaB hh nb nt m (rK l);have hu0:ay 0 0 (t6 (rK l))=true:=by simp [t6,ay,J.under]
 generalize t6 (rK l)=q at*;simp -implicitDefEqProofs [mC,V,hf,hN,l1,aq,ab,Z,hfr]
def StL (n:Nat)(bs:List (List J))(x:J)(S:List Int):Prop:=x=.vsl false (eI .u8 S)\/∃ i cap,x=sA n i 0 1 200 cap/\bs[i]?=some (cI .u8 S)
theorem Vl (L:az)(h:O)(bs:List (List J))(ts:List Nat)(x:J)(S:List Int)(hx1:StL h.blks.length bs x S)(hl:S.length=200):
  aa ah L cG [x] (hx h bs ts)=some (.agg (cW (cg S)),hx h bs ts):=by
 rcases hx1 with rfl | ⟨i,cap,rfl,hb⟩
 ·exact UI L (hx h bs ts) false S hl
 ·exact N9 L h bs ts i cap S hb hl
theorem StL.app {n:Nat}{bs:List (List J)}{x:J}{S:List Int}(h:StL n bs x S)(js:List (List J)):StL n (bs++js) x S:=by
 rcases h with rfl | ⟨i,cap,rfl,hb⟩
 ·exact .inl rfl
 ·exact .inr ⟨i,cap,rfl,SH js hb⟩
theorem StL.cell {n:Nat}{bs:List (List J)}{x:J}{S:List Int}(h:StL n bs x S):x.cells=[x]/\x.okV=true/\x.flat=false:=by
 rcases h with rfl | ⟨i,cap,rfl,hb⟩
 ·exact ⟨rfl,rfl,rfl⟩
 ·exact ⟨rfl,rfl,rfl⟩
def zSp:List J:=[.nsl,Ii 0,Ii 0,Ii 0]
theorem Yj (L:az)(h:O)(bs:List (List J))(ts:List Nat)(i off:Nat)(cs:List J)(h1:(decide (L.rob<=h.blks.length)&&decide (L.nb<=h.blks.length+i))=true):
  dR L (hx h bs ts) (pA h.blks.length i off) cs=stO h bs ts i off cs bs[i]?:=by
 simp only [Bool.and_eq_true,decide_eq_true_eq] at h1;unfold dR pA stO stI hx;simp only;rw [List.getElem?_append_right (Nat.le_add_right _ _),Nat.add_sub_cancel_left]
 cases bs[i]? with
 | none=>rfl
 | some old=>
  simp only [Option.bind_some];by_cases hc:off+cs.length<=old.length
  ·rw [if_pos ⟨by omega,hc,.inl (by omega)⟩,if_pos (by simpa using hc)];rw [List.set_append_right _ _ (Nat.le_add_right _ _),Nat.add_sub_cancel_left]
  ·rw [if_neg (fun h=>hc h.2.1),if_neg (by simpa using hc)]
theorem Ko (L:az)(h:O)(bs:List (List J))(ts:List Nat)(x:J)(S:List Int)(a b c:Nat)(hx1:StL h.blks.length bs x S)(hs:S.length=200)(hc:c < 1000000000000)(hL:L.rob<=h.blks.length)(hnb:L.nb<=h.blks.length+bs.length):
  ∃ js,aa ah L cC [.agg [x,Ii a,Ii b,Ii c]] (hx h bs ts)=
   some (.agg [sA h.blks.length (bs.length+js.length) 0 1 200 none,Ii a,Ii b,Ii ((c+1:Nat):Int)],hx h (bs++js++[cI .u8 (gk S)]) ts):=by
 rw [vF];obtain ⟨x1,x2,x3⟩:=hx1.cell;have hO:=fun L js=>Vl L h (bs++js) ts x S (hx1.app js) hs;have hP:=fun L h=>I8 L h (cg S) (iK _);have hl:(lq (cg S)).length=25:=by rw [fN];exact iK _
 obtain ⟨bs',⟨js,rfl⟩,hB⟩:=Lk L h (bs++[[x,Ii a,Ii b,Ii c],zSp]) ts (lq (cg S)) hl hL;have w1:Wr ((c:Int)+1)=((c+1:Nat):Int):=wy;have ht:aS (lq (cg S))=gk S:=rfl;rw [ht] at hB;refine ⟨[[sA h.blks.length (bs.length+(2+js.length)) 0 1 200 none,Ii a,Ii b,Ii ((c+1:Nat):Int)],[sA h.blks.length (bs.length+(2+js.length)) 0 1 200 none,Ii a,Ii b,Ii ((c+1:Nat):Int)]]++js,?_⟩;generalize ((c+1:Nat):Int)=c2 at*;have hO1:=fun L=>hO L [[x,Ii a,Ii b,Ii c],zSp];unfold zSp at hO1 hB;simp only [List.append_assoc,List.cons_append,List.nil_append,List.length_append,List.length_cons,List.length_nil] at hO1 hB;simp -implicitDefEqProofs [ki,Ng,aE,J.cells,J.okV,Z,x1,x2,hO1,hP,hB,ab,aq,w1,hL,Yj,hnb,show L.nb<=h.blks.length+(bs.length+1) by omega,setAt];rw [show js.length+1+1=2+js.length by omega]
theorem zre (l:List Int)(i:Nat)(v:Int):(cI .u8 l).set i (.int .u8 v)=cI .u8 (l.set i v):=by simp [cI,List.map_set]
def tkI (h:O)(q:Sp)(hh:O):Prop:=∃ i cap bs,hh=hx h ([sA h.blks.length (i+2) 0 1 200 cap,Ii q.a,Ii q.b,Ii q.c] :: zSp :: bs) []/\bs[i]?=some (cI .u8 q.S)
theorem Yn {fr:Fr}{h H:O}{R:Option (cL × Fr × O)}(s:Sp)(hs:s.ok)(l:List Int)(hl:ce l)(hn:l.length < 100000000)(hc:s.c < 100000000)
  (hF:run ah (V h) (.loop bG) fr H=R) (hH:tkI h s H)
  (h1:fr 1=.vsl false (eI .u8 l)) (h2:fr 2=pA h.blks.length 0 0) (h5:fr 5=Ii 0):
  ∃ fr' H',R=some (.exit 0,fr',H')/\tkI h (aA s l) H'/\∀ t,t∉wr bG->fr' t=fr t:=by
 obtain ⟨e,fr',h',rfl,⟨rfl,p1⟩,hk⟩:=af hF l.length
  (fun k fr hh=>fr 5=Ii k/\tkI h (aA s (l.take k)) hh)
  (fun e fr hh=>e=.exit 0/\tkI h (aA s l) hh)
  ⟨h5, by simpa [aA] using hH⟩ (by
   rintro k fr1 hh hkN hkeep ⟨g5,i,cap,bs,rfl,hb⟩;have g1:=kp hkeep h1;have g2:=kp hkeep h2;by_cases hlt:k < l.length
   ·have hltI:(k:Int) < l.length:=by omega
    have w0:Wr ((k:Int)+1)=k+1:=wz;have hq:=jh hs (l:=l.take k) (mg hl k);have hqc:=Fk hs (l.take k);have hsn:=Ot s l k hlt;have iu:=pI .u8 .i64 false l k (by simpa using hlt);obtain ⟨o1,o2,o3,o4⟩:=hq;have hqc:(aA s (l.take k)).c < 1000000000:=by simp only [List.length_take] at hqc;omega
    generalize aA s (l.take k)=q at*;generalize gd l 0 k=u at*;by_cases ha:q.a=136
    ·obtain ⟨js,hT⟩:=Ko (V h) h ([sA h.blks.length (i+2) 0 1 200 cap,Ii q.a,Ii q.b,Ii q.c] :: zSp :: bs) [] (sA h.blks.length (i+2) 0 1 200 cap) q.S q.a q.b q.c (.inr ⟨i+2,cap,rfl,by simpa using hb⟩) o1 (by omega) (Nat.le_refl _) (Nat.le_add_right _ _);rw [UQ ha] at hsn;have tl:(gk q.S).length=200:=wV _;have aI:((q.a:Int)==136)=true:=by simp [ha]
     simp only [List.cons_append,List.append_assoc,List.length_cons,V] at hT;have hget : ∀ (A B x : List J), (A :: B :: (bs ++ (js ++ [x])))[bs.length + 1 + 1 + js.length]? = some x := fun A B x => by
      rw [show bs.length+1+1+js.length=(bs.length+js.length)+1+1 by omega,List.getElem?_cons_succ,List.getElem?_cons_succ,<- List.append_assoc,List.getElem?_append_right (by simp)];simp
     have hset : ∀ (A B x y : List J), (A :: B :: (bs ++ (js ++ [x]))).set (bs.length + 1 + 1 + js.length) y = A :: B :: (bs ++ (js ++ [y])) := fun A B x y => by
      rw [show bs.length+1+1+js.length=(bs.length+js.length)+1+1 by omega,List.set_cons_succ,List.set_cons_succ,<- List.append_assoc,List.set_append_right _ _ (by simp)];simp
     have hMe:bs.length+1+1+js.length=(bs.length+js.length)+2:=by omega
     have ia0:=om h.blks.length (bs.length+1+1+js.length) 0 1 200 0 none .i64 (by simp);have ia0:bA none 1 (sA h.blks.length (bs.length+1+1+js.length) 0 1 200 none) (Ii 0)=some (pA h.blks.length (bs.length+1+1+js.length) 0):=ia0;generalize bs.length+1+1+js.length=M at*;generalize hc1:((q.c+1:Nat):Int)=c1 at*;simp -implicitDefEqProofs [bG,V,g1,g2,g5,hltI,w0,aI,hT,Z,aq,ab,setAt,J.cells,J.okV,ap,iu,ia0,tl,zre,hget,hset,show IntKind.i64.wrap 1=1 by decide];refine ⟨hlt,?_⟩;rw [hsn];exact ⟨bs.length+js.length,none,_,by rw [<- hMe,<- hc1];rfl,by rw [<- List.append_assoc,List.getElem?_append_right (by simp)];simp⟩
    ·rw [UR ha] at hsn;have aI:((q.a:Int)==136)=false:=beq_false_of_ne (by omega);have ia0:=om h.blks.length (i+2) 0 1 200 q.a cap .i64 (by simp;omega);rw [Nat.zero_add,Nat.mul_one] at ia0;have hi:i < bs.length:=by
      by_cases hi:i < bs.length
      ·exact hi
      ·rw [List.getElem?_eq_none (by omega)] at hb;cases hb
     have hl0:(cI .u8 q.S).length=200:=by simpa [cI] using o1
     have w1:Wr ((q.a:Int)+1)=((q.a+1:Nat):Int):=wy;have hal:q.a < 200:=by omega
     have hal2:q.a<=199:=by omega
     generalize hqa:((q.a+1:Nat):Int)=a1 at*;simp -implicitDefEqProofs [bG,V,g1,g2,g5,hltI,w0,w1,aI,Z,aq,ab,setAt,J.cells,J.okV,ap,iu,ia0,hal,hal2,o1,zre,hb];refine ⟨hlt,?_⟩;rw [hsn];exact ⟨i,cap,_,by rw [<- hqa];rfl,by simp [hi]⟩
   ·have:k=l.length:=by omega
    subst this;simp -implicitDefEqProofs [bG,g5,g1];rw [List.take_of_length_le (Nat.le_refl _)] at hb;exact ⟨i,cap,bs,rfl,hb⟩)
 exact ⟨fr',h',rfl,p1,hk⟩
theorem Yp (s:Sp):t6 s=[.vsl false (eI .u8 s.S),Ii s.a,Ii s.b,Ii s.c]:=rfl
theorem zan (h:O)(bs:List (List J))(ts:List Nat)(i:Nat)(cap:Option Nat)(S:List Int)(a b c:Int)(m:Nat)(hb:bs[i]?=some (cI .u8 S))(hl:S.length=200):
  frz (hx h bs ts) h.blks.length h.toks.length (m+2) (.agg [sA h.blks.length i 0 1 200 cap,Ii a,Ii b,Ii c])=some (.agg [.vsl false (eI .u8 S),Ii a,Ii b,Ii c]):=by
 have e:=G6 h bs ts h.toks.length m i 200 cap .u8 S hb (by rw [hl];exact Nat.le_refl _);rw [List.take_of_length_le (by rw [hl];exact Nat.le_refl _)] at e;generalize hx h bs ts=H at*;have hfl:aZ [sA h.blks.length i 0 1 200 cap,J.int .i64 a,Ii b,Ii c]=false:=by simp [aZ,J.flat,sA]
 have fi:∀ a:Int,frz H h.blks.length h.toks.length (m+1) (Ii a)=some (Ii a):=fun a=>by rw [frz.eq_def]
 have hg:frz H h.blks.length h.toks.length (m+2) (.agg [sA h.blks.length i 0 1 200 cap,Ii a,Ii b,Ii c])=
   ([sA h.blks.length i 0 1 200 cap,J.int .i64 a,Ii b,Ii c].mapM (frz H h.blks.length h.toks.length (m+1))).map .agg:=by
  rw [frz.eq_def];simp only [hfl];rfl
 rw [hg];simp only [List.mapM_cons,List.mapM_nil,e,fi];rfl
theorem zgh (L:az)(h:O)(s:Sp)(hs:s.ok)(hc:s.c < 100000000)(c:Bool)(l:List Int)(hl:ce l)(hn:l.length < 100000000):
  aa ah L fQ [.agg (t6 s),.vsl c (eI .u8 l)] h=some (.agg (t6 (aA s l)),h):=by
 rw [vE];have hf:=S4 h s;have hf2:=fR h c (eI .u8 l);have hlo:=fun fr H R=>Yn (fr:=fr) (h:=h) (H:=H) (R:=R) s hs l hl hn hc;have hcl:(J.agg (t6 s)).cells=t6 s:=by simp only [J.cells]
 have hok:(J.agg (t6 s)).okV=true:=MH _;have hS:(eI .u8 s.S).length=200:=by simp [hs.1]
 have q0:eL false (t6 s) 0 1=some (.vsl false (eI .u8 s.S)):=rfl;have hap:=fun y z=>zu (V h) h [y,z] [] 1 false [] (eI .u8 s.S) (by simp [hs.1,am,show cS 1 ([]:List (List J))=true from rfl]);rw [List.nil_append,Br] at hap;simp only [V,List.length_nil,Nat.zero_add,hS,List.length_cons,List.cons_append,List.nil_append] at hap;have hset:∀ x:J,setAt (t6 s) 0 [x]=[x,Ii s.a,Ii s.b,Ii s.c]:=fun x=>rfl;have hsl:(t6 s).length=4:=rfl;have hH:tkI h s (hx h ([sA h.blks.length 2 0 1 200 none,Ii s.a,Ii s.b,Ii s.c] :: zSp :: [cI .u8 s.S]) []):=⟨0,none,_,rfl,rfl⟩;have hlen:=jh hs hl;have hzS:zSp=[.nsl,Ii 0,Ii 0,Ii 0]:=rfl;rw [Yp (aA s l)];simp only [hzS] at hH;simp -implicitDefEqProofs [kh,V,hf,hf2,aE,hok,hcl,ak,rep,chunks,q0,hap,Z,ab,aq,hset,hsl];generalize hF:run ah _ (.loop _) _ _=R;obtain ⟨fr1,H',rfl,⟨i,cap,bs,rfl,hb⟩,hk1⟩:=hlo _ _ _ hF hH (by simp) (by simp) (by simp);have hfz:=fun z=>zan h ([sA h.blks.length (i+2) 0 1 200 cap,Ii (aA s l).a,Ii (aA s l).b,Ii (aA s l).c] :: z :: bs) [] (i+2) cap (aA s l).S (aA s l).a (aA s l).b (aA s l).c 10 (by simpa using hb) hlen.1;generalize aA s l=q at*;simp -implicitDefEqProofs [hk1,wr,bG,bn,Z,ab,aq,setAt,J.cells,J.okV,hzS,hfz]
def gvL (h:O)(bs:List (List J))(x:J)(S:List Int):Prop:=x=.vsl false (eI .u8 S)\/∃ i cap,x=sA h.blks.length (i+2) 0 1 200 cap/\bs[i]?=some (cI .u8 S)
theorem gvL.st {h:O}{bs:List (List J)}{x:J}{S:List Int}(hx1:gvL h bs x S)(A B:List J):StL h.blks.length (A :: B :: bs) x S:=by
 rcases hx1 with rfl | ⟨i,cap,rfl,hb⟩
 ·exact .inl rfl
 ·exact .inr ⟨i+2,cap,rfl,by simpa using hb⟩
theorem gvL.rd {h:O}{bs:List (List J)}{x:J}{S:List Int}(hx1:gvL h bs x S)(hl:S.length=200)(j:Nat)(hj:j < 200):
  ∃ p,bA none 1 x (Ii (j:Int))=some p/\∀ A B ts,qC (hx h (A :: B :: bs) ts) p 1 false=some (.int .u8 (gd S 0 j)):=by
 rcases hx1 with rfl | ⟨i,cap,rfl,hb⟩
 ·refine ⟨_,pI .u8 .i64 false S j (decide_eq_true (by omega)),fun A B ts=>?_⟩;simp
 ·refine ⟨_,om h.blks.length (i+2) 0 1 200 j cap .i64 (by simp;omega),fun A B ts=>?_⟩;simp [hb,hl];simp [cI,gd,List.getD,show j < S.length by omega]
theorem gvL.frz {h:O}{bs:List (List J)}{x:J}{S:List Int}(hx1:gvL h bs x S)(hl:S.length=200)(A B:List J)(ts:List Nat)(a b c m:Nat):
  frz (hx h (A :: B :: bs) ts) h.blks.length h.toks.length (m+2) (.agg [x,Ii a,Ii b,Ii c])=some (.agg [.vsl false (eI .u8 S),Ii a,Ii b,Ii c]):=by
 rcases hx1 with rfl | ⟨i,cap,rfl,hb⟩
 ·exact zaB _ _ _ m ⟨S,a,b,c⟩
 ·exact zan h (A :: B :: bs) ts (i+2) cap S a b c m (by simpa using hb) hl
def gvI (h:O)(q:Sp)(ts:List Nat)(hh:O):Prop:=∃ x bs,hh=hx h ([x,Ii q.a,Ii q.b,Ii q.c] :: zSp :: bs) ts/\gvL h bs x q.S
theorem Yr {fr:Fr}{h H:O}{R:Option (cL × Fr × O)}(s:Sp)(hs:s.ok)(N:Int)(n:Nat)(hN:n=N.toNat)(hn:n < 1000000)(hc:s.c < 1000000000)
  (hF:run ah (V h) (.loop bJ) fr H=R) (hH:gvI h s [] H)
  (h1:fr 1=Ii N) (h2:fr 2=pA h.blks.length 0 0) (h6:fr 6=.vsl true []) (h7:fr 7=Ii 0):
  ∃ fr' H',R=some (.exit 0,fr',H')/\gvI h (bD s n) (gT (eI .u8 (fu s n))) H'/\fr' 6=gL (.vsl true []) h.toks.length 0 (eI .u8 (fu s n))/\∀ t,t∉wr bJ->fr' t=fr t:=by
 obtain ⟨e,fr',h',rfl,⟨rfl,p1,g6⟩,hk⟩:=af hF n
  (fun k fr hh=>fr 7=Ii k/\gvI h (bD s k) (gT (eI .u8 (fu s k))) hh/\fr 6=gL (.vsl true []) h.toks.length 0 (eI .u8 (fu s k)))
  (fun e fr hh=>e=.exit 0/\gvI h (bD s n) (gT (eI .u8 (fu s n))) hh/\fr 6=gL (.vsl true []) h.toks.length 0 (eI .u8 (fu s n)))
  ⟨h7,hH,h6⟩ (by
   rintro k fr1 hh hkN hkeep ⟨g7,⟨x,bs,rfl,hx1⟩,g6⟩;have g1:=kp hkeep h1;have g2:=kp hkeep h2;by_cases hlt:k < n
   ·have hltI:(k:Int) < N:=by omega
    have w0:Wr ((k:Int)+1)=k+1:=wz;have hok:=rJ hs k;have hck:=BM s k;have hsn:=Rx s k;have hll:=wZ s k;obtain ⟨o1,o2,o3,o4⟩:=hok;have hgs:bD s (k+1)=Jh (bD s k):=rfl;have hroom:((fu s k).length+1 < am):=by rw [hll];unfold am;omega
    have hap2:=fun cs v=>yx (V h) h cs 1 true (eI .u8 (fu s k)) (eI .u8 [v]) (by simp [V,hroom]);obtain ⟨x1,x2,x3⟩:=(hx1.st [] []).cell;generalize bD s k=q,fu s k=l at*;by_cases hb:q.b=136
    ·obtain ⟨e1,e2⟩:=Oc hb;rw [e1] at hgs;rw [e2] at hsn;obtain ⟨js,hT⟩:=Ko (V h) h ([x,Ii q.a,Ii q.b,Ii q.c] :: zSp :: bs) (gT (eI .u8 l)) x q.S q.a q.b q.c (hx1.st _ _) o1 (by omega) (Nat.le_refl _) (Nat.le_add_right _ _);have tl:(gk q.S).length=200:=wV _;have bI:((q.b:Int)==136)=true:=by simp [hb]
     simp only [List.cons_append,List.append_assoc,List.length_cons,V] at hT;have hget : ∀ (A B x : List J), (A :: B :: (bs ++ (js ++ [x])))[bs.length + 1 + 1 + js.length]? = some x := fun A B x => by
      rw [show bs.length+1+1+js.length=(bs.length+js.length)+1+1 by omega,List.getElem?_cons_succ,List.getElem?_cons_succ,<- List.append_assoc,List.getElem?_append_right (by simp)];simp
     have hMe:bs.length+1+1+js.length=(bs.length+js.length)+2:=by omega
     have ia0:bA none 1 (sA h.blks.length (bs.length+1+1+js.length) 0 1 200 none) (Ii 0)=some (pA h.blks.length (bs.length+1+1+js.length) 0):=om h.blks.length (bs.length+1+1+js.length) 0 1 200 0 none .i64 (by simp);have h0at:(cI .u8 (gk q.S))[0]?=some (.int .u8 (gd (gk q.S) 0 0)):=by simp [cI,gd,List.getD,tl]
     have h0at':∀ hh,(cI .u8 (gk q.S))[0]'hh=.int .u8 (gd (gk q.S) 0 0):=fun hh=>(List.getElem?_eq_some_iff.1 h0at).2;simp only [V] at hap2;generalize hc1:((q.c+1:Nat):Int)=c1 at*;generalize bs.length+1+1+js.length=M at*;simp -implicitDefEqProofs [bJ,V,g1,g2,g6,g7,hltI,w0,bI,hT,x1,x2,Z,aq,ab,setAt,J.cells,J.okV,ap,ia0,tl,hget,h0at,h0at',ak,rep,chunks,fx,hap2,show IntKind.i64.wrap 1=1 by decide];rw [hsn,hgs];exact ⟨hlt,⟨_,bs++(js++[cI .u8 (gk q.S)]),by rw [<- hc1];rfl,.inr ⟨bs.length+js.length,none,by rw [hMe],by rw [<- List.append_assoc,List.getElem?_append_right (by simp)];simp⟩⟩,rfl⟩
    ·obtain ⟨e1,e2⟩:=Oe hb;rw [e1] at hgs;rw [e2] at hsn;have bI:((q.b:Int)==136)=false:=beq_false_of_ne (by omega);obtain ⟨p,ip,lp⟩:=hx1.rd o1 q.b (by omega);have w1:Wr ((q.b:Int)+1)=((q.b+1:Nat):Int):=wy;simp only [V] at hap2;generalize hb1:((q.b+1:Nat):Int)=b1 at*;simp -implicitDefEqProofs [bJ,V,g1,g2,g6,g7,hltI,w0,w1,bI,ip,lp,Z,aq,ab,setAt,J.cells,J.okV,ap,ak,rep,chunks,fx,hap2];rw [hsn,hgs];exact ⟨hlt,⟨x,bs,by rw [<- hb1],hx1⟩,rfl⟩
   ·have:k=n:=by omega
    subst this;have hltI:¬(k:Int) < N:=by omega
    simp -implicitDefEqProofs [bJ,g1,g6,g7,hltI];exact ⟨x,bs,rfl,hx1⟩)
 exact ⟨fr',h',rfl,p1,g6,hk⟩
theorem Vs (L:az)(h:O)(s:Sp)(hs:s.ok)(N:Int)(n:Nat)(hN:n=N.toNat)(hn:n < 1000000)(hc:s.c < 1000000000):
  aa ah L d4 [.agg (t6 s),Ii N] h=some (.tup [.agg (t6 (bD s n)),.vsl false (eI .u8 (fu s n))],h):=by
 rw [vr];have hf:=S4 h s;have hlo:=fun fr H R=>Yr (fr:=fr) (h:=h) (H:=H) (R:=R) s hs N n hN hn hc;have hok:(J.agg (t6 s)).okV=true:=MH _;have hcl:(J.agg (t6 s)).cells=t6 s:=by simp only [J.cells]
 have hH:gvI h s [] (hx h [t6 s,zSp] []):=⟨_,[],rfl,.inl rfl⟩;have hgo:=rJ hs n;have hzS:zSp=[.nsl,Ii 0,Ii 0,Ii 0]:=rfl;rw [Yp (bD s n)];have hg:=fun hh n'=>pe (h1:=hh) (nb:=h.blks.length) (nt:=h.toks.length) (n:=n') (s:=.vsl true []) (es:=eI .u8 (fu s n)) (.inr rfl) (by simp);generalize t6 s=q,fu s n=l at*;rw [hzS] at hH;simp -implicitDefEqProofs [km,V,hf,aE,hok,hcl,ak,rep,chunks];generalize hF:run ah _ (.loop _) _ _=R;obtain ⟨fr1,H',rfl,⟨x,bs,rfl,hx1⟩,f6,hk1⟩:=hlo _ _ _ hF hH (by simp) (by simp) (by simp) (by simp);have hfz:=fun A ts=>hx1.frz hgo.1 [x,Ii (bD s n).a,Ii (bD s n).b,Ii (bD s n).c] A ts (bD s n).a (bD s n).b (bD s n).c 9;obtain ⟨x1,x2,x3⟩:=(hx1.st [] []).cell;generalize bD s n=g at*;simp -implicitDefEqProofs [hk1,wr,bJ,bn,Z,ab,aq,setAt,J.cells,J.okV,hzS,x1,x2,f6,hg,hfz]
theorem zgs (S:List Int)(hl:S.length=200)(z:List Int)(hz:z.length=136):z++(S.drop 136).take 64=putAt S 0 z:=by
 unfold putAt;rw [List.take_zero,List.nil_append,Nat.zero_add,hz,List.take_of_length_le (by simp;omega)]
theorem Vu {L:az}{H:O}{sz:Nat}{ref:Bool}{x y:J}{ys:List (List J)}(hy:aH H sz y=some ys)(hs:fc sz y=true):jm L H sz ref x y=jm L H sz ref x (.vsl false ys):=by
 have h2:fc sz (.vsl false ys)=true:=rfl;simp only [jm,hy,hs,h2,JT]
theorem zkh (L:az)(h:O)(p:J)(n i:Nat)(es:List (List J)):J4 L h 1 p (gA n i es)=UG (dR L h p [gA n i es]):=by simp [J4,gA,J.cells,J.okV]
theorem Vv (L:az)(h:O)(s:Sp)(hs:s.ok)(hc:s.c < 100000000):
  aa ah L eO [.agg (t6 s)] h=some (.agg (t6 (BR s)),h):=by
 rw [sO];have hf:=S4 h s;have hok:(J.agg (t6 s)).okV=true:=MH _;have hcl:(J.agg (t6 s)).cells=t6 s:=by simp only [J.cells]
 have e1:t6 (BR s)=[.vsl false (eI .u8 (putAt (gk s.S) 0 (tab 136 fun _=>0))),Ii 0,Ii 136,Ii ((s.c+1:Nat):Int)]:=rfl;have tl:(gk s.S).length=200:=wV _;rw [e1,<- zgs _ tl _ (by simp)];obtain ⟨js,hT⟩:=Ko (V h) h [[.vsl false (eI .u8 s.S),Ii s.a,Ii s.b,Ii s.c],zSp] [] (.vsl false (eI .u8 s.S)) s.S s.a s.b s.c (.inl rfl) hs.1 (by omega) (Nat.le_refl _) (Nat.le_add_right _ _);have hzS:zSp=[.nsl,Ii 0,Ii 0,Ii 0]:=rfl;simp only [List.cons_append,List.nil_append,List.append_assoc,List.length_cons,List.length_nil,V,hzS] at hT;rw [Yp] at*;have hmk:=fun bs=>jv h bs [] 1 [J.int .u8 0] .i64 136 (by decide);have hz0:rep [J.int .u8 0] (136:Int).toNat=cI .u8 (tab 136 fun _=>0):=by rw [eV,gQ];rfl
 rw [hz0] at hmk;have hap := fun A B m => Jy (V h) h (A :: B :: (js ++ [cI .u8 (gk s.S), cI .u8 (tab 136 fun _ => 0)])) [] (js.length + 3) 136 .u8 (tab 136 fun _ => 0) m false (by
  rw [List.getElem?_cons_succ,List.getElem?_cons_succ,List.getElem?_append_right (by simp)];simp)
 have hel := fun A B => zek h (A :: B :: (js ++ [cI .u8 (gk s.S), cI .u8 (tab 136 fun _ => 0)])) [] (js.length + 2) 136 64 .u8 (gk s.S) none (by
  rw [List.getElem?_cons_succ,List.getElem?_cons_succ,List.getElem?_append_right (by simp)];simp) (by omega)
 have hsl:eP .slc 1 (sA h.blks.length (2+js.length) 0 1 200 none) (some (Ii 136)) none none=some (sA h.blks.length (2+js.length) 136 1 64 none):=RU 1 h.blks.length (2+js.length) 200 136 none .i64 (by decide);have hapk : ∀ A B, jm (V h) (hx h (A :: B :: (js ++ [cI .u8 (gk s.S), cI .u8 (tab 136 fun _ => 0)])) []) 1 false (sA h.blks.length (js.length + 1 + 1 + 1) 0 1 136 (some 136)) (sA h.blks.length (2 + js.length) 136 1 64 none) =
   some (gA h.toks.length 0 (eI .u8 ((tab 136 fun _=>0)++((gk s.S).drop 136).take 64)),hx h (A :: B :: (js++[cI .u8 (gk s.S),cI .u8 (tab 136 fun _=>0)])) [200]):=fun A B=>by
  have e:=hel A B;rw [show js.length+2=2+js.length by omega] at e;rw [Vu e rfl];have:=hap A B (((gk s.S).drop 136).take 64) (by simp [tl,am]);rw [show js.length+3=js.length+1+1+1 by omega] at this;rw [this];simp [tl]
 simp only [V] at hapk;have hfz:=fun bs m=>Ve h bs [200] m 0 (eI .u8 ((tab 136 fun _=>0)++((gk s.S).drop 136).take 64)) (fun nb nt=>by simp) 0 136;generalize (tab 136 fun _=>(0:Int))++((gk s.S).drop 136).take 64=S2 at*;generalize hc1:((s.c+1:Nat):Int)=c1 at*;simp -implicitDefEqProofs [io,V,hf,aE,hok,hcl,ak,rep,chunks,Z,ab,aq,setAt,hT,J.cells,J.okV,hmk,hsl,hapk,ap,hfz,zkh]
theorem zgz {x:Int}(h:0<=x/\x < 256):Wd x=x % 64:=by
 obtain ⟨n,rfl⟩:∃ n:Nat,x=n:=⟨x.toNat,by omega⟩;have hn:n < 256:=by omega
 have key:∀ n:Nat,n < 256->Wd (n:Int)=(n:Int) % 64:=by decide +kernel
 exact key n hn
theorem Yx (L:az)(h:O)(c:Bool)(b:List Int)(hb:ce b)(hl:b.length=32):
  aa ah L jU [.vsl c (eI .u8 b)] h=some (.vsl false (eW (dg (bx (kq b)))),h):=by
 rw [zR];have hf:=fR h c (eI .u8 b);have hap:=fun ts=>zu (V h) h [] ts 1 false [] (eI .u8 b) (by simp [hl,am,show cS 1 ([]:List (List J))=true from rfl]);simp only [List.nil_append,Br] at hap;simp only [V,List.length_nil,Nat.zero_add,TR,hl,List.nil_append] at hap;have ia:bA none 1 (sA h.blks.length 0 0 1 32 none) (Ii 31)=some (pA h.blks.length 0 31):=om h.blks.length 0 0 1 32 31 none .i64 (by simp);have h31:(cI .u8 b)[31]?=some (.int .u8 (gd b 0 31)):=by simp [cI,gd,List.getD,hl]
 have hb31:=hb 31 (by omega);have hm:=zgz hb31;have hset:(cI .u8 b).set 31 (.int .u8 (Wd (gd b 0 31)))=cI .u8 (kq b):=by unfold kq;simp [cI,List.map_set]
 have hml:(kq b).length=32:=by rw [Oz];exact hl
 have hO2:=fun L=>Jt L (hx h [cI .u8 (kq b)] []) (sA h.blks.length 0 0 1 32 none) (kq b) (JM.sA [] .u8 0 32 none (kq b) hml rfl) (Oy hb) (by omega);have hlen:(cI .u8 b).length=32:=by simp [hl]
 generalize dg (bx (kq b))=D at*;have h31':∀ hh,(cI .u8 b)[31]'hh=.int .u8 (gd b 0 31):=fun hh=>(List.getElem?_eq_some_iff.1 h31).2;have hrem:aW .rem (.int .u8 (gd b 0 31)) (.int .u8 64)=some (.int .u8 (Wd (gd b 0 31))):=by
  rw [bC .u8 _ 64 (by decide),hm];obtain ⟨n,hn⟩:∃ n:Nat,gd b 0 31=n:=⟨(gd b 0 31).toNat,by omega⟩;rw [hn]
  congr 2
 simp -implicitDefEqProofs [nH,V,hf,ak,rep,chunks,hap,ia,ao,h31,h31',hrem,hset,hO2,ap,hlen]
def fdD (b:List Int):J:=if bx (kq b) < pN then .tup [.vsl false (eW (dg (bx (kq b)))),Ii 1,Ii 0] else .tup [.vsl false [],Ii 64,Ii 11]
theorem U9 {fr:Fr}{h:O}{R:Option (cL × Fr × O)}(b:List Int)(hb:ce b)(hl:b.length=32)(c2:Bool)
  (hF:run ah (V h) (.loop gf) fr (hx h [] [])=R)
  (h0:fr 0=.vsl false [[.vsl c2 (eI .u8 b)]]) (h1:fr 1=Ii 0) (h7:fr 7=Ii 0):
  ∃ e fr',R=some (e,fr',hx h [] [])/\(e=.ret/\bx (kq b) < pN/\fr' 4=.vsl false (eW (dg (bx (kq b))))/\fr' 5=Ii 1/\fr' 6=Ii 0\/e=.exit 0/\¬bx (kq b) < pN):=by
 obtain ⟨e,fr',h',rfl,⟨rfl,hp⟩,hk⟩:=af hF 64
  (fun k fr hh=>fr 7=Ii (k:Int)/\(0 < k->¬bx (kq b) < pN)/\hh=hx h [] [])
  (fun e fr hh=>hh=hx h [] []/\(e=.ret/\bx (kq b) < pN/\fr 4=.vsl false (eW (dg (bx (kq b))))/\fr 5=Ii 1/\fr 6=Ii 0\/e=.exit 0/\¬bx (kq b) < pN))
  ⟨h7, fun q => absurd q (by omega), rfl⟩ (by
   rintro k fr1 hh hkN hkeep ⟨g7,hno,rfl⟩;have g0:=kp hkeep h0;have g1:=kp hkeep h1;by_cases hk64:k < 64
   ·have hkI:(k:Int) < 64:=by omega
    have w0:Wr (k:Int)=k:=wz;have w1:Wr ((k:Int)+1)=((k+1:Nat):Int):=wy;have hrem:aW .rem (Ii (k:Int)) (Ii 1)=some (Ii 0):=by rw [bC .i64 (k:Int) 1 (by decide)];simp
    have ia:bA none 1 (.vsl false [[.vsl c2 (eI .u8 b)]]) (Ii 0)=some (.vptr [.vsl c2 (eI .u8 b)] 0):=by simp [bA,JP]
    have hNm:=fun L h=>Yx L h c2 b hb hl;have hP:=zlX;have hbd:bx (kq b) < dB ^ 8:=by
     have:=yX (Oy hb);rw [Oz,hl] at this;exact this
    have hlb:=Hy hbd;have hC:=fun L h=>Ms L h (.vsl false (eW (dg (bx (kq b))))) (.vsl false (eW pD)) (dg (bx (kq b))) pD (i6.vsl _ _ _) (i6.vsl _ _ _) (xR _) zlW ⟨by omega,by decide⟩;rw [kl,zlV] at hC;have hcl:=zeT (bx (kq b)) pN;generalize pD=dP,ka (bx (kq b)) pN=cm at*;by_cases hlt:bx (kq b) < pN
    ·have hk0:k=0:=by
      rcases Nat.eq_zero_or_pos k with q | q
      ·exact q
      ·exact absurd hlt (hno q)
     subst hk0;rw [decide_eq_true hlt] at hcl;have hcl:=of_decide_eq_true hcl;generalize dg (bx (kq b))=D at*;simp -implicitDefEqProofs [gf,V,g0,g1,g7,ia,hNm,hP,hC,hcl,hlt,show aW .rem (Ii 0) (Ii 1)=some (Ii 0) from rfl,show IntKind.i64.wrap 1=1 by decide]
    ·rw [decide_eq_false hlt] at hcl;have hcl:=of_decide_eq_false hcl;generalize dg (bx (kq b))=D at*;generalize hk1:((k+1:Nat):Int)=k1 at*;simp -implicitDefEqProofs [gf,V,g0,g1,g7,hkI,w0,w1,hrem,ia,hNm,hP,hC,hcl,hlt];exact ⟨hk64,by omega⟩
   ·have:k=64:=by omega
    subst this;simp -implicitDefEqProofs [gf,g7];exact Nat.le_of_not_lt (hno (by omega)))
 exact ⟨e,fr',rfl,hp⟩
theorem zcu (L:az)(h:O)(c c2:Bool)(b:List Int)(hb:ce b)(hl:b.length=32):
  aa ah L kQ [.vsl c [[.vsl c2 (eI .u8 b)]],Ii 0] h=some (fdD b,h):=by
 rw [AU];have hf:=fR h c [[.vsl c2 (eI .u8 b)]];have hlo:=fun fr R=>U9 (fr:=fr) (h:=h) (R:=R) b hb hl c2;unfold fdD;simp -implicitDefEqProofs [oY,hf];generalize hF:run ah _ (.loop _) _ _=R;obtain ⟨e,fr1,rfl,⟨rfl,hlt,f4,f5,f6⟩ | ⟨rfl,hlt⟩⟩:=hlo _ _ hF (by simp) (by simp) (by simp)
 ·rw [if_pos hlt];generalize dg (bx (kq b))=D at*;simp -implicitDefEqProofs [f4,f5,f6]
 ·rw [if_neg hlt];simp -implicitDefEqProofs []
end Go.Av
