/- The document's digest, tag, sponge of bytes and samples. -/
import Derived.Test.YtafkceblllhheaaGreatDoorC3
import Derived.Test.YtafkceblllhheaaGreatDoorV5
import Derived.Test.YtafkceblllhheaaGreatDoorCD
import Derived.Test.YtafkceblllhheaaGreatDoorC8
import Derived.Test.YtafkceblllhheaaGreatDoorC4
import Derived.Test.YtafkceblllhheaaGreatDoorC2
import Derived.Test.YtafkceblllhheaaGreatDoorCC
import Derived.Test.YtafkceblllhheaaGreatDoorC5
set_option linter.unusedSimpArgs false
set_option linter.unusedVariables false
set_option maxHeartbeats 2000000
set_option maxRecDepth 20000
namespace Go.Av
@[simp] theorem zpV (k:IntKind)(l:List Int)(i:Nat)(h:i < (cI k l).length):(cI k l)[i]=.int k (gd l 0 i):=by
 have:=NR (k:=k) (l:=l) (i:=i) (by simpa using h);rw [List.getElem?_eq_getElem h] at this;exact sj this
def Wy (a b:Int):Int:=((a.toNat ^^^ b.toNat:Nat):Int)
theorem zdT {L:az}{fr:Fr}{H:O}{R:Option (dt × Fr × O)}(a b:Nat)(ha:a < 256)(hb:b < 256)
  (hF:run ah L (.loop i6) fr H=R)
  (h5:fr 5=Ii 0) (h6:fr 6=Ii 1) (h7:fr 7=Ii a) (h8:fr 8=Ii b) (h9:fr 9=Ii 0):
  ∃ fr',R=some (.exit 0,fr',H)/\fr' 5=Ii ((a ^^^ b:Nat):Int):=by
 have hab:(a ^^^ b) % 2 ^ 8=a ^^^ b:=Nat.mod_eq_of_lt (Nat.xor_lt_two_pow (n:=8) ha hb);obtain ⟨e,fr',h',rfl,⟨rfl,rfl,h3'⟩,hk⟩:=af hF 8
  (fun k fr hh=>fr 9=Ii k/\fr 5=Ii (((a ^^^ b) % 2 ^ k:Nat):Int)/\fr 6=Ii ((2 ^ k:Nat):Int)/\fr 7=Ii ((a / 2 ^ k:Nat):Int)/\fr 8=Ii ((b / 2 ^ k:Nat):Int)/\hh=H)
  (fun e fr hh=>e=.exit 0/\hh=H/\fr 5=Ii ((a ^^^ b:Nat):Int))
  ⟨h9, by simpa [Nat.mod_one] using h5, h6, by simpa using h7, by simpa using h8, rfl⟩ (by
   rintro k fr1 hh hkN hkeep ⟨g9,g5,g6,g7,g8,rfl⟩;by_cases hlt:k < 8
   ·have w0:Wr ((k:Int)+1)=k+1:=wz;have hp2:2 ^ k<=128:=by
     have:2 ^ k<=2 ^ 7:=Nat.pow_le_pow_right (by decide) (by omega);simpa using this
    have hstep:(a ^^^ b) % 2 ^ (k+1)=(a ^^^ b) % 2 ^ k+2 ^ k*((a ^^^ b) / 2 ^ k % 2):=Nat.mod_pow_succ;have tc:=Nat.testBit_eq_decide_div_mod_eq (x:=a ^^^ b) (i:=k);rw [Nat.testBit_xor] at tc;have ta:=Nat.testBit_eq_decide_div_mod_eq (x:=a) (i:=k);have tb:=Nat.testBit_eq_decide_div_mod_eq (x:=b) (i:=k);have hda:a / 2 ^ (k+1)=a / 2 ^ k / 2:=by rw [Nat.pow_succ,Nat.div_div_eq_div_mul]
    have hdb:b / 2 ^ (k+1)=b / 2 ^ k / 2:=by rw [Nat.pow_succ,Nat.div_div_eq_div_mul]
    have hp3:2 ^ (k+1)=2*2 ^ k:=by rw [Nat.pow_succ,Nat.mul_comm]
    have hmlt:(a ^^^ b) % 2 ^ k < 2 ^ k:=Nat.mod_lt _ (Nat.two_pow_pos k);have hal:a / 2 ^ k<=a:=Nat.div_le_self _ _;have hbl:b / 2 ^ k<=b:=Nat.div_le_self _ _;have hPI:(2:Int) ^ (k+1)=((2*2 ^ k:Nat):Int):=by rw [<- hp3,Int.natCast_pow];rfl
    have hAI:(a:Int) / 2 ^ (k+1)=((a / 2 ^ k / 2:Nat):Int):=by rw [<- hda,Int.natCast_ediv,Int.natCast_pow];rfl
    have hBI:(b:Int) / 2 ^ (k+1)=((b / 2 ^ k / 2:Nat):Int):=by rw [<- hdb,Int.natCast_ediv,Int.natCast_pow];rfl
    have hMI:(((a ^^^ b:Nat):Int)) % 2 ^ (k+1)=(((a ^^^ b) % 2 ^ (k+1):Nat):Int):=by rw [Int.natCast_emod,Int.natCast_pow];rfl
    rw [hPI] at hAI hBI hMI;rw [ta,tb] at tc;have hc2:(a ^^^ b) / 2 ^ k % 2 < 2:=Nat.mod_lt _ (by decide);generalize 2 ^ k=pk,b / 2 ^ k=y,a / 2 ^ k=x,(a ^^^ b) % 2 ^ k=m,(a ^^^ b) % 2 ^ (k+1)=m1,(a ^^^ b) / 2 ^ k % 2=c at*;have t1:(x:Int).tmod 2=((x % 2:Nat):Int):=rt x 2;have t2:(y:Int).tmod 2=((y % 2:Nat):Int):=rt y 2;have t3:=Us x;have t4:=Us y;have w1:=eF (x / 2) (by omega);have w2:=eF (y / 2) (by omega);have w3:Wr ((pk:Int)*2)=((2*pk:Nat):Int):=wy;have w4:Wr ((m:Int)+(pk:Int))=((m+pk:Nat):Int):=wy;by_cases hne:x % 2=y % 2
    ·have hc0:c=0:=by
      rw [hne] at tc;simp at tc;omega
     have hm:m1=m:=by rw [hstep,hc0];simp
     have hq:(((x % 2:Nat):Int)==((y % 2:Nat):Int))=true:=by simp [hne]
     generalize x / 2=xh at*;generalize 2*pk=pk2,y % 2=yl,x % 2=xl,y / 2=yh at*;simp [i6,g5,g6,g7,g8,g9,hlt,show (k:Int) < 8 by omega,w0,t1,t2,t3,t4,w1,w2,w3,bQ,eN,bne,hq,hPI];exact ⟨by rw [hMI,hm],hAI.symm,hBI.symm⟩
    ·have hm:m1=m+pk:=by
      have hc1:c=1:=by
       have hx:x % 2=0\/x % 2=1:=by omega
       have hy:y % 2=0\/y % 2=1:=by omega
       rcases hx with hx | hx <;> rcases hy with hy | hy <;> simp [hx,hy] at hne tc <;> omega
      rw [hstep,hc1,Nat.mul_one]
     have hq:(((x % 2:Nat):Int)==((y % 2:Nat):Int))=false:=beq_false_of_ne (by omega);generalize m+pk=mp,2*pk=pk2,y % 2=yl,x % 2=xl,y / 2=yh,x / 2=xh at*;simp [i6,g5,g6,g7,g8,g9,hlt,show (k:Int) < 8 by omega,w0,t1,t2,t3,t4,w1,w2,w3,w4,bQ,eN,bne,hq,hPI];exact ⟨by rw [hMI,hm],hAI.symm,hBI.symm⟩
   ·have:k=8:=by omega
    subst this;rw [hab] at g5;simp [i6,g9,g5])
 exact ⟨fr',rfl,h3'⟩
theorem zkZ (L:az)(h:O)(a b:Int)(ha:0<=a/\a < 256)(hb:0<=b/\b < 256):Z ah L mJ [.int .u8 a,.int .u8 b] h=some (.int .u8 (Wy a b),h):=by
 obtain ⟨x,rfl⟩:∃ k:Nat,a=k:=⟨a.toNat,by omega⟩;obtain ⟨y,rfl⟩:∃ k:Nat,b=k:=⟨b.toNat,by omega⟩;rw [Dq];have w1:=eF x (by omega);have w2:=eF y (by omega);simp [q9,w1,w2];generalize hF:run ah _ (.loop _) _ _=R;obtain ⟨fr2,rfl,q1⟩:=zdT x y (by omega) (by omega) hF (by simp) (by simp) (by simp) (by simp) (by simp);have hlt:x ^^^ y < 2 ^ 8:=Nat.xor_lt_two_pow (by omega) (by omega);have w3:IntKind.u8.wrap ((x ^^^ y:Nat):Int)=((x ^^^ y:Nat):Int):=wrap_u8 (by omega) (by omega);simp [q1,w3,Wy]
def fX (n:Nat):Nat:=(136 - (n+1) % 136) % 136
def vJ (b:List Int)(k:Nat):List Int:=b++[6]++List.replicate k 0
def p9 (b:List Int):List Int:=(vJ b (fX b.length)).set (b.length+fX b.length) (IntKind.u8.wrap (gd (vJ b (fX b.length)) 0 (b.length+fX b.length)+128))
@[simp] theorem My (b:List Int)(k:Nat):(vJ b k).length=b.length+1+k:=by simp [vJ];omega
theorem zbb (b:List Int)(k:Nat):vJ b k++[0]=vJ b (k+1):=by simp [vJ,List.replicate_succ']
theorem zdW {fr:Fr}{h:O}{R:Option (dt × Fr × O)}(b:List Int)(hn:b.length < 100000000000)(bs0:List (List J))(ts:List Nat)
  (hF:run ah (V h) (.loop lJ) fr (hx h (bs0++[cI .u8 (vJ b 0)]) ts)=R)
  (h3:fr 3=sA h.blks.length bs0.length 0 1 (b.length+1) none):
  ∃ fr' bs',R=some (.exit 0,fr',hx h (bs'++[cI .u8 (vJ b (fX b.length))]) ts)/\fr' 3=sA h.blks.length bs'.length 0 1 (b.length+1+fX b.length) none:=by
 obtain ⟨e,fr',h',rfl,⟨rfl,bs',rfl,h3'⟩,hk⟩:=af hF (fX b.length)
  (fun k fr hh=>∃ bs',hh=hx h (bs'++[cI .u8 (vJ b k)]) ts/\fr 3=sA h.blks.length bs'.length 0 1 (b.length+1+k) none)
  (fun e fr hh=>e=.exit 0/\∃ bs',hh=hx h (bs'++[cI .u8 (vJ b (fX b.length))]) ts/\fr 3=sA h.blks.length bs'.length 0 1 (b.length+1+fX b.length) none)
  ⟨bs0,rfl,h3⟩ (by
   rintro k fr1 hh hkN hkeep ⟨bs',rfl,g3⟩;have hz:fX b.length < 136:=Nat.mod_lt _ (by decide);have t1:((b.length+1+k:Nat):Int).tmod 136=(((b.length+1+k) % 136:Nat):Int):=rt _ 136;by_cases hlt:k < fX b.length
   ·have hne:(b.length+1+k) % 136≠0:=by unfold fX at hlt;omega
    have hq:((((b.length+1+k) % 136:Nat):Int)==0)=false:=beq_false_of_ne (by omega);have ha:=Su (V h) h (bs'++[cI .u8 (vJ b k)]) ts bs'.length (b.length+1+k) .u8 (vJ b k) [0] true (by simp) (by simp [V,ao];omega);rw [zbb] at ha;have e1:(bs'++[cI .u8 (vJ b k)]).set bs'.length []=bs'++[[]]:=by simp
    rw [e1] at ha;generalize (b.length+1+k) % 136=m at*;have hass:b.length+1+(k+1)=b.length+1+k+1:=rfl;generalize b.length+1+k=n at*;simp [lJ,g3,t1,bQ,bne,hq,al,rep,J.cells,J.okV,chunks,fq,ha,hlt,hass];exact ⟨bs'++[[]],by simp,by simp⟩
   ·have:k=fX b.length:=by omega
    subst this;have h0:(b.length+1+fX b.length) % 136=0:=by unfold fX;omega
    rw [h0] at t1;generalize hn1:b.length+1+fX b.length=n at*;simp [lJ,g3,t1,bQ,bne];exact ⟨bs',rfl,rfl⟩)
 exact ⟨fr',bs',rfl,h3'⟩
theorem zk4 (L:az)(h:O)(c:Bool)(b:List Int)(hn:b.length < 100000000000):Z ah L mI [.vsl c (eI .u8 b)] h=some (.vsl false (eI .u8 (p9 b)),h):=by
 rw [Do];have key:∃ bs0,ka (V h) (hx h [] []) 1 true (.vsl true []) (.vsl false (eI .u8 b))=some (if b=[] then .vsl true [] else sA h.blks.length 0 0 1 b.length none,hx h (if b=[] then [] else [cI .u8 b]) [])/\
   ka (V h) (hx h (if b=[] then [] else [cI .u8 b]) []) 1 true (if b=[] then .vsl true [] else sA h.blks.length 0 0 1 b.length none) (.vsl true (eI .u8 [6]))=some (sA h.blks.length bs0.length 0 1 (b.length+1) none,hx h (bs0++[cI .u8 (vJ b 0)]) []):=by
  by_cases hb:b=[]
  ·subst hb;refine ⟨[],?_,?_⟩
   ·simpa using zck (V h) h [] [] 1 (.vsl true []) false
   ·have:=zM (V h) h [] [] 1 true [] (eI .u8 [6]) (by simp [ao];rfl);simpa [vJ,eI,cI] using this
  ·have hpos:0 < b.length:=List.length_pos_iff.2 hb;refine ⟨[[]],?_,?_⟩
   ·rw [if_neg hb,if_neg hb];have:=zM (V h) h [] [] 1 false [] (eI .u8 b) (by simp [ao,hpos];exact ⟨rfl,by omega⟩);simpa [Bz] using this
   ·rw [if_neg hb,if_neg hb];have:=Su (V h) h [cI .u8 b] [] 0 b.length .u8 b [6] true (by simp) (by simp [V,ao,hpos];omega);simpa [vJ] using this
 obtain ⟨bs0,k1,k2⟩:=key;have hz:fX b.length < 136:=Nat.mod_lt _ (by decide);simp [q8,rep,chunks,al,J.cells,J.okV,k1,k2,fq];generalize hF:run ah _ (.loop _) _ _=R;obtain ⟨fr',bs',rfl,e1⟩:=zdW b hn bs0 [] hF (by simp);have w1:Wr (((b.length+1+fX b.length:Nat):Int) - 1)=((b.length+fX b.length:Nat):Int):=wy;have hlen:=My b (fX b.length);have hpad:p9 b=(vJ b (fX b.length)).set (b.length+fX b.length) (IntKind.u8.wrap (gd (vJ b (fX b.length)) 0 (b.length+fX b.length)+128)):=rfl;have hplen:(p9 b).length=b.length+1+fX b.length:=by rw [hpad,List.length_set,hlen]
 have hi:b.length+fX b.length < b.length+1+fX b.length:=by omega
 have hget:(cI .u8 (vJ b (fX b.length)))[b.length+fX b.length]?=some (.int .u8 (gd (vJ b (fX b.length)) 0 (b.length+fX b.length))):=NR (by rw [hlen];omega);generalize b.length+fX b.length=m,b.length+1+fX b.length=n at*;have hmn:m+1<=n:=hi;have hf:=fun n' nt=>GO h (bs'++[cI .u8 (p9 b)]) [] nt n' bs'.length n none .u8 (p9 b) (by simp) (by omega);rw [List.take_of_length_le (by omega)] at hf;simp [e1,w1,om,hi,V,hlen,hmn,<- hpad,hf]
def ud (s p:List Int)(at_:Nat)(i:Nat):Int:=if i < 136 then Wy (gd s 0 i) (gd p 0 (at_+i)) else gd s 0 i
def Lr (p:List Int):Nat->List Int
 | 0=>tab 200 fun _=>0
 | k+1=>aR (kQ (ce (tab 200 (ud (Lr p k) p (136*k)))))
@[simp] theorem zk5 (b:List Int):(ce b).length=25:=by simp [ce]
@[simp] theorem zhM (p:List Int):∀ k,(Lr p k).length=200
 | 0=>by simp [Lr]
 | k+1=>by simp [Lr,fH]
theorem zbf (l : List ac) : cw (aR l) := fun i hi => by
 unfold aR at hi |-;rw [dZ (by simpa using hi)];unfold N8;omega
theorem zhO (p:List Int):∀ k,cw (Lr p k)
 | 0=>fun i hi=>by simp only [Lr] at hi |-;rw [dZ (by simpa using hi)];omega
 | k+1=>by rw [Lr];exact zbf _
theorem WD {fr:Fr}{h:O}{R:Option (dt × Fr × O)}(s p:List Int)(hs:s.length=200)(hsB:cw s)(hpB:cw p)(at_:Nat)(hat:at_+136<=p.length)(hp:p.length < 200000000000)(bs:List (List J))(ts:List Nat)(i:Nat)(cap:Option Nat)(hb:bs[i]?=some (cI .u8 s))
  (hF:run ah (V h) (.loop fK) fr (hx h bs ts)=R)
  (h3:fr 3=.vsl false (eI .u8 p)) (h4:fr 4=sA h.blks.length i 0 1 200 cap) (h5:fr 5=Ii at_) (h6:fr 6=Ii 0):
  ∃ fr',R=some (.exit 2,fr',hx h (bs.set i (cI .u8 (tab 200 (ud s p at_)))) ts)/\∀ t,t∉wr fK->fr' t=fr t:=by
 have hi:=(List.getElem?_eq_some_iff.1 hb).1;have hself:bs.set i (cI .u8 s)=bs:=by
  refine List.ext_getElem? fun j=>?_;by_cases e:i=j
  ·subst e;rw [List.getElem?_set_self hi,hb]
  ·rw [List.getElem?_set_ne e]
 obtain ⟨e,fr',h',rfl,⟨rfl,rfl⟩,hk⟩:=af hF 136
  (fun k fr hh=>fr 6=Ii k/\hh=hx h (bs.set i (cI .u8 (cV 200 (ud s p at_) (gd s 0) k))) ts)
  (fun e fr hh=>e=.exit 2/\hh=hx h (bs.set i (cI .u8 (tab 200 (ud s p at_)))) ts)
  ⟨h6, by rw [kR, <- EP 0 hs, hself]⟩ (by
   rintro k fr1 hh hkN hkeep ⟨g6,rfl⟩;have g3:=kp hkeep h3;have g4:=kp hkeep h4;have g5:=kp hkeep h5;by_cases hlt:k < 136
   ·have w0:Wr ((k:Int)+1)=k+1:=wz;have w1:Wr ((at_:Int)+(k:Int))=((at_+k:Nat):Int):=wy;have hset:=nJ 200 (ud s p at_) (gd s 0) k;have hv:ud s p at_ k=Wy (gd s 0 k) (gd p 0 (at_+k)):=by unfold ud;rw [if_pos hlt]
    rw [hv] at hset;have hx1:=fun L h=>zkZ L h (gd s 0 k) (gd p 0 (at_+k)) (hsB k (by omega)) (hpB (at_+k) (by omega));have b0:gd (cV 200 (ud s p at_) (gd s 0) k) 0 k=gd s 0 k:=LA (by omega);have hML:=DN 200 (ud s p at_) (gd s 0) k;generalize hM1:cV 200 (ud s p at_) (gd s 0) (k+1)=M1 at*;generalize cV 200 (ud s p at_) (gd s 0) k=M0 at*;have hq:at_+k < p.length:=by omega
    generalize at_+k=q at*;simp [fK,V,g3,g4,g5,g6,hlt,show (k:Int) < 136 by omega,w0,w1,om,qT,show k < 200 by omega,show k<=199 by omega,hq,hi,hML,b0,hx1,hset]
    try rw [hM1]
   ·have:k=136:=by omega
    subst this;have e0 : cV 200 (ud s p at_) (gd s 0) 136 = tab 200 (ud s p at_) := a8 fun j hj => by
     by_cases hj:j < 136
     ·rw [if_pos hj]
     ·rw [if_neg hj];unfold ud;rw [if_neg hj]
    simp [fK,g6,e0])
 exact ⟨fr',rfl,hk⟩
theorem zh3 {fr:Fr}{h:O}{R:Option (dt × Fr × O)}(p:List Int)(hpB:cw p)(n:Nat)(hn:p.length=136*n)(hn0:0 < n)(hp:p.length < 200000000000)
  (hF:run ah (V h) (.loop lz) fr (hx h [cI .u8 (Lr p 0)] [])=R)
  (h3:fr 3=.vsl false (eI .u8 p)) (h4:fr 4=sA h.blks.length 0 0 1 200 (some 200)) (h5:fr 5=Ii 0):
  ∃ fr' bs',R=some (.exit 0,fr',hx h (bs'++[cI .u8 (Lr p n)]) [])/\fr' 4=sA h.blks.length bs'.length 0 1 200 none:=by
 obtain ⟨e,fr',h',rfl,⟨rfl,bs',cap,rfl,hc,h4'⟩,hk⟩:=af hF n
  (fun k fr hh=>fr 5=Ii ((136*k:Nat):Int)/\∃ bs' cap,hh=hx h (bs'++[cI .u8 (Lr p k)]) []/\(0 < k->cap=none)/\fr 4=sA h.blks.length bs'.length 0 1 200 cap)
  (fun e fr hh=>e=.exit 0/\∃ bs' cap,hh=hx h (bs'++[cI .u8 (Lr p n)]) []/\(0 < n->cap=none)/\fr 4=sA h.blks.length bs'.length 0 1 200 cap)
  ⟨h5, [], some 200, rfl, by simp, h4⟩ (by
   rintro k fr1 hh hkN hkeep ⟨g5,bs',cap,rfl,hc,g4⟩;have g3:=kp hkeep h3;by_cases hlt:k < n
   ·have w0:Wr (((136*k:Nat):Int)+136)=((136*(k+1):Nat):Int):=wy;have hlt2:((136*k:Nat):Int) < (p.length:Int):=by omega
    have hst:Lr p (k+1)=aR (kQ (ce (tab 200 (ud (Lr p k) p (136*k))))):=rfl;have hin:=fun (fr:Fr) (R:Option (dt × Fr × O)) hF h3 h4 h5 h6=>WD (fr:=fr) (h:=h) (R:=R) (Lr p k) p (zhM p k) (zhO p k) hpB (136*k) (by omega) hp (bs'++[cI .u8 (Lr p k)]) [] bs'.length cap (by simp) hF h3 h4 h5 h6;generalize hS1:Lr p (k+1)=S1 at*;generalize Lr p k=S0 at*;generalize hq:136*(k+1)=q1 at*;generalize 136*k=q at*;simp [lz,g3,g4,g5,hlt2];generalize hF:run ah _ (.loop _) _ _=R;obtain ⟨fr2,rfl,q2⟩:=hin _ _ hF (by simp [g3]) (by simp [g4]) (by simp [g5]) (by simp);have ho:=NS (V h) h (bs'++[cI .u8 (tab 200 (ud S0 p q))]) [] bs'.length cap (tab 200 (ud S0 p q)) (by simp) (by simp);obtain ⟨bs2,hby⟩:=X1 (V h) h (bs'++[cI .u8 (tab 200 (ud S0 p q))]) [] (kQ (ce (tab 200 (ud S0 p q)))) (by simp [fH]) (by simp [V]);rw [<- hst] at hby;simp [q2,wr,fK,bj,g4,g5,ho,IJ,hby,w0];exact ⟨hlt,by omega,bs2,by rw [hS1],rfl⟩
   ·have:k=n:=by omega
    subst this;have hlt2:¬((136*k:Nat):Int) < (p.length:Int):=by omega
    generalize 136*k=q at*;simp [lz,g3,g5,hlt2];exact ⟨bs',rfl,cap,hc,g4⟩)
 rw [hc hn0] at h4';exact ⟨fr',bs',rfl,h4'⟩
def ZA (b:List Int):List Int:=(Lr (p9 b) ((p9 b).length / 136)).take 32
theorem Dw (b:List Int):(p9 b).length=b.length+1+fX b.length:=by unfold p9;rw [List.length_set,My]
theorem zf5 {α:Type}(n:Nat)(d v:α)(j:Nat)(hj:j < n):gd (List.replicate n v) d j=v:=by
 unfold gd;simp [List.getD,hj]
theorem ZB (b:List Int)(k j:Nat)(hj:j < b.length+1+k):gd (vJ b k) 0 j=if j < b.length then gd b 0 j else if j=b.length then 6 else 0:=by
 unfold vJ;by_cases h1:j < b.length
 ·rw [if_pos h1,vd _ _ _ _ (by simp;omega),vd _ _ _ _ h1]
 ·rw [if_neg h1];by_cases h2:j=b.length
  ·subst h2;rw [if_pos rfl,vd _ _ _ _ (by simp),xq _ _ _ _ (Nat.le_refl _),Nat.sub_self];rfl
  ·rw [if_neg h2,xq _ _ _ _ (by simp;omega),zf5 _ _ _ _ (by simp;omega)]
theorem ZC (b:List Int)(j:Nat)(hj:j < b.length+1+fX b.length):gd (p9 b) 0 j=
  if j < b.length then gd b 0 j else if j=b.length+fX b.length then (if fX b.length=0 then 134 else 128) else if j=b.length then 6 else 0:=by
 unfold p9;rw [pB _ _ _ _ _ (by rw [My];omega),ZB _ _ _ hj,ZB _ _ _ (by omega)];by_cases h1:b.length+fX b.length=j
 ·subst h1;by_cases h0:fX b.length=0
  ·simp [h0];decide
  ·simp [h0,show ¬b.length+fX b.length < b.length by omega];decide
 ·rw [if_neg h1];by_cases h2:j < b.length
  ·rw [if_pos h2,if_pos h2]
  ·rw [if_neg h2,if_neg h2,if_neg (Ne.symm h1)]
theorem ZD (b : List Int)(hb : cw b) : cw (p9 b) := fun j hj => by
 rw [Dw] at hj;rw [ZC b j hj];by_cases h1:j < b.length
 ·rw [if_pos h1];exact hb j h1
 ·rw [if_neg h1];split
  ·split <;> omega
  ·split <;> omega
theorem ZF (b:List Int):(p9 b).length=136*((p9 b).length / 136)/\0 < (p9 b).length / 136:=by
 rw [Dw];unfold fX;omega
theorem zje (L:az)(h:O)(c:Bool)(b:List Int)(hn:b.length < 100000000000)(hb:cw b):Z ah L gq [.vsl c (eI .u8 b)] h=some (.vsl false (eI .u8 (ZA b)),h):=by
 rw [na];obtain ⟨n1,n2⟩:=ZF b;have hz:fX b.length < 136:=Nat.mod_lt _ (by decide);have hpl:=Dw b;have e0:cI .u8 (tab 200 fun _=>0)=cI .u8 (Lr (p9 b) 0):=rfl;simp [qK,zk4,hn,i7,ao,eR,fJ,e0];generalize hF:run ah _ (.loop _) _ _=R;obtain ⟨fr',bs',rfl,e1⟩:=zh3 (p9 b) (ZD b hb) ((p9 b).length / 136) n1 n2 (by omega) hF (by simp) (by simp) (by simp);have hsl:=I6 1 h.blks.length bs'.length 200 32 none .i64 (by decide);simp only [Int.cast_ofNat_Int] at hsl;have hf:=fun n' nt=>GO h (bs'++[cI .u8 (Lr (p9 b) ((p9 b).length / 136))]) [] nt n' bs'.length 32 none .u8 (Lr (p9 b) ((p9 b).length / 136)) (by simp) (by simp);simp [e1,hsl,hf,ZA]
theorem ZH (w:ac)(k:Nat):N8 w k=((w.toNat >>> (8*k) % 2 ^ 8:Nat):Int):=by unfold N8;rw [BitVec.toNat_ushiftRight]
theorem zjg (w:ac)(v:Nat)(hv:v < 256)(m k:Nat)(hm:m < 8)(hk:k < 8):
  N8 (w ^^^ (bw (v:Int) <<< (8*m))) k=if k=m then Wy (N8 w k) v else N8 w k:=by
 rw [ZH,ZH,BitVec.toNat_xor,Nat.shiftRight_xor_distrib,Nat.xor_mod_two_pow];have hx:(bw (v:Int) <<< (8*m)).toNat >>> (8*k) % 2 ^ 8=if k=m then v else 0:=by
  rw [BitVec.toNat_shiftLeft,MI v hv,Nat.shiftLeft_eq,Nat.shiftRight_eq_div_pow];have hm':m=0\/m=1\/m=2\/m=3\/m=4\/m=5\/m=6\/m=7:=by omega
  have hk':k=0\/k=1\/k=2\/k=3\/k=4\/k=5\/k=6\/k=7:=by omega
  rcases hm' with rfl | rfl | rfl | rfl | rfl | rfl | rfl | rfl <;> rcases hk' with rfl | rfl | rfl | rfl | rfl | rfl | rfl | rfl <;> simp <;> omega
 rw [hx];by_cases h:k=m
 ·rw [if_pos h,if_pos h];unfold Wy;rw [Int.toNat_natCast,Int.toNat_natCast]
 ·rw [if_neg h,if_neg h,Nat.xor_zero]
theorem zce (s:List ac)(hs:s.length=25)(i:Nat)(hi:i < 200)(v:Int)(hv:0<=v/\v < 256):aR (sH s i v)=(aR s).set i (Wy (gd (aR s) 0 i) v):=by
 obtain ⟨n,rfl⟩:∃ k:Nat,v=k:=⟨v.toNat,by omega⟩;unfold aR;rw [vh,Vh,hs];refine a8 fun j hj=>?_;rw [dZ (by omega)];unfold sH;rw [pB _ _ _ _ _ (by omega)];by_cases hq:i / 8=j / 8
 ·rw [if_pos hq,<- hq,zjg _ n (by omega) (i % 8) (j % 8) (by omega) (by omega)];by_cases hij:j=i
  ·subst hij;rw [if_pos rfl,if_pos rfl]
  ·rw [if_neg hij,if_neg (by omega)]
 ·rw [if_neg hq,if_neg (by intro h;subst h;exact hq rfl)]
theorem Sm (w:ac)(a:Nat)(h:64<=a):w >>> a=0#64:=by
 apply BitVec.eq_of_toNat_eq;rw [BitVec.toNat_ushiftRight,Nat.shiftRight_eq_div_pow,Nat.div_eq_of_lt]
 ·rfl
 ·exact Nat.lt_of_lt_of_le w.isLt (Nat.pow_le_pow_right (by decide) h)
theorem zf8 (w:ac)(m:Nat):w >>> (8*(m+1))*256#64+bw (N8 w m)=w >>> (8*m):=by
 have h1:w >>> (8*(m+1))=w >>> (8*m) >>> 8:=by rw [<- BitVec.shiftRight_add];rfl
 have h2:N8 w m=(((w >>> (8*m)).toNat % 256:Nat):Int):=rfl;rw [h1,h2];generalize w >>> (8*m)=u;apply BitVec.eq_of_toNat_eq;rw [BitVec.toNat_add,BitVec.toNat_mul,BitVec.toNat_ushiftRight,MI _ (by omega),Nat.shiftRight_eq_div_pow];have:=u.isLt;show (u.toNat / 2 ^ 8*256 % 2 ^ 64+u.toNat % 256) % 2 ^ 64=u.toNat;omega
theorem zcg (s : List ac)(hs : s.length = 25) : ∀ k, k <= 200 -> Pa (aR s) 200 k = tab 25 fun q => gd s 0#64 q >>> (8 * ((200 - k) - 8 * q)) := by
 intro k
 induction k with
 | zero=>
  intro _;exact a8 fun q hq=>(Sm _ _ (by omega)).symm
 | succ k ih=>
  intro hk;obtain ⟨i,hi⟩:∃ i,i=199 - k:=⟨_,rfl⟩;rw [Pa,show 200 - 1 - k=i by omega,ih (by omega),vh,dZ (by omega)];refine a8 fun q hq=>?_;have hb:gd (aR s) 0 i=N8 (gd s 0#64 (i / 8)) (i % 8):=by
   unfold aR;rw [dZ (by rw [hs];omega)]
  by_cases h:q=i / 8
  ·subst h;rw [if_pos rfl,hb,show 200 - k - 8*(i / 8)=i % 8+1 by omega,show 200 - (k+1) - 8*(i / 8)=i % 8 by omega];exact zf8 _ _
  ·rw [if_neg h];by_cases h2:200 - (k+1)<=8*q
   ·rw [show 200 - k - 8*q=0 by omega,show 200 - (k+1) - 8*q=0 by omega]
   ·rw [Sm _ _ (by omega),Sm _ _ (by omega)]
theorem Vf (s:List ac)(hs:s.length=25):ce (aR s)=s:=by
 unfold ce;rw [zcg s hs 200 (Nat.le_refl _)]
 conv=>rhs;rw [EP 0#64 hs]
 exact a8 fun q hq=>by rw [show 200 - 200 - 8*q=0 by omega];simp
def IE (s:List ac)(p:List Int)(a:Nat):Nat->List ac
 | 0=>s
 | k+1=>sH (IE s p a k) k (gd p 0 (a+k))
theorem IF (s:List ac)(p:List Int)(a:Nat):∀ k,(IE s p a k).length=s.length
 | 0=>rfl
 | k+1=>by rw [IE,Vh,IF s p a k]
theorem XO (s:List ac)(hs:s.length=25)(p:List Int)(hp:cw p)(a:Nat)(ha:a+136<=p.length):∀ k,k<=136->aR (IE s p a k)=cV 200 (ud (aR s) p a) (gd (aR s) 0) k:=by
 intro k
 induction k with
 | zero=>intro _;rw [kR,IE];exact EP 0 (by simp [hs])
 | succ k ih=>
  intro hk;rw [IE,zce _ (by rw [IF,hs]) k (by omega) _ (hp _ (by omega)),ih (by omega),LA (by omega),<- nJ]
  congr 1
  unfold ud;rw [if_pos (by omega)]
theorem Vg (s:List ac)(hs:s.length=25)(p:List Int)(hp:cw p)(a:Nat)(ha:a+136<=p.length):ce (tab 200 (ud (aR s) p a))=IE s p a 136:=by
 have h:=XO s hs p hp a ha 136 (Nat.le_refl _);have e0 : cV 200 (ud (aR s) p a) (gd (aR s) 0) 136 = tab 200 (ud (aR s) p a) := a8 fun j hj => by
  by_cases hj:j < 136
  ·rw [if_pos hj]
  ·rw [if_neg hj];unfold ud;rw [if_neg hj]
 rw [<- e0,<- h,Vf _ (by rw [IF,hs])]
theorem XQ : aR (tab 25 fun _ => 0#64) = tab 200 fun _ => 0 := by
 unfold aR;rw [AR];refine a8 fun j hj=>?_;rw [dZ (by omega)];unfold N8;simp
def Bw (p:List Int):Nat->List ac
 | 0=>tab 25 fun _=>0#64
 | k+1=>kQ (IE (Bw p k) p (136*k) 136)
theorem NI (p:List Int):∀ k,(Bw p k).length=25
 | 0=>by simp [Bw]
 | k+1=>by rw [Bw];exact fH _ (by rw [IF,NI p k])
theorem QJ (p:List Int)(hp:cw p):∀ k,136*k<=p.length->Lr p k=aR (Bw p k)
 | 0,_=>by rw [Lr,Bw,XQ]
 | k+1,h=>by rw [Lr,Bw,QJ p hp k (by omega),Vg _ (NI p k) p hp _ (by omega)]
theorem pZ (q:List ac × Nat)(v:Int):aX q [v]=uQ q v:=by simp only [aX,List.foldl_cons,List.foldl_nil]
theorem Hc (s:List ac)(v:Int):uQ (s,135) v=(kQ (sH s 135 v),0):=by unfold uQ;rw [if_pos (show (s,135).2+1=136 from rfl)]
theorem Hd (s:List ac)(a:Nat)(v:Int)(h:a+1 < 136):uQ (s,a) v=(sH s a v,a+1):=by unfold uQ;rw [if_neg (by simp only [];omega)]
theorem XT (s:List ac)(p:List Int)(a:Nat)(ha:a+136<=p.length):∀ k,k < 136->aX (s,0) ((p.drop a).take k)=(IE s p a k,k):=by
 intro k
 induction k with
 | zero=>intro _;rfl
 | succ k ih=>
  intro hk;have hlen:k < (p.drop a).length:=by simp;omega
  have hg:gd (p.drop a) 0 k=gd p 0 (a+k):=by unfold gd;simp [List.getD,List.getElem?_drop]
  rw [rK 0 hlen,gn,ih (by omega),hg];rw [pZ,Hd _ _ _ (by omega),IE]
theorem NM (s:List ac)(p:List Int)(a:Nat)(ha:a+136<=p.length):aX (s,0) ((p.drop a).take 136)=(kQ (IE s p a 136),0):=by
 have hlen:135 < (p.drop a).length:=by simp;omega
 have hg:gd (p.drop a) 0 135=gd p 0 (a+135):=by unfold gd;simp [List.getD,List.getElem?_drop]
 have e:(p.drop a).take (135+1)=(p.drop a).take 135++[gd p 0 (a+135)]:=by rw [rK 0 hlen,hg]
 have e2:IE s p a (135+1)=sH (IE s p a 135) 135 (gd p 0 (a+135)):=by rw [IE]
 have h:=gn (s,0) ((p.drop a).take 135) [gd p 0 (a+135)];rw [<- e,XT s p a ha 135 (by decide),pZ,Hc,<- e2] at h;exact h
theorem NN (p : List Int) : ∀ k, 136 * k <= p.length -> aX (tab 25 fun _ => 0#64, 0) (p.take (136 * k)) = (Bw p k, 0) := by
 intro k
 induction k with
 | zero=>intro _;rfl
 | succ k ih=>
  intro h;have e:p.take (136*(k+1))=p.take (136*k)++(p.drop (136*k)).take 136:=by
   rw [<- List.take_add,show 136*k+136=136*(k+1) by omega]
  rw [e,gn,ih (by omega),NM _ _ _ (by omega)];rfl
theorem zch (s:List ac)(i:Nat)(hi:i / 8 < s.length):sH s i 0=s:=by
 unfold sH;have:bw 0 <<< (8*(i % 8))=0#64:=by rw [show bw 0=0#64 from by decide];simp
 rw [this,BitVec.xor_zero];refine List.ext_getElem? fun j=>?_;by_cases h:i / 8=j
 ·subst h;rw [List.getElem?_set_self hi,A5 (d:=0#64) hi]
 ·rw [List.getElem?_set_ne h]
theorem XU (s:List ac)(hs:s.length=25)(a:Nat):∀ z,a+z < 136->aX (s,a) (List.replicate z 0)=(s,a+z):=by
 intro z
 induction z with
 | zero=>intro _;rfl
 | succ z ih=>
  intro h;rw [List.replicate_succ',gn,ih (by omega)];rw [pZ,Hd _ _ _ (by omega),zch s (a+z) (by omega),Nat.add_assoc]
theorem zgk (s:List ac)(hs:s.length=25):sH (sH s 135 6) 135 128=sH s 135 134:=by
 unfold sH;rw [pB _ _ _ _ _ (by omega),if_pos rfl,List.set_set,BitVec.xor_assoc]
 congr 2
theorem XV (b : List Int) : (aX (tab 25 fun _ => 0#64, 0) b).2 = b.length % 136 := by
 have key:∀ (l:List Int) (q:List ac × Nat),q.2 < 136->(aX q l).2=(q.2+l.length) % 136:=by
  intro l
  induction l with
  | nil=>intro q hq;simp [aX];omega
  | cons v l ih=>
   intro q hq;show (aX (uQ q v) l).2=_;unfold uQ;split
   ·rw [ih _ (by simp)];simp only [List.length_cons];omega
   ·rw [ih _ (by simp only [];omega)];simp only [List.length_cons];omega
 rw [key b _ (by simp)];simp
theorem zcm (b:List Int):p9 b=b++(if fX b.length=0 then [134] else [6]++List.replicate (fX b.length - 1) 0++[128]):=by
 have hl:(p9 b).length=(b++(if fX b.length=0 then [134] else [6]++List.replicate (fX b.length - 1) 0++[128]:List Int)).length:=by
  rw [Dw];split <;> simp <;> omega
 rw [<- RT (p9 b) 0,<- RT (b++_) 0,<- hl];refine a8 fun j hj=>?_;rw [Dw] at hj;rw [ZC b j hj];by_cases h1:j < b.length
 ·rw [if_pos h1,vd _ _ _ _ h1]
 ·rw [if_neg h1,xq _ _ _ _ (by omega)];by_cases h0:fX b.length=0
  ·rw [if_pos h0,if_pos (by omega),if_pos h0,show j - b.length=0 by omega];rfl
  ·simp only [if_neg h0];by_cases h2:j=b.length+fX b.length
   ·rw [if_pos h2,xq _ _ _ _ (by simp;omega)];simp only [List.length_append,List.length_cons,List.length_nil,List.length_replicate];rw [show j - b.length - (0+1+(fX b.length - 1))=0 by omega];rfl
   ·rw [if_neg h2,vd _ _ _ _ (by simp;omega)];by_cases h3:j=b.length
    ·rw [if_pos h3,vd _ _ _ _ (by simp;omega),show j - b.length=0 by omega];rfl
    ·rw [if_neg h3,xq _ _ _ _ (by simp;omega),zf5 _ _ _ _ (by simp;omega)]
theorem zgn (b:List Int)(hb:cw b):ZA b=O8 b:=by
 obtain ⟨n1,n2⟩:=ZF b;unfold ZA O8 Vj;rw [QJ _ (ZD b hb) _ (by omega)];have h1:=NN (p9 b) ((p9 b).length / 136) (by omega);rw [<- n1,List.take_length] at h1;have hst:Bw (p9 b) ((p9 b).length / 136)=(aX (tab 25 fun _=>0#64,0) (p9 b)).1:=by rw [h1]
 rw [hst]
 congr 2
 have hat:=XV b;obtain ⟨c1,c2⟩:=sI b (q:=(tab 25 fun _=>0#64,0)) (by simp) (by simp);rw [zcm,gn];generalize aX (tab 25 fun _=>0#64,0) b=q at*;obtain ⟨s,a⟩:=q;simp only at hat c1 c2 |-;have hz:fX b.length=135 - a:=by unfold fX;omega
 by_cases h0:fX b.length=0
 ·have ha:a=135:=by omega
  subst ha;rw [if_pos h0];rw [pZ,Hc,zgk s c1]
 ·rw [if_neg h0,gn,gn];have e1:aX (s,a) [6]=(sH s a 6,a+1):=by rw [pZ,Hd _ _ _ (by omega)]
  rw [e1,XU _ (by simp [c1]) _ _ (by omega),show a+1+(fX b.length - 1)=135 by omega];rw [pZ,Hc]
theorem xi {l m : List Int}(hl : cw l)(hm : cw m) : cw (l ++ m) := fun i hi => by
 by_cases h:i < l.length
 ·rw [vd _ _ _ _ h];exact hl i h
 ·rw [xq _ _ _ _ (by omega)];exact hm _ (by simp at hi;omega)
theorem T9 (n:Int):0<=IntKind.u8.wrap n/\IntKind.u8.wrap n < 256:=by
 have:IntKind.u8.wrap n=n % 256:=by unfold IntKind.wrap;simp [IntKind.signed,IntKind.bits]
 rw [this];omega
theorem HX:cw []:=fun i hi=>by simp at hi
theorem Ry {l : List Int}(h : ∀ x ∈ l, 0 <= x /\ x < 256) : cw l := fun i hi => by
 have:=A5 (d:=(0:Int)) hi;exact h _ (List.mem_of_getElem? this)
theorem Lu (n : Int) : cw [IntKind.u8.wrap n] := Ry fun x hx => by
 simp at hx;subst hx;exact T9 n
theorem WJ (n:Int):∀ k,cw (le n k)
 | 0=>HX
 | k+1=>by rw [le];exact xi (WJ n k) (Lu _)
theorem zhQ (s : ByteArray) : cw (bts s) := Ry fun x hx => by
 unfold bts at hx;simp only [List.mem_map] at hx;obtain ⟨b,_,rfl⟩:=hx;have:=b.toNat_lt;omega
theorem zec (x:It):cw (JS x):=by
 unfold JS;have h0:cw [IntKind.u8.wrap x.kind,IntKind.u8.wrap x.typ]:=xi (l:=[_]) (Lu _) (Lu _);exact xi (xi (xi h0 (WJ _ _)) (WJ _ _)) (zhQ _)
theorem ZN:∀ (l:List It) (k:Nat) (out:List Int),cw out->cw (fu l k out).1
 | [],k,out,h=>h
 | x :: l, k, out, h => by
  rw [fu];split
  ·exact HX
  ·split
   ·exact ZN l (k+1) _ (xi h (zec x))
   ·exact HX
theorem zjo : cw uk := Ry fun x hx => by
 have:∀ x∈uk,0<=x/\x < 256:=by decide
 exact this x hx
theorem ZO (L:az)(h:O)(n i:Nat)(es:List (List J)):Z ah L gq [gA n i es] h=Z ah L gq [.vsl false es] h:=by
 rw [na,na];simp
theorem zjp (L:az)(h:O)(b:Int)(l:List It)(hn:l.length<=2000):
  Z ah L mV [Ii b,.vsl false (l.map It.cells)] h=some (.tup [.vsl false (eI .u8 (tH b l).1),Ii (tH b l).2.1,Ii (tH b l).2.2],h):=by
 rw [DV];have hser:=fun L h=>zh7 L h l hn;have hz:cI .u8 (tab 32 fun _=>0)=cI .u8 rC:=rfl;have hf:=fun bs ts n' nt=>GO h (cI .u8 rC :: bs) ts nt n' 0 32 (some 32) .u8 rC (by simp) (by simp [rC]);have ht:rC.take 32=rC:=List.take_of_length_le (by simp [rC]);by_cases hb:b≠1/\b≠2
 ·have e1:tH b l=(rC, -1,15):=by unfold tH;rw [if_pos hb]
  rw [e1];simp [eV, -List.map_take,V,i7,ao,eR,fJ,bne,beq_false_of_ne hb.1,beq_false_of_ne hb.2,hz,hf,ht]
 ·have hb':b=1\/b=2:=by omega
  by_cases h0:(fu l 0 []).2.2=0
  ·have e1:tH b l=(O8 (uk++([IntKind.u8.wrap b]++(fu l 0 []).1)), -1,0):=by unfold tH;rw [if_neg hb,if_neg (by simpa using h0)]
   rw [e1];have hlen:(fu l 0 []).1.length < 90000000000:=by
    have:=GV l 0 [];simp at this;omega
   have hB:cw (uk++([IntKind.u8.wrap b]++(fu l 0 []).1)):=xi zjo (xi (Lu b) (ZN l 0 [] HX));have hsum:=fun L h c=>zje L h c (uk++([IntKind.u8.wrap b]++(fu l 0 []).1)) (by simp [uk];omega) hB;rw [zgn _ hB] at hsum;simp only [List.cons_append,List.nil_append] at hsum;have hdl:uk.length=19:=rfl;rcases hb' with rfl | rfl
   ·have ha:=fun L bs=>HO L h (bs :: [cI .u8 uk]) [] 1 19 .u8 uk [IntKind.u8.wrap 1] true (by simp) (by simp [ao,uk]);simp [eV, -List.map_take,V,i7,ao,eR,fJ,hser,h0,al,rep,aL,chunks,fq,EK,ha,A6,hdl,ZO,hsum,show 20+(fu l 0 []).1.length < 274877906944 by omega]
   ·have ha:=fun L bs=>HO L h (bs :: [cI .u8 uk]) [] 1 19 .u8 uk [IntKind.u8.wrap 2] true (by simp) (by simp [ao,uk]);simp [eV, -List.map_take,V,i7,ao,eR,fJ,hser,h0,al,rep,aL,chunks,fq,EK,ha,A6,hdl,ZO,hsum,show 20+(fu l 0 []).1.length < 274877906944 by omega]
  ·have e1:tH b l=(rC,(fu l 0 []).2.1,(fu l 0 []).2.2):=by unfold tH;rw [if_neg hb,if_pos h0]
   rw [e1];have b0:((fu l 0 []).2.2==0)=false:=beq_false_of_ne h0;rcases hb' with rfl | rfl
   ·simp [eV, -List.map_take,V,i7,ao,eR,fJ,hser,bne,b0,hz,hf,ht]
   ·simp [eV, -List.map_take,V,i7,ao,eR,fJ,hser,bne,b0,hz,hf,ht]
def sJ (l:List Int)(k:Nat):List Int:=(tab 136 fun _=>0)++l++(tab k fun _=>0)
theorem NQ (l:List Int)(hl:l.length=32)(k:Nat):(sJ l k).length=168+k:=by simp [sJ,hl];omega
theorem zcn (l:List Int)(k:Nat):sJ l k++[0]=sJ l (k+1):=by
 unfold sJ;rw [List.append_assoc _ _ [0],S9 k fun _=>(0:Int)]
theorem zgt (l:List Int)(hl:l.length=32):sJ l 32=(qg l).S:=by
 unfold sJ qg putAt;have h1 : (tab 200 fun _ => (0 : Int)).take 136 = tab 136 fun _ => 0 := by
  have:=yi 200 (fun _=>(0:Int)) 0 136 (by decide);simpa using this
 have h2 : (tab 200 fun _ => (0 : Int)).drop (136 + l.length) = tab 32 fun _ => 0 := by
  have:=yi 200 (fun _=>(0:Int)) 168 32 (by decide);rw [List.take_of_length_le (by simp)] at this;rw [hl];exact this
 rw [h1,h2,List.append_assoc]
theorem XZ {fr:Fr}{h:O}{R:Option (dt × Fr × O)}(l:List Int)(hl:l.length=32)(y z:List J)
  (hF:run ah (V h) (.loop cT) fr (hx h [y,z] [(sJ l 0).length])=R)
  (h4:fr 4=gA h.toks.length 0 (eI .u8 (sJ l 0))):
  ∃ fr',R=some (.exit 0,fr',hx h [y,z] [200])/\fr' 4=gA h.toks.length 0 (eI .u8 (sJ l 32))/\∀ t,t∉wr cT->fr' t=fr t:=by
 obtain ⟨e,fr',h',rfl,⟨rfl,rfl,g4⟩,hk⟩:=af hF 32
  (fun k fr hh=>fr 4=gA h.toks.length 0 (eI .u8 (sJ l k))/\hh=hx h [y,z] [(sJ l k).length])
  (fun e fr hh=>e=.exit 0/\hh=hx h [y,z] [200]/\fr 4=gA h.toks.length 0 (eI .u8 (sJ l 32)))
  ⟨h4,rfl⟩ (by
   rintro k fr1 hh hkN hkeep ⟨g4,rfl⟩;have hlen:=NQ l hl k;have hlen2:=NQ l hl (k+1);by_cases hlt:k < 32
   ·have hap:=A6 (V h) h [y,z] [(sJ l k).length] 1 0 true (eI .u8 (sJ l k)) (eI .u8 [0]) (by simp [V,ao];omega);have hsn:=zcn l k;rw [Qe,hsn] at hap;simp only [V,RQ,List.length_singleton,List.set_cons_zero] at hap;have hl1:((sJ l k).length:Int) < 200:=by omega
    have e1:(sJ l k).length+1=(sJ l (k+1)).length:=by omega
    rw [e1] at hap;generalize hm1:sJ l (k+1)=m1 at*;generalize sJ l k=m at*;simp -implicitDefEqProofs [cT,V,g4,hl1,al,rep,chunks,setAt,fq,hap,hlt];exact ⟨by rw [hm1],by rw [hm1]⟩
   ·have:k=32:=by omega
    subst this;simp [cT,g4,hlen])
 exact ⟨fr',rfl,g4,hk⟩
theorem Vq (h:O)(bs:List (List J))(ts:List Nat)(m i:Nat)(es:List (List J))(hu:∀ nb nt,aO nb nt es=true)(a b c:Int):
  frz (hx h bs ts) h.blks.length h.toks.length (m+2) (.agg [gA h.toks.length i es,Ii a,Ii b,Ii c])=some (.agg [.vsl false es,Ii a,Ii b,Ii c]):=by
 have hfl:bC [gA h.toks.length i es,Ii a,Ii b,Ii c]=false:=by simp [bC,J.flat,gA]
 have hg:frz (hx h bs ts) h.blks.length h.toks.length (m+2) (.agg [gA h.toks.length i es,Ii a,Ii b,Ii c])=
   ([gA h.toks.length i es,Ii a,Ii b,Ii c].mapM (frz (hx h bs ts) h.blks.length h.toks.length (m+1))).map .agg:=by
  rw [frz.eq_def];simp only [hfl];rfl
 have fi:∀ a:Int,frz (hx h bs ts) h.blks.length h.toks.length (m+1) (Ii a)=some (Ii a):=fun a=>by rw [frz.eq_def]
 have fg:=Sk (hx h bs ts) h.blks.length h.toks.length m i es (hu _ _);rw [hg];simp only [List.mapM_cons,List.mapM_nil,fg,fi];rfl
theorem zgv (L:az)(h:O)(c:Bool)(l:List Int)(hl:l.length=32):
  Z ah L ij [.vsl c (eI .u8 l)] h=some (.tup [.agg (tv (qg l)),Ii 0],h):=by
 rw [wE];have e1:tv (qg l)=[.vsl false (eI .u8 (qg l).S),Ii 0,Ii 136,Ii 0]:=rfl;rw [e1,<- zgt l hl];have hf:=fw h c (eI .u8 l);have hap:=fun y=>HO (V h) h [y,cI .u8 (tab 136 fun _=>0)] [] 1 136 .u8 (tab 136 fun _=>0) l false rfl (by simp [hl,ao]);have e2:(tab 136 fun _=>(0:Int))++l=sJ l 0:=by simp [sJ,tab]
 rw [e2] at hap;have e3:[136+l.length]=[(sJ l 0).length]:=by rw [NQ l hl,hl]
 simp only [List.nil_append,List.length_nil,e3] at hap;have hlo:=fun fr R y z=>XZ (fr:=fr) (h:=h) (R:=R) l hl y z;have hu:∀ nb nt,aO nb nt (eI .u8 (sJ l 32))=true:=fun nb nt=>by simp
 have hfz:=fun bs ts m=>Vq h bs ts m 0 (eI .u8 (sJ l 32)) hu 0 136 0;simp only [V] at hap;simp only [gA,Nat.add_zero] at hfz;generalize hz:(tab 136 fun _=>(0:Int))=zz at*;generalize sJ l 0=m0,eI .u8 (sJ l 32)=e32 at*;simp -implicitDefEqProofs [lB,V,hf,hl,i7,ao,eR,fJ,hz,hap];generalize hF:run ah _ (.loop _) _ _=R;obtain ⟨fr1,rfl,f4,hk1⟩:=hlo _ _ _ _ hF (by simp);simp -implicitDefEqProofs [hk1,wr,cT,bj,f4,al,setAt,aa,au,ae,hfz,gA,J.cells,J.okV]
theorem zco (L:az)(h:O)(c:Bool)(l:List Int)(hl:l.length=32):
  Z ah L jl [.vsl c (eI .u8 l)] h=some (.agg (tv (qg l)),h):=by
 rw [yr];have hf:=fw h c (eI .u8 l);have hN:=fun L h=>zgv L h false l hl;have l1:(tv (qg l)).length=4:=rfl;have hfr:=fun hh nb nt m=>ZS hh nb nt m (qg l);have hu0:aE 0 0 (tv (qg l))=true:=by simp [tv,aE,J.under]
 generalize tv (qg l)=q at*;simp -implicitDefEqProofs [mf,V,hf,hN,l1,au,ae,aa,hfr]
def StL (n:Nat)(bs:List (List J))(x:J)(S:List Int):Prop:=x=.vsl false (eI .u8 S)\/∃ i cap,x=sA n i 0 1 200 cap/\bs[i]?=some (cI .u8 S)
theorem UC (L:az)(h:O)(bs:List (List J))(ts:List Nat)(x:J)(S:List Int)(hx1:StL h.blks.length bs x S)(hl:S.length=200):
  Z ah L cG [x] (hx h bs ts)=some (.agg (cW (ce S)),hx h bs ts):=by
 rcases hx1 with rfl | ⟨i,cap,rfl,hb⟩
 ·exact Vc L (hx h bs ts) false S hl
 ·exact NS L h bs ts i cap S hb hl
theorem StL.app {n:Nat}{bs:List (List J)}{x:J}{S:List Int}(h:StL n bs x S)(js:List (List J)):StL n (bs++js) x S:=by
 rcases h with rfl | ⟨i,cap,rfl,hb⟩
 ·exact .inl rfl
 ·exact .inr ⟨i,cap,rfl,Q3 js hb⟩
theorem StL.cell {n:Nat}{bs:List (List J)}{x:J}{S:List Int}(h:StL n bs x S):x.cells=[x]/\x.okV=true/\x.flat=false:=by
 rcases h with rfl | ⟨i,cap,rfl,hb⟩
 ·exact ⟨rfl,rfl,rfl⟩
 ·exact ⟨rfl,rfl,rfl⟩
def zSp:List J:=[.nsl,Ii 0,Ii 0,Ii 0]
theorem Xj (L:az)(h:O)(bs:List (List J))(ts:List Nat)(i off:Nat)(cs:List J)(h1:(decide (L.rob<=h.blks.length)&&decide (L.nb<=h.blks.length+i))=true):
  dX L (hx h bs ts) (pA h.blks.length i off) cs=stO h bs ts i off cs bs[i]?:=by
 simp only [Bool.and_eq_true,decide_eq_true_eq] at h1;unfold dX pA stO stI hx;simp only;rw [List.getElem?_append_right (Nat.le_add_right _ _),Nat.add_sub_cancel_left]
 cases bs[i]? with
 | none=>rfl
 | some old=>
  simp only [Option.bind_some];by_cases hc:off+cs.length<=old.length
  ·rw [if_pos ⟨by omega,hc,.inl (by omega)⟩,if_pos (by simpa using hc)];rw [List.set_append_right _ _ (Nat.le_add_right _ _),Nat.add_sub_cancel_left]
  ·rw [if_neg (fun h=>hc h.2.1),if_neg (by simpa using hc)]
theorem JQ (L:az)(h:O)(bs:List (List J))(ts:List Nat)(x:J)(S:List Int)(a b c:Nat)(hx1:StL h.blks.length bs x S)(hs:S.length=200)(hc:c < 1000000000000)(hL:L.rob<=h.blks.length)(hnb:L.nb<=h.blks.length+bs.length):
  ∃ js,Z ah L cq [.agg [x,Ii a,Ii b,Ii c]] (hx h bs ts)=
   some (.agg [sA h.blks.length (bs.length+js.length) 0 1 200 none,Ii a,Ii b,Ii ((c+1:Nat):Int)],hx h (bs++js++[cI .u8 (fR S)]) ts):=by
 rw [u7];obtain ⟨x1,x2,x3⟩:=hx1.cell;have hO:=fun L js=>UC L h (bs++js) ts x S (hx1.app js) hs;have hP:=fun L h=>IJ L h (ce S) (iB _);have hl:(kQ (ce S)).length=25:=by rw [fH];exact iB _
 obtain ⟨bs',⟨js,rfl⟩,hB⟩:=KA L h (bs++[[x,Ii a,Ii b,Ii c],zSp]) ts (kQ (ce S)) hl hL;have w1:Wr ((c:Int)+1)=((c+1:Nat):Int):=wy;have ht:aR (kQ (ce S))=fR S:=rfl;rw [ht] at hB;refine ⟨[[sA h.blks.length (bs.length+(2+js.length)) 0 1 200 none,Ii a,Ii b,Ii ((c+1:Nat):Int)],[sA h.blks.length (bs.length+(2+js.length)) 0 1 200 none,Ii a,Ii b,Ii ((c+1:Nat):Int)]]++js,?_⟩;generalize ((c+1:Nat):Int)=c2 at*;have hO1:=fun L=>hO L [[x,Ii a,Ii b,Ii c],zSp];unfold zSp at hO1 hB;simp only [List.append_assoc,List.cons_append,List.nil_append,List.length_append,List.length_cons,List.length_nil] at hO1 hB;simp -implicitDefEqProofs [j5,LW,aF,J.cells,J.okV,aa,x1,x2,hO1,hP,hB,ae,au,w1,hL,Xj,hnb,show L.nb<=h.blks.length+(bs.length+1) by omega,setAt];rw [show js.length+1+1=2+js.length by omega]
theorem zo4 (l:List Int)(i:Nat)(v:Int):(cI .u8 l).set i (.int .u8 v)=cI .u8 (l.set i v):=by simp [cI,List.map_set]
def tkI (h:O)(q:Sp)(hh:O):Prop:=∃ i cap bs,hh=hx h ([sA h.blks.length (i+2) 0 1 200 cap,Ii q.a,Ii q.b,Ii q.c] :: zSp :: bs) []/\bs[i]?=some (cI .u8 q.S)
theorem Xk {fr:Fr}{h H:O}{R:Option (dt × Fr × O)}(s:Sp)(hs:s.ok)(l:List Int)(hl:cw l)(hn:l.length < 100000000)(hc:s.c < 100000000)
  (hF:run ah (V h) (.loop bD) fr H=R) (hH:tkI h s H)
  (h1:fr 1=.vsl false (eI .u8 l)) (h2:fr 2=pA h.blks.length 0 0) (h5:fr 5=Ii 0):
  ∃ fr' H',R=some (.exit 0,fr',H')/\tkI h (ay s l) H'/\∀ t,t∉wr bD->fr' t=fr t:=by
 obtain ⟨e,fr',h',rfl,⟨rfl,p1⟩,hk⟩:=af hF l.length
  (fun k fr hh=>fr 5=Ii k/\tkI h (ay s (l.take k)) hh)
  (fun e fr hh=>e=.exit 0/\tkI h (ay s l) hh)
  ⟨h5, by simpa [ay] using hH⟩ (by
   rintro k fr1 hh hkN hkeep ⟨g5,i,cap,bs,rfl,hb⟩;have g1:=kp hkeep h1;have g2:=kp hkeep h2;by_cases hlt:k < l.length
   ·have hltI:(k:Int) < l.length:=by omega
    have w0:Wr ((k:Int)+1)=k+1:=wz;have hq:=iO hs (l:=l.take k) (lS hl k);have hqc:=EM hs (l.take k);have hsn:=L1 s l k hlt;have iu:=qT .u8 .i64 false l k (by simpa using hlt);obtain ⟨o1,o2,o3,o4⟩:=hq;have hqc:(ay s (l.take k)).c < 1000000000:=by simp only [List.length_take] at hqc;omega
    generalize ay s (l.take k)=q at*;generalize gd l 0 k=u at*;by_cases ha:q.a=136
    ·obtain ⟨js,hT⟩:=JQ (V h) h ([sA h.blks.length (i+2) 0 1 200 cap,Ii q.a,Ii q.b,Ii q.c] :: zSp :: bs) [] (sA h.blks.length (i+2) 0 1 200 cap) q.S q.a q.b q.c (.inr ⟨i+2,cap,rfl,by simpa using hb⟩) o1 (by omega) (Nat.le_refl _) (Nat.le_add_right _ _);rw [Uq ha] at hsn;have tl:(fR q.S).length=200:=vq _;have aI:((q.a:Int)==136)=true:=by simp [ha]
     simp only [List.cons_append,List.append_assoc,List.length_cons,V] at hT;have hget : ∀ (A B x : List J), (A :: B :: (bs ++ (js ++ [x])))[bs.length + 1 + 1 + js.length]? = some x := fun A B x => by
      rw [show bs.length+1+1+js.length=(bs.length+js.length)+1+1 by omega,List.getElem?_cons_succ,List.getElem?_cons_succ,<- List.append_assoc,List.getElem?_append_right (by simp)];simp
     have hset : ∀ (A B x y : List J), (A :: B :: (bs ++ (js ++ [x]))).set (bs.length + 1 + 1 + js.length) y = A :: B :: (bs ++ (js ++ [y])) := fun A B x y => by
      rw [show bs.length+1+1+js.length=(bs.length+js.length)+1+1 by omega,List.set_cons_succ,List.set_cons_succ,<- List.append_assoc,List.set_append_right _ _ (by simp)];simp
     have hMe:bs.length+1+1+js.length=(bs.length+js.length)+2:=by omega
     have ia0:=om h.blks.length (bs.length+1+1+js.length) 0 1 200 0 none .i64 (by simp);have ia0:bO none 1 (sA h.blks.length (bs.length+1+1+js.length) 0 1 200 none) (Ii 0)=some (pA h.blks.length (bs.length+1+1+js.length) 0):=ia0;generalize bs.length+1+1+js.length=M at*;generalize hc1:((q.c+1:Nat):Int)=c1 at*;simp -implicitDefEqProofs [bD,V,g1,g2,g5,hltI,w0,aI,hT,aa,au,ae,setAt,J.cells,J.okV,am,iu,ia0,tl,zo4,hget,hset,show IntKind.i64.wrap 1=1 by decide];refine ⟨hlt,?_⟩;rw [hsn];exact ⟨bs.length+js.length,none,_,by rw [<- hMe,<- hc1];rfl,by rw [<- List.append_assoc,List.getElem?_append_right (by simp)];simp⟩
    ·rw [UE ha] at hsn;have aI:((q.a:Int)==136)=false:=beq_false_of_ne (by omega);have ia0:=om h.blks.length (i+2) 0 1 200 q.a cap .i64 (by simp;omega);rw [Nat.zero_add,Nat.mul_one] at ia0;have hi:i < bs.length:=by
      by_cases hi:i < bs.length
      ·exact hi
      ·rw [List.getElem?_eq_none (by omega)] at hb;cases hb
     have hl0:(cI .u8 q.S).length=200:=by simpa [cI] using o1
     have w1:Wr ((q.a:Int)+1)=((q.a+1:Nat):Int):=wy;have hal:q.a < 200:=by omega
     have hal2:q.a<=199:=by omega
     generalize hqa:((q.a+1:Nat):Int)=a1 at*;simp -implicitDefEqProofs [bD,V,g1,g2,g5,hltI,w0,w1,aI,aa,au,ae,setAt,J.cells,J.okV,am,iu,ia0,hal,hal2,o1,zo4,hb];refine ⟨hlt,?_⟩;rw [hsn];exact ⟨i,cap,_,by rw [<- hqa];rfl,by simp [hi]⟩
   ·have:k=l.length:=by omega
    subst this;simp -implicitDefEqProofs [bD,g5,g1];rw [List.take_of_length_le (Nat.le_refl _)] at hb;exact ⟨i,cap,bs,rfl,hb⟩)
 exact ⟨fr',h',rfl,p1,hk⟩
theorem Xl (s:Sp):tv s=[.vsl false (eI .u8 s.S),Ii s.a,Ii s.b,Ii s.c]:=rfl
theorem Zn (h:O)(bs:List (List J))(ts:List Nat)(i:Nat)(cap:Option Nat)(S:List Int)(a b c:Int)(m:Nat)(hb:bs[i]?=some (cI .u8 S))(hl:S.length=200):
  frz (hx h bs ts) h.blks.length h.toks.length (m+2) (.agg [sA h.blks.length i 0 1 200 cap,Ii a,Ii b,Ii c])=some (.agg [.vsl false (eI .u8 S),Ii a,Ii b,Ii c]):=by
 have e:=GO h bs ts h.toks.length m i 200 cap .u8 S hb (by rw [hl];exact Nat.le_refl _);rw [List.take_of_length_le (by rw [hl];exact Nat.le_refl _)] at e;generalize hx h bs ts=H at*;have hfl:bC [sA h.blks.length i 0 1 200 cap,J.int .i64 a,Ii b,Ii c]=false:=by simp [bC,J.flat,sA]
 have fi:∀ a:Int,frz H h.blks.length h.toks.length (m+1) (Ii a)=some (Ii a):=fun a=>by rw [frz.eq_def]
 have hg:frz H h.blks.length h.toks.length (m+2) (.agg [sA h.blks.length i 0 1 200 cap,Ii a,Ii b,Ii c])=
   ([sA h.blks.length i 0 1 200 cap,J.int .i64 a,Ii b,Ii c].mapM (frz H h.blks.length h.toks.length (m+1))).map .agg:=by
  rw [frz.eq_def];simp only [hfl];rfl
 rw [hg];simp only [List.mapM_cons,List.mapM_nil,e,fi];rfl
theorem zfe (L:az)(h:O)(s:Sp)(hs:s.ok)(hc:s.c < 100000000)(c:Bool)(l:List Int)(hl:cw l)(hn:l.length < 100000000):
  Z ah L fO [.agg (tv s),.vsl c (eI .u8 l)] h=some (.agg (tv (ay s l)),h):=by
 rw [u6];have hf:=RC h s;have hf2:=fw h c (eI .u8 l);have hlo:=fun fr H R=>Xk (fr:=fr) (h:=h) (H:=H) (R:=R) s hs l hl hn hc;have hcl:(J.agg (tv s)).cells=tv s:=by simp only [J.cells]
 have hok:(J.agg (tv s)).okV=true:=Lh _;have hS:(eI .u8 s.S).length=200:=by simp [hs.1]
 have q0:cL false (tv s) 0 1=some (.vsl false (eI .u8 s.S)):=rfl;have hap:=fun y z=>zM (V h) h [y,z] [] 1 false [] (eI .u8 s.S) (by simp [hs.1,ao,show eo 1 ([]:List (List J))=true from rfl]);rw [List.nil_append,Bz] at hap;simp only [V,List.length_nil,Nat.zero_add,hS,List.length_cons,List.cons_append,List.nil_append] at hap;have hset:∀ x:J,setAt (tv s) 0 [x]=[x,Ii s.a,Ii s.b,Ii s.c]:=fun x=>rfl;have hsl:(tv s).length=4:=rfl;have hH:tkI h s (hx h ([sA h.blks.length 2 0 1 200 none,Ii s.a,Ii s.b,Ii s.c] :: zSp :: [cI .u8 s.S]) []):=⟨0,none,_,rfl,rfl⟩;have hlen:=iO hs hl;have hzS:zSp=[.nsl,Ii 0,Ii 0,Ii 0]:=rfl;rw [Xl (ay s l)];simp only [hzS] at hH;simp -implicitDefEqProofs [j4,V,hf,hf2,aF,hok,hcl,al,rep,chunks,q0,hap,aa,ae,au,hset,hsl];generalize hF:run ah _ (.loop _) _ _=R;obtain ⟨fr1,H',rfl,⟨i,cap,bs,rfl,hb⟩,hk1⟩:=hlo _ _ _ hF hH (by simp) (by simp) (by simp);have hfz:=fun z=>Zn h ([sA h.blks.length (i+2) 0 1 200 cap,Ii (ay s l).a,Ii (ay s l).b,Ii (ay s l).c] :: z :: bs) [] (i+2) cap (ay s l).S (ay s l).a (ay s l).b (ay s l).c 10 (by simpa using hb) hlen.1;generalize ay s l=q at*;simp -implicitDefEqProofs [hk1,wr,bD,bj,aa,ae,au,setAt,J.cells,J.okV,hzS,hfz]
def gvL (h:O)(bs:List (List J))(x:J)(S:List Int):Prop:=x=.vsl false (eI .u8 S)\/∃ i cap,x=sA h.blks.length (i+2) 0 1 200 cap/\bs[i]?=some (cI .u8 S)
theorem gvL.st {h:O}{bs:List (List J)}{x:J}{S:List Int}(hx1:gvL h bs x S)(A B:List J):StL h.blks.length (A :: B :: bs) x S:=by
 rcases hx1 with rfl | ⟨i,cap,rfl,hb⟩
 ·exact .inl rfl
 ·exact .inr ⟨i+2,cap,rfl,by simpa using hb⟩
theorem gvL.rd {h:O}{bs:List (List J)}{x:J}{S:List Int}(hx1:gvL h bs x S)(hl:S.length=200)(j:Nat)(hj:j < 200):
  ∃ p,bO none 1 x (Ii (j:Int))=some p/\∀ A B ts,qk (hx h (A :: B :: bs) ts) p 1 false=some (.int .u8 (gd S 0 j)):=by
 rcases hx1 with rfl | ⟨i,cap,rfl,hb⟩
 ·refine ⟨_,qT .u8 .i64 false S j (decide_eq_true (by omega)),fun A B ts=>?_⟩;simp
 ·refine ⟨_,om h.blks.length (i+2) 0 1 200 j cap .i64 (by simp;omega),fun A B ts=>?_⟩;simp [hb,hl];simp [cI,gd,List.getD,show j < S.length by omega]
theorem gvL.frz {h:O}{bs:List (List J)}{x:J}{S:List Int}(hx1:gvL h bs x S)(hl:S.length=200)(A B:List J)(ts:List Nat)(a b c m:Nat):
  frz (hx h (A :: B :: bs) ts) h.blks.length h.toks.length (m+2) (.agg [x,Ii a,Ii b,Ii c])=some (.agg [.vsl false (eI .u8 S),Ii a,Ii b,Ii c]):=by
 rcases hx1 with rfl | ⟨i,cap,rfl,hb⟩
 ·exact ZS _ _ _ m ⟨S,a,b,c⟩
 ·exact Zn h (A :: B :: bs) ts (i+2) cap S a b c m (by simpa using hb) hl
def gvI (h:O)(q:Sp)(ts:List Nat)(hh:O):Prop:=∃ x bs,hh=hx h ([x,Ii q.a,Ii q.b,Ii q.c] :: zSp :: bs) ts/\gvL h bs x q.S
theorem Xp {fr:Fr}{h H:O}{R:Option (dt × Fr × O)}(s:Sp)(hs:s.ok)(N:Int)(n:Nat)(hN:n=N.toNat)(hn:n < 1000000)(hc:s.c < 1000000000)
  (hF:run ah (V h) (.loop bE) fr H=R) (hH:gvI h s [] H)
  (h1:fr 1=Ii N) (h2:fr 2=pA h.blks.length 0 0) (h6:fr 6=.vsl true []) (h7:fr 7=Ii 0):
  ∃ fr' H',R=some (.exit 0,fr',H')/\gvI h (bz s n) (gT (eI .u8 (fm s n))) H'/\fr' 6=gL (.vsl true []) h.toks.length 0 (eI .u8 (fm s n))/\∀ t,t∉wr bE->fr' t=fr t:=by
 obtain ⟨e,fr',h',rfl,⟨rfl,p1,g6⟩,hk⟩:=af hF n
  (fun k fr hh=>fr 7=Ii k/\gvI h (bz s k) (gT (eI .u8 (fm s k))) hh/\fr 6=gL (.vsl true []) h.toks.length 0 (eI .u8 (fm s k)))
  (fun e fr hh=>e=.exit 0/\gvI h (bz s n) (gT (eI .u8 (fm s n))) hh/\fr 6=gL (.vsl true []) h.toks.length 0 (eI .u8 (fm s n)))
  ⟨h7,hH,h6⟩ (by
   rintro k fr1 hh hkN hkeep ⟨g7,⟨x,bs,rfl,hx1⟩,g6⟩;have g1:=kp hkeep h1;have g2:=kp hkeep h2;by_cases hlt:k < n
   ·have hltI:(k:Int) < N:=by omega
    have w0:Wr ((k:Int)+1)=k+1:=wz;have hok:=qj hs k;have hck:=zW s k;have hsn:=Pr s k;have hll:=yG s k;obtain ⟨o1,o2,o3,o4⟩:=hok;have hgs:bz s (k+1)=Hp (bz s k):=rfl;have hroom:((fm s k).length+1 < ao):=by rw [hll];unfold ao;omega
    have hap2:=fun cs v=>ER (V h) h cs 1 true (eI .u8 (fm s k)) (eI .u8 [v]) (by simp [V,hroom]);obtain ⟨x1,x2,x3⟩:=(hx1.st [] []).cell;generalize bz s k=q,fm s k=l at*;by_cases hb:q.b=136
    ·obtain ⟨e1,e2⟩:=NV hb;rw [e1] at hgs;rw [e2] at hsn;obtain ⟨js,hT⟩:=JQ (V h) h ([x,Ii q.a,Ii q.b,Ii q.c] :: zSp :: bs) (gT (eI .u8 l)) x q.S q.a q.b q.c (hx1.st _ _) o1 (by omega) (Nat.le_refl _) (Nat.le_add_right _ _);have tl:(fR q.S).length=200:=vq _;have bI:((q.b:Int)==136)=true:=by simp [hb]
     simp only [List.cons_append,List.append_assoc,List.length_cons,V] at hT;have hget : ∀ (A B x : List J), (A :: B :: (bs ++ (js ++ [x])))[bs.length + 1 + 1 + js.length]? = some x := fun A B x => by
      rw [show bs.length+1+1+js.length=(bs.length+js.length)+1+1 by omega,List.getElem?_cons_succ,List.getElem?_cons_succ,<- List.append_assoc,List.getElem?_append_right (by simp)];simp
     have hMe:bs.length+1+1+js.length=(bs.length+js.length)+2:=by omega
     have ia0:bO none 1 (sA h.blks.length (bs.length+1+1+js.length) 0 1 200 none) (Ii 0)=some (pA h.blks.length (bs.length+1+1+js.length) 0):=om h.blks.length (bs.length+1+1+js.length) 0 1 200 0 none .i64 (by simp);have h0at:(cI .u8 (fR q.S))[0]?=some (.int .u8 (gd (fR q.S) 0 0)):=by simp [cI,gd,List.getD,tl]
     have h0at':∀ hh,(cI .u8 (fR q.S))[0]'hh=.int .u8 (gd (fR q.S) 0 0):=fun hh=>(List.getElem?_eq_some_iff.1 h0at).2;simp only [V] at hap2;generalize hc1:((q.c+1:Nat):Int)=c1 at*;generalize bs.length+1+1+js.length=M at*;simp -implicitDefEqProofs [bE,V,g1,g2,g6,g7,hltI,w0,bI,hT,x1,x2,aa,au,ae,setAt,J.cells,J.okV,am,ia0,tl,hget,h0at,h0at',al,rep,chunks,fq,hap2,show IntKind.i64.wrap 1=1 by decide];rw [hsn,hgs];exact ⟨hlt,⟨_,bs++(js++[cI .u8 (fR q.S)]),by rw [<- hc1];rfl,.inr ⟨bs.length+js.length,none,by rw [hMe],by rw [<- List.append_assoc,List.getElem?_append_right (by simp)];simp⟩⟩,rfl⟩
    ·obtain ⟨e1,e2⟩:=NW hb;rw [e1] at hgs;rw [e2] at hsn;have bI:((q.b:Int)==136)=false:=beq_false_of_ne (by omega);obtain ⟨p,ip,lp⟩:=hx1.rd o1 q.b (by omega);have w1:Wr ((q.b:Int)+1)=((q.b+1:Nat):Int):=wy;simp only [V] at hap2;generalize hb1:((q.b+1:Nat):Int)=b1 at*;simp -implicitDefEqProofs [bE,V,g1,g2,g6,g7,hltI,w0,w1,bI,ip,lp,aa,au,ae,setAt,J.cells,J.okV,am,al,rep,chunks,fq,hap2];rw [hsn,hgs];exact ⟨hlt,⟨x,bs,by rw [<- hb1],hx1⟩,rfl⟩
   ·have:k=n:=by omega
    subst this;have hltI:¬(k:Int) < N:=by omega
    simp -implicitDefEqProofs [bE,g1,g6,g7,hltI];exact ⟨x,bs,rfl,hx1⟩)
 exact ⟨fr',h',rfl,p1,g6,hk⟩
theorem UV (L:az)(h:O)(s:Sp)(hs:s.ok)(N:Int)(n:Nat)(hN:n=N.toNat)(hn:n < 1000000)(hc:s.c < 1000000000):
  Z ah L dW [.agg (tv s),Ii N] h=some (.tup [.agg (tv (bz s n)),.vsl false (eI .u8 (fm s n))],h):=by
 rw [uU];have hf:=RC h s;have hlo:=fun fr H R=>Xp (fr:=fr) (h:=h) (H:=H) (R:=R) s hs N n hN hn hc;have hok:(J.agg (tv s)).okV=true:=Lh _;have hcl:(J.agg (tv s)).cells=tv s:=by simp only [J.cells]
 have hH:gvI h s [] (hx h [tv s,zSp] []):=⟨_,[],rfl,.inl rfl⟩;have hgo:=qj hs n;have hzS:zSp=[.nsl,Ii 0,Ii 0,Ii 0]:=rfl;rw [Xl (bz s n)];have hg:=fun hh n'=>v6 (h1:=hh) (nb:=h.blks.length) (nt:=h.toks.length) (n:=n') (s:=.vsl true []) (es:=eI .u8 (fm s n)) (.inr rfl) (by simp);generalize tv s=q,fm s n=l at*;rw [hzS] at hH;simp -implicitDefEqProofs [ke,V,hf,aF,hok,hcl,al,rep,chunks];generalize hF:run ah _ (.loop _) _ _=R;obtain ⟨fr1,H',rfl,⟨x,bs,rfl,hx1⟩,f6,hk1⟩:=hlo _ _ _ hF hH (by simp) (by simp) (by simp) (by simp);have hfz:=fun A ts=>hx1.frz hgo.1 [x,Ii (bz s n).a,Ii (bz s n).b,Ii (bz s n).c] A ts (bz s n).a (bz s n).b (bz s n).c 9;obtain ⟨x1,x2,x3⟩:=(hx1.st [] []).cell;generalize bz s n=g at*;simp -implicitDefEqProofs [hk1,wr,bE,bj,aa,ae,au,setAt,J.cells,J.okV,hzS,x1,x2,f6,hg,hfz]
theorem zfv (S:List Int)(hl:S.length=200)(z:List Int)(hz:z.length=136):z++(S.drop 136).take 64=putAt S 0 z:=by
 unfold putAt;rw [List.take_zero,List.nil_append,Nat.zero_add,hz,List.take_of_length_le (by simp;omega)]
theorem UZ {L:az}{H:O}{sz:Nat}{ref:Bool}{x y:J}{ys:List (List J)}(hy:aN H sz y=some ys)(hs:lO sz y=true):ka L H sz ref x y=ka L H sz ref x (.vsl false ys):=by
 have h2:lO sz (.vsl false ys)=true:=rfl;simp only [ka,hy,hs,h2,JP]
theorem ziP (L:az)(h:O)(p:J)(n i:Nat)(es:List (List J)):KL L h 1 p (gA n i es)=Vv (dX L h p [gA n i es]):=by simp [KL,gA,J.cells,J.okV]
theorem U1 (L:az)(h:O)(s:Sp)(hs:s.ok)(hc:s.c < 100000000):
  Z ah L eO [.agg (tv s)] h=some (.agg (tv (zX s)),h):=by
 rw [rO];have hf:=RC h s;have hok:(J.agg (tv s)).okV=true:=Lh _;have hcl:(J.agg (tv s)).cells=tv s:=by simp only [J.cells]
 have e1:tv (zX s)=[.vsl false (eI .u8 (putAt (fR s.S) 0 (tab 136 fun _=>0))),Ii 0,Ii 136,Ii ((s.c+1:Nat):Int)]:=rfl;have tl:(fR s.S).length=200:=vq _;rw [e1,<- zfv _ tl _ (by simp)];obtain ⟨js,hT⟩:=JQ (V h) h [[.vsl false (eI .u8 s.S),Ii s.a,Ii s.b,Ii s.c],zSp] [] (.vsl false (eI .u8 s.S)) s.S s.a s.b s.c (.inl rfl) hs.1 (by omega) (Nat.le_refl _) (Nat.le_add_right _ _);have hzS:zSp=[.nsl,Ii 0,Ii 0,Ii 0]:=rfl;simp only [List.cons_append,List.nil_append,List.append_assoc,List.length_cons,List.length_nil,V,hzS] at hT;rw [Xl] at*;have hmk:=fun bs=>i7 h bs [] 1 [J.int .u8 0] .i64 136 (by decide);have hz0:rep [J.int .u8 0] (136:Int).toNat=cI .u8 (tab 136 fun _=>0):=by rw [eR,fJ];rfl
 rw [hz0] at hmk;have hap := fun A B m => HO (V h) h (A :: B :: (js ++ [cI .u8 (fR s.S), cI .u8 (tab 136 fun _ => 0)])) [] (js.length + 3) 136 .u8 (tab 136 fun _ => 0) m false (by
  rw [List.getElem?_cons_succ,List.getElem?_cons_succ,List.getElem?_append_right (by simp)];simp)
 have hel := fun A B => zbd h (A :: B :: (js ++ [cI .u8 (fR s.S), cI .u8 (tab 136 fun _ => 0)])) [] (js.length + 2) 136 64 .u8 (fR s.S) none (by
  rw [List.getElem?_cons_succ,List.getElem?_cons_succ,List.getElem?_append_right (by simp)];simp) (by omega)
 have hsl:eP .slc 1 (sA h.blks.length (2+js.length) 0 1 200 none) (some (Ii 136)) none none=some (sA h.blks.length (2+js.length) 136 1 64 none):=PO 1 h.blks.length (2+js.length) 200 136 none .i64 (by decide);have hapk : ∀ A B, ka (V h) (hx h (A :: B :: (js ++ [cI .u8 (fR s.S), cI .u8 (tab 136 fun _ => 0)])) []) 1 false (sA h.blks.length (js.length + 1 + 1 + 1) 0 1 136 (some 136)) (sA h.blks.length (2 + js.length) 136 1 64 none) =
   some (gA h.toks.length 0 (eI .u8 ((tab 136 fun _=>0)++((fR s.S).drop 136).take 64)),hx h (A :: B :: (js++[cI .u8 (fR s.S),cI .u8 (tab 136 fun _=>0)])) [200]):=fun A B=>by
  have e:=hel A B;rw [show js.length+2=2+js.length by omega] at e;rw [UZ e rfl];have:=hap A B (((fR s.S).drop 136).take 64) (by simp [tl,ao]);rw [show js.length+3=js.length+1+1+1 by omega] at this;rw [this];simp [tl]
 simp only [V] at hapk;have hfz:=fun bs m=>Vq h bs [200] m 0 (eI .u8 ((tab 136 fun _=>0)++((fR s.S).drop 136).take 64)) (fun nb nt=>by simp) 0 136;generalize (tab 136 fun _=>(0:Int))++((fR s.S).drop 136).take 64=S2 at*;generalize hc1:((s.c+1:Nat):Int)=c1 at*;simp -implicitDefEqProofs [iy,V,hf,aF,hok,hcl,al,rep,chunks,aa,ae,au,setAt,hT,J.cells,J.okV,hmk,hsl,hapk,am,hfz,ziP]
theorem zfK {x:Int}(h:0<=x/\x < 256):UR x=x % 64:=by
 obtain ⟨n,rfl⟩:∃ n:Nat,x=n:=⟨x.toNat,by omega⟩;have hn:n < 256:=by omega
 have key:∀ n:Nat,n < 256->UR (n:Int)=(n:Int) % 64:=by decide +kernel
 exact key n hn
theorem XD (L:az)(h:O)(c:Bool)(b:List Int)(hb:cw b)(hl:b.length=32):
  Z ah L jK [.vsl c (eI .u8 b)] h=some (.vsl false (eW (dg (bi (kc b)))),h):=by
 rw [y7];have hf:=fw h c (eI .u8 b);have hap:=fun ts=>zM (V h) h [] ts 1 false [] (eI .u8 b) (by simp [hl,ao,show eo 1 ([]:List (List J))=true from rfl]);simp only [List.nil_append,Bz] at hap;simp only [V,List.length_nil,Nat.zero_add,RQ,hl,List.nil_append] at hap;have ia:bO none 1 (sA h.blks.length 0 0 1 32 none) (Ii 31)=some (pA h.blks.length 0 31):=om h.blks.length 0 0 1 32 31 none .i64 (by simp);have h31:(cI .u8 b)[31]?=some (.int .u8 (gd b 0 31)):=by simp [cI,gd,List.getD,hl]
 have hb31:=hb 31 (by omega);have hm:=zfK hb31;have hset:(cI .u8 b).set 31 (.int .u8 (UR (gd b 0 31)))=cI .u8 (kc b):=by unfold kc;simp [cI,List.map_set]
 have hml:(kc b).length=32:=by rw [Ny];exact hl
 have hO2:=fun L=>Ix L (hx h [cI .u8 (kc b)] []) (sA h.blks.length 0 0 1 32 none) (kc b) (IY.sA [] .u8 0 32 none (kc b) hml rfl) (Nw hb) (by omega);have hlen:(cI .u8 b).length=32:=by simp [hl]
 generalize dg (bi (kc b))=D at*;have h31':∀ hh,(cI .u8 b)[31]'hh=.int .u8 (gd b 0 31):=fun hh=>(List.getElem?_eq_some_iff.1 h31).2;have hrem:aV .rem (.int .u8 (gd b 0 31)) (.int .u8 64)=some (.int .u8 (UR (gd b 0 31))):=by
  rw [bQ .u8 _ 64 (by decide),hm];obtain ⟨n,hn⟩:∃ n:Nat,gd b 0 31=n:=⟨(gd b 0 31).toNat,by omega⟩;rw [hn]
  congr 2
 simp -implicitDefEqProofs [nf,V,hf,al,rep,chunks,hap,ia,ap,h31,h31',hrem,hset,hO2,am,hlen]
def fdD (b:List Int):J:=if bi (kc b) < pN then .tup [.vsl false (eW (dg (bi (kc b)))),Ii 1,Ii 0] else .tup [.vsl false [],Ii 64,Ii 11]
theorem U8 {fr:Fr}{h:O}{R:Option (dt × Fr × O)}(b:List Int)(hb:cw b)(hl:b.length=32)(c2:Bool)
  (hF:run ah (V h) (.loop gj) fr (hx h [] [])=R)
  (h0:fr 0=.vsl false [[.vsl c2 (eI .u8 b)]]) (h1:fr 1=Ii 0) (h7:fr 7=Ii 0):
  ∃ e fr',R=some (e,fr',hx h [] [])/\(e=.ret/\bi (kc b) < pN/\fr' 4=.vsl false (eW (dg (bi (kc b))))/\fr' 5=Ii 1/\fr' 6=Ii 0\/e=.exit 0/\¬bi (kc b) < pN):=by
 obtain ⟨e,fr',h',rfl,⟨rfl,hp⟩,hk⟩:=af hF 64
  (fun k fr hh=>fr 7=Ii (k:Int)/\(0 < k->¬bi (kc b) < pN)/\hh=hx h [] [])
  (fun e fr hh=>hh=hx h [] []/\(e=.ret/\bi (kc b) < pN/\fr 4=.vsl false (eW (dg (bi (kc b))))/\fr 5=Ii 1/\fr 6=Ii 0\/e=.exit 0/\¬bi (kc b) < pN))
  ⟨h7, fun q => absurd q (by omega), rfl⟩ (by
   rintro k fr1 hh hkN hkeep ⟨g7,hno,rfl⟩;have g0:=kp hkeep h0;have g1:=kp hkeep h1;by_cases hk64:k < 64
   ·have hkI:(k:Int) < 64:=by omega
    have w0:Wr (k:Int)=k:=wz;have w1:Wr ((k:Int)+1)=((k+1:Nat):Int):=wy;have hrem:aV .rem (Ii (k:Int)) (Ii 1)=some (Ii 0):=by rw [bQ .i64 (k:Int) 1 (by decide)];simp
    have ia:bO none 1 (.vsl false [[.vsl c2 (eI .u8 b)]]) (Ii 0)=some (.vptr [.vsl c2 (eI .u8 b)] 0):=by simp [bO,Ke]
    have hNm:=fun L h=>XD L h c2 b hb hl;have hP:=zj5;have hbd:bi (kc b) < dB ^ 8:=by
     have:=yd (Nw hb);rw [Ny,hl] at this;exact this
    have hlb:=Gq hbd;have hC:=fun L h=>LG L h (.vsl false (eW (dg (bi (kc b))))) (.vsl false (eW pD)) (dg (bi (kc b))) pD (iV.vsl _ _ _) (iV.vsl _ _ _) (xb _) zj4 ⟨by omega,by decide⟩;rw [j7,zj2] at hC;have hcl:=zgp (bi (kc b)) pN;generalize pD=dP,jU (bi (kc b)) pN=cm at*;by_cases hlt:bi (kc b) < pN
    ·have hk0:k=0:=by
      rcases Nat.eq_zero_or_pos k with q | q
      ·exact q
      ·exact absurd hlt (hno q)
     subst hk0;rw [decide_eq_true hlt] at hcl;have hcl:=of_decide_eq_true hcl;generalize dg (bi (kc b))=D at*;simp -implicitDefEqProofs [gj,V,g0,g1,g7,ia,hNm,hP,hC,hcl,hlt,show aV .rem (Ii 0) (Ii 1)=some (Ii 0) from rfl,show IntKind.i64.wrap 1=1 by decide]
    ·rw [decide_eq_false hlt] at hcl;have hcl:=of_decide_eq_false hcl;generalize dg (bi (kc b))=D at*;generalize hk1:((k+1:Nat):Int)=k1 at*;simp -implicitDefEqProofs [gj,V,g0,g1,g7,hkI,w0,w1,hrem,ia,hNm,hP,hC,hcl,hlt];exact ⟨hk64,by omega⟩
   ·have:k=64:=by omega
    subst this;simp -implicitDefEqProofs [gj,g7];exact Nat.le_of_not_lt (hno (by omega)))
 exact ⟨e,fr',rfl,hp⟩
theorem zb7 (L:az)(h:O)(c c2:Bool)(b:List Int)(hb:cw b)(hl:b.length=32):
  Z ah L km [.vsl c [[.vsl c2 (eI .u8 b)]],Ii 0] h=some (fdD b,h):=by
 rw [z4];have hf:=fw h c [[.vsl c2 (eI .u8 b)]];have hlo:=fun fr R=>U8 (fr:=fr) (h:=h) (R:=R) b hb hl c2;unfold fdD;simp -implicitDefEqProofs [oO,hf];generalize hF:run ah _ (.loop _) _ _=R;obtain ⟨e,fr1,rfl,⟨rfl,hlt,f4,f5,f6⟩ | ⟨rfl,hlt⟩⟩:=hlo _ _ hF (by simp) (by simp) (by simp)
 ·rw [if_pos hlt];generalize dg (bi (kc b))=D at*;simp -implicitDefEqProofs [f4,f5,f6]
 ·rw [if_neg hlt];simp -implicitDefEqProofs []
end Go.Av
