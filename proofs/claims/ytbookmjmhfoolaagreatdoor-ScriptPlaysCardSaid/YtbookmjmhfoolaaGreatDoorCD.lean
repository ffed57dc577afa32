/- The document's operations, items, patterns and guard. -/
import Derived.Test.YtbookmjmhfoolaaGreatDoorC1
import Derived.Test.YtbookmjmhfoolaaGreatDoorC3
import Derived.Test.YtbookmjmhfoolaaGreatDoorCC
import Derived.Test.YtbookmjmhfoolaaGreatDoorC6
import Derived.Test.YtbookmjmhfoolaaGreatDoorC4
set_option linter.unusedSimpArgs false
set_option linter.unusedVariables false
set_option maxHeartbeats 2000000
set_option maxRecDepth 20000
namespace Go.Av
theorem J5 (L:az)(h:O)(x:It):aa ah L dJ [.agg x.cells] h=some (Ii (chk x),h):=by
 rw [BQ];obtain ⟨k,t,c,lb⟩:=x;simp only [It.cells];by_cases hk:k < 1\/k > 3
 ·rw [WB k t c lb hk];by_cases h1:k < 1
  ·simp [dT,au,h1]
  ·have h2:k > 3:=by omega
   simp [dT,au,h1,h2]
 ·have hk':k=1\/k=2\/k=3:=by omega
  have n1:¬k < 1:=by omega
  have n3:¬k > 3:=by omega
  have n3':¬3 < k:=by omega
  by_cases hb:k=1/\(t < 1\/t > 4)\/k=2/\t≠1/\t≠3\/k=3/\t≠0
  ·rw [zbd k t c lb hk' hb];rcases hk' with rfl | rfl | rfl
   ·by_cases h1:t < 1
    ·simp [dT,au,h1]
    ·have h2:t > 4:=by omega
     simp [dT,au,h1,h2]
   ·have h1:t≠1:=by omega
    have h2:t≠3:=by omega
    simp [dT,au,bne,beq_false_of_ne h1,beq_false_of_ne h2]
   ·have h1:t≠0:=by omega
    simp [dT,au,bne,beq_false_of_ne h1]
  ·rw [V2 k t c lb hk' hb];have hX:∀ X Y:Int,(if c < 1\/c > 1048576\/k=3/\c≠1 then X else Y)=if c < 1 then X else if c > 1048576 then X else if k=3/\c≠1 then X else Y:=by
    intro X Y;by_cases h1:c < 1 <;> by_cases h2:c > 1048576 <;> by_cases h3:k=3/\c≠1 <;> simp [h1,h2,h3]
   rw [hX];rcases hk' with rfl | rfl | rfl
   ·have h1:¬t < 1:=by omega
    have h2:¬t > 4:=by omega
    by_cases c1:c < 1
    ·simp [dT,au,h1,h2,c1]
    ·by_cases c2:c > 1048576
     ·simp [dT,au,h1,h2,c1,c2]
     ·by_cases c3:(lb.size:Int) > 255
      ·simp [dT,au,h1,h2,c1,c2,c3]
      ·simp [dT,au,h1,h2,c1,c2,c3]
   ·have ht:(t !=1&&t !=3)=false:=by
     by_cases e:t=1
     ·simp [e]
     ·have:t=3:=by omega
      simp [this]
    have ht1:t=1\/t=3:=by omega
    rcases ht1 with rfl | rfl
    all_goals
     by_cases c1:c < 1
     ·simp [dT,au,c1]
     ·by_cases c2:c > 1048576
      ·simp [dT,au,c1,c2]
      ·by_cases c3:(lb.size:Int) > 255
       ·simp [dT,au,c1,c2,c3]
       ·simp [dT,au,c1,c2,c3]
   ·have h0:t=0:=by omega
    subst h0;by_cases c1:c < 1
    ·simp [dT,au,c1]
    ·by_cases c2:c > 1048576
     ·simp [dT,au,c1,c2]
     ·by_cases c4:c=1
      ·subst c4;by_cases c3:(lb.size:Int) > 255
       ·simp [dT,au,c3]
       ·simp [dT,au,c3]
      ·simp [dT,au,c1,c2,bne,beq_false_of_ne c4,c4]
theorem zb0 {L:az}{fr:Fr}{h:O}{R:Option (cL × Fr × O)}(hF:run ah L (.loop jw) fr (hx h [] [])=R)(n m:Nat)(hm:m<=8)(hn:n < 9223372036854775808)(hL:L.rot<=h.toks.length)
  (h5:fr 5=.vsl true []) (h0:fr 0=Ii n) (h1:fr 1=Ii m) (h6:fr 6=Ii 0):
  ∃ fr',R=some (.exit 0,fr',hx h [] (gT (eI .u8 (le n m))))/\fr' 5=gL (.vsl true []) h.toks.length 0 (eI .u8 (le n m)):=by
 obtain ⟨e,fr',h',rfl,⟨rfl,rfl,h3'⟩,hk⟩:=af hF m
  (fun k fr hh=>fr 6=Ii k/\fr 0=Ii ((n / 256 ^ k:Nat):Int)/\fr 5=gL (.vsl true []) h.toks.length 0 (eI .u8 (le n k))/\hh=hx h [] (gT (eI .u8 (le n k))))
  (fun e fr hh=>e=.exit 0/\hh=hx h [] (gT (eI .u8 (le n m)))/\fr 5=gL (.vsl true []) h.toks.length 0 (eI .u8 (le n m)))
  ⟨h6, by simpa using h0, h5, rfl⟩ (by
   rintro k fr1 hh hkN hkeep ⟨g6,g0,g5,rfl⟩;have g1:=kp hkeep h1;by_cases hlt:k < m
   ·have w1:Wr ((k:Int)+1)=k+1:=wz;have hle:n / 256 ^ k<=n:=Nat.div_le_self _ _;have w2:(((n / 256 ^ k:Nat):Int)).tmod 256=((n / 256 ^ k % 256:Nat):Int):=sv (n / 256 ^ k) 256;have w3:(((n / 256 ^ k:Nat):Int)).tdiv 256=((n / 256 ^ (k+1):Nat):Int):=by
     rw [Nat.pow_succ,<- Nat.div_div_eq_div_mul];exact xe (n / 256 ^ k) 256
    have w4:IntKind.i64.wrap ((n / 256 ^ (k+1):Nat):Int)=((n / 256 ^ (k+1):Nat):Int):=eK _ (Nat.lt_of_le_of_lt (Nat.div_le_self _ _) hn);have w5:le n (k+1)=le n k++[IntKind.u8.wrap ((n / 256 ^ k % 256:Nat):Int)]:=by
     rw [le]
     congr 2
     rw [Int.fdiv_eq_ediv_of_nonneg _ (Int.pow_nonneg (by decide))];have e1:(n:Int) / 2 ^ (8*k)=((n / 256 ^ k:Nat):Int):=by
      rw [Int.natCast_ediv,Int.natCast_pow,Int.pow_mul];rfl
     rw [e1];unfold IntKind.wrap;simp [IntKind.signed,IntKind.bits]
    generalize n / 256 ^ k % 256=d at*;generalize n / 256 ^ k=q at*;generalize hq1:n / 256 ^ (k+1)=q1 at*;simp [jw,g6,g0,g1,g5,hlt,w1,w2,w3,w4,w5,bC,da,ak,rep,J.cells,J.okV,chunks,fx,yx,am,hL,show k+1 < 274877906944 by omega];rw [<- hq1,Int.natCast_ediv,Int.natCast_pow];rfl
   ·have:k=m:=by omega
    subst this;simp [jw,g6,g0,g1,g5])
 exact ⟨fr',rfl,h3'⟩
theorem zjk (L:az)(h:O)(bs:List (List J))(ts:List Nat)(n m:Nat)(hc:(decide (0 < m)&&decide (m<=8)&&decide (n < 9223372036854775808))=true):
  aa ah L aY [Ii (n:Int),Ii (m:Int)] (hx h bs ts)=some (gA h.toks.length ts.length (eI .u8 (le n m)),hx h bs (ts++[m])):=by
 simp only [Bool.and_eq_true,decide_eq_true_eq] at hc;rw [Ao];have h0:¬m=0:=by omega
 have hne:eI .u8 (le n m)≠[]:=fun e=>by have:=congrArg List.length e;simp at this;omega
 generalize hH:hx h bs ts=H;simp [nN,rep,chunks,ak];generalize hF:run ah _ (.loop _) _ _=R;obtain ⟨fr',rfl,h3⟩:=zb0 hF n m (by omega) (by omega) (by simp [V]) (by simp) (by simp) (by simp) (by simp);simp [h3,gL,hne,gT,zgf];subst hH;simp [gA,ZF,aB]
theorem UJ (L:az)(h:O)(bs:List (List J))(ts:List Nat)(n m:Int)(hc:(decide (0<=n)&&decide (0 < m)&&decide (m<=8)&&decide (n < 9223372036854775808))=true):
  aa ah L aY [Ii n,Ii m] (hx h bs ts)=some (gA h.toks.length ts.length (eI .u8 (le n m.toNat)),hx h bs (ts++[m.toNat])):=by
 simp only [Bool.and_eq_true,decide_eq_true_eq] at hc;obtain ⟨k,rfl⟩:∃ k:Nat,m=k:=⟨m.toNat,by omega⟩;obtain ⟨j,rfl⟩:∃ j:Nat,n=j:=⟨n.toNat,by omega⟩;exact zjk L h bs ts j k (by simp only [Bool.and_eq_true,decide_eq_true_eq];omega)
theorem Ni (L:az)(h:O)(x:It):aa ah L jS [.agg x.cells] h=
  some (if chk x=0 then .tup [.vsl false (eI .u8 (KG x)),Ii 0] else .tup [.vsl false [],Ii (chk x)],h):=by
 rw [zP];have e:aZ [J.int .i64 x.kind,Ii x.typ,Ii x.count,.str x.label]=true:=rfl;have hck:=J5;simp only [It.cells] at hck |-;by_cases h0:chk x=0
 ·have b0:(chk x==0)=true:=by simp [h0]
  obtain ⟨c1,c2,c3,c4,c5,c6,c7⟩:=uw h0;have hs:x.label.size < 1000000000:=by omega
  simp [dT,jO,Z,hck,h0,UJ,V,fx,yw,le,Cm,am,show 8+x.label.size < 274877906944 by omega,KG,show 0<=x.kind by omega,show 0<=x.typ by omega,show 0<=x.count by omega,show x.kind < 9223372036854775808 by omega,show x.typ < 9223372036854775808 by omega,show x.count < 9223372036854775808 by omega,show (x.label.size:Int) < 9223372036854775808 by omega,show x.label.size < 9223372036854775808 by omega]
 ·have b0:(chk x==0)=false:=by simp [h0]
  simp [dT,jO,Z,hck,bne,b0];exact fun e=>absurd e h0
theorem zb2 {fr:Fr}{h:O}{R:Option (cL × Fr × O)}(l:List It)(hn:l.length<=2000)
  (hF:run ah (V h) (.loop cE) fr (hx h [] [])=R)
  (h5:fr 5=.vsl true []) (h0:fr 0=.vsl false (l.map It.cells)) (h6:fr 6=Ii 0):
  ∃ e fr' bs ts,R=some (e,fr',hx h bs ts)/\((e=.exit 0/\∃ out,fw l 0 []=(out, -1,0)/\fr' 5=gL (.vsl true []) h.toks.length 0 (eI .u8 out))\/(e=.ret/\fr' 2=.nsl/\(fw l 0 []).1=[]/\fr' 3=Ii (fw l 0 []).2.1/\fr' 4=Ii (fw l 0 []).2.2)):=by
 obtain ⟨e,fr',h',rfl,⟨⟨bs,ts,rfl⟩,hp⟩,hk⟩:=af hF l.length
  (fun k fr hh=>fr 6=Ii k/\∃ bs out,hh=hx h bs (gT (eI .u8 out))/\fr 5=gL (.vsl true []) h.toks.length 0 (eI .u8 out)/\fw l 0 []=fw (l.drop k) k out/\out.length<=k*1000008)
  (fun e fr hh=>(∃ bs ts,hh=hx h bs ts)/\((e=.exit 0/\∃ out,fw l 0 []=(out, -1,0)/\fr 5=gL (.vsl true []) h.toks.length 0 (eI .u8 out))\/(e=.ret/\fr 2=.nsl/\(fw l 0 []).1=[]/\fr 3=Ii (fw l 0 []).2.1/\fr 4=Ii (fw l 0 []).2.2)))
  ⟨h6, [], [], by simp [gT], by simpa [gL] using h5, by simp, by simp⟩ (by
   rintro k fr1 hh hkN hkeep ⟨g6,bs,out,rfl,g5,gs,go⟩;have g0:=kp hkeep h0;by_cases hlt:k < l.length
   ·have w1:Wr ((k:Int)+1)=k+1:=wz;have hget:l[k]?=some l[k]:=List.getElem?_eq_getElem hlt;rw [RK l k out hlt] at gs;by_cases h1024:k=1024
    ·rw [if_pos h1024] at gs;subst h1024;simp [cE,g6,g0,g5,hlt,show (1024:Int) < l.length by omega,bA,JP,hget,Z,aq,V,ab];exact ⟨⟨_,_,rfl⟩,by rw [gs],by rw [gs];rfl,by rw [gs]⟩
    ·rw [if_neg h1024] at gs;have b1024:((k:Int)==1024)=false:=beq_false_of_ne (by omega);by_cases hc:chk l[k]=0
     ·rw [if_pos hc] at gs;have hsz:=(uw hc).2.2.2.2.2.2;have hroom:out.length+(8+l[k].label.size) < 274877906944:=by omega
      simp [cE,g6,g0,g5,hlt,show (k:Int) < l.length by omega,bA,JP,hget,Z,aq,V,ab,b1024,Ni,hc,yx,am,hroom,w1];exact ⟨_,out++KG l[k],rfl,rfl,gs,by simp;omega⟩
     ·rw [if_neg hc] at gs;have bc:(chk l[k]==0)=false:=beq_false_of_ne hc;simp [cE,g6,g0,g5,hlt,show (k:Int) < l.length by omega,bA,JP,hget,Z,aq,V,ab,b1024,Ni,hc,bne,bc];exact ⟨⟨_,_,rfl⟩,by rw [gs],by rw [gs],by rw [gs]⟩
   ·have:k=l.length:=by omega
    subst this;simp [cE,g6,g0,g5];exact ⟨⟨_,_,rfl⟩,out,by rw [gs];simp [fw],rfl⟩)
 exact ⟨e,fr',bs,ts,rfl,hp⟩
theorem zjv (L:az)(h:O)(l:List It)(hn:l.length<=2000):
  aa ah L gM [.vsl false (l.map It.cells)] h=some (.tup [.vsl false (eI .u8 (fw l 0 []).1),Ii (fw l 0 []).2.1,Ii (fw l 0 []).2.2],h):=by
 rw [vV];simp [lg, -List.map_take,rep,chunks,ak];generalize hF:run ah _ (.loop _) _ _=R;obtain ⟨e,fr',bs,ts,rfl,⟨rfl,out,e1,e2⟩ | ⟨rfl,e1,e2,e3,e4⟩⟩:=zb2 l hn hF (by simp) (by simp) (by simp)
 ·rw [e1];simp [e2,pe]
 ·rw [e2];simp [e1,e3,e4]
theorem US (L:az)(h:O)(t:Int):aa ah L di [Ii t] h=some (Ii (iM t:Int),h):=by
 rw [De];unfold iM;by_cases h1:t=1
 ·subst h1;simp [d8]
 ·have b1:(t==1)=false:=by simpa using h1
  rw [if_neg h1];by_cases h2:t=2
  ·subst h2;simp [d8]
  ·have b2:(t==2)=false:=by simpa using h2
   rw [if_neg h2];by_cases h3:t=3
   ·subst h3;simp [d8]
   ·have b3:(t==3)=false:=by simpa using h3
    rw [if_neg h3];by_cases h4:t=4
    ·subst h4;simp [d8]
    ·have b4:(t==4)=false:=by simpa using h4
     rw [if_neg h4];simp [d8,b1,b2,b3,b4]
theorem UP (t:Int):iM t<=96:=by unfold iM;split <;> (try split) <;> (try split) <;> (try split) <;> omega
theorem Ka (L:az)(h:O)(t:Int)(c:Bool)(b:List Int)(hl:b.length < 9223372036854775808):aa ah L fp [Ii t,.vsl c (eI .u8 b)] h=some (.tup [Ii ((iT t b.length).1:Int),Ii (iT t b.length).2],h):=by
 rw [AP];have hS:=fun L h=>US L h t;have hf:=fR h c (eI .u8 b);unfold iT;have hlen:(eI .u8 b).length=b.length:=by simp
 generalize b.length=n at*;generalize eI .u8 b=eb at*;have hs8:=UP t;generalize hs:iM t=s at*;by_cases h0:s=0
 ·rw [if_pos h0];have b0:((s:Int)==0)=true:=by simp;omega
  simp [dM,hf,hS,b0,hlen]
 ·rw [if_neg h0];have b0:((s:Int)==0)=false:=by simp;omega
  have z0:¬(s:Int)=0:=by omega
  have t1:(n:Int).tmod (s:Int)=((n % s:Nat):Int):=sv n s;have t2:(n:Int).tdiv (s:Int)=((n / s:Nat):Int):=xe n s;have hle:n / s<=n:=Nat.div_le_self _ _;have t3:IntKind.i64.wrap ((n / s:Nat):Int)=((n / s:Nat):Int):=eK _ (by omega);have br:aW .rem (Ii (n:Int)) (Ii (s:Int))=some (Ii ((n % s:Nat):Int)):=by rw [bC .i64 (n:Int) (s:Int) z0,t1]
  have bq:aW .quo (Ii (n:Int)) (Ii (s:Int))=some (Ii ((n / s:Nat):Int)):=by rw [da .i64 (n:Int) (s:Int) z0,t2,t3]
  have hq0 : n % s = 0 -> (n / s = 0 ↔ n = 0) := fun hr => by
   have:=Nat.div_add_mod n s;constructor
   ·intro e;rw [e,hr] at this;omega
   ·intro e;subst e;simp
  generalize n % s=r at*;generalize n / s=q at*;by_cases h1:r=0
  ·rw [if_neg (by omega)];have hq0:=hq0 h1;subst h1;by_cases h2:n=0
   ·rw [if_pos (.inl h2)];have hq1:(q:Int) < 1:=by omega
    simp [dM,hf,hS,b0,hlen,br,bq,hq1,bne]
   ·have hq1:¬(q:Int) < 1:=by omega
    by_cases h3:1048576 < q
    ·rw [if_pos (.inr h3)];simp [dM,hf,hS,b0,hlen,br,bq,hq1,bne,show (1048576:Int) < q by omega]
    ·rw [if_neg (by omega)];simp [dM,hf,hS,b0,hlen,br,bq,hq1,bne,show ¬(1048576:Int) < q by omega]
  ·rw [if_pos (by omega)];have b1:((r:Int)==0)=false:=by simp;omega
   simp [dM,hf,hS,b0,hlen,br,bne,b1]
theorem UU {fr:Fr}{h:O}{R:Option (cL × Fr × O)}(t:Int)(b:List Int)(s n:Nat)(hb:ce b)(hs:s=iM t)(hl:b.length=n*s)(hn:b.length < 100000000)
  (hF:run ah (V h) (.loop bY) fr (hx h [] [])=R) (hn0:n < 100000000)
  (h0:fr 0=Ii t) (h1:fr 1=.vsl false (eI .u8 b)) (h5:fr 5=Ii (n:Int)) (h7:fr 7=Ii 0):
  ∃ e fr',R=some (e,fr',hx h [] [])/\(e=.exit 0/\(t=3\/t=4->Lz t b s n=true)\/e=.ret/\fr' 4=Ii 4/\(t=3\/t=4)/\Lz t b s n=false):=by
 obtain ⟨e,fr',h',rfl,⟨rfl,hp⟩,hk⟩:=af hF n
  (fun k fr hh=>fr 7=Ii (k:Int)/\(t=3\/t=4->Lz t b s k=true)/\hh=hx h [] [])
  (fun e fr hh=>hh=hx h [] []/\(e=.exit 0/\(t=3\/t=4->Lz t b s n=true)\/e=.ret/\fr 4=Ii 4/\(t=3\/t=4)/\Lz t b s n=false))
  ⟨h7, fun _ => rfl, rfl⟩ (by
   rintro k fr1 hh hkN hkeep ⟨g7,hok,rfl⟩;have g0:=kp hkeep h0;have g1:=kp hkeep h1;have g5:=kp hkeep h5;have hS:=fun L h=>US L h t;have hs8:=UP t;rw [<- hs] at hS hs8;by_cases hlt:k < n
   ·have hkn:(k:Int) < n:=by omega
    have w0:Wr ((k:Int)+1)=((k+1:Nat):Int):=wy;obtain ⟨i,hi⟩:∃ i,i=k*s:=⟨_,rfl⟩;obtain ⟨j,hj⟩:∃ j,j=i+s:=⟨_,rfl⟩;have hmul:(k+1)*s=j:=by rw [Nat.add_mul,Nat.one_mul];omega
    have hjl:j<=b.length:=by
     have:(k+1)*s<=n*s:=Nat.mul_le_mul_right _ hlt;omega
    have m1:aW .mul (Ii (k:Int)) (Ii (s:Int))=some (Ii (i:Int)):=by
     rw [TJ,hi]
     congr 2
     rw [show (k:Int)*(s:Int)=((k*s:Nat):Int) by simp];exact wz
    have m2:aW .mul (Ii ((k+1:Nat):Int)) (Ii (s:Int))=some (Ii (j:Int)):=by
     rw [TJ,<- hmul]
     congr 2
     rw [show ((k+1:Nat):Int)*(s:Int)=(((k+1)*s:Nat):Int) by simp];exact wz
    have hsl:=JD false b i s j hj hjl;have hch:(b.drop i).take s=mM b s k:=by rw [hi];rfl
    rw [hch] at hsl;have hcl:(mM b s k).length=s:=by unfold mM;simp;omega
    have hcb:ce (mM b s k):=mg (pB hb _) _;have hst:Lz t b s (k+1)=(Lz t b s k&&(AE t (mM b s k)==0)):=rfl;have hmono : ∀ d, Lz t b s (k + 1) = false -> Lz t b s (k + 1 + d) = false := fun d e => by
     induction d with
     | zero=>exact e
     | succ d ih=>show (Lz t b s (k+1+d)&&_)=false;rw [ih];rfl
    have hno : Lz t b s (k + 1) = false -> Lz t b s n = false := fun q => by
     have:=hmono (n - (k+1)) q
     rwa [show k+1+(n - (k+1))=n by omega] at this
    have hR5:=fun L h c=>zbX L h c (mM b s k) hcb (by omega);have hR2:=fun (q:s=32) L h c=>zbY L h c (mM b s k) hcb (by omega);have he3:t=3->s=32:=fun q=>by rw [hs,q];rfl
    have he4:t=4->AE t (mM b s k)=MG (mM b s k):=fun q=>by unfold AE;rw [if_neg (by omega)]
    generalize mM b s k=ch at*;generalize hk1:((k+1:Nat):Int)=k1 at*;clear hmono hi hj hmul;by_cases h3:t=3
    ·subst h3;have hR2:=hR2 (he3 rfl);rw [hok (.inl rfl),Bool.true_and] at hst;have b4:((3:Int)==4)=false:=by decide
     obtain ⟨v,hv,hv1,hv2⟩:=hR2 (V h) (hx h [] []) (false&&j==b.length);simp only [V,Bool.false_and] at hv;by_cases he:AE 3 ch=0
     ·have be:(AE 3 ch==0)=true:=by simp [he]
      rw [be] at hst;generalize AE 3 ch=er at*;simp -implicitDefEqProofs [bY,V,g0,g1,g5,g7,hkn,hS,m1,w0,m2,hsl,hv,bne,be];exact ⟨hlt,by omega,hst⟩
     ·have be:(AE 3 ch==0)=false:=by simpa using he
      rw [be] at hst;have hno:=hno hst;generalize AE 3 ch=er at*;simp -implicitDefEqProofs [bY,V,g0,g1,g5,g7,hkn,hS,m1,w0,m2,hsl,hv,bne,be,hno]
    ·have b3:(t==3)=false:=by simpa using h3
     by_cases h4:t=4
     ·subst h4;have he4:=he4 rfl;rw [hok (.inr rfl),Bool.true_and,he4] at hst;generalize dg (bx ch)=dch at*;by_cases he:MG ch=0
      ·have be:(MG ch==0)=true:=by simp [he]
       rw [be] at hst;rw [he] at hR5;simp only [if_true] at hR5;simp -implicitDefEqProofs [bY,V,g0,g1,g5,g7,hkn,hS,m1,w0,m2,hsl,hR5,bne];exact ⟨hlt,by omega,hst⟩
      ·have be:(MG ch==0)=false:=by simpa using he
       rw [be] at hst;have hno:=hno hst;rw [if_neg he] at hR5;generalize MG ch=er at*;simp -implicitDefEqProofs [bY,V,g0,g1,g5,g7,hkn,hS,m1,w0,m2,hsl,hR5,bne,be,hno]
     ·have b4:(t==4)=false:=by simpa using h4
      simp -implicitDefEqProofs [bY,V,g0,g1,g5,g7,hkn,hS,m1,w0,m2,hsl,b3,b4,bne];exact ⟨hlt,by omega,fun q=>by omega⟩
   ·have:k=n:=by omega
    subst this;simp -implicitDefEqProofs [bY,V,g5,g7];exact hok)
 exact ⟨e,fr',rfl,hp⟩
theorem zca {t:Int}{n:Nat}(h0:(iT t n).2=0):¬iM t=0/\n=(iT t n).1*iM t/\(iT t n).1<=1048576:=by
 generalize hq:iT t n=q at*;unfold iT at hq;split at hq
 ·subst hq;simp at h0
 ·rename_i h1;split at hq
  ·subst hq;simp at h0
  ·rename_i h2;split at hq
   ·subst hq;simp at h0
   ·subst hq;refine ⟨h1,?_,by simp only;omega⟩;have:=Nat.div_add_mod n (iM t);simp only;rw [Nat.mul_comm];omega
theorem QL (L:az)(h:O)(t:Int)(c:Bool)(b:List Int)(hb:ce b)(hl:b.length < 100000000):aa ah L ij [Ii t,.vsl c (eI .u8 b)] h=some (Ii (uP t b),h):=by
 rw [AQ];have hC:=fun L h=>Ka L h t false b (by omega);have hf:=fR h c (eI .u8 b);have hg:=zca (t:=t) (n:=b.length);unfold uP;generalize iT t b.length=q at*;obtain ⟨n,er⟩:=q;simp only at hC hg |-;by_cases he:er=0
 ·rw [if_neg (by simpa using he)];obtain ⟨hs0,hbl,hn⟩:=hg he;have be:(er==0)=true:=by simp [he]
  have hlo:=fun fr R=>UU (fr:=fr) (h:=h) (R:=R) t b (iM t) n hb rfl hbl hl;subst he;simp -implicitDefEqProofs [kJ,hf,hC,bne];generalize hF:run ah _ (.loop _) _ _=R;obtain ⟨e,fr1,rfl,hor⟩:=hlo _ _ hF (by omega) (by simp) (by simp) (by simp) (by simp);rcases hor with ⟨rfl,hok⟩ | ⟨rfl,f4,h34,hok⟩
  ·have hres:(if t=3\/t=4 then (if Lz t b (iM t) n=true then (0:Int) else 4) else 0)=0:=by
    split
    ·rename_i q;rw [if_pos (hok q)]
    ·rfl
   rw [hres];simp -implicitDefEqProofs []
  ·rw [if_pos h34,if_neg (by rw [hok];decide)];simp -implicitDefEqProofs [f4]
 ·rw [if_pos (by simpa using he)];have be:(er==0)=false:=by simpa using he
  simp -implicitDefEqProofs [kJ,hf,hC,bne,be]
theorem zcc (L:az)(h:O)(k t c:Int)(b:List Int)(hb:ce b)(hl:b.length < 100000000):aa ah L kF [.agg [Ii k,Ii t,Ii c,.vsl false (eI .u8 b)]] h=some (.bool (Cs k t c b),h):=by
 rw [BV];have hC:∀ L h,aa ah L dJ [.agg [Ii k,Ii t,Ii c,.str ⟨#[]⟩]] h=some (Ii (ckO k t c),h):=fun L h=>J5 L h (itO k t c);have hN:=fun L h=>Ka L h t false b (by omega);have hK:=fun L h=>QL L h t false b hb hl;have hfz:∀ h,oL h (.agg [Ii k,Ii t,Ii c,.vsl false (eI .u8 b)])=some (.agg [Ii k,Ii t,Ii c,.vsl false (eI .u8 b)],false):=fun h=>H8 h k t c b _ (by simp) rfl;have hbo:lx (.agg [Ii k,Ii t,Ii c,.vsl false (eI .u8 b)])=some (.vptr [Ii k,Ii t,Ii c,.vsl false (eI .u8 b)] 0):=rfl;have hlen:(eI .u8 b).length=b.length:=by simp
 have hce:¬(iT t b.length).2=0->¬uP t b=0:=fun q=>by unfold uP;rw [if_pos q];exact q
 unfold Cs;generalize uP t b=e,iT t b.length=q,ckO k t c=ck at*;obtain ⟨n,er⟩:=q;simp only at hN hce |-;by_cases h0:ck=0
 ·have b0:(ck==0)=true:=by simp [h0]
  rw [if_pos h0];by_cases h1:k=1
  ·have b1:(k==1)=true:=by simp [h1]
   rw [if_pos h1];by_cases her:er=0
   ·subst her;by_cases h2:(n:Int)=c
    ·have b2:((n:Int)==c)=true:=by simp [h2]
     have b3:(e==0)=decide (e=0):=by rw [Bool.eq_iff_iff];simp
     simp -implicitDefEqProofs [dN,V,hfz,hbo,ak,setAt,J.cells,J.okV,hC,hN,hK,bne,b0,b1,b2,b3,h2]
    ·have b2:((n:Int)==c)=false:=by simpa using h2
     simp -implicitDefEqProofs [dN,V,hfz,hbo,ak,setAt,J.cells,J.okV,hC,hN,hK,bne,b0,b1,b2,h2]
   ·have be:=hce her;have b3:(er==0)=false:=by simpa using her
    simp -implicitDefEqProofs [dN,V,hfz,hbo,ak,setAt,J.cells,J.okV,hC,hN,hK,bne,b0,b1,b3,be]
  ·have b1:(k==1)=false:=by simpa using h1
   rw [if_neg h1];have b2:((b.length:Int)==0)=decide (b.length=0):=by rw [Bool.eq_iff_iff];simp
   generalize eI .u8 b=eb at*;simp -implicitDefEqProofs [dN,V,hfz,hbo,ak,setAt,J.cells,J.okV,hC,bne,b0,b1,hlen,b2]
 ·have b0:(ck==0)=false:=by simpa using h0
  rw [if_neg h0];simp -implicitDefEqProofs [dN,V,hfz,hbo,ak,setAt,J.cells,J.okV,hC,bne,b0]
theorem zjH (L:az)(h:O)(k t c:Int)(b:List Int)(d:J)(hd:∀ h,oL h d=some (.vsl false (eI .u8 b),false))(hf:d.flat=false)(hb:ce b)(hl:b.length < 100000000):
  aa ah L jp [.agg [Ii k,Ii t,Ii c,d]] h=some (.vsl false (eI .u8 (im k t c b)),h):=by
 rw [yU];have hfz:=fun h=>H8 h k t c b d (hd h) hf;have hbo:lx (.agg [Ii k,Ii t,Ii c,.vsl false (eI .u8 b)])=some (.vptr [Ii k,Ii t,Ii c,.vsl false (eI .u8 b)] 0):=rfl;have hR:=fun L h=>zcc L h k t c b hb hl;have hck : Cs k t c b = true -> ckO k t c = 0 := fun q => by
  unfold Cs at q;split at q
  ·assumption
  ·simp at q
 unfold im
 cases hr:Cs k t c b with
 | true=>
  rw [hr] at hR;rw [if_pos rfl];obtain ⟨c1,c2,c3,c4,c5,c6,c7⟩:=uw (hck hr);simp only [itO] at c1 c2 c3 c4 c5 c6;have hlb:(eI .u8 b).length=b.length:=by simp
  simp -implicitDefEqProofs [jo,V,hfz,hbo,hR,Z,UJ,fx,yw,le,Cm,am,show 6+b.length < 274877906944 by omega,show 0<=k by omega,show 0<=t by omega,show 0<=c by omega,show k < 9223372036854775808 by omega,show t < 9223372036854775808 by omega,show c < 9223372036854775808 by omega]
 | false=>
  rw [hr] at hR;simp -implicitDefEqProofs [jo,V,hfz,hbo,hR,Z]
theorem zg0 {b:List Int}{i:Nat}(h:i < b.length):bx (b.drop i)=(gd b 0 i).toNat+256*bx (b.drop (i+1)):=by
 rw [List.drop_eq_getElem_cons h];have:gd b 0 i=b[i]:=by simp [gd,List.getD,h]
 rw [this];simp only [bx]
def n6 (b:List Int):Nat:=bx ((b.drop 6).take 2)
def itD (b:List Int):It:=⟨gd b 0 0,gd b 0 1,bx ((b.drop 2).take 4),byA ((b.drop 8).take (n6 b))⟩
theorem wU {r:Rd}(h:r.s=true)(n:Nat):(Md r n).s=true:=by unfold Md;split <;> simp [h]
theorem EF {r:Rd}{n:Nat}(h:r.b.length < n):(Md r n).s=true:=by unfold Md;rw [if_pos h]
theorem rG {b:List Int}{n:Nat}(h:n<=b.length):Md ⟨b,false⟩ n=⟨b.drop n,false⟩:=by unfold Md;rw [if_neg (by simp only;omega)]
theorem EI {b:List Int}{n:Nat}(h:n<=b.length):Pv ⟨b,false⟩ n=b.take n:=by unfold Pv;rw [if_neg (by simp only;omega)]
theorem take_one {b:List Int}(h:0 < b.length):b.take 1=[gd b 0 0]:=by
 cases b with
 | nil=>simp at h
 | cons x b=>rfl
theorem zg7 {b:List Int}(h:b.length < 8):(M6 b).s=true:=by
 unfold M6;refine wU ?_ _;by_cases h1:b.length < 1
 ·have:(Sc b).s=true:=EF h1;exact wU (wU (wU this _) _) _
 ·have e1:Sc b=⟨b.drop 1,false⟩:=rG (by omega);by_cases h2:b.length < 2
  ·have:(Pj b).s=true:=by unfold Pj;rw [e1];exact EF (by simp;omega)
   exact wU (wU this _) _
  ·have e2:Pj b=⟨b.drop 2,false⟩:=by unfold Pj;rw [e1,rG (by simp;omega),List.drop_drop]
   by_cases h3:b.length < 6
   ·have:(Pk b).s=true:=by unfold Pk;rw [e2];exact EF (by simp;omega)
    exact wU this _
   ·have e3:Pk b=⟨b.drop 6,false⟩:=by unfold Pk;rw [e2,rG (by simp;omega),List.drop_drop]
    unfold Sd;rw [e3];exact EF (by simp;omega)
theorem zaK {b:List Int}(hb:ce b){i:Nat}(h:i < b.length):((gd b 0 i).toNat:Int)=gd b 0 i:=by have:=hb i h;omega
theorem zkF {b:List Int}(hb:ce b)(h:8<=b.length):Il b=n6 b/\(M6 b).s=decide (b.length < 8+n6 b)/\(8+n6 b<=b.length->dIt b=itD b/\(M6 b).b=b.drop (8+n6 b)):=by
 have e1:Sc b=⟨b.drop 1,false⟩:=rG (by omega);have e2:Pj b=⟨b.drop 2,false⟩:=by unfold Pj;rw [e1,rG (by simp;omega),List.drop_drop]
 have e3:Pk b=⟨b.drop 6,false⟩:=by unfold Pk;rw [e2,rG (by simp;omega),List.drop_drop]
 have e4:Sd b=⟨b.drop 8,false⟩:=by unfold Sd;rw [e3,rG (by simp;omega),List.drop_drop]
 have hd:Il b=n6 b:=by unfold Il n6;rw [e3,EI (by simp;omega)]
 refine ⟨hd,?_,fun hn=>?_⟩
 ·unfold M6;rw [e4,hd];by_cases hl:b.length < 8+n6 b
  ·rw [EF (by simp;omega),decide_eq_true hl]
  ·rw [rG (by simp;omega),decide_eq_false hl]
 ·constructor
  ·unfold dIt itD;rw [hd,e4,e2,e1,EI (by omega),EI (b:=b.drop 1) (by simp;omega),EI (b:=b.drop 2) (by simp;omega),EI (b:=b.drop 8) (by simp;omega),take_one (by omega),take_one (b:=b.drop 1) (by simp;omega)];have g1:gd (b.drop 1) 0 0=gd b 0 1:=by simp [gd,List.getD]
   have l1:∀ x:Int,bx [x]=x.toNat:=fun x=>by simp [bx]
   rw [g1,l1,l1,zaK hb (by omega),zaK hb (by omega)]
  ·unfold M6;rw [e4,hd,rG (by simp;omega),List.drop_drop]
theorem zha {b:List Int}(hb:ce b):rS b=if b.length < 8\/b.length < 8+n6 b then (zIt,[],2) else if chk (itD b)=0 then (itD b,b.drop (8+n6 b),0) else (zIt,[],chk (itD b)):=by
 unfold rS;by_cases h8:b.length < 8
 ·rw [if_pos (zg7 h8),if_pos (.inl h8)]
 ·obtain ⟨-,h2,h3⟩:=zkF hb (by omega:8<=b.length);rw [h2];by_cases hl:b.length < 8+n6 b
  ·rw [if_pos (by simpa using hl),if_pos (.inr hl)]
  ·rw [if_neg (by simpa using hl),(h3 (by omega)).1,(h3 (by omega)).2,if_neg (show ¬(b.length < 8\/b.length < 8+n6 b) by omega)]
theorem zhc {fr:Fr}{h:O}{R:Option (cL × Fr × O)}(b:List Int)(hb:ce b)(hl:b.length<=7)
  (hF:run ah (V h) (.loop m6) fr (hx h [] [])=R)
  (h0:fr 0=.vsl false (eI .u8 b)) (h3:fr 3=Ii 0) (h4:fr 4=Ii ((b.length:Int) - 1)):
  ∃ fr',R=some (.exit 0,fr',hx h [] [])/\fr' 3=Ii (bx b:Int):=by
 obtain ⟨e,fr',h',rfl,⟨rfl,rfl,g3⟩,hk⟩:=af hF b.length
  (fun k fr hh=>hh=hx h [] []/\∃ m,m+k=b.length/\fr 4=Ii ((m:Int) - 1)/\fr 3=Ii (bx (b.drop m):Int))
  (fun e fr hh=>e=.exit 0/\hh=hx h [] []/\fr 3=Ii (bx b:Int))
  ⟨rfl, b.length, rfl, h4, by rw [List.drop_eq_nil_of_le (Nat.le_refl _)]; exact h3⟩ (by
   rintro k fr1 hh hkN hkeep ⟨rfl,m,hm,g4,g3⟩;have g0:=kp hkeep h0
   cases m with
   | zero=>
    rw [List.drop_zero] at g3;have hlt:¬((0:Nat):Int) - 1>=0:=by omega
    simp -implicitDefEqProofs [m6,g4,g3]
   | succ i=>
    rw [show (((i+1:Nat):Int) - 1)=(i:Int) by omega] at g4;have hi:i < b.length:=by omega
    have ia:=pI .u8 .i64 false b i (decide_eq_true hi);have hd:=zg0 hi;have hb256:=hb i hi;have hbound:bx (b.drop (i+1)) < 256 ^ 6:=Nat.lt_of_lt_of_le (yX (pB hb _)) (Nat.pow_le_pow_right (by decide) (by simp;omega));obtain ⟨x,hx⟩:∃ x:Nat,gd b 0 i=(x:Int):=⟨(gd b 0 i).toNat,by omega⟩;rw [hx] at ia hd hb256;rw [Int.toNat_natCast] at hd;generalize bx (b.drop (i+1))=q at*;have w1:Wr ((q:Int)*256)=((256*q:Nat):Int):=wy;have w2:Wr (x:Int)=(x:Int):=wz;have w3:Wr (((256*q:Nat):Int)+(x:Int))=((x+256*q:Nat):Int):=wy;have w4:Wr ((i:Int) - 1)=(i:Int) - 1:=wz;have hge:(0:Int)<=(i:Int):=by omega
    rw [<- hd] at w3;generalize hq2:bx (b.drop i)=q2 at*;generalize ((256*q:Nat):Int)=y at*;simp -implicitDefEqProofs [m6,g0,g3,g4,ia,w1,w2,w3,w4,hge];exact ⟨by omega,i,by omega,rfl,by rw [hq2]⟩)
 exact ⟨fr',rfl,g3⟩
theorem zhd (L:az)(h:O)(c:Bool)(b:List Int)(hb:ce b)(hl:b.length<=7):
  aa ah L iO [.vsl c (eI .u8 b)] h=some (Ii (bx b:Int),h):=by
 rw [F8];have hf:=fR h c (eI .u8 b);have w1:Wr ((b.length:Int) - 1)=(b.length:Int) - 1:=wz;simp -implicitDefEqProofs [sR,hf,w1];generalize hF:run ah _ (.loop _) _ _=R;obtain ⟨fr1,rfl,f3⟩:=zhc b hb hl hF (by simp) (by simp) (by simp);simp -implicitDefEqProofs [f3]
theorem YU (L:az)(h:O)(c:Bool)(b:List Int)(hb:ce b)(hl:b.length < 1000000000):
  aa ah L jR [.vsl c (eI .u8 b)] h=some (.tup [.agg (rS b).1.cells,.vsl false (eI .u8 (rS b).2.1),Ii (rS b).2.2],h):=by
 rw [zO,zha hb];have hf:=fR h c (eI .u8 b);have hzc:zIt.cells=[Ii 0,Ii 0,Ii 0,.str ⟨#[]⟩]:=rfl;have hlb:(eI .u8 b).length=b.length:=by simp
 by_cases h8:b.length < 8
 ·rw [if_pos (.inl h8)];have hlt:(b.length:Int) < 8:=by omega
  simp -implicitDefEqProofs [eo,V,hf,hlb,hlt,ak,setAt,Z,aq,ab,hzc,mY,aZ,J.flat]
 ·have h8':¬(b.length:Int) < 8:=by omega
  have s68:eP .slc 1 (.vsl false (eI .u8 b)) (some (Ii 6)) (some (Ii 8)) none=some (.vsl false (eI .u8 ((b.drop 6).take 2))):=JD false b 6 2 8 rfl (by omega);have s26:eP .slc 1 (.vsl false (eI .u8 b)) (some (Ii 2)) (some (Ii 6)) none=some (.vsl false (eI .u8 ((b.drop 2).take 4))):=JD false b 2 4 6 rfl (by omega);have o68:=fun L h=>zhd L h false ((b.drop 6).take 2) (mg (pB hb _) _) (by simp;omega);have o26:=fun L h=>zhd L h false ((b.drop 2).take 4) (mg (pB hb _) _) (by simp;omega);rw [show bx ((b.drop 6).take 2)=n6 b from rfl] at o68;have hn6:n6 b < 256 ^ 2:=Nat.lt_of_lt_of_le (yX (mg (pB hb 6) 2)) (Nat.pow_le_pow_right (by decide) (by simp;omega));have w8:Wr (8+(n6 b:Int))=((8+n6 b:Nat):Int):=wy;by_cases hl8:b.length < 8+n6 b
  ·rw [if_pos (.inr hl8)];have hlt:(b.length:Int) < ((8+n6 b:Nat):Int):=by omega
   generalize ((8+n6 b:Nat):Int)=E at*;generalize eI .u8 ((b.drop 6).take 2)=q68 at*;simp -implicitDefEqProofs [eo,V,hf,hlb,h8',s68,o68,w8,hlt,ak,setAt,Z,aq,ab,hzc,mY,aZ,J.flat]
  ·rw [if_neg (by omega)];have hlt:¬(b.length:Int) < ((8+n6 b:Nat):Int):=by omega
   have s8e:eP .slc 1 (.vsl false (eI .u8 b)) (some (Ii 8)) (some (Ii ((8+n6 b:Nat):Int))) none=some (.vsl false (eI .u8 ((b.drop 8).take (n6 b)))):=JD false b 8 (n6 b) (8+n6 b) rfl (by omega);have sdr:=OZ .u8 .i64 b (8+n6 b) (by omega);have ia0:bA none 1 (.vsl false (eI .u8 b)) (Ii 0)=some (.vptr [.int .u8 (gd b 0 0)] 0):=pI .u8 .i64 false b 0 (decide_eq_true (by omega));have ia1:bA none 1 (.vsl false (eI .u8 b)) (Ii 1)=some (.vptr [.int .u8 (gd b 0 1)] 0):=pI .u8 .i64 false b 1 (decide_eq_true (by omega));have hb0:=hb 0 (by omega);have hb1:=hb 1 (by omega);have wi0:Wr (gd b 0 0)=gd b 0 0:=wz;have wi1:Wr (gd b 0 1)=gd b 0 1:=wz;have hK:=fun L h=>J5 L h (itD b);have hic:(itD b).cells=[Ii (gd b 0 0),Ii (gd b 0 1),Ii (bx ((b.drop 2).take 4):Int),.str (byA ((b.drop 8).take (n6 b)))]:=rfl;have hb2s:=fun h=>WK h false ((b.drop 8).take (n6 b));by_cases hck:chk (itD b)=0
   ·rw [if_pos hck];simp only;rw [hic] at hK |-;rw [hck] at hK;generalize gd b 0 1=b1,gd b 0 0=b0,eI .u8 ((b.drop 6).take 2)=q68,((8+n6 b:Nat):Int)=E,b.drop (8+n6 b)=rest,eI .u8 ((b.drop 2).take 4)=q26,(bx ((b.drop 2).take 4):Int)=ct,eI .u8 ((b.drop 8).take (n6 b))=q8e,byA ((b.drop 8).take (n6 b))=lb at*;simp -implicitDefEqProofs [eo,V,hf,hlb,h8',s68,o68,w8,hlt,s8e,sdr,ia0,ia1,wi0,wi1,s26,o26,hb2s,hK,bne,ak,setAt,Z,aq,ab,J.cells,J.okV,hzc,hic,mY,aZ,J.flat]
   ·rw [if_neg hck];simp only;rw [hic] at hK;have hcb:(chk (itD b)==0)=false:=beq_false_of_ne hck;generalize gd b 0 1=b1,gd b 0 0=b0,eI .u8 ((b.drop 6).take 2)=q68,((8+n6 b:Nat):Int)=E,b.drop (8+n6 b)=rest,eI .u8 ((b.drop 2).take 4)=q26,(bx ((b.drop 2).take 4):Int)=ct,eI .u8 ((b.drop 8).take (n6 b))=q8e,byA ((b.drop 8).take (n6 b))=lb,chk (itD b)=ck at*;simp -implicitDefEqProofs [eo,V,hf,hlb,h8',s68,o68,w8,hlt,s8e,sdr,ia0,ia1,wi0,wi1,s26,o26,hb2s,hK,bne,hcb,ak,setAt,Z,aq,ab,J.cells,J.okV,hzc,mY,aZ,J.flat]
theorem V4 {fr:Fr}{h:O}{R:Option (cL × Fr × O)}(hF:run ah (V h) (.loop eD) fr (hx h [] [])=R)(b0:List Int)(hb0:ce b0)(hl0:b0.length < 1000000000)
  (h0:fr 0=.vsl false (eI .u8 b0)) (h5:fr 5=.vsl true []):
  ∃ e fr' bs ts,R=some (e,fr',hx h bs ts)/\(e=.exit 0/\fr' 5=gL (.vsl true []) h.toks.length 0 ((bp b0).1.map It.cells)/\(bp b0).2=(-1,0)\/e=.ret/\fr' 2=.nsl/\(bp b0).1=[]/\fr' 3=Ii (bp b0).2.1/\fr' 4=Ii (bp b0).2.2):=by
 obtain ⟨e,fr',h',rfl,⟨⟨bs,ts,rfl⟩,hp⟩,hk⟩:=af hF 1024
  (fun k fr hh=>∃ b acc bs,fr 0=.vsl false (eI .u8 b)/\ce b/\b.length < 1000000000/\fr 5=gL (.vsl true []) h.toks.length 0 (acc.map It.cells)/\hh=hx h bs (gT (acc.map It.cells))/\acc.length=k/\bp b0=DN (1026 - k) b k acc)
  (fun e fr hh=>(∃ bs ts,hh=hx h bs ts)/\(e=.exit 0/\fr 5=gL (.vsl true []) h.toks.length 0 ((bp b0).1.map It.cells)/\(bp b0).2=(-1,0)\/e=.ret/\fr 2=.nsl/\(bp b0).1=[]/\fr 3=Ii (bp b0).2.1/\fr 4=Ii (bp b0).2.2))
  ⟨b0, [], [], h0, hb0, hl0, by simpa [gL] using h5, by simp [gT], rfl, rfl⟩ (by
   rintro k fr1 hh hkN hkeep ⟨b,acc,bs,g0,hb,hl,g5,rfl,hak,hpar⟩;obtain ⟨f,hf⟩:∃ f,1026 - k=f+1:=⟨1026 - k - 1,by omega⟩;rw [hf,DN] at hpar;by_cases hnil:b=[]
   ·rw [if_pos hnil] at hpar;subst hnil;simp only [Zz] at g0;rw [hpar];simp [eD,g0,g5];exact ⟨_,_,rfl⟩
   ·rw [if_neg hnil] at hpar;have hpos:0 < b.length:=List.length_pos_iff.2 hnil;have hlen:Cg (gL (.vsl true []) h.toks.length 0 (acc.map It.cells))=some k:=by
     unfold gL;split
     ·rename_i e;simp at e;subst e;simp at hak;subst hak;rfl
     ·simp [hak]
    by_cases hk:k=1024
    ·rw [if_pos hk] at hpar;rw [hpar];have bk:((k:Int)==1024)=true:=by simp;omega
     simp [eD,g0,g5,hlen,hpos,bk];exact ⟨_,_,rfl⟩
    ·rw [if_neg hk] at hpar;have bk:((k:Int)==1024)=false:=by simp;omega
     have hD:=fun L h=>YU L h false b hb hl;obtain ⟨hr1,hr2⟩:=QH b hb;generalize rS b=D at*;obtain ⟨x,rest,er⟩:=D;simp only at hD hr1 hr2 hpar;by_cases he:er=0
     ·rw [if_pos he] at hpar;have be:(er==0)=true:=by simp [he]
      have hxc:x.cells.length=4:=rfl;have hsz:=NX acc;have hx1:cS 4 [x.cells]=true:=rfl;have hmp:(acc++[x]).map It.cells=acc.map It.cells++[x.cells]:=by simp
      have hfil:ak (rep [J.int .i64 0,Ii 0,Ii 0,.str ⟨#[]⟩] 1) [(0,4,.agg x.cells)]=some x.cells:=rfl;have hchk:chunks 4 1 x.cells=[x.cells]:=rfl;have hpt:eL true x.cells 0 4=some (.agg x.cells):=rfl;have hap:=fun bs=>yx (V h) h bs 4 true (acc.map It.cells) [x.cells] (by simp [V,hsz,hx1,am,hak];omega);simp only [V] at hap;generalize It.cells x=xc at*;simp -implicitDefEqProofs [eD,V,g0,g5,hlen,hpos,bk,hD,bne,be,Z,aq,ab,hxc,hfil,hchk,hap];exact ⟨by omega,rest,rfl,hr1,by omega,acc++[x],by rw [hmp],⟨_,by rw [hmp]⟩,by simp [hak],by rw [hpar,show 1025 - k=f by omega]⟩
     ·rw [if_neg he] at hpar;have be:(er==0)=false:=by simpa using he
      rw [hpar];have hxc:x.cells.length=4:=rfl;generalize It.cells x=xc at*;simp -implicitDefEqProofs [eD,V,g0,g5,hlen,hpos,bk,hD,bne,be,Z,aq,ab,hxc];exact ⟨_,_,rfl⟩)
 exact ⟨e,fr',bs,ts,rfl,hp⟩
theorem zdp (L:az)(h:O)(c:Bool)(b:List Int)(hb:ce b)(hl:b.length < 1000000000):
  aa ah L kP [.vsl c (eI .u8 b)] h=some (.tup [.vsl false ((bp b).1.map It.cells),Ii (bp b).2.1,Ii (bp b).2.2],h):=by
 rw [AM];have hf:=fR h c (eI .u8 b);simp [oV,hf,ak,rep,chunks];generalize hF:run ah _ (.loop _) _ _=R;obtain ⟨e,fr',bs,ts,rfl,⟨rfl,h5,h6⟩ | ⟨rfl,h2,h3,h4,h5⟩⟩:=V4 hF b hb hl (by simp) (by simp)
 ·have hfz:=fun hh n=>pe (h1:=hh) (nb:=h.blks.length) (nt:=h.toks.length) (n:=n) (s:=.vsl true []) (.inr rfl) (nQ h.blks.length h.toks.length (bp b).1);rw [h6];simp -implicitDefEqProofs [h5,hfz]
 ·rw [h3];simp [h2,h4,h5]
def yZ (g:Gd):List J:=[.vsl false (g.l.map It.cells),Ii g.k,Ii g.e]
theorem Tl (h:O)(g:Gd):oL h (.agg (yZ g))=some (.agg (yZ g),false):=by
 simp [oL,aZ,J.flat,yZ]
theorem Mu (hh:O)(nb nt m:Nat)(g:Gd):frz hh nb nt (m+2) (.agg (yZ g))=some (.agg (yZ g)):=by
 have hfl:aZ (yZ g)=false:=by simp [yZ,aZ,J.flat]
 have hg:frz hh nb nt (m+2) (.agg (yZ g))=((yZ g).mapM (frz hh nb nt (m+1))).map .agg:=by
  rw [frz.eq_def];simp only [hfl];rfl
 have fi:∀ a:Int,frz hh nb nt (m+1) (Ii a)=some (Ii a):=fun a=>by rw [frz.eq_def]
 have fv:=ix (h:=hh) (nb:=nb) (nt:=nt) (n:=m) false (nQ nb nt g.l);rw [hg];simp only [yZ,List.mapM_cons,List.mapM_nil,fv,fi];rfl
theorem zds {g:Gd}{k t c:Int}(he:g.e=0)(h:eU g k t c=true):al g k t c=⟨g.l,g.k+1,0⟩:=by
 unfold al aK;rw [h];simp [he]
theorem FF {g:Gd}{k t c:Int}(he:g.e=0)(h:eU g k t c=false):al g k t c=⟨g.l,g.k,10⟩:=by
 unfold al aK;rw [h];simp [he]
theorem Y0 {g:Gd}{k t c:Int}(he:¬g.e=0):al g k t c=g:=by
 unfold al aK;simp [he]
theorem zhq (L:az)(h:O)(g:Gd)(k t c:Int)(hk:g.k < 1000000000):
  aa ah L lF [.agg (yZ g),Ii k,Ii t,Ii c] h=some (.tup [.agg (yZ (al g k t c)),Ii (al g k t c).e],h):=by
 rw [C5];have hf:=Tl h g;have hbox:lx (.agg (yZ g))=some (.vptr (yZ g) 0):=rfl;have hfr:=fun hh nb nt m g=>Mu hh nb nt m g;by_cases he:g.e=0
 ·have be:(g.e==0)=true:=by simp [he]
  by_cases hlt:g.k < g.l.length
  ·have hltI:¬((g.k:Int)>=(g.l.length:Int)):=by omega
   have ia:=NP .i64 false g.l g.k hlt;have hn:eU g k t c=Hz (gd g.l ⟨0,0,0,⟨#[]⟩⟩ g.k) ⟨k,t,c,⟨#[]⟩⟩:=by unfold eU;rw [decide_eq_true hlt];rfl
   have w1:Wr ((g.k:Int)+1)=((g.k+1:Nat):Int):=wy;unfold Hz at hn;generalize gd g.l ⟨0,0,0,⟨#[]⟩⟩ g.k=y at*;have yc:y.cells=[Ii y.kind,Ii y.typ,Ii y.count,.str y.label]:=rfl;rw [yc] at ia;have hle:¬(g.l.length:Int)<=(g.k:Int):=by omega
   have hlk:(g.l.map It.cells).length=g.l.length:=by simp
   by_cases h1:y.kind=k
   ·have b1:(y.kind==k)=true:=by simp [h1]
    by_cases h2:y.typ=t
    ·have b2:(y.typ==t)=true:=by simp [h2]
     by_cases h3:y.count=c
     ·have b3:(y.count==c)=true:=by simp [h3]
      rw [b1,b2,b3] at hn;rw [zds he (by rw [hn];rfl)];have hfr2:=fun hh nb nt m=>hfr hh nb nt m ⟨g.l,g.k+1,0⟩;obtain ⟨l,k0,e0⟩:=g;simp only at*;subst he;simp only [yZ] at*;generalize ((k0+1:Nat):Int)=k1 at*;simp -implicitDefEqProofs [dh,V,hf,hbox,Z,aq,ab,setAt,J.cells,J.okV,be,bne,hlk,hle,ia,b1,b2,b3,w1,hfr2,aE,ap]
     ·have b3:(y.count==c)=false:=by simpa using h3
      rw [b1,b2,b3] at hn;rw [FF he (by rw [hn];rfl)];have hfr2:=fun hh nb nt m=>hfr hh nb nt m ⟨g.l,g.k,10⟩;obtain ⟨l,k0,e0⟩:=g;simp only at*;subst he;simp only [yZ] at*;simp -implicitDefEqProofs [dh,V,hf,hbox,Z,aq,ab,setAt,J.cells,J.okV,be,bne,hlk,hle,ia,b1,b2,b3,hfr2,aE,ap]
    ·have b2:(y.typ==t)=false:=by simpa using h2
     rw [b1,b2] at hn;rw [FF he (by rw [hn];rfl)];have hfr2:=fun hh nb nt m=>hfr hh nb nt m ⟨g.l,g.k,10⟩;obtain ⟨l,k0,e0⟩:=g;simp only at*;subst he;simp only [yZ] at*;simp -implicitDefEqProofs [dh,V,hf,hbox,Z,aq,ab,setAt,J.cells,J.okV,be,bne,hlk,hle,ia,b1,b2,hfr2,aE,ap]
   ·have b1:(y.kind==k)=false:=by simpa using h1
    rw [b1] at hn;rw [FF he (by rw [hn];rfl)];have hfr2:=fun hh nb nt m=>hfr hh nb nt m ⟨g.l,g.k,10⟩;obtain ⟨l,k0,e0⟩:=g;simp only at*;subst he;simp only [yZ] at*;simp -implicitDefEqProofs [dh,V,hf,hbox,Z,aq,ab,setAt,J.cells,J.okV,be,bne,hlk,hle,ia,b1,hfr2,aE,ap]
  ·have hn:eU g k t c=false:=by unfold eU;rw [decide_eq_false hlt];rfl
   have hle:(g.l.length:Int)<=(g.k:Int):=by omega
   have hlk:(g.l.map It.cells).length=g.l.length:=by simp
   rw [FF he hn];have hfr2:=fun hh nb nt m=>hfr hh nb nt m ⟨g.l,g.k,10⟩;obtain ⟨l,k0,e0⟩:=g;simp only at*;subst he;simp only [yZ] at*;simp -implicitDefEqProofs [dh,V,hf,hbox,Z,aq,ab,setAt,J.cells,J.okV,be,bne,hlk,hle,hfr2,aE,ap]
 ·have be:(g.e==0)=false:=by simpa using he
  rw [Y0 he];have hfr2:=fun hh nb nt m=>hfr hh nb nt m g;obtain ⟨l,k0,e0⟩:=g;simp only at*;simp only [yZ] at*;simp -implicitDefEqProofs [dh,V,hf,hbox,Z,aq,ab,setAt,J.cells,J.okV,be,bne,hfr2,aE,ap]
theorem zht (L:az)(h:O)(g:Gd)(e:Int):
  aa ah L lE [.agg (yZ g),Ii e] h=some (.tup [.agg (yZ (aK g e)),Ii (aK g e).e],h):=by
 rw [C4];have hf:=Tl h g;have hfr2:=fun hh nb nt m=>Mu hh nb nt m (aK g e);by_cases he:g.e=0
 ·have be:(g.e==0)=true:=by simp [he]
  have hd:aK g e=⟨g.l,g.k,e⟩:=by unfold aK;rw [if_pos he]
  rw [hd] at hfr2 |-;obtain ⟨l,k0,e0⟩:=g;simp only [yZ] at*;simp -implicitDefEqProofs [lC,V,hf,Z,aq,ab,setAt,J.cells,J.okV,be,hfr2,aE,ap]
 ·have be:(g.e==0)=false:=by simpa using he
  have hd:aK g e=g:=by unfold aK;rw [if_neg he]
  rw [hd] at hfr2 |-;obtain ⟨l,k0,e0⟩:=g;simp only [yZ] at*;simp -implicitDefEqProofs [lC,V,hf,Z,aq,ab,setAt,J.cells,J.okV,be,hfr2,aE,ap]
theorem Y2 (L:az)(h:O)(g:Gd)(hk:g.k<=g.l.length):
  aa ah L kf [.agg (yZ g)] h=some (.tup [.agg (yZ (me g)),Ii (me g).e],h):=by
 rw [zJ];have hf:=Tl h g;have hfr2:=fun hh nb nt m=>Mu hh nb nt m (me g);have hlk:(g.l.map It.cells).length=g.l.length:=by simp
 by_cases he:g.e=0
 ·have be:(g.e==0)=true:=by simp [he]
  by_cases hlt:g.k < g.l.length
  ·have hltI:(g.k:Int) < (g.l.length:Int):=by omega
   have hd:me g=⟨g.l,g.k,12⟩:=by unfold me aK;rw [if_pos he,if_neg (by omega)]
   rw [hd] at hfr2 |-;obtain ⟨l,k0,e0⟩:=g;simp only [yZ] at*;simp -implicitDefEqProofs [fV,V,hf,Z,aq,ab,setAt,J.cells,J.okV,be,hlk,hltI,hlt,hfr2,aE,ap]
  ·have hltI:¬(g.k:Int) < (g.l.length:Int):=by omega
   have hd:me g=g:=by
    unfold me aK;rw [if_pos he,if_pos (by omega)]
    cases g;simp only at he;subst he;rfl
   rw [hd] at hfr2 |-;obtain ⟨l,k0,e0⟩:=g;simp only [yZ] at*;simp -implicitDefEqProofs [fV,V,hf,Z,aq,ab,setAt,J.cells,J.okV,be,hlk,hltI,hlt,hfr2,aE,ap]
 ·have be:(g.e==0)=false:=by simpa using he
  have hd:me g=g:=by unfold me aK;rw [if_neg he]
  rw [hd] at hfr2 |-;obtain ⟨l,k0,e0⟩:=g;simp only [yZ] at*;simp -implicitDefEqProofs [fV,V,hf,Z,aq,ab,setAt,J.cells,J.okV,be,hfr2,aE,ap]
end Go.Av
