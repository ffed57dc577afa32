/- The document's operations, items, patterns and guard. -/
import Derived.Test.YtafkceblllhheaaGreatDoorC1
import Derived.Test.YtafkceblllhheaaGreatDoorC3
import Derived.Test.YtafkceblllhheaaGreatDoorCC
import Derived.Test.YtafkceblllhheaaGreatDoorC6
import Derived.Test.YtafkceblllhheaaGreatDoorC4
set_option linter.unusedSimpArgs false
set_option linter.unusedVariables false
set_option maxHeartbeats 2000000
set_option maxRecDepth 20000
namespace Go.Av
theorem JE (L:az)(h:O)(x:It):Z ah L dM [.agg x.cells] h=some (Ii (wc x),h):=by
 rw [AY];obtain ⟨k,t,c,lb⟩:=x;simp only [It.cells];by_cases hk:k < 1\/k > 3
 ·rw [U4 k t c lb hk];by_cases h1:k < 1
  ·simp [dQ,ar,h1]
  ·have h2:k > 3:=by omega
   simp [dQ,ar,h1,h2]
 ·have hk':k=1\/k=2\/k=3:=by omega
  have n1:¬k < 1:=by omega
  have n3:¬k > 3:=by omega
  have n3':¬3 < k:=by omega
  by_cases hb:k=1/\(t < 1\/t > 4)\/k=2/\t≠1/\t≠3\/k=3/\t≠0
  ·rw [Zt k t c lb hk' hb];rcases hk' with rfl | rfl | rfl
   ·by_cases h1:t < 1
    ·simp [dQ,ar,h1]
    ·have h2:t > 4:=by omega
     simp [dQ,ar,h1,h2]
   ·have h1:t≠1:=by omega
    have h2:t≠3:=by omega
    simp [dQ,ar,bne,beq_false_of_ne h1,beq_false_of_ne h2]
   ·have h1:t≠0:=by omega
    simp [dQ,ar,bne,beq_false_of_ne h1]
  ·rw [U2 k t c lb hk' hb];have hX:∀ X Y:Int,(if c < 1\/c > 1048576\/k=3/\c≠1 then X else Y)=if c < 1 then X else if c > 1048576 then X else if k=3/\c≠1 then X else Y:=by
    intro X Y;by_cases h1:c < 1 <;> by_cases h2:c > 1048576 <;> by_cases h3:k=3/\c≠1 <;> simp [h1,h2,h3]
   rw [hX];rcases hk' with rfl | rfl | rfl
   ·have h1:¬t < 1:=by omega
    have h2:¬t > 4:=by omega
    by_cases c1:c < 1
    ·simp [dQ,ar,h1,h2,c1]
    ·by_cases c2:c > 1048576
     ·simp [dQ,ar,h1,h2,c1,c2]
     ·by_cases c3:(lb.size:Int) > 255
      ·simp [dQ,ar,h1,h2,c1,c2,c3]
      ·simp [dQ,ar,h1,h2,c1,c2,c3]
   ·have ht:(t !=1&&t !=3)=false:=by
     by_cases e:t=1
     ·simp [e]
     ·have:t=3:=by omega
      simp [this]
    have ht1:t=1\/t=3:=by omega
    rcases ht1 with rfl | rfl
    all_goals
     by_cases c1:c < 1
     ·simp [dQ,ar,c1]
     ·by_cases c2:c > 1048576
      ·simp [dQ,ar,c1,c2]
      ·by_cases c3:(lb.size:Int) > 255
       ·simp [dQ,ar,c1,c2,c3]
       ·simp [dQ,ar,c1,c2,c3]
   ·have h0:t=0:=by omega
    subst h0;by_cases c1:c < 1
    ·simp [dQ,ar,c1]
    ·by_cases c2:c > 1048576
     ·simp [dQ,ar,c1,c2]
     ·by_cases c4:c=1
      ·subst c4;by_cases c3:(lb.size:Int) > 255
       ·simp [dQ,ar,c3]
       ·simp [dQ,ar,c3]
      ·simp [dQ,ar,c1,c2,bne,beq_false_of_ne c4,c4]
theorem zby {L:az}{fr:Fr}{h:O}{R:Option (dt × Fr × O)}(hF:run ah L (.loop jf) fr (hx h [] [])=R)(n m:Nat)(hm:m<=8)(hn:n < 9223372036854775808)(hL:L.rot<=h.toks.length)
  (h5:fr 5=.vsl true []) (h0:fr 0=Ii n) (h1:fr 1=Ii m) (h6:fr 6=Ii 0):
  ∃ fr',R=some (.exit 0,fr',hx h [] (gT (eI .u8 (le n m))))/\fr' 5=gL (.vsl true []) h.toks.length 0 (eI .u8 (le n m)):=by
 obtain ⟨e,fr',h',rfl,⟨rfl,rfl,h3'⟩,hk⟩:=af hF m
  (fun k fr hh=>fr 6=Ii k/\fr 0=Ii ((n / 256 ^ k:Nat):Int)/\fr 5=gL (.vsl true []) h.toks.length 0 (eI .u8 (le n k))/\hh=hx h [] (gT (eI .u8 (le n k))))
  (fun e fr hh=>e=.exit 0/\hh=hx h [] (gT (eI .u8 (le n m)))/\fr 5=gL (.vsl true []) h.toks.length 0 (eI .u8 (le n m)))
  ⟨h6, by simpa using h0, h5, rfl⟩ (by
   rintro k fr1 hh hkN hkeep ⟨g6,g0,g5,rfl⟩;have g1:=kp hkeep h1;by_cases hlt:k < m
   ·have w1:Wr ((k:Int)+1)=k+1:=wz;have hle:n / 256 ^ k<=n:=Nat.div_le_self _ _;have w2:(((n / 256 ^ k:Nat):Int)).tmod 256=((n / 256 ^ k % 256:Nat):Int):=rt (n / 256 ^ k) 256;have w3:(((n / 256 ^ k:Nat):Int)).tdiv 256=((n / 256 ^ (k+1):Nat):Int):=by
     rw [Nat.pow_succ,<- Nat.div_div_eq_div_mul];exact vS (n / 256 ^ k) 256
    have w4:IntKind.i64.wrap ((n / 256 ^ (k+1):Nat):Int)=((n / 256 ^ (k+1):Nat):Int):=eF _ (Nat.lt_of_le_of_lt (Nat.div_le_self _ _) hn);have w5:le n (k+1)=le n k++[IntKind.u8.wrap ((n / 256 ^ k % 256:Nat):Int)]:=by
     rw [le]
     congr 2
     rw [Int.fdiv_eq_ediv_of_nonneg _ (Int.pow_nonneg (by decide))];have e1:(n:Int) / 2 ^ (8*k)=((n / 256 ^ k:Nat):Int):=by
      rw [Int.natCast_ediv,Int.natCast_pow,Int.pow_mul];rfl
     rw [e1];unfold IntKind.wrap;simp [IntKind.signed,IntKind.bits]
    generalize n / 256 ^ k % 256=d at*;generalize n / 256 ^ k=q at*;generalize hq1:n / 256 ^ (k+1)=q1 at*;simp [jf,g6,g0,g1,g5,hlt,w1,w2,w3,w4,w5,bQ,eN,al,rep,J.cells,J.okV,chunks,fq,ER,ao,hL,show k+1 < 274877906944 by omega];rw [<- hq1,Int.natCast_ediv,Int.natCast_pow];rfl
   ·have:k=m:=by omega
    subst this;simp [jf,g6,g0,g1,g5])
 exact ⟨fr',rfl,h3'⟩
theorem zh6 (L:az)(h:O)(bs:List (List J))(ts:List Nat)(n m:Nat)(hc:(decide (0 < m)&&decide (m<=8)&&decide (n < 9223372036854775808))=true):
  Z ah L aW [Ii (n:Int),Ii (m:Int)] (hx h bs ts)=some (gA h.toks.length ts.length (eI .u8 (le n m)),hx h bs (ts++[m])):=by
 simp only [Bool.and_eq_true,decide_eq_true_eq] at hc;rw [zp];have h0:¬m=0:=by omega
 have hne:eI .u8 (le n m)≠[]:=fun e=>by have:=congrArg List.length e;simp at this;omega
 generalize hH:hx h bs ts=H;simp [nr,rep,chunks,al];generalize hF:run ah _ (.loop _) _ _=R;obtain ⟨fr',rfl,h3⟩:=zby hF n m (by omega) (by omega) (by simp [V]) (by simp) (by simp) (by simp) (by simp);simp [h3,gL,hne,gT,zcE];subst hH;simp [gA,Y2,aA]
theorem Uv (L:az)(h:O)(bs:List (List J))(ts:List Nat)(n m:Int)(hc:(decide (0<=n)&&decide (0 < m)&&decide (m<=8)&&decide (n < 9223372036854775808))=true):
  Z ah L aW [Ii n,Ii m] (hx h bs ts)=some (gA h.toks.length ts.length (eI .u8 (le n m.toNat)),hx h bs (ts++[m.toNat])):=by
 simp only [Bool.and_eq_true,decide_eq_true_eq] at hc;obtain ⟨k,rfl⟩:∃ k:Nat,m=k:=⟨m.toNat,by omega⟩;obtain ⟨j,rfl⟩:∃ j:Nat,n=j:=⟨n.toNat,by omega⟩;exact zh6 L h bs ts j k (by simp only [Bool.and_eq_true,decide_eq_true_eq];omega)
theorem MJ (L:az)(h:O)(x:It):Z ah L jW [.agg x.cells] h=
  some (if wc x=0 then .tup [.vsl false (eI .u8 (JS x)),Ii 0] else .tup [.vsl false [],Ii (wc x)],h):=by
 rw [zd];have e:bC [J.int .i64 x.kind,Ii x.typ,Ii x.count,.str x.label]=true:=rfl;have hck:=JE;simp only [It.cells] at hck |-;by_cases h0:wc x=0
 ·have b0:(wc x==0)=true:=by simp [h0]
  obtain ⟨c1,c2,c3,c4,c5,c6,c7⟩:=we h0;have hs:x.label.size < 1000000000:=by omega
  simp [dQ,jB,aa,hck,h0,Uv,V,fq,xC,le,A6,ao,show 8+x.label.size < 274877906944 by omega,JS,show 0<=x.kind by omega,show 0<=x.typ by omega,show 0<=x.count by omega,show x.kind < 9223372036854775808 by omega,show x.typ < 9223372036854775808 by omega,show x.count < 9223372036854775808 by omega,show (x.label.size:Int) < 9223372036854775808 by omega,show x.label.size < 9223372036854775808 by omega]
 ·have b0:(wc x==0)=false:=by simp [h0]
  simp [dQ,jB,aa,hck,bne,b0];exact fun e=>absurd e h0
theorem zbz {fr:Fr}{h:O}{R:Option (dt × Fr × O)}(l:List It)(hn:l.length<=2000)
  (hF:run ah (V h) (.loop cg) fr (hx h [] [])=R)
  (h5:fr 5=.vsl true []) (h0:fr 0=.vsl false (l.map It.cells)) (h6:fr 6=Ii 0):
  ∃ e fr' bs ts,R=some (e,fr',hx h bs ts)/\((e=.exit 0/\∃ out,fu l 0 []=(out, -1,0)/\fr' 5=gL (.vsl true []) h.toks.length 0 (eI .u8 out))\/(e=.ret/\fr' 2=.nsl/\(fu l 0 []).1=[]/\fr' 3=Ii (fu l 0 []).2.1/\fr' 4=Ii (fu l 0 []).2.2)):=by
 obtain ⟨e,fr',h',rfl,⟨⟨bs,ts,rfl⟩,hp⟩,hk⟩:=af hF l.length
  (fun k fr hh=>fr 6=Ii k/\∃ bs out,hh=hx h bs (gT (eI .u8 out))/\fr 5=gL (.vsl true []) h.toks.length 0 (eI .u8 out)/\fu l 0 []=fu (l.drop k) k out/\out.length<=k*1000008)
  (fun e fr hh=>(∃ bs ts,hh=hx h bs ts)/\((e=.exit 0/\∃ out,fu l 0 []=(out, -1,0)/\fr 5=gL (.vsl true []) h.toks.length 0 (eI .u8 out))\/(e=.ret/\fr 2=.nsl/\(fu l 0 []).1=[]/\fr 3=Ii (fu l 0 []).2.1/\fr 4=Ii (fu l 0 []).2.2)))
  ⟨h6, [], [], by simp [gT], by simpa [gL] using h5, by simp, by simp⟩ (by
   rintro k fr1 hh hkN hkeep ⟨g6,bs,out,rfl,g5,gs,go⟩;have g0:=kp hkeep h0;by_cases hlt:k < l.length
   ·have w1:Wr ((k:Int)+1)=k+1:=wz;have hget:l[k]?=some l[k]:=List.getElem?_eq_getElem hlt;rw [QB l k out hlt] at gs;by_cases h1024:k=1024
    ·rw [if_pos h1024] at gs;subst h1024;simp [cg,g6,g0,g5,hlt,show (1024:Int) < l.length by omega,bO,Ke,hget,aa,au,V,ae];exact ⟨⟨_,_,rfl⟩,by rw [gs],by rw [gs];rfl,by rw [gs]⟩
    ·rw [if_neg h1024] at gs;have b1024:((k:Int)==1024)=false:=beq_false_of_ne (by omega);by_cases hc:wc l[k]=0
     ·rw [if_pos hc] at gs;have hsz:=(we hc).2.2.2.2.2.2;have hroom:out.length+(8+l[k].label.size) < 274877906944:=by omega
      simp [cg,g6,g0,g5,hlt,show (k:Int) < l.length by omega,bO,Ke,hget,aa,au,V,ae,b1024,MJ,hc,ER,ao,hroom,w1];exact ⟨_,out++JS l[k],rfl,rfl,gs,by simp;omega⟩
     ·rw [if_neg hc] at gs;have bc:(wc l[k]==0)=false:=beq_false_of_ne hc;simp [cg,g6,g0,g5,hlt,show (k:Int) < l.length by omega,bO,Ke,hget,aa,au,V,ae,b1024,MJ,hc,bne,bc];exact ⟨⟨_,_,rfl⟩,by rw [gs],by rw [gs],by rw [gs]⟩
   ·have:k=l.length:=by omega
    subst this;simp [cg,g6,g0,g5];exact ⟨⟨_,_,rfl⟩,out,by rw [gs];simp [fu],rfl⟩)
 exact ⟨e,fr',bs,ts,rfl,hp⟩
theorem zh7 (L:az)(h:O)(l:List It)(hn:l.length<=2000):
  Z ah L gG [.vsl false (l.map It.cells)] h=some (.tup [.vsl false (eI .u8 (fu l 0 []).1),Ii (fu l 0 []).2.1,Ii (fu l 0 []).2.2],h):=by
 rw [vL];simp [kI, -List.map_take,rep,chunks,al];generalize hF:run ah _ (.loop _) _ _=R;obtain ⟨e,fr',bs,ts,rfl,⟨rfl,out,e1,e2⟩ | ⟨rfl,e1,e2,e3,e4⟩⟩:=zbz l hn hF (by simp) (by simp) (by simp)
 ·rw [e1];simp [e2,v6]
 ·rw [e2];simp [e1,e3,e4]
theorem Uy (L:az)(h:O)(t:Int):Z ah L dr [Ii t] h=some (Ii (iE t:Int),h):=by
 rw [CE];unfold iE;by_cases h1:t=1
 ·subst h1;simp [ef]
 ·have b1:(t==1)=false:=by simpa using h1
  rw [if_neg h1];by_cases h2:t=2
  ·subst h2;simp [ef]
  ·have b2:(t==2)=false:=by simpa using h2
   rw [if_neg h2];by_cases h3:t=3
   ·subst h3;simp [ef]
   ·have b3:(t==3)=false:=by simpa using h3
    rw [if_neg h3];by_cases h4:t=4
    ·subst h4;simp [ef]
    ·have b4:(t==4)=false:=by simpa using h4
     rw [if_neg h4];simp [ef,b1,b2,b3,b4]
theorem Ux (t:Int):iE t<=96:=by unfold iE;split <;> (try split) <;> (try split) <;> (try split) <;> omega
theorem JH (L:az)(h:O)(t:Int)(c:Bool)(b:List Int)(hl:b.length < 9223372036854775808):Z ah L fh [Ii t,.vsl c (eI .u8 b)] h=some (.tup [Ii ((j3 t b.length).1:Int),Ii (j3 t b.length).2],h):=by
 rw [AZ];have hS:=fun L h=>Uy L h t;have hf:=fw h c (eI .u8 b);unfold j3;have hlen:(eI .u8 b).length=b.length:=by simp
 generalize b.length=n at*;generalize eI .u8 b=eb at*;have hs8:=Ux t;generalize hs:iE t=s at*;by_cases h0:s=0
 ·rw [if_pos h0];have b0:((s:Int)==0)=true:=by simp;omega
  simp [dJ,hf,hS,b0,hlen]
 ·rw [if_neg h0];have b0:((s:Int)==0)=false:=by simp;omega
  have z0:¬(s:Int)=0:=by omega
  have t1:(n:Int).tmod (s:Int)=((n % s:Nat):Int):=rt n s;have t2:(n:Int).tdiv (s:Int)=((n / s:Nat):Int):=vS n s;have hle:n / s<=n:=Nat.div_le_self _ _;have t3:IntKind.i64.wrap ((n / s:Nat):Int)=((n / s:Nat):Int):=eF _ (by omega);have br:aV .rem (Ii (n:Int)) (Ii (s:Int))=some (Ii ((n % s:Nat):Int)):=by rw [bQ .i64 (n:Int) (s:Int) z0,t1]
  have bq:aV .quo (Ii (n:Int)) (Ii (s:Int))=some (Ii ((n / s:Nat):Int)):=by rw [eN .i64 (n:Int) (s:Int) z0,t2,t3]
  have hq0 : n % s = 0 -> (n / s = 0 ↔ n = 0) := fun hr => by
   have:=Nat.div_add_mod n s;constructor
   ·intro e;rw [e,hr] at this;omega
   ·intro e;subst e;simp
  generalize n % s=r at*;generalize n / s=q at*;by_cases h1:r=0
  ·rw [if_neg (by omega)];have hq0:=hq0 h1;subst h1;by_cases h2:n=0
   ·rw [if_pos (.inl h2)];have hq1:(q:Int) < 1:=by omega
    simp [dJ,hf,hS,b0,hlen,br,bq,hq1,bne]
   ·have hq1:¬(q:Int) < 1:=by omega
    by_cases h3:1048576 < q
    ·rw [if_pos (.inr h3)];simp [dJ,hf,hS,b0,hlen,br,bq,hq1,bne,show (1048576:Int) < q by omega]
    ·rw [if_neg (by omega)];simp [dJ,hf,hS,b0,hlen,br,bq,hq1,bne,show ¬(1048576:Int) < q by omega]
  ·rw [if_pos (by omega)];have b1:((r:Int)==0)=false:=by simp;omega
   simp [dJ,hf,hS,b0,hlen,br,bne,b1]
theorem Uz {fr:Fr}{h:O}{R:Option (dt × Fr × O)}(t:Int)(b:List Int)(s n:Nat)(hb:cw b)(hs:s=iE t)(hl:b.length=n*s)(hn:b.length < 100000000)
  (hF:run ah (V h) (.loop bW) fr (hx h [] [])=R) (hn0:n < 100000000)
  (h0:fr 0=Ii t) (h1:fr 1=.vsl false (eI .u8 b)) (h5:fr 5=Ii (n:Int)) (h7:fr 7=Ii 0):
  ∃ e fr',R=some (e,fr',hx h [] [])/\(e=.exit 0/\(t=3\/t=4->KB t b s n=true)\/e=.ret/\fr' 4=Ii 4/\(t=3\/t=4)/\KB t b s n=false):=by
 obtain ⟨e,fr',h',rfl,⟨rfl,hp⟩,hk⟩:=af hF n
  (fun k fr hh=>fr 7=Ii (k:Int)/\(t=3\/t=4->KB t b s k=true)/\hh=hx h [] [])
  (fun e fr hh=>hh=hx h [] []/\(e=.exit 0/\(t=3\/t=4->KB t b s n=true)\/e=.ret/\fr 4=Ii 4/\(t=3\/t=4)/\KB t b s n=false))
  ⟨h7, fun _ => rfl, rfl⟩ (by
   rintro k fr1 hh hkN hkeep ⟨g7,hok,rfl⟩;have g0:=kp hkeep h0;have g1:=kp hkeep h1;have g5:=kp hkeep h5;have hS:=fun L h=>Uy L h t;have hs8:=Ux t;rw [<- hs] at hS hs8;by_cases hlt:k < n
   ·have hkn:(k:Int) < n:=by omega
    have w0:Wr ((k:Int)+1)=((k+1:Nat):Int):=wy;obtain ⟨i,hi⟩:∃ i,i=k*s:=⟨_,rfl⟩;obtain ⟨j,hj⟩:∃ j,j=i+s:=⟨_,rfl⟩;have hmul:(k+1)*s=j:=by rw [Nat.add_mul,Nat.one_mul];omega
    have hjl:j<=b.length:=by
     have:(k+1)*s<=n*s:=Nat.mul_le_mul_right _ hlt;omega
    have m1:aV .mul (Ii (k:Int)) (Ii (s:Int))=some (Ii (i:Int)):=by
     rw [QQ,hi]
     congr 2
     rw [show (k:Int)*(s:Int)=((k*s:Nat):Int) by simp];exact wz
    have m2:aV .mul (Ii ((k+1:Nat):Int)) (Ii (s:Int))=some (Ii (j:Int)):=by
     rw [QQ,<- hmul]
     congr 2
     rw [show ((k+1:Nat):Int)*(s:Int)=(((k+1)*s:Nat):Int) by simp];exact wz
    have hsl:=Hx false b i s j hj hjl;have hch:(b.drop i).take s=mr b s k:=by rw [hi];rfl
    rw [hch] at hsl;have hcl:(mr b s k).length=s:=by unfold mr;simp;omega
    have hcb:cw (mr b s k):=lS (oZ hb _) _;have hst:KB t b s (k+1)=(KB t b s k&&(zR t (mr b s k)==0)):=rfl;have hmono : ∀ d, KB t b s (k + 1) = false -> KB t b s (k + 1 + d) = false := fun d e => by
     induction d with
     | zero=>exact e
     | succ d ih=>show (KB t b s (k+1+d)&&_)=false;rw [ih];rfl
    have hno : KB t b s (k + 1) = false -> KB t b s n = false := fun q => by
     have:=hmono (n - (k+1)) q
     rwa [show k+1+(n - (k+1))=n by omega] at this
    have hR5:=fun L h c=>zbw L h c (mr b s k) hcb (by omega);have hR2:=fun (q:s=32) L h c=>zbx L h c (mr b s k) hcb (by omega);have he3:t=3->s=32:=fun q=>by rw [hs,q];rfl
    have he4:t=4->zR t (mr b s k)=LI (mr b s k):=fun q=>by unfold zR;rw [if_neg (by omega)]
    generalize mr b s k=ch at*;generalize hk1:((k+1:Nat):Int)=k1 at*;clear hmono hi hj hmul;by_cases h3:t=3
    ·subst h3;have hR2:=hR2 (he3 rfl);rw [hok (.inl rfl),Bool.true_and] at hst;have b4:((3:Int)==4)=false:=by decide
     obtain ⟨v,hv,hv1,hv2⟩:=hR2 (V h) (hx h [] []) (false&&j==b.length);simp only [V,Bool.false_and] at hv;by_cases he:zR 3 ch=0
     ·have be:(zR 3 ch==0)=true:=by simp [he]
      rw [be] at hst;generalize zR 3 ch=er at*;simp -implicitDefEqProofs [bW,V,g0,g1,g5,g7,hkn,hS,m1,w0,m2,hsl,hv,bne,be];exact ⟨hlt,by omega,hst⟩
     ·have be:(zR 3 ch==0)=false:=by simpa using he
      rw [be] at hst;have hno:=hno hst;generalize zR 3 ch=er at*;simp -implicitDefEqProofs [bW,V,g0,g1,g5,g7,hkn,hS,m1,w0,m2,hsl,hv,bne,be,hno]
    ·have b3:(t==3)=false:=by simpa using h3
     by_cases h4:t=4
     ·subst h4;have he4:=he4 rfl;rw [hok (.inr rfl),Bool.true_and,he4] at hst;generalize dg (bi ch)=dch at*;by_cases he:LI ch=0
      ·have be:(LI ch==0)=true:=by simp [he]
       rw [be] at hst;rw [he] at hR5;simp only [if_true] at hR5;simp -implicitDefEqProofs [bW,V,g0,g1,g5,g7,hkn,hS,m1,w0,m2,hsl,hR5,bne];exact ⟨hlt,by omega,hst⟩
      ·have be:(LI ch==0)=false:=by simpa using he
       rw [be] at hst;have hno:=hno hst;rw [if_neg he] at hR5;generalize LI ch=er at*;simp -implicitDefEqProofs [bW,V,g0,g1,g5,g7,hkn,hS,m1,w0,m2,hsl,hR5,bne,be,hno]
     ·have b4:(t==4)=false:=by simpa using h4
      simp -implicitDefEqProofs [bW,V,g0,g1,g5,g7,hkn,hS,m1,w0,m2,hsl,b3,b4,bne];exact ⟨hlt,by omega,fun q=>by omega⟩
   ·have:k=n:=by omega
    subst this;simp -implicitDefEqProofs [bW,V,g5,g7];exact hok)
 exact ⟨e,fr',rfl,hp⟩
theorem zbB {t:Int}{n:Nat}(h0:(j3 t n).2=0):¬iE t=0/\n=(j3 t n).1*iE t/\(j3 t n).1<=1048576:=by
 generalize hq:j3 t n=q at*;unfold j3 at hq;split at hq
 ·subst hq;simp at h0
 ·rename_i h1;split at hq
  ·subst hq;simp at h0
  ·rename_i h2;split at hq
   ·subst hq;simp at h0
   ·subst hq;refine ⟨h1,?_,by simp only;omega⟩;have:=Nat.div_add_mod n (iE t);simp only;rw [Nat.mul_comm];omega
theorem P5 (L:az)(h:O)(t:Int)(c:Bool)(b:List Int)(hb:cw b)(hl:b.length < 100000000):Z ah L gX [Ii t,.vsl c (eI .u8 b)] h=some (Ii (ww t b),h):=by
 rw [A3];have hC:=fun L h=>JH L h t false b (by omega);have hf:=fw h c (eI .u8 b);have hg:=zbB (t:=t) (n:=b.length);unfold ww;generalize j3 t b.length=q at*;obtain ⟨n,er⟩:=q;simp only at hC hg |-;by_cases he:er=0
 ·rw [if_neg (by simpa using he)];obtain ⟨hs0,hbl,hn⟩:=hg he;have be:(er==0)=true:=by simp [he]
  have hlo:=fun fr R=>Uz (fr:=fr) (h:=h) (R:=R) t b (iE t) n hb rfl hbl hl;subst he;simp -implicitDefEqProofs [ki,hf,hC,bne];generalize hF:run ah _ (.loop _) _ _=R;obtain ⟨e,fr1,rfl,hor⟩:=hlo _ _ hF (by omega) (by simp) (by simp) (by simp) (by simp);rcases hor with ⟨rfl,hok⟩ | ⟨rfl,f4,h34,hok⟩
  ·have hres:(if t=3\/t=4 then (if KB t b (iE t) n=true then (0:Int) else 4) else 0)=0:=by
    split
    ·rename_i q;rw [if_pos (hok q)]
    ·rfl
   rw [hres];simp -implicitDefEqProofs []
  ·rw [if_pos h34,if_neg (by rw [hok];decide)];simp -implicitDefEqProofs [f4]
 ·rw [if_pos (by simpa using he)];have be:(er==0)=false:=by simpa using he
  simp -implicitDefEqProofs [ki,hf,hC,bne,be]
theorem zbC (L:az)(h:O)(k t c:Int)(b:List Int)(hb:cw b)(hl:b.length < 100000000):Z ah L kD [.agg [Ii k,Ii t,Ii c,.vsl false (eI .u8 b)]] h=some (.bool (z8 k t c b),h):=by
 rw [Az];have hC:∀ L h,Z ah L dM [.agg [Ii k,Ii t,Ii c,.str ⟨#[]⟩]] h=some (Ii (ckO k t c),h):=fun L h=>JE L h (itO k t c);have hN:=fun L h=>JH L h t false b (by omega);have hK:=fun L h=>P5 L h t false b hb hl;have hfz:∀ h,nT h (.agg [Ii k,Ii t,Ii c,.vsl false (eI .u8 b)])=some (.agg [Ii k,Ii t,Ii c,.vsl false (eI .u8 b)],false):=fun h=>Jf h k t c b _ (by simp) rfl;have hbo:pe (.agg [Ii k,Ii t,Ii c,.vsl false (eI .u8 b)])=some (.vptr [Ii k,Ii t,Ii c,.vsl false (eI .u8 b)] 0):=rfl;have hlen:(eI .u8 b).length=b.length:=by simp
 have hce:¬(j3 t b.length).2=0->¬ww t b=0:=fun q=>by unfold ww;rw [if_pos q];exact q
 unfold z8;generalize ww t b=e,j3 t b.length=q,ckO k t c=ck at*;obtain ⟨n,er⟩:=q;simp only at hN hce |-;by_cases h0:ck=0
 ·have b0:(ck==0)=true:=by simp [h0]
  rw [if_pos h0];by_cases h1:k=1
  ·have b1:(k==1)=true:=by simp [h1]
   rw [if_pos h1];by_cases her:er=0
   ·subst her;by_cases h2:(n:Int)=c
    ·have b2:((n:Int)==c)=true:=by simp [h2]
     have b3:(e==0)=decide (e=0):=by rw [Bool.eq_iff_iff];simp
     simp -implicitDefEqProofs [dI,V,hfz,hbo,al,setAt,J.cells,J.okV,hC,hN,hK,bne,b0,b1,b2,b3,h2]
    ·have b2:((n:Int)==c)=false:=by simpa using h2
     simp -implicitDefEqProofs [dI,V,hfz,hbo,al,setAt,J.cells,J.okV,hC,hN,hK,bne,b0,b1,b2,h2]
   ·have be:=hce her;have b3:(er==0)=false:=by simpa using her
    simp -implicitDefEqProofs [dI,V,hfz,hbo,al,setAt,J.cells,J.okV,hC,hN,hK,bne,b0,b1,b3,be]
  ·have b1:(k==1)=false:=by simpa using h1
   rw [if_neg h1];have b2:((b.length:Int)==0)=decide (b.length=0):=by rw [Bool.eq_iff_iff];simp
   generalize eI .u8 b=eb at*;simp -implicitDefEqProofs [dI,V,hfz,hbo,al,setAt,J.cells,J.okV,hC,bne,b0,b1,hlen,b2]
 ·have b0:(ck==0)=false:=by simpa using h0
  rw [if_neg h0];simp -implicitDefEqProofs [dI,V,hfz,hbo,al,setAt,J.cells,J.okV,hC,bne,b0]
theorem zh9 (L:az)(h:O)(k t c:Int)(b:List Int)(d:J)(hd:∀ h,nT h d=some (.vsl false (eI .u8 b),false))(hf:d.flat=false)(hb:cw b)(hl:b.length < 100000000):
  Z ah L jd [.agg [Ii k,Ii t,Ii c,d]] h=some (.vsl false (eI .u8 (ig k t c b)),h):=by
 rw [x6];have hfz:=fun h=>Jf h k t c b d (hd h) hf;have hbo:pe (.agg [Ii k,Ii t,Ii c,.vsl false (eI .u8 b)])=some (.vptr [Ii k,Ii t,Ii c,.vsl false (eI .u8 b)] 0):=rfl;have hR:=fun L h=>zbC L h k t c b hb hl;have hck : z8 k t c b = true -> ckO k t c = 0 := fun q => by
  unfold z8 at q;split at q
  ·assumption
  ·simp at q
 unfold ig
 cases hr:z8 k t c b with
 | true=>
  rw [hr] at hR;rw [if_pos rfl];obtain ⟨c1,c2,c3,c4,c5,c6,c7⟩:=we (hck hr);simp only [itO] at c1 c2 c3 c4 c5 c6;have hlb:(eI .u8 b).length=b.length:=by simp
  simp -implicitDefEqProofs [i9,V,hfz,hbo,hR,aa,Uv,fq,xC,le,A6,ao,show 6+b.length < 274877906944 by omega,show 0<=k by omega,show 0<=t by omega,show 0<=c by omega,show k < 9223372036854775808 by omega,show t < 9223372036854775808 by omega,show c < 9223372036854775808 by omega]
 | false=>
  rw [hr] at hR;simp -implicitDefEqProofs [i9,V,hfz,hbo,hR,aa]
theorem zeu {b:List Int}{i:Nat}(h:i < b.length):bi (b.drop i)=(gd b 0 i).toNat+256*bi (b.drop (i+1)):=by
 rw [List.drop_eq_getElem_cons h];have:gd b 0 i=b[i]:=by simp [gd,List.getD,h]
 rw [this];simp only [bi]
def n6 (b:List Int):Nat:=bi ((b.drop 6).take 2)
def itD (b:List Int):It:=⟨gd b 0 0,gd b 0 1,bi ((b.drop 2).take 4),Ok ((b.drop 8).take (n6 b))⟩
theorem vW {r:Rd}(h:r.s=true)(n:Nat):(KI r n).s=true:=by unfold KI;split <;> simp [h]
theorem DC {r:Rd}{n:Nat}(h:r.b.length < n):(KI r n).s=true:=by unfold KI;rw [if_pos h]
theorem qC {b:List Int}{n:Nat}(h:n<=b.length):KI ⟨b,false⟩ n=⟨b.drop n,false⟩:=by unfold KI;rw [if_neg (by simp only;omega)]
theorem DE {b:List Int}{n:Nat}(h:n<=b.length):NZ ⟨b,false⟩ n=b.take n:=by unfold NZ;rw [if_neg (by simp only;omega)]
theorem take_one {b:List Int}(h:0 < b.length):b.take 1=[gd b 0 0]:=by
 cases b with
 | nil=>simp at h
 | cons x b=>rfl
theorem zev {b:List Int}(h:b.length < 8):(Mz b).s=true:=by
 unfold Mz;refine vW ?_ _;by_cases h1:b.length < 1
 ·have:(Rs b).s=true:=DC h1;exact vW (vW (vW this _) _) _
 ·have e1:Rs b=⟨b.drop 1,false⟩:=qC (by omega);by_cases h2:b.length < 2
  ·have:(N1 b).s=true:=by unfold N1;rw [e1];exact DC (by simp;omega)
   exact vW (vW this _) _
  ·have e2:N1 b=⟨b.drop 2,false⟩:=by unfold N1;rw [e1,qC (by simp;omega),List.drop_drop]
   by_cases h3:b.length < 6
   ·have:(N4 b).s=true:=by unfold N4;rw [e2];exact DC (by simp;omega)
    exact vW this _
   ·have e3:N4 b=⟨b.drop 6,false⟩:=by unfold N4;rw [e2,qC (by simp;omega),List.drop_drop]
    unfold Ru;rw [e3];exact DC (by simp;omega)
theorem Y0 {b:List Int}(hb:cw b){i:Nat}(h:i < b.length):((gd b 0 i).toNat:Int)=gd b 0 i:=by have:=hb i h;omega
theorem zib {b:List Int}(hb:cw b)(h:8<=b.length):HV b=n6 b/\(Mz b).s=decide (b.length < 8+n6 b)/\(8+n6 b<=b.length->dIt b=itD b/\(Mz b).b=b.drop (8+n6 b)):=by
 have e1:Rs b=⟨b.drop 1,false⟩:=qC (by omega);have e2:N1 b=⟨b.drop 2,false⟩:=by unfold N1;rw [e1,qC (by simp;omega),List.drop_drop]
 have e3:N4 b=⟨b.drop 6,false⟩:=by unfold N4;rw [e2,qC (by simp;omega),List.drop_drop]
 have e4:Ru b=⟨b.drop 8,false⟩:=by unfold Ru;rw [e3,qC (by simp;omega),List.drop_drop]
 have hd:HV b=n6 b:=by unfold HV n6;rw [e3,DE (by simp;omega)]
 refine ⟨hd,?_,fun hn=>?_⟩
 ·unfold Mz;rw [e4,hd];by_cases hl:b.length < 8+n6 b
  ·rw [DC (by simp;omega),decide_eq_true hl]
  ·rw [qC (by simp;omega),decide_eq_false hl]
 ·constructor
  ·unfold dIt itD;rw [hd,e4,e2,e1,DE (by omega),DE (b:=b.drop 1) (by simp;omega),DE (b:=b.drop 2) (by simp;omega),DE (b:=b.drop 8) (by simp;omega),take_one (by omega),take_one (b:=b.drop 1) (by simp;omega)];have g1:gd (b.drop 1) 0 0=gd b 0 1:=by simp [gd,List.getD]
   have l1:∀ x:Int,bi [x]=x.toNat:=fun x=>by simp [bi]
   rw [g1,l1,l1,Y0 hb (by omega),Y0 hb (by omega)]
  ·unfold Mz;rw [e4,hd,qC (by simp;omega),List.drop_drop]
theorem zew {b:List Int}(hb:cw b):ue b=if b.length < 8\/b.length < 8+n6 b then (zIt,[],2) else if wc (itD b)=0 then (itD b,b.drop (8+n6 b),0) else (zIt,[],wc (itD b)):=by
 unfold ue;by_cases h8:b.length < 8
 ·rw [if_pos (zev h8),if_pos (.inl h8)]
 ·obtain ⟨-,h2,h3⟩:=zib hb (by omega:8<=b.length);rw [h2];by_cases hl:b.length < 8+n6 b
  ·rw [if_pos (by simpa using hl),if_pos (.inr hl)]
  ·rw [if_neg (by simpa using hl),(h3 (by omega)).1,(h3 (by omega)).2,if_neg (show ¬(b.length < 8\/b.length < 8+n6 b) by omega)]
theorem zex {fr:Fr}{h:O}{R:Option (dt × Fr × O)}(b:List Int)(hb:cw b)(hl:b.length<=7)
  (hF:run ah (V h) (.loop mG) fr (hx h [] [])=R)
  (h0:fr 0=.vsl false (eI .u8 b)) (h3:fr 3=Ii 0) (h4:fr 4=Ii ((b.length:Int) - 1)):
  ∃ fr',R=some (.exit 0,fr',hx h [] [])/\fr' 3=Ii (bi b:Int):=by
 obtain ⟨e,fr',h',rfl,⟨rfl,rfl,g3⟩,hk⟩:=af hF b.length
  (fun k fr hh=>hh=hx h [] []/\∃ m,m+k=b.length/\fr 4=Ii ((m:Int) - 1)/\fr 3=Ii (bi (b.drop m):Int))
  (fun e fr hh=>e=.exit 0/\hh=hx h [] []/\fr 3=Ii (bi b:Int))
  ⟨rfl, b.length, rfl, h4, by rw [List.drop_eq_nil_of_le (Nat.le_refl _)]; exact h3⟩ (by
   rintro k fr1 hh hkN hkeep ⟨rfl,m,hm,g4,g3⟩;have g0:=kp hkeep h0
   cases m with
   | zero=>
    rw [List.drop_zero] at g3;have hlt:¬((0:Nat):Int) - 1>=0:=by omega
    simp -implicitDefEqProofs [mG,g4,g3]
   | succ i=>
    rw [show (((i+1:Nat):Int) - 1)=(i:Int) by omega] at g4;have hi:i < b.length:=by omega
    have ia:=qT .u8 .i64 false b i (decide_eq_true hi);have hd:=zeu hi;have hb256:=hb i hi;have hbound:bi (b.drop (i+1)) < 256 ^ 6:=Nat.lt_of_lt_of_le (yd (oZ hb _)) (Nat.pow_le_pow_right (by decide) (by simp;omega));obtain ⟨x,hx⟩:∃ x:Nat,gd b 0 i=(x:Int):=⟨(gd b 0 i).toNat,by omega⟩;rw [hx] at ia hd hb256;rw [Int.toNat_natCast] at hd;generalize bi (b.drop (i+1))=q at*;have w1:Wr ((q:Int)*256)=((256*q:Nat):Int):=wy;have w2:Wr (x:Int)=(x:Int):=wz;have w3:Wr (((256*q:Nat):Int)+(x:Int))=((x+256*q:Nat):Int):=wy;have w4:Wr ((i:Int) - 1)=(i:Int) - 1:=wz;have hge:(0:Int)<=(i:Int):=by omega
    rw [<- hd] at w3;generalize hq2:bi (b.drop i)=q2 at*;generalize ((256*q:Nat):Int)=y at*;simp -implicitDefEqProofs [mG,g0,g3,g4,ia,w1,w2,w3,w4,hge];exact ⟨by omega,i,by omega,rfl,by rw [hq2]⟩)
 exact ⟨fr',rfl,g3⟩
theorem zey (L:az)(h:O)(c:Bool)(b:List Int)(hb:cw b)(hl:b.length<=7):
  Z ah L iF [.vsl c (eI .u8 b)] h=some (Ii (bi b:Int),h):=by
 rw [Fb];have hf:=fw h c (eI .u8 b);have w1:Wr ((b.length:Int) - 1)=(b.length:Int) - 1:=wz;simp -implicitDefEqProofs [rV,hf,w1];generalize hF:run ah _ (.loop _) _ _=R;obtain ⟨fr1,rfl,f3⟩:=zex b hb hl hF (by simp) (by simp) (by simp);simp -implicitDefEqProofs [f3]
theorem WY (L:az)(h:O)(c:Bool)(b:List Int)(hb:cw b)(hl:b.length < 1000000000):
  Z ah L jJ [.vsl c (eI .u8 b)] h=some (.tup [.agg (ue b).1.cells,.vsl false (eI .u8 (ue b).2.1),Ii (ue b).2.2],h):=by
 rw [yZ,zew hb];have hf:=fw h c (eI .u8 b);have hzc:zIt.cells=[Ii 0,Ii 0,Ii 0,.str ⟨#[]⟩]:=rfl;have hlb:(eI .u8 b).length=b.length:=by simp
 by_cases h8:b.length < 8
 ·rw [if_pos (.inl h8)];have hlt:(b.length:Int) < 8:=by omega
  simp -implicitDefEqProofs [eM,V,hf,hlb,hlt,al,setAt,aa,au,ae,hzc,mO,bC,J.flat]
 ·have h8':¬(b.length:Int) < 8:=by omega
  have s68:eP .slc 1 (.vsl false (eI .u8 b)) (some (Ii 6)) (some (Ii 8)) none=some (.vsl false (eI .u8 ((b.drop 6).take 2))):=Hx false b 6 2 8 rfl (by omega);have s26:eP .slc 1 (.vsl false (eI .u8 b)) (some (Ii 2)) (some (Ii 6)) none=some (.vsl false (eI .u8 ((b.drop 2).take 4))):=Hx false b 2 4 6 rfl (by omega);have o68:=fun L h=>zey L h false ((b.drop 6).take 2) (lS (oZ hb _) _) (by simp;omega);have o26:=fun L h=>zey L h false ((b.drop 2).take 4) (lS (oZ hb _) _) (by simp;omega);rw [show bi ((b.drop 6).take 2)=n6 b from rfl] at o68;have hn6:n6 b < 256 ^ 2:=Nat.lt_of_lt_of_le (yd (lS (oZ hb 6) 2)) (Nat.pow_le_pow_right (by decide) (by simp;omega));have w8:Wr (8+(n6 b:Int))=((8+n6 b:Nat):Int):=wy;by_cases hl8:b.length < 8+n6 b
  ·rw [if_pos (.inr hl8)];have hlt:(b.length:Int) < ((8+n6 b:Nat):Int):=by omega
   generalize ((8+n6 b:Nat):Int)=E at*;generalize eI .u8 ((b.drop 6).take 2)=q68 at*;simp -implicitDefEqProofs [eM,V,hf,hlb,h8',s68,o68,w8,hlt,al,setAt,aa,au,ae,hzc,mO,bC,J.flat]
  ·rw [if_neg (by omega)];have hlt:¬(b.length:Int) < ((8+n6 b:Nat):Int):=by omega
   have s8e:eP .slc 1 (.vsl false (eI .u8 b)) (some (Ii 8)) (some (Ii ((8+n6 b:Nat):Int))) none=some (.vsl false (eI .u8 ((b.drop 8).take (n6 b)))):=Hx false b 8 (n6 b) (8+n6 b) rfl (by omega);have sdr:=L3 .u8 .i64 b (8+n6 b) (by omega);have ia0:bO none 1 (.vsl false (eI .u8 b)) (Ii 0)=some (.vptr [.int .u8 (gd b 0 0)] 0):=qT .u8 .i64 false b 0 (decide_eq_true (by omega));have ia1:bO none 1 (.vsl false (eI .u8 b)) (Ii 1)=some (.vptr [.int .u8 (gd b 0 1)] 0):=qT .u8 .i64 false b 1 (decide_eq_true (by omega));have hb0:=hb 0 (by omega);have hb1:=hb 1 (by omega);have wi0:Wr (gd b 0 0)=gd b 0 0:=wz;have wi1:Wr (gd b 0 1)=gd b 0 1:=wz;have hK:=fun L h=>JE L h (itD b);have hic:(itD b).cells=[Ii (gd b 0 0),Ii (gd b 0 1),Ii (bi ((b.drop 2).take 4):Int),.str (Ok ((b.drop 8).take (n6 b)))]:=rfl;have hb2s:=fun h=>zcZ h false ((b.drop 8).take (n6 b));by_cases hck:wc (itD b)=0
   ·rw [if_pos hck];simp only;rw [hic] at hK |-;rw [hck] at hK;generalize gd b 0 1=b1,gd b 0 0=b0,eI .u8 ((b.drop 6).take 2)=q68,((8+n6 b:Nat):Int)=E,b.drop (8+n6 b)=rest,eI .u8 ((b.drop 2).take 4)=q26,(bi ((b.drop 2).take 4):Int)=ct,eI .u8 ((b.drop 8).take (n6 b))=q8e,Ok ((b.drop 8).take (n6 b))=lb at*;simp -implicitDefEqProofs [eM,V,hf,hlb,h8',s68,o68,w8,hlt,s8e,sdr,ia0,ia1,wi0,wi1,s26,o26,hb2s,hK,bne,al,setAt,aa,au,ae,J.cells,J.okV,hzc,hic,mO,bC,J.flat]
   ·rw [if_neg hck];simp only;rw [hic] at hK;have hcb:(wc (itD b)==0)=false:=beq_false_of_ne hck;generalize gd b 0 1=b1,gd b 0 0=b0,eI .u8 ((b.drop 6).take 2)=q68,((8+n6 b:Nat):Int)=E,b.drop (8+n6 b)=rest,eI .u8 ((b.drop 2).take 4)=q26,(bi ((b.drop 2).take 4):Int)=ct,eI .u8 ((b.drop 8).take (n6 b))=q8e,Ok ((b.drop 8).take (n6 b))=lb,wc (itD b)=ck at*;simp -implicitDefEqProofs [eM,V,hf,hlb,h8',s68,o68,w8,hlt,s8e,sdr,ia0,ia1,wi0,wi1,s26,o26,hb2s,hK,bne,hcb,al,setAt,aa,au,ae,J.cells,J.okV,hzc,mO,bC,J.flat]
theorem TV {fr:Fr}{h:O}{R:Option (dt × Fr × O)}(hF:run ah (V h) (.loop eJ) fr (hx h [] [])=R)(b0:List Int)(hb0:cw b0)(hl0:b0.length < 1000000000)
  (h0:fr 0=.vsl false (eI .u8 b0)) (h5:fr 5=.vsl true []):
  ∃ e fr' bs ts,R=some (e,fr',hx h bs ts)/\(e=.exit 0/\fr' 5=gL (.vsl true []) h.toks.length 0 ((bJ b0).1.map It.cells)/\(bJ b0).2=(-1,0)\/e=.ret/\fr' 2=.nsl/\(bJ b0).1=[]/\fr' 3=Ii (bJ b0).2.1/\fr' 4=Ii (bJ b0).2.2):=by
 obtain ⟨e,fr',h',rfl,⟨⟨bs,ts,rfl⟩,hp⟩,hk⟩:=af hF 1024
  (fun k fr hh=>∃ b acc bs,fr 0=.vsl false (eI .u8 b)/\cw b/\b.length < 1000000000/\fr 5=gL (.vsl true []) h.toks.length 0 (acc.map It.cells)/\hh=hx h bs (gT (acc.map It.cells))/\acc.length=k/\bJ b0=GL (1026 - k) b k acc)
  (fun e fr hh=>(∃ bs ts,hh=hx h bs ts)/\(e=.exit 0/\fr 5=gL (.vsl true []) h.toks.length 0 ((bJ b0).1.map It.cells)/\(bJ b0).2=(-1,0)\/e=.ret/\fr 2=.nsl/\(bJ b0).1=[]/\fr 3=Ii (bJ b0).2.1/\fr 4=Ii (bJ b0).2.2))
  ⟨b0, [], [], h0, hb0, hl0, by simpa [gL] using h5, by simp [gT], rfl, rfl⟩ (by
   rintro k fr1 hh hkN hkeep ⟨b,acc,bs,g0,hb,hl,g5,rfl,hak,hpar⟩;obtain ⟨f,hf⟩:∃ f,1026 - k=f+1:=⟨1026 - k - 1,by omega⟩;rw [hf,GL] at hpar;by_cases hnil:b=[]
   ·rw [if_pos hnil] at hpar;subst hnil;simp only [W1] at g0;rw [hpar];simp [eJ,g0,g5];exact ⟨_,_,rfl⟩
   ·rw [if_neg hnil] at hpar;have hpos:0 < b.length:=List.length_pos_iff.2 hnil;have hlen:B9 (gL (.vsl true []) h.toks.length 0 (acc.map It.cells))=some k:=by
     unfold gL;split
     ·rename_i e;simp at e;subst e;simp at hak;subst hak;rfl
     ·simp [hak]
    by_cases hk:k=1024
    ·rw [if_pos hk] at hpar;rw [hpar];have bk:((k:Int)==1024)=true:=by simp;omega
     simp [eJ,g0,g5,hlen,hpos,bk];exact ⟨_,_,rfl⟩
    ·rw [if_neg hk] at hpar;have bk:((k:Int)==1024)=false:=by simp;omega
     have hD:=fun L h=>WY L h false b hb hl;obtain ⟨hr1,hr2⟩:=PT b hb;generalize ue b=D at*;obtain ⟨x,rest,er⟩:=D;simp only at hD hr1 hr2 hpar;by_cases he:er=0
     ·rw [if_pos he] at hpar;have be:(er==0)=true:=by simp [he]
      have hxc:x.cells.length=4:=rfl;have hsz:=Nf acc;have hx1:eo 4 [x.cells]=true:=rfl;have hmp:(acc++[x]).map It.cells=acc.map It.cells++[x.cells]:=by simp
      have hfil:al (rep [J.int .i64 0,Ii 0,Ii 0,.str ⟨#[]⟩] 1) [(0,4,.agg x.cells)]=some x.cells:=rfl;have hchk:chunks 4 1 x.cells=[x.cells]:=rfl;have hpt:cL true x.cells 0 4=some (.agg x.cells):=rfl;have hap:=fun bs=>ER (V h) h bs 4 true (acc.map It.cells) [x.cells] (by simp [V,hsz,hx1,ao,hak];omega);simp only [V] at hap;generalize It.cells x=xc at*;simp -implicitDefEqProofs [eJ,V,g0,g5,hlen,hpos,bk,hD,bne,be,aa,au,ae,hxc,hfil,hchk,hap];exact ⟨by omega,rest,rfl,hr1,by omega,acc++[x],by rw [hmp],⟨_,by rw [hmp]⟩,by simp [hak],by rw [hpar,show 1025 - k=f by omega]⟩
     ·rw [if_neg he] at hpar;have be:(er==0)=false:=by simpa using he
      rw [hpar];have hxc:x.cells.length=4:=rfl;generalize It.cells x=xc at*;simp -implicitDefEqProofs [eJ,V,g0,g5,hlen,hpos,bk,hD,bne,be,aa,au,ae,hxc];exact ⟨_,_,rfl⟩)
 exact ⟨e,fr',bs,ts,rfl,hp⟩
theorem zaQ (L:az)(h:O)(c:Bool)(b:List Int)(hb:cw b)(hl:b.length < 1000000000):
  Z ah L kl [.vsl c (eI .u8 b)] h=some (.tup [.vsl false ((bJ b).1.map It.cells),Ii (bJ b).2.1,Ii (bJ b).2.2],h):=by
 rw [zY];have hf:=fw h c (eI .u8 b);simp [oN,hf,al,rep,chunks];generalize hF:run ah _ (.loop _) _ _=R;obtain ⟨e,fr',bs,ts,rfl,⟨rfl,h5,h6⟩ | ⟨rfl,h2,h3,h4,h5⟩⟩:=TV hF b hb hl (by simp) (by simp)
 ·have hfz:=fun hh n=>v6 (h1:=hh) (nb:=h.blks.length) (nt:=h.toks.length) (n:=n) (s:=.vsl true []) (.inr rfl) (nM h.blks.length h.toks.length (bJ b).1);rw [h6];simp -implicitDefEqProofs [h5,hfz]
 ·rw [h3];simp [h2,h4,h5]
def yg (g:Gd):List J:=[.vsl false (g.l.map It.cells),Ii g.k,Ii g.e]
theorem Rl (h:O)(g:Gd):nT h (.agg (yg g))=some (.agg (yg g),false):=by
 simp [nT,bC,J.flat,yg]
theorem Lm (hh:O)(nb nt m:Nat)(g:Gd):frz hh nb nt (m+2) (.agg (yg g))=some (.agg (yg g)):=by
 have hfl:bC (yg g)=false:=by simp [yg,bC,J.flat]
 have hg:frz hh nb nt (m+2) (.agg (yg g))=((yg g).mapM (frz hh nb nt (m+1))).map .agg:=by
  rw [frz.eq_def];simp only [hfl];rfl
 have fi:∀ a:Int,frz hh nb nt (m+1) (Ii a)=some (Ii a):=fun a=>by rw [frz.eq_def]
 have fv:=lq (h:=hh) (nb:=nb) (nt:=nt) (n:=m) false (nM nb nt g.l);rw [hg];simp only [yg,List.mapM_cons,List.mapM_nil,fv,fi];rfl
theorem zaS {g:Gd}{k t c:Int}(he:g.e=0)(h:eT g k t c=true):ak g k t c=⟨g.l,g.k+1,0⟩:=by
 unfold ak aG;rw [h];simp [he]
theorem EB {g:Gd}{k t c:Int}(he:g.e=0)(h:eT g k t c=false):ak g k t c=⟨g.l,g.k,10⟩:=by
 unfold ak aG;rw [h];simp [he]
theorem Wt {g:Gd}{k t c:Int}(he:¬g.e=0):ak g k t c=g:=by
 unfold ak aG;simp [he]
theorem zdJ (L:az)(h:O)(g:Gd)(k t c:Int)(hk:g.k < 1000000000):
  Z ah L lk [.agg (yg g),Ii k,Ii t,Ii c] h=some (.tup [.agg (yg (ak g k t c)),Ii (ak g k t c).e],h):=by
 rw [Cs];have hf:=Rl h g;have hbox:pe (.agg (yg g))=some (.vptr (yg g) 0):=rfl;have hfr:=fun hh nb nt m g=>Lm hh nb nt m g;by_cases he:g.e=0
 ·have be:(g.e==0)=true:=by simp [he]
  by_cases hlt:g.k < g.l.length
  ·have hltI:¬((g.k:Int)>=(g.l.length:Int)):=by omega
   have ia:=MH .i64 false g.l g.k hlt;have hn:eT g k t c=Gu (gd g.l ⟨0,0,0,⟨#[]⟩⟩ g.k) ⟨k,t,c,⟨#[]⟩⟩:=by unfold eT;rw [decide_eq_true hlt];rfl
   have w1:Wr ((g.k:Int)+1)=((g.k+1:Nat):Int):=wy;unfold Gu at hn;generalize gd g.l ⟨0,0,0,⟨#[]⟩⟩ g.k=y at*;have yc:y.cells=[Ii y.kind,Ii y.typ,Ii y.count,.str y.label]:=rfl;rw [yc] at ia;have hle:¬(g.l.length:Int)<=(g.k:Int):=by omega
   have hlk:(g.l.map It.cells).length=g.l.length:=by simp
   by_cases h1:y.kind=k
   ·have b1:(y.kind==k)=true:=by simp [h1]
    by_cases h2:y.typ=t
    ·have b2:(y.typ==t)=true:=by simp [h2]
     by_cases h3:y.count=c
     ·have b3:(y.count==c)=true:=by simp [h3]
      rw [b1,b2,b3] at hn;rw [zaS he (by rw [hn];rfl)];have hfr2:=fun hh nb nt m=>hfr hh nb nt m ⟨g.l,g.k+1,0⟩;obtain ⟨l,k0,e0⟩:=g;simp only at*;subst he;simp only [yg] at*;generalize ((k0+1:Nat):Int)=k1 at*;simp -implicitDefEqProofs [c9,V,hf,hbox,aa,au,ae,setAt,J.cells,J.okV,be,bne,hlk,hle,ia,b1,b2,b3,w1,hfr2,aF,am]
     ·have b3:(y.count==c)=false:=by simpa using h3
      rw [b1,b2,b3] at hn;rw [EB he (by rw [hn];rfl)];have hfr2:=fun hh nb nt m=>hfr hh nb nt m ⟨g.l,g.k,10⟩;obtain ⟨l,k0,e0⟩:=g;simp only at*;subst he;simp only [yg] at*;simp -implicitDefEqProofs [c9,V,hf,hbox,aa,au,ae,setAt,J.cells,J.okV,be,bne,hlk,hle,ia,b1,b2,b3,hfr2,aF,am]
    ·have b2:(y.typ==t)=false:=by simpa using h2
     rw [b1,b2] at hn;rw [EB he (by rw [hn];rfl)];have hfr2:=fun hh nb nt m=>hfr hh nb nt m ⟨g.l,g.k,10⟩;obtain ⟨l,k0,e0⟩:=g;simp only at*;subst he;simp only [yg] at*;simp -implicitDefEqProofs [c9,V,hf,hbox,aa,au,ae,setAt,J.cells,J.okV,be,bne,hlk,hle,ia,b1,b2,hfr2,aF,am]
   ·have b1:(y.kind==k)=false:=by simpa using h1
    rw [b1] at hn;rw [EB he (by rw [hn];rfl)];have hfr2:=fun hh nb nt m=>hfr hh nb nt m ⟨g.l,g.k,10⟩;obtain ⟨l,k0,e0⟩:=g;simp only at*;subst he;simp only [yg] at*;simp -implicitDefEqProofs [c9,V,hf,hbox,aa,au,ae,setAt,J.cells,J.okV,be,bne,hlk,hle,ia,b1,hfr2,aF,am]
  ·have hn:eT g k t c=false:=by unfold eT;rw [decide_eq_false hlt];rfl
   have hle:(g.l.length:Int)<=(g.k:Int):=by omega
   have hlk:(g.l.map It.cells).length=g.l.length:=by simp
   rw [EB he hn];have hfr2:=fun hh nb nt m=>hfr hh nb nt m ⟨g.l,g.k,10⟩;obtain ⟨l,k0,e0⟩:=g;simp only at*;subst he;simp only [yg] at*;simp -implicitDefEqProofs [c9,V,hf,hbox,aa,au,ae,setAt,J.cells,J.okV,be,bne,hlk,hle,hfr2,aF,am]
 ·have be:(g.e==0)=false:=by simpa using he
  rw [Wt he];have hfr2:=fun hh nb nt m=>hfr hh nb nt m g;obtain ⟨l,k0,e0⟩:=g;simp only at*;simp only [yg] at*;simp -implicitDefEqProofs [c9,V,hf,hbox,aa,au,ae,setAt,J.cells,J.okV,be,bne,hfr2,aF,am]
theorem zdK (L:az)(h:O)(g:Gd)(e:Int):
  Z ah L lj [.agg (yg g),Ii e] h=some (.tup [.agg (yg (aG g e)),Ii (aG g e).e],h):=by
 rw [Cq];have hf:=Rl h g;have hfr2:=fun hh nb nt m=>Lm hh nb nt m (aG g e);by_cases he:g.e=0
 ·have be:(g.e==0)=true:=by simp [he]
  have hd:aG g e=⟨g.l,g.k,e⟩:=by unfold aG;rw [if_pos he]
  rw [hd] at hfr2 |-;obtain ⟨l,k0,e0⟩:=g;simp only [yg] at*;simp -implicitDefEqProofs [kZ,V,hf,aa,au,ae,setAt,J.cells,J.okV,be,hfr2,aF,am]
 ·have be:(g.e==0)=false:=by simpa using he
  have hd:aG g e=g:=by unfold aG;rw [if_neg he]
  rw [hd] at hfr2 |-;obtain ⟨l,k0,e0⟩:=g;simp only [yg] at*;simp -implicitDefEqProofs [kZ,V,hf,aa,au,ae,setAt,J.cells,J.okV,be,hfr2,aF,am]
theorem Wv (L:az)(h:O)(g:Gd)(hk:g.k<=g.l.length):
  Z ah L jF [.agg (yg g)] h=some (.tup [.agg (yg (mg g)),Ii (mg g).e],h):=by
 rw [yF];have hf:=Rl h g;have hfr2:=fun hh nb nt m=>Lm hh nb nt m (mg g);have hlk:(g.l.map It.cells).length=g.l.length:=by simp
 by_cases he:g.e=0
 ·have be:(g.e==0)=true:=by simp [he]
  by_cases hlt:g.k < g.l.length
  ·have hltI:(g.k:Int) < (g.l.length:Int):=by omega
   have hd:mg g=⟨g.l,g.k,12⟩:=by unfold mg aG;rw [if_pos he,if_neg (by omega)]
   rw [hd] at hfr2 |-;obtain ⟨l,k0,e0⟩:=g;simp only [yg] at*;simp -implicitDefEqProofs [gk,V,hf,aa,au,ae,setAt,J.cells,J.okV,be,hlk,hltI,hlt,hfr2,aF,am]
  ·have hltI:¬(g.k:Int) < (g.l.length:Int):=by omega
   have hd:mg g=g:=by
    unfold mg aG;rw [if_pos he,if_pos (by omega)]
    cases g;simp only at he;subst he;rfl
   rw [hd] at hfr2 |-;obtain ⟨l,k0,e0⟩:=g;simp only [yg] at*;simp -implicitDefEqProofs [gk,V,hf,aa,au,ae,setAt,J.cells,J.okV,be,hlk,hltI,hlt,hfr2,aF,am]
 ·have be:(g.e==0)=false:=by simpa using he
  have hd:mg g=g:=by unfold mg aG;rw [if_neg he]
  rw [hd] at hfr2 |-;obtain ⟨l,k0,e0⟩:=g;simp only [yg] at*;simp -implicitDefEqProofs [gk,V,hf,aa,au,ae,setAt,J.cells,J.okV,be,hfr2,aF,am]
end Go.Av
