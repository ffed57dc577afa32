/- Items and patterns; the field's arithmetic of the program is that of the numbers modulo the prime. -/
import Derived.Test.YtafkceblllhheaaGreatDoorC0
set_option linter.unusedSimpArgs false
set_option linter.unusedVariables false
set_option maxHeartbeats 2000000
set_option maxRecDepth 20000
namespace Go.Av
structure It where
 kind:Int
 typ:Int
 count:Int
 label:ByteArray
def It.cells (x:It):List J:=[Ii x.kind,Ii x.typ,Ii x.count,.str x.label]
@[simp] theorem It.cells_len (x:It):x.cells.length=4:=rfl
@[simp] theorem It.cells_flat (x:It):bC x.cells=true:=rfl
theorem Nf (l:List It):eo 4 (l.map It.cells)=true:=by cases l <;> simp [eo]
theorem nM (nb nt:Nat):∀ l:List It,aO nb nt (l.map It.cells)=true
 | []=>by simp [aO]
 | x :: l=>by simp [aO,nM nb nt l,It.cells,aE,J.under]
def zw (k:Int):List Int:=if k=1 then [1,2,3,4] else if k=2 then [1,3] else if k=3 then [0] else []
def most (k:Int):Int:=if k=1 then 1048576 else if k=2 then 1048576 else if k=3 then 1 else 0
theorem zfg (L:az)(h:O)(k:Int):Z ah L uV [Ii k] h=some (.tup [.vsl false (eI .i64 (zw k)),Ii (most k)],h):=by
 rw [KC];simp [A9];by_cases h1:k=1
 ·subst h1;simp [al,rep,J.cells,J.okV,chunks,lq,aO,aE,J.under,zw,most,eI]
 ·by_cases h2:k=2
  ·subst h2;simp [al,rep,J.cells,J.okV,chunks,lq,aO,aE,J.under,zw,most,eI]
  ·by_cases h3:k=3
   ·subst h3;simp [al,rep,J.cells,J.okV,chunks,lq,aO,aE,J.under,zw,most,eI]
   ·simp [zw,most,h1,h2,h3,eI,beq_false_of_ne h1,beq_false_of_ne h2,beq_false_of_ne h3]
def idxOf (v:Int):List Int->Nat->Int
 | [],_=> -1
 | x :: l,i=>if v=x then i else idxOf v l (i+1)
theorem Xm (v:Int)(l:List Int)(k:Nat)(hk:k < l.length):idxOf v (l.drop k) k=if v=l[k] then (k:Int) else idxOf v (l.drop (k+1)) (k+1):=by
 rw [List.drop_eq_getElem_cons hk,idxOf]
theorem Xo {fr:Fr}{h:O}{R:Option (dt × Fr × O)}(hF:run ah (V h) (.loop iA) fr (hx h [] [])=R)(l:List Int)(v:Int)(hl:l.length < 274877906944)
  (h0:fr 0=.vsl false (eI .i64 l)) (h1:fr 1=Ii v) (h7:fr 7=Ii l.length) (h8:fr 8=Ii 0):
  ∃ e fr',R=some (e,fr',hx h [] [])/\((e=.exit 0/\idxOf v l 0= -1)\/(e=.ret/\fr' 4=Ii (idxOf v l 0))):=by
 obtain ⟨e,fr',h',rfl,⟨rfl,hp⟩,hk⟩:=af hF l.length
  (fun k fr hh=>fr 8=Ii k/\hh=hx h [] []/\idxOf v l 0=idxOf v (l.drop k) k)
  (fun e fr hh=>hh=hx h [] []/\((e=.exit 0/\idxOf v l 0= -1)\/(e=.ret/\fr 4=Ii (idxOf v l 0))))
  ⟨h8, rfl, by simp⟩ (by
   rintro k fr1 hh hkN hkeep ⟨g8,rfl,gi⟩;have g0:=kp hkeep h0;have g1:=kp hkeep h1;have g7:=kp hkeep h7;by_cases hlt:k < l.length
   ·have hget:l[k]?=some l[k]:=List.getElem?_eq_getElem hlt;rw [Xm v l k hlt] at gi;simp [iA,g8,g7,g0,g1,hlt,bO,Ke,zeE,hget]
    cases hb:(v==l[k])
    ·have hne:¬v=l[k]:=by simpa using hb
     simp [g8,hlt];exact ⟨wz,by rw [gi,if_neg hne]⟩
    ·have he:v=l[k]:=by simpa using hb
     rw [if_pos he] at gi;simp [gi]
   ·have:k=l.length:=by omega
    subst this;simp [iA,g8,g7];rw [gi];simp [idxOf])
 exact ⟨e,fr',rfl,hp⟩
theorem zfk (L:az)(h:O)(l:List Int)(v:Int)(hl:l.length < 274877906944):Z ah L jb [.vsl false (eI .i64 l),Ii v] h=some (Ii (idxOf v l 0),h):=by
 rw [xY];simp [mq];generalize hF:run ah _ (.loop _) _ _=R;obtain ⟨e,fr',rfl,⟨rfl,hi⟩ | ⟨rfl,hi⟩⟩:=Xo hF l v hl (by simp) (by simp) (by simp) (by simp)
 ·simp [hi]
 ·simp [hi]
theorem US (v:Int):∀ (l:List Int) (i:Nat),decide (idxOf v l i>=0)=l.contains v
 | [],i=>by simp [idxOf]
 | x :: l, i => by
  rw [idxOf,List.contains_cons,<- US v l (i+1)];by_cases h:v=x
  ·simp [h]
  ·simp [h,beq_false_of_ne h]
theorem pX (L:az)(h:O)(l:List Int)(v:Int)(hl:l.length < 274877906944):Z ah L fN [.vsl false (eI .i64 l),Ii v] h=some (.bool (l.contains v),h):=by
 rw [uS];simp [kb,zfk,hl];simpa using US v l 0
def wc (x:It):Int:=
 if (zw x.kind).length=0 then 5 else if (zw x.kind).contains x.typ=false then 6
 else if x.count < 1 then 7 else if x.count > most x.kind then 7 else if (x.label.size:Int) > 255 then 8 else 0
theorem sy (k:Int):(zw k).length < 274877906944:=by
 unfold zw;split <;> (try split) <;> (try split) <;> simp
theorem Nj (L:az)(h:O)(x:It):Z ah L lE [.agg x.cells] h=some (Ii (wc x),h):=by
 rw [KX];simp [It.cells,dQ,AE,zfg,pX,sy];by_cases h1:(zw x.kind).length=0
 ·have b1:(((zw x.kind).length:Int)==0)=true:=by simp [h1]
  simp [b1,wc,h1]
 ·have b1:(((zw x.kind).length:Int)==0)=false:=beq_false_of_ne (by omega);by_cases b2:x.typ∈zw x.kind
  case neg=>simp [b1,wc,h1,b2,pX,sy]
  case pos=>
   by_cases h3:x.count < 1
   ·simp [b1,wc,h1,b2,pX,sy,h3]
   ·by_cases h4:x.count > most x.kind
    ·simp [b1,wc,h1,b2,pX,sy,h3,h4]
    ·by_cases h5:(x.label.size:Int) > 255
     ·simp [b1,wc,h1,b2,pX,sy,h3,h4,h5]
     ·simp [b1,wc,h1,b2,pX,sy,h3,h4,h5]
def le (n:Int):Nat->List Int
 | 0=>[]
 | k+1=>le n k++[IntKind.u8.wrap (n.fdiv (2 ^ (8*k)))]
@[simp] theorem zl0 (n:Int):∀ k,(le n k).length=k
 | 0=>rfl
 | k+1=>by simp [le,zl0 n k]
theorem UY {L:az}{fr:Fr}{h:O}{R:Option (dt × Fr × O)}(hF:run ah ⟨L.rob,L.rot,h.blks.length,h.toks.length⟩ (.loop gm) fr (hx h [] [])=R)(b0:List Int)(n:Int)(m:Nat)(hm:m<=8)(hb:b0.length < 200000000000)(hL:L.rot<=h.toks.length)
  (h0:fr 0=.vsl true (eI .u8 b0)) (h1:fr 1=Ii n) (h8:fr 8=Ii m) (h9:fr 9=Ii 0):
  ∃ fr',R=some (.exit 0,fr',hx h [] (if m=0 then [] else [b0.length+m]))/\fr' 0=if m=0 then .vsl true (eI .u8 b0) else gA h.toks.length 0 (eI .u8 (b0++le n m)):=by
 obtain ⟨e,fr',h',rfl,⟨rfl,rfl,h3'⟩,hk⟩:=af hF m
  (fun k fr hh=>fr 9=Ii k/\fr 0=(if k=0 then .vsl true (eI .u8 b0) else gA h.toks.length 0 (eI .u8 (b0++le n k)))/\hh=hx h [] (if k=0 then [] else [b0.length+k]))
  (fun e fr hh=>e=.exit 0/\hh=hx h [] (if m=0 then [] else [b0.length+m])/\fr 0=if m=0 then .vsl true (eI .u8 b0) else gA h.toks.length 0 (eI .u8 (b0++le n m)))
  ⟨h9, by simpa using h0, by simp⟩ (by
   rintro k fr1 hh hkN hkeep ⟨g9,g0,rfl⟩;have g1:=kp hkeep h1;have g8:=kp hkeep h8;by_cases hlt:k < m
   ·have w1:Wr (8*(k:Int))=8*k:=wz;have w2:Wr ((k:Int)+1)=k+1:=wz;by_cases hk0:k=0
    ·subst hk0;simp [gm,g9,g8,g0,g1,hlt,w1,w2,al,rep,J.cells,J.okV,chunks,fq,zeO,IntKind.bits,Ql,ao,show b0.length+1 < 274877906944 by omega,le];exact wz
    ·simp [gm,g9,g8,g0,g1,hlt,hk0,w1,w2,al,rep,J.cells,J.okV,chunks,fq,zeO,IntKind.bits,A6,ao,hL,show b0.length+k+1 < 274877906944 by omega,show (0:Int)<=8*k by omega,show (8:Int)*k<=64 by omega,show 0 < b0.length+k by omega,le];rw [show (8*(k:Int)).toNat=8*k by omega];exact ⟨rfl,rfl⟩
   ·have:k=m:=by omega
    subst this;simp [gm,g9,g8,g0])
 exact ⟨fr',rfl,h3'⟩
theorem O2 (L:az)(h:O)(b0:List Int)(n:Int)(m:Nat)(hm0:0 < m)(hm:m<=8)(hb:b0.length < 200000000000)(hL:L.rot<=h.toks.length):
  Z ah L iD [.vsl true (eI .u8 b0),Ii n,Ii m] h=some (.gsl h.toks.length (eI .u8 (b0++le n m)),ptok h (b0.length+m)):=by
 rw [yX];simp [sX];generalize hF:run ah _ (.loop _) _ _=R;obtain ⟨fr',rfl,h3⟩:=UY hF b0 n m hm hb hL (by simp) (by simp) (by simp) (by simp);have hm1:¬m=0:=by omega
 simp [h3,hm1,zeV]
theorem KZ {L:az}{fr:Fr}{h:O}{R:Option (dt × Fr × O)}(hF:run ah ⟨L.rob,L.rot,h.blks.length,h.toks.length⟩ (.loop gm) fr (hx h [] [])=R)(t:Nat)(b0:List Int)(n:Int)(m:Nat)(hm:m<=8)(hb:b0.length < 200000000000)(hb0:0 < b0.length)(hL:L.rot<=t)(ht:h.toks[t]?=some b0.length)
  (h0:fr 0=.gsl t (eI .u8 b0)) (h1:fr 1=Ii n) (h8:fr 8=Ii m) (h9:fr 9=Ii 0):
  ∃ fr',R=some (.exit 0,fr',hx (yP h t (b0.length+m)) [] [])/\fr' 0=.gsl t (eI .u8 (b0++le n m)):=by
 have hlt0:=(List.getElem?_eq_some_iff.1 ht).1;have hself:yP h t b0.length=h:=by
  unfold yP;rw [show h.toks.set t b0.length=h.toks from ?_];refine List.ext_getElem? fun i=>?_;by_cases e:t=i
  ·subst e;rw [List.getElem?_set_self hlt0,ht]
  ·rw [List.getElem?_set_ne e]
 obtain ⟨e,fr',h',rfl,⟨rfl,rfl,h3'⟩,hk⟩:=af hF m
  (fun k fr hh=>fr 9=Ii k/\fr 0=.gsl t (eI .u8 (b0++le n k))/\hh=hx (yP h t (b0.length+k)) [] [])
  (fun e fr hh=>e=.exit 0/\hh=hx (yP h t (b0.length+m)) [] []/\fr 0=.gsl t (eI .u8 (b0++le n m)))
  ⟨h9, by simpa [le] using h0, by simp [hself]⟩ (by
   rintro k fr1 hh hkN hkeep ⟨g9,g0,rfl⟩;have g1:=kp hkeep h1;have g8:=kp hkeep h8;by_cases hlt:k < m
   ·have w1:Wr (8*(k:Int))=8*k:=wz;have w2:Wr ((k:Int)+1)=k+1:=wz;have ht':(yP h t (b0.length+k)).toks[t]?=some (eI .u8 (b0++le n k)).length:=by simp [yP,hlt0]
    have ha:=zeY ⟨L.rob,L.rot,h.blks.length,h.toks.length⟩ (yP h t (b0.length+k)) [] [] 1 t true (eI .u8 (b0++le n k)) (eI .u8 [IntKind.u8.wrap (n.fdiv (2 ^ (8*k)))]) ht'
     (by simp [ao,hL];omega)
    have hs:yP (yP h t (b0.length+k)) t (b0.length+k+1)=yP h t (b0.length+(k+1)):=by simp [yP,Nat.add_assoc]
    simp [hs] at ha;simp [gm,g9,g8,g0,g1,hlt,w1,w2,al,rep,J.cells,J.okV,chunks,fq,zeO,IntKind.bits,show (0:Int)<=8*k by omega,show (8:Int)*k<=64 by omega,show (8*(k:Int)).toNat=8*k by omega,ha,le]
   ·have:k=m:=by omega
    subst this;simp [gm,g9,g8,g0])
 exact ⟨fr',rfl,h3'⟩
theorem O3 (L:az)(h:O)(t:Nat)(b0:List Int)(n:Int)(m:Nat)(hm:m<=8)(hb:b0.length < 200000000000)(hb0:0 < b0.length)(hL:L.rot<=t)(ht:h.toks[t]?=some b0.length):
  Z ah L iD [.gsl t (eI .u8 b0),Ii n,Ii m] h=some (.gsl t (eI .u8 (b0++le n m)),yP h t (b0.length+m)):=by
 rw [yX];simp [sX];generalize hF:run ah _ (.loop _) _ _=R;obtain ⟨fr',rfl,h3⟩:=KZ hF t b0 n m hm hb hb0 hL ht (by simp) (by simp) (by simp) (by simp);have hlt0:=(List.getElem?_eq_some_iff.1 ht).1;simp [h3,zeW,hlt0]
theorem Xw (L:az)(h:O)(bs:List (List J))(ts:List Nat)(b0:List Int)(n m:Int)(hc:(decide (0 < m)&&decide (m<=8)&&decide (b0.length < 200000000000)&&decide (L.rot<=h.toks.length))=true):
  Z ah L iD [.vsl true (eI .u8 b0),Ii n,Ii m] (hx h bs ts)=some (gA h.toks.length ts.length (eI .u8 (b0++le n m.toNat)),hx h bs (ts++[b0.length+m.toNat])):=by
 simp only [Bool.and_eq_true,decide_eq_true_eq] at hc;obtain ⟨k,rfl⟩:∃ k:Nat,m=k:=⟨m.toNat,by omega⟩;rw [O2 L (hx h bs ts) b0 n k (by omega) (by omega) hc.1.2 (by rw [aA];omega),Y2,aA];rfl
theorem Xy (L:az)(h:O)(bs:List (List J))(ts:List Nat)(i:Nat)(b0:List Int)(n m:Int)
  (hc:(decide (0<=m)&&decide (m<=8)&&decide (b0.length < 200000000000)&&decide (0 < b0.length)&&decide (L.rot<=h.toks.length)&&(ts[i]?==some b0.length))=true):
  Z ah L iD [gA h.toks.length i (eI .u8 b0),Ii n,Ii m] (hx h bs ts)=some (gA h.toks.length i (eI .u8 (b0++le n m.toNat)),hx h bs (ts.set i (b0.length+m.toNat))):=by
 simp only [Bool.and_eq_true,decide_eq_true_eq,beq_iff_eq] at hc;obtain ⟨⟨⟨⟨⟨c0,c1⟩,c2⟩,c3⟩,c4⟩,c5⟩:=hc;obtain ⟨k,rfl⟩:∃ k:Nat,m=k:=⟨m.toNat,by omega⟩;have ht:(hx h bs ts).toks[h.toks.length+i]?=some b0.length:=by
  simp only [hx];rw [List.getElem?_append_right (Nat.le_add_right _ _),Nat.add_sub_cancel_left];exact c5
 unfold gA;rw [O3 L (hx h bs ts) (h.toks.length+i) b0 n k (by omega) c2 c3 (by omega) ht,zhV];rfl
def JS (x:It):List Int:=[IntKind.u8.wrap x.kind,IntKind.u8.wrap x.typ]++le x.count 4++le x.label.size 2++bts x.label
theorem U4 (k t c:Int)(lb:ByteArray)(h:k < 1\/k > 3):wc ⟨k,t,c,lb⟩=5:=by
 have h1:k≠1:=by omega
 have h2:k≠2:=by omega
 have h3:k≠3:=by omega
 simp [wc,zw,h1,h2,h3]
theorem Zt (k t c:Int)(lb:ByteArray)(hk:k=1\/k=2\/k=3)(h:k=1/\(t < 1\/t > 4)\/k=2/\t≠1/\t≠3\/k=3/\t≠0):wc ⟨k,t,c,lb⟩=6:=by
 rcases hk with rfl | rfl | rfl
 ·simp [wc,zw];omega
 ·simp [wc,zw];omega
 ·simp [wc,zw];omega
theorem U2 (k t c:Int)(lb:ByteArray)(hk:k=1\/k=2\/k=3)(h:¬(k=1/\(t < 1\/t > 4)\/k=2/\t≠1/\t≠3\/k=3/\t≠0)):
  wc ⟨k,t,c,lb⟩=if c < 1\/c > 1048576\/k=3/\c≠1 then 7 else if (lb.size:Int) > 255 then 8 else 0:=by
 have hmem:(zw k).contains t=true:=by
  rcases hk with rfl | rfl | rfl <;> simp [zw] <;> omega
 have hlen : ¬ (zw k).length = 0 := fun h => by
  have:=List.eq_nil_of_length_eq_zero h;rw [this] at hmem;simp at hmem
 unfold wc;simp only [hlen,if_false,hmem,Bool.true_eq_false];by_cases c1:c < 1
 ·simp [c1]
 ·rcases hk with rfl | rfl | rfl
  ·simp [c1,most]
  ·simp [c1,most]
  ·by_cases c2:c=1
   ·simp [c2,most]
   ·simp [c1,c2,most];intro h;omega
theorem we {x:It}(h:wc x=0):1<=x.kind/\x.kind<=3/\0<=x.typ/\x.typ<=4/\1<=x.count/\x.count<=1048576/\x.label.size<=255:=by
 obtain ⟨k,t,c,lb⟩:=x;by_cases hk:k < 1\/k > 3
 ·rw [U4 k t c lb hk] at h;omega
 ·have hk':k=1\/k=2\/k=3:=by omega
  by_cases hb:k=1/\(t < 1\/t > 4)\/k=2/\t≠1/\t≠3\/k=3/\t≠0
  ·rw [Zt k t c lb hk' hb] at h;omega
  ·rw [U2 k t c lb hk' hb] at h;split at h
   ·omega
   ·split at h
    ·omega
    ·simp only;omega
theorem Qy (L:az)(h:O)(x:It):Z ah L sM [.agg x.cells] h=
  some (if wc x=0 then .tup [.vsl false (eI .u8 (JS x)),Ii 0] else .tup [.vsl false [],Ii (wc x)],h):=by
 rw [I5];have e:bC [J.int .i64 x.kind,Ii x.typ,Ii x.count,.str x.label]=true:=rfl;have hck:=Nj;simp only [It.cells] at hck |-;simp [dQ,yk,aa,hck];by_cases h0:wc x=0
 ·have b0:(wc x==0)=true:=by simp [h0]
  have hs:x.label.size < 1000000000:=by have:=(we h0).2.2.2.2.2.2;omega
  simp [h0,al,rep,J.cells,J.okV,chunks,Xw,Xy,V,fq,xC,le,zeL,ao,show 8+x.label.size < 274877906944 by omega,Rh,JS]
 ·have b0:(wc x==0)=false:=by simp [h0]
  simp [bne,b0];exact fun e=>absurd e h0
@[simp] theorem zfP (x:It):(JS x).length=8+x.label.size:=by simp [JS];omega
def fu:List It->Nat->List Int->List Int × Int × Int
 | [],_,out=>(out, -1,0)
 | x :: l,k,out=>if k=1024 then ([],k,9) else if wc x=0 then fu l (k+1) (out++JS x) else ([],k,wc x)
theorem QB (l:List It)(k:Nat)(out:List Int)(hk:k < l.length):fu (l.drop k) k out=if k=1024 then ([],(k:Int),9) else if wc l[k]=0 then fu (l.drop (k+1)) (k+1) (out++JS l[k]) else ([],(k:Int),wc l[k]):=by
 rw [List.drop_eq_getElem_cons hk,fu]
theorem zfR {fr:Fr}{h:O}{R:Option (dt × Fr × O)}(l:List It)(hn:l.length<=2000)
  (hF:run ah (V h) (.loop eE) fr (hx h [] [])=R)
  (h5:fr 5=.nsl) (h10:fr 10=.vsl false (l.map It.cells)) (h11:fr 11=Ii l.length) (h12:fr 12=Ii 0):
  ∃ e fr' bs ts,R=some (e,fr',hx h bs ts)/\((e=.exit 0/\∃ out,fu l 0 []=(out, -1,0)/\fr' 5=gL .nsl h.toks.length 0 (eI .u8 out))\/(e=.ret/\fr' 2=.nsl/\(fu l 0 []).1=[]/\fr' 3=Ii (fu l 0 []).2.1/\fr' 4=Ii (fu l 0 []).2.2)):=by
 obtain ⟨e,fr',h',rfl,⟨bs,ts,rfl,hp⟩,hk⟩:=af hF l.length
  (fun k fr hh=>fr 12=Ii k/\∃ bs out,hh=hx h bs (gT (eI .u8 out))/\fr 5=gL .nsl h.toks.length 0 (eI .u8 out)/\fu l 0 []=fu (l.drop k) k out/\out.length<=k*1000008)
  (fun e fr hh=>∃ bs ts,hh=hx h bs ts/\((e=.exit 0/\∃ out,fu l 0 []=(out, -1,0)/\fr 5=gL .nsl h.toks.length 0 (eI .u8 out))\/(e=.ret/\fr 2=.nsl/\(fu l 0 []).1=[]/\fr 3=Ii (fu l 0 []).2.1/\fr 4=Ii (fu l 0 []).2.2)))
  ⟨h12, [], [], by simp [gT], by simpa [gL] using h5, by simp, by simp⟩ (by
   rintro k fr1 hh hkN hkeep ⟨g12,bs,out,rfl,g5,gs,go⟩;have g10:=kp hkeep h10;have g11:=kp hkeep h11;by_cases hlt:k < l.length
   ·have w1:Wr ((k:Int)+1)=k+1:=wz;have hget:l[k]?=some l[k]:=List.getElem?_eq_getElem hlt;rw [QB l k out hlt] at gs;by_cases h1024:k=1024
    ·rw [if_pos h1024] at gs;subst h1024;simp [eE,g12,g11,g10,g5,hlt,show (1024:Int) < l.length by omega,bO,Ke,hget,aa,au,V,ae];exact ⟨⟨_,_,rfl⟩,by rw [gs],by rw [gs];rfl,by rw [gs]⟩
    ·rw [if_neg h1024] at gs;have b1024:((k:Int)==1024)=false:=beq_false_of_ne (by omega);by_cases hc:wc l[k]=0
     ·rw [if_pos hc] at gs;have hsz:=(we hc).2.2.2.2.2.2;have hroom:out.length+(8+l[k].label.size) < 274877906944:=by omega
      simp [eE,g12,g11,g10,g5,hlt,show (k:Int) < l.length by omega,bO,Ke,hget,aa,au,V,ae,b1024,Qy,hc,LC,ao,hroom,w1];exact ⟨_,out++JS l[k],rfl,rfl,gs,by simp;omega⟩
     ·rw [if_neg hc] at gs;have bc:(wc l[k]==0)=false:=beq_false_of_ne hc;simp [eE,g12,g11,g10,g5,hlt,show (k:Int) < l.length by omega,bO,Ke,hget,aa,au,V,ae,b1024,Qy,hc,bne,bc];exact ⟨⟨_,_,rfl⟩,by rw [gs],by rw [gs],by rw [gs]⟩
   ·have:k=l.length:=by omega
    subst this;simp [eE,g12,g11,g5];exact ⟨⟨_,_,rfl⟩,out,by rw [gs];simp [fu],rfl⟩)
 exact ⟨e,fr',bs,ts,rfl,hp⟩
theorem zma (L:az)(h:O)(l:List It)(hn:l.length<=2000):
  Z ah L kH [.vsl false (l.map It.cells)] h=some (.tup [.vsl false (eI .u8 (fu l 0 []).1),Ii (fu l 0 []).2.1,Ii (fu l 0 []).2.2],h):=by
 rw [Bb];simp [oH, -List.map_take];generalize hF:run ah _ (.loop _) _ _=R;obtain ⟨e,fr',bs,ts,rfl,⟨rfl,out,e1,e2⟩ | ⟨rfl,e1,e2,e3,e4⟩⟩:=zfR l hn hF (by simp) (by simp) (by simp) (by simp)
 ·rw [e1];simp [e2,v6]
 ·rw [e2];simp [e1,e3,e4]
theorem rt (k m:Nat):(k:Int).tmod (m:Int)=((k % m:Nat):Int):=by rw [Int.tmod_eq_emod_of_nonneg (by omega)];omega
theorem vS (k m:Nat):(k:Int).tdiv (m:Int)=((k / m:Nat):Int):=by rw [Int.tdiv_eq_ediv_of_nonneg (by omega)];omega
theorem Us (k:Nat):(k:Int).tdiv 2=((k / 2:Nat):Int):=vS k 2
theorem eF (n:Nat)(h:n < 9223372036854775808):Wr (n:Int)=n:=wz
def cw (l:List Int):Prop:=∀ i,i < l.length->0<=gd l 0 i/\gd l 0 i < 256
theorem pB {α:Type}(l:List α)(d v:α)(i j:Nat)(hi:i < l.length):gd (l.set i v) d j=if i=j then v else gd l d j:=by
 unfold gd;simp only [List.getD,List.getElem?_set]
 split <;> simp_all
theorem vd {α:Type}(l m:List α)(d:α)(j:Nat)(hj:j < l.length):gd (l++m) d j=gd l d j:=by
 unfold gd;simp only [List.getD,List.getElem?_append_left hj]
theorem xq {α:Type}(l m:List α)(d:α)(j:Nat)(hj:l.length<=j):gd (l++m) d j=gd m d (j - l.length):=by
 unfold gd;simp only [List.getD,List.getElem?_append_right hj]
theorem MI (v:Nat)(hv:v < 256):(bw (v:Int)).toNat=v:=by unfold bw;rw [BitVec.toNat_ofInt];omega
def bi:List Int->Nat
 | []=>0
 | x :: l=>x.toNat+256*bi l
theorem RI {l : List Int}(h : cw l) : ∀ x ∈ l, 0 <= x /\ x < 256 := fun x hx => by
 obtain ⟨i,hi,rfl⟩:=List.getElem_of_mem hx;have:=h i hi
 rwa [gd,List.getD,List.getElem?_eq_getElem hi] at this
theorem JF {l : List Int}(h : ∀ x ∈ l, 0 <= x /\ x < 256) : cw l := fun i hi => by
 rw [gd,List.getD,List.getElem?_eq_getElem hi];exact h _ (List.getElem_mem hi)
theorem yd:∀ {l:List Int},cw l->bi l < 256 ^ l.length
 | [],_=>by simp [bi]
 | x :: l, h => by
  have h1:=RI h x (by simp);have h2:=yd (JF (l:=l) fun y hy=>RI h y (by simp [hy]));simp only [bi,List.length_cons,Nat.pow_succ];omega
theorem MK:∀ (l:List Int) (x:Int),bi (l++[x])=bi l+x.toNat*256 ^ l.length
 | [],x=>by simp [bi]
 | y :: l, x => by
  simp only [List.cons_append,bi,MK l x,List.length_cons,Nat.pow_succ,Nat.mul_add,Nat.add_assoc,Nat.mul_comm,Nat.mul_left_comm]
theorem lS {l:List Int}(h:cw l)(n:Nat):cw (l.take n):=JF fun x hx=>RI h x (List.mem_of_mem_take hx)
theorem oZ {l:List Int}(h:cw l)(n:Nat):cw (l.drop n):=JF fun x hx=>RI h x (List.mem_of_mem_drop hx)
def bck (b:List Int)(q k:Nat):List Int:=(b.take (min k (8*q+8))).drop (8*q)
theorem zh8 (b:List Int)(q k:Nat)(hk:k<=b.length):(bck b q k).length=min k (8*q+8) - 8*q:=by simp [bck];omega
def EH (b:List Int)(n:Nat):Nat->List ac
 | 0=>tab n fun _=>0#64
 | k+1=>(EH b n k).set (k / 8) (gd (EH b n k) 0#64 (k / 8)|||(bw (gd b 0 k) <<< (8*(k % 8))))
@[simp] theorem Lx (b:List Int)(n:Nat):∀ k,(EH b n k).length=n
 | 0=>by simp [EH]
 | k+1=>by simp [EH,Lx b n k]
theorem zlm (w:ac)(v m:Nat)(hv:v < 256)(hm:m < 8)(hw:w.toNat < 256 ^ m):(w|||(bw (v:Int) <<< (8*m))).toNat=w.toNat+v*256 ^ m:=by
 have e:256 ^ m=2 ^ (8*m):=by rw [show (256:Nat)=2 ^ 8 from rfl,<- Nat.pow_mul]
 rw [e] at hw |-;have h8:(2:Nat) ^ (8*m)*256<=2 ^ 64:=by
  rw [show (256:Nat)=2 ^ 8 from rfl,<- Nat.pow_add];exact Nat.pow_le_pow_right (by decide) (by omega)
 have hlt:v <<< (8*m) < 2 ^ 64:=by
  rw [Nat.shiftLeft_eq]
  calc v*2 ^ (8*m) < 256*2 ^ (8*m):=Nat.mul_lt_mul_of_pos_right hv (Nat.two_pow_pos _)
   _<=2 ^ 64:=by rw [Nat.mul_comm];exact h8
 rw [BitVec.toNat_or,BitVec.toNat_shiftLeft,MI v hv,Nat.mod_eq_of_lt hlt,Nat.or_comm,<- Nat.shiftLeft_add_eq_or_of_lt hw,Nat.shiftLeft_eq,Nat.add_comm]
theorem WS (b:List Int)(hb:cw b)(n:Nat):∀ k,k<=b.length->k<=8*n->∀ q,q < n->(gd (EH b n k) 0#64 q).toNat=bi (bck b q k)
 | 0,_,_,q,hq=>by rw [EH,dZ hq];simp [bck,bi]
 | k + 1, hk, hn, q, hq => by
  have ih:=WS b hb n k (by omega) (by omega) q hq;have hlen:=zh8 b q k (by omega);have hlt:=yd (oZ (lS hb (min k (8*q+8))) (8*q));have hbk:=hb k (by omega);rw [EH];rw [pB _ _ _ _ _ (by simp;omega)];by_cases h:k / 8=q
  ·rw [if_pos h,h];obtain ⟨v,hv⟩:∃ v:Nat,gd b 0 k=(v:Int):=⟨(gd b 0 k).toNat,by omega⟩;have hm:(bck b q k).length=k % 8:=by rw [hlen];omega
   have hsn:bck b q (k+1)=bck b q k++[gd b 0 k]:=by
    unfold bck;rw [show min (k+1) (8*q+8)=k+1 by omega,show min k (8*q+8)=k by omega,rK 0 (by omega),List.drop_append_of_le_length (by simp;omega)]
   rw [hsn,MK,hm,<- ih,hv,zlm _ v _ (by omega) (by omega) ?_]
   ·simp
   ·rw [ih,<- hm];exact hlt
  ·rw [if_neg h,ih]
   congr 1
   unfold bck;by_cases h2:k < 8*q
   ·rw [List.drop_eq_nil_of_le (by simp;omega),List.drop_eq_nil_of_le (by simp;omega)]
   ·rw [show min (k+1) (8*q+8)=min k (8*q+8) by omega]
def val:List ac->Nat
 | []=>0
 | w :: l=>w.toNat+18446744073709551616*val l
def pN:Nat:=21888242871839275222246405745257275088548364400416034343698204186575808495617
def rN:Nat:=115792089237316195423570985008687907853269984665640564039457584007913129639936
def pW:List ac:=[0x43e1f593f0000001#64,0x2833e84879b97091#64,0xb85045b68181585d#64,0x30644e72e131a029#64]
def vV:ac:=14042775128853446655#64
theorem zjz:val pW=pN:=by decide +kernel
theorem znT:(1+vV.toNat*(0x43e1f593f0000001:Nat)) % 18446744073709551616=0:=by decide +kernel
def w4 (x:Nat):List ac:=[BitVec.ofNat 64 x,BitVec.ofNat 64 (x / 18446744073709551616),BitVec.ofNat 64 (x / 340282366920938463463374607431768211456),BitVec.ofNat 64 (x / 6277101735386680763835789423207666416102355444464034512896)]
@[simp] theorem Bo (x:Nat):(w4 x).length=4:=rfl
theorem Ji (x:Nat)(h:x < rN):val (w4 x)=x:=by
 simp only [w4,val,BitVec.toNat_ofNat];unfold rN at h;omega
theorem Aj {l:List ac}(h:l.length=4):∃ a b c d,l=[a,b,c,d]:=by
 match l,h with
 | [a,b,c,d],_=>exact ⟨a,b,c,d,rfl⟩
theorem Yh {l:List ac}(h:l.length=5):∃ a b c d e,l=[a,b,c,d,e]:=by
 match l,h with
 | [a,b,c,d,e],_=>exact ⟨a,b,c,d,e,rfl⟩
theorem Q1 {l:List ac}(h:l.length=4):val l < rN:=by
 obtain ⟨a,b,c,d,rfl⟩:=Aj h;have:=a.isLt;have:=b.isLt;have:=c.isLt;have:=d.isLt;simp only [val];unfold rN;omega
theorem WC {l:List ac}(h:l.length=4):w4 (val l)=l:=by
 obtain ⟨a,b,c,d,rfl⟩:=Aj h;have h1:=a.isLt;have h2:=b.isLt;have h3:=c.isLt;have h4:=d.isLt;have e : ∀ (w : ac) (n : Nat), n % 18446744073709551616 = w.toNat -> BitVec.ofNat 64 n = w := fun w n hn => by
  apply BitVec.eq_of_toNat_eq;rw [BitVec.toNat_ofNat];exact hn
 simp only [val,w4];rw [e a _ (by omega),e b _ (by omega),e c _ (by omega),e d _ (by omega)]
def HS (a x y c:ac):ac:=BitVec.ofNat 64 (a.toNat+x.toNat*y.toNat+c.toNat)
def Ki (a x y c:ac):ac:=BitVec.ofNat 64 ((a.toNat+x.toNat*y.toNat+c.toNat) / 18446744073709551616)
theorem Ds (a x y c:ac):(HS a x y c).toNat+18446744073709551616*(Ki a x y c).toNat=a.toNat+x.toNat*y.toNat+c.toNat:=by
 have h1:=a.isLt;have h2:=x.isLt;have h3:=y.isLt;have h4:=c.isLt;have h5:x.toNat*y.toNat<=18446744073709551615*18446744073709551615:=Nat.mul_le_mul (by omega) (by omega);simp only [HS,Ki,BitVec.toNat_ofNat];omega
def cd (t:List ac)(x:ac)(b:List ac):Nat->List ac × ac
 | 0=>(t,0#64)
 | j+1=>((cd t x b j).1.set j (HS (gd (cd t x b j).1 0#64 j) x (gd b 0#64 j) (cd t x b j).2),Ki (gd (cd t x b j).1 0#64 j) x (gd b 0#64 j) (cd t x b j).2)
def pv (t:List ac)(k:ac):Nat->List ac × ac
 | 0=>(t,Ki (gd t 0#64 0) k (gd pW 0#64 0) 0#64)
 | j+1=>((pv t k j).1.set j (HS (gd (pv t k j).1 0#64 (j+1)) k (gd pW 0#64 (j+1)) (pv t k j).2),Ki (gd (pv t k j).1 0#64 (j+1)) k (gd pW 0#64 (j+1)) (pv t k j).2)
def YR (t:List ac)(c:ac):List ac:=t.set 4 (gd t 0#64 4+c)
def zba (u:List ac)(c:ac):List ac:=(u.set 3 (BitVec.ofNat 64 ((gd u 0#64 4).toNat+c.toNat))).set 4 (BitVec.ofNat 64 (((gd u 0#64 4).toNat+c.toNat) / 18446744073709551616))
def Dj (t:List ac)(x:ac)(b:List ac):List ac:=
 zba (pv (YR (cd t x b 4).1 (cd t x b 4).2) (gd (YR (cd t x b 4).1 (cd t x b 4).2) 0#64 0*vV) 3).1 (pv (YR (cd t x b 4).1 (cd t x b 4).2) (gd (YR (cd t x b 4).1 (cd t x b 4).2) 0#64 0*vV) 3).2
def oV (a b:List ac):Nat->List ac
 | 0=>tab 5 fun _=>0#64
 | i+1=>Dj (oV a b i) (gd a 0#64 i) b
@[simp] theorem vX (t:List ac)(x:ac)(b:List ac):∀ j,(cd t x b j).1.length=t.length
 | 0=>rfl
 | j+1=>by simp [cd,vX t x b j]
@[simp] theorem MW (t:List ac)(k:ac):∀ j,(pv t k j).1.length=t.length
 | 0=>rfl
 | j+1=>by simp [pv,MW t k j]
@[simp] theorem zih (t:List ac)(c:ac):(YR t c).length=t.length:=by simp [YR]
@[simp] theorem zoM (t:List ac)(c:ac):(zba t c).length=t.length:=by simp [zba]
@[simp] theorem zlx (t:List ac)(x:ac)(b:List ac):(Dj t x b).length=t.length:=by simp [Dj]
@[simp] theorem zm (a b:List ac):∀ i,(oV a b i).length=5
 | 0=>rfl
 | i+1=>by simp [oV,zm a b i]
theorem zij (t0 t1 t2 t3 t4 x b0 b1 b2 b3:ac):∃ l0 l1 l2 l3 c,cd [t0,t1,t2,t3,t4] x [b0,b1,b2,b3] 4=([l0,l1,l2,l3,t4],c)/\
  l0.toNat+18446744073709551616*(l1.toNat+18446744073709551616*(l2.toNat+18446744073709551616*(l3.toNat+18446744073709551616*c.toNat)))=
   t0.toNat+18446744073709551616*(t1.toNat+18446744073709551616*(t2.toNat+18446744073709551616*t3.toNat))+x.toNat*val [b0,b1,b2,b3]:=by
 refine ⟨_,_,_,_,_,rfl,?_⟩;simp only [gd,List.getD_cons_zero,List.getD_cons_succ,List.set_cons_zero,List.set_cons_succ,cd];have q0:=Ds t0 x b0 0#64;generalize Ki t0 x b0 0#64=c0,HS t0 x b0 0#64=l0 at*;have q1:=Ds t1 x b1 c0;generalize Ki t1 x b1 c0=c1,HS t1 x b1 c0=l1 at*;have q2:=Ds t2 x b2 c1;generalize Ki t2 x b2 c1=c2,HS t2 x b2 c1=l2 at*;have q3:=Ds t3 x b3 c2;generalize Ki t3 x b3 c2=c3,HS t3 x b3 c2=l3 at*;simp only [val,Nat.mul_add,Nat.mul_zero,Nat.add_zero,BitVec.toNat_zero] at*;have e1:x.toNat*(18446744073709551616*b1.toNat)=18446744073709551616*(x.toNat*b1.toNat):=by rw [Nat.mul_left_comm]
 have e2:x.toNat*(18446744073709551616*(18446744073709551616*b2.toNat))=18446744073709551616*(18446744073709551616*(x.toNat*b2.toNat)):=by rw [Nat.mul_left_comm,Nat.mul_left_comm x.toNat]
 have e3:x.toNat*(18446744073709551616*(18446744073709551616*(18446744073709551616*b3.toNat)))=18446744073709551616*(18446744073709551616*(18446744073709551616*(x.toNat*b3.toNat))):=by
  rw [Nat.mul_left_comm,Nat.mul_left_comm x.toNat,Nat.mul_left_comm x.toNat]
 rw [e1,e2,e3];generalize x.toNat*b3.toNat=m3,x.toNat*b2.toNat=m2,x.toNat*b1.toNat=m1,x.toNat*b0.toNat=m0 at*;omega
theorem zik (t0 t1 t2 t3 t4:ac):∃ r0 r1 r2 t3' c,pv [t0,t1,t2,t3,t4] (t0*vV) 3=([r0,r1,r2,t3',t4],c)/\
  18446744073709551616*(r0.toNat+18446744073709551616*(r1.toNat+18446744073709551616*(r2.toNat+18446744073709551616*c.toNat)))=
   t0.toNat+18446744073709551616*(t1.toNat+18446744073709551616*(t2.toNat+18446744073709551616*t3.toNat))+(t0*vV).toNat*pN:=by
 refine ⟨_,_,_,_,_,rfl,?_⟩;have hk:(t0.toNat+(t0*vV).toNat*0x43e1f593f0000001) % 18446744073709551616=0:=by
  rw [BitVec.toNat_mul];have:=znT;rw [show vV.toNat=14042775128853446655 from rfl] at this |-;omega
 generalize t0*vV=k at*;simp only [gd,List.getD_cons_zero,List.getD_cons_succ,List.set_cons_zero,List.set_cons_succ,pv,pW];have q0:=Ds t0 k 0x43e1f593f0000001#64 0#64;generalize Ki t0 k 0x43e1f593f0000001#64 0#64=c0,HS t0 k 0x43e1f593f0000001#64 0#64=l0 at*;have q1:=Ds t1 k 0x2833e84879b97091#64 c0;generalize Ki t1 k 0x2833e84879b97091#64 c0=c1,HS t1 k 0x2833e84879b97091#64 c0=l1 at*;have q2:=Ds t2 k 0xb85045b68181585d#64 c1;generalize Ki t2 k 0xb85045b68181585d#64 c1=c2,HS t2 k 0xb85045b68181585d#64 c1=l2 at*;have q3:=Ds t3 k 0x30644e72e131a029#64 c2;generalize Ki t3 k 0x30644e72e131a029#64 c2=c3,HS t3 k 0x30644e72e131a029#64 c2=l3 at*;have z0:l0.toNat < 18446744073709551616:=l0.isLt;rw [show (0x43e1f593f0000001#64:ac).toNat=0x43e1f593f0000001 from rfl,show (0#64:ac).toNat=0 from rfl] at q0;rw [show (0x2833e84879b97091#64:ac).toNat=0x2833e84879b97091 from rfl] at q1;rw [show (0xb85045b68181585d#64:ac).toNat=0xb85045b68181585d from rfl] at q2;rw [show (0x30644e72e131a029#64:ac).toNat=0x30644e72e131a029 from rfl] at q3;have hl0:l0.toNat=0:=by omega
 unfold pN;omega
theorem zbI {t b:List ac}(ht:t.length=5)(hb:b.length=4)(x:ac)(h1:val t < 2*pN)(h2:val b < pN):
  ∃ k,18446744073709551616*val (Dj t x b)=val t+x.toNat*val b+k*pN/\val (Dj t x b) < 2*pN:=by
 obtain ⟨t0,t1,t2,t3,t4,rfl⟩:=Yh ht;obtain ⟨b0,b1,b2,b3,rfl⟩:=Aj hb;obtain ⟨l0,l1,l2,l3,c,e1,q1⟩:=zij t0 t1 t2 t3 t4 x b0 b1 b2 b3;have hx:=x.isLt;have hm:x.toNat*val [b0,b1,b2,b3]<=18446744073709551615*(pN - 1):=Nat.mul_le_mul (by omega) (by omega);unfold Dj;rw [e1];simp only [YR,gd,List.getD_cons_zero,List.getD_cons_succ,List.set_cons_zero,List.set_cons_succ];generalize val [b0,b1,b2,b3]=vb at*;obtain ⟨r0,r1,r2,t3',c',e2,q2⟩:=zik l0 l1 l2 l3 (t4+c);rw [e2];have hkl:(l0*vV).toNat<=18446744073709551615:=by have:=(l0*vV).isLt;omega
 have hkp:(l0*vV).toNat*pN<=18446744073709551615*pN:=Nat.mul_le_mul_right _ hkl;refine ⟨(l0*vV).toNat,?_⟩;generalize x.toNat*vb=m,(l0*vV).toNat*pN=kp at*;have h4:=t4.isLt;have hc:=c.isLt;have hc':=c'.isLt;have z0:=l0.isLt;have z1:=l1.isLt;have z2:=l2.isLt;have z3:=l3.isLt;have y0:=r0.isLt;have y1:=r1.isLt;have y2:=r2.isLt;simp only [val,Nat.mul_zero,Nat.add_zero,pN] at h1 hm hkp;have e4:(t4+c).toNat=t4.toNat+c.toNat:=by
  rw [BitVec.toNat_add];omega
 simp only [zba,gd,List.getD_cons_zero,List.getD_cons_succ,List.set_cons_zero,List.set_cons_succ,val,BitVec.toNat_ofNat,e4,Nat.mul_zero,Nat.add_zero,pN];omega
theorem UI:∀ (l:List ac) (w:ac),val (l++[w])=val l+w.toNat*18446744073709551616 ^ l.length
 | [],w=>by simp [val]
 | a :: l, w => by
  simp only [List.cons_append,val,UI l w,List.length_cons,Nat.pow_succ,Nat.mul_add,Nat.add_assoc,Nat.mul_comm,Nat.mul_left_comm]
theorem UK {a b:List ac}(ha:a.length=4)(hb:b.length=4)(h2:val b < pN):∀ i,i<=4->val (oV a b i) < 2*pN/\∃ k,18446744073709551616 ^ i*val (oV a b i)=val (a.take i)*val b+k*pN
 | 0, _ => by
  have h0:val (oV a b 0)=0:=(show val (tab 5 fun _=>0#64)=0 by decide +kernel);exact ⟨by rw [h0];decide +kernel,0,by rw [h0];simp [val]⟩
 | i + 1, hi => by
  obtain ⟨h3,k,hk⟩:=UK ha hb h2 i (by omega);obtain ⟨k',hk',hlt⟩:=zbI (zm a b i) hb (gd a 0#64 i) h3 h2;refine ⟨hlt,k+k'*18446744073709551616 ^ i,?_⟩;have hil:i < a.length:=by omega
  rw [rK 0#64 hil,UI,List.length_take,Nat.min_eq_left (by omega)];show 18446744073709551616 ^ (i+1)*val (Dj (oV a b i) (gd a 0#64 i) b)=_;rw [Nat.pow_succ,Nat.mul_assoc,hk'];generalize val (a.take i)=va,(gd a 0#64 i).toNat=g,val b=vb,val (oV a b i)=v,18446744073709551616 ^ i=q at*
  grind
def RK:Nat:=9915499612839321149637521777990102151350674507940716049588462388200839649614
theorem zjV:rN*RK % pN=1:=by decide +kernel
def MZ (a b:Nat):Nat:=a*b*RK % pN
theorem JG:0 < pN:=by decide
def zo (x:Nat):Nat:=if x < pN then x else x - pN
theorem M2 {x:Nat}(h:x < 2*pN):zo x=x % pN:=by
 unfold zo;split
 ·rw [Nat.mod_eq_of_lt (by assumption)]
 ·rw [Nat.mod_eq_sub_mod (by omega),Nat.mod_eq_of_lt (by omega)]
theorem zir {x:Nat}(h:x < 2*pN):zo x < pN:=by rw [M2 h];exact Nat.mod_lt _ JG
theorem W4 {a b:List ac}(ha:a.length=4)(hb:b.length=4)(h2:val b < pN):val ((oV a b 4).take 4) < 2*pN/\zo (val ((oV a b 4).take 4))=MZ (val a) (val b):=by
 obtain ⟨h3,k,hk⟩:=UK ha hb h2 4 (by omega);have h4:=zm a b 4;generalize oV a b 4=t at*;obtain ⟨t0,t1,t2,t3,t4,rfl⟩:=Yh h4;have e4:t4.toNat=0:=by
  simp only [val,pN] at h3;omega
 have e5:val (List.take 4 [t0,t1,t2,t3,t4])=val [t0,t1,t2,t3,t4]:=by
  simp [val,e4]
 rw [e5];refine ⟨h3,?_⟩;rw [List.take_of_length_le (by omega)] at hk;have hb':=zir h3;have hm:=M2 h3;have hdiv:=Nat.div_add_mod (val [t0,t1,t2,t3,t4]) pN;generalize val [t0,t1,t2,t3,t4]=v at*;rw [<- hm] at hdiv;rw [show (18446744073709551616:Nat) ^ 4=rN from rfl] at hk;have hrp:rN*zo v+rN*(pN*(v / pN))=val a*val b+k*pN:=by rw [<- Nat.mul_add,Nat.add_comm (zo v),hdiv];exact hk
 have h5:rN*zo v % pN=val a*val b % pN:=by
  have e1:(rN*zo v+rN*(pN*(v / pN))) % pN=rN*zo v % pN:=by
   rw [show rN*(pN*(v / pN))=(rN*(v / pN))*pN by rw [Nat.mul_left_comm,Nat.mul_comm]];exact Nat.add_mul_mod_self_right _ _ _
  rw [<- e1,hrp,Nat.add_mul_mod_self_right]
 unfold MZ
 calc zo v=zo v % pN:=(Nat.mod_eq_of_lt hb').symm
  _=(1*zo v) % pN:=by rw [Nat.one_mul]
  _=(rN*RK % pN*zo v) % pN:=by rw [zjV]
  _=(rN*RK*zo v) % pN:=by rw [Nat.mod_mul_mod]
  _=(rN*zo v*RK) % pN:=by rw [Nat.mul_right_comm]
  _=(rN*zo v % pN*RK) % pN:=by rw [Nat.mod_mul_mod]
  _=(val a*val b % pN*RK) % pN:=by rw [h5]
  _=val a*val b*RK % pN:=by rw [Nat.mod_mul_mod]
def fe (x:Nat):List ac:=w4 (x*rN % pN)
@[simp] theorem M3 (x:Nat):(fe x).length=4:=rfl
theorem W5 (x:Nat):val (fe x)=x*rN % pN:=Ji _ (Nat.lt_trans (Nat.mod_lt _ JG) (by decide))
theorem RY (x:Nat):x*rN % pN*RK % pN=x % pN:=by
 rw [Nat.mod_mul_mod,Nat.mul_assoc,<- Nat.mul_mod_mod,zjV,Nat.mul_one]
theorem zlE {x y:Nat}(h:fe x=fe y):x % pN=y % pN:=by
 have:=congrArg val h;rw [W5,W5] at this;rw [<- RY x,<- RY y,this]
theorem zix (a:Nat):MZ a (rN*rN % pN)=a*rN % pN:=by
 unfold MZ;rw [Nat.mul_assoc,<- Nat.mul_mod_mod,RY,Nat.mul_mod_mod]
theorem zeS (x:Nat):MZ (val (fe x)) 1=x % pN:=by
 unfold MZ;rw [W5,Nat.mul_one,RY]
theorem OT:J.int .u64 0=wd 0#64:=rfl
theorem wd1:J.int .u64 1=wd 1#64:=rfl
def OV (x y c:ac):ac:=BitVec.ofNat 64 (x.toNat+y.toNat+c.toNat)
def RV (x y c:ac):ac:=BitVec.ofNat 64 ((x.toNat+y.toNat+c.toNat) / 18446744073709551616)
def BT (x y c:ac):ac:=BitVec.ofNat 64 (x.toNat+18446744073709551616 - y.toNat - c.toNat)
def Bc (x y c:ac):ac:=if x.toNat < y.toNat+c.toNat then 1#64 else 0#64
theorem M8 (x y c:ac)(hc:c.toNat<=1):(OV x y c).toNat+18446744073709551616*(RV x y c).toNat=x.toNat+y.toNat+c.toNat/\(RV x y c).toNat<=1:=by
 have h1:=x.isLt;have h2:=y.isLt;simp only [OV,RV,BitVec.toNat_ofNat];omega
theorem Is (x y c:ac)(hc:c.toNat<=1):(BT x y c).toNat+y.toNat+c.toNat=x.toNat+18446744073709551616*(Bc x y c).toNat/\(Bc x y c).toNat<=1:=by
 have h1:=x.isLt;have h2:=y.isLt;simp only [BT,Bc,BitVec.toNat_ofNat];split
 ·rw [show (1#64:ac).toNat=1 from rfl];omega
 ·rw [show (0#64:ac).toNat=0 from rfl];omega
theorem yS (L:az)(h:O)(x y c:ac)(hc:decide (c.toNat<=1)=true):Z ah L bR [wd x,wd y,wd c] h=some (.tup [wd (OV x y c),wd (RV x y c)],h):=by
 have hc':c.toNat<=1:=by simpa using hc
 have:=zbk (L:=L) (h:=h) E4 x y c.toNat hc';rw [show J.int .u64 (c.toNat:Int)=wd c from rfl] at this;rw [this];have h1:=x.isLt;have h2:=y.isLt;rw [zlM _ (by omega)];rfl
theorem TM (L:az)(h:O)(x y c:ac)(hc:decide (c.toNat<=1)=true):Z ah L gx [wd x,wd y,wd c] h=some (.tup [wd (BT x y c),wd (Bc x y c)],h):=by
 have hc':c.toNat<=1:=by simpa using hc
 have:=zbl (L:=L) (h:=h) E5 x y c.toNat hc';rw [show J.int .u64 (c.toNat:Int)=wd c from rfl] at this;rw [this];unfold BT Bc
 split <;> rfl
def zdp (x y:ac):ac:=BitVec.ofNat 64 (x.toNat*y.toNat / 18446744073709551616)
theorem zhz (x y:ac):(x >>> 32)*(y >>> 32)+(((x >>> 32)*(y&&&4294967295#64)+((x&&&4294967295#64)*(y&&&4294967295#64)) >>> 32) >>> 32) +
  ((((x >>> 32)*(y&&&4294967295#64)+((x&&&4294967295#64)*(y&&&4294967295#64)) >>> 32)&&&4294967295#64)+(x&&&4294967295#64)*(y >>> 32)) >>> 32=zdp x y:=by
 have hm : ∀ w : ac, (w &&& 4294967295#64).toNat = w.toNat % 4294967296 := fun w => by
  rw [BitVec.toNat_and,show (4294967295#64:ac).toNat=2 ^ 32 - 1 from rfl,Nat.and_two_pow_sub_one_eq_mod]
 have hs : ∀ w : ac, (w >>> 32).toNat = w.toNat / 4294967296 := fun w => by
  rw [BitVec.toNat_ushiftRight,Nat.shiftRight_eq_div_pow]
 apply BitVec.eq_of_toNat_eq;simp only [zdp,BitVec.toNat_add,BitVec.toNat_mul,hm,hs,BitVec.toNat_ofNat];have h1:=x.isLt;have h2:=y.isLt;generalize y.toNat=b,x.toNat=a at*;have ea:a=a / 4294967296*4294967296+a % 4294967296:=by omega
 have eb:b=b / 4294967296*4294967296+b % 4294967296:=by omega
 have b1:a / 4294967296<=4294967295:=by omega
 have b2:a % 4294967296<=4294967295:=by omega
 have b3:b / 4294967296<=4294967295:=by omega
 have b4:b % 4294967296<=4294967295:=by omega
 generalize a / 4294967296=a1 at*;generalize b % 4294967296=b0,b / 4294967296=b1',a % 4294967296=a0 at*;have em:a*b=a1*b1'*18446744073709551616+(a1*b0+a0*b1')*4294967296+a0*b0:=by
  subst ea eb;grind
 have c1:a1*b1'<=4294967295*4294967295:=Nat.mul_le_mul b1 b3;have c2:a1*b0<=4294967295*4294967295:=Nat.mul_le_mul b1 b4;have c3:a0*b1'<=4294967295*4294967295:=Nat.mul_le_mul b2 b3;have c4:a0*b0<=4294967295*4294967295:=Nat.mul_le_mul b2 b4;rw [em];generalize a0*b0=s,a0*b1'=r,a1*b0=q,a1*b1'=p at*;omega
theorem TN (L:az)(h:O)(x y:ac):Z ah L jI [wd x,wd y] h=some (.tup [wd (zdp x y),wd (x*y)],h):=by
 rw [Di];have hm:J.int .u64 4294967295=wd 4294967295#64:=rfl;have h32:∀ x:ac,aV .shr (wd x) (.int .u64 32)=some (wd (x >>> 32)):=fun x=>yw x .u64 32 (by decide);have e:=zhz x y;simp [q7,hm,h32, -jz];exact congrArg wd e
theorem Rc (L:az)(h:O)(a x y c:ac):Z ah L nS [wd a,wd x,wd y,wd c] h=some (.tup [wd (HS a x y c),wd (Ki a x y c)],h):=by
 rw [KF];have h0:(0#64:ac).toNat=0:=rfl;simp [Bd,V,OT,TN,yS,h0];have h1:=a.isLt;have h2:=x.isLt;have h3:=y.isLt;have h4:=c.isLt;have h5:x.toNat*y.toNat<=18446744073709551615*18446744073709551615:=Nat.mul_le_mul (by omega) (by omega);have e1:(x*y).toNat=x.toNat*y.toNat % 18446744073709551616:=by rw [BitVec.toNat_mul]
 constructor
 ·congr 1
  apply BitVec.eq_of_toNat_eq;simp only [HS,OV,BitVec.toNat_ofNat,e1,h0];omega
 ·congr 1
  apply BitVec.eq_of_toNat_eq;simp only [Ki,OV,RV,zdp,BitVec.toNat_ofNat,BitVec.toNat_add,e1,h0];generalize x.toNat*y.toNat=m at*;omega
theorem zdq:cW pW=[.int .u64 4891460686036598785,.int .u64 2896914383306846353,.int .u64 13281191951274694749,.int .u64 3486998266802970665]:=rfl
theorem yT (L:az)(h:O):Z ah L j6 [] h=some (.agg (cW pW),h):=by
 rw [I7];simp [yp,V,aL,al,au,ae,aa,mO,zdq]
def OA (a b:List ac):Nat->List ac × ac
 | 0=>(tab 4 fun _=>0#64,0#64)
 | k+1=>((OA a b k).1.set k (OV (gd a 0#64 k) (gd b 0#64 k) (OA a b k).2),RV (gd a 0#64 k) (gd b 0#64 k) (OA a b k).2)
def IQ (a b:List ac):Nat->List ac × ac
 | 0=>(tab 4 fun _=>0#64,0#64)
 | k+1=>((IQ a b k).1.set k (BT (gd a 0#64 k) (gd b 0#64 k) (IQ a b k).2),Bc (gd a 0#64 k) (gd b 0#64 k) (IQ a b k).2)
@[simp] theorem Rf (a b:List ac):∀ k,(OA a b k).1.length=4
 | 0=>rfl
 | k+1=>by simp [OA,Rf a b k]
@[simp] theorem Re (a b:List ac):∀ k,(IQ a b k).1.length=4
 | 0=>rfl
 | k+1=>by simp [IQ,Re a b k]
theorem zjI (a b:List ac):∀ k,(OA a b k).2.toNat<=1
 | 0=>by simp [OA]
 | k+1=>(M8 _ _ _ (zjI a b k)).2
theorem zdr (a b:List ac):∀ k,(IQ a b k).2.toNat<=1
 | 0=>by simp [IQ]
 | k+1=>(Is _ _ _ (zdr a b k)).2
theorem zds (a b:List ac)(k:Nat):OA a b (k+1)=((OA a b k).1.set k (OV (gd a 0#64 k) (gd b 0#64 k) (OA a b k).2),RV (gd a 0#64 k) (gd b 0#64 k) (OA a b k).2):=by rw [OA]
theorem zdt (a b:List ac)(k:Nat):IQ a b (k+1)=((IQ a b k).1.set k (BT (gd a 0#64 k) (gd b 0#64 k) (IQ a b k).2),Bc (gd a 0#64 k) (gd b 0#64 k) (IQ a b k).2):=by rw [IQ]
theorem zhA (a b:List ac)(ha:a.length=4)(hb:b.length=4)(h:val a+val b < rN):(OA a b 4).1=w4 (val a+val b):=by
 obtain ⟨a0,a1,a2,a3,rfl⟩:=Aj ha;obtain ⟨b0,b1,b2,b3,rfl⟩:=Aj hb;rw [<- WC (Rf [a0,a1,a2,a3] [b0,b1,b2,b3] 4)]
 congr 1
 simp only [OA,gd,List.getD_cons_zero,List.getD_cons_succ,List.set_cons_zero,List.set_cons_succ,show tab 4 (fun _=>0#64)=[0#64,0#64,0#64,0#64] from rfl];have q0:=M8 a0 b0 0#64 (by decide);generalize RV a0 b0 0#64=c0,OV a0 b0 0#64=l0 at*;have q1:=M8 a1 b1 c0 q0.2;generalize RV a1 b1 c0=c1,OV a1 b1 c0=l1 at*;have q2:=M8 a2 b2 c1 q1.2;generalize RV a2 b2 c1=c2,OV a2 b2 c1=l2 at*;have q3:=M8 a3 b3 c2 q2.2;generalize RV a3 b3 c2=c3,OV a3 b3 c2=l3 at*;have z0:=l0.isLt;have z1:=l1.isLt;have z2:=l2.isLt;have z3:=l3.isLt;simp only [val,BitVec.toNat_zero,rN] at*;omega
theorem zhB (a b:List ac)(ha:a.length=4)(hb:b.length=4):(IQ a b 4).1=w4 (if val a < val b then val a+rN - val b else val a - val b)/\(IQ a b 4).2=if val a < val b then 1#64 else 0#64:=by
 have hva:=Q1 ha;have hvb:=Q1 hb;obtain ⟨a0,a1,a2,a3,rfl⟩:=Aj ha;obtain ⟨b0,b1,b2,b3,rfl⟩:=Aj hb;have key:val (IQ [a0,a1,a2,a3] [b0,b1,b2,b3] 4).1+val [b0,b1,b2,b3]=val [a0,a1,a2,a3] + rN*(IQ [a0,a1,a2,a3] [b0,b1,b2,b3] 4).2.toNat:=by
  simp only [IQ,gd,List.getD_cons_zero,List.getD_cons_succ,List.set_cons_zero,List.set_cons_succ,show tab 4 (fun _=>0#64)=[0#64,0#64,0#64,0#64] from rfl];have q0:=Is a0 b0 0#64 (by decide);generalize Bc a0 b0 0#64=c0,BT a0 b0 0#64=l0 at*;have q1:=Is a1 b1 c0 q0.2;generalize Bc a1 b1 c0=c1,BT a1 b1 c0=l1 at*;have q2:=Is a2 b2 c1 q1.2;generalize Bc a2 b2 c1=c2,BT a2 b2 c1=l2 at*;have q3:=Is a3 b3 c2 q2.2;generalize Bc a3 b3 c2=c3,BT a3 b3 c2=l3 at*;simp only [val,BitVec.toNat_zero,rN] at*;omega
 have hc:=zdr [a0,a1,a2,a3] [b0,b1,b2,b3] 4;have hl:=Re [a0,a1,a2,a3] [b0,b1,b2,b3] 4;have hv:=Q1 hl;generalize IQ [a0,a1,a2,a3] [b0,b1,b2,b3] 4=q at*;obtain ⟨l,c⟩:=q;simp only at*;generalize val [b0,b1,b2,b3]=vb,val [a0,a1,a2,a3]=va at*;rw [<- WC hl];rcases (show c.toNat=0\/c.toNat=1 by omega) with h0 | h0
 ·rw [h0,Nat.mul_zero] at key;have h:¬va < vb:=by omega
  rw [if_neg h,if_neg h];exact ⟨congrArg w4 (by omega),BitVec.eq_of_toNat_eq h0⟩
 ·rw [h0,Nat.mul_one] at key;have h:va < vb:=by omega
  rw [if_pos h,if_pos h];exact ⟨congrArg w4 (by omega),BitVec.eq_of_toNat_eq h0⟩
theorem zaL {fr:Fr}{h:O}{R:Option (dt × Fr × O)}(a b:List ac)(ha:a.length=4)(hb:b.length=4)
  (hF:run ah (V h) (.loop l6) fr (hx h [cW (OA a b 0).1] [])=R)
  (h2:fr 2=.vptr (cW a) 0) (h3:fr 3=.vptr (cW b) 0) (h4:fr 4=pA h.blks.length 0 0) (h5:fr 5=wd 0#64) (h7:fr 7=Ii 0):
  ∃ fr',R=some (.exit 0,fr',hx h [cW (OA a b 4).1] [])/\∀ t,t∉wr l6->fr' t=fr t:=by
 obtain ⟨e,fr',h',rfl,⟨rfl,rfl⟩,hk⟩:=af hF 4
  (fun k fr hh=>fr 7=Ii k/\fr 5=wd (OA a b k).2/\hh=hx h [cW (OA a b k).1] [])
  (fun e fr hh=>e=.exit 0/\hh=hx h [cW (OA a b 4).1] [])
  ⟨h7,h5,rfl⟩ (by
   rintro k fr1 hh hkN hkeep ⟨g7,g5,rfl⟩;have g2:=kp hkeep h2;have g3:=kp hkeep h3;have g4:=kp hkeep h4;by_cases hlt:k < 4
   ·have w1:Wr ((k:Int)+1)=k+1:=wz;have hc:=zjI a b k;have hl:=Rf a b k;have hst:=zds a b k;generalize OA a b k=q at*;simp [l6,V,g7,g5,g2,g3,g4,hlt,show (k:Int) < 4 by omega,show k<=3 by omega,w1,e7,lG,ha,hb,yS,hc,hl,hst]
   ·have:k=4:=by omega
    subst this;simp [l6,g7])
 exact ⟨fr',rfl,hk⟩
theorem zhC (L:az)(h:O)(a b:List ac)(ha:a.length=4)(hb:b.length=4)(hs:val a+val b < rN):Z ah L uY [.agg (cW a),.agg (cW b)] h=some (.agg (cW (w4 (val a+val b))),h):=by
 rw [KN];have e0:cW (tab 4 fun _=>0#64)=cW (OA a b 0).1:=rfl;simp [BE,V,bH,e0];generalize hF:run ah _ (.loop _) _ _=R;obtain ⟨fr1,rfl,hk1⟩:=zaL a b ha hb hF (by simp) (by simp) (by simp) (by simp [OT]) (by simp);simp [hk1,wr,l6,bj,aa,au,ae,zhA a b ha hb hs]
theorem TT {fr:Fr}{h:O}{R:Option (dt × Fr × O)}(a b:List ac)(ha:a.length=4)(hb:b.length=4)
  (hF:run ah (V h) (.loop jy) fr (hx h [cW (IQ a b 0).1] [])=R)
  (h2:fr 2=.vptr (cW a) 0) (h3:fr 3=.vptr (cW b) 0) (h4:fr 4=pA h.blks.length 0 0) (h5:fr 5=wd 0#64) (h7:fr 7=Ii 0):
  ∃ fr',R=some (.exit 0,fr',hx h [cW (IQ a b 4).1] [])/\fr' 5=wd (IQ a b 4).2/\∀ t,t∉wr jy->fr' t=fr t:=by
 obtain ⟨e,fr',h',rfl,⟨rfl,rfl,h5'⟩,hk⟩:=af hF 4
  (fun k fr hh=>fr 7=Ii k/\fr 5=wd (IQ a b k).2/\hh=hx h [cW (IQ a b k).1] [])
  (fun e fr hh=>e=.exit 0/\hh=hx h [cW (IQ a b 4).1] []/\fr 5=wd (IQ a b 4).2)
  ⟨h7,h5,rfl⟩ (by
   rintro k fr1 hh hkN hkeep ⟨g7,g5,rfl⟩;have g2:=kp hkeep h2;have g3:=kp hkeep h3;have g4:=kp hkeep h4;by_cases hlt:k < 4
   ·have w1:Wr ((k:Int)+1)=k+1:=wz;have hc:=zdr a b k;have hl:=Re a b k;have hst:=zdt a b k;have hS:=fun L h=>TM L h (gd a 0#64 k) (gd b 0#64 k) (IQ a b k).2 (by simpa using hc);generalize IQ a b k=q at*;generalize Bc (gd a 0#64 k) (gd b 0#64 k) q.2=v,BT (gd a 0#64 k) (gd b 0#64 k) q.2=u at*;simp -implicitDefEqProofs [jy,V,g7,g5,g2,g3,g4,hlt,show (k:Int) < 4 by omega,show k<=3 by omega,w1,e7,lG,ha,hb,hS,hc,hl,hst]
   ·have:k=4:=by omega
    subst this;simp [jy,g7,g5])
 exact ⟨fr',rfl,h5',hk⟩
theorem PE (L:az)(h:O)(a b:List ac)(ha:a.length=4)(hb:b.length=4):Z ah L nc [.agg (cW a),.agg (cW b)] h=
  some (.tup [.agg (cW (w4 (if val a < val b then val a+rN - val b else val a - val b))),wd (if val a < val b then 1#64 else 0#64)],h):=by
 rw [Ho];have e0:cW (tab 4 fun _=>0#64)=cW (IQ a b 0).1:=rfl;simp [v8,V,bH,e0];generalize hF:run ah _ (.loop _) _ _=R;obtain ⟨fr1,rfl,h5,hk1⟩:=TT a b ha hb hF (by simp) (by simp) (by simp) (by simp [OT]) (by simp);obtain ⟨e1,e2⟩:=zhB a b ha hb;rw [e2] at h5;simp [hk1,h5,wr,jy,bj,aa,au,ae,e1]
theorem TU (L:az)(h:O)(a:List ac)(ha:a.length=4):Z ah L oS [.agg (cW a)] h=some (.agg (cW (w4 (zo (val a)))),h):=by
 rw [I9];have hb:=fun L h=>PE L h a pW ha rfl;simp only [zjz] at hb;by_cases hlt:val a < pN
 ·simp only [if_pos hlt] at hb;have he:(wd 1#64=J.int .u64 1):=rfl;simp [sS,V,bH,yT,aa,au,ae,hb,ha,he];rw [zo,if_pos hlt,WC ha]
 ·simp only [if_neg hlt] at hb;have he:(wd 0#64=J.int .u64 0):=rfl;simp [sS,V,bH,yT,aa,au,ae,hb,ha,he];rw [zo,if_neg hlt]
def OC:Nat->ac
 | 0=>1#64
 | k+1=>OC k*(2#64 - 0x43e1f593f0000001#64*OC k)
theorem zaM (k:Nat):OC (k+1)=OC k*(2#64 - 0x43e1f593f0000001#64*OC k):=rfl
theorem zdv: -OC 6=vV:=by decide +kernel
theorem Rg {L:az}{fr:Fr}{H:O}{R:Option (dt × Fr × O)}(hF:run ah L (.loop iK) fr H=R)
  (h1:fr 1=wd 0x43e1f593f0000001#64) (h2:fr 2=wd 1#64) (h5:fr 5=Ii 0):
  ∃ fr',R=some (.exit 0,fr',H)/\fr' 2=wd (OC 6)/\∀ t,t∉wr iK->fr' t=fr t:=by
 obtain ⟨e,fr',h',rfl,⟨rfl,rfl,h2'⟩,hk⟩:=af hF 6
  (fun k fr hh=>fr 5=Ii k/\fr 2=wd (OC k)/\hh=H)
  (fun e fr hh=>e=.exit 0/\hh=H/\fr 2=wd (OC 6))
  ⟨h5,h2,rfl⟩ (by
   rintro k fr1 hh hkN hkeep ⟨g5,g2,rfl⟩;have g1:=kp hkeep h1;by_cases hlt:k < 6
   ·have w1:Wr ((k:Int)+1)=k+1:=wz;have e2:J.int .u64 2=wd 2#64:=rfl;have hst:=zaM k;generalize OC k=q at*;simp [iK,g5,g2,g1,hlt,show (k:Int) < 6 by omega,w1,e2,hst]
   ·have:k=6:=by omega
    subst this;simp [iK,g5,g2])
 exact ⟨fr',rfl,h2',hk⟩
theorem PG (x:ac):unA .neg (wd x)=some (wd (0#64 - x)):=by
 have:=zf4 0#64 x;rw [<- this];rfl
theorem Wm (L:az)(h:O):Z ah L ph [] h=some (wd vV,h):=by
 rw [F7];have hp:(cW pW)[0]?=some (wd 0x43e1f593f0000001#64):=rfl;simp [um,V,yT,zi6,ap,hp];generalize hF:run ah _ (.loop _) _ _=R;obtain ⟨fr1,rfl,h2,hk1⟩:=Rg hF (by simp) (by simp [wd1]) (by simp);simp [hk1,h2,wr,iK,bj,PG,zdv]
theorem Wn {fr:Fr}{h:O}{R:Option (dt × Fr × O)}(t b:List ac)(x:ac)(z y:List J)(ht:t.length=5)(hb:b.length=4)
  (hF:run ah (V h) (.loop cu) fr (hx h [z,y,cW t] [])=R)
  (h7:fr 7=pA h.blks.length 2 0) (h9:fr 9=wd x) (h10:fr 10=wd 0#64) (h21:fr 21=.agg (cW b)) (h22:fr 22=Ii 0):
  ∃ fr',R=some (.exit 2,fr',hx h [z,y,cW (cd t x b 4).1] [])/\fr' 10=wd (cd t x b 4).2/\∀ t,t∉wr cu->fr' t=fr t:=by
 obtain ⟨e,fr',h',rfl,⟨rfl,rfl,h10'⟩,hk⟩:=af hF 4
  (fun k fr hh=>fr 22=Ii k/\fr 10=wd (cd t x b k).2/\hh=hx h [z,y,cW (cd t x b k).1] [])
  (fun e fr hh=>e=.exit 2/\hh=hx h [z,y,cW (cd t x b 4).1] []/\fr 10=wd (cd t x b 4).2)
  ⟨h22,h10,rfl⟩ (by
   rintro k fr1 hh hkN hkeep ⟨g22,g10,rfl⟩;have g7:=kp hkeep h7;have g9:=kp hkeep h9;have g21:=kp hkeep h21;by_cases hlt:k < 4
   ·have w1:Wr ((k:Int)+1)=k+1:=wz;have hl:=vX t x b k;have hst:cd t x b (k+1)=((cd t x b k).1.set k (HS (gd (cd t x b k).1 0#64 k) x (gd b 0#64 k) (cd t x b k).2),Ki (gd (cd t x b k).1 0#64 k) x (gd b 0#64 k) (cd t x b k).2):=by rw [cd]
    generalize cd t x b k=q at*;obtain ⟨u,c⟩:=q;simp only at hl g10 hst;have hl5:u.length=5:=hl.trans ht;simp -implicitDefEqProofs [cu,V,g22,g10,g7,g9,g21,hlt,show (k:Int) < 4 by omega,show k<=3 by omega,show k < 5 by omega,show k<=4 by omega,w1,e7,Sn,ap,hb,Rc,hl5,hst]
   ·have:k=4:=by omega
    subst this;simp [cu,g22,g10])
 exact ⟨fr',rfl,h10',hk⟩
theorem Wo {fr:Fr}{h:O}{R:Option (dt × Fr × O)}(t:List ac)(kk:ac)(z:List J)(ht:t.length=5)
  (hF:run ah (V h) (.loop fD) fr (hx h [z,cW pW,cW t] [])=R)
  (h5:fr 5=pA h.blks.length 1 0) (h7:fr 7=pA h.blks.length 2 0) (h13:fr 13=wd kk) (h10:fr 10=wd (pv t kk 0).2) (h14:fr 14=Ii 1):
  ∃ fr',R=some (.exit 4,fr',hx h [z,cW pW,cW (pv t kk 3).1] [])/\fr' 10=wd (pv t kk 3).2/\∀ t,t∉wr fD->fr' t=fr t:=by
 obtain ⟨e,fr',h',rfl,⟨rfl,rfl,h10'⟩,hk⟩:=af hF 3
  (fun k fr hh=>fr 14=Ii ((k+1:Nat):Int)/\fr 10=wd (pv t kk k).2/\hh=hx h [z,cW pW,cW (pv t kk k).1] [])
  (fun e fr hh=>e=.exit 4/\hh=hx h [z,cW pW,cW (pv t kk 3).1] []/\fr 10=wd (pv t kk 3).2)
  ⟨h14,h10,rfl⟩ (by
   rintro k fr1 hh hkN hkeep ⟨g14,g10,rfl⟩;have g5:=kp hkeep h5;have g7:=kp hkeep h7;have g13:=kp hkeep h13;by_cases hlt:k < 3
   ·have hl:=MW t kk k;have hst:pv t kk (k+1)=((pv t kk k).1.set k (HS (gd (pv t kk k).1 0#64 (k+1)) kk (gd pW 0#64 (k+1)) (pv t kk k).2),Ki (gd (pv t kk k).1 0#64 (k+1)) kk (gd pW 0#64 (k+1)) (pv t kk k).2):=by rw [pv]
    generalize pv t kk k=q at*;obtain ⟨u,c⟩:=q;simp only at hl g10 hst;have hl5:u.length=5:=hl.trans ht;obtain ⟨j,hj⟩:∃ j,j=k+1:=⟨_,rfl⟩;rw [<- hj] at g14 hst;have hpl:pW.length=4:=rfl;have w1:Wr ((j:Int)+1)=((j+1:Nat):Int):=wz;have w2:IntKind.i64.wrap ((j:Int) - 1)=((k:Nat):Int):=by rw [<- eF k (by omega)];congr 1;omega
    simp -implicitDefEqProofs [fD,V,g14,g10,g5,g7,g13,hlt,show (j:Int) < 4 by omega,show j<=3 by omega,show k < 5 by omega,show k<=4 by omega,show j < 5 by omega,show j < 4 by omega,show j<=4 by omega,show j<=5 by omega,w1,w2,e7,Rc,hl5,hpl,hst,<- hj]
   ·have:k=3:=by omega
    subst this;simp [fD,g14,g10])
 exact ⟨fr',rfl,h10',hk⟩
theorem W8 {fr:Fr}{h:O}{R:Option (dt × Fr × O)}(a b:List ac)(z:List J)(ha:a.length=4)(hb:b.length=4)
  (hF:run ah (V h) (.loop iI) fr (hx h [z,cW pW,cW (oV a b 0)] [])=R)
  (h3:fr 3=.vptr (cW b) 0) (h5:fr 5=pA h.blks.length 1 0) (h6:fr 6=wd vV) (h7:fr 7=pA h.blks.length 2 0) (h17:fr 17=.agg (cW a)) (h18:fr 18=Ii 0):
  ∃ fr',R=some (.exit 0,fr',hx h [z,cW pW,cW (oV a b 4)] [])/\∀ t,t∉wr iI->fr' t=fr t:=by
 obtain ⟨e,fr',h',rfl,⟨rfl,rfl⟩,hk⟩:=af hF 4
  (fun k fr hh=>fr 18=Ii k/\hh=hx h [z,cW pW,cW (oV a b k)] [])
  (fun e fr hh=>e=.exit 0/\hh=hx h [z,cW pW,cW (oV a b 4)] [])
  ⟨h18,rfl⟩ (by
   rintro k fr1 hh hkN hkeep ⟨g18,rfl⟩;have g3:=kp hkeep h3;have g5:=kp hkeep h5;have g6:=kp hkeep h6;have g7:=kp hkeep h7;have g17:=kp hkeep h17;by_cases hlt:k < 4
   ·have w1:Wr ((k:Int)+1)=k+1:=wz;have hl:=zm a b k;have hst:oV a b (k+1)=Dj (oV a b k) (gd a 0#64 k) b:=rfl;generalize hq:oV a b k=t at*;have h0:(0#64:ac).toNat=0:=rfl;simp [iI,g18,g17,g3,hlt,show (k:Int) < 4 by omega,show k<=3 by omega,Sn,ap,ha,hb,aa,OT];generalize hF:run ah _ (.loop _) _ _=R;obtain ⟨fr2,rfl,q10,q1⟩:=Wn t b (gd a 0#64 k) z (cW pW) hl hb hF (by simp [g7]) (by simp) (by simp) (by simp) (by simp);have hlm:(cd t (gd a 0#64 k) b 4).1.length=5:=(vX _ _ _ _).trans hl;have hr:oV a b (k+1)=zba (pv (YR (cd t (gd a 0#64 k) b 4).1 (cd t (gd a 0#64 k) b 4).2) (gd (YR (cd t (gd a 0#64 k) b 4).1 (cd t (gd a 0#64 k) b 4).2) 0#64 0*vV) 3).1 (pv (YR (cd t (gd a 0#64 k) b 4).1 (cd t (gd a 0#64 k) b 4).2) (gd (YR (cd t (gd a 0#64 k) b 4).1 (cd t (gd a 0#64 k) b 4).2) 0#64 0*vV) 3).2:=hst;generalize cd t (gd a 0#64 k) b 4=m at*;obtain ⟨u,c⟩:=m;simp only at hlm q10 hr;have had:u.set 4 (gd u 0#64 4+c)=YR u c:=rfl;have hlu:(YR u c).length=5:=(zih u c).trans hlm;generalize hv:YR u c=v at*;have hred0:(pv v (gd v 0#64 0*vV) 0)=(v,Ki (gd v 0#64 0) (gd v 0#64 0*vV) (gd pW 0#64 0) 0#64):=rfl;have hpl:pW.length=4:=rfl;have k4:∀ (i n off:Nat),bO (some 5) 1 (pA i n off) (Ii 4)=some (pA i n (off+4)):=fun i n off=>by simpa using e7 5 1 i n off 4 .i64 (by decide)
    have k3:∀ (i n off:Nat),bO (some 5) 1 (pA i n off) (Ii 3)=some (pA i n (off+3)):=fun i n off=>by simpa using e7 5 1 i n off 3 .i64 (by decide)
    simp -implicitDefEqProofs [q10,q1,wr,cu,bj,V,g5,g6,g7,k4,hlm,had,hlu,hpl,Rc];generalize hF:run ah _ (.loop _) _ _=R;obtain ⟨fr3,rfl,p10,p1⟩:=Wo v (gd v 0#64 0*vV) z hlu hF (by simp [q1,wr,cu,bj,g5]) (by simp [q1,wr,cu,bj,g7]) (by simp) (by simp [hred0]) (by simp);have hlr:(pv v (gd v 0#64 0*vV) 3).1.length=5:=(MW _ _ _).trans hlu;generalize pv v (gd v 0#64 0*vV) 3=m2 at*;obtain ⟨u2,c2⟩:=m2;simp only at hlr p10 hr;have he:(u2.set 3 (OV (gd u2 0#64 4) c2 0#64)).set 4 (RV (gd u2 0#64 4) c2 0#64)=zba u2 c2:=rfl;simp -implicitDefEqProofs [p10,p1,q1,wr,cu,fD,bj,V,g5,g6,g7,g18,k4,k3,hlr,OT,yS,w1,he,hr];exact hlt
   ·have:k=4:=by omega
    subst this;simp [iI,g18])
 exact ⟨fr',rfl,hk⟩
theorem M7 (L:az)(h:O)(a b:List ac)(ha:a.length=4)(hb:b.length=4)(hp:val b < pN):
  Z ah L lW [.agg (cW a),.agg (cW b)] h=some (.agg (cW (w4 (MZ (val a) (val b)))),h):=by
 rw [G7];have e0:cW (tab 5 fun _=>0#64)=cW (oV a b 0):=rfl;have hpl:pW.length=4:=rfl;simp -implicitDefEqProofs [uh,V,bH,yT,Wm,aa,au,ae,ha,hb,hpl];rw [e0];generalize hF:run ah _ (.loop _) _ _=R;obtain ⟨fr1,rfl,hk1⟩:=W8 a b _ ha hb hF (by simp) (by simp) (by simp) (by simp) (by simp) (by simp);obtain ⟨e1,e2⟩:=W4 ha hb hp;have hl:=zm a b 4;have hsl:=NU 5 1 h.blks.length 2 0 4 .i64 (by decide);simp only [Int.cast_ofNat_Int] at hsl;generalize oV a b 4=t at*;have hl4:(t.take 4).length=4:=by simp [hl]
 have hbe:=fun L h=>TU L h (t.take 4) hl4;simp only [e2] at hbe;simp -implicitDefEqProofs [hk1,wr,iI,cu,fD,bj,hsl,zgz,zcD,hl,hbe,au,ae,aa]
def Zd (k:Nat):Nat:=2 ^ k % pN
theorem zeZ (k:Nat):Zd k < pN:=Nat.mod_lt _ JG
theorem ze0 (k:Nat):zo (Zd k+Zd k)=Zd (k+1):=by
 unfold Zd;have h:=Nat.mod_lt (2 ^ k) JG;rw [M2 (by omega),<- Nat.add_mod,Nat.pow_succ,Nat.mul_two]
theorem ziy:Zd 512=rN*rN % pN:=by decide +kernel
theorem Xa {fr:Fr}{h:O}{R:Option (dt × Fr × O)}(z:List J)
  (hF:run ah (V h) (.loop kS) fr (hx h [z,cW (w4 (Zd 0))] [])=R)
  (h3:fr 3=pA h.blks.length 1 0) (h5:fr 5=Ii 0):
  ∃ fr',R=some (.exit 0,fr',hx h [z,cW (w4 (Zd 512))] [])/\∀ t,t∉wr kS->fr' t=fr t:=by
 obtain ⟨e,fr',h',rfl,⟨rfl,rfl⟩,hk⟩:=af hF 512
  (fun k fr hh=>fr 5=Ii k/\hh=hx h [z,cW (w4 (Zd k))] [])
  (fun e fr hh=>e=.exit 0/\hh=hx h [z,cW (w4 (Zd 512))] [])
  ⟨h5,rfl⟩ (by
   rintro k fr1 hh hkN hkeep ⟨g5,rfl⟩;have g3:=kp hkeep h3;by_cases hlt:k < 512
   ·have w1:Wr ((k:Int)+1)=k+1:=wz;have hst:=ze0 k;have hb:=zeZ k;have hb2:=zeZ (k+1);generalize hv:Zd k=v at*;generalize hv':Zd (k+1)=v' at*;have hvl:v < rN:=Nat.lt_trans hb (by decide);have hs2:v+v < rN:=Nat.lt_trans (Nat.add_lt_add hb hb) (by decide);have hp:=fun L h=>zhC L h (w4 v) (w4 v) rfl rfl (by rw [Ji v hvl];exact hs2);have hbe:=fun L h=>TU L h (w4 (v+v)) rfl;simp only [Ji v hvl] at hp;simp only [Ji (v+v) hs2,hst] at hbe;have l1:=Bo v;have l2:=Bo (v+v);have l3:=Bo v';generalize w4 (v+v)=b,w4 v=a at*;generalize hc:w4 v'=c at*;simp -implicitDefEqProofs [kS,V,g5,g3,hlt,show (k:Int) < 512 by omega,w1,aa,au,ae,hp,hbe,l1,l3,hv',hc]
   ·have:k=512:=by omega
    subst this;simp [kS,g5])
 exact ⟨fr',rfl,hk⟩
theorem ze3 (L:az)(h:O)(a:List ac)(ha:a.length=4):Z ah L sN [.agg (cW a)] h=some (.agg (cW (fe (val a))),h):=by
 rw [I8];have e0:(cW (tab 4 fun _=>0#64)).set 0 (wd 1#64)=cW (w4 (Zd 0)):=rfl;have l0:=Bo (Zd 0);simp -implicitDefEqProofs [yq,V,bH,al,wd1,au,ae,e0,l0];generalize hF:run ah _ (.loop _) _ _=R;obtain ⟨fr1,rfl,hk1⟩:=Xa _ hF (by simp) (by simp);rw [ziy];have hlt:rN*rN % pN < pN:=Nat.mod_lt _ JG;have hv:=Ji (rN*rN % pN) (Nat.lt_trans hlt (by decide));have hp:=fun L h=>M7 L h a (w4 (rN*rN % pN)) ha rfl (by rw [hv];exact hlt);simp only [hv,zix] at hp;have hfe:w4 (val a*rN % pN)=fe (val a):=rfl;simp only [hfe] at hp;have l1:=Bo (rN*rN % pN);have l2:=M3 (val a);generalize fe (val a)=r,w4 (rN*rN % pN)=sq at*;simp -implicitDefEqProofs [hk1,wr,kS,bj,aa,au,ae,hp,ha,l1,l2,al]
end Go.Av
