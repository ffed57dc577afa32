/- The sponge of bytes; items read off bytes; a new guard. -/
import Derived.Test.YtafkceblllhheaaGreatDoorC3
import Derived.Test.YtafkceblllhheaaGreatDoorC1
import Derived.Test.YtafkceblllhheaaGreatDoorC2
set_option linter.unusedSimpArgs false
set_option linter.unusedVariables false
set_option maxHeartbeats 2000000
set_option maxRecDepth 20000
namespace Go.Av
theorem Vc (L:az)(h:O)(c:Bool)(b:List Int)(hl:b.length=200):
  Z ah L cG [.vsl c (eI .u8 b)] h=some (.agg (cW (ce b)),h):=by
 rw [oX];have hf:=fw h c (eI .u8 b);have e0:cW (tab 25 fun _=>0#64)=cW (Pa b 200 0):=rfl;have hw:(ce b).length=25:=iB b;simp [i8,V,bH,e0,aa,al,au,ae,hl,hf];generalize hF:run ah _ (.loop _) _ _=R;have hr:IY h .u8 (.vsl false (eI .u8 b)) b:=IY.vsl h .u8 false b;obtain ⟨fr1,rfl,hk1⟩:=ZR b hl _ _ hr hF (by simp) (by simp) (by simp;exact wrap_i64 (by decide) (by decide));simp [hk1,wr,b7,bj,aa,au,ae,hw]
def tv (s:Sp):List J:=[.vsl false (eI .u8 s.S),Ii s.a,Ii s.b,Ii s.c]
theorem RC (h:O)(s:Sp):nT h (.agg (tv s))=some (.agg (tv s),false):=by
 simp [nT,bC,J.flat,tv]
theorem NV {s:Sp}(hb:s.b=136):Hp s=⟨fR s.S,0,1,s.c+1⟩/\Z7 s=gd (fR s.S) 0 0:=by
 unfold Hp Z7 LS;rw [if_pos hb];exact ⟨rfl,rfl⟩
theorem NW {s:Sp}(hb:¬s.b=136):Hp s=⟨s.S,s.a,s.b+1,s.c⟩/\Z7 s=gd s.S 0 s.b:=by
 unfold Hp Z7 LS;rw [if_neg hb];exact ⟨rfl,rfl⟩
theorem zW (s:Sp):∀ n,(bz s n).c<=s.c+n
 | 0=>Nat.le_refl _
 | n + 1 => by
  have:=zW s n;rw [bz];by_cases hb:(bz s n).b=136
  ·rw [(NV hb).1];simp only [];omega
  ·rw [(NW hb).1];simp only [];omega
theorem ZS (hh:O)(nb nt m:Nat)(s:Sp):frz hh nb nt (m+2) (.agg (tv s))=some (.agg (tv s)):=by
 have hfl:bC (tv s)=false:=by simp [tv,bC,J.flat]
 have hg:frz hh nb nt (m+2) (.agg (tv s))=((tv s).mapM (frz hh nb nt (m+1))).map .agg:=by
  rw [frz.eq_def];simp only [hfl];rfl
 have fi:∀ a:Int,frz hh nb nt (m+1) (Ii a)=some (Ii a):=fun a=>by rw [frz.eq_def]
 rw [hg];simp only [tv,List.mapM_cons,List.mapM_nil,Sl,fi];rfl
theorem zcI (b:List Int)(hb:cw b)(hl:b.length=200):∀ k,k<=200->∀ q,q < 25->(gd (Pa b 200 k) 0#64 q).toNat=bi ((b.take (8*q+8)).drop (max (200 - k) (8*q)))
 | 0,_,q,hq=>by rw [Pa,dZ hq,List.drop_eq_nil_of_le (by simp;omega)];rfl
 | k + 1, hk, q, hq => by
  have ih:=zcI b hb hl k (by omega) q hq;obtain ⟨i,hi⟩:∃ i,i=199 - k:=⟨_,rfl⟩;have hi2:200 - (k+1)=i:=by omega
  have hi3:200 - k=i+1:=by omega
  have hbi:=hb i (by omega);rw [Pa,show 200 - 1 - k=i by omega,hi2];rw [hi3] at ih;rw [pB _ _ _ _ _ (by simp;omega)];by_cases h:i / 8=q
  ·rw [if_pos h,h];obtain ⟨v,hv⟩:∃ v:Nat,gd b 0 i=(v:Int):=⟨(gd b 0 i).toNat,by omega⟩;have e1:max (i+1) (8*q)=i+1:=by omega
   have e2:max i (8*q)=i:=by omega
   rw [e1] at ih;rw [e2];have hil:i < (b.take (8*q+8)).length:=by simp;omega
   have hcons:(b.take (8*q+8)).drop i=gd b 0 i :: (b.take (8*q+8)).drop (i+1):=by
    rw [List.drop_eq_getElem_cons hil]
    congr 1
    simp [gd,List.getD,List.getElem_take,show i < b.length by omega]
   have hB:=oZ (lS hb (8*q+8)) i;have hlt:=yd hB;rw [hcons] at hlt |-;have hlen:((b.take (8*q+8)).drop (i+1)).length<=7:=by simp;omega
   simp only [bi,List.length_cons] at hlt |-;have hp:(256:Nat) ^ (((b.take (8*q+8)).drop (i+1)).length+1)<=2 ^ 64:=by
    rw [show (2:Nat) ^ 64=256 ^ 8 from rfl];exact Nat.pow_le_pow_right (by decide) (by omega)
   rw [BitVec.toNat_add,BitVec.toNat_mul,ih,hv,MI v (by omega)];rw [hv] at hlt;simp only [Int.toNat_natCast] at hlt |-;rw [show (256#64:ac).toNat=256 from rfl,Nat.mod_add_mod,Nat.mod_eq_of_lt (by omega)];omega
  ·rw [if_neg h,ih];by_cases h2:i < 8*q
   ·rw [show max (i+1) (8*q)=max i (8*q) by omega]
   ·rw [List.drop_eq_nil_of_le (by simp;omega),List.drop_eq_nil_of_le (by simp;omega)]
theorem ZV (b:List Int)(hb:cw b)(hl:b.length=200):EH b 25 200=ce b:=by
 refine List.ext_getElem? fun q=>?_;by_cases hq:q < 25
 ·rw [A5 (d:=0#64) (by rw [Lx];exact hq),A5 (d:=0#64) (by rw [iB];exact hq)];refine congrArg some ?_;apply BitVec.eq_of_toNat_eq;rw [WS b hb 25 200 (by omega) (by omega) q hq,ce,zcI b hb hl 200 (by omega) q hq];unfold bck;rw [show min 200 (8*q+8)=8*q+8 by omega,show max (200 - 200) (8*q)=8*q by omega]
 ·rw [List.getElem?_eq_none (by rw [Lx];omega),List.getElem?_eq_none (by rw [iB];omega)]
theorem zgT (L:az)(h:O)(x:J)(cp:Bool)(b:List Int)(hx1:nT h x=some (.vsl false (eI .u8 b),cp))(hl:b.length=200)(hb:cw b):
  Z ah L oe [x] h=some (.tup [.agg (cW (ce b)),Ii 0],h):=by
 rw [Fm];have hW:=fun L h=>L6 L h (.vsl false (eI .u8 b)) b (IY.vsl _ _ _ _) (by omega);rw [hl,ZV b hb hl] at hW;have hwl:(ce b).length=25:=iB b;have h2a:=Md 25 false (ce b) (by decide) (by rw [hwl];decide);rw [List.take_of_length_le (by omega)] at h2a;have hfl:(J.tup [.agg (cW (ce b)),Ii 0]).flat=true:=by simp [J.flat,bC]
 have hend:=fun h=>Jm h _ hfl;generalize ce b=w at*
 cases cp <;> simp -implicitDefEqProofs [su,V,hx1,hl,hW,h2a,bH,aa,hwl,au,ae,hend]
theorem Z1 {α:Type}(m l:List α)(h:m.length=l.length):putAt m 0 l=l:=by
 unfold putAt;simp;omega
theorem Z4 (L:az)(h:O)(bs:List (List J))(ts:List Nat)(i n:Nat)(cap:Option Nat)(k:IntKind)(l m:List Int)(y:J)(hy:aN (hx h bs ts) 1 y=some (eI k l))(hb:bs[i]?=some (cI k m))
  (hl:l.length=n) (hm:m.length=n) (hL:L.rob<=h.blks.length):
  PL L (hx h bs ts) 1 (sA h.blks.length i 0 1 n cap) y=some (Ii n,hx h (bs.set i (cI k l)) ts):=by
 have:=YT L h bs ts i 0 n cap k l m y hy hb (by omega) hL;rw [hl,Nat.min_self,List.take_of_length_le (by omega),Z1 _ _ (by omega)] at this;exact this
theorem zcN (L:az)(h:O)(bs:List (List J))(ts:List Nat)(j:Nat)(cap:Option Nat)(S:List Int)(hS:S.length=200)(hb:cw S)(hj:bs[j]?=some (cI .u8 S))(hL:L.rob<=h.blks.length):
  Z ah L e6 [.agg [],sA h.blks.length j 0 1 200 cap] (hx h bs ts)=some (.tup [],hx h (bs.set j (cI .u8 (fR S))) ts):=by
 rw [wM];obtain ⟨hjl,_⟩:=List.getElem?_eq_some_iff.1 hj;have hf:=Xn h bs ts j 200 cap .u8 S hj hS;have hK:=fun L=>zgT L _ _ true S hf hS hb;have hP:=fun L h=>GZ L h (ce S) (iB S);have hB:=fun L h=>ND L h (kQ (ce S)) (by rw [fH];exact iB S);rw [show aR (kQ (ce S))=fR S from rfl] at hB;have l1:(ce S).length=25:=iB S;have l2:(kQ (ce S)).length=25:=by rw [fH];exact l1
 have l3:(fR S).length=200:=vq S;have hbox:pe (.agg [])=some (.vptr [] 0):=rfl;have hsl:=vn 200 1 h.blks.length (bs.length+1) 0 (by decide);have hel : ∀ w : List J, aN (hx h (bs ++ [w, cI .u8 (fR S)]) ts) 1 (sA h.blks.length (bs.length + 1) 0 1 200 (some 200)) = some (eI .u8 (fR S)) := fun w => by
  have:=Ei h (bs++[w,cI .u8 (fR S)]) ts (bs.length+1) 200 (cI .u8 (fR S)) (some 200) (by rw [List.getElem?_append_right (by omega)];simp) (by simp);rw [this,zN]
 have hcp : ∀ (L : az) (w : List J), L.rob <= h.blks.length -> PL L (hx h (bs ++ [w, cI .u8 (fR S)]) ts) 1 (sA h.blks.length j 0 1 200 cap) (sA h.blks.length (bs.length + 1) 0 1 200 (some 200)) = some (Ii 200, hx h (bs.set j (cI .u8 (fR S)) ++ [w, cI .u8 (fR S)]) ts) := fun L w hL => by
  have:=Z4 L h (bs++[w,cI .u8 (fR S)]) ts j 200 cap .u8 (fR S) S _ (hel w) (by rw [List.getElem?_append_left hjl];exact hj) l3 hS hL;rw [this,List.set_append_left _ _ hjl];rfl
 generalize fR S=T at*;generalize ce S=w,kQ (ce S)=p at*;have htr:=fun js=>Ev h (bs.set j (cI .u8 T)) js ts bs.length (by simp);have hg0:=fun x=>iQ bs [x] bs.length 0 rfl;have hg1:=fun x y=>iQ bs [x,y] bs.length 0 rfl;have hg2:=fun x y=>iQ bs [x,y] bs.length 1 rfl;have hs0:=fun x v=>lL bs [x] bs.length 0 v rfl;have hs1:=fun x y v=>lL bs [x,y] bs.length 1 v rfl;simp only [Nat.add_zero,List.getElem?_cons_zero,List.getElem?_cons_succ,List.set_cons_zero,List.set_cons_succ] at hg0 hg1 hg2 hs0 hs1;simp -implicitDefEqProofs [lu,aB,aA,hbox,hK,bH,fJ,au,ae,am,hL,hP,hB,l1,l2,l3,hg0,hg1,hg2,hs0,hs1,aa,hsl,hcp,htr]
def J5 (n j:Nat)(s:Sp):List J:=[.iface 157 (.agg []),sA n j 0 1 200 (some 200),Ii s.a,Ii s.b,Ii s.c]
def IM (bs:List (List J))(i j:Nat)(x y:List J):List (List J):=(bs.set i x).set j y
@[simp] theorem zpD (bs:List (List J))(i j:Nat)(x y:List J):(IM bs i j x y).length=bs.length:=by simp [IM]
theorem Tl {bs:List (List J)}{i j:Nat}(hi:i < bs.length)(hij:i≠j)(x y:List J):(IM bs i j x y)[i]?=some x:=by
 unfold IM;rw [List.getElem?_set_ne (Ne.symm hij),List.getElem?_set_self hi]
theorem Yd {bs:List (List J)}{i j:Nat}(hj:j < bs.length)(x y:List J):(IM bs i j x y)[j]?=some y:=by
 unfold IM;rw [List.getElem?_set_self (by simpa using hj)]
theorem QT {bs:List (List J)}{i j:Nat}(hij:i≠j)(x y x':List J):(IM bs i j x y).set i x'=IM bs i j x' y:=by
 unfold IM;rw [List.set_comm _ _ (Ne.symm hij),List.set_set]
theorem QU {bs:List (List J)}{i j:Nat}(x y y':List J):(IM bs i j x y).set j y'=IM bs i j x y':=by
 unfold IM;rw [List.set_set]
theorem zcP (h:O)(bs:List (List J))(ts us:List Nat)(i j:Nat)(x y:List J):fY (hx h (IM bs i j x y) (ts++us)) (h.blks.length+bs.length) (h.toks.length+ts.length)=hx h (IM bs i j x y) ts:=by
 unfold fY hx;simp only;rw [List.take_of_length_le (by simp),<- List.append_assoc,List.take_left' (by simp)]
theorem Es (h:O)(bs:List (List J))(ts:List Nat)(i j:Nat)(x y:List J):fY (hx h (IM bs i j x y) ts) (h.blks.length+bs.length) (h.toks.length+ts.length)=hx h (IM bs i j x y) ts:=by
 have:=zcP h bs ts [] i j x y
 rwa [List.append_nil] at this
def kY (bs:List (List J))(i j n:Nat)(s:Sp):List (List J):=IM bs i j (J5 n j s) (cI .u8 s.S)
theorem CS (L:az)(h:O)(bs:List (List J))(ts:List Nat)(i j:Nat)(s:Sp)(hs:s.ok)(hc:s.c < 1000000000)(hi:i < bs.length)(hj:j < bs.length)(hij:i≠j)(hL:L.rob<=h.blks.length):
  Z ah L bM [pA h.blks.length i 0] (hx h (kY bs i j h.blks.length s) ts)=some (.tup [],hx h (kY bs i j h.blks.length (wU s)) ts):=by
 rw [sv];unfold kY;have g1:=Tl hi hij;have g2:=Yd (i:=i) hj;have g3:=QT (bs:=bs) hij;have g4:=QU (bs:=bs) (i:=i) (j:=j);have g5:=Es h bs ts i j;have hP:=fun L hL x=>zcN L h (IM bs i j x (cI .u8 s.S)) ts j (some 200) s.S hs.1 hs.2.1 (g2 x _) hL;simp only [g4] at hP;have w1:Wr ((s.c:Int)+1)=((s.c+1:Nat):Int):=wy;have e1:J5 h.blks.length j (wU s)=[.iface 157 (.agg []),sA h.blks.length j 0 1 200 (some 200),Ii 0,Ii s.b,Ii ((s.c+1:Nat):Int)]:=rfl;have e2:J5 h.blks.length j s=[.iface 157 (.agg []),sA h.blks.length j 0 1 200 (some 200),Ii s.a,Ii s.b,Ii s.c]:=rfl;rw [e1,e2,show (wU s).S=fR s.S from rfl];generalize ((s.c+1:Nat):Int)=c2 at*;simp -implicitDefEqProofs [io,aB,aA,g1,g2,g3,g4,g5,hP,hL,am,w1,setAt]
theorem Ht (L:az)(h:O):Z ah L gY [.agg []] h=some (Ii 136,h):=by
 have hf:nT h (.agg [])=some (.agg [],false):=rfl;rw [Bp];simp [oJ,pe,J.okV,J.cells,hf]
theorem Z9 (L:az)(h:O):Z ah L gf [.agg []] h=some (Ii 200,h):=by
 have hf:nT h (.agg [])=some (.agg [],false):=rfl;rw [zF];simp [nG,pe,J.okV,J.cells,hf]
theorem zjA (s:J)(n m:Nat)(es:List (List J)):gL s (n+m) 0 es=gL s n m es:=by
 unfold gL;split
 ·rfl
 ·rw [zjQ,Nat.add_zero]
theorem Oj {L:az}{fr:Fr}{h:O}{R:Option (dt × Fr × O)}(bs:List (List J))(ts:List Nat)(i j:Nat)(s:Sp)(hs:s.ok)(N:Int)(n:Nat)(hN:n=N.toNat)(hn:n < 1000000)(hc:s.c < 100000000)
  (hi:i < bs.length) (hj:j < bs.length) (hij:i≠j) (hL:L.rob<=h.blks.length) (hT:L.rot<=h.toks.length)
  (hF:run ah L (.loop b9) fr (hx h (kY bs i j h.blks.length s) ts)=R)
  (h0:fr 0=pA h.blks.length i 0) (h7:fr 7=Ii N) (h5:fr 5=.nsl) (h8:fr 8=Ii 0):
  ∃ fr',R=some (.exit 0,fr',hx h (kY bs i j h.blks.length (bz s n)) (ts++gT (eI .u8 (fm s n))))/\fr' 5=gL .nsl h.toks.length ts.length (eI .u8 (fm s n)):=by
 obtain ⟨e,fr',h',rfl,⟨rfl,rfl,g5⟩,hk⟩:=af hF n
  (fun k fr hh=>fr 8=Ii k/\hh=hx h (kY bs i j h.blks.length (bz s k)) (ts++gT (eI .u8 (fm s k)))/\fr 5=gL .nsl h.toks.length ts.length (eI .u8 (fm s k)))
  (fun e fr hh=>e=.exit 0/\hh=hx h (kY bs i j h.blks.length (bz s n)) (ts++gT (eI .u8 (fm s n)))/\fr 5=gL .nsl h.toks.length ts.length (eI .u8 (fm s n)))
  ⟨h8, by simp [bz, fm, tab, gT], h5⟩ (by
   rintro k fr1 hh hkN hkeep ⟨g8,rfl,g5⟩;have g0:=kp hkeep h0;have g7:=kp hkeep h7;by_cases hlt:k < n
   ·have hltI:(k:Int) < N:=by omega
    have w0:Wr ((k:Int)+1)=k+1:=wz;have hok:=qj hs k;have hck:=zW s k;have hsn:=Pr s k;have hll:=yG s k;have hgs:bz s (k+1)=Hp (bz s k):=rfl;have hroom:((fm s k).length+1 < ao):=by rw [hll];unfold ao;omega
    have hap:=fun bs' v=>YV L h bs' ts 1 true (eI .u8 (fm s k)) (eI .u8 [v]) (by simp [hT,hroom]);have hst:=fun q=>kY bs i j h.blks.length q;have g1:=Tl hi hij;have g2:=Yd (i:=i) hj;have g3:=QT (bs:=bs) hij;have g4:=QU (bs:=bs) (i:=i) (j:=j);generalize bz s k=q,fm s k=l at*;have hP:=fun ts=>CS L h bs ts i j q hok (by omega) hi hj hij hL;obtain ⟨o1,o2,o3,o4⟩:=hok;have hR:=Ht;by_cases hb:q.b=136
    ·obtain ⟨e1,e2⟩:=NV hb;rw [e1] at hgs;rw [e2] at hsn;have htl:(fR q.S).length=200:=vq _;have ia:=om h.blks.length j 0 1 200 0 (some 200) .i64 (by decide);have gt:=NR (k:=.u8) (l:=fR q.S) (i:=0) (by omega);obtain ⟨S,a,b,c⟩:=q;simp only at*;subst hb;simp only [kY,J5,wU,Int.natCast_zero,Int.cast_ofNat_Int] at*;generalize c+1=c1,fR S=S1 at*;simp -implicitDefEqProofs [b9,g0,g5,g7,g8,hltI,w0,hP,hR,g1,g2,g3,g4,am,hL,setAt,ia,gt,ap,al,rep,chunks,fq,hap,hsn,hgs,hlt,show IntKind.i64.wrap 1=1 by decide]
    ·obtain ⟨e1,e2⟩:=NW hb;rw [e1] at hgs;rw [e2] at hsn;have hbI:((q.b:Int)==136)=false:=beq_false_of_ne (by omega);have ia:=om h.blks.length j 0 1 200 q.b (some 200) .i64 (decide_eq_true (by omega));have gt:=NR (k:=.u8) (l:=q.S) (i:=q.b) (by omega);have w1:Wr ((q.b:Int)+1)=((q.b+1:Nat):Int):=wy;obtain ⟨S,a,b,c⟩:=q;simp only [kY,J5] at*;generalize b+1=b1 at*;simp -implicitDefEqProofs [b9,g0,g5,g7,g8,hltI,w0,w1,hbI,hR,g1,g2,g3,g4,am,hL,setAt,ia,gt,ap,al,rep,chunks,fq,hap,hsn,hgs,hlt,show IntKind.i64.wrap 1=1 by decide]
   ·have:k=n:=by omega
    subst this;have hltI:¬(k:Int) < N:=by omega
    simp [b9,g5,g7,g8,hltI])
 exact ⟨fr',rfl,g5⟩
theorem J6 (L:az)(h:O)(bs:List (List J))(ts:List Nat)(i j:Nat)(s:Sp)(hs:s.ok)(N:Int)(n:Nat)(hN:n=N.toNat)(hn:n < 1000000)(hc:s.c < 100000000)
  (hi:i < bs.length) (hj:j < bs.length) (hij:i≠j) (hL:L.rob<=h.blks.length) (hT:L.rot<=h.toks.length):
  Z ah L cR [pA h.blks.length i 0,Ii N] (hx h (kY bs i j h.blks.length s) ts)=some (.vsl false (eI .u8 (fm s n)),hx h (kY bs i j h.blks.length (bz s n)) ts):=by
 rw [r9];obtain ⟨M,hM⟩:∃ M:Int,M=max N 0:=⟨_,rfl⟩;have hmx:BI true (Ii N) [Ii 0]=some (Ii M):=by
  simp only [BI,zc4,bind,Option.bind_some,if_true];rw [hM];by_cases h0:(0:Int) > N
  ·rw [if_pos h0,show max N 0=0 by omega]
  ·rw [if_neg h0,show max N 0=N by omega]
 have hlo:=fun fr R=>Oj (L:=⟨L.rob,L.rot,h.blks.length+bs.length,h.toks.length+ts.length⟩) (fr:=fr) (h:=h) (R:=R) bs ts i j s hs M n (by omega) hn hc hi hj hij hL hT;have hlen:(kY bs i j h.blks.length s).length=bs.length:=by simp [kY]
 have htr:∀ us,fY (hx h (kY bs i j h.blks.length (bz s n)) (ts++us)) (h.blks.length+bs.length) (h.toks.length+ts.length)=hx h (kY bs i j h.blks.length (bz s n)) ts:=fun us=>zcP _ _ _ _ _ _ _ _;have hfz:=fun hh m=>v6 (h1:=hh) (nb:=h.blks.length+bs.length) (nt:=h.toks.length+ts.length) (n:=m) (s:=.nsl) (es:=eI .u8 (fm s n)) (.inl rfl) (by simp);simp only [zjA] at hfz;generalize kY bs i j h.blks.length s=b1,kY bs i j h.blks.length (bz s n)=b2,fm s n=l at*;simp -implicitDefEqProofs [ie,aB,aA,hlen,hmx];generalize hF:run ah _ (.loop _) _ _=R;obtain ⟨fr1,rfl,f5⟩:=hlo _ _ hF (by simp) (by simp) (by simp) (by simp);simp -implicitDefEqProofs [f5,hfz,htr,aB,aA,hlen]
theorem zku (a b s:Nat)(ha:a < 2 ^ s)(hlt:a+b*2 ^ s < 2 ^ 62):aV .or (Ii (a:Int)) (Ii ((b*2 ^ s:Nat):Int))=some (Ii ((a+b*2 ^ s:Nat):Int)):=by
 rw [VK];have h1:BitVec.ofInt 64 ((a:Nat):Int)=BitVec.ofNat 64 a:=by simp
 have h2:BitVec.ofInt 64 ((b*2 ^ s:Nat):Int)=BitVec.ofNat 64 (b*2 ^ s):=by
  rw [BitVec.ofInt_natCast]
 have hbits:IntKind.i64.bits=64:=rfl;have e:(BitVec.ofInt 64 ((a:Nat):Int)|||BitVec.ofInt 64 ((b*2 ^ s:Nat):Int)).toNat=a+b*2 ^ s:=by
  rw [h1,h2,BitVec.toNat_or,BitVec.toNat_ofNat,BitVec.toNat_ofNat,Nat.mod_eq_of_lt (by omega),Nat.mod_eq_of_lt (by omega),Nat.or_comm,Nat.mul_comm b,<- Nat.two_pow_add_eq_or_of_lt ha,Nat.add_comm]
 show some (J.int .i64 (IntKind.i64.wrap ((BitVec.ofInt 64 ((a:Nat):Int)|||BitVec.ofInt 64 ((b*2 ^ s:Nat):Int)).toNat:Int)))=_;rw [e,wz]
theorem Tr (k kd kd':IntKind)(c:Bool)(l:List Int)(n:Nat)(hn:n<=l.length):eP .slc 1 (.vsl c (eI k l)) none (some (.int kd (n:Int))) (some (.int kd' (n:Int)))=some (.vsl true (eI k (l.take n))):=by
 have e:(eI k l).take n=eI k (l.take n):=by simp [eI]
 simp [eP,jp,hn,CV,e]
theorem L3 (k kd:IntKind)(l:List Int)(n:Nat)(hn:n<=l.length):eP .slc 1 (.vsl false (eI k l)) (some (.int kd (n:Int))) none none=some (.vsl false (eI k (l.drop n))):=by
 have e:((eI k l).take l.length).drop n=eI k (l.drop n):=by
  rw [List.take_of_length_le (by simp)];simp [eI]
 simp [eP,jp,hn,CV,e]
structure Rd where
 b:List Int
 s:Bool
def Q0 (r:Rd):List J:=[.vsl false (eI .u8 r.b),.bool r.s]
def NZ (r:Rd)(n:Nat):List Int:=if r.b.length < n then [] else r.b.take n
def KI (r:Rd)(n:Nat):Rd:=if r.b.length < n then ⟨r.b,true⟩ else ⟨r.b.drop n,r.s⟩
theorem zg7 (r:Rd)(n:Nat):(NZ r n).length<=n:=by unfold NZ;split <;> simp <;> omega
theorem YF (L:az)(h:O)(bs:List (List J))(ts:List Nat)(i:Nat)(r:Rd)(n:Nat)(hb:bs[i]?=some (Q0 r))(hL:L.rob<=h.blks.length):
  Z ah L iS [pA h.blks.length i 0,Ii (n:Int)] (hx h bs ts)=some (.vsl false (eI .u8 (NZ r n)),hx h (bs.set i (Q0 (KI r n))) ts):=by
 rw [Cn];have hi:=(List.getElem?_eq_some_iff.1 hb).1;have hgs:∀ x:List J,(bs.set i x)[i]?=some x:=fun x=>List.getElem?_set_self hi;have htr:=fun cs=>rL h bs ts i cs;obtain ⟨b,s⟩:=r;simp only [Q0] at hb;have hu:∀ l:List Int,aE 0 0 [J.vsl false (eI .u8 l)]=true:=fun l=>by simp [aE,J.under]
 by_cases hs:b.length < n
 ·have hsI:(b.length:Int) < (n:Int):=by omega
  have e1:NZ ⟨b,s⟩ n=[]:=if_pos hs;have e2:KI ⟨b,s⟩ n=⟨b,true⟩:=if_pos hs;rw [e1,e2];have t0:=Tr .u8 .i64 .i64 false b 0 (Nat.zero_le _);have d0:=L3 .u8 .i64 b 0 (Nat.zero_le _);rw [List.take_zero] at t0;rw [List.drop_zero] at d0;simp only [Int.natCast_zero] at t0 d0;have hfz:=fun hh nb nt m=>lq hh nb nt m true (es:=[]) (by simp [aO]);simp -implicitDefEqProofs [lH,aB,aA,hb,hgs,ap,hsI,am,hL,setAt,t0,d0,hu,htr,Q0,hfz]
 ·have hsI:¬(b.length:Int) < (n:Int):=by omega
  have e1:NZ ⟨b,s⟩ n=b.take n:=if_neg hs;have e2:KI ⟨b,s⟩ n=⟨b.drop n,s⟩:=if_neg hs;rw [e1,e2];have t0:=Tr .u8 .i64 .i64 false b n (by omega);have d0:=L3 .u8 .i64 b n (by omega);simp -implicitDefEqProofs [lH,aB,aA,hb,hgs,ap,hsI,am,hL,setAt,t0,d0,hu,htr,Q0]
theorem zaP {L:az}{fr:Fr}{H:O}{R:Option (dt × Fr × O)}(l:List Int)(hb:cw l)(hn:l.length<=7)
  (hF:run ah L (.loop jo) fr H=R)
  (h5:fr 5=Ii 0) (h10:fr 10=.vsl false (eI .u8 l)) (h11:fr 11=Ii l.length) (h12:fr 12=Ii 0):
  ∃ fr',R=some (.exit 0,fr',H)/\fr' 5=Ii (bi l:Int):=by
 obtain ⟨e,fr',h',rfl,⟨rfl,rfl,g5⟩,hk⟩:=af hF l.length
  (fun k fr hh=>fr 12=Ii k/\hh=H/\fr 5=Ii (bi (l.take k):Int))
  (fun e fr hh=>e=.exit 0/\hh=H/\fr 5=Ii (bi l:Int))
  ⟨h12, rfl, by simpa [bi] using h5⟩ (by
   rintro k fr1 hh hkN hkeep ⟨g12,rfl,g5⟩;have g10:=kp hkeep h10;have g11:=kp hkeep h11;by_cases hlt:k < l.length
   ·have w0:Wr ((k:Int)+1)=k+1:=wz;have ik:=qT .u8 .i64 false l k (decide_eq_true hlt);obtain ⟨x,hx⟩:∃ x:Nat,gd l 0 k=(x:Int):=⟨(gd l 0 k).toNat,by have:=hb k hlt;omega⟩;have hx256:x < 256:=by have:=hb k hlt;omega
    have hsn:bi (l.take (k+1))=bi (l.take k)+x*2 ^ (8*k):=by
     rw [rK 0 hlt,MK,hx,List.length_take,Nat.min_eq_left (by omega),Int.toNat_natCast,Nat.pow_mul]
    have hA:bi (l.take k) < 2 ^ (8*k):=by
     have:=yd (lS hb k);rw [List.length_take,Nat.min_eq_left (by omega)] at this;rw [Nat.pow_mul];exact this
    have hpow:2 ^ (8*k)<=2 ^ 48:=Nat.pow_le_pow_right (by decide) (by omega);have hxp:x*2 ^ (8*k)<=255*2 ^ 48:=Nat.mul_le_mul (by omega) hpow;have hor:=zku (bi (l.take k)) x (8*k) hA (by omega);have w8:Wr (8*(k:Int))=((8*k:Nat):Int):=wy;have hsh:aV .shl (Ii (x:Int)) (Ii ((8*k:Nat):Int))=some (Ii ((x*2 ^ (8*k):Nat):Int)):=by
     rw [wV];have e1:¬(((8*k:Nat):Int) < 0):=by omega
     have e2:min ((8*k:Nat):Int).toNat IntKind.i64.bits=8*k:=by rw [Int.toNat_natCast];exact Nat.min_eq_left (by show 8*k<=64;omega)
     unfold ua;rw [if_neg e1];simp only [e2];have e3:(x:Int)*2 ^ (8*k)=((x*2 ^ (8*k):Nat):Int):=by rw [Int.natCast_mul,Int.natCast_pow];rfl
     rw [e3,wz]
    have wx:Wr (x:Int)=x:=wz;rw [hx] at ik;rw [<- hsn] at hor;generalize 8*k=k8,x*2 ^ (8*k)=y at*;generalize hq2:bi (l.take (k+1))=q2 at*;generalize bi (l.take k)=q at*;simp -implicitDefEqProofs [jo,g5,g10,g11,g12,hlt,w0,ik,w8,hsh,wx,hor,hq2, -VK, -wV]
   ·have:k=l.length:=by omega
    subst this;simp only [List.take_length] at g5;simp [jo,g5,g11,g12])
 exact ⟨fr',rfl,g5⟩
theorem As (L:az)(h:O)(bs:List (List J))(ts:List Nat)(i:Nat)(r:Rd)(n:Nat)(hr:cw r.b)(hn:n<=7)(hb:bs[i]?=some (Q0 r))(hL:L.rob<=h.blks.length):
  Z ah L da [pA h.blks.length i 0,Ii (n:Int)] (hx h bs ts)=some (Ii (bi (NZ r n):Int),hx h (bs.set i (Q0 (KI r n))) ts):=by
 rw [yI];have hT:=fun L hL=>YF L h bs ts i r n hb hL;have hin:cw (NZ r n):=by
  unfold NZ;split
  ·exact fun i hi=>by simp at hi
  ·exact lS hr n
 have hlen:=zg7 r n;have hlo:=fun L fr H R=>zaP (L:=L) (fr:=fr) (H:=H) (R:=R) (NZ r n) hin (by omega);have htr:=fun cs=>rL h bs ts i cs;generalize NZ r n=l,Q0 (KI r n)=r2 at*;simp -implicitDefEqProofs [nP,aB,aA,hT,hL];generalize hF:run ah _ (.loop _) _ _=R;obtain ⟨fr1,rfl,f5⟩:=hlo _ _ _ _ hF (by simp) (by simp) (by simp) (by simp);simp -implicitDefEqProofs [f5,aB,aA,htr]
theorem zaT (L:az)(h:O)(c:Bool)(l:List Int)(hl:l.length < 1000000000):Z ah L gv [.vsl c (eI .u8 l)] h=some (.vsl false (eI .u8 l),h):=
 Va (sz:=1) (z:=[.int .u8 0]) rfl rfl rfl _ _ rfl rfl (Zz c _) (by simp) (by simp) (by simp [ao];omega)
theorem zaV (L:az)(h:O)(l:List Int)(hl:l.length < 1000000000):Z ah L gv [.vsl false (eI .u8 l)] h=some (.vsl false (eI .u8 l),h):=zaT L h false l hl
theorem Mq (nb nt:Nat):∀ l:List It,aO nb nt (l.map It.cells)=true
 | []=>by simp [aO]
 | x :: l => by
  have ih:=Mq nb nt l;simp [aO,ih,It.cells,aE,J.under]
theorem zhF (l:List It):eo 4 (l.map It.cells)=true:=by cases l <;> simp [eo,It.cells]
theorem zaY (L:az)(h:O)(c:Bool)(l:List It)(hl:l.length < 1000000000):Z ah L eQ [.vsl c (l.map It.cells)] h=some (.vsl false (l.map It.cells),h):=
 Va (sz:=4) (z:=[Ii 0,Ii 0,Ii 0,.str ⟨#[]⟩]) rfl rfl rfl _ _ rfl rfl (Zz c _) (zhF l) (Mq _ _ l) (by simp [ao];omega)
def zIt:It:=⟨0,0,0,⟨#[]⟩⟩
def Rs (b:List Int):Rd:=KI ⟨b,false⟩ 1
def N1 (b:List Int):Rd:=KI (Rs b) 1
def N4 (b:List Int):Rd:=KI (N1 b) 4
def Ru (b:List Int):Rd:=KI (N4 b) 2
def HV (b:List Int):Nat:=bi (NZ (N4 b) 2)
def Mz (b:List Int):Rd:=KI (Ru b) (HV b)
def dIt (b:List Int):It:=⟨bi (NZ ⟨b,false⟩ 1),bi (NZ (Rs b) 1),bi (NZ (N1 b) 4),Ok (NZ (Ru b) (HV b))⟩
def ue (b:List Int):It × List Int × Int:=
 if (Mz b).s=true then (zIt,[],2) else if wc (dIt b)=0 then (dIt b,(Mz b).b,0) else (zIt,[],wc (dIt b))
theorem u5 {r:Rd}(h:cw r.b)(n:Nat):cw (KI r n).b:=by
 unfold KI;split
 ·exact h
 ·exact oZ h n
theorem sP (r:Rd)(n:Nat):(KI r n).b.length<=r.b.length:=by
 unfold KI;split
 ·exact Nat.le_refl _
 ·simp
theorem zbe (L:az)(h:O)(b:List Int)(hb:cw b)(hl:b.length < 1000000000):
  Z ah L sL [.vsl false (eI .u8 b)] h=some (.tup [.agg (ue b).1.cells,.vsl false (eI .u8 (ue b).2.1),Ii (ue b).2.2],h):=by
 rw [I4];have hf:=fw h false (eI .u8 b);have b1:cw (Rs b).b:=u5 hb 1;have b2:cw (N1 b).b:=u5 b1 1;have b3:cw (N4 b).b:=u5 b2 4;have b4:cw (Ru b).b:=u5 b3 2;have hrob:(V h).rob<=h.blks.length:=Nat.le_refl _;have hz:[J.int .i64 0,Ii 0,Ii 0,.str ⟨#[]⟩]=zIt.cells:=rfl;have n1:=fun z=>As (V h) h [z,Q0 ⟨b,false⟩] [] 1 ⟨b,false⟩ 1 hb (by decide) rfl hrob;have n2:=fun z=>As (V h) h [z,Q0 (Rs b)] [] 1 (Rs b) 1 b1 (by decide) rfl hrob;have n3:=fun z=>As (V h) h [z,Q0 (N1 b)] [] 1 (N1 b) 4 b2 (by decide) rfl hrob;have n4:=fun z x=>As (V h) h [z,Q0 (N4 b),x] [] 1 (N4 b) 2 b3 (by decide) rfl hrob;have n5:=fun z x=>YF (V h) h [z,Q0 (Ru b),x] [] 1 (Ru b) (HV b) rfl hrob;rw [show KI ⟨b,false⟩ 1=Rs b from rfl] at n1;rw [show KI (Rs b) 1=N1 b from rfl] at n2;rw [show KI (N1 b) 4=N4 b from rfl] at n3;rw [show KI (N4 b) 2=Ru b from rfl,show bi (NZ (N4 b) 2)=HV b from rfl] at n4;rw [show KI (Ru b) (HV b)=Mz b from rfl] at n5;simp only [V,List.set_cons_zero,List.set_cons_succ,Int.cast_ofNat_Int,Int.natCast_one] at n1 n2 n3 n4 n5;have hC:=fun L h=>Nj L h (dIt b);have hdc:(dIt b).cells=[Ii (bi (NZ ⟨b,false⟩ 1):Int),Ii (bi (NZ (Rs b) 1):Int),Ii (bi (NZ (N1 b) 4):Int),.str (Ok (NZ (Ru b) (HV b)))]:=rfl;have hl5:(Mz b).b.length < 1000000000:=by
  have e1:(Rs b).b.length<=b.length:=sP ⟨b,false⟩ 1;have e2:(N1 b).b.length<=(Rs b).b.length:=sP (Rs b) 1;have e3:(N4 b).b.length<=(N1 b).b.length:=sP (N1 b) 4;have e4:(Ru b).b.length<=(N4 b).b.length:=sP (N4 b) 2;have e5:(Mz b).b.length<=(Ru b).b.length:=sP (Ru b) (HV b);omega
 have hK:=fun L h=>zaV L h (Mz b).b hl5;have r5:Q0 (Mz b)=[.vsl false (eI .u8 (Mz b).b),.bool (Mz b).s]:=rfl;have r0:Q0 ⟨b,false⟩=[.vsl false (eI .u8 b),.bool false]:=rfl;have hfr:∀ (x:It) (hh:O) nb nt m,frz hh nb nt (m+1) (.agg x.cells)=some (.agg x.cells):=fun x hh nb nt m=>mO hh nb nt m x.cells_flat;have hun:∀ x:It,aE 0 0 x.cells=true:=fun x=>rfl;have hzc:zIt.cells=[Ii 0,Ii 0,Ii 0,.str ⟨#[]⟩]:=rfl;generalize Q0 (Ru b)=c4,Q0 (N4 b)=c3,Q0 (N1 b)=c2,Q0 (Rs b)=c1 at*;by_cases hs:(Mz b).s=true
 ·have hd:ue b=(zIt,[],2):=if_pos hs;rw [hd];rw [hs] at r5;generalize (Mz b).b=b5,HV b=dl at*;simp -implicitDefEqProofs [o8,V,hf,<- r0,al,setAt,aF,n1,n2,n3,n4,n5,r5,ap,au,ae,aa,hzc,mO,bC,J.flat]
 ·have hs':(Mz b).s=false:=by simpa using hs
  rw [hs'] at r5;by_cases hc:wc (dIt b)=0
  ·have hd:ue b=(dIt b,(Mz b).b,0):=by unfold ue;rw [if_neg hs,if_pos hc]
   rw [hd];rw [hc] at hC;rw [hdc] at hC |-;generalize (Mz b).b=b5,HV b=dl at*;simp -implicitDefEqProofs [o8,V,hf,<- r0,al,setAt,aF,n1,n2,n3,n4,n5,r5,ap,au,ae,aa,hzc,mO,bC,J.flat,hC,hK]
  ·have hd:ue b=(zIt,[],wc (dIt b)):=by unfold ue;rw [if_neg hs,if_neg hc]
   have hcb:(wc (dIt b) !=0)=true:=bne_iff_ne.2 hc;rw [hd];generalize wc (dIt b)=ck at*;rw [hdc] at hC;generalize (Mz b).b=b5,HV b=dl at*;simp -implicitDefEqProofs [o8,V,hf,<- r0,al,setAt,aF,n1,n2,n3,n4,n5,r5,ap,au,ae,aa,hzc,mO,bC,J.flat,hC,hcb]
def GL:Nat->List Int->Nat->List It->List It × Int × Int
 | 0,_,_,acc=>(acc, -1,0)
 | f + 1, b, k, acc => if b = [] then (acc, -1, 0) else if k = 1024 then ([], (k : Int), 9) else
  if (ue b).2.2=0 then GL f (ue b).2.1 (k+1) (acc++[(ue b).1]) else ([],(k:Int),(ue b).2.2)
def bJ (b:List Int):List It × Int × Int:=GL 1026 b 0 []
theorem PT (b:List Int)(hb:cw b):cw (ue b).2.1/\(ue b).2.1.length<=b.length:=by
 have b1:cw (Rs b).b:=u5 hb 1;have b2:cw (N1 b).b:=u5 b1 1;have b3:cw (N4 b).b:=u5 b2 4;have b4:cw (Ru b).b:=u5 b3 2;have b5:cw (Mz b).b:=u5 b4 _;have e1:(Rs b).b.length<=b.length:=sP ⟨b,false⟩ 1;have e2:(N1 b).b.length<=(Rs b).b.length:=sP (Rs b) 1;have e3:(N4 b).b.length<=(N1 b).b.length:=sP (N1 b) 4;have e4:(Ru b).b.length<=(N4 b).b.length:=sP (N4 b) 2;have e5:(Mz b).b.length<=(Ru b).b.length:=sP (Ru b) (HV b);unfold ue;split
 ·exact ⟨fun i hi=>by simp at hi,by simp⟩
 ·split
  ·exact ⟨b5,by simp only;omega⟩
  ·exact ⟨fun i hi=>by simp at hi,by simp⟩
theorem WF {fr:Fr}{h:O}{R:Option (dt × Fr × O)}(hF:run ah (V h) (.loop iG) fr (hx h [] [])=R)(b0:List Int)(hb0:cw b0)(hl0:b0.length < 1000000000)
  (h0:fr 0=.vsl false (eI .u8 b0)) (h5:fr 5=.nsl) (h6:fr 6=Ii 0):
  ∃ e fr' bs ts,R=some (e,fr',hx h bs ts)/\(e=.exit 0/\fr' 5=gL .nsl h.toks.length 0 ((bJ b0).1.map It.cells)/\(bJ b0).2=(-1,0)\/e=.ret/\fr' 2=.nsl/\(bJ b0).1=[]/\fr' 3=Ii (bJ b0).2.1/\fr' 4=Ii (bJ b0).2.2):=by
 obtain ⟨e,fr',h',rfl,⟨⟨bs,ts,rfl⟩,hp⟩,hk⟩:=af hF 1024
  (fun k fr hh=>fr 6=Ii (k:Int)/\∃ b acc bs,fr 0=.vsl false (eI .u8 b)/\cw b/\b.length < 1000000000/\fr 5=gL .nsl h.toks.length 0 (acc.map It.cells)/\hh=hx h bs (gT (acc.map It.cells))/\acc.length=k/\bJ b0=GL (1026 - k) b k acc)
  (fun e fr hh=>(∃ bs ts,hh=hx h bs ts)/\(e=.exit 0/\fr 5=gL .nsl h.toks.length 0 ((bJ b0).1.map It.cells)/\(bJ b0).2=(-1,0)\/e=.ret/\fr 2=.nsl/\(bJ b0).1=[]/\fr 3=Ii (bJ b0).2.1/\fr 4=Ii (bJ b0).2.2))
  ⟨h6, b0, [], [], h0, hb0, hl0, by simpa [gL] using h5, by simp [gT], rfl, rfl⟩ (by
   rintro k fr1 hh hkN hkeep ⟨g6,b,acc,bs,g0,hb,hl,g5,rfl,hak,hpar⟩;obtain ⟨f,hf⟩:∃ f,1026 - k=f+1:=⟨1026 - k - 1,by omega⟩;rw [hf,GL] at hpar;by_cases hnil:b=[]
   ·rw [if_pos hnil] at hpar;subst hnil;simp only [W1] at g0;rw [hpar];simp [iG,g0,g5];exact ⟨_,_,rfl⟩
   ·rw [if_neg hnil] at hpar;have hpos:0 < b.length:=List.length_pos_iff.2 hnil;by_cases hk:k=1024
    ·rw [if_pos hk] at hpar;rw [hpar];have bk:((k:Int)==1024)=true:=by simp;omega
     simp [iG,g0,g6,hpos,bk];exact ⟨_,_,rfl⟩
    ·rw [if_neg hk] at hpar;have bk:((k:Int)==1024)=false:=by simp;omega
     have hD:=fun L h=>zbe L h b hb hl;obtain ⟨hr1,hr2⟩:=PT b hb;have w1:Wr ((k:Int)+1)=k+1:=wz;generalize ue b=D at*;obtain ⟨x,rest,er⟩:=D;simp only at hD hr1 hr2 hpar;by_cases he:er=0
     ·rw [if_pos he] at hpar;have be:(er==0)=true:=by simp [he]
      have hxc:x.cells.length=4:=rfl;have hsz:=Nf acc;have hx1:eo 4 [x.cells]=true:=rfl;have hmp:(acc++[x]).map It.cells=acc.map It.cells++[x.cells]:=by simp
      have hz4:([J.int .i64 0,Ii 0,Ii 0,.str ⟨#[]⟩]).length=x.cells.length:=rfl;have hfil:al (rep [J.int .i64 0,Ii 0,Ii 0,.str ⟨#[]⟩] 1) [(0,4,.agg x.cells)]=some x.cells:=rfl;have hchk:chunks 4 1 x.cells=[x.cells]:=rfl;generalize It.cells x=xc at*;simp -implicitDefEqProofs [iG,V,g0,g5,g6,hpos,bk,hD,bne,be,aa,au,ae,hxc,hfil,hchk,LC,hsz,hx1,ao,hak,show k+1 < 274877906944 by omega,w1];refine ⟨by omega,rest,rfl,hr1,by omega,acc++[x],by rw [hmp],⟨_,by rw [hmp]⟩,by simp [hak],?_⟩;rw [hpar,show 1025 - k=f by omega]
     ·rw [if_neg he] at hpar;have be:(er==0)=false:=by simpa using he
      rw [hpar];have hxc:x.cells.length=4:=rfl;generalize It.cells x=xc at*;simp -implicitDefEqProofs [iG,V,g0,g5,g6,hpos,bk,hD,bne,be,aa,au,ae,hxc];exact ⟨_,_,rfl⟩)
 exact ⟨e,fr',bs,ts,rfl,hp⟩
theorem zd6 (L:az)(h:O)(c:Bool)(b:List Int)(hb:cw b)(hl:b.length < 1000000000):
  Z ah L pq [.vsl c (eI .u8 b)] h=some (.tup [.vsl false ((bJ b).1.map It.cells),Ii (bJ b).2.1,Ii (bJ b).2.2],h):=by
 rw [G6];simp [uf];generalize hF:run ah _ (.loop _) _ _=R;obtain ⟨e,fr',bs,ts,rfl,⟨rfl,h5,h6⟩ | ⟨rfl,h2,h3,h4,h5⟩⟩:=WF hF b hb hl (by simp) (by simp) (by simp)
 ·have hfz:=fun hh n=>v6 (h1:=hh) (nb:=h.blks.length) (nt:=h.toks.length) (n:=n) (s:=.nsl) (.inl rfl) (nM h.blks.length h.toks.length (bJ b).1);rw [h6];simp -implicitDefEqProofs [h5,hfz]
 ·rw [h3];simp [h2,h4,h5]
def Uh (p:List Int):Gd:=⟨(bJ p).1,0,0⟩
theorem zhR (L:az)(h:O)(bs:List (List J))(ts:List Nat)(c:Bool)(p:List Int)(hp:cw p)(hl:p.length < 1000000000):
  Z ah L xH [.vsl c (eI .u8 p)] (hx h bs ts)=
   if (bJ p).2.2=0 then some (.tup [pA h.blks.length bs.length 0,Ii (-1),Ii 0],hx h (bs++[Hh (Uh p)]) ts)
   else some (.tup [.nilp,Ii (bJ p).2.1,Ii (bJ p).2.2],hx h bs ts):=by
 rw [MG];have hP:=fun L h=>zd6 L h c p hp hl;have hg:Hh (Uh p)=[.vsl false ((bJ p).1.map It.cells),Ii 0,.nilp]:=rfl;rw [hg];generalize bJ p=q,(bJ p).1.map It.cells=it at*;obtain ⟨q1,q2,q3⟩:=q;simp only at*;by_cases he:q3=0
 ·rw [if_pos he];have be:(q3==0)=true:=by simp [he]
  simp -implicitDefEqProofs [wX,hP,bne,be,al,setAt,aF,J.okV,J.cells]
 ·rw [if_neg he];have be:(q3==0)=false:=by simp [he]
  simp -implicitDefEqProofs [wX,hP,bne,be,al,setAt]
theorem zbj (L:az)(h:O)(p:J)(b:Nat)(g:Gd)(hp:p=.ptr b 0)(hb:h.blks[b]?=some (Hh g))(hl:g.l.length < 1000000000):
  Z ah L gV [p] h=some (.vsl false (g.l.map It.cells),h):=by
 subst hp;rw [AW];have hC:=fun L h c=>zaY L h c g.l hl;simp only [Hh] at hb;have hfz:=fun n=>lq (hx h [] []) h.blks.length h.toks.length n false (Mq h.blks.length h.toks.length g.l);generalize g.l.map It.cells=it at*;have h1:=fun bs ts=>n8 h bs ts b 0 1 false _ hb;have hf:nT h (.ptr b 0)=some (.ptr b 0,false):=by simp only [nT]
 simp -implicitDefEqProofs [ow,V,hf,h1,ap,hC,hfz]
theorem zhU (L:az)(h:O)(bs:List (List J))(ts:List Nat)(c:Bool)(l:List Int)(hl:l.length=32)(hL:L.rob<=h.blks.length):
  Z ah L oi [.iface 157 (.agg []),.vsl c (eI .u8 l)] (hx h bs ts)=some (.tup [pA h.blks.length (bs.length+1) 0,Ii 0],hx h (bs++[cI .u8 (qg l).S,J5 h.blks.length bs.length (qg l)]) ts):=by
 rw [Fi];have e1:J5 h.blks.length bs.length (qg l)=[.iface 157 (.agg []),sA h.blks.length bs.length 0 1 200 (some 200),Ii 0,Ii 136,Ii 0]:=rfl;have e2:(qg l).S=putAt (tab 200 fun _=>0) 136 l:=rfl;rw [e1,e2];have hg1:=fun x y=>iQ bs [x,y] bs.length 0 rfl;have hg2:=fun x y=>iQ bs [x,y] bs.length 1 rfl;simp only [Nat.add_zero,List.getElem?_cons_zero,List.getElem?_cons_succ] at hg1 hg2;have hsl:=PO 1 h.blks.length bs.length 200 136 (some 200) .i64 (by decide);simp only [Int.cast_ofNat_Int] at hsl;have hel:=fun w=>JP (hx h (bs++w) ts) 1 c (eI .u8 l);have hcp:=fun b=>YT L h (bs++[cI .u8 (tab 200 fun _=>0),b]) ts bs.length 136 64 (some 64) .u8 l (tab 200 fun _=>0) (.vsl c (eI .u8 l)) (hel _) (by rw [List.getElem?_append_right (Nat.le_refl _)];simp) (by simp;omega) hL;rw [show min l.length 64=32 by omega,List.take_of_length_le (by omega)] at hcp;have hs1:=fun x y v=>lL bs [x,y] bs.length 0 v rfl;simp only [Nat.add_zero,List.set_cons_zero,List.set_cons_succ] at hs1;simp only [hs1] at hcp;generalize putAt (tab 200 fun _=>(0:Int)) 136 l=m at*;generalize hz:(tab 200 fun _=>(0:Int))=zz at*;simp -implicitDefEqProofs [r8,Ht,Z9,hl,i7,ao,eR,fJ,hz,aF,al,setAt,hg1,hg2,hsl,hcp,show IntKind.i64.wrap 64=64 by decide,show IntKind.i64.wrap 1=1 by decide]
theorem zbm (L:az)(h:O)(bs:List (List J))(ts:List Nat)(c:Bool)(l:List Int)(hl:l.length=32)(hL:L.rob<=h.blks.length):
  Z ah L pn [.iface 157 (.agg []),.vsl c (eI .u8 l)] (hx h bs ts)=some (pA h.blks.length (bs.length+1) 0,hx h (bs++[cI .u8 (qg l).S,J5 h.blks.length bs.length (qg l)]) ts):=by
 rw [G2];simp -implicitDefEqProofs [ub,zhU,hl,hL]
theorem zbo (L:az)(h:O):Z ah L po [] h=some (.iface 157 (.agg []),h):=by
 rw [G3];have hf:al [] []=some []:=rfl;have hz : ∀ nb nt n, frz (hx h [] []) nb nt (n + 2) (.iface 157 (.agg [])) = some (.iface 157 (.agg [])) := fun nb nt n => by
  rw [frz.eq_def];simp [frz,bC]
 simp [uc,hf,hz]
theorem zei (k:IntKind)(n:Nat)(l:List Int)(hl:l.length=n):eP (.arr n) 1 (.vptr (cI k l) 0) none none none=some (.vsl true (eI k l)):=by
 have e:=Bx n (cI k l) (by simpa using hl);rw [zN] at e;simp [eP,jp,hl,e,CV,List.take_of_length_le]
theorem Un (L:az)(h:O)(bs:List (List J))(ts:List Nat)(l:List Int)(hl:l.length=32)(hL:L.rob<=h.blks.length):
  Z ah L sU [.agg (cI .u8 l)] (hx h bs ts)=some (pA h.blks.length (bs.length+1) 0,hx h (bs++[cI .u8 (qg l).S,J5 h.blks.length bs.length (qg l)]) ts):=by
 rw [JA];have hbox:pe (.agg (cI .u8 l))=some (.vptr (cI .u8 l) 0):=rfl;have hsl:=zei .u8 32 l hl;simp -implicitDefEqProofs [xS,hbox,hsl,zbo,zbm,hl,hL]
theorem Uq {s:Sp}(ha:s.a=136)(u:Int):sZ s u=⟨(fR s.S).set 0 u,1,136,s.c+1⟩:=by
 unfold sZ Oi;rw [if_pos ha];rfl
theorem UE {s:Sp}(ha:¬s.a=136)(u:Int):sZ s u=⟨s.S.set s.a u,s.a+1,136,s.c⟩:=by
 unfold sZ Oi;rw [if_neg ha]
theorem EM {s:Sp}(hs:s.ok)(l:List Int):(ay s l).c<=s.c+l.length+1:=by
 obtain ⟨h1,h2,_,_⟩:=Ps (l:=l) (s:=s) hs.2.2.1;have:=hs.2.2.1;omega
theorem zlh {l : List Int}(h : cw l)(n : Nat) : cw (l.take n) := fun i hi => by
 rw [wR (by simp at hi;omega)];exact h i (by simp at hi;omega)
theorem RP {L:az}{fr:Fr}{h:O}{R:Option (dt × Fr × O)}(bs:List (List J))(ts:List Nat)(i j:Nat)(s:Sp)(hs:s.ok)(c:Bool)(l:List Int)(hl:cw l)(hn:l.length < 100000000)(hc:s.c < 100000000)
  (hi:i < bs.length) (hj:j < bs.length) (hij:i≠j) (hL:L.rob<=h.blks.length)
  (hF:run ah L (.loop cH) fr (hx h (kY bs i j h.blks.length s) ts)=R)
  (h0:fr 0=pA h.blks.length i 0) (h4:fr 4=Ii 136) (h12:fr 12=.vsl c (eI .u8 l)) (h13:fr 13=Ii l.length) (h14:fr 14=Ii 0):
  ∃ fr',R=some (.exit 0,fr',hx h (kY bs i j h.blks.length (ay s l)) ts):=by
 obtain ⟨e,fr',h',rfl,⟨rfl,rfl⟩,hk⟩:=af hF l.length
  (fun k fr hh=>fr 14=Ii k/\hh=hx h (kY bs i j h.blks.length (ay s (l.take k))) ts)
  (fun e fr hh=>e=.exit 0/\hh=hx h (kY bs i j h.blks.length (ay s l)) ts)
  ⟨h14, by simp [ay]⟩ (by
   rintro k fr1 hh hkN hkeep ⟨g14,rfl⟩;have g0:=kp hkeep h0;have g4:=kp hkeep h4;have g12:=kp hkeep h12;have g13:=kp hkeep h13;by_cases hlt:k < l.length
   ·have w0:Wr ((k:Int)+1)=k+1:=wz;have hok:=iO (l:=l.take k) hs (zlh hl k);have hck:=EM hs (l.take k);simp only [List.length_take] at hck;have hsn:=L1 s l k hlt;have g1:=Tl hi hij;have g2:=Yd (i:=i) hj;have g3:=QT (bs:=bs) hij;have g5:=QU (bs:=bs) (i:=i) (j:=j);have ik:=qT .u8 .i64 c l k (decide_eq_true hlt);generalize gd l 0 k=u,ay s (l.take k)=q at*;have hP:=CS L h bs ts i j q hok (by omega) hi hj hij hL;obtain ⟨o1,o2,o3,o4⟩:=hok;have w1':IntKind.i64.wrap 1=1:=by decide
    by_cases ha:q.a=136
    ·rw [Uq ha] at hsn;have htl:(fR q.S).length=200:=vq _;have ia:=om h.blks.length j 0 1 200 0 (some 200) .i64 (by decide);obtain ⟨S,a,b,d⟩:=q;simp only at*;subst ha;simp only [kY,J5,wU,Int.natCast_zero,Int.cast_ofNat_Int] at*;generalize d+1=d1,fR S=S1 at*;simp -implicitDefEqProofs [cH,g0,g4,g12,g13,g14,hlt,w0,w1',hP,g1,g2,g3,g5,am,hL,setAt,ik,ia,ap,hsn,htl]
    ·rw [UE ha] at hsn;have haI:((q.a:Int)==136)=false:=beq_false_of_ne (by omega);have ia:=om h.blks.length j 0 1 200 q.a (some 200) .i64 (decide_eq_true (by omega));have w1:Wr ((q.a:Int)+1)=((q.a+1:Nat):Int):=wy;have halt:0+q.a*1+1<=q.S.length:=by omega
     obtain ⟨S,a,b,d⟩:=q;simp only [kY,J5] at*;have hst:(cI .u8 S).set (0+a*1) (.int .u8 u)=cI .u8 (S.set a u):=by rw [zlI];simp
     generalize a+1=a1 at*;generalize 0+a*1=a0 at*;simp -implicitDefEqProofs [cH,g0,g4,g12,g13,g14,hlt,w0,w1,haI,g1,g2,g3,g5,am,hL,setAt,ik,ia,ap,hsn,hst,halt]
   ·have:k=l.length:=by omega
    subst this;simp [cH,g13,g14])
 exact ⟨fr',rfl⟩
theorem W0 (L:az)(h:O)(bs:List (List J))(ts:List Nat)(i j:Nat)(s:Sp)(hs:s.ok)(c:Bool)(l:List Int)(hl:cw l)(hn:l.length < 100000000)(hc:s.c < 100000000)
  (hi:i < bs.length) (hj:j < bs.length) (hij:i≠j) (hL:L.rob<=h.blks.length):
  Z ah L eZ [pA h.blks.length i 0,.vsl c (eI .u8 l)] (hx h (kY bs i j h.blks.length s) ts)=some (.tup [],hx h (kY bs i j h.blks.length (ay s l)) ts):=by
 rw [tx];have hlo:=fun fr R=>RP (L:=⟨L.rob,L.rot,h.blks.length+bs.length,h.toks.length+ts.length⟩) (fr:=fr) (h:=h) (R:=R) bs ts i j s hs c l hl hn hc hi hj hij hL;have htr:=Es h bs ts i j (J5 h.blks.length j (ay s l)) (cI .u8 (ay s l).S);have g1:=Tl hi hij;simp only [kY] at*;generalize ay s l=s2 at*;generalize hy:J5 h.blks.length j s2=y at*;simp only [J5] at*;simp -implicitDefEqProofs [iN,aB,aA,g1,ap,Ht];generalize hF:run ah _ (.loop _) _ _=R;obtain ⟨fr1,rfl⟩:=hlo _ _ hF (by simp) (by simp) (by simp) (by simp) (by simp);simp -implicitDefEqProofs [htr,aB,aA]
theorem UH (L:az)(h:O)(bs:List (List J))(ts:List Nat)(i j:Nat)(s:Sp)(hs:s.ok)(hc:s.c < 100000000)(hi:i < bs.length)(hj:j < bs.length)(hij:i≠j)(hL:L.rob<=h.blks.length):
  Z ah L cQ [pA h.blks.length i 0] (hx h (kY bs i j h.blks.length s) ts)=some (.tup [],hx h (kY bs i j h.blks.length (zX s)) ts):=by
 rw [r6];have hP:=fun L hL=>CS L h bs ts i j s hs (by omega) hi hj hij hL;have g1:=Tl hi hij;have g2:=Yd (i:=i) hj;have g3:=QT (bs:=bs) hij;have g4:=QU (bs:=bs) (i:=i) (j:=j);have g5:=Es h bs ts i j;have hsl:=I6 1 h.blks.length j 200 136 (some 200) .i64 (by decide);simp only [Int.cast_ofNat_Int] at hsl;have hcl:=fun L hL x=>zdX L h (IM bs i j x (cI .u8 (fR s.S))) ts j 0 136 (some 200) .u8 0 (fR s.S) (g2 x _) (by rw [vq];decide) hL;simp only [g4] at hcl;have e1:(zX s).S=putAt (fR s.S) 0 (tab 136 fun _=>0):=rfl;have e2:J5 h.blks.length j (zX s)=[.iface 157 (.agg []),sA h.blks.length j 0 1 200 (some 200),Ii 0,Ii 136,Ii ((s.c+1:Nat):Int)]:=rfl;simp only [kY] at*;rw [e1,e2];have e3:J5 h.blks.length j (wU s)=[.iface 157 (.agg []),sA h.blks.length j 0 1 200 (some 200),Ii 0,Ii s.b,Ii ((s.c+1:Nat):Int)]:=rfl;have e4:(wU s).S=fR s.S:=rfl;rw [e3,e4] at hP;generalize ((s.c+1:Nat):Int)=c2,fR s.S=S1,putAt (fR s.S) 0 (tab 136 fun _=>0)=S2 at*;generalize hy:J5 h.blks.length j s=y at*;simp -implicitDefEqProofs [hZ,aB,aA,hP,hL,g1,g2,g3,g4,g5,ap,Ht,hsl,hcl,am,setAt]
end Go.Av
