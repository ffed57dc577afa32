/- The sponge of bytes; items read off bytes; a new guard. -/
import Derived.Test.YtbookmjmhfoolaaGreatDoorC3
import Derived.Test.YtbookmjmhfoolaaGreatDoorC1
import Derived.Test.YtbookmjmhfoolaaGreatDoorC2
set_option linter.unusedSimpArgs false
set_option linter.unusedVariables false
set_option maxHeartbeats 2000000
set_option maxRecDepth 20000
namespace Go.Av
theorem UI (L:az)(h:O)(c:Bool)(b:List Int)(hl:b.length=200):
  aa ah L cG [.vsl c (eI .u8 b)] h=some (.agg (cW (cg b)),h):=by
 rw [pq];have hf:=fR h c (eI .u8 b);have e0:cW (tab 25 fun _=>0#64)=cW (P6 b 200 0):=rfl;have hw:(cg b).length=25:=iK b;simp [jn,V,bH,e0,Z,ak,aq,ab,hl,hf];generalize hF:run ah _ (.loop _) _ _=R;have hr:JM h .u8 (.vsl false (eI .u8 b)) b:=JM.vsl h .u8 false b;obtain ⟨fr1,rfl,hk1⟩:=zaz b hl _ _ hr hF (by simp) (by simp) (by simp;exact wrap_i64 (by decide) (by decide));simp [hk1,wr,b8,bn,Z,aq,ab,hw]
def t6 (s:Sp):List J:=[.vsl false (eI .u8 s.S),Ii s.a,Ii s.b,Ii s.c]
theorem S4 (h:O)(s:Sp):oL h (.agg (t6 s))=some (.agg (t6 s),false):=by
 simp [oL,aZ,J.flat,t6]
theorem Oc {s:Sp}(hb:s.b=136):Jh s=⟨gk s.S,0,1,s.c+1⟩/\zdo s=gd (gk s.S) 0 0:=by
 unfold Jh zdo Om;rw [if_pos hb];exact ⟨rfl,rfl⟩
theorem Oe {s:Sp}(hb:¬s.b=136):Jh s=⟨s.S,s.a,s.b+1,s.c⟩/\zdo s=gd s.S 0 s.b:=by
 unfold Jh zdo Om;rw [if_neg hb];exact ⟨rfl,rfl⟩
theorem BM (s:Sp):∀ n,(bD s n).c<=s.c+n
 | 0=>Nat.le_refl _
 | n + 1 => by
  have:=BM s n;rw [bD];by_cases hb:(bD s n).b=136
  ·rw [(Oc hb).1];simp only [];omega
  ·rw [(Oe hb).1];simp only [];omega
theorem zaB (hh:O)(nb nt m:Nat)(s:Sp):frz hh nb nt (m+2) (.agg (t6 s))=some (.agg (t6 s)):=by
 have hfl:aZ (t6 s)=false:=by simp [t6,aZ,J.flat]
 have hg:frz hh nb nt (m+2) (.agg (t6 s))=((t6 s).mapM (frz hh nb nt (m+1))).map .agg:=by
  rw [frz.eq_def];simp only [hfl];rfl
 have fi:∀ a:Int,frz hh nb nt (m+1) (Ii a)=some (Ii a):=fun a=>by rw [frz.eq_def]
 rw [hg];simp only [t6,List.mapM_cons,List.mapM_nil,Sk,fi];rfl
theorem zhL (b:List Int)(hb:ce b)(hl:b.length=200):∀ k,k<=200->∀ q,q < 25->(gd (P6 b 200 k) 0#64 q).toNat=bx ((b.take (8*q+8)).drop (max (200 - k) (8*q)))
 | 0,_,q,hq=>by rw [P6,dY hq,List.drop_eq_nil_of_le (by simp;omega)];rfl
 | k + 1, hk, q, hq => by
  have ih:=zhL b hb hl k (by omega) q hq;obtain ⟨i,hi⟩:∃ i,i=199 - k:=⟨_,rfl⟩;have hi2:200 - (k+1)=i:=by omega
  have hi3:200 - k=i+1:=by omega
  have hbi:=hb i (by omega);rw [P6,show 200 - 1 - k=i by omega,hi2];rw [hi3] at ih;rw [qh _ _ _ _ _ (by simp;omega)];by_cases h:i / 8=q
  ·rw [if_pos h,h];obtain ⟨v,hv⟩:∃ v:Nat,gd b 0 i=(v:Int):=⟨(gd b 0 i).toNat,by omega⟩;have e1:max (i+1) (8*q)=i+1:=by omega
   have e2:max i (8*q)=i:=by omega
   rw [e1] at ih;rw [e2];have hil:i < (b.take (8*q+8)).length:=by simp;omega
   have hcons:(b.take (8*q+8)).drop i=gd b 0 i :: (b.take (8*q+8)).drop (i+1):=by
    rw [List.drop_eq_getElem_cons hil]
    congr 1
    simp [gd,List.getD,List.getElem_take,show i < b.length by omega]
   have hB:=pB (mg hb (8*q+8)) i;have hlt:=yX hB;rw [hcons] at hlt |-;have hlen:((b.take (8*q+8)).drop (i+1)).length<=7:=by simp;omega
   simp only [bx,List.length_cons] at hlt |-;have hp:(256:Nat) ^ (((b.take (8*q+8)).drop (i+1)).length+1)<=2 ^ 64:=by
    rw [show (2:Nat) ^ 64=256 ^ 8 from rfl];exact Nat.pow_le_pow_right (by decide) (by omega)
   rw [BitVec.toNat_add,BitVec.toNat_mul,ih,hv,Oj v (by omega)];rw [hv] at hlt;simp only [Int.toNat_natCast] at hlt |-;rw [show (256#64:ac).toNat=256 from rfl,Nat.mod_add_mod,Nat.mod_eq_of_lt (by omega)];omega
  ·rw [if_neg h,ih];by_cases h2:i < 8*q
   ·rw [show max (i+1) (8*q)=max i (8*q) by omega]
   ·rw [List.drop_eq_nil_of_le (by simp;omega),List.drop_eq_nil_of_le (by simp;omega)]
theorem zd3 (b:List Int)(hb:ce b)(hl:b.length=200):FD b 25 200=cg b:=by
 refine List.ext_getElem? fun q=>?_;by_cases hq:q < 25
 ·rw [Fh (d:=0#64) (by rw [Mt];exact hq),Fh (d:=0#64) (by rw [iK];exact hq)];refine congrArg some ?_;apply BitVec.eq_of_toNat_eq;rw [YW b hb 25 200 (by omega) (by omega) q hq,cg,zhL b hb hl 200 (by omega) q hq];unfold bck;rw [show min 200 (8*q+8)=8*q+8 by omega,show max (200 - 200) (8*q)=8*q by omega]
 ·rw [List.getElem?_eq_none (by rw [Mt];omega),List.getElem?_eq_none (by rw [iK];omega)]
theorem zlw (L:az)(h:O)(x:J)(cp:Bool)(b:List Int)(hx1:oL h x=some (.vsl false (eI .u8 b),cp))(hl:b.length=200)(hb:ce b):
  aa ah L oG [x] h=some (.tup [.agg (cW (cg b)),Ii 0],h):=by
 rw [FO];have hW:=fun L h=>NN L h (.vsl false (eI .u8 b)) b (JM.vsl _ _ _ _) (by omega);rw [hl,zd3 b hb hl] at hW;have hwl:(cg b).length=25:=iK b;have h2a:=Nu 25 false (cg b) (by decide) (by rw [hwl];decide);rw [List.take_of_length_le (by omega)] at h2a;have hfl:(J.tup [.agg (cW (cg b)),Ii 0]).flat=true:=by simp [J.flat,aZ]
 have hend:=fun h=>Kj h _ hfl;generalize cg b=w at*
 cases cp <;> simp -implicitDefEqProofs [s6,V,hx1,hl,hW,h2a,bH,Z,hwl,aq,ab,hend]
theorem zd4 {α:Type}(m l:List α)(h:m.length=l.length):putAt m 0 l=l:=by
 unfold putAt;simp;omega
theorem zd5 (L:az)(h:O)(bs:List (List J))(ts:List Nat)(i n:Nat)(cap:Option Nat)(k:IntKind)(l m:List Int)(y:J)(hy:aH (hx h bs ts) 1 y=some (eI k l))(hb:bs[i]?=some (cI k m))
  (hl:l.length=n) (hm:m.length=n) (hL:L.rob<=h.blks.length):
  RT L (hx h bs ts) 1 (sA h.blks.length i 0 1 n cap) y=some (Ii n,hx h (bs.set i (cI k l)) ts):=by
 have:=zbw L h bs ts i 0 n cap k l m y hy hb (by omega) hL;rw [hl,Nat.min_self,List.take_of_length_le (by omega),zd4 _ _ (by omega)] at this;exact this
theorem zis (L:az)(h:O)(bs:List (List J))(ts:List Nat)(j:Nat)(cap:Option Nat)(S:List Int)(hS:S.length=200)(hb:ce S)(hj:bs[j]?=some (cI .u8 S))(hL:L.rob<=h.blks.length):
  aa ah L e7 [.agg [],sA h.blks.length j 0 1 200 cap] (hx h bs ts)=some (.tup [],hx h (bs.set j (cI .u8 (gk S))) ts):=by
 rw [xn];obtain ⟨hjl,_⟩:=List.getElem?_eq_some_iff.1 hj;have hf:=Xj h bs ts j 200 cap .u8 S hj hS;have hK:=fun L=>zlw L _ _ true S hf hS hb;have hP:=fun L h=>H4 L h (cg S) (iK S);have hB:=fun L h=>NR L h (lq (cg S)) (by rw [fN];exact iK S);rw [show aS (lq (cg S))=gk S from rfl] at hB;have l1:(cg S).length=25:=iK S;have l2:(lq (cg S)).length=25:=by rw [fN];exact l1
 have l3:(gk S).length=200:=wV S;have hbox:lx (.agg [])=some (.vptr [] 0):=rfl;have hsl:=zN 200 1 h.blks.length (bs.length+1) 0 (by decide);have hel : ∀ w : List J, aH (hx h (bs ++ [w, cI .u8 (gk S)]) ts) 1 (sA h.blks.length (bs.length + 1) 0 1 200 (some 200)) = some (eI .u8 (gk S)) := fun w => by
  have:=DX h (bs++[w,cI .u8 (gk S)]) ts (bs.length+1) 200 (cI .u8 (gk S)) (some 200) (by rw [List.getElem?_append_right (by omega)];simp) (by simp);rw [this,zI]
 have hcp : ∀ (L : az) (w : List J), L.rob <= h.blks.length -> RT L (hx h (bs ++ [w, cI .u8 (gk S)]) ts) 1 (sA h.blks.length j 0 1 200 cap) (sA h.blks.length (bs.length + 1) 0 1 200 (some 200)) = some (Ii 200, hx h (bs.set j (cI .u8 (gk S)) ++ [w, cI .u8 (gk S)]) ts) := fun L w hL => by
  have:=zd5 L h (bs++[w,cI .u8 (gk S)]) ts j 200 cap .u8 (gk S) S _ (hel w) (by rw [List.getElem?_append_left hjl];exact hj) l3 hS hL;rw [this,List.set_append_left _ _ hjl];rfl
 generalize gk S=T at*;generalize cg S=w,lq (cg S)=p at*;have htr:=fun js=>Fo h (bs.set j (cI .u8 T)) js ts bs.length (by simp);have hg0:=fun x=>jY bs [x] bs.length 0 rfl;have hg1:=fun x y=>jY bs [x,y] bs.length 0 rfl;have hg2:=fun x y=>jY bs [x,y] bs.length 1 rfl;have hs0:=fun x v=>l9 bs [x] bs.length 0 v rfl;have hs1:=fun x y v=>l9 bs [x,y] bs.length 1 v rfl;simp only [Nat.add_zero,List.getElem?_cons_zero,List.getElem?_cons_succ,List.set_cons_zero,List.set_cons_succ] at hg0 hg1 hg2 hs0 hs1;simp -implicitDefEqProofs [lR,aC,aB,hbox,hK,bH,gQ,aq,ab,ap,hL,hP,hB,l1,l2,l3,hg0,hg1,hg2,hs0,hs1,Z,hsl,hcp,htr]
def Pu (n j:Nat)(s:Sp):List J:=[.iface 230 (.agg []),sA n j 0 1 200 (some 200),Ii s.a,Ii s.b,Ii s.c]
def JR (bs:List (List J))(i j:Nat)(x y:List J):List (List J):=(bs.set i x).set j y
@[simp] theorem zs2 (bs:List (List J))(i j:Nat)(x y:List J):(JR bs i j x y).length=bs.length:=by simp [JR]
theorem WJ {bs:List (List J)}{i j:Nat}(hi:i < bs.length)(hij:i≠j)(x y:List J):(JR bs i j x y)[i]?=some x:=by
 unfold JR;rw [List.getElem?_set_ne (Ne.symm hij),List.getElem?_set_self hi]
theorem zbg {bs:List (List J)}{i j:Nat}(hj:j < bs.length)(x y:List J):(JR bs i j x y)[j]?=some y:=by
 unfold JR;rw [List.getElem?_set_self (by simpa using hj)]
theorem TM {bs:List (List J)}{i j:Nat}(hij:i≠j)(x y x':List J):(JR bs i j x y).set i x'=JR bs i j x' y:=by
 unfold JR;rw [List.set_comm _ _ (Ne.symm hij),List.set_set]
theorem TN {bs:List (List J)}{i j:Nat}(x y y':List J):(JR bs i j x y).set j y'=JR bs i j x y':=by
 unfold JR;rw [List.set_set]
theorem zix (h:O)(bs:List (List J))(ts us:List Nat)(i j:Nat)(x y:List J):gq (hx h (JR bs i j x y) (ts++us)) (h.blks.length+bs.length) (h.toks.length+ts.length)=hx h (JR bs i j x y) ts:=by
 unfold gq hx;simp only;rw [List.take_of_length_le (by simp),<- List.append_assoc,List.take_left' (by simp)]
theorem FK (h:O)(bs:List (List J))(ts:List Nat)(i j:Nat)(x y:List J):gq (hx h (JR bs i j x y) ts) (h.blks.length+bs.length) (h.toks.length+ts.length)=hx h (JR bs i j x y) ts:=by
 have:=zix h bs ts [] i j x y
 rwa [List.append_nil] at this
def lY (bs:List (List J))(i j n:Nat)(s:Sp):List (List J):=JR bs i j (Pu n j s) (cI .u8 s.S)
theorem E9 (L:az)(h:O)(bs:List (List J))(ts:List Nat)(i j:Nat)(s:Sp)(hs:s.ok)(hc:s.c < 1000000000)(hi:i < bs.length)(hj:j < bs.length)(hij:i≠j)(hL:L.rob<=h.blks.length):
  aa ah L bQ [pA h.blks.length i 0] (hx h (lY bs i j h.blks.length s) ts)=some (.tup [],hx h (lY bs i j h.blks.length (ym s)) ts):=by
 rw [sF];unfold lY;have g1:=WJ hi hij;have g2:=zbg (i:=i) hj;have g3:=TM (bs:=bs) hij;have g4:=TN (bs:=bs) (i:=i) (j:=j);have g5:=FK h bs ts i j;have hP:=fun L hL x=>zis L h (JR bs i j x (cI .u8 s.S)) ts j (some 200) s.S hs.1 hs.2.1 (g2 x _) hL;simp only [g4] at hP;have w1:Wr ((s.c:Int)+1)=((s.c+1:Nat):Int):=wy;have e1:Pu h.blks.length j (ym s)=[.iface 230 (.agg []),sA h.blks.length j 0 1 200 (some 200),Ii 0,Ii s.b,Ii ((s.c+1:Nat):Int)]:=rfl;have e2:Pu h.blks.length j s=[.iface 230 (.agg []),sA h.blks.length j 0 1 200 (some 200),Ii s.a,Ii s.b,Ii s.c]:=rfl;rw [e1,e2,show (ym s).S=gk s.S from rfl];generalize ((s.c+1:Nat):Int)=c2 at*;simp -implicitDefEqProofs [iB,aC,aB,g1,g2,g3,g4,g5,hP,hL,ap,w1,setAt]
theorem Jx (L:az)(h:O):aa ah L ig [.agg []] h=some (Ii 136,h):=by
 have hf:oL h (.agg [])=some (.agg [],false):=rfl;rw [AR];simp [o6,lx,J.okV,J.cells,hf]
theorem zea (L:az)(h:O):aa ah L gp [.agg []] h=some (Ii 200,h):=by
 have hf:oL h (.agg [])=some (.agg [],false):=rfl;rw [zm];simp [n8,lx,J.okV,J.cells,hf]
theorem ziB (s:J)(n m:Nat)(es:List (List J)):gL s (n+m) 0 es=gL s n m es:=by
 unfold gL;split
 ·rfl
 ·rw [zlU,Nat.add_zero]
theorem Qm {L:az}{fr:Fr}{h:O}{R:Option (cL × Fr × O)}(bs:List (List J))(ts:List Nat)(i j:Nat)(s:Sp)(hs:s.ok)(N:Int)(n:Nat)(hN:n=N.toNat)(hn:n < 1000000)(hc:s.c < 100000000)
  (hi:i < bs.length) (hj:j < bs.length) (hij:i≠j) (hL:L.rob<=h.blks.length) (hT:L.rot<=h.toks.length)
  (hF:run ah L (.loop cq) fr (hx h (lY bs i j h.blks.length s) ts)=R)
  (h0:fr 0=pA h.blks.length i 0) (h7:fr 7=Ii N) (h5:fr 5=.nsl) (h8:fr 8=Ii 0):
  ∃ fr',R=some (.exit 0,fr',hx h (lY bs i j h.blks.length (bD s n)) (ts++gT (eI .u8 (fu s n))))/\fr' 5=gL .nsl h.toks.length ts.length (eI .u8 (fu s n)):=by
 obtain ⟨e,fr',h',rfl,⟨rfl,rfl,g5⟩,hk⟩:=af hF n
  (fun k fr hh=>fr 8=Ii k/\hh=hx h (lY bs i j h.blks.length (bD s k)) (ts++gT (eI .u8 (fu s k)))/\fr 5=gL .nsl h.toks.length ts.length (eI .u8 (fu s k)))
  (fun e fr hh=>e=.exit 0/\hh=hx h (lY bs i j h.blks.length (bD s n)) (ts++gT (eI .u8 (fu s n)))/\fr 5=gL .nsl h.toks.length ts.length (eI .u8 (fu s n)))
  ⟨h8, by simp [bD, fu, tab, gT], h5⟩ (by
   rintro k fr1 hh hkN hkeep ⟨g8,rfl,g5⟩;have g0:=kp hkeep h0;have g7:=kp hkeep h7;by_cases hlt:k < n
   ·have hltI:(k:Int) < N:=by omega
    have w0:Wr ((k:Int)+1)=k+1:=wz;have hok:=rJ hs k;have hck:=BM s k;have hsn:=Rx s k;have hll:=wZ s k;have hgs:bD s (k+1)=Jh (bD s k):=rfl;have hroom:((fu s k).length+1 < am):=by rw [hll];unfold am;omega
    have hap:=fun bs' v=>RV L h bs' ts 1 true (eI .u8 (fu s k)) (eI .u8 [v]) (by simp [hT,hroom]);have hst:=fun q=>lY bs i j h.blks.length q;have g1:=WJ hi hij;have g2:=zbg (i:=i) hj;have g3:=TM (bs:=bs) hij;have g4:=TN (bs:=bs) (i:=i) (j:=j);generalize bD s k=q,fu s k=l at*;have hP:=fun ts=>E9 L h bs ts i j q hok (by omega) hi hj hij hL;obtain ⟨o1,o2,o3,o4⟩:=hok;have hR:=Jx;by_cases hb:q.b=136
    ·obtain ⟨e1,e2⟩:=Oc hb;rw [e1] at hgs;rw [e2] at hsn;have htl:(gk q.S).length=200:=wV _;have ia:=om h.blks.length j 0 1 200 0 (some 200) .i64 (by decide);have gt:=NG (k:=.u8) (l:=gk q.S) (i:=0) (by omega);obtain ⟨S,a,b,c⟩:=q;simp only at*;subst hb;simp only [lY,Pu,ym,Int.natCast_zero,Int.cast_ofNat_Int] at*;generalize c+1=c1,gk S=S1 at*;simp -implicitDefEqProofs [cq,g0,g5,g7,g8,hltI,w0,hP,hR,g1,g2,g3,g4,ap,hL,setAt,ia,gt,ao,ak,rep,chunks,fx,hap,hsn,hgs,hlt,show IntKind.i64.wrap 1=1 by decide]
    ·obtain ⟨e1,e2⟩:=Oe hb;rw [e1] at hgs;rw [e2] at hsn;have hbI:((q.b:Int)==136)=false:=beq_false_of_ne (by omega);have ia:=om h.blks.length j 0 1 200 q.b (some 200) .i64 (decide_eq_true (by omega));have gt:=NG (k:=.u8) (l:=q.S) (i:=q.b) (by omega);have w1:Wr ((q.b:Int)+1)=((q.b+1:Nat):Int):=wy;obtain ⟨S,a,b,c⟩:=q;simp only [lY,Pu] at*;generalize b+1=b1 at*;simp -implicitDefEqProofs [cq,g0,g5,g7,g8,hltI,w0,w1,hbI,hR,g1,g2,g3,g4,ap,hL,setAt,ia,gt,ao,ak,rep,chunks,fx,hap,hsn,hgs,hlt,show IntKind.i64.wrap 1=1 by decide]
   ·have:k=n:=by omega
    subst this;have hltI:¬(k:Int) < N:=by omega
    simp [cq,g5,g7,g8,hltI])
 exact ⟨fr',rfl,g5⟩
theorem Ly (L:az)(h:O)(bs:List (List J))(ts:List Nat)(i j:Nat)(s:Sp)(hs:s.ok)(N:Int)(n:Nat)(hN:n=N.toNat)(hn:n < 1000000)(hc:s.c < 100000000)
  (hi:i < bs.length) (hj:j < bs.length) (hij:i≠j) (hL:L.rob<=h.blks.length) (hT:L.rot<=h.toks.length):
  aa ah L cQ [pA h.blks.length i 0,Ii N] (hx h (lY bs i j h.blks.length s) ts)=some (.vsl false (eI .u8 (fu s n)),hx h (lY bs i j h.blks.length (bD s n)) ts):=by
 rw [sH];obtain ⟨M,hM⟩:∃ M:Int,M=max N 0:=⟨_,rfl⟩;have hmx:CJ true (Ii N) [Ii 0]=some (Ii M):=by
  simp only [CJ,zic,bind,Option.bind_some,if_true];rw [hM];by_cases h0:(0:Int) > N
  ·rw [if_pos h0,show max N 0=0 by omega]
  ·rw [if_neg h0,show max N 0=N by omega]
 have hlo:=fun fr R=>Qm (L:=⟨L.rob,L.rot,h.blks.length+bs.length,h.toks.length+ts.length⟩) (fr:=fr) (h:=h) (R:=R) bs ts i j s hs M n (by omega) hn hc hi hj hij hL hT;have hlen:(lY bs i j h.blks.length s).length=bs.length:=by simp [lY]
 have htr:∀ us,gq (hx h (lY bs i j h.blks.length (bD s n)) (ts++us)) (h.blks.length+bs.length) (h.toks.length+ts.length)=hx h (lY bs i j h.blks.length (bD s n)) ts:=fun us=>zix _ _ _ _ _ _ _ _;have hfz:=fun hh m=>pe (h1:=hh) (nb:=h.blks.length+bs.length) (nt:=h.toks.length+ts.length) (n:=m) (s:=.nsl) (es:=eI .u8 (fu s n)) (.inl rfl) (by simp);simp only [ziB] at hfz;generalize lY bs i j h.blks.length s=b1,lY bs i j h.blks.length (bD s n)=b2,fu s n=l at*;simp -implicitDefEqProofs [iD,aC,aB,hlen,hmx];generalize hF:run ah _ (.loop _) _ _=R;obtain ⟨fr1,rfl,f5⟩:=hlo _ _ hF (by simp) (by simp) (by simp) (by simp);simp -implicitDefEqProofs [f5,hfz,htr,aC,aB,hlen]
theorem zoZ (a b s:Nat)(ha:a < 2 ^ s)(hlt:a+b*2 ^ s < 2 ^ 62):aW .or (Ii (a:Int)) (Ii ((b*2 ^ s:Nat):Int))=some (Ii ((a+b*2 ^ s:Nat):Int)):=by
 rw [Zl];have h1:BitVec.ofInt 64 ((a:Nat):Int)=BitVec.ofNat 64 a:=by simp
 have h2:BitVec.ofInt 64 ((b*2 ^ s:Nat):Int)=BitVec.ofNat 64 (b*2 ^ s):=by
  rw [BitVec.ofInt_natCast]
 have hbits:IntKind.i64.bits=64:=rfl;have e:(BitVec.ofInt 64 ((a:Nat):Int)|||BitVec.ofInt 64 ((b*2 ^ s:Nat):Int)).toNat=a+b*2 ^ s:=by
  rw [h1,h2,BitVec.toNat_or,BitVec.toNat_ofNat,BitVec.toNat_ofNat,Nat.mod_eq_of_lt (by omega),Nat.mod_eq_of_lt (by omega),Nat.or_comm,Nat.mul_comm b,<- Nat.two_pow_add_eq_or_of_lt ha,Nat.add_comm]
 show some (J.int .i64 (IntKind.i64.wrap ((BitVec.ofInt 64 ((a:Nat):Int)|||BitVec.ofInt 64 ((b*2 ^ s:Nat):Int)).toNat:Int)))=_;rw [e,wz]
theorem WQ (k kd kd':IntKind)(c:Bool)(l:List Int)(n:Nat)(hn:n<=l.length):eP .slc 1 (.vsl c (eI k l)) none (some (.int kd (n:Int))) (some (.int kd' (n:Int)))=some (.vsl true (eI k (l.take n))):=by
 have e:(eI k l).take n=eI k (l.take n):=by simp [eI]
 simp [eP,jE,hn,E5,e]
theorem OZ (k kd:IntKind)(l:List Int)(n:Nat)(hn:n<=l.length):eP .slc 1 (.vsl false (eI k l)) (some (.int kd (n:Int))) none none=some (.vsl false (eI k (l.drop n))):=by
 have e:((eI k l).take l.length).drop n=eI k (l.drop n):=by
  rw [List.take_of_length_le (by simp)];simp [eI]
 simp [eP,jE,hn,E5,e]
structure Rd where
 b:List Int
 s:Bool
def TS (r:Rd):List J:=[.vsl false (eI .u8 r.b),.bool r.s]
def Pv (r:Rd)(n:Nat):List Int:=if r.b.length < n then [] else r.b.take n
def Md (r:Rd)(n:Nat):Rd:=if r.b.length < n then ⟨r.b,true⟩ else ⟨r.b.drop n,r.s⟩
theorem zlN (r:Rd)(n:Nat):(Pv r n).length<=n:=by unfold Pv;split <;> simp <;> omega
theorem zbs (L:az)(h:O)(bs:List (List J))(ts:List Nat)(i:Nat)(r:Rd)(n:Nat)(hb:bs[i]?=some (TS r))(hL:L.rob<=h.blks.length):
  aa ah L iX [pA h.blks.length i 0,Ii (n:Int)] (hx h bs ts)=some (.vsl false (eI .u8 (Pv r n)),hx h (bs.set i (TS (Md r n))) ts):=by
 rw [C8];have hi:=(List.getElem?_eq_some_iff.1 hb).1;have hgs:∀ x:List J,(bs.set i x)[i]?=some x:=fun x=>List.getElem?_set_self hi;have htr:=fun cs=>sK h bs ts i cs;obtain ⟨b,s⟩:=r;simp only [TS] at hb;have hu:∀ l:List Int,ay 0 0 [J.vsl false (eI .u8 l)]=true:=fun l=>by simp [ay,J.under]
 by_cases hs:b.length < n
 ·have hsI:(b.length:Int) < (n:Int):=by omega
  have e1:Pv ⟨b,s⟩ n=[]:=if_pos hs;have e2:Md ⟨b,s⟩ n=⟨b,true⟩:=if_pos hs;rw [e1,e2];have t0:=WQ .u8 .i64 .i64 false b 0 (Nat.zero_le _);have d0:=OZ .u8 .i64 b 0 (Nat.zero_le _);rw [List.take_zero] at t0;rw [List.drop_zero] at d0;simp only [Int.natCast_zero] at t0 d0;have hfz:=fun hh nb nt m=>ix hh nb nt m true (es:=[]) (by simp [aJ]);simp -implicitDefEqProofs [lK,aC,aB,hb,hgs,ao,hsI,ap,hL,setAt,t0,d0,hu,htr,TS,hfz]
 ·have hsI:¬(b.length:Int) < (n:Int):=by omega
  have e1:Pv ⟨b,s⟩ n=b.take n:=if_neg hs;have e2:Md ⟨b,s⟩ n=⟨b.drop n,s⟩:=if_neg hs;rw [e1,e2];have t0:=WQ .u8 .i64 .i64 false b n (by omega);have d0:=OZ .u8 .i64 b n (by omega);simp -implicitDefEqProofs [lK,aC,aB,hb,hgs,ao,hsI,ap,hL,setAt,t0,d0,hu,htr,TS]
theorem zee {L:az}{fr:Fr}{H:O}{R:Option (cL × Fr × O)}(l:List Int)(hb:ce l)(hn:l.length<=7)
  (hF:run ah L (.loop jy) fr H=R)
  (h5:fr 5=Ii 0) (h10:fr 10=.vsl false (eI .u8 l)) (h11:fr 11=Ii l.length) (h12:fr 12=Ii 0):
  ∃ fr',R=some (.exit 0,fr',H)/\fr' 5=Ii (bx l:Int):=by
 obtain ⟨e,fr',h',rfl,⟨rfl,rfl,g5⟩,hk⟩:=af hF l.length
  (fun k fr hh=>fr 12=Ii k/\hh=H/\fr 5=Ii (bx (l.take k):Int))
  (fun e fr hh=>e=.exit 0/\hh=H/\fr 5=Ii (bx l:Int))
  ⟨h12, rfl, by simpa [bx] using h5⟩ (by
   rintro k fr1 hh hkN hkeep ⟨g12,rfl,g5⟩;have g10:=kp hkeep h10;have g11:=kp hkeep h11;by_cases hlt:k < l.length
   ·have w0:Wr ((k:Int)+1)=k+1:=wz;have ik:=pI .u8 .i64 false l k (decide_eq_true hlt);obtain ⟨x,hx⟩:∃ x:Nat,gd l 0 k=(x:Int):=⟨(gd l 0 k).toNat,by have:=hb k hlt;omega⟩;have hx256:x < 256:=by have:=hb k hlt;omega
    have hsn:bx (l.take (k+1))=bx (l.take k)+x*2 ^ (8*k):=by
     rw [sQ 0 hlt,Ok,hx,List.length_take,Nat.min_eq_left (by omega),Int.toNat_natCast,Nat.pow_mul]
    have hA:bx (l.take k) < 2 ^ (8*k):=by
     have:=yX (mg hb k);rw [List.length_take,Nat.min_eq_left (by omega)] at this;rw [Nat.pow_mul];exact this
    have hpow:2 ^ (8*k)<=2 ^ 48:=Nat.pow_le_pow_right (by decide) (by omega);have hxp:x*2 ^ (8*k)<=255*2 ^ 48:=Nat.mul_le_mul (by omega) hpow;have hor:=zoZ (bx (l.take k)) x (8*k) hA (by omega);have w8:Wr (8*(k:Int))=((8*k:Nat):Int):=wy;have hsh:aW .shl (Ii (x:Int)) (Ii ((8*k:Nat):Int))=some (Ii ((x*2 ^ (8*k):Nat):Int)):=by
     rw [yv];have e1:¬(((8*k:Nat):Int) < 0):=by omega
     have e2:min ((8*k:Nat):Int).toNat IntKind.i64.bits=8*k:=by rw [Int.toNat_natCast];exact Nat.min_eq_left (by show 8*k<=64;omega)
     unfold uO;rw [if_neg e1];simp only [e2];have e3:(x:Int)*2 ^ (8*k)=((x*2 ^ (8*k):Nat):Int):=by rw [Int.natCast_mul,Int.natCast_pow];rfl
     rw [e3,wz]
    have wx:Wr (x:Int)=x:=wz;rw [hx] at ik;rw [<- hsn] at hor;generalize 8*k=k8,x*2 ^ (8*k)=y at*;generalize hq2:bx (l.take (k+1))=q2 at*;generalize bx (l.take k)=q at*;simp -implicitDefEqProofs [jy,g5,g10,g11,g12,hlt,w0,ik,w8,hsh,wx,hor,hq2, -Zl, -yv]
   ·have:k=l.length:=by omega
    subst this;simp only [List.take_length] at g5;simp [jy,g5,g11,g12])
 exact ⟨fr',rfl,g5⟩
theorem Cq (L:az)(h:O)(bs:List (List J))(ts:List Nat)(i:Nat)(r:Rd)(n:Nat)(hr:ce r.b)(hn:n<=7)(hb:bs[i]?=some (TS r))(hL:L.rob<=h.blks.length):
  aa ah L dj [pA h.blks.length i 0,Ii (n:Int)] (hx h bs ts)=some (Ii (bx (Pv r n):Int),hx h (bs.set i (TS (Md r n))) ts):=by
 rw [zT];have hT:=fun L hL=>zbs L h bs ts i r n hb hL;have hin:ce (Pv r n):=by
  unfold Pv;split
  ·exact fun i hi=>by simp at hi
  ·exact mg hr n
 have hlen:=zlN r n;have hlo:=fun L fr H R=>zee (L:=L) (fr:=fr) (H:=H) (R:=R) (Pv r n) hin (by omega);have htr:=fun cs=>sK h bs ts i cs;generalize Pv r n=l,TS (Md r n)=r2 at*;simp -implicitDefEqProofs [nJ,aC,aB,hT,hL];generalize hF:run ah _ (.loop _) _ _=R;obtain ⟨fr1,rfl,f5⟩:=hlo _ _ _ _ hF (by simp) (by simp) (by simp) (by simp);simp -implicitDefEqProofs [f5,aC,aB,htr]
theorem zeh (L:az)(h:O)(c:Bool)(l:List Int)(hl:l.length < 1000000000):aa ah L gu [.vsl c (eI .u8 l)] h=some (.vsl false (eI .u8 l),h):=
 V5 (sz:=1) (z:=[.int .u8 0]) rfl rfl rfl _ _ rfl rfl (zaR c _) (by simp) (by simp) (by simp [am];omega)
theorem zej (L:az)(h:O)(l:List Int)(hl:l.length < 1000000000):aa ah L gu [.vsl false (eI .u8 l)] h=some (.vsl false (eI .u8 l),h):=zeh L h false l hl
theorem O7 (nb nt:Nat):∀ l:List It,aJ nb nt (l.map It.cells)=true
 | []=>by simp [aJ]
 | x :: l => by
  have ih:=O7 nb nt l;simp [aJ,ih,It.cells,ay,J.under]
theorem zlR (l:List It):cS 4 (l.map It.cells)=true:=by cases l <;> simp [cS,It.cells]
theorem zel (L:az)(h:O)(c:Bool)(l:List It)(hl:l.length < 1000000000):aa ah L eQ [.vsl c (l.map It.cells)] h=some (.vsl false (l.map It.cells),h):=
 V5 (sz:=4) (z:=[Ii 0,Ii 0,Ii 0,.str ⟨#[]⟩]) rfl rfl rfl _ _ rfl rfl (zaR c _) (zlR l) (O7 _ _ l) (by simp [am];omega)
def zIt:It:=⟨0,0,0,⟨#[]⟩⟩
def Sc (b:List Int):Rd:=Md ⟨b,false⟩ 1
def Pj (b:List Int):Rd:=Md (Sc b) 1
def Pk (b:List Int):Rd:=Md (Pj b) 4
def Sd (b:List Int):Rd:=Md (Pk b) 2
def Il (b:List Int):Nat:=bx (Pv (Pk b) 2)
def M6 (b:List Int):Rd:=Md (Sd b) (Il b)
def dIt (b:List Int):It:=⟨bx (Pv ⟨b,false⟩ 1),bx (Pv (Sc b) 1),bx (Pv (Pj b) 4),byA (Pv (Sd b) (Il b))⟩
def rS (b:List Int):It × List Int × Int:=
 if (M6 b).s=true then (zIt,[],2) else if chk (dIt b)=0 then (dIt b,(M6 b).b,0) else (zIt,[],chk (dIt b))
theorem vt {r:Rd}(h:ce r.b)(n:Nat):ce (Md r n).b:=by
 unfold Md;split
 ·exact h
 ·exact pB h n
theorem ti (r:Rd)(n:Nat):(Md r n).b.length<=r.b.length:=by
 unfold Md;split
 ·exact Nat.le_refl _
 ·simp
theorem zbQ (L:az)(h:O)(b:List Int)(hb:ce b)(hl:b.length < 1000000000):
  aa ah L tB [.vsl false (eI .u8 b)] h=some (.tup [.agg (rS b).1.cells,.vsl false (eI .u8 (rS b).2.1),Ii (rS b).2.2],h):=by
 rw [Kk];have hf:=fR h false (eI .u8 b);have b1:ce (Sc b).b:=vt hb 1;have b2:ce (Pj b).b:=vt b1 1;have b3:ce (Pk b).b:=vt b2 4;have b4:ce (Sd b).b:=vt b3 2;have hrob:(V h).rob<=h.blks.length:=Nat.le_refl _;have hz:[J.int .i64 0,Ii 0,Ii 0,.str ⟨#[]⟩]=zIt.cells:=rfl;have n1:=fun z=>Cq (V h) h [z,TS ⟨b,false⟩] [] 1 ⟨b,false⟩ 1 hb (by decide) rfl hrob;have n2:=fun z=>Cq (V h) h [z,TS (Sc b)] [] 1 (Sc b) 1 b1 (by decide) rfl hrob;have n3:=fun z=>Cq (V h) h [z,TS (Pj b)] [] 1 (Pj b) 4 b2 (by decide) rfl hrob;have n4:=fun z x=>Cq (V h) h [z,TS (Pk b),x] [] 1 (Pk b) 2 b3 (by decide) rfl hrob;have n5:=fun z x=>zbs (V h) h [z,TS (Sd b),x] [] 1 (Sd b) (Il b) rfl hrob;rw [show Md ⟨b,false⟩ 1=Sc b from rfl] at n1;rw [show Md (Sc b) 1=Pj b from rfl] at n2;rw [show Md (Pj b) 4=Pk b from rfl] at n3;rw [show Md (Pk b) 2=Sd b from rfl,show bx (Pv (Pk b) 2)=Il b from rfl] at n4;rw [show Md (Sd b) (Il b)=M6 b from rfl] at n5;simp only [V,List.set_cons_zero,List.set_cons_succ,Int.cast_ofNat_Int,Int.natCast_one] at n1 n2 n3 n4 n5;have hC:=fun L h=>N6 L h (dIt b);have hdc:(dIt b).cells=[Ii (bx (Pv ⟨b,false⟩ 1):Int),Ii (bx (Pv (Sc b) 1):Int),Ii (bx (Pv (Pj b) 4):Int),.str (byA (Pv (Sd b) (Il b)))]:=rfl;have hl5:(M6 b).b.length < 1000000000:=by
  have e1:(Sc b).b.length<=b.length:=ti ⟨b,false⟩ 1;have e2:(Pj b).b.length<=(Sc b).b.length:=ti (Sc b) 1;have e3:(Pk b).b.length<=(Pj b).b.length:=ti (Pj b) 4;have e4:(Sd b).b.length<=(Pk b).b.length:=ti (Pk b) 2;have e5:(M6 b).b.length<=(Sd b).b.length:=ti (Sd b) (Il b);omega
 have hK:=fun L h=>zej L h (M6 b).b hl5;have r5:TS (M6 b)=[.vsl false (eI .u8 (M6 b).b),.bool (M6 b).s]:=rfl;have r0:TS ⟨b,false⟩=[.vsl false (eI .u8 b),.bool false]:=rfl;have hfr:∀ (x:It) (hh:O) nb nt m,frz hh nb nt (m+1) (.agg x.cells)=some (.agg x.cells):=fun x hh nb nt m=>mY hh nb nt m x.cells_flat;have hun:∀ x:It,ay 0 0 x.cells=true:=fun x=>rfl;have hzc:zIt.cells=[Ii 0,Ii 0,Ii 0,.str ⟨#[]⟩]:=rfl;generalize TS (Sd b)=c4,TS (Pk b)=c3,TS (Pj b)=c2,TS (Sc b)=c1 at*;by_cases hs:(M6 b).s=true
 ·have hd:rS b=(zIt,[],2):=if_pos hs;rw [hd];rw [hs] at r5;generalize (M6 b).b=b5,Il b=dl at*;simp -implicitDefEqProofs [pg,V,hf,<- r0,ak,setAt,aE,n1,n2,n3,n4,n5,r5,ao,aq,ab,Z,hzc,mY,aZ,J.flat]
 ·have hs':(M6 b).s=false:=by simpa using hs
  rw [hs'] at r5;by_cases hc:chk (dIt b)=0
  ·have hd:rS b=(dIt b,(M6 b).b,0):=by unfold rS;rw [if_neg hs,if_pos hc]
   rw [hd];rw [hc] at hC;rw [hdc] at hC |-;generalize (M6 b).b=b5,Il b=dl at*;simp -implicitDefEqProofs [pg,V,hf,<- r0,ak,setAt,aE,n1,n2,n3,n4,n5,r5,ao,aq,ab,Z,hzc,mY,aZ,J.flat,hC,hK]
  ·have hd:rS b=(zIt,[],chk (dIt b)):=by unfold rS;rw [if_neg hs,if_neg hc]
   have hcb:(chk (dIt b) !=0)=true:=bne_iff_ne.2 hc;rw [hd];generalize chk (dIt b)=ck at*;rw [hdc] at hC;generalize (M6 b).b=b5,Il b=dl at*;simp -implicitDefEqProofs [pg,V,hf,<- r0,ak,setAt,aE,n1,n2,n3,n4,n5,r5,ao,aq,ab,Z,hzc,mY,aZ,J.flat,hC,hcb]
def DN:Nat->List Int->Nat->List It->List It × Int × Int
 | 0,_,_,acc=>(acc, -1,0)
 | f + 1, b, k, acc => if b = [] then (acc, -1, 0) else if k = 1024 then ([], (k : Int), 9) else
  if (rS b).2.2=0 then DN f (rS b).2.1 (k+1) (acc++[(rS b).1]) else ([],(k:Int),(rS b).2.2)
def bp (b:List Int):List It × Int × Int:=DN 1026 b 0 []
theorem QH (b:List Int)(hb:ce b):ce (rS b).2.1/\(rS b).2.1.length<=b.length:=by
 have b1:ce (Sc b).b:=vt hb 1;have b2:ce (Pj b).b:=vt b1 1;have b3:ce (Pk b).b:=vt b2 4;have b4:ce (Sd b).b:=vt b3 2;have b5:ce (M6 b).b:=vt b4 _;have e1:(Sc b).b.length<=b.length:=ti ⟨b,false⟩ 1;have e2:(Pj b).b.length<=(Sc b).b.length:=ti (Sc b) 1;have e3:(Pk b).b.length<=(Pj b).b.length:=ti (Pj b) 4;have e4:(Sd b).b.length<=(Pk b).b.length:=ti (Pk b) 2;have e5:(M6 b).b.length<=(Sd b).b.length:=ti (Sd b) (Il b);unfold rS;split
 ·exact ⟨fun i hi=>by simp at hi,by simp⟩
 ·split
  ·exact ⟨b5,by simp only;omega⟩
  ·exact ⟨fun i hi=>by simp at hi,by simp⟩
theorem Xz {fr:Fr}{h:O}{R:Option (cL × Fr × O)}(hF:run ah (V h) (.loop iP) fr (hx h [] [])=R)(b0:List Int)(hb0:ce b0)(hl0:b0.length < 1000000000)
  (h0:fr 0=.vsl false (eI .u8 b0)) (h5:fr 5=.nsl) (h6:fr 6=Ii 0):
  ∃ e fr' bs ts,R=some (e,fr',hx h bs ts)/\(e=.exit 0/\fr' 5=gL .nsl h.toks.length 0 ((bp b0).1.map It.cells)/\(bp b0).2=(-1,0)\/e=.ret/\fr' 2=.nsl/\(bp b0).1=[]/\fr' 3=Ii (bp b0).2.1/\fr' 4=Ii (bp b0).2.2):=by
 obtain ⟨e,fr',h',rfl,⟨⟨bs,ts,rfl⟩,hp⟩,hk⟩:=af hF 1024
  (fun k fr hh=>fr 6=Ii (k:Int)/\∃ b acc bs,fr 0=.vsl false (eI .u8 b)/\ce b/\b.length < 1000000000/\fr 5=gL .nsl h.toks.length 0 (acc.map It.cells)/\hh=hx h bs (gT (acc.map It.cells))/\acc.length=k/\bp b0=DN (1026 - k) b k acc)
  (fun e fr hh=>(∃ bs ts,hh=hx h bs ts)/\(e=.exit 0/\fr 5=gL .nsl h.toks.length 0 ((bp b0).1.map It.cells)/\(bp b0).2=(-1,0)\/e=.ret/\fr 2=.nsl/\(bp b0).1=[]/\fr 3=Ii (bp b0).2.1/\fr 4=Ii (bp b0).2.2))
  ⟨h6, b0, [], [], h0, hb0, hl0, by simpa [gL] using h5, by simp [gT], rfl, rfl⟩ (by
   rintro k fr1 hh hkN hkeep ⟨g6,b,acc,bs,g0,hb,hl,g5,rfl,hak,hpar⟩;obtain ⟨f,hf⟩:∃ f,1026 - k=f+1:=⟨1026 - k - 1,by omega⟩;rw [hf,DN] at hpar;by_cases hnil:b=[]
   ·rw [if_pos hnil] at hpar;subst hnil;simp only [Zz] at g0;rw [hpar];simp [iP,g0,g5];exact ⟨_,_,rfl⟩
   ·rw [if_neg hnil] at hpar;have hpos:0 < b.length:=List.length_pos_iff.2 hnil;by_cases hk:k=1024
    ·rw [if_pos hk] at hpar;rw [hpar];have bk:((k:Int)==1024)=true:=by simp;omega
     simp [iP,g0,g6,hpos,bk];exact ⟨_,_,rfl⟩
    ·rw [if_neg hk] at hpar;have bk:((k:Int)==1024)=false:=by simp;omega
     have hD:=fun L h=>zbQ L h b hb hl;obtain ⟨hr1,hr2⟩:=QH b hb;have w1:Wr ((k:Int)+1)=k+1:=wz;generalize rS b=D at*;obtain ⟨x,rest,er⟩:=D;simp only at hD hr1 hr2 hpar;by_cases he:er=0
     ·rw [if_pos he] at hpar;have be:(er==0)=true:=by simp [he]
      have hxc:x.cells.length=4:=rfl;have hsz:=NX acc;have hx1:cS 4 [x.cells]=true:=rfl;have hmp:(acc++[x]).map It.cells=acc.map It.cells++[x.cells]:=by simp
      have hz4:([J.int .i64 0,Ii 0,Ii 0,.str ⟨#[]⟩]).length=x.cells.length:=rfl;have hfil:ak (rep [J.int .i64 0,Ii 0,Ii 0,.str ⟨#[]⟩] 1) [(0,4,.agg x.cells)]=some x.cells:=rfl;have hchk:chunks 4 1 x.cells=[x.cells]:=rfl;generalize It.cells x=xc at*;simp -implicitDefEqProofs [iP,V,g0,g5,g6,hpos,bk,hD,bne,be,Z,aq,ab,hxc,hfil,hchk,FL,hsz,hx1,am,hak,show k+1 < 274877906944 by omega,w1];refine ⟨by omega,rest,rfl,hr1,by omega,acc++[x],by rw [hmp],⟨_,by rw [hmp]⟩,by simp [hak],?_⟩;rw [hpar,show 1025 - k=f by omega]
     ·rw [if_neg he] at hpar;have be:(er==0)=false:=by simpa using he
      rw [hpar];have hxc:x.cells.length=4:=rfl;generalize It.cells x=xc at*;simp -implicitDefEqProofs [iP,V,g0,g5,g6,hpos,bk,hD,bne,be,Z,aq,ab,hxc];exact ⟨_,_,rfl⟩)
 exact ⟨e,fr',bs,ts,rfl,hp⟩
theorem ze9 (L:az)(h:O)(c:Bool)(b:List Int)(hb:ce b)(hl:b.length < 1000000000):
  aa ah L pM [.vsl c (eI .u8 b)] h=some (.tup [.vsl false ((bp b).1.map It.cells),Ii (bp b).2.1,Ii (bp b).2.2],h):=by
 rw [G5];simp [uD];generalize hF:run ah _ (.loop _) _ _=R;obtain ⟨e,fr',bs,ts,rfl,⟨rfl,h5,h6⟩ | ⟨rfl,h2,h3,h4,h5⟩⟩:=Xz hF b hb hl (by simp) (by simp) (by simp)
 ·have hfz:=fun hh n=>pe (h1:=hh) (nb:=h.blks.length) (nt:=h.toks.length) (n:=n) (s:=.nsl) (.inl rfl) (nQ h.blks.length h.toks.length (bp b).1);rw [h6];simp -implicitDefEqProofs [h5,hfz]
 ·rw [h3];simp [h2,h4,h5]
def Sh (p:List Int):Gd:=⟨(bp p).1,0,0⟩
theorem zjn (L:az)(h:O)(bs:List (List J))(ts:List Nat)(c:Bool)(p:List Int)(hp:ce p)(hl:p.length < 1000000000):
  aa ah L yg [.vsl c (eI .u8 p)] (hx h bs ts)=
   if (bp p).2.2=0 then some (.tup [pA h.blks.length bs.length 0,Ii (-1),Ii 0],hx h (bs++[Ki (Sh p)]) ts)
   else some (.tup [.nilp,Ii (bp p).2.1,Ii (bp p).2.2],hx h bs ts):=by
 rw [OE];have hP:=fun L h=>ze9 L h c p hp hl;have hg:Ki (Sh p)=[.vsl false ((bp p).1.map It.cells),Ii 0,.nilp]:=rfl;rw [hg];generalize bp p=q,(bp p).1.map It.cells=it at*;obtain ⟨q1,q2,q3⟩:=q;simp only at*;by_cases he:q3=0
 ·rw [if_pos he];have be:(q3==0)=true:=by simp [he]
  simp -implicitDefEqProofs [xL,hP,bne,be,ak,setAt,aE,J.okV,J.cells]
 ·rw [if_neg he];have be:(q3==0)=false:=by simp [he]
  simp -implicitDefEqProofs [xL,hP,bne,be,ak,setAt]
theorem zbZ (L:az)(h:O)(p:J)(b:Nat)(g:Gd)(hp:p=.ptr b 0)(hb:h.blks[b]?=some (Ki g))(hl:g.l.length < 1000000000):
  aa ah L ib [p] h=some (.vsl false (g.l.map It.cells),h):=by
 subst hp;rw [B8];have hC:=fun L h c=>zel L h c g.l hl;simp only [Ki] at hb;have hfz:=fun n=>ix (hx h [] []) h.blks.length h.toks.length n false (O7 h.blks.length h.toks.length g.l);generalize g.l.map It.cells=it at*;have h1:=fun bs ts=>Fs h bs ts b 0 1 false _ hb;have hf:oL h (.ptr b 0)=some (.ptr b 0,false):=by simp only [oL]
 simp -implicitDefEqProofs [oT,V,hf,h1,ao,hC,hfz]
theorem zjr (L:az)(h:O)(bs:List (List J))(ts:List Nat)(c:Bool)(l:List Int)(hl:l.length=32)(hL:L.rob<=h.blks.length):
  aa ah L oH [.iface 230 (.agg []),.vsl c (eI .u8 l)] (hx h bs ts)=some (.tup [pA h.blks.length (bs.length+1) 0,Ii 0],hx h (bs++[cI .u8 (rK l).S,Pu h.blks.length bs.length (rK l)]) ts):=by
 rw [F1];have e1:Pu h.blks.length bs.length (rK l)=[.iface 230 (.agg []),sA h.blks.length bs.length 0 1 200 (some 200),Ii 0,Ii 136,Ii 0]:=rfl;have e2:(rK l).S=putAt (tab 200 fun _=>0) 136 l:=rfl;rw [e1,e2];have hg1:=fun x y=>jY bs [x,y] bs.length 0 rfl;have hg2:=fun x y=>jY bs [x,y] bs.length 1 rfl;simp only [Nat.add_zero,List.getElem?_cons_zero,List.getElem?_cons_succ] at hg1 hg2;have hsl:=RU 1 h.blks.length bs.length 200 136 (some 200) .i64 (by decide);simp only [Int.cast_ofNat_Int] at hsl;have hel:=fun w=>JT (hx h (bs++w) ts) 1 c (eI .u8 l);have hcp:=fun b=>zbw L h (bs++[cI .u8 (tab 200 fun _=>0),b]) ts bs.length 136 64 (some 64) .u8 l (tab 200 fun _=>0) (.vsl c (eI .u8 l)) (hel _) (by rw [List.getElem?_append_right (Nat.le_refl _)];simp) (by simp;omega) hL;rw [show min l.length 64=32 by omega,List.take_of_length_le (by omega)] at hcp;have hs1:=fun x y v=>l9 bs [x,y] bs.length 0 v rfl;simp only [Nat.add_zero,List.set_cons_zero,List.set_cons_succ] at hs1;simp only [hs1] at hcp;generalize putAt (tab 200 fun _=>(0:Int)) 136 l=m at*;generalize hz:(tab 200 fun _=>(0:Int))=zz at*;simp -implicitDefEqProofs [sx,Jx,zea,hl,jv,am,eV,gQ,hz,aE,ak,setAt,hg1,hg2,hsl,hcp,show IntKind.i64.wrap 64=64 by decide,show IntKind.i64.wrap 1=1 by decide]
theorem zb3 (L:az)(h:O)(bs:List (List J))(ts:List Nat)(c:Bool)(l:List Int)(hl:l.length=32)(hL:L.rob<=h.blks.length):
  aa ah L pO [.iface 230 (.agg []),.vsl c (eI .u8 l)] (hx h bs ts)=some (pA h.blks.length (bs.length+1) 0,hx h (bs++[cI .u8 (rK l).S,Pu h.blks.length bs.length (rK l)]) ts):=by
 rw [G7];simp -implicitDefEqProofs [uE,zjr,hl,hL]
theorem zb4 (L:az)(h:O):aa ah L pP [] h=some (.iface 230 (.agg []),h):=by
 rw [G8];have hf:ak [] []=some []:=rfl;have hz : ∀ nb nt n, frz (hx h [] []) nb nt (n + 2) (.iface 230 (.agg [])) = some (.iface 230 (.agg [])) := fun nb nt n => by
  rw [frz.eq_def];simp [frz,aZ]
 simp [uF,hf,hz]
theorem zff (k:IntKind)(n:Nat)(l:List Int)(hl:l.length=n):eP (.arr n) 1 (.vptr (cI k l) 0) none none none=some (.vsl true (eI k l)):=by
 have e:=Bg n (cI k l) (by simpa using hl);rw [zI] at e;simp [eP,jE,hl,e,E5,List.take_of_length_le]
theorem UN (L:az)(h:O)(bs:List (List J))(ts:List Nat)(l:List Int)(hl:l.length=32)(hL:L.rob<=h.blks.length):
  aa ah L tz [.agg (cI .u8 l)] (hx h bs ts)=some (pA h.blks.length (bs.length+1) 0,hx h (bs++[cI .u8 (rK l).S,Pu h.blks.length bs.length (rK l)]) ts):=by
 rw [KK];have hbox:lx (.agg (cI .u8 l))=some (.vptr (cI .u8 l) 0):=rfl;have hsl:=zff .u8 32 l hl;simp -implicitDefEqProofs [yO,hbox,hsl,zb4,zb3,hl,hL]
theorem UQ {s:Sp}(ha:s.a=136)(u:Int):um s u=⟨(gk s.S).set 0 u,1,136,s.c+1⟩:=by
 unfold um Qb;rw [if_pos ha];rfl
theorem UR {s:Sp}(ha:¬s.a=136)(u:Int):um s u=⟨s.S.set s.a u,s.a+1,136,s.c⟩:=by
 unfold um Qb;rw [if_neg ha]
theorem Fk {s:Sp}(hs:s.ok)(l:List Int):(aA s l).c<=s.c+l.length+1:=by
 obtain ⟨h1,h2,_,_⟩:=Ry (l:=l) (s:=s) hs.2.2.1;have:=hs.2.2.1;omega
theorem zm9 {l : List Int}(h : ce l)(n : Nat) : ce (l.take n) := fun i hi => by
 rw [xY (by simp at hi;omega)];exact h i (by simp at hi;omega)
theorem So {L:az}{fr:Fr}{h:O}{R:Option (cL × Fr × O)}(bs:List (List J))(ts:List Nat)(i j:Nat)(s:Sp)(hs:s.ok)(c:Bool)(l:List Int)(hl:ce l)(hn:l.length < 100000000)(hc:s.c < 100000000)
  (hi:i < bs.length) (hj:j < bs.length) (hij:i≠j) (hL:L.rob<=h.blks.length)
  (hF:run ah L (.loop cN) fr (hx h (lY bs i j h.blks.length s) ts)=R)
  (h0:fr 0=pA h.blks.length i 0) (h4:fr 4=Ii 136) (h12:fr 12=.vsl c (eI .u8 l)) (h13:fr 13=Ii l.length) (h14:fr 14=Ii 0):
  ∃ fr',R=some (.exit 0,fr',hx h (lY bs i j h.blks.length (aA s l)) ts):=by
 obtain ⟨e,fr',h',rfl,⟨rfl,rfl⟩,hk⟩:=af hF l.length
  (fun k fr hh=>fr 14=Ii k/\hh=hx h (lY bs i j h.blks.length (aA s (l.take k))) ts)
  (fun e fr hh=>e=.exit 0/\hh=hx h (lY bs i j h.blks.length (aA s l)) ts)
  ⟨h14, by simp [aA]⟩ (by
   rintro k fr1 hh hkN hkeep ⟨g14,rfl⟩;have g0:=kp hkeep h0;have g4:=kp hkeep h4;have g12:=kp hkeep h12;have g13:=kp hkeep h13;by_cases hlt:k < l.length
   ·have w0:Wr ((k:Int)+1)=k+1:=wz;have hok:=jh (l:=l.take k) hs (zm9 hl k);have hck:=Fk hs (l.take k);simp only [List.length_take] at hck;have hsn:=Ot s l k hlt;have g1:=WJ hi hij;have g2:=zbg (i:=i) hj;have g3:=TM (bs:=bs) hij;have g5:=TN (bs:=bs) (i:=i) (j:=j);have ik:=pI .u8 .i64 c l k (decide_eq_true hlt);generalize gd l 0 k=u,aA s (l.take k)=q at*;have hP:=E9 L h bs ts i j q hok (by omega) hi hj hij hL;obtain ⟨o1,o2,o3,o4⟩:=hok;have w1':IntKind.i64.wrap 1=1:=by decide
    by_cases ha:q.a=136
    ·rw [UQ ha] at hsn;have htl:(gk q.S).length=200:=wV _;have ia:=om h.blks.length j 0 1 200 0 (some 200) .i64 (by decide);obtain ⟨S,a,b,d⟩:=q;simp only at*;subst ha;simp only [lY,Pu,ym,Int.natCast_zero,Int.cast_ofNat_Int] at*;generalize d+1=d1,gk S=S1 at*;simp -implicitDefEqProofs [cN,g0,g4,g12,g13,g14,hlt,w0,w1',hP,g1,g2,g3,g5,ap,hL,setAt,ik,ia,ao,hsn,htl]
    ·rw [UR ha] at hsn;have haI:((q.a:Int)==136)=false:=beq_false_of_ne (by omega);have ia:=om h.blks.length j 0 1 200 q.a (some 200) .i64 (decide_eq_true (by omega));have w1:Wr ((q.a:Int)+1)=((q.a+1:Nat):Int):=wy;have halt:0+q.a*1+1<=q.S.length:=by omega
     obtain ⟨S,a,b,d⟩:=q;simp only [lY,Pu] at*;have hst:(cI .u8 S).set (0+a*1) (.int .u8 u)=cI .u8 (S.set a u):=by rw [zmS];simp
     generalize a+1=a1 at*;generalize 0+a*1=a0 at*;simp -implicitDefEqProofs [cN,g0,g4,g12,g13,g14,hlt,w0,w1,haI,g1,g2,g3,g5,ap,hL,setAt,ik,ia,ao,hsn,hst,halt]
   ·have:k=l.length:=by omega
    subst this;simp [cN,g13,g14])
 exact ⟨fr',rfl⟩
theorem XN (L:az)(h:O)(bs:List (List J))(ts:List Nat)(i j:Nat)(s:Sp)(hs:s.ok)(c:Bool)(l:List Int)(hl:ce l)(hn:l.length < 100000000)(hc:s.c < 100000000)
  (hi:i < bs.length) (hj:j < bs.length) (hij:i≠j) (hL:L.rob<=h.blks.length):
  aa ah L eZ [pA h.blks.length i 0,.vsl c (eI .u8 l)] (hx h (lY bs i j h.blks.length s) ts)=some (.tup [],hx h (lY bs i j h.blks.length (aA s l)) ts):=by
 rw [tM];have hlo:=fun fr R=>So (L:=⟨L.rob,L.rot,h.blks.length+bs.length,h.toks.length+ts.length⟩) (fr:=fr) (h:=h) (R:=R) bs ts i j s hs c l hl hn hc hi hj hij hL;have htr:=FK h bs ts i j (Pu h.blks.length j (aA s l)) (cI .u8 (aA s l).S);have g1:=WJ hi hij;simp only [lY] at*;generalize aA s l=s2 at*;generalize hy:Pu h.blks.length j s2=y at*;simp only [Pu] at*;simp -implicitDefEqProofs [jg,aC,aB,g1,ao,Jx];generalize hF:run ah _ (.loop _) _ _=R;obtain ⟨fr1,rfl⟩:=hlo _ _ hF (by simp) (by simp) (by simp) (by simp) (by simp);simp -implicitDefEqProofs [htr,aC,aB]
theorem UV (L:az)(h:O)(bs:List (List J))(ts:List Nat)(i j:Nat)(s:Sp)(hs:s.ok)(hc:s.c < 100000000)(hi:i < bs.length)(hj:j < bs.length)(hij:i≠j)(hL:L.rob<=h.blks.length):
  aa ah L cO [pA h.blks.length i 0] (hx h (lY bs i j h.blks.length s) ts)=some (.tup [],hx h (lY bs i j h.blks.length (BR s)) ts):=by
 rw [sE];have hP:=fun L hL=>E9 L h bs ts i j s hs (by omega) hi hj hij hL;have g1:=WJ hi hij;have g2:=zbg (i:=i) hj;have g3:=TM (bs:=bs) hij;have g4:=TN (bs:=bs) (i:=i) (j:=j);have g5:=FK h bs ts i j;have hsl:=Kr 1 h.blks.length j 200 136 (some 200) .i64 (by decide);simp only [Int.cast_ofNat_Int] at hsl;have hcl:=fun L hL x=>ziP L h (JR bs i j x (cI .u8 (gk s.S))) ts j 0 136 (some 200) .u8 0 (gk s.S) (g2 x _) (by rw [wV];decide) hL;simp only [g4] at hcl;have e1:(BR s).S=putAt (gk s.S) 0 (tab 136 fun _=>0):=rfl;have e2:Pu h.blks.length j (BR s)=[.iface 230 (.agg []),sA h.blks.length j 0 1 200 (some 200),Ii 0,Ii 136,Ii ((s.c+1:Nat):Int)]:=rfl;simp only [lY] at*;rw [e1,e2];have e3:Pu h.blks.length j (ym s)=[.iface 230 (.agg []),sA h.blks.length j 0 1 200 (some 200),Ii 0,Ii s.b,Ii ((s.c+1:Nat):Int)]:=rfl;have e4:(ym s).S=gk s.S:=rfl;rw [e3,e4] at hP;generalize ((s.c+1:Nat):Int)=c2,gk s.S=S1,putAt (gk s.S) 0 (tab 136 fun _=>0)=S2 at*;generalize hy:Pu h.blks.length j s=y at*;simp -implicitDefEqProofs [iA,aC,aB,hP,hL,g1,g2,g3,g4,g5,ao,Jx,hsl,hcl,ap,setAt]
end Go.Av
