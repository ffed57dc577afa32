/- Elements as bytes, and elements sampled of a sponge. -/
import Derived.Test.YtafkceblllhheaaGreatDoorC2
import Derived.Test.YtafkceblllhheaaGreatDoorC3
import Derived.Test.YtafkceblllhheaaGreatDoorC4
set_option linter.unusedSimpArgs false
set_option linter.unusedVariables false
set_option maxHeartbeats 2000000
set_option maxRecDepth 20000
namespace Go.Av
theorem zeR (L:az)(h:O)(x:Nat):Z ah L jj [.agg (cW (fe x))] h=some (.agg (cW (w4 (x % pN))),h):=by
 rw [yo];have e0:(cW (tab 4 fun _=>0#64)).set 0 (wd 1#64)=cW [1#64,0#64,0#64,0#64]:=rfl;have hv:val [1#64,0#64,0#64,0#64]=1:=by decide +kernel
 have h1:=fun L h=>M7 L h (fe x) [1#64,0#64,0#64,0#64] rfl rfl (by rw [hv];decide);rw [hv,zeS] at h1;have l1:=M3 x;have l3:=Bo (x % pN);generalize [1#64,0#64,0#64,0#64]=q,fe x=a,w4 (x % pN)=r at*;simp -implicitDefEqProofs [me,V,aa,l1,l3,h1,al,au,ae,bH,e0,wd1]
def feB (x:Nat):List Int:=aR (w4 (x % pN))
@[simp] theorem Zb (x:Nat):(feB x).length=32:=by simp [feB,aR]
theorem zeU (L:az)(h:O)(x:Nat):Z ah L ji [.agg (cW (fe x))] h=some (.agg (cI .u8 (feB x)),h):=by
 rw [x9];have hsl:=vn 4 1 h.blks.length 1 0 (by decide);have hlv:=fun L h=>zeR L h x;have hB:=fun L z=>Ue L (hx h [z,cW (w4 (x % pN))] []) (w4 (x % pN)) (sA h.blks.length 1 0 1 4 (some 4)) (by simp) (iV.sA [] 1 4 _ _ rfl rfl);have h2a:=SA 32 false .u8 (feB x) (by simp);rw [List.take_of_length_le (by simp)] at h2a;have l0:=Zb x;have l1:=M3 x;have l3:=Bo (x % pN);have hf:aR (w4 (x % pN))=feB x:=rfl;rw [hf] at hB;generalize fe x=a,w4 (x % pN)=r,feB x=bs at*;simp -implicitDefEqProofs [l8,V,aa,l0,l1,l3,bH,fJ,hlv,hsl,hB,h2a,au,ae]
theorem Ip (L:az)(h:O)(c:Bool)(b:List Int)(hb:cw b)(hl:b.length=32):Z ah L gH [.vsl c (eI .u8 b)] h=
  some (if bi b < pN then .tup [.agg (cW (fe (bi b))),Ii 0] else .tup [.agg (cW (tab 4 fun _=>0#64)),Ii 4],h):=by
 rw [tQ];have hW:=fun L H=>L6 L H (.vsl false (eI .u8 b)) b (IY.vsl H .u8 false b) (by omega);rw [hl,show (32+7) / 8=4 from rfl] at hW;have hv:=Ys b hb 4 (by omega);rw [hl] at hv;have hwl:(EH b 4 32).length=4:=by simp
 have h2a:=Md 4 false (EH b 4 32) (by decide) (by simp);rw [List.take_of_length_le (by simp)] at h2a;have hbo:=fun L h=>PE L h (EH b 4 32) pW hwl rfl;simp only [hv,zjz] at hbo;have hE:=fun L H=>ze3 L H (EH b 4 32) hwl;rw [hv] at hE;generalize EH b 4 32=ws at*;by_cases hlt:bi b < pN
 ·simp only [if_pos hlt] at hbo;rw [if_pos hlt];have l3:=Bo (bi b+rN - pN);have l4:=M3 (bi b);generalize fe (bi b)=r,w4 (bi b+rN - pN)=q at*;have he:(wd 1#64=J.int .u64 1):=rfl;simp -implicitDefEqProofs [mP,V,hl,hW,h2a,aa,hwl,bH,au,ae,yT,hbo,l3,l4,he,hE]
 ·simp only [if_neg hlt] at hbo;rw [if_neg hlt];have l3:=Bo (bi b - pN);generalize w4 (bi b - pN)=q at*;have he:(wd 0#64=J.int .u64 0):=rfl;simp -implicitDefEqProofs [mP,V,hl,hW,h2a,aa,hwl,bH,au,ae,yT,hbo,l3,he,al]
theorem R6 (bs z:List (List J)){i j:Nat}(n:Nat)(s:Sp)(hi:i < bs.length)(hj:j < bs.length):kY (bs++z) i j n s=kY bs i j n s++z:=by
 simp only [kY,IM];rw [List.set_append_left _ _ hi,List.set_append_left _ _ (by simpa using hj)]
theorem oa (bs:List (List J))(i j n:Nat)(s:Sp):(kY bs i j n s).length=bs.length:=by simp [kY]
theorem ze4 (L:az)(h:O)(bs:List (List J))(ts:List Nat)(i j:Nat)(s:Sp)(hs:s.ok)(hc:s.c < 100000000)
  (hi:i < bs.length) (hj:j < bs.length) (hij:i≠j) (hL:L.rob<=h.blks.length) (hT:L.rot<=h.toks.length):
  Z ah L dm [.agg [pA h.blks.length i 0]] (hx h (kY bs i j h.blks.length s) ts)=some (.agg (cI .u8 (fm s 32)),hx h (kY bs i j h.blks.length (bz s 32)) ts):=by
 rw [tS];have hS:=fun L hL hT z=>J6 L h (bs++[z]) ts i j s hs 32 32 rfl (by decide) hc (by simp;omega) (by simp;omega) hij hL hT;simp only [R6 bs _ h.blks.length _ hi hj] at hS;have hl1:=oa bs i j h.blks.length s;have hl2:=oa bs i j h.blks.length (bz s 32);have hll:(fm s 32).length=32:=yG s 32;generalize kY bs i j h.blks.length s=B1,kY bs i j h.blks.length (bz s 32)=B2,fm s 32=l at*;have h2a:=SA 32 false .u8 l (by simp [hll]);rw [List.take_of_length_le (by omega)] at h2a;have hg:=fun x=>iQ B2 [x] bs.length 0 hl2.symm;have hset:=fun x v=>lL B2 [x] bs.length 0 v hl2.symm;simp only [Nat.add_zero,List.getElem?_cons_zero,List.set_cons_zero] at hg hset;have htr:=fun js=>Ev h B2 js ts bs.length hl2.symm;simp -implicitDefEqProofs [iY,aB,aA,pe,J.okV,J.cells,fJ,ap,hl1,hS,hL,hT,h2a,hg,hset,htr,au,ae,am,aa,hll]
def UR (x:Int):Int:=IntKind.u8.wrap (((x % 2 ^ IntKind.u8.bits).toNat&&&63 % 2 ^ IntKind.u8.bits:Nat):Int)
def kc (b:List Int):List Int:=b.set 31 (UR (gd b 0 31))
theorem ziB (x:Int):0<=UR x/\UR x < 256:=by
 unfold UR IntKind.wrap;simp [IntKind.signed,IntKind.bits];omega
theorem Nw {b:List Int}(h:cw b):cw (kc b):=Yj h 31 _ (ziB _)
theorem Ny (b:List Int):(kc b).length=b.length:=by simp [kc]
theorem zjc (L:az)(h:O)(b:List Int)(hl:b.length=32):Z ah L sV [.agg (cI .u8 b)] h=some (.agg (cI .u8 (kc b)),h):=by
 rw [JO];have hi:bO (some 32) 1 (pA h.blks.length 0 0) (Ii 31)=some (pA h.blks.length 0 31):=rfl;have hmsk:kc b=b.set 31 (IntKind.u8.wrap (((gd b 0 31 % 2 ^ IntKind.u8.bits).toNat&&&63 % 2 ^ IntKind.u8.bits:Nat):Int)):=rfl;have hat:∀ hh,(cI .u8 b)[31]'hh=.int .u8 (gd b 0 31):=fun hh=>(List.getElem?_eq_some_iff.1 (NR (by omega))).2;rw [hmsk];simp -implicitDefEqProofs [x7,V,fJ,aF,J.okV,J.cells,au,ae,aa,hl,hi,hat,NR]
theorem zmf {s:Sp}(h:s.ok):(LS s).ok/\(LS s).b < 136:=Yi h
theorem NA {s : Sp}(h : s.ok)(n : Nat) : cw (fm s n) := fun i hi => by
 rw [yG] at hi;unfold fm;rw [dZ hi];obtain ⟨⟨h1,h2,h3,h4⟩,h5⟩:=zmf (qj h i);exact h2 _ (by omega)
theorem NB {α:Type}(B jk w:List α)(n k:Nat)(h:B.length=n):(B++(jk++w))[n+(jk.length+k)]?=w[k]?:=by
 subst h;rw [List.getElem?_append_right (by omega),Nat.add_sub_cancel_left,List.getElem?_append_right (by omega),Nat.add_sub_cancel_left]
theorem NC {α:Type}(B jk w:List α)(n k:Nat)(v:α)(h:B.length=n):(B++(jk++w)).set (n+(jk.length+k)) v=B++(jk++w.set k v):=by
 subst h;rw [List.set_append_right _ _ (by omega),Nat.add_sub_cancel_left,List.set_append_right _ _ (by omega),Nat.add_sub_cancel_left]
def zE:List ac:=tab 4 fun _=>0#64
def pg:Nat->Sp->Nat->(List ac × Int × Int) × Sp
 | 0,s,_=>((zE,64,11),s)
 | f+1,s,k=>if bi (kc (fm s 32)) < pN then ((fe (bi (kc (fm s 32))),(k:Int)+1,0),bz s 32) else pg f (bz s 32) (k+1)
@[irreducible] def bV (s:Sp):(List ac × Int × Int) × Sp:=pg 64 s 0
theorem sG (s:Sp):bV s=pg 64 s 0:=by unfold bV;exact rfl
theorem ZJ:∀ (f:Nat) {s:Sp} (k:Nat),s.ok->(pg f s k).2.ok/\(pg f s k).2.c<=s.c+32*f
 | 0,s,k,h=>⟨h,by simp [pg]⟩
 | f + 1, s, k, h => by
  have h1:=qj h 32;have h2:=zW s 32;unfold pg;split
  ·exact ⟨h1,by simp only;omega⟩
  ·obtain ⟨a,b⟩:=ZJ f (k+1) h1;exact ⟨a,by omega⟩
theorem Ve:∀ (f:Nat) (s:Sp) (k:Nat),(pg f s k).1.1.length=4
 | 0,s,k=>rfl
 | f + 1, s, k => by
  unfold pg;split
  ·rfl
  ·exact Ve f _ _
theorem zf9:∀ (f:Nat) (s:Sp) (k:Nat),(pg f s k).1.2.2=0\/(pg f s k).1.2.2=11
 | 0,s,k=>.inr rfl
 | f + 1, s, k => by
  unfold pg;split
  ·exact .inl rfl
  ·exact zf9 f _ _
theorem NE (s:Sp):(bV s).1.1.length=4:=by rw [sG];exact Ve 64 s 0
theorem JY {s:Sp}(h:s.ok):(bV s).2.ok/\(bV s).2.c<=s.c+2048:=by rw [sG];exact ZJ 64 0 h
theorem zgc (s:Sp):(bV s).1.2.2=0\/(bV s).1.2.2=11:=by rw [sG];exact zf9 64 s 0
theorem O7 (L:az)(h:O)(bs:List (List J))(ts:List Nat)(i:Nat)(cap:Option Nat)(t:List Int)(hb:cw t)(hi:bs[i]?=some (cI .u8 t))(hl:t.length=32):
  Z ah L gH [sA h.blks.length i 0 1 32 cap] (hx h bs ts)=some (if bi t < pN then .tup [.agg (cW (fe (bi t))),Ii 0] else .tup [.agg (cW (tab 4 fun _=>0#64)),Ii 4],hx h bs ts):=by
 have h1:=Ip L (hx h bs ts) false t hb hl;rw [tQ] at h1 |-;have hf:=Xn h bs ts i 32 cap .u8 t hi hl;rw [Gx,C9,fw,Gy,Mm,GA] at h1;rw [Gx,C9,hf,Gy,Mm,GA];refine zbU h1 ?_;split
 ·simp [J.flat,bC,Ik]
 ·simp [J.flat,bC,Ik]
def fnB (n i:Nat):J:=.fn (.func dm) [.agg [pA n i 0]] []
theorem XP {L:az}{fr:Fr}{h:O}{R:Option (dt × Fr × O)}(bs:List (List J))(ts:List Nat)(i j:Nat)(s:Sp)(hs:s.ok)(hc:s.c+2048 < 100000000)
  (hi:i < bs.length) (hj:j < bs.length) (hij:i≠j) (hL:L.rob<=h.blks.length) (hT:L.rot<=h.toks.length)
  (hF:run ah L (.loop lP) fr (hx h (kY bs i j h.blks.length s++[cW zE]) ts)=R)
  (h0:fr 0=fnB h.blks.length i) (h2:fr 2=pA h.blks.length bs.length 0) (h9:fr 9=Ii 0):
  ∃ e fr' jk,R=some (e,fr',hx h (kY bs i j h.blks.length (bV s).2++jk) ts)/\fr' 2=pA h.blks.length bs.length 0/\(e=.exit 0/\jk[0]?=some (cW zE)/\(bV s).1=(zE,64,11)\/e=.ret/\jk[0]?=some (cW (bV s).1.1)/\fr' 3=Ii (bV s).1.2.1/\fr' 4=Ii 0/\(bV s).1.2.2=0):=by
 obtain ⟨e,fr',h',rfl,⟨jk,rfl,hp⟩,hk⟩:=af hF 64
  (fun k fr hh=>fr 9=Ii (k:Int)/\∃ q jk,q.ok/\q.c<=s.c+32*k/\jk[0]?=some (cW zE)/\hh=hx h (kY bs i j h.blks.length q++jk) ts/\bV s=pg (64 - k) q k)
  (fun e fr hh=>∃ jk,hh=hx h (kY bs i j h.blks.length (bV s).2++jk) ts/\(e=.exit 0/\jk[0]?=some (cW zE)/\(bV s).1=(zE,64,11)\/e=.ret/\jk[0]?=some (cW (bV s).1.1)/\fr 3=Ii (bV s).1.2.1/\fr 4=Ii 0/\(bV s).1.2.2=0))
  ⟨h9, s, _, hs, by omega, rfl, rfl, sG s⟩ (by
   rintro k fr1 hh hkN hkeep ⟨g9,q,jk,hq,hqc,hj0,rfl,hspec⟩;have g0:=kp hkeep h0;have g2:=kp hkeep h2;by_cases hlt:k < 64
   ·have hltI:(k:Int) < 64:=by omega
    obtain ⟨f,hf⟩:∃ f,64 - k=f+1:=⟨64 - k - 1,by omega⟩;rw [hf,pg] at hspec;have w0:Wr ((k:Int)+1)=k+1:=wz;have hB:=ze4 L h (bs++jk) ts i j q hq (by omega) (by simp;omega) (by simp;omega) hij hL hT;simp only [R6 bs _ h.blks.length _ hi hj] at hB;have hq1:=qj hq 32;have hq2:=zW q 32;have hgl:(fm q 32).length=32:=yG q 32;have hgi:cw (fm q 32):=NA hq 32;have hMk:=fun L h=>zjc L h (fm q 32) hgl;have hml:(kc (fm q 32)).length=32:=by rw [Ny,hgl]
    have hmi:=Nw hgi;generalize bz q 32=q2,fm q 32=l,kc (fm q 32)=m at*;have hl2:=oa bs i j h.blks.length q2;obtain ⟨B,hBe⟩:∃ B,B=kY bs i j h.blks.length q2:=⟨_,rfl⟩;rw [<- hBe] at hB hl2;have gA:=fun x=>NB B jk [x] bs.length 0 hl2;have sA1:=fun x v=>NC B jk [x] bs.length 0 v hl2;have gB:=fun x y=>NB B jk [x,y] bs.length 1 hl2;have sB1:=fun x y v=>NC B jk [x,y] bs.length 1 v hl2;have sC:=fun w v=>lL B w bs.length 0 v hl2.symm;have gC:=fun w=>iQ B w bs.length 0 hl2.symm;simp only [Nat.add_zero,List.getElem?_cons_zero,List.set_cons_zero,List.getElem?_cons_succ,List.set_cons_succ] at gA sA1 gB sB1 sC gC;have hjl:0 < jk.length:=(List.getElem?_eq_some_iff.1 hj0).1;have hj2:∀ w:List (List J),(jk++w)[0]?=some (cW zE):=fun w=>by rw [List.getElem?_append_left hjl,hj0]
    have hj4:∀ (w:List (List J)) hh,(jk++w)[0]'hh=cW zE:=fun w hh=>(List.getElem?_eq_some_iff.1 (hj2 w)).2;have hzl:(cW zE).length=4:=rfl;have hj3:∀ (w:List (List J)) v,((jk++w).set 0 v)[0]?=some v:=fun w v=>List.getElem?_set_self (by simp;omega);have hFB:=fun L=>O7 L h (B++(jk++[cI .u8 m])) ts (bs.length+jk.length) (some 32) m hmi (gA _) hml;have hBl:=oa bs i j h.blks.length q;generalize kY bs i j h.blks.length q=B1 at*;have hsl:=vn 32 1 h.blks.length (bs.length+jk.length) 0 (by decide);by_cases hm:bi m < pN
    ·rw [if_pos hm] at hspec;simp only [if_pos hm] at hFB;rw [hspec];have hfl:(fe (bi m)).length=4:=rfl;generalize fe (bi m)=f4 at*;simp -implicitDefEqProofs [lP,g0,g2,g9,fnB,hltI,aB,aA,hB,hMk,hl2,hBl,fJ,bH,hL,am,au,ae,aa,hml,hsl,hFB,gA,sA1,gB,sB1,sC,gC,hj2,hj3,hj4,hzl,hfl,w0];exact ⟨_,by rw [hBe],by simp⟩
    ·rw [if_neg hm] at hspec;simp only [if_neg hm] at hFB;simp -implicitDefEqProofs [lP,g0,g2,g9,fnB,hltI,aB,aA,hB,hMk,hl2,hBl,fJ,bH,hL,am,au,ae,aa,hml,hsl,hFB,gA,sA1,gB,sB1,sC,gC,hj2,hj3,hj4,hzl,w0];exact ⟨hlt,q2,hq1,by omega,jk++[cI .u8 m,cW (tab 4 fun _=>0#64)],hj2 _,by rw [hBe],by rw [hspec,show 63 - k=f by omega]⟩
   ·have:k=64:=by omega
    subst this;have hs0:bV s=((zE,64,11),q):=hspec;rw [hs0];simp [lP,g9];exact ⟨jk,rfl,hj0⟩)
 exact ⟨e,fr',jk,rfl,(hk 2 (by decide)).trans h2,hp⟩
theorem zji (f:List ac)(hf:f.length=4):al (rep (aL (.int .u64 0) 4) 1) [(0,4,.agg (cW f))]=some (cW f):=by
 have e:rep (aL (J.int .u64 0) 4) 1=cW (tab 4 fun _=>0#64):=rfl;rw [e];simp [al,hf,ae]
theorem zgg (f:List ac)(hf:f.length=4):chunks 4 1 (cW f)=[cW f]:=by
 simp [chunks,hf,List.take_of_length_le]
theorem zgh (L:az)(h:O)(bs:List (List J))(ts:List Nat)(i j:Nat)(s:Sp)(hs:s.ok)(hc:s.c+2048 < 100000000)
  (hi:i < bs.length) (hj:j < bs.length) (hij:i≠j) (hL:L.rob<=h.blks.length) (hT:L.rot<=h.toks.length):
  Z ah L qO [fnB h.blks.length i] (hx h (kY bs i j h.blks.length s) ts)=some (.tup [.agg (cW (bV s).1.1),Ii (bV s).1.2.1,Ii (bV s).1.2.2],hx h (kY bs i j h.blks.length (bV s).2) ts):=by
 rw [Ie];have hlo:=fun fr R=>XP (L:=⟨L.rob,L.rot,h.blks.length+bs.length,h.toks.length+ts.length⟩) (fr:=fr) (h:=h) (R:=R) bs ts i j s hs hc hi hj hij hL hT;have hl1:=oa bs i j h.blks.length s;have hl2:=oa bs i j h.blks.length (bV s).2;have hfl:(bV s).1.1.length=4:=NE s;have hz:aL (J.int .u64 0) 4=cW zE:=rfl;have hzl:(cW zE).length=4:=rfl;generalize kY bs i j h.blks.length (bV s).2=B,kY bs i j h.blks.length s=B1 at*;have htr:=fun js=>Ev h B js ts bs.length hl2.symm;simp -implicitDefEqProofs [vG,aB,aA,hl1,hz];generalize hF:run ah _ (.loop _) _ _=R;obtain ⟨e,fr',jk,rfl,f2,hp⟩:=hlo _ _ hF (by simp) (by simp) (by simp);have sC:=fun w v=>lL B w bs.length 0 v hl2.symm;have gC:=fun w=>iQ B w bs.length 0 hl2.symm;simp only [Nat.add_zero] at sC gC;rcases hp with ⟨rfl,hj,hv⟩ | ⟨rfl,hj,h3,h4,he⟩
 ·have hjl:0 < jk.length:=(List.getElem?_eq_some_iff.1 hj).1;rw [hv];have hj5:∀ hh,jk[0]'hh=cW zE:=fun hh=>(List.getElem?_eq_some_iff.1 hj).2;have hj6:∀ v:List J,(jk.set 0 v)[0]?=some v:=fun v=>List.getElem?_set_self hjl;simp -implicitDefEqProofs [f2,sC,gC,hj5,hj6,aB,aA,hl1,al,setAt,am,hL,au,ae,hzl,hjl,htr,aa]
 ·have hjl:0 < jk.length:=(List.getElem?_eq_some_iff.1 hj).1;rw [he];simp -implicitDefEqProofs [f2,sC,gC,hj,h3,h4,aB,aA,hl1,htr,aa,hfl]
def ge:Nat->Sp->List (List ac)->Int->(List (List ac) × Int × Int) × Sp
 | 0,s,acc,t=>((acc,t,0),s)
 | n+1,s,acc,t=>if (bV s).1.2.2=0 then ge n (bV s).2 (acc++[(bV s).1.1]) (IntKind.i64.wrap (t+(bV s).1.2.1)) else (([],IntKind.i64.wrap (t+(bV s).1.2.1),(bV s).1.2.2),(bV s).2)
def aY (s:Sp)(n:Nat):(List (List ac) × Int × Int) × Sp:=ge n s [] 0
theorem Vi:∀ (n:Nat) {s:Sp} (acc:List (List ac)) (t:Int),s.ok->(ge n s acc t).2.ok/\(ge n s acc t).2.c<=s.c+2048*n
 | 0,s,acc,t,h=>⟨h,by simp [ge]⟩
 | n + 1, s, acc, t, h => by
  obtain ⟨h1',h2'⟩:=JY h;unfold ge;split
  ·obtain ⟨a,b⟩:=Vi n (acc++[(bV s).1.1]) (IntKind.i64.wrap (t+(bV s).1.2.1)) h1';exact ⟨a,by omega⟩
  ·exact ⟨h1',by simp only;omega⟩
theorem zjl {acc:List (List ac)}(h:∀ f∈acc,f.length=4):eo 4 (acc.map cW)=true:=by
 cases acc with
 | nil=>rfl
 | cons x l=>
  have h1:=h x (by simp);have h2:∀ a∈l,a.length=4:=fun a ha=>h a (by simp [ha]);simp [eo,h1,h2]
  try exact h2
theorem LJ (nb nt:Nat):∀ l:List (List ac),aO nb nt (l.map cW)=true
 | []=>by simp [aO]
 | x :: l => by
  have ih:=LJ nb nt l;simp [aO,ih,kW (Nat.zero_le _) (Nat.zero_le _) _ (zbq x)]
theorem Vk {L:az}{fr:Fr}{h:O}{R:Option (dt × Fr × O)}(bs:List (List J))(ts:List Nat)(i j:Nat)(s:Sp)(hs:s.ok)(N:Int)(n:Nat)(hN:n=N.toNat)(hn:n < 10000)(hc:s.c < 50000000)
  (hi:i < bs.length) (hj:j < bs.length) (hij:i≠j) (hL:L.rob<=h.blks.length) (hT:L.rot<=h.toks.length)
  (hF:run ah L (.loop kM) fr (hx h (kY bs i j h.blks.length s) ts)=R)
  (h1:fr 1=fnB h.blks.length i) (h13:fr 13=Ii N) (h7:fr 7=.nsl) (h8:fr 8=Ii 0) (h14:fr 14=Ii 0):
  ∃ e fr' jk us,R=some (e,fr',hx h (kY bs i j h.blks.length (aY s n).2++jk) (ts++us))/\(e=.exit 0/\us=gT ((aY s n).1.1.map cW)/\fr' 7=gL .nsl h.toks.length ts.length ((aY s n).1.1.map cW)/\fr' 8=Ii (aY s n).1.2.1/\(aY s n).1.2.2=0\/e=.ret/\(aY s n).1.1=[]/\fr' 4=.nsl/\fr' 5=Ii (aY s n).1.2.1/\fr' 6=Ii (aY s n).1.2.2):=by
 obtain ⟨e,fr',h',rfl,⟨jk,us,rfl,hp⟩,hk⟩:=af hF n
  (fun k fr hh=>fr 14=Ii (k:Int)/\∃ q jk acc t,q.ok/\q.c<=s.c+2048*k/\acc.length=k/\(∀ f∈acc,f.length=4)/\fr 7=gL .nsl h.toks.length ts.length (acc.map cW)/\fr 8=Ii t/\hh=hx h (kY bs i j h.blks.length q++jk) (ts++gT (acc.map cW))/\aY s n=ge (n - k) q acc t)
  (fun e fr hh=>∃ jk us,hh=hx h (kY bs i j h.blks.length (aY s n).2++jk) (ts++us)/\(e=.exit 0/\us=gT ((aY s n).1.1.map cW)/\fr 7=gL .nsl h.toks.length ts.length ((aY s n).1.1.map cW)/\fr 8=Ii (aY s n).1.2.1/\(aY s n).1.2.2=0\/e=.ret/\(aY s n).1.1=[]/\fr 4=.nsl/\fr 5=Ii (aY s n).1.2.1/\fr 6=Ii (aY s n).1.2.2))
  ⟨h14, s, [], [], 0, hs, by omega, rfl, by simp, by simpa [gL] using h7, h8, by simp [gT], rfl⟩ (by
   rintro k fr1 hh hkN hkeep ⟨g14,q,jk,acc,t,hq,hqc,hal,ha4,g7,g8,rfl,hspec⟩;have g1:=kp hkeep h1;have g13:=kp hkeep h13;by_cases hlt:k < n
   ·have hltI:(k:Int) < N:=by omega
    obtain ⟨f,hf⟩:∃ f,n - k=f+1:=⟨n - k - 1,by omega⟩;rw [hf,ge] at hspec;have w0:Wr ((k:Int)+1)=k+1:=wz;have hE:=fun us=>zgh L h (bs++jk) (ts++us) i j q hq (by omega) (by simp;omega) (by simp;omega) hij hL hT;simp only [R6 bs _ h.blks.length _ hi hj] at hE;obtain ⟨o1',o2'⟩:=JY hq;have hfl:(bV q).1.1.length=4:=NE q;have hsz:=zjl ha4;have hroom:k+1 < ao:=by unfold ao;omega
    have hap:=fun bs' (f4:List ac) (h4:f4.length=4)=>YV L h bs' ts 4 true (acc.map cW) [cW f4] (by rw [hsz,show eo 4 [cW f4]=true by simp [eo,h4]];simp [hT,hal,hroom]);generalize bV q=E at*;obtain ⟨⟨v,t1,e1⟩,q2⟩:=E;simp only at hE hspec o1' o2' hfl;have hl2:=oa bs i j h.blks.length q2;have hl1:=oa bs i j h.blks.length q;obtain ⟨B,hBe⟩:∃ B,B=kY bs i j h.blks.length q2:=⟨_,rfl⟩;rw [<- hBe] at hE hl2;generalize kY bs i j h.blks.length q=B1 at*;have gA:=fun x=>NB B jk [x] bs.length 0 hl2;have sA1:=fun x v=>NC B jk [x] bs.length 0 v hl2;simp only [Nat.add_zero,List.getElem?_cons_zero,List.set_cons_zero] at gA sA1;have hsl:al (rep (cW (tab 4 fun _=>0#64)) 1) [(0,4,.agg (cW v))]=some (cW v):=zji v hfl;have hch:=zgg v hfl;have hap1:=fun bs'=>hap bs' v hfl;have hzl:(cW (tab 4 fun _=>0#64)).length=4:=rfl;by_cases he:e1=0
    ·rw [if_pos he] at hspec;have hmp:(acc++[v]).map cW=acc.map cW++[cW v]:=by simp
     have be:(e1==0)=true:=by simp [he]
     simp -implicitDefEqProofs [kM,g1,g7,g8,g13,g14,hltI,aB,aA,hE,hl2,hl1,bH,hL,am,au,ae,aa,gA,sA1,hfl,hzl,hsl,hch,hap1,bne,be,w0];refine ⟨hlt,q2,o1',by omega,jk++[cW v],acc++[v],by simp [hal],?_,by rw [hmp],by rw [hBe,hmp],by rw [hspec,show n - (k+1)=f by omega]⟩;intro g hg;rcases List.mem_append.1 hg with h1 | h1
     ·exact ha4 g h1
     ·rw [List.mem_singleton.1 h1];exact hfl
    ·rw [if_neg he] at hspec;have be:(e1==0)=false:=by simp [he]
     simp -implicitDefEqProofs [kM,g1,g7,g8,g13,g14,hltI,aB,aA,hE,hl2,hl1,bH,hL,am,au,ae,aa,gA,sA1,hfl,hzl,bne,be,w0];rw [hspec];exact ⟨⟨jk++[cW v],gT (acc.map cW),by rw [hBe]⟩,rfl,rfl,rfl⟩
   ·have:k=n:=by omega
    subst this;have hltI:¬(k:Int) < N:=by omega
    rw [Nat.sub_self,ge] at hspec;rw [hspec];simp [kM,g13,g14,hltI];exact ⟨jk,_,rfl,rfl,g7,g8⟩)
 exact ⟨e,fr',jk,us,rfl,hp⟩
end Go.Av
