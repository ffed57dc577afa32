/- Elements as bytes, and elements sampled of a sponge. -/
import Derived.Test.YtbookmjmhfoolaaGreatDoorC2
import Derived.Test.YtbookmjmhfoolaaGreatDoorC3
import Derived.Test.YtbookmjmhfoolaaGreatDoorC4
set_option linter.unusedSimpArgs false
set_option linter.unusedVariables false
set_option maxHeartbeats 2000000
set_option maxRecDepth 20000
namespace Go.Av
theorem zhi (L:az)(h:O)(x:Nat):aa ah L jD [.agg (cW (fe x))] h=some (.agg (cW (w4 (x % pN))),h):=by
 rw [yH];have e0:(cW (tab 4 fun _=>0#64)).set 0 (wd 1#64)=cW [1#64,0#64,0#64,0#64]:=rfl;have hv:val [1#64,0#64,0#64,0#64]=1:=by decide +kernel
 have h1:=fun L h=>Of L h (fe x) [1#64,0#64,0#64,0#64] rfl rfl (by rw [hv];decide);rw [hv,zfx] at h1;have l1:=Su x;have l3:=A3 (x % pN);generalize [1#64,0#64,0#64,0#64]=q,fe x=a,w4 (x % pN)=r at*;simp -implicitDefEqProofs [mE,V,Z,l1,l3,h1,ak,aq,ab,bH,e0,wd1]
def Tj (x:Nat):List Int:=aS (w4 (x % pN))
@[simp] theorem Tk (x:Nat):(Tj x).length=32:=by simp [Tj,aS]
theorem zhk (L:az)(h:O)(x:Nat):aa ah L jz [.agg (cW (fe x))] h=some (.agg (cI .u8 (Tj x)),h):=by
 rw [yy];have hsl:=zN 4 1 h.blks.length 1 0 (by decide);have hlv:=fun L h=>zhi L h x;have hB:=fun L z=>Vn L (hx h [z,cW (w4 (x % pN))] []) (w4 (x % pN)) (sA h.blks.length 1 0 1 4 (some 4)) (by simp) (i6.sA [] 1 4 _ _ rfl rfl);have h2a:=SN 32 false .u8 (Tj x) (by simp);rw [List.take_of_length_le (by simp)] at h2a;have l0:=Tk x;have l1:=Su x;have l3:=A3 (x % pN);have hf:aS (w4 (x % pN))=Tj x:=rfl;rw [hf] at hB;generalize fe x=a,w4 (x % pN)=r,Tj x=bs at*;simp -implicitDefEqProofs [mB,V,Z,l0,l1,l3,bH,gQ,hlv,hsl,hB,h2a,aq,ab]
theorem Ji (L:az)(h:O)(c:Bool)(b:List Int)(hb:ce b)(hl:b.length=32):aa ah L gx [.vsl c (eI .u8 b)] h=
  some (if bx b < pN then .tup [.agg (cW (fe (bx b))),Ii 0] else .tup [.agg (cW (tab 4 fun _=>0#64)),Ii 4],h):=by
 rw [uj];have hW:=fun L H=>NN L H (.vsl false (eI .u8 b)) b (JM.vsl H .u8 false b) (by omega);rw [hl,show (32+7) / 8=4 from rfl] at hW;have hv:=zat b hb 4 (by omega);rw [hl] at hv;have hwl:(FD b 4 32).length=4:=by simp
 have h2a:=Nu 4 false (FD b 4 32) (by decide) (by simp);rw [List.take_of_length_le (by simp)] at h2a;have hbo:=fun L h=>Rl L h (FD b 4 32) pW hwl rfl;simp only [hv,zl0] at hbo;have hE:=fun L H=>zin L H (FD b 4 32) hwl;rw [hv] at hE;generalize FD b 4 32=ws at*;by_cases hlt:bx b < pN
 ·simp only [if_pos hlt] at hbo;rw [if_pos hlt];have l3:=A3 (bx b+rN - pN);have l4:=Su (bx b);generalize fe (bx b)=r,w4 (bx b+rN - pN)=q at*;have he:(wd 1#64=J.int .u64 1):=rfl;simp -implicitDefEqProofs [m5,V,hl,hW,h2a,Z,hwl,bH,aq,ab,zZ,hbo,l3,l4,he,hE]
 ·simp only [if_neg hlt] at hbo;rw [if_neg hlt];have l3:=A3 (bx b - pN);generalize w4 (bx b - pN)=q at*;have he:(wd 0#64=J.int .u64 0):=rfl;simp -implicitDefEqProofs [m5,V,hl,hW,h2a,Z,hwl,bH,aq,ab,zZ,hbo,l3,he,ak]
theorem Tu (bs z:List (List J)){i j:Nat}(n:Nat)(s:Sp)(hi:i < bs.length)(hj:j < bs.length):lY (bs++z) i j n s=lY bs i j n s++z:=by
 simp only [lY,JR];rw [List.set_append_left _ _ hi,List.set_append_left _ _ (by simpa using hj)]
theorem oE (bs:List (List J))(i j n:Nat)(s:Sp):(lY bs i j n s).length=bs.length:=by simp [lY]
theorem zhB (L:az)(h:O)(bs:List (List J))(ts:List Nat)(i j:Nat)(s:Sp)(hs:s.ok)(hc:s.c < 100000000)
  (hi:i < bs.length) (hj:j < bs.length) (hij:i≠j) (hL:L.rob<=h.blks.length) (hT:L.rot<=h.toks.length):
  aa ah L dt [.agg [pA h.blks.length i 0]] (hx h (lY bs i j h.blks.length s) ts)=some (.agg (cI .u8 (fu s 32)),hx h (lY bs i j h.blks.length (bD s 32)) ts):=by
 rw [tL];have hS:=fun L hL hT z=>Ly L h (bs++[z]) ts i j s hs 32 32 rfl (by decide) hc (by simp;omega) (by simp;omega) hij hL hT;simp only [Tu bs _ h.blks.length _ hi hj] at hS;have hl1:=oE bs i j h.blks.length s;have hl2:=oE bs i j h.blks.length (bD s 32);have hll:(fu s 32).length=32:=wZ s 32;generalize lY bs i j h.blks.length s=B1,lY bs i j h.blks.length (bD s 32)=B2,fu s 32=l at*;have h2a:=SN 32 false .u8 l (by simp [hll]);rw [List.take_of_length_le (by omega)] at h2a;have hg:=fun x=>jY B2 [x] bs.length 0 hl2.symm;have hset:=fun x v=>l9 B2 [x] bs.length 0 v hl2.symm;simp only [Nat.add_zero,List.getElem?_cons_zero,List.set_cons_zero] at hg hset;have htr:=fun js=>Fo h B2 js ts bs.length hl2.symm;simp -implicitDefEqProofs [jf,aC,aB,lx,J.okV,J.cells,gQ,ao,hl1,hS,hL,hT,h2a,hg,hset,htr,aq,ab,ap,Z,hll]
def Wd (x:Int):Int:=IntKind.u8.wrap (((x % 2 ^ IntKind.u8.bits).toNat&&&63 % 2 ^ IntKind.u8.bits:Nat):Int)
def kq (b:List Int):List Int:=b.set 31 (Wd (gd b 0 31))
theorem zkP (x:Int):0<=Wd x/\Wd x < 256:=by
 unfold Wd IntKind.wrap;simp [IntKind.signed,IntKind.bits];omega
theorem Oy {b:List Int}(h:ce b):ce (kq b):=zaT h 31 _ (zkP _)
theorem Oz (b:List Int):(kq b).length=b.length:=by simp [kq]
theorem zkR (L:az)(h:O)(b:List Int)(hl:b.length=32):aa ah L tA [.agg (cI .u8 b)] h=some (.agg (cI .u8 (kq b)),h):=by
 rw [JY];have hi:bA (some 32) 1 (pA h.blks.length 0 0) (Ii 31)=some (pA h.blks.length 0 31):=rfl;have hmsk:kq b=b.set 31 (IntKind.u8.wrap (((gd b 0 31 % 2 ^ IntKind.u8.bits).toNat&&&63 % 2 ^ IntKind.u8.bits:Nat):Int)):=rfl;have hat:∀ hh,(cI .u8 b)[31]'hh=.int .u8 (gd b 0 31):=fun hh=>(List.getElem?_eq_some_iff.1 (NG (by omega))).2;rw [hmsk];simp -implicitDefEqProofs [yW,V,gQ,aE,J.okV,J.cells,aq,ab,Z,hl,hi,hat,NG]
theorem zou {s:Sp}(h:s.ok):(Om s).ok/\(Om s).b < 136:=zaS h
theorem OC {s : Sp}(h : s.ok)(n : Nat) : ce (fu s n) := fun i hi => by
 rw [wZ] at hi;unfold fu;rw [dY hi];obtain ⟨⟨h1,h2,h3,h4⟩,h5⟩:=zou (rJ h i);exact h2 _ (by omega)
theorem EZ {α:Type}(B jk w:List α)(n k:Nat)(h:B.length=n):(B++(jk++w))[n+(jk.length+k)]?=w[k]?:=by
 subst h;rw [List.getElem?_append_right (by omega),Nat.add_sub_cancel_left,List.getElem?_append_right (by omega),Nat.add_sub_cancel_left]
theorem E1 {α:Type}(B jk w:List α)(n k:Nat)(v:α)(h:B.length=n):(B++(jk++w)).set (n+(jk.length+k)) v=B++(jk++w.set k v):=by
 subst h;rw [List.set_append_right _ _ (by omega),Nat.add_sub_cancel_left,List.set_append_right _ _ (by omega),Nat.add_sub_cancel_left]
def zE:List ac:=tab 4 fun _=>0#64
def o7:Nat->Sp->Nat->(List ac × Int × Int) × Sp
 | 0,s,_=>((zE,64,11),s)
 | f+1,s,k=>if bx (kq (fu s 32)) < pN then ((fe (bx (kq (fu s 32))),(k:Int)+1,0),bD s 32) else o7 f (bD s 32) (k+1)
@[irreducible] def bM (s:Sp):(List ac × Int × Int) × Sp:=o7 64 s 0
theorem qx (s:Sp):bM s=o7 64 s 0:=by unfold bM;exact rfl
theorem za2:∀ (f:Nat) {s:Sp} (k:Nat),s.ok->(o7 f s k).2.ok/\(o7 f s k).2.c<=s.c+32*f
 | 0,s,k,h=>⟨h,by simp [o7]⟩
 | f + 1, s, k, h => by
  have h1:=rJ h 32;have h2:=BM s 32;unfold o7;split
  ·exact ⟨h1,by simp only;omega⟩
  ·obtain ⟨a,b⟩:=za2 f (k+1) h1;exact ⟨a,by omega⟩
theorem Ws:∀ (f:Nat) (s:Sp) (k:Nat),(o7 f s k).1.1.length=4
 | 0,s,k=>rfl
 | f + 1, s, k => by
  unfold o7;split
  ·rfl
  ·exact Ws f _ _
theorem zhK:∀ (f:Nat) (s:Sp) (k:Nat),(o7 f s k).1.2.2=0\/(o7 f s k).1.2.2=11
 | 0,s,k=>.inr rfl
 | f + 1, s, k => by
  unfold o7;split
  ·exact .inl rfl
  ·exact zhK f _ _
theorem OJ (s:Sp):(bM s).1.1.length=4:=by rw [qx];exact Ws 64 s 0
theorem KL {s:Sp}(h:s.ok):(bM s).2.ok/\(bM s).2.c<=s.c+2048:=by rw [qx];exact za2 64 0 h
theorem zeV (s:Sp):(bM s).1.2.2=0\/(bM s).1.2.2=11:=by rw [qx];exact zhK 64 s 0
theorem PG (L:az)(h:O)(bs:List (List J))(ts:List Nat)(i:Nat)(cap:Option Nat)(t:List Int)(hb:ce t)(hi:bs[i]?=some (cI .u8 t))(hl:t.length=32):
  aa ah L gx [sA h.blks.length i 0 1 32 cap] (hx h bs ts)=some (if bx t < pN then .tup [.agg (cW (fe (bx t))),Ii 0] else .tup [.agg (cW (tab 4 fun _=>0#64)),Ii 4],hx h bs ts):=by
 have h1:=Ji L (hx h bs ts) false t hb hl;rw [uj] at h1 |-;have hf:=Xj h bs ts i 32 cap .u8 t hi hl;rw [Hj,DW,fR,Hk,Nl,Ht] at h1;rw [Hj,DW,hf,Hk,Nl,Ht];refine zbI h1 ?_;split
 ·simp [J.flat,aZ,Ih]
 ·simp [J.flat,aZ,Ih]
def fnB (n i:Nat):J:=.fn (.func dt) [.agg [pA n i 0]] []
theorem Xm {L:az}{fr:Fr}{h:O}{R:Option (cL × Fr × O)}(bs:List (List J))(ts:List Nat)(i j:Nat)(s:Sp)(hs:s.ok)(hc:s.c+2048 < 100000000)
  (hi:i < bs.length) (hj:j < bs.length) (hij:i≠j) (hL:L.rob<=h.blks.length) (hT:L.rot<=h.toks.length)
  (hF:run ah L (.loop mf) fr (hx h (lY bs i j h.blks.length s++[cW zE]) ts)=R)
  (h0:fr 0=fnB h.blks.length i) (h2:fr 2=pA h.blks.length bs.length 0) (h9:fr 9=Ii 0):
  ∃ e fr' jk,R=some (e,fr',hx h (lY bs i j h.blks.length (bM s).2++jk) ts)/\fr' 2=pA h.blks.length bs.length 0/\(e=.exit 0/\jk[0]?=some (cW zE)/\(bM s).1=(zE,64,11)\/e=.ret/\jk[0]?=some (cW (bM s).1.1)/\fr' 3=Ii (bM s).1.2.1/\fr' 4=Ii 0/\(bM s).1.2.2=0):=by
 obtain ⟨e,fr',h',rfl,⟨jk,rfl,hp⟩,hk⟩:=af hF 64
  (fun k fr hh=>fr 9=Ii (k:Int)/\∃ q jk,q.ok/\q.c<=s.c+32*k/\jk[0]?=some (cW zE)/\hh=hx h (lY bs i j h.blks.length q++jk) ts/\bM s=o7 (64 - k) q k)
  (fun e fr hh=>∃ jk,hh=hx h (lY bs i j h.blks.length (bM s).2++jk) ts/\(e=.exit 0/\jk[0]?=some (cW zE)/\(bM s).1=(zE,64,11)\/e=.ret/\jk[0]?=some (cW (bM s).1.1)/\fr 3=Ii (bM s).1.2.1/\fr 4=Ii 0/\(bM s).1.2.2=0))
  ⟨h9, s, _, hs, by omega, rfl, rfl, qx s⟩ (by
   rintro k fr1 hh hkN hkeep ⟨g9,q,jk,hq,hqc,hj0,rfl,hspec⟩;have g0:=kp hkeep h0;have g2:=kp hkeep h2;by_cases hlt:k < 64
   ·have hltI:(k:Int) < 64:=by omega
    obtain ⟨f,hf⟩:∃ f,64 - k=f+1:=⟨64 - k - 1,by omega⟩;rw [hf,o7] at hspec;have w0:Wr ((k:Int)+1)=k+1:=wz;have hB:=zhB L h (bs++jk) ts i j q hq (by omega) (by simp;omega) (by simp;omega) hij hL hT;simp only [Tu bs _ h.blks.length _ hi hj] at hB;have hq1:=rJ hq 32;have hq2:=BM q 32;have hgl:(fu q 32).length=32:=wZ q 32;have hgi:ce (fu q 32):=OC hq 32;have hMk:=fun L h=>zkR L h (fu q 32) hgl;have hml:(kq (fu q 32)).length=32:=by rw [Oz,hgl]
    have hmi:=Oy hgi;generalize bD q 32=q2,fu q 32=l,kq (fu q 32)=m at*;have hl2:=oE bs i j h.blks.length q2;obtain ⟨B,hBe⟩:∃ B,B=lY bs i j h.blks.length q2:=⟨_,rfl⟩;rw [<- hBe] at hB hl2;have gA:=fun x=>EZ B jk [x] bs.length 0 hl2;have sA1:=fun x v=>E1 B jk [x] bs.length 0 v hl2;have gB:=fun x y=>EZ B jk [x,y] bs.length 1 hl2;have sB1:=fun x y v=>E1 B jk [x,y] bs.length 1 v hl2;have sC:=fun w v=>l9 B w bs.length 0 v hl2.symm;have gC:=fun w=>jY B w bs.length 0 hl2.symm;simp only [Nat.add_zero,List.getElem?_cons_zero,List.set_cons_zero,List.getElem?_cons_succ,List.set_cons_succ] at gA sA1 gB sB1 sC gC;have hjl:0 < jk.length:=(List.getElem?_eq_some_iff.1 hj0).1;have hj2:∀ w:List (List J),(jk++w)[0]?=some (cW zE):=fun w=>by rw [List.getElem?_append_left hjl,hj0]
    have hj4:∀ (w:List (List J)) hh,(jk++w)[0]'hh=cW zE:=fun w hh=>(List.getElem?_eq_some_iff.1 (hj2 w)).2;have hzl:(cW zE).length=4:=rfl;have hj3:∀ (w:List (List J)) v,((jk++w).set 0 v)[0]?=some v:=fun w v=>List.getElem?_set_self (by simp;omega);have hFB:=fun L=>PG L h (B++(jk++[cI .u8 m])) ts (bs.length+jk.length) (some 32) m hmi (gA _) hml;have hBl:=oE bs i j h.blks.length q;generalize lY bs i j h.blks.length q=B1 at*;have hsl:=zN 32 1 h.blks.length (bs.length+jk.length) 0 (by decide);by_cases hm:bx m < pN
    ·rw [if_pos hm] at hspec;simp only [if_pos hm] at hFB;rw [hspec];have hfl:(fe (bx m)).length=4:=rfl;generalize fe (bx m)=f4 at*;simp -implicitDefEqProofs [mf,g0,g2,g9,fnB,hltI,aC,aB,hB,hMk,hl2,hBl,gQ,bH,hL,ap,aq,ab,Z,hml,hsl,hFB,gA,sA1,gB,sB1,sC,gC,hj2,hj3,hj4,hzl,hfl,w0];exact ⟨_,by rw [hBe],by simp⟩
    ·rw [if_neg hm] at hspec;simp only [if_neg hm] at hFB;simp -implicitDefEqProofs [mf,g0,g2,g9,fnB,hltI,aC,aB,hB,hMk,hl2,hBl,gQ,bH,hL,ap,aq,ab,Z,hml,hsl,hFB,gA,sA1,gB,sB1,sC,gC,hj2,hj3,hj4,hzl,w0];exact ⟨hlt,q2,hq1,by omega,jk++[cI .u8 m,cW (tab 4 fun _=>0#64)],hj2 _,by rw [hBe],by rw [hspec,show 63 - k=f by omega]⟩
   ·have:k=64:=by omega
    subst this;have hs0:bM s=((zE,64,11),q):=hspec;rw [hs0];simp [mf,g9];exact ⟨jk,rfl,hj0⟩)
 exact ⟨e,fr',jk,rfl,(hk 2 (by decide)).trans h2,hp⟩
theorem zjd (f:List ac)(hf:f.length=4):ak (rep (aO (.int .u64 0) 4) 1) [(0,4,.agg (cW f))]=some (cW f):=by
 have e:rep (aO (J.int .u64 0) 4) 1=cW (tab 4 fun _=>0#64):=rfl;rw [e];simp [ak,hf,ab]
theorem zeZ (f:List ac)(hf:f.length=4):chunks 4 1 (cW f)=[cW f]:=by
 simp [chunks,hf,List.take_of_length_le]
theorem ze0 (L:az)(h:O)(bs:List (List J))(ts:List Nat)(i j:Nat)(s:Sp)(hs:s.ok)(hc:s.c+2048 < 100000000)
  (hi:i < bs.length) (hj:j < bs.length) (hij:i≠j) (hL:L.rob<=h.blks.length) (hT:L.rot<=h.toks.length):
  aa ah L rL [fnB h.blks.length i] (hx h (lY bs i j h.blks.length s) ts)=some (.tup [.agg (cW (bM s).1.1),Ii (bM s).1.2.1,Ii (bM s).1.2.2],hx h (lY bs i j h.blks.length (bM s).2) ts):=by
 rw [Ig];have hlo:=fun fr R=>Xm (L:=⟨L.rob,L.rot,h.blks.length+bs.length,h.toks.length+ts.length⟩) (fr:=fr) (h:=h) (R:=R) bs ts i j s hs hc hi hj hij hL hT;have hl1:=oE bs i j h.blks.length s;have hl2:=oE bs i j h.blks.length (bM s).2;have hfl:(bM s).1.1.length=4:=OJ s;have hz:aO (J.int .u64 0) 4=cW zE:=rfl;have hzl:(cW zE).length=4:=rfl;generalize lY bs i j h.blks.length (bM s).2=B,lY bs i j h.blks.length s=B1 at*;have htr:=fun js=>Fo h B js ts bs.length hl2.symm;simp -implicitDefEqProofs [wS,aC,aB,hl1,hz];generalize hF:run ah _ (.loop _) _ _=R;obtain ⟨e,fr',jk,rfl,f2,hp⟩:=hlo _ _ hF (by simp) (by simp) (by simp);have sC:=fun w v=>l9 B w bs.length 0 v hl2.symm;have gC:=fun w=>jY B w bs.length 0 hl2.symm;simp only [Nat.add_zero] at sC gC;rcases hp with ⟨rfl,hj,hv⟩ | ⟨rfl,hj,h3,h4,he⟩
 ·have hjl:0 < jk.length:=(List.getElem?_eq_some_iff.1 hj).1;rw [hv];have hj5:∀ hh,jk[0]'hh=cW zE:=fun hh=>(List.getElem?_eq_some_iff.1 hj).2;have hj6:∀ v:List J,(jk.set 0 v)[0]?=some v:=fun v=>List.getElem?_set_self hjl;simp -implicitDefEqProofs [f2,sC,gC,hj5,hj6,aC,aB,hl1,ak,setAt,ap,hL,aq,ab,hzl,hjl,htr,Z]
 ·have hjl:0 < jk.length:=(List.getElem?_eq_some_iff.1 hj).1;rw [he];simp -implicitDefEqProofs [f2,sC,gC,hj,h3,h4,aC,aB,hl1,htr,Z,hfl]
def d6:Nat->Sp->List (List ac)->Int->(List (List ac) × Int × Int) × Sp
 | 0,s,acc,t=>((acc,t,0),s)
 | n+1,s,acc,t=>if (bM s).1.2.2=0 then d6 n (bM s).2 (acc++[(bM s).1.1]) (IntKind.i64.wrap (t+(bM s).1.2.1)) else (([],IntKind.i64.wrap (t+(bM s).1.2.1),(bM s).1.2.2),(bM s).2)
def aU (s:Sp)(n:Nat):(List (List ac) × Int × Int) × Sp:=d6 n s [] 0
theorem UA:∀ (n:Nat) {s:Sp} (acc:List (List ac)) (t:Int),s.ok->(d6 n s acc t).2.ok/\(d6 n s acc t).2.c<=s.c+2048*n
 | 0,s,acc,t,h=>⟨h,by simp [d6]⟩
 | n + 1, s, acc, t, h => by
  obtain ⟨h1',h2'⟩:=KL h;unfold d6;split
  ·obtain ⟨a,b⟩:=UA n (acc++[(bM s).1.1]) (IntKind.i64.wrap (t+(bM s).1.2.1)) h1';exact ⟨a,by omega⟩
  ·exact ⟨h1',by simp only;omega⟩
theorem zje {acc:List (List ac)}(h:∀ f∈acc,f.length=4):cS 4 (acc.map cW)=true:=by
 cases acc with
 | nil=>rfl
 | cons x l=>
  have h1:=h x (by simp);have h2:∀ a∈l,a.length=4:=fun a ha=>h a (by simp [ha]);simp [cS,h1,h2]
  try exact h2
theorem Mi (nb nt:Nat):∀ l:List (List ac),aJ nb nt (l.map cW)=true
 | []=>by simp [aJ]
 | x :: l => by
  have ih:=Mi nb nt l;simp [aJ,ih,lz (Nat.zero_le _) (Nat.zero_le _) _ (zb5 x)]
theorem UB {L:az}{fr:Fr}{h:O}{R:Option (cL × Fr × O)}(bs:List (List J))(ts:List Nat)(i j:Nat)(s:Sp)(hs:s.ok)(N:Int)(n:Nat)(hN:n=N.toNat)(hn:n < 10000)(hc:s.c < 50000000)
  (hi:i < bs.length) (hj:j < bs.length) (hij:i≠j) (hL:L.rob<=h.blks.length) (hT:L.rot<=h.toks.length)
  (hF:run ah L (.loop ll) fr (hx h (lY bs i j h.blks.length s) ts)=R)
  (h1:fr 1=fnB h.blks.length i) (h13:fr 13=Ii N) (h7:fr 7=.nsl) (h8:fr 8=Ii 0) (h14:fr 14=Ii 0):
  ∃ e fr' jk us,R=some (e,fr',hx h (lY bs i j h.blks.length (aU s n).2++jk) (ts++us))/\(e=.exit 0/\us=gT ((aU s n).1.1.map cW)/\fr' 7=gL .nsl h.toks.length ts.length ((aU s n).1.1.map cW)/\fr' 8=Ii (aU s n).1.2.1/\(aU s n).1.2.2=0\/e=.ret/\(aU s n).1.1=[]/\fr' 4=.nsl/\fr' 5=Ii (aU s n).1.2.1/\fr' 6=Ii (aU s n).1.2.2):=by
 obtain ⟨e,fr',h',rfl,⟨jk,us,rfl,hp⟩,hk⟩:=af hF n
  (fun k fr hh=>fr 14=Ii (k:Int)/\∃ q jk acc t,q.ok/\q.c<=s.c+2048*k/\acc.length=k/\(∀ f∈acc,f.length=4)/\fr 7=gL .nsl h.toks.length ts.length (acc.map cW)/\fr 8=Ii t/\hh=hx h (lY bs i j h.blks.length q++jk) (ts++gT (acc.map cW))/\aU s n=d6 (n - k) q acc t)
  (fun e fr hh=>∃ jk us,hh=hx h (lY bs i j h.blks.length (aU s n).2++jk) (ts++us)/\(e=.exit 0/\us=gT ((aU s n).1.1.map cW)/\fr 7=gL .nsl h.toks.length ts.length ((aU s n).1.1.map cW)/\fr 8=Ii (aU s n).1.2.1/\(aU s n).1.2.2=0\/e=.ret/\(aU s n).1.1=[]/\fr 4=.nsl/\fr 5=Ii (aU s n).1.2.1/\fr 6=Ii (aU s n).1.2.2))
  ⟨h14, s, [], [], 0, hs, by omega, rfl, by simp, by simpa [gL] using h7, h8, by simp [gT], rfl⟩ (by
   rintro k fr1 hh hkN hkeep ⟨g14,q,jk,acc,t,hq,hqc,hal,ha4,g7,g8,rfl,hspec⟩;have g1:=kp hkeep h1;have g13:=kp hkeep h13;by_cases hlt:k < n
   ·have hltI:(k:Int) < N:=by omega
    obtain ⟨f,hf⟩:∃ f,n - k=f+1:=⟨n - k - 1,by omega⟩;rw [hf,d6] at hspec;have w0:Wr ((k:Int)+1)=k+1:=wz;have hE:=fun us=>ze0 L h (bs++jk) (ts++us) i j q hq (by omega) (by simp;omega) (by simp;omega) hij hL hT;simp only [Tu bs _ h.blks.length _ hi hj] at hE;obtain ⟨o1',o2'⟩:=KL hq;have hfl:(bM q).1.1.length=4:=OJ q;have hsz:=zje ha4;have hroom:k+1 < am:=by unfold am;omega
    have hap:=fun bs' (f4:List ac) (h4:f4.length=4)=>RV L h bs' ts 4 true (acc.map cW) [cW f4] (by rw [hsz,show cS 4 [cW f4]=true by simp [cS,h4]];simp [hT,hal,hroom]);generalize bM q=E at*;obtain ⟨⟨v,t1,e1⟩,q2⟩:=E;simp only at hE hspec o1' o2' hfl;have hl2:=oE bs i j h.blks.length q2;have hl1:=oE bs i j h.blks.length q;obtain ⟨B,hBe⟩:∃ B,B=lY bs i j h.blks.length q2:=⟨_,rfl⟩;rw [<- hBe] at hE hl2;generalize lY bs i j h.blks.length q=B1 at*;have gA:=fun x=>EZ B jk [x] bs.length 0 hl2;have sA1:=fun x v=>E1 B jk [x] bs.length 0 v hl2;simp only [Nat.add_zero,List.getElem?_cons_zero,List.set_cons_zero] at gA sA1;have hsl:ak (rep (cW (tab 4 fun _=>0#64)) 1) [(0,4,.agg (cW v))]=some (cW v):=zjd v hfl;have hch:=zeZ v hfl;have hap1:=fun bs'=>hap bs' v hfl;have hzl:(cW (tab 4 fun _=>0#64)).length=4:=rfl;by_cases he:e1=0
    ·rw [if_pos he] at hspec;have hmp:(acc++[v]).map cW=acc.map cW++[cW v]:=by simp
     have be:(e1==0)=true:=by simp [he]
     simp -implicitDefEqProofs [ll,g1,g7,g8,g13,g14,hltI,aC,aB,hE,hl2,hl1,bH,hL,ap,aq,ab,Z,gA,sA1,hfl,hzl,hsl,hch,hap1,bne,be,w0];refine ⟨hlt,q2,o1',by omega,jk++[cW v],acc++[v],by simp [hal],?_,by rw [hmp],by rw [hBe,hmp],by rw [hspec,show n - (k+1)=f by omega]⟩;intro g hg;rcases List.mem_append.1 hg with h1 | h1
     ·exact ha4 g h1
     ·rw [List.mem_singleton.1 h1];exact hfl
    ·rw [if_neg he] at hspec;have be:(e1==0)=false:=by simp [he]
     simp -implicitDefEqProofs [ll,g1,g7,g8,g13,g14,hltI,aC,aB,hE,hl2,hl1,bH,hL,ap,aq,ab,Z,gA,sA1,hfl,hzl,bne,be,w0];rw [hspec];exact ⟨⟨jk++[cW v],gT (acc.map cW),by rw [hBe]⟩,rfl,rfl,rfl⟩
   ·have:k=n:=by omega
    subst this;have hltI:¬(k:Int) < N:=by omega
    rw [Nat.sub_self,d6] at hspec;rw [hspec];simp [ll,g13,g14,hltI];exact ⟨jk,_,rfl,rfl,g7,g8⟩)
 exact ⟨e,fr',jk,us,rfl,hp⟩
end Go.Av
