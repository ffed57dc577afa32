/- The guard; the permutation of bytes and the digest give what plain functions of lists give. -/
import Derived.Test.YtbookmjmhfoolaaGreatDoorC1
import Derived.Test.YtbookmjmhfoolaaGreatDoorC2
import Derived.KernelRfl
set_option linter.unusedSimpArgs false
set_option linter.unusedVariables false
set_option maxHeartbeats 2000000
set_option maxRecDepth 20000
namespace Go.Av
structure Gd where
 l:List It
 k:Nat
 e:Int
def erV (e:Int):J:=if e=0 then .nilp else .vptr [Ii e] 0
def Ki (g:Gd):List J:=[.vsl false (g.l.map It.cells),Ii g.k,erV g.e]
def aK (g:Gd)(e:Int):Gd:=if g.e=0 then {g with e:=e} else g
theorem X3 {α:Type}{bs:List α}{b:Nat}{cs:α}(hb:bs[b]?=some cs):bs.set b cs=bs:=by
 refine List.ext_getElem? fun j=>?_;by_cases e:b=j
 ·subst e;rw [List.getElem?_set_self (List.getElem?_eq_some_iff.1 hb).1,hb]
 ·rw [List.getElem?_set_ne e]
@[simp] theorem zty (L:az)(h:O)(p:J)(cs:List J)(o:Nat):J4 L h 1 p (.vptr cs o)=UG (dR L h p [.vptr cs o]):=by simp [J4,J.cells,J.okV]
theorem byR (s:ByteArray):(s==s)=true:=(Go.MapKept.bytes_beq s s).2 rfl
theorem IU (L:az)(h:O)(bs:List (List J))(ts:List Nat)(i:Nat)(g:Gd)(e:Int)(hb:bs[i]?=some (Ki g))(hL:L.rob<=h.blks.length):
  aa ah L dv [pA h.blks.length i 0,Ii e] (hx h bs ts)=some (Ii (aK g e).e,hx h (bs.set i (Ki (aK g e))) ts):=by
 rw [CO];have hi:=(List.getElem?_eq_some_iff.1 hb).1;have hgs:∀ x:List J,(bs.set i x)[i]?=some x:=fun x=>List.getElem?_set_self hi;have htr:=fun cs=>sK h bs ts i cs;have htr0:gq (hx h bs ts) (h.blks.length+bs.length) (h.toks.length+ts.length)=hx h bs ts:=by
  have:=htr (Ki g);rwa [X3 hb] at this
 obtain ⟨l,k,w⟩:=g;by_cases hw:w=0
 ·subst hw;have hv:erV 0=.nilp:=rfl;by_cases he:e=0
  ·subst he;have hf:aK ⟨l,k,0⟩ 0=⟨l,k,0⟩:=rfl;rw [hf,X3 hb];simp only [Ki,hv] at*;simp -implicitDefEqProofs [i8,aC,aB,hb,ao,JQ,htr0]
  ·have hf:aK ⟨l,k,0⟩ e=⟨l,k,e⟩:=rfl;have hv2:erV e=.vptr [Ii e] 0:=if_neg he;have hne:(e !=0)=true:=bne_iff_ne.2 he;rw [hf];simp only [Ki,hv,hv2] at*;simp -implicitDefEqProofs [i8,aC,aB,hb,hgs,ao,JQ,hne,ak,setAt,lx,J.okV,J.cells,ap,hL,ay,J.under,htr]
 ·have hf:aK ⟨l,k,w⟩ e=⟨l,k,w⟩:=if_neg hw;have hv2:erV w=.vptr [Ii w] 0:=if_neg hw;rw [hf,X3 hb];simp only [Ki,hv2] at*;simp -implicitDefEqProofs [i8,aC,aB,hb,hgs,ao,JQ,htr0]
theorem Q6 (L:az)(h:O)(bs:List (List J))(ts:List Nat)(i:Nat)(g:Gd)(so:Bool)(e:Int)(hb:bs[i]?=some (Ki g))(hL:L.rob<=h.blks.length):
  aa ah L fX [pA h.blks.length i 0,.bool so,Ii e] (hx h bs ts)=some (Ii (aK g (if so then 0 else e)).e,hx h (bs.set i (Ki (aK g (if so then 0 else e)))) ts):=by
 rw [zM];have hF:=fun L hL e=>IU L h bs ts i g e hb hL;have htr:=fun cs=>sK h bs ts i cs
 cases so <;> simp -implicitDefEqProofs [ny,aC,aB,hF,hL,htr]
theorem zgn (L:az)(h:O)(x y:It):aa ah L xI [.agg x.cells,.agg y.cells] h=some (.bool (x.kind==y.kind&&(x.typ==y.typ&&x.count==y.count)),h):=by
 rw [Oh];have hf:∀ x:It,oL h (.agg x.cells)=some (.agg x.cells,false):=fun x=>by simp [oL,aZ,J.flat,It.cells]
 obtain ⟨a,b,c,l⟩:=x;obtain ⟨a',b',c',l'⟩:=y;simp only [It.cells] at hf |-;have hf1:=hf ⟨a,b,c,l⟩;have hf2:=hf ⟨a',b',c',l'⟩;simp only at hf1 hf2;simp -implicitDefEqProofs [Ek,V,hf1,hf2,aE,setAt,ap,Z,cR,HZ,byR]
def Hz (x y:It):Bool:=x.kind==y.kind&&(x.typ==y.typ&&x.count==y.count)
def eU (g:Gd)(k t c:Int):Bool:=decide (g.k < g.l.length)&&Hz (gd g.l ⟨0,0,0,⟨#[]⟩⟩ g.k) ⟨k,t,c,⟨#[]⟩⟩
def al (g:Gd)(k t c:Int):Gd:=if (aK g (if eU g k t c then 0 else 10)).e=0 then {aK g (if eU g k t c then 0 else 10) with k:=g.k+1} else aK g (if eU g k t c then 0 else 10)
theorem rf (g:Gd)(e:Int):(aK g e).l=g.l/\(aK g e).k=g.k:=by unfold aK;split <;> exact ⟨rfl,rfl⟩
theorem rg (g:Gd)(k t c:Int):(al g k t c).l=g.l:=by
 unfold al;have:=rf g (if eU g k t c then 0 else 10);generalize aK g (if eU g k t c then 0 else 10)=f at*
 split <;> exact this.1
theorem Mo (g:Gd)(k t c:Int):(al g k t c).e=(aK g (if eU g k t c then 0 else 10)).e:=by
 unfold al;generalize aK g (if eU g k t c then 0 else 10)=f
 split <;> rfl
theorem NP (kd:IntKind)(c:Bool)(l:List It)(i:Nat)(h:i < l.length):bA none 4 (.vsl c (l.map It.cells)) (.int kd (i:Int))=some (.vptr (gd l ⟨0,0,0,⟨#[]⟩⟩ i).cells 0):=by
 simp [bA,JP,gd,List.getD,h]
theorem zki (L:az)(h:O)(bs:List (List J))(ts:List Nat)(i:Nat)(g:Gd)(k t c:Int)(hk:g.k < 1000000000)(hb:bs[i]?=some (Ki g))(hL:L.rob<=h.blks.length):
  aa ah L l5 [pA h.blks.length i 0,Ii k,Ii t,Ii c] (hx h bs ts)=some (Ii (al g k t c).e,hx h (bs.set i (Ki (al g k t c))) ts):=by
 rw [C3];have hi:=(List.getElem?_eq_some_iff.1 hb).1;have hz:([Ii k,Ii t,Ii c,.str ⟨#[]⟩]:List J)=(⟨k,t,c,⟨#[]⟩⟩:It).cells:=rfl;obtain ⟨y,hy⟩:∃ y:It,y=⟨k,t,c,⟨#[]⟩⟩:=⟨_,rfl⟩;have hne:=Mo g k t c;have hle:=rf g (if eU g k t c then 0 else 10);have hS:=fun L h=>zgn L h (gd g.l ⟨0,0,0,⟨#[]⟩⟩ g.k) y;have hsm:((gd g.l ⟨0,0,0,⟨#[]⟩⟩ g.k).kind==y.kind&&((gd g.l ⟨0,0,0,⟨#[]⟩⟩ g.k).typ==y.typ&&(gd g.l ⟨0,0,0,⟨#[]⟩⟩ g.k).count==y.count))=Hz (gd g.l ⟨0,0,0,⟨#[]⟩⟩ g.k) ⟨k,t,c,⟨#[]⟩⟩:=by rw [hy];rfl
 rw [hsm] at hS;have hb2:∀ x:List J,(bs++[x])[i]?=some (Ki g):=fun x=>by rw [List.getElem?_append_left hi];exact hb
 have hU:=fun L hL x so=>Q6 L h (bs++[x]) ts i g so 10 (hb2 x) hL;simp only [List.set_append_left _ _ hi] at hU;have hg0:=fun x=>jY bs [x] bs.length 0 rfl;have hs0:=fun x v=>l9 bs [x] bs.length 0 v rfl;simp only [Nat.add_zero,List.getElem?_cons_zero,List.set_cons_zero] at hg0 hs0;have w1:Wr ((g.k:Int)+1)=((g.k+1:Nat):Int):=wy;have hcl:y.cells.length=4:=rfl;have hyc:[J.int .i64 k,Ii t,Ii c,.str ⟨#[]⟩]=y.cells:=by rw [hy];rfl
 have huy:ay 0 0 y.cells=true:=by rw [hy];rfl
 have hgs:∀ (x z:List J),(bs.set i x++[z])[i]?=some x:=fun x z=>by rw [List.getElem?_append_left (by simpa using hi),List.getElem?_set_self hi]
 have hss:∀ (x z w:List J),(bs.set i x++[z]).set i w=bs.set i w++[z]:=fun x z w=>by rw [List.set_append_left _ _ (by simpa using hi),List.set_set]
 have htr:=fun cs js=>Fo h (bs.set i cs) js ts bs.length (by simp);by_cases hlt:g.k < g.l.length
 ·have hltI:(g.k:Int) < (g.l.length:Int):=by omega
  have ia:=NP .i64 false g.l g.k hlt;have hso:eU g k t c=Hz (gd g.l ⟨0,0,0,⟨#[]⟩⟩ g.k) ⟨k,t,c,⟨#[]⟩⟩:=by unfold eU;rw [decide_eq_true hlt];rfl
  have hdef:al g k t c=if (aK g (if eU g k t c then 0 else 10)).e=0 then {aK g (if eU g k t c then 0 else 10) with k:=g.k+1} else aK g (if eU g k t c then 0 else 10):=rfl
  rw [hso] at hdef hne hle;generalize Hz (gd g.l ⟨0,0,0,⟨#[]⟩⟩ g.k) ⟨k,t,c,⟨#[]⟩⟩=so at*;have hcx:(gd g.l ⟨0,0,0,⟨#[]⟩⟩ g.k).cells.length=4:=rfl;generalize (gd g.l ⟨0,0,0,⟨#[]⟩⟩ g.k).cells=xc at*;have hUs:=fun L hL x=>hU L hL x so;generalize aK g (if so=true then 0 else 10)=f at*;clear hU;generalize y.cells=yc at*;by_cases hf:f.e=0
  ·have hbe:(f.e==0)=true:=by rw [hf];rfl
   rw [if_pos hf] at hdef;rw [hdef];obtain ⟨fl,fk,fe⟩:=f;obtain ⟨l,k0,e0⟩:=g;simp only at*;obtain ⟨rfl,rfl⟩:=hle;subst hf;simp only [Ki] at*;generalize fk+1=k1 at*;simp -implicitDefEqProofs [iU,aC,aB,hyc,ak,setAt,hb,hb2,ao,hltI,ia,Z,hcx,hcl,hg0,hs0,aq,ab,ap,hL,huy,hS,hUs,hgs,hss,w1,htr]
  ·have hbe:(f.e==0)=false:=beq_false_of_ne hf;rw [if_neg hf] at hdef;rw [hdef];simp only [Ki] at hb hb2;simp -implicitDefEqProofs [iU,aC,aB,hyc,ak,setAt,hb,hb2,ao,hltI,ia,Z,hcx,hcl,hg0,hs0,aq,ab,ap,hL,huy,hS,hUs,hgs,hss,w1,htr,hbe]
 ·have hltI:¬(g.k:Int) < (g.l.length:Int):=by omega
  have hso:eU g k t c=false:=by unfold eU;rw [decide_eq_false hlt];rfl
  have hdef:al g k t c=aK g 10:=by
   unfold al;rw [hso];simp only [Bool.false_eq_true,if_false];rw [if_neg];unfold aK;split
   ·show ¬(10:Int)=0;decide
   ·assumption
  have hUs:=fun L hL x=>hU L hL x false;simp only [Bool.false_eq_true,if_false] at hUs;have hf:¬(aK g 10).e=0:=by
   unfold aK;split
   ·show ¬(10:Int)=0;decide
   ·assumption
  have hbe:((aK g 10).e==0)=false:=beq_false_of_ne hf;rw [hdef];generalize y.cells=yc,aK g 10=f at*;simp only [Ki] at hb hb2;simp -implicitDefEqProofs [iU,aC,aB,hyc,ak,setAt,hb,hb2,ao,hltI,Z,hcl,hg0,hs0,aq,ab,ap,hL,huy,hUs,hgs,hss,htr,hbe]
def me (g:Gd):Gd:=aK g (if g.k=g.l.length then 0 else 12)
theorem Yv (L:az)(h:O)(bs:List (List J))(ts:List Nat)(i:Nat)(g:Gd)(hb:bs[i]?=some (Ki g))(hL:L.rob<=h.blks.length):
  aa ah L ke [pA h.blks.length i 0] (hx h bs ts)=some (Ii (me g).e,hx h (bs.set i (Ki (me g))) ts):=by
 rw [zl];have hU:=fun L hL so=>Q6 L h bs ts i g so 12 hb hL;have htr:=fun cs=>sK h bs ts i cs;by_cases he:g.k=g.l.length
 ·have hbe:((g.k:Int)==(g.l.length:Int))=true:=by rw [he];simp
  have hd:me g=aK g 0:=by unfold me;rw [if_pos he]
  rw [hd];have hUs:=fun L hL=>hU L hL true;simp only [if_true] at hUs;generalize aK g 0=f at*;simp only [Ki] at hb;simp -implicitDefEqProofs [j1,aC,aB,hb,ao,hbe,hUs,hL,htr]
 ·have hbe:((g.k:Int)==(g.l.length:Int))=false:=beq_false_of_ne (by omega);have hd:me g=aK g 12:=by unfold me;rw [if_neg he]
  rw [hd];have hUs:=fun L hL=>hU L hL false;simp only [Bool.false_eq_true,if_false] at hUs;generalize aK g 12=f at*;simp only [Ki] at hb;simp -implicitDefEqProofs [j1,aC,aB,hb,ao,hbe,hUs,hL,htr]
def rotl (x:ac)(n:Nat):ac:=(x <<< (n % 64))|||(x >>> (64 - n % 64))
theorem zgk (L:az)(h:O)(x:ac)(n:Nat)(hn:n < 9223372036854775808):aa ah L dZ [wd x,Ii n] h=some (wd (rotl x n),h):=by
 rw [vp];have e1:IntKind.u64.wrap (n:Int)=n:=GJ n (by omega);have e2:aW .and (.int .u64 (n:Int)) (.int .u64 63)=some (.int .u64 ((n % 64:Nat):Int)):=by
  rw [yu];show some (J.int .u64 (IntKind.u64.wrap ((BitVec.ofInt 64 (n:Int)&&&BitVec.ofInt 64 (63:Int):BitVec 64).toNat:Int)))=_;have:(BitVec.ofInt 64 (n:Int)&&&BitVec.ofInt 64 (63:Int):BitVec 64).toNat=n % 64:=by
   rw [BitVec.toNat_and];have h1:(BitVec.ofInt 64 (n:Int)).toNat=n:=by rw [BitVec.toNat_ofInt];omega
   have h2:(BitVec.ofInt 64 (63:Int)).toNat=2 ^ 6 - 1:=by decide
   rw [h1,h2,Nat.and_two_pow_sub_one_eq_mod]
  rw [this,GJ _ (by omega)]
 have e3:aW .sub (.int .u64 64) (.int .u64 ((n % 64:Nat):Int))=some (.int .u64 ((64 - n % 64:Nat):Int)):=by
  rw [TI];have:(64:Int) - ((n % 64:Nat):Int)=((64 - n % 64:Nat):Int):=by omega
  rw [this,GJ _ (by omega)]
 generalize hm:n % 64=m at e2 e3;have hm64:m<=64:=by omega
 generalize hk:64 - m=k at e3;have hk64:k<=64:=by omega
 simp [ko,e1,e2,e3,Nf,yK,hm64,hk64, -yu, -TI, -yv, -j9];simp [rotl,hm,hk]
def F2 (l:List ac)(x:Nat):ac:=gd l 0#64 x ^^^ gd l 0#64 (x+5) ^^^ gd l 0#64 (x+10) ^^^ gd l 0#64 (x+15) ^^^ gd l 0#64 (x+20)
def PX (l:List ac)(k x:Nat):ac:=(List.range k).foldl (fun c i=>if i % 5=x then c ^^^ gd l 0#64 i else c) 0
theorem zcS (l:List ac)(k x:Nat):PX l (k+1) x=if k % 5=x then PX l k x ^^^ gd l 0#64 k else PX l k x:=by
 simp [PX,List.range_succ]
theorem zgt (l:List ac)(x:Nat)(hx:x < 5):PX l 25 x=F2 l x:=by
 unfold PX F2;have:x=0\/x=1\/x=2\/x=3\/x=4:=by omega
 rcases this with rfl | rfl | rfl | rfl | rfl <;> simp [show List.range 25=[0,1,2,3,4,5,6,7,8,9,10,11,12,13,14,15,16,17,18,19,20,21,22,23,24] from by decide]
def En (l:List ac)(i:Nat):ac:=gd l 0#64 i ^^^ (F2 l ((i % 5+4) % 5) ^^^ rotl (F2 l ((i % 5+1) % 5)) 1)
def fJ (l:List ac):List ac:=tab 25 (En l)
theorem u7 (k:Nat):(k:Int).tmod 5=((k % 5:Nat):Int):=by rw [Int.tmod_eq_emod_of_nonneg (by omega)];omega
theorem Vx {fr:Fr}{h:O}{R:Option (cL × Fr × O)}(s:List ac)(hs:s.length=25)(b z:List J)
  (hF:run ah (V h) (.loop bB) fr (hx h [b,z,cW (tab 5 fun _=>0#64)] [])=R)
  (h8:fr 8=.agg (cW s)) (h9:fr 9=Ii 0) (h3:fr 3=pA h.blks.length 2 0):
  ∃ fr',R=some (.exit 0,fr',hx h [b,z,cW (tab 5 (F2 s))] [])/\∀ t,t∉wr bB->fr' t=fr t:=by
 obtain ⟨e,fr',h',rfl,⟨rfl,rfl⟩,hk⟩:=af hF 25
  (fun k fr hh=>fr 9=Ii k/\hh=hx h [b,z,cW (tab 5 (PX s k))] [])
  (fun e fr hh=>e=.exit 0/\hh=hx h [b,z,cW (tab 5 (F2 s))] [])
  ⟨h9,rfl⟩ (by
   rintro k fr1 hh hkN hkeep ⟨g9,rfl⟩;have g8:=kp hkeep h8;have g3:=kp hkeep h3;by_cases hlt:k < 25
   ·have w2:Wr ((k:Int)+1)=k+1:=wz;have e5:=u7 k;have hset:(tab 5 (PX s k)).set (k % 5) (PX s k (k % 5) ^^^ gd s 0#64 k)=tab 5 (PX s (k+1)):=by
     rw [vq];refine bj fun j hj=>?_;rw [zcS];by_cases hj:j=k % 5
     ·subst hj;simp
     ·simp [hj,Ne.symm hj]
    generalize hm:k % 5=m at e5 hset;have hm5:m < 5:=by omega
    simp [bB,V,g9,g8,g3,hlt,show (k:Int) < 25 by omega,w2,Sq,zmK,hs,bC,e5,eR,hm5,show m<=4 by omega,dY,hset]
   ·have:k=25:=by omega
    subst this;simp [bB,g9,g8,g3];exact congrArg (fun c=>hx h [b,z,c] []) (congrArg cW (bj fun j hj=>zgt s j hj)))
 exact ⟨fr',rfl,hk⟩
theorem Vy {fr:Fr}{h:O}{R:Option (cL × Fr × O)}(s:List ac)(hs:s.length=25)(z:List J)
  (hF:run ah (V h) (.loop dX) fr (hx h [cW s,z,cW (tab 5 (F2 s))] [])=R)
  (h1:fr 1=pA h.blks.length 0 0) (h3:fr 3=pA h.blks.length 2 0) (h21:fr 21=Ii 0):
  ∃ fr',R=some (.exit 2,fr',hx h [cW (fJ s),z,cW (tab 5 (F2 s))] [])/\∀ t,t∉wr dX->fr' t=fr t:=by
 obtain ⟨e,fr',h',rfl,⟨rfl,rfl⟩,hk⟩:=af hF 25
  (fun k fr hh=>fr 21=Ii k/\hh=hx h [cW (tab 25 fun j=>if j < k then En s j else gd s 0#64 j),z,cW (tab 5 (F2 s))] [])
  (fun e fr hh=>e=.exit 2/\hh=hx h [cW (fJ s),z,cW (tab 5 (F2 s))] [])
  ⟨h21, by simp [<- Fg 0#64 hs]⟩ (by
   rintro k fr1 hh hkN hkeep ⟨g21,rfl⟩;have g1:=kp hkeep h1;have g3:=kp hkeep h3;by_cases hlt:k < 25
   ·have w2:Wr ((k:Int)+1)=k+1:=wz;have e5:=u7 k;have hset : (tab 25 fun j => if j < k then En s j else gd s 0#64 j).set k (En s k) = tab 25 fun j => if j < k + 1 then En s j else gd s 0#64 j := by
     rw [vq];refine bj fun j hj=>?_;by_cases h1:j=k
     ·subst h1;simp
     ·by_cases h2:j < k
      ·simp [h1,h2,show j < k+1 by omega]
      ·simp [h1,h2,show ¬j < k+1 by omega]
    have hth:En s k=gd s 0#64 k ^^^ (F2 s ((k % 5+4) % 5) ^^^ rotl (F2 s ((k % 5+1) % 5)) 1):=rfl;have hold:(fun j=>if j < k then En s j else gd s 0#64 j) k=gd s 0#64 k:=by simp
    have w4:Wr (((k % 5:Nat):Int)+4)=((k % 5+4:Nat):Int):=wy;have w1:Wr (((k % 5:Nat):Int)+1)=((k % 5+1:Nat):Int):=wy;have t4:=u7 (k % 5+4);have t1:=u7 (k % 5+1);generalize hga:(k % 5+4) % 5=a at t4 hth;generalize hgb:(k % 5+1) % 5=b at t1 hth;generalize hm:k % 5=m at e5 w4 w1 t4 t1;rw [hth] at hset;have ha5:a < 5:=by omega
    have hb5:b < 5:=by omega
    simp only [Int.natCast_add,Int.cast_ofNat_Int] at w4 w1 t4 t1;have hrot:=fun L h x=>zgk L h x 1 (by decide);simp only [Int.natCast_one] at hrot;simp [dX,V,g21,g1,g3,hlt,show (k:Int) < 25 by omega,w2,bC,e5,w4,w1,t4,t1,eR,ha5,hb5,dY,hset,hrot,show k<=24 by omega]
   ·have:k=25:=by omega
    subst this;simp [dX,g21];exact congrArg (fun c=>hx h [c,z,cW (tab 5 (F2 s))] []) (congrArg cW (bj fun j hj=>by simp [hj])))
 exact ⟨fr',rfl,hk⟩
theorem zgw (L:az)(h:O)(s:List ac)(hs:s.length=25):aa ah L j5 [.agg (cW s)] h=some (.agg (cW (fJ s)),h):=by
 rw [zd];simp [n7,V,bH,aE,J.okV,J.cells,Z,hs];generalize hF:run ah _ (.loop _) _ _=R;obtain ⟨fr1,rfl,hk1⟩:=Vx s hs _ _ hF (by simp) (by simp) (by simp);simp [hk1,wr,bB,bn];generalize hF:run ah _ (.loop _) _ _=R;obtain ⟨fr2,rfl,hk2⟩:=Vy s hs _ hF (by simp [hk1,wr,bB,bn]) (by simp [hk1,wr,bB,bn]) (by simp);simp [hk1,hk2,wr,bB,dX,bn,Z,fJ,aq,ab]
def AD:Nat->Nat × Nat
 | 0=>(1,0)
 | t+1=>((AD t).2,(2*(AD t).1+3*(AD t).2) % 5)
theorem Zb:∀ t,(AD t).1 < 5/\(AD t).2 < 5
 | 0=>by simp [AD]
 | t + 1 => by
  have:=Zb t;simp only [AD];omega
def y8 (l:List ac):Nat->List ac
 | 0=>tab 25 fun j=>if j=0 then gd l 0#64 0 else 0#64
 | t+1=>(y8 l t).set ((AD t).2+5*((2*(AD t).1+3*(AD t).2) % 5)) (rotl (gd l 0#64 ((AD t).1+5*(AD t).2)) ((t+1)*(t+2) / 2))
@[simp] theorem Za (l:List ac):∀ t,(y8 l t).length=25
 | 0=>by simp [y8]
 | t+1=>by simp [y8,Za l t]
def xf (l:List ac):List ac:=y8 l 24
theorem Zd {fr:Fr}{h:O}{R:Option (cL × Fr × O)}(s:List ac)(hs:s.length=25)(z:List J)
  (hF:run ah (V h) (.loop dU) fr (hx h [z,cW (y8 s 0)] [])=R)
  (h1:fr 1=.vptr (cW s) 0) (h3:fr 3=pA h.blks.length 1 0) (h4:fr 4=Ii 1) (h5:fr 5=Ii 0) (h11:fr 11=Ii 0):
  ∃ fr',R=some (.exit 0,fr',hx h [z,cW (xf s)] [])/\∀ t,t∉wr dU->fr' t=fr t:=by
 obtain ⟨e,fr',h',rfl,⟨rfl,rfl⟩,hk⟩:=af hF 24
  (fun k fr hh=>fr 11=Ii k/\fr 4=Ii ((AD k).1:Nat)/\fr 5=Ii ((AD k).2:Nat)/\hh=hx h [z,cW (y8 s k)] [])
  (fun e fr hh=>e=.exit 0/\hh=hx h [z,cW (xf s)] [])
  ⟨h11,h4,h5,rfl⟩ (by
   rintro k fr1 hh hkN hkeep ⟨g11,g4,g5,rfl⟩;have g1:=kp hkeep h1;have g3:=kp hkeep h3;by_cases hlt:k < 24
   ·obtain ⟨hx5,hy5⟩:=Zb k;have hst:y8 s (k+1)=(y8 s k).set ((AD k).2+5*((2*(AD k).1+3*(AD k).2) % 5)) (rotl (gd s 0#64 ((AD k).1+5*(AD k).2)) ((k+1)*(k+2) / 2)):=rfl;have hp:AD (k+1)=((AD k).2,(2*(AD k).1+3*(AD k).2) % 5):=rfl;generalize (AD k).2=y,(AD k).1=x at*;have w1:Wr ((k:Int)+1)=k+1:=wz;have w2:Wr ((k:Int)+2)=k+2:=wz;have hmul:(k+1)*(k+2)<=600:=Nat.le_trans (Nat.mul_le_mul (show k+1<=24 by omega) (show k+2<=25 by omega)) (by decide);have w3:IntKind.i64.wrap (((k:Int)+1)*(k+2))=(((k+1)*(k+2):Nat):Int):=by
     rw [<- eK ((k+1)*(k+2)) (by omega)];simp only [Int.natCast_mul,Int.natCast_add,Int.cast_ofNat_Int]
    have w4:=VS ((k+1)*(k+2));have w5:=eK ((k+1)*(k+2) / 2) (by omega);have w6:IntKind.i64.wrap (2*(x:Int))=((2*x:Nat):Int):=by
     rw [<- eK (2*x) (by omega)];simp only [Int.natCast_mul,Int.natCast_add,Int.cast_ofNat_Int]
    have w7:IntKind.i64.wrap (3*(y:Int))=((3*y:Nat):Int):=by
     rw [<- eK (3*y) (by omega)];simp only [Int.natCast_mul,Int.natCast_add,Int.cast_ofNat_Int]
    have w8:IntKind.i64.wrap (((2*x:Nat):Int)+((3*y:Nat):Int))=((2*x+3*y:Nat):Int):=by
     rw [<- eK (2*x+3*y) (by omega)];simp only [Int.natCast_mul,Int.natCast_add,Int.cast_ofNat_Int]
    have w9:=u7 (2*x+3*y);generalize hn:(2*x+3*y) % 5=n at*;have hn5:n < 5:=by omega
    have w10:IntKind.i64.wrap (5*(n:Int))=((5*n:Nat):Int):=by
     rw [<- eK (5*n) (by omega)];simp only [Int.natCast_mul,Int.natCast_add,Int.cast_ofNat_Int]
    have w11:IntKind.i64.wrap ((y:Int)+((5*n:Nat):Int))=((y+5*n:Nat):Int):=by
     rw [<- eK (y+5*n) (by omega)];simp only [Int.natCast_mul,Int.natCast_add,Int.cast_ofNat_Int]
    have w12:IntKind.i64.wrap (5*(y:Int))=((5*y:Nat):Int):=by
     rw [<- eK (5*y) (by omega)];simp only [Int.natCast_mul,Int.natCast_add,Int.cast_ofNat_Int]
    have w13:IntKind.i64.wrap ((x:Int)+((5*y:Nat):Int))=((x+5*y:Nat):Int):=by
     rw [<- eK (x+5*y) (by omega)];simp only [Int.natCast_mul,Int.natCast_add,Int.cast_ofNat_Int]
    have hd25:y+5*n < 25:=by omega
    have hd24:y+5*n<=24:=by omega
    have hs25:x+5*y < 25:=by omega
    generalize hd:y+5*n=d at*;generalize hsr:x+5*y=sr at*;generalize hr:(k+1)*(k+2) / 2=r at*;generalize 3*y=y3,2*x=x2,5*y=y5,5*n=n5,2*x+3*y=xy,(k+1)*(k+2)=kk at*;have hrot:=fun L h v=>zgk L h v r (by omega);simp [dU,V,g11,g1,g3,g4,g5,hlt,show (k:Int) < 24 by omega,w1,w2,w3,w4,w5,w6,w7,w8,w9,w10,w11,w12,w13,bC,da,eR,lI,hd25,hd24,hs25,hs,hrot,<- hst,hp]
   ·have:k=24:=by omega
    subst this;simp [dU,g11,xf])
 exact ⟨fr',rfl,hk⟩
theorem zhW (L:az)(h:O)(s:List ac)(hs:s.length=25):aa ah L j6 [.agg (cW s)] h=some (.agg (cW (xf s)),h):=by
 rw [zg];have e0 : cW ((tab 25 fun _ => 0#64).set 0 (gd s 0#64 0)) = cW (y8 s 0) := by
  rw [vq];exact congrArg cW (bj fun j _=>rfl)
 simp [nO,V,bH,Z,hs,ak,aq,ab,e0];generalize hF:run ah _ (.loop _) _ _=R;obtain ⟨fr1,rfl,hk1⟩:=Zd s hs _ hF (by simp) (by simp) (by simp) (by simp) (by simp);simp [hk1,wr,dU,bn,Z,xf,aq,ab]
def Zf (l:List ac)(i:Nat):ac:=gd l 0#64 i ^^^ (gd l 0#64 (i - i % 5+(i+2) % 5)&&&~~~ gd l 0#64 (i - i % 5+(i+1) % 5))
def rV (l:List ac):List ac:=tab 25 (Zf l)
theorem zh0 {fr:Fr}{h:O}{R:Option (cL × Fr × O)}(s:List ac)(hs:s.length=25)(z:List J)
  (hF:run ah (V h) (.loop fj) fr (hx h [z,cW s] [])=R)
  (h1:fr 1=.vptr (cW s) 0) (h3:fr 3=pA h.blks.length 1 0) (h7:fr 7=Ii 0):
  ∃ fr',R=some (.exit 0,fr',hx h [z,cW (rV s)] [])/\∀ t,t∉wr fj->fr' t=fr t:=by
 obtain ⟨e,fr',h',rfl,⟨rfl,rfl⟩,hk⟩:=af hF 25
  (fun k fr hh=>fr 7=Ii k/\hh=hx h [z,cW (cY 25 (Zf s) (gd s 0#64) k)] [])
  (fun e fr hh=>e=.exit 0/\hh=hx h [z,cW (rV s)] [])
  ⟨h7, by simp [kT, <- Fg 0#64 hs]⟩ (by
   rintro k fr1 hh hkN hkeep ⟨g7,rfl⟩;have g1:=kp hkeep h1;have g3:=kp hkeep h3;by_cases hlt:k < 25
   ·have hset:(cY 25 (Zf s) (gd s 0#64) k).set k (Zf s k)=cY 25 (Zf s) (gd s 0#64) (k+1):=nz ..;have hk1:Zf s k=gd s 0#64 k ^^^ (gd s 0#64 (k - k % 5+(k+2) % 5)&&&~~~ gd s 0#64 (k - k % 5+(k+1) % 5)):=rfl;rw [hk1] at hset;clear hk1;have w0:=u7 k;have w1:IntKind.i64.wrap ((k:Int) - ((k % 5:Nat):Int))=((k - k % 5:Nat):Int):=by
     rw [<- eK (k - k % 5) (by omega)];congr 1;omega
    have w2:Wr ((k:Int)+1)=((k+1:Nat):Int):=wz;have w3:Wr ((k:Int)+2)=((k+2:Nat):Int):=wz;have w4:=u7 (k+1);have w5:=u7 (k+2);have w6:IntKind.i64.wrap (((k - k % 5:Nat):Int)+(((k+1) % 5:Nat):Int))=((k - k % 5+(k+1) % 5:Nat):Int):=by
     rw [<- eK (k - k % 5+(k+1) % 5) (by omega),Int.natCast_add]
    have w7:IntKind.i64.wrap (((k - k % 5:Nat):Int)+(((k+2) % 5:Nat):Int))=((k - k % 5+(k+2) % 5:Nat):Int):=by
     rw [<- eK (k - k % 5+(k+2) % 5) (by omega),Int.natCast_add]
    have ha:k - k % 5+(k+1) % 5 < 25:=by omega
    have hb:k - k % 5+(k+2) % 5 < 25:=by omega
    generalize k - k % 5+(k+1) % 5=a at*;generalize k % 5=r,k - k % 5=q,(k+2) % 5=d,(k+1) % 5=c,k - k % 5+(k+2) % 5=b at*;have w8:((k+1:Nat):Int)=(k:Int)+1:=rfl;generalize hk1:k+1=k1 at*;generalize k+2=k2 at*;simp [fj,V,g7,g1,g3,hlt,show (k:Int) < 25 by omega,show k<=24 by omega,w0,w1,w2,w3,w4,w5,w6,w7,bC,eR,lI,ha,hb,Mh,hs,hset,hk1,show k1<=25 by omega]
    try omega
   ·have:k=25:=by omega
    subst this;simp [fj,g7,tK,rV])
 exact ⟨fr',rfl,hk⟩
theorem zoC (L:az)(h:O)(s:List ac)(hs:s.length=25):aa ah L lU [.agg (cW s)] h=some (.agg (cW (rV s)),h):=by
 rw [CM];simp [p6,V,bH,Z,hs,aq,ab];generalize hF:run ah _ (.loop _) _ _=R;obtain ⟨fr1,rfl,hk1⟩:=zh0 s hs _ hF (by simp) (by simp) (by simp);simp [hk1,wr,fj,bn,Z,rV,aq,ab]
def rcW:List ac:=[1#64,32898#64,9223372036854808714#64,9223372039002292224#64,32907#64,2147483649#64,9223372039002292353#64,9223372036854808585#64,138#64,136#64,2147516425#64,2147483658#64,2147516555#64,9223372036854775947#64,9223372036854808713#64,9223372036854808579#64,9223372036854808578#64,9223372036854775936#64,32778#64,9223372039002259466#64,9223372039002292353#64,9223372036854808704#64,2147483649#64,9223372039002292232#64]
theorem zlb (fr:Fr):ah.ev fr (.g 3)=.vptr (cW rcW) 0:=rfl
theorem WA (L:az)(h:O)(k:Nat)(hk:k < 24):aa ah L np [Ii k] h=some (wd (gd rcW 0#64 k),h):=by
 rw [DE];have hl:rcW.length=24:=rfl;simp [rj,show ¬(24:Int)<=k by omega,show ¬(k:Int) < 0 by omega,zlb,lI,hk,hl]
def E4 (l:List ac)(k:Nat):List ac:=(rV (xf (fJ l))).set 0 (gd (rV (xf (fJ l))) 0#64 0 ^^^ gd rcW 0#64 k)
@[simp] theorem zoF (l:List ac):(fJ l).length=25:=by simp [fJ]
@[simp] theorem zoH (l:List ac):(xf l).length=25:=by simp [xf]
@[simp] theorem zrM (l:List ac):(rV l).length=25:=by simp [rV]
@[simp] theorem zoI (l:List ac)(k:Nat):(E4 l k).length=25:=by simp [E4]
theorem zdR (L:az)(h:O)(s:List ac)(hs:s.length=25)(k:Nat)(hk:k < 24):aa ah L jV [.agg (cW s),Ii k] h=some (.agg (cW (E4 s k)),h):=by
 rw [Aq];simp [nR,V,bH,aE,J.okV,J.cells,Z,hs,aq,ab,zgw,zhW,zoC,WA,hk,E4]
def Lu (l:List ac)(k:Nat):List ac:=(List.range k).foldl E4 l
theorem H3 (l:List ac)(k:Nat):Lu l (k+1)=E4 (Lu l k) k:=by simp [Lu,List.range_succ]
theorem RG (l:List ac)(hl:l.length=25):∀ k,(Lu l k).length=25
 | 0=>by simpa [Lu] using hl
 | k+1=>by rw [H3];simp
def lq (l:List ac):List ac:=Lu l 24
theorem TH {fr:Fr}{h:O}{R:Option (cL × Fr × O)}(s:List ac)(hs:s.length=25)(z:List J)
  (hF:run ah (V h) (.loop cU) fr (hx h [cW s,z] [])=R)
  (h1:fr 1=pA h.blks.length 0 0) (h4:fr 4=Ii 0):
  ∃ fr',R=some (.exit 0,fr',hx h [cW (lq s),z] [])/\∀ t,t∉wr cU->fr' t=fr t:=by
 obtain ⟨e,fr',h',rfl,⟨rfl,rfl⟩,hk⟩:=af hF 24
  (fun k fr hh=>fr 4=Ii k/\hh=hx h [cW (Lu s k),z] [])
  (fun e fr hh=>e=.exit 0/\hh=hx h [cW (lq s),z] [])
  ⟨h4,rfl⟩ (by
   rintro k fr1 hh hkN hkeep ⟨g4,rfl⟩;have g1:=kp hkeep h1;by_cases hlt:k < 24
   ·have w1:Wr ((k:Int)+1)=k+1:=wz;have hl:=RG s hs k;simp [cU,V,g4,g1,hlt,show (k:Int) < 24 by omega,w1,Z,hl,aq,ab,zdR,H3]
   ·have:k=24:=by omega
    subst this;simp [cU,g4,lq])
 exact ⟨fr',rfl,hk⟩
theorem fN (l:List ac)(hl:l.length=25):(lq l).length=25:=RG l hl 24
theorem H4 (L:az)(h:O)(s:List ac)(hs:s.length=25):aa ah L dD [.agg (cW s)] h=some (.agg (cW (lq s)),h):=by
 rw [xq];simp [lL,V,bH,aE,J.okV,J.cells,Z,hs];generalize hF:run ah _ (.loop _) _ _=R;obtain ⟨fr1,rfl,hk1⟩:=TH s hs _ hF (by simp) (by simp);simp [hk1,wr,cU,bn,Z,fN,hs,aq,ab]
def du (l:List ac)(j:Nat):Bool:=(gd l 0#64 (j / 320+5*(j / 64 % 5))).getLsbD (j % 64)
def aQ (l:List ac):List Bool:=tab 1600 (du l)
@[simp] theorem zp6 (l:List ac):(aQ l).length=1600:=by simp [aQ]
theorem j8 (l:List ac)(x y z:Nat)(hx:x < 5)(hy:y < 5)(hz:z < 64):du l (x*320+y*64+z)=(gd l 0#64 (x+5*y)).getLsbD z:=by
 unfold du;rw [show (x*320+y*64+z) / 320=x by omega,show (x*320+y*64+z) / 64 % 5=y by omega,show (x*320+y*64+z) % 64=z by omega]
theorem OP (l:List ac)(x y z:Nat)(hx:x < 5)(hy:y < 5)(hz:z < 64):gd (aQ l) false (x*320+y*64+z)=(gd l 0#64 (x+5*y)).getLsbD z:=by
 unfold aQ;rw [dY (by omega),j8 l x y z hx hy hz]
def Zj (i z j:Nat):Prop:=j / 320+5*(j / 64 % 5) < i\/j / 320+5*(j / 64 % 5)=i/\j % 64 < z
instance (i z j:Nat):Decidable (Zj i z j):=by unfold Zj;exact inferInstance
def Zk (l:List ac)(i z:Nat):List Bool:=tab 1600 fun j=>if Zj i z j then du l j else false
@[simp] theorem zsZ (l:List ac)(i z:Nat):(Zk l i z).length=1600:=by simp [Zk]
theorem zif (l : List ac) : Zk l 0 0 = tab 1600 fun _ => false := bj fun j hj => by
 have:¬Zj 0 0 j:=by unfold Zj;omega
 rw [if_neg this]
theorem zig (l : List ac)(i : Nat) : Zk l i 64 = Zk l (i + 1) 0 := bj fun j hj => by
 by_cases h:Zj i 64 j
 ·have h2:Zj (i+1) 0 j:=by unfold Zj at*;omega
  rw [if_pos h,if_pos h2]
 ·have h2:¬Zj (i+1) 0 j:=by unfold Zj at*;omega
  rw [if_neg h,if_neg h2]
theorem zln (l : List ac) : Zk l 25 0 = aQ l := bj fun j hj => by
 have:Zj 25 0 j:=by unfold Zj;omega
 rw [if_pos this]
theorem zdZ {j:Nat}(hj:j < 1600):∃ x y z,x < 5/\y < 5/\z < 64/\j=x*320+y*64+z:=⟨j / 320,j / 64 % 5,j % 64,by omega,by omega,by omega,by omega⟩
theorem OT (i k x y z:Nat)(hx:x < 5)(hy:y < 5)(hz:z < 64):Zj i k (x*320+y*64+z)↔x+5*y < i\/x+5*y=i/\z < k:=by
 unfold Zj;rw [show (x*320+y*64+z) / 320=x by omega,show (x*320+y*64+z) / 64 % 5=y by omega,show (x*320+y*64+z) % 64=z by omega]
theorem zlo (l:List ac)(i z:Nat)(hi:i < 25)(hz:z < 64):(Zk l i z).set (i % 5*320+i / 5*64+z) ((gd l 0#64 i).getLsbD z)=Zk l i (z+1):=by
 unfold Zk;rw [vq];refine bj fun j hj=>?_;have hx5:i % 5 < 5:=by omega
 have hy5:i / 5 < 5:=by omega
 have hi2:i % 5+5*(i / 5)=i:=by omega
 generalize i % 5=p at*;generalize i / 5=q at*;obtain ⟨x,y,c,hx,hy,hc,rfl⟩:=zdZ hj;by_cases h:x*320+y*64+c=p*320+q*64+z
 ·have e1:x=p:=by omega
  have e2:y=q:=by omega
  have e3:c=z:=by omega
  subst e1 e2 e3;have h2:Zj i (c+1) (x*320+y*64+c):=(OT _ _ _ _ _ hx hy hc).2 (by omega);rw [if_pos rfl,if_pos h2,j8 l _ _ _ hx hy hc,hi2]
 ·rw [if_neg h];by_cases h1:x+5*y < i\/x+5*y=i/\c < z
  ·rw [if_pos ((OT _ _ _ _ _ hx hy hc).2 h1),if_pos ((OT _ _ _ _ _ hx hy hc).2 (by omega))]
  ·rw [if_neg (fun h=>h1 ((OT _ _ _ _ _ hx hy hc).1 h)),if_neg (fun h2=>by have:=(OT _ _ _ _ _ hx hy hc).1 h2;omega)]
theorem zlq (x:ac):aW .rem (wd x) (.int .u64 2)=some (wd (x % 2#64)):=by
 unfold wd;rw [bC _ _ _ (by decide),BitVec.toNat_umod];exact congrArg (fun n=>some (J.int .u64 n)) (sv x.toNat 2)
theorem zd0 (x:ac):aW .rem (wd x) (.int .u64 256)=some (wd (x % 256#64)):=by
 unfold wd;rw [bC _ _ _ (by decide),BitVec.toNat_umod];exact congrArg (fun n=>some (J.int .u64 n)) (sv x.toNat 256)
theorem zls (x:ac):aW .quo (wd x) (.int .u64 2)=some (wd (x >>> 1)):=by
 unfold wd;rw [da _ _ _ (by decide),BitVec.toNat_ushiftRight,VS,GJ _ (by have:=x.isLt;omega),Nat.shiftRight_eq_div_pow]
theorem zd2 (x:ac):aW .quo (wd x) (.int .u64 256)=some (wd (x >>> 8)):=by
 unfold wd;have:(x.toNat:Int).tdiv 256=((x.toNat / 256:Nat):Int):=xe x.toNat 256;rw [da _ _ _ (by decide),BitVec.toNat_ushiftRight,this,GJ _ (by have:=x.isLt;omega),Nat.shiftRight_eq_div_pow]
theorem zoP (x y:ac):aW .eql (wd x) (wd y)=some (.bool (x==y)):=by
 unfold wd;rw [MD]
 congr 2
 rw [Bool.eq_iff_iff];simp only [beq_iff_eq];constructor
 ·intro h;exact BitVec.eq_of_toNat_eq (by exact_mod_cast h)
 ·intro h;rw [h]
theorem zlu (x:ac):(x % 2#64==1#64)=x.getLsbD 0:=by
 rw [Bool.eq_iff_iff,beq_iff_eq];have h2:(x % 2#64).toNat=x.toNat % 2:=by rw [BitVec.toNat_umod];rfl
 constructor
 ·intro h;have:x.toNat % 2=1:=by rw [<- h2,h];rfl
  simp [BitVec.getLsbD,Nat.testBit,this]
 ·intro h;have:x.toNat % 2=1:=by
   simpa [BitVec.getLsbD,Nat.testBit] using h
  apply BitVec.eq_of_toNat_eq;rw [h2,this];rfl
theorem zi8 (x:ac)(z:Nat):(x >>> z).getLsbD 0=x.getLsbD z:=by simp
theorem Xl {fr:Fr}{h:O}{R:Option (cL × Fr × O)}(l:List ac)(b:List J)(i:Nat)(hi:i < 25)
  (hF:run ah (V h) (.loop b9) fr (hx h [b,cB (Zk l i 0)] [])=R)
  (h3:fr 3=pA h.blks.length 1 0) (h4:fr 4=Ii i) (h5:fr 5=wd (gd l 0#64 i)) (h6:fr 6=Ii 0):
  ∃ fr',R=some (.exit 2,fr',hx h [b,cB (Zk l i 64)] [])/\∀ t,t∉wr b9->fr' t=fr t:=by
 obtain ⟨e,fr',h',rfl,⟨rfl,rfl⟩,hk⟩:=af hF 64
  (fun k fr hh=>fr 6=Ii k/\fr 5=wd (gd l 0#64 i >>> k)/\hh=hx h [b,cB (Zk l i k)] [])
  (fun e fr hh=>e=.exit 2/\hh=hx h [b,cB (Zk l i 64)] [])
  ⟨h6, by simpa using h5, rfl⟩ (by
   rintro k fr1 hh hkN hkeep ⟨g6,g5,rfl⟩;have g3:=kp hkeep h3;have g4:=kp hkeep h4;by_cases hlt:k < 64
   ·have w1:Wr ((k:Int)+1)=k+1:=wz;have hset:=zlo l i k hi hlt;rw [<- zi8,<- zlu] at hset;have t1:=u7 i;have t2:(i:Int).tdiv 5=((i / 5:Nat):Int):=xe i 5;have t3:=eK (i / 5) (by omega);have hx5:i % 5 < 5:=by omega
    have hy5:i / 5 < 5:=by omega
    have hidx:i % 5*320+i / 5*64+k+1<=1600:=by omega
    generalize i % 5=x at*;generalize i / 5=y at*;have he:=zoP (gd l 0#64 i >>> k % 2#64) 1#64;have hs1:gd l 0#64 i >>> k >>> 1=gd l 0#64 i >>> (k+1):=by rw [<- BitVec.shiftRight_add]
    have he1:J.int .u64 1=wd 1#64:=rfl;generalize hw1:gd l 0#64 i >>> (k+1)=w1' at*;generalize gd l 0#64 i >>> k=w at*;simp [b9,V,g6,g5,g3,g4,hlt,show (k:Int) < 64 by omega,w1,zlq,zls,he1,he,hs1,bC,da,t1,t2,t3,eR,hx5,hy5,hset,hidx,hw1]
   ·have:k=64:=by omega
    subst this;simp [b9,g6])
 exact ⟨fr',rfl,hk⟩
theorem zjb {fr:Fr}{h:O}{R:Option (cL × Fr × O)}(l:List ac)(hl:l.length=25)(b:List J)
  (hF:run ah (V h) (.loop dE) fr (hx h [b,cB (Zk l 0 0)] [])=R)
  (h1:fr 1=.vptr (cW l) 0) (h3:fr 3=pA h.blks.length 1 0) (h4:fr 4=Ii 0):
  ∃ fr',R=some (.exit 0,fr',hx h [b,cB (aQ l)] [])/\∀ t,t∉wr dE->fr' t=fr t:=by
 obtain ⟨e,fr',h',rfl,⟨rfl,rfl⟩,hk⟩:=af hF 25
  (fun k fr hh=>fr 4=Ii k/\hh=hx h [b,cB (Zk l k 0)] [])
  (fun e fr hh=>e=.exit 0/\hh=hx h [b,cB (aQ l)] [])
  ⟨h4,rfl⟩ (by
   rintro k fr1 hh hkN hkeep ⟨g4,rfl⟩;have g3:=kp hkeep h3;have g1:=kp hkeep h1;by_cases hlt:k < 25
   ·have w1:Wr ((k:Int)+1)=k+1:=wz;simp [dE,g4,g3,g1,hlt,show (k:Int) < 25 by omega,lI,hl];generalize hF:run ah _ (.loop _) _ _=R;obtain ⟨fr2,rfl,q2⟩:=Xl l b k hlt hF (by simp [g3]) (by simp [g4]) (by simp) (by simp);simp [q2,wr,b9,bn,g4,w1,zig]
    try exact hlt
   ·have:k=25:=by omega
    subst this;simp [dE,g4,zln])
 exact ⟨fr',rfl,hk⟩
theorem Xp (L:az)(h:O)(l:List ac)(hl:l.length=25):aa ah L jr [.agg (cW l)] h=some (.agg (cB (aQ l)),h):=by
 rw [y6];simp [mF,V,DK,Z,hl,ak,aq,ab,<- zif l];generalize hF:run ah _ (.loop _) _ _=R;obtain ⟨fr1,rfl,hk1⟩:=zjb l hl _ hF (by simp) (by simp) (by simp);simp [hk1,wr,b9,dE,bn,Z,aq,ab]
theorem Xq {fr:Fr}{h:O}{R:Option (cL × Fr × O)}(l:List ac)(H:O)(i:Nat)(hi:i < 25)
  (hF:run ah (V h) (.loop bZ) fr H=R)
  (h1:fr 1=.vptr (cB (aQ l)) 0) (h4:fr 4=Ii i) (h5:fr 5=wd 0#64) (h6:fr 6=Ii 63):
  ∃ fr',R=some (.exit 2,fr',H)/\fr' 5=wd (gd l 0#64 i)/\∀ t,t∉wr bZ->fr' t=fr t:=by
 obtain ⟨e,fr',h',rfl,⟨rfl,rfl,h5'⟩,hk⟩:=af hF 64
  (fun k fr hh=>fr 6=Ii (63 - (k:Int))/\fr 5=wd (gd l 0#64 i >>> (64 - k))/\hh=H)
  (fun e fr hh=>e=.exit 2/\hh=H/\fr 5=wd (gd l 0#64 i))
  ⟨h6,by
   rw [h5];congr 1;apply BitVec.eq_of_toNat_eq;rw [BitVec.toNat_ushiftRight,Nat.shiftRight_eq_div_pow,Nat.div_eq_of_lt (by have:=(gd l 0#64 i).isLt;simpa using this)];rfl,rfl⟩ (by
   rintro k fr1 hh hkN hkeep ⟨g6,g5,rfl⟩;have g1:=kp hkeep h1;have g4:=kp hkeep h4;by_cases hlt:k < 64
   ·obtain ⟨z,hz⟩:∃ z:Nat,z=63 - k:=⟨_,rfl⟩;have hz64:z < 64:=by omega
    have g6':fr1 6=Ii (z:Int):=by rw [g6];congr 1;omega
    have w1:Wr ((z:Int) - 1)=63 - ((k+1:Nat):Int):=wy;have t1:=u7 i;have t2:(i:Int).tdiv 5=((i / 5:Nat):Int):=xe i 5;have t3:=eK (i / 5) (by omega);have hx5:i % 5 < 5:=by omega
    have hy5:i / 5 < 5:=by omega
    have hb:=OP l (i % 5) (i / 5) z hx5 hy5 hz64;rw [show i % 5+5*(i / 5)=i by omega] at hb;generalize i / 5=y,i % 5=x at*;have hidx:x*320+y*64+z < 1600:=by omega
    have g5':fr1 5=wd (gd l 0#64 i >>> (z+1)):=by rw [g5];congr 2;omega
    have hnext:gd l 0#64 i >>> (64 - (k+1))=gd l 0#64 i >>> z:=by congr 1;omega
    have hm2:J.int .u64 2=wd 2#64:=rfl;have hm1:J.int .u64 1=wd 1#64:=rfl;have hdbl:gd l 0#64 i >>> (z+1)*2#64+(if (gd l 0#64 i).getLsbD z then 1#64 else 0#64)=gd l 0#64 i >>> z:=by
     generalize gd l 0#64 i=w;have h1:(w >>> (z+1))*2#64=(w >>> (z+1)) <<< 1:=by
      rw [BitVec.shiftLeft_eq_mul_twoPow];rfl
     have h0:∀ (b:Bool),(w >>> (z+1)) <<< 1+(if b then 1#64 else 0#64)=(w >>> (z+1)) <<< 1|||(if b then 1#64 else 0#64):=by
      intro b;apply BitVec.add_eq_or_of_and_eq_zero;apply BitVec.eq_of_getLsbD_eq;intro j hj
      cases b <;> cases j <;> simp
     rw [h1,h0];apply BitVec.eq_of_getLsbD_eq;intro j hj
     cases j with
     | zero=>cases hb:w.getLsbD z <;> simp [hb]
     | succ j=>cases hb:w.getLsbD z <;> simp [Nat.add_assoc,Nat.add_comm,Nat.add_left_comm] <;> omega
    cases hbz:(gd l 0#64 i).getLsbD z
    ·rw [hbz] at hb hdbl;simp at hdbl;generalize gd l 0#64 i >>> (z+1)=w at*;simp [bZ,g6',g5',g1,g4,show (0:Int)<=z by omega,hm2,hm1,t1,t2,t3,bC,da,lI,hx5,hy5,hz64,hidx,hb,w1,hdbl,hlt,hnext];rw [hz]
    ·rw [hbz] at hb hdbl;simp at hdbl;generalize gd l 0#64 i >>> (z+1)=w at*;simp [bZ,g6',g5',g1,g4,show (0:Int)<=z by omega,hm2,hm1,t1,t2,t3,bC,da,lI,hx5,hy5,hz64,hidx,hb,w1,hdbl,hlt,hnext];rw [hz]
   ·have:k=64:=by omega
    subst this;simp [bZ,g6];rw [g5];simp)
 exact ⟨fr',rfl,h5',hk⟩
theorem zlh {fr:Fr}{h:O}{R:Option (cL × Fr × O)}(l:List ac)(hl:l.length=25)(b:List J)
  (hF:run ah (V h) (.loop eF) fr (hx h [b,cW (tab 25 fun _=>0#64)] [])=R)
  (h1:fr 1=.vptr (cB (aQ l)) 0) (h3:fr 3=pA h.blks.length 1 0) (h4:fr 4=Ii 0):
  ∃ fr',R=some (.exit 0,fr',hx h [b,cW l] [])/\∀ t,t∉wr eF->fr' t=fr t:=by
 obtain ⟨e,fr',h',rfl,⟨rfl,rfl⟩,hk⟩:=af hF 25
  (fun k fr hh=>fr 4=Ii k/\hh=hx h [b,cW (cY 25 (gd l 0#64) (fun _=>0#64) k)] [])
  (fun e fr hh=>e=.exit 0/\hh=hx h [b,cW l] [])
  ⟨h4, by rw [kT]⟩ (by
   rintro k fr1 hh hkN hkeep ⟨g4,rfl⟩;have g3:=kp hkeep h3;have g1:=kp hkeep h1;by_cases hlt:k < 25
   ·have w1:Wr ((k:Int)+1)=k+1:=wz;have hm0:J.int .u64 0=wd 0#64:=rfl;simp [eF,g4,g3,g1,hlt,show (k:Int) < 25 by omega,hm0];generalize hF:run ah _ (.loop _) _ _=R;obtain ⟨fr2,rfl,q1,q2⟩:=Xq l _ k hlt hF (by simp [g1]) (by simp [g4]) (by simp) (by simp);simp [q1,q2,wr,bZ,bn,g4,g3,w1,eR,hlt,V,show k<=24 by omega,nz]
   ·have:k=25:=by omega
    subst this;simp [eF,g4,tK,<- Fg 0#64 hl])
 exact ⟨fr',rfl,hk⟩
theorem Xs (L:az)(h:O)(l:List ac)(hl:l.length=25):aa ah L kE [.agg (cB (aQ l))] h=some (.agg (cW l),h):=by
 rw [BT];simp [oX,V,bH,Z,hl,ak,aq,ab];generalize hF:run ah _ (.loop _) _ _=R;obtain ⟨fr1,rfl,hk1⟩:=zlh l hl _ hF (by simp) (by simp) (by simp);simp [hk1,wr,bZ,eF,bn,Z,aq,ab,hl]
def Uz (l:List ac):Nat->List ac
 | 0=>tab 25 fun _=>0#64
 | k+1=>(Uz l k).set (k % 5+5*((2*(k / 5)+3*(k % 5)) % 5)) (gd l 0#64 (k / 5+5*(k % 5)))
def piL (l:List ac):List ac:=Uz l 25
@[simp] theorem ZO (l:List ac):∀ k,(Uz l k).length=25
 | 0=>by simp [Uz]
 | k+1=>by simp [Uz,ZO l k]
theorem QE : tab 1600 (fun _ => false) = aQ (tab 25 fun _ => 0#64) := bj fun j hj => by
 obtain ⟨x,y,z,hx,hy,hz,rfl⟩:=zdZ hj;rw [j8 _ _ _ _ hx hy hz,dY (by omega)];simp
theorem QG (l m:List ac)(hl:l.length=25)(x y p q:Nat)(hx:x < 5)(hy:y < 5)(hp:p < 5)(hq:q < 5):
  setAt (cB (aQ l)) (x*320+y*64) (cB (((aQ m).drop (p*320+q*64)).take 64))=cB (aQ (l.set (x+5*y) (gd m 0#64 (p+5*q)))):=by
 have e1:cB (aQ l)=tab 1600 (fun j=>.bool (du l j)):=by unfold cB aQ;rw [Ff]
 have e2 : cB (((aQ m).drop (p * 320 + q * 64)).take 64) = tab 64 (fun j => .bool (du m (p * 320 + q * 64 + j))) := by
  unfold cB aQ;rw [yG _ _ _ _ (by omega),Ff]
 rw [e1,e2,zbG _ _ _ _ _ (by omega)];unfold cB aQ;rw [Ff];refine bj fun j hj=>?_;obtain ⟨a,b,c,ha,hb,hc,rfl⟩:=zdZ hj;by_cases h:a=x/\b=y
 ·obtain ⟨rfl,rfl⟩:=h;rw [if_pos ⟨by omega,by omega⟩,show a*320+b*64+c - (a*320+b*64)=c by omega,j8 m _ _ _ hp hq hc,j8 (l.set _ _) _ _ _ ha hb hc]
  congr 2
  unfold gd;simp [List.getD,hl,show a+5*b < 25 by omega]
 ·rw [if_neg (by omega),j8 l _ _ _ ha hb hc,j8 (l.set _ _) _ _ _ ha hb hc]
  congr 2
  unfold gd;have:¬x+5*y=a+5*b:=by omega
  simp [List.getD,List.getElem?_set,this]
theorem Xu {fr:Fr}{h:O}{R:Option (cL × Fr × O)}(l:List ac)(b:List J)(x:Nat)(hx5:x < 5)
  (hF:run ah (V h) (.loop eY) fr (hx h [b,cB (aQ (Uz l (5*x)))] [])=R)
  (h1:fr 1=.vptr (cB (aQ l)) 0) (h3:fr 3=pA h.blks.length 1 0) (h4:fr 4=Ii x) (h5:fr 5=Ii 0):
  ∃ fr',R=some (.exit 2,fr',hx h [b,cB (aQ (Uz l (5*(x+1))))] [])/\∀ t,t∉wr eY->fr' t=fr t:=by
 obtain ⟨e,fr',h',rfl,⟨rfl,rfl⟩,hk⟩:=af hF 5
  (fun k fr hh=>fr 5=Ii k/\hh=hx h [b,cB (aQ (Uz l (5*x+k)))] [])
  (fun e fr hh=>e=.exit 2/\hh=hx h [b,cB (aQ (Uz l (5*(x+1))))] [])
  ⟨h5,rfl⟩ (by
   rintro k fr1 hh hkN hkeep ⟨g5,rfl⟩;have g1:=kp hkeep h1;have g3:=kp hkeep h3;have g4:=kp hkeep h4;by_cases hlt:k < 5
   ·have w1:Wr ((k:Int)+1)=k+1:=wz;have w6:IntKind.i64.wrap (2*(x:Int))=((2*x:Nat):Int):=by
     rw [<- eK (2*x) (by omega)];simp only [Int.natCast_mul,Int.natCast_add,Int.cast_ofNat_Int]
    have w7:IntKind.i64.wrap (3*(k:Int))=((3*k:Nat):Int):=by
     rw [<- eK (3*k) (by omega)];simp only [Int.natCast_mul,Int.natCast_add,Int.cast_ofNat_Int]
    have w8:IntKind.i64.wrap (((2*x:Nat):Int)+((3*k:Nat):Int))=((2*x+3*k:Nat):Int):=by
     rw [<- eK (2*x+3*k) (by omega)];simp only [Int.natCast_mul,Int.natCast_add,Int.cast_ofNat_Int]
    have w9:=u7 (2*x+3*k);have hst:Uz l (5*x+k+1)=(Uz l (5*x+k)).set (k+5*((2*x+3*k) % 5)) (gd l 0#64 (x+5*k)):=by
     rw [Uz,show (5*x+k) % 5=k by omega,show (5*x+k) / 5=x by omega]
    have hn5:(2*x+3*k) % 5 < 5:=by omega
    have hbl:=QG (Uz l (5*x+k)) l (ZO _ _) k ((2*x+3*k) % 5) x k hlt hn5 hx5 hlt;rw [<- hst] at hbl;generalize 3*k=k3,2*x=x2,2*x+3*k=xy,(2*x+3*k) % 5=n at*;have hi1:x*320+k*64+64<=1600:=by omega
    have hi2:k*320+n*64+64<=1600:=by omega
    generalize Uz l (5*x+k)=m at*;have hmin:min 64 (1600 - (x*320+k*64))=64:=by omega
    have hm1:5*x+(k+1)=5*x+k+1:=rfl;simp [eY,V,g5,g1,g3,g4,hlt,show (k:Int) < 5 by omega,w1,w6,w7,w8,w9,bC,eR,lI,hx5,hn5,hmin,Vm,hi1,hi2,aq,hbl,hm1]
   ·have:k=5:=by omega
    subst this;simp [eY,g5,Nat.mul_add])
 exact ⟨fr',rfl,hk⟩
theorem zjg {fr:Fr}{h:O}{R:Option (cL × Fr × O)}(l:List ac)(b:List J)
  (hF:run ah (V h) (.loop gG) fr (hx h [b,cB (aQ (Uz l 0))] [])=R)
  (h1:fr 1=.vptr (cB (aQ l)) 0) (h3:fr 3=pA h.blks.length 1 0) (h4:fr 4=Ii 0):
  ∃ fr',R=some (.exit 0,fr',hx h [b,cB (aQ (piL l))] [])/\∀ t,t∉wr gG->fr' t=fr t:=by
 obtain ⟨e,fr',h',rfl,⟨rfl,rfl⟩,hk⟩:=af hF 5
  (fun k fr hh=>fr 4=Ii k/\hh=hx h [b,cB (aQ (Uz l (5*k)))] [])
  (fun e fr hh=>e=.exit 0/\hh=hx h [b,cB (aQ (piL l))] [])
  ⟨h4,rfl⟩ (by
   rintro k fr1 hh hkN hkeep ⟨g4,rfl⟩;have g3:=kp hkeep h3;have g1:=kp hkeep h1;by_cases hlt:k < 5
   ·have w1:Wr ((k:Int)+1)=k+1:=wz;simp [gG,g4,g3,g1,hlt,show (k:Int) < 5 by omega];generalize hF:run ah _ (.loop _) _ _=R;obtain ⟨fr2,rfl,q2⟩:=Xu l b k hlt hF (by simp [g1]) (by simp [g3]) (by simp [g4]) (by simp);simp [q2,wr,eY,bn,g4,w1];exact hlt
   ·have:k=5:=by omega
    subst this;simp [gG,g4,piL])
 exact ⟨fr',rfl,hk⟩
theorem zmY (L:az)(h:O)(l:List ac):aa ah L oC [.agg (cB (aQ l))] h=some (.agg (cB (aQ (piL l))),h):=by
 rw [Gx];have e0:aQ (tab 25 fun _=>0#64)=aQ (Uz l 0):=rfl;simp [sZ,V,DK,QE,e0,Z,ak,aq,ab];generalize hF:run ah _ (.loop _) _ _=R;obtain ⟨fr1,rfl,hk1⟩:=zjg l _ hF (by simp) (by simp) (by simp);simp [hk1,wr,eY,gG,bn,Z,aq,ab]
theorem UF (v:ac)(r c:Nat)(hc:c < 64):(rotl v r).getLsbD c=v.getLsbD ((c+64 - r % 64) % 64):=by
 unfold rotl;have hs:r % 64 < 64:=by omega
 generalize r % 64=s at*;rw [BitVec.getLsbD_or,BitVec.getLsbD_shiftLeft,BitVec.getLsbD_ushiftRight];by_cases h:c < s
 ·simp [h,show 64 - s+c=c+64 - s by omega,Nat.mod_eq_of_lt (show c+64 - s < 64 by omega)]
 ·have e1:(c+64 - s) % 64=c - s:=by omega
  have e2:v.getLsbD (64 - s+c)=false:=BitVec.getLsbD_of_ge _ _ (by omega);simp [h,e1,e2,hc]
def M9 (l:List ac):Nat->List ac
 | 0=>(tab 25 fun _=>0#64).set 0 (gd l 0#64 0)
 | t+1=>(M9 l t).set ((AD t).1+5*(AD t).2) (rotl (gd l 0#64 ((AD t).1+5*(AD t).2)) ((t+1)*(t+2) / 2))
def ze6 (l:List ac):List ac:=M9 l 24
@[simp] theorem ze8 (l:List ac):∀ k,(M9 l k).length=25
 | 0=>by simp [M9]
 | k+1=>by simp [M9,ze8 l k]
def K3 (m:List ac)(v:ac)(x y r k:Nat):List Bool:=tab 1600 fun j=>if j / 64=x*5+y/\(j % 64+64 - r % 64) % 64 < k then v.getLsbD ((j % 64+64 - r % 64) % 64) else du m j
@[simp] theorem zpj (m:List ac)(v:ac)(x y r k:Nat):(K3 m v x y r k).length=1600:=by simp [K3]
theorem XB (m:List ac)(v:ac)(x y r:Nat):K3 m v x y r 0=aQ m:=bj fun j hj=>by simp
theorem zbV (m : List ac)(hm : m.length = 25)(v : ac)(x y r : Nat)(hx : x < 5)(hy : y < 5) : K3 m v x y r 64 = aQ (m.set (x + 5 * y) (rotl v r)) := bj fun j hj => by
 obtain ⟨a,b,c,ha,hb,hc,rfl⟩:=zdZ hj;rw [show (a*320+b*64+c) / 64=a*5+b by omega,show (a*320+b*64+c) % 64=c by omega,j8 _ _ _ _ ha hb hc,j8 _ _ _ _ ha hb hc];by_cases h:a=x/\b=y
 ·obtain ⟨rfl,rfl⟩:=h;rw [if_pos ⟨rfl,Nat.mod_lt _ (by decide)⟩];have:gd (m.set (a+5*b) (rotl v r)) 0#64 (a+5*b)=rotl v r:=by
   unfold gd;simp [List.getD,hm,show a+5*b < 25 by omega]
  rw [this,UF _ _ _ hc]
 ·rw [if_neg (by omega)]
  congr 1
  unfold gd;have:¬x+5*y=a+5*b:=by omega
  simp [List.getD,List.getElem?_set,this]
theorem zbW (m:List ac)(v:ac)(x y r z:Nat)(hx:x < 5)(hy:y < 5)(hz:z < 64):(K3 m v x y r z).set (x*320+y*64+(z+r) % 64) (v.getLsbD z)=K3 m v x y r (z+1):=by
 unfold K3;rw [vq];refine bj fun j hj=>?_;obtain ⟨a,b,c,ha,hb,hc,rfl⟩:=zdZ hj;rw [show (a*320+b*64+c) / 64=a*5+b by omega,show (a*320+b*64+c) % 64=c by omega];have hq:(z+r) % 64=(z+r % 64) % 64:=by omega
 rw [hq];have hs:r % 64 < 64:=by omega
 generalize r % 64=s at*;by_cases h:a*320+b*64+c=x*320+y*64+(z+s) % 64
 ·have e1:(c+64 - s) % 64=z:=by omega
  rw [if_pos h,e1,if_pos ⟨by omega,by omega⟩]
 ·rw [if_neg h];by_cases h2:a*5+b=x*5+y/\(c+64 - s) % 64 < z
  ·rw [if_pos h2,if_pos ⟨h2.1,by omega⟩]
  ·rw [if_neg h2,if_neg (by omega)]
theorem UH {fr:Fr}{h:O}{R:Option (cL × Fr × O)}(l m:List ac)(b:List J)(x y t:Nat)(hx5:x < 5)(hy5:y < 5)(ht:t < 24)(v:ac)(hv:v=gd l 0#64 (x+5*y))(r:Nat)(hr:r=(t+1)*(t+2) / 2)
  (hF:run ah (V h) (.loop ed) fr (hx h [b,cB (aQ m)] [])=R) (hm:m.length=25)
  (h1:fr 1=.vptr (cB (aQ l)) 0) (h3:fr 3=pA h.blks.length 1 0) (h4:fr 4=Ii x) (h5:fr 5=Ii y) (h6:fr 6=Ii t) (h7:fr 7=Ii 0):
  ∃ fr',R=some (.exit 2,fr',hx h [b,cB (aQ (m.set (x+5*y) (rotl v r)))] [])/\∀ t,t∉wr ed->fr' t=fr t:=by
 have hmul:(t+1)*(t+2)<=600:=Nat.le_trans (Nat.mul_le_mul (show t+1<=24 by omega) (show t+2<=25 by omega)) (by decide);obtain ⟨e,fr',h',rfl,⟨rfl,rfl⟩,hk⟩:=af hF 64
  (fun k fr hh=>fr 7=Ii k/\hh=hx h [b,cB (K3 m v x y r k)] [])
  (fun e fr hh=>e=.exit 2/\hh=hx h [b,cB (aQ (m.set (x+5*y) (rotl v r)))] [])
  ⟨h7, by rw [XB]⟩ (by
   rintro k fr1 hh hkN hkeep ⟨g7,rfl⟩;have g1:=kp hkeep h1;have g3:=kp hkeep h3;have g4:=kp hkeep h4;have g5:=kp hkeep h5;have g6:=kp hkeep h6;by_cases hlt:k < 64
   ·have w0:Wr ((k:Int)+1)=k+1:=wz;have w1:Wr ((t:Int)+1)=t+1:=wz;have w2:Wr ((t:Int)+2)=t+2:=wz;have w3:IntKind.i64.wrap (((t:Int)+1)*(t+2))=(((t+1)*(t+2):Nat):Int):=by
     rw [<- eK ((t+1)*(t+2)) (by omega)];simp only [Int.natCast_mul,Int.natCast_add,Int.cast_ofNat_Int]
    have w4:=VS ((t+1)*(t+2));rw [<- hr] at w4;have hr300:r<=300:=by omega
    have w5:=eK r (by omega);have w6:IntKind.i64.wrap ((k:Int)+(r:Int))=((k+r:Nat):Int):=by
     rw [<- eK (k+r) (by omega)];simp only [Int.natCast_mul,Int.natCast_add,Int.cast_ofNat_Int]
    have w7:((k+r:Nat):Int).tmod 64=(((k+r) % 64:Nat):Int):=sv (k+r) 64;have hq64:(k+r) % 64 < 64:=Nat.mod_lt _ (by decide);have hset:=zbW m v x y r k hx5 hy5 hlt;have hb:=OP l x y k hx5 hy5 hlt;rw [<- hv] at hb;generalize (t+1)*(t+2)=tt,k+r=kr,(k+r) % 64=q at*;have hi1:x*320+y*64+k < 1600:=by omega
    have hi2:x*320+y*64+q+1<=1600:=by omega
    simp [-BitVec.getLsbD_eq_getElem,ed,V,g7,g1,g3,g4,g5,g6,hlt,show (k:Int) < 64 by omega,w0,w1,w2,w3,w4,w5,w6,w7,bC,da,eR,lI,hx5,hy5,hq64,hi1,hi2,hb,hset]
   ·have:k=64:=by omega
    subst this;simp [ed,g7,zbV m hm v x y r hx5 hy5])
 exact ⟨fr',rfl,hk⟩
theorem zfb {fr:Fr}{h:O}{R:Option (cL × Fr × O)}(l:List ac)(b:List J)
  (hF:run ah (V h) (.loop fL) fr (hx h [b,cB (aQ (M9 l 0))] [])=R)
  (h1:fr 1=.vptr (cB (aQ l)) 0) (h3:fr 3=pA h.blks.length 1 0) (h4:fr 4=Ii 1) (h5:fr 5=Ii 0) (h6:fr 6=Ii 0):
  ∃ fr',R=some (.exit 0,fr',hx h [b,cB (aQ (ze6 l))] [])/\∀ t,t∉wr fL->fr' t=fr t:=by
 obtain ⟨e,fr',h',rfl,⟨rfl,rfl⟩,hk⟩:=af hF 24
  (fun k fr hh=>fr 6=Ii k/\fr 4=Ii ((AD k).1:Nat)/\fr 5=Ii ((AD k).2:Nat)/\hh=hx h [b,cB (aQ (M9 l k))] [])
  (fun e fr hh=>e=.exit 0/\hh=hx h [b,cB (aQ (ze6 l))] [])
  ⟨h6,h4,h5,rfl⟩ (by
   rintro k fr1 hh hkN hkeep ⟨g6,g4,g5,rfl⟩;have g1:=kp hkeep h1;have g3:=kp hkeep h3;by_cases hlt:k < 24
   ·obtain ⟨hx5,hy5⟩:=Zb k;have hst:M9 l (k+1)=(M9 l k).set ((AD k).1+5*(AD k).2) (rotl (gd l 0#64 ((AD k).1+5*(AD k).2)) ((k+1)*(k+2) / 2)):=rfl;have hp:AD (k+1)=((AD k).2,(2*(AD k).1+3*(AD k).2) % 5):=rfl;generalize (AD k).2=y,(AD k).1=x at*;have w1:Wr ((k:Int)+1)=k+1:=wz;have w6:IntKind.i64.wrap (2*(x:Int))=((2*x:Nat):Int):=by
     rw [<- eK (2*x) (by omega)];simp only [Int.natCast_mul,Int.natCast_add,Int.cast_ofNat_Int]
    have w7:IntKind.i64.wrap (3*(y:Int))=((3*y:Nat):Int):=by
     rw [<- eK (3*y) (by omega)];simp only [Int.natCast_mul,Int.natCast_add,Int.cast_ofNat_Int]
    have w8:IntKind.i64.wrap (((2*x:Nat):Int)+((3*y:Nat):Int))=((2*x+3*y:Nat):Int):=by
     rw [<- eK (2*x+3*y) (by omega)];simp only [Int.natCast_mul,Int.natCast_add,Int.cast_ofNat_Int]
    have w9:=u7 (2*x+3*y);generalize 3*y=y3,2*x=x2,2*x+3*y=xy,(2*x+3*y) % 5=n at*;simp [fL,g6,g3,g1,g4,g5,hlt,show (k:Int) < 24 by omega];generalize hF:run ah _ (.loop _) _ _=R;obtain ⟨fr2,rfl,q2⟩:=UH l (M9 l k) b x y k hx5 hy5 hlt _ rfl _ rfl hF (by simp) (by simp [g1]) (by simp [g3]) (by simp [g4]) (by simp [g5]) (by simp [g6]) (by simp);simp [q2,wr,ed,bn,g6,g4,g5,w1,w6,w7,w8,w9,bC,<- hst,hp];exact hlt
   ·have:k=24:=by omega
    subst this;simp [fL,g6,ze6])
 exact ⟨fr',rfl,hk⟩
theorem zjj (L:az)(h:O)(l:List ac):aa ah L nl [.agg (cB (aQ l))] h=some (.agg (cB (aQ (ze6 l))),h):=by
 rw [E3];have e0:=QG (tab 25 fun _=>0#64) l (by simp) 0 0 0 0 (by decide) (by decide) (by decide) (by decide);have e1:aQ ((tab 25 fun _=>0#64).set (0+5*0) (gd l 0#64 (0+5*0)))=aQ (M9 l 0):=rfl;rw [e1] at e0;simp only [Nat.zero_mul,Nat.add_zero,List.drop_zero] at e0;simp [rq,V,DK,QE,Z,ak,aq,ab,Vm,e0];generalize hF:run ah _ (.loop _) _ _=R;obtain ⟨fr1,rfl,hk1⟩:=zfb l _ hF (by simp) (by simp) (by simp) (by simp) (by simp);simp [hk1,wr,ed,fL,bn,Z,aq,ab]
theorem zjt (l:List ac)(x y z:Nat)(hx5:x < 5)(hy5:y < 5)(hz:z < 64):du (rV l) (x*320+y*64+z)=
  (du l (x*320+y*64+z) ^^ (!du l ((x+1) % 5*320+y*64+z)&&du l ((x+2) % 5*320+y*64+z))):=by
 rw [j8 _ _ _ _ hx5 hy5 hz,j8 _ _ _ _ hx5 hy5 hz,j8 _ _ _ _ (by omega) hy5 hz,j8 _ _ _ _ (by omega) hy5 hz];unfold rV;rw [dY (by omega),Zf];rw [show x+5*y - (x+5*y) % 5+(x+5*y+2) % 5=(x+2) % 5+5*y by omega,show x+5*y - (x+5*y) % 5+(x+5*y+1) % 5=(x+1) % 5+5*y by omega];simp [hz,Bool.and_comm]
theorem XH {fr:Fr}{h:O}{R:Option (cL × Fr × O)}(l:List ac)(b:List J)(x y:Nat)(hx5:x < 5)(hy5:y < 5)
  (hF:run ah (V h) (.loop dm) fr (hx h [b,cB (cY 1600 (du (rV l)) (fun _=>false) (x*320+y*64))] [])=R)
  (h1:fr 1=.vptr (cB (aQ l)) 0) (h3:fr 3=pA h.blks.length 1 0) (h4:fr 4=Ii x) (h5:fr 5=Ii y) (h6:fr 6=Ii 0):
  ∃ fr',R=some (.exit 4,fr',hx h [b,cB (cY 1600 (du (rV l)) (fun _=>false) (x*320+(y+1)*64))] [])/\∀ t,t∉wr dm->fr' t=fr t:=by
 obtain ⟨e,fr',h',rfl,⟨rfl,rfl⟩,hk⟩:=af hF 64
  (fun k fr hh=>fr 6=Ii k/\hh=hx h [b,cB (cY 1600 (du (rV l)) (fun _=>false) (x*320+y*64+k))] [])
  (fun e fr hh=>e=.exit 4/\hh=hx h [b,cB (cY 1600 (du (rV l)) (fun _=>false) (x*320+(y+1)*64))] [])
  ⟨h6,rfl⟩ (by
   rintro k fr1 hh hkN hkeep ⟨g6,rfl⟩;have g1:=kp hkeep h1;have g3:=kp hkeep h3;have g4:=kp hkeep h4;have g5:=kp hkeep h5;by_cases hlt:k < 64
   ·have w0:Wr ((k:Int)+1)=k+1:=wz;have w1:Wr ((x:Int)+1)=((x+1:Nat):Int):=wy;have w2:Wr ((x:Int)+2)=((x+2:Nat):Int):=wy;have t1:=u7 (x+1);have t2:=u7 (x+2);have hset:=nz 1600 (du (rV l)) (fun _=>false) (x*320+y*64+k);rw [zjt l x y k hx5 hy5 hlt] at hset;have b0:gd (aQ l) false (x*320+y*64+k)=du l (x*320+y*64+k):=dY (by omega);have ha5:(x+1) % 5 < 5:=by omega
    have hc5:(x+2) % 5 < 5:=by omega
    have b1:gd (aQ l) false ((x+1) % 5*320+y*64+k)=du l ((x+1) % 5*320+y*64+k):=dY (by omega);have b2:gd (aQ l) false ((x+2) % 5*320+y*64+k)=du l ((x+2) % 5*320+y*64+k):=dY (by omega);generalize x+2=x2,x+1=x1,(x+2) % 5=c,(x+1) % 5=a at*;have hi0:x*320+y*64+k < 1600:=by omega
    have hi1:a*320+y*64+k < 1600:=by omega
    have hi2:c*320+y*64+k < 1600:=by omega
    have hi3:x*320+y*64+k+1<=1600:=by omega
    have hass:x*320+y*64+(k+1)=x*320+y*64+k+1:=rfl;generalize hM1:cY 1600 (du (rV l)) (fun _=>false) (x*320+y*64+k+1)=M1 at*;have hML:=DH 1600 (du (rV l)) (fun _=>false) (x*320+y*64+k);generalize cY 1600 (du (rV l)) (fun _=>false) (x*320+y*64+k)=M0 at*
    cases hb0:du l (x*320+y*64+k) <;> cases hb1:du l (a*320+y*64+k) <;> cases hb2:du l (c*320+y*64+k)
    all_goals
     rw [hb0] at b0 hset;rw [hb1] at b1 hset;rw [hb2] at b2 hset;simp at hset;simp [dm,V,g6,g1,g3,g4,g5,hlt,show (k:Int) < 64 by omega,w0,w1,w2,t1,t2,bC,eR,lI,hx5,hy5,ha5,hc5,hi0,hi1,hi2,hi3,b0,b1,b2,hset,hass,hML];rw [hM1]
   ·have:k=64:=by omega
    subst this;have e0:x*320+y*64+64=x*320+(y+1)*64:=by omega
    simp [dm,g6,e0])
 exact ⟨fr',rfl,hk⟩
theorem XI {fr:Fr}{h:O}{R:Option (cL × Fr × O)}(l:List ac)(b:List J)(x:Nat)(hx5:x < 5)
  (hF:run ah (V h) (.loop ec) fr (hx h [b,cB (cY 1600 (du (rV l)) (fun _=>false) (x*320))] [])=R)
  (h1:fr 1=.vptr (cB (aQ l)) 0) (h3:fr 3=pA h.blks.length 1 0) (h4:fr 4=Ii x) (h5:fr 5=Ii 0):
  ∃ fr',R=some (.exit 2,fr',hx h [b,cB (cY 1600 (du (rV l)) (fun _=>false) ((x+1)*320))] [])/\∀ t,t∉wr ec->fr' t=fr t:=by
 obtain ⟨e,fr',h',rfl,⟨rfl,rfl⟩,hk⟩:=af hF 5
  (fun k fr hh=>fr 5=Ii k/\hh=hx h [b,cB (cY 1600 (du (rV l)) (fun _=>false) (x*320+k*64))] [])
  (fun e fr hh=>e=.exit 2/\hh=hx h [b,cB (cY 1600 (du (rV l)) (fun _=>false) ((x+1)*320))] [])
  ⟨h5, by simp⟩ (by
   rintro k fr1 hh hkN hkeep ⟨g5,rfl⟩;have g1:=kp hkeep h1;have g3:=kp hkeep h3;have g4:=kp hkeep h4;by_cases hlt:k < 5
   ·have w0:Wr ((k:Int)+1)=k+1:=wz;simp [ec,g1,g3,g4,g5,hlt,show (k:Int) < 5 by omega];generalize hF:run ah _ (.loop _) _ _=R;obtain ⟨fr2,rfl,q2⟩:=XH l b x k hx5 hlt hF (by simp [g1]) (by simp [g3]) (by simp [g4]) (by simp [g5]) (by simp);simp [q2,wr,dm,bn,g5,w0];exact hlt
   ·have:k=5:=by omega
    subst this;have e0:x*320+5*64=(x+1)*320:=by omega
    simp [ec,g5];rw [show x*320+320=(x+1)*320 by omega])
 exact ⟨fr',rfl,hk⟩
theorem XG {fr:Fr}{h:O}{R:Option (cL × Fr × O)}(l:List ac)(b:List J)
  (hF:run ah (V h) (.loop fK) fr (hx h [b,cB (tab 1600 fun _=>false)] [])=R)
  (h1:fr 1=.vptr (cB (aQ l)) 0) (h3:fr 3=pA h.blks.length 1 0) (h4:fr 4=Ii 0):
  ∃ fr',R=some (.exit 0,fr',hx h [b,cB (aQ (rV l))] [])/\∀ t,t∉wr fK->fr' t=fr t:=by
 obtain ⟨e,fr',h',rfl,⟨rfl,rfl⟩,hk⟩:=af hF 5
  (fun k fr hh=>fr 4=Ii k/\hh=hx h [b,cB (cY 1600 (du (rV l)) (fun _=>false) (k*320))] [])
  (fun e fr hh=>e=.exit 0/\hh=hx h [b,cB (aQ (rV l))] [])
  ⟨h4, by simp [kT]⟩ (by
   rintro k fr1 hh hkN hkeep ⟨g4,rfl⟩;have g1:=kp hkeep h1;have g3:=kp hkeep h3;by_cases hlt:k < 5
   ·have w0:Wr ((k:Int)+1)=k+1:=wz;simp [fK,g1,g3,g4,hlt,show (k:Int) < 5 by omega];generalize hF:run ah _ (.loop _) _ _=R;obtain ⟨fr2,rfl,q2⟩:=XI l b k hlt hF (by simp [g1]) (by simp [g3]) (by simp [g4]) (by simp);simp [q2,wr,dm,ec,bn,g4,w0];exact hlt
   ·have:k=5:=by omega
    subst this;simp [fK,g4,tK,aQ])
 exact ⟨fr',rfl,hk⟩
theorem zjw (L:az)(h:O)(l:List ac):aa ah L nk [.agg (cB (aQ l))] h=some (.agg (cB (aQ (rV l))),h):=by
 rw [E2];simp [rp,V,DK,Z,ak,aq,ab];generalize hF:run ah _ (.loop _) _ _=R;obtain ⟨fr1,rfl,hk1⟩:=XG l _ hF (by simp) (by simp) (by simp);simp [hk1,wr,dm,ec,fK,bn,Z,aq,ab]
def yL (l:List ac)(x z:Nat):Nat->Nat
 | 0=>0
 | k+1=>yL l x z k+(if (gd l 0#64 (x+5*k)).getLsbD z then 1 else 0)
theorem ZX (l:List ac)(x z:Nat):∀ k,yL l x z k<=k
 | 0=>by simp [yL]
 | k+1=>by have:=ZX l x z k;simp only [yL];split <;> omega
theorem zfi (l:List ac)(x z:Nat)(hx5:x < 5):(yL l x z 5 % 2==1)=(F2 l x).getLsbD z:=by
 unfold F2;simp only [yL,BitVec.getLsbD_xor,Nat.mul_zero,Nat.add_zero,Nat.mul_one,show 5*2=10 from rfl,show 5*3=15 from rfl,show 5*4=20 from rfl]
 cases (gd l 0#64 x).getLsbD z <;> cases (gd l 0#64 (x+5)).getLsbD z <;> cases (gd l 0#64 (x+10)).getLsbD z <;> cases (gd l 0#64 (x+15)).getLsbD z <;> cases (gd l 0#64 (x+20)).getLsbD z <;> rfl
theorem zb6 {fr:Fr}{h:O}{R:Option (cL × Fr × O)}(l:List ac)(H:O)(x z:Nat)(hx5:x < 5)(hz:z < 64)
  (hF:run ah (V h) (.loop aT) fr H=R)
  (h1:fr 1=.vptr (cB (aQ l)) 0) (h4:fr 4=Ii x) (h5:fr 5=Ii z) (h6:fr 6=Ii 0) (h7:fr 7=Ii 0):
  ∃ fr',R=some (.exit 4,fr',H)/\fr' 6=Ii (yL l x z 5:Nat)/\∀ t,t∉wr aT->fr' t=fr t:=by
 obtain ⟨e,fr',h',rfl,⟨rfl,rfl,h6'⟩,hk⟩:=af hF 5
  (fun k fr hh=>fr 7=Ii k/\fr 6=Ii (yL l x z k:Nat)/\hh=H)
  (fun e fr hh=>e=.exit 4/\hh=H/\fr 6=Ii (yL l x z 5:Nat))
  ⟨h7,h6,rfl⟩ (by
   rintro k fr1 hh hkN hkeep ⟨g7,g6,rfl⟩;have g1:=kp hkeep h1;have g4:=kp hkeep h4;have g5:=kp hkeep h5;by_cases hlt:k < 5
   ·have w0:Wr ((k:Int)+1)=k+1:=wz;have hc:=ZX l x z k;have hs:yL l x z (k+1)=yL l x z k+(if (gd l 0#64 (x+5*k)).getLsbD z then 1 else 0):=rfl;have hb:=OP l x k z hx5 hlt hz;have hi:x*320+k*64+z < 1600:=by omega
    generalize hc1:yL l x z (k+1)=c1 at*;generalize yL l x z k=c at*;have w1:Wr ((c:Int)+1)=((c+1:Nat):Int):=wy
    cases hv:(gd l 0#64 (x+5*k)).getLsbD z
    ·rw [hv] at hb hs;simp at hs;subst hs;simp [aT,g1,g4,g5,g6,g7,hlt,show (k:Int) < 5 by omega,w0,lI,hx5,hz,hi,hb,hc1]
    ·rw [hv] at hb hs;simp at hs;subst hs;simp [aT,g1,g4,g5,g6,g7,hlt,show (k:Int) < 5 by omega,w0,w1,lI,hx5,hz,hi,hb,hc1]
   ·have:k=5:=by omega
    subst this;simp [aT,g7,g6])
 exact ⟨fr',rfl,h6',hk⟩
def oR (l:List ac)(j:Nat):Bool:=(F2 l (j / 64)).getLsbD (j % 64)
theorem zb7 {fr:Fr}{h:O}{R:Option (cL × Fr × O)}(l:List ac)(b:List J)(x:Nat)(hx5:x < 5)
  (hF:run ah (V h) (.loop bu) fr (hx h [b,cB (cY 320 (oR l) (fun _=>false) (x*64))] [])=R)
  (h1:fr 1=.vptr (cB (aQ l)) 0) (h3:fr 3=pA h.blks.length 1 0) (h4:fr 4=Ii x) (h5:fr 5=Ii 0):
  ∃ fr',R=some (.exit 2,fr',hx h [b,cB (cY 320 (oR l) (fun _=>false) ((x+1)*64))] [])/\∀ t,t∉wr bu->fr' t=fr t:=by
 obtain ⟨e,fr',h',rfl,⟨rfl,rfl⟩,hk⟩:=af hF 64
  (fun k fr hh=>fr 5=Ii k/\hh=hx h [b,cB (cY 320 (oR l) (fun _=>false) (x*64+k))] [])
  (fun e fr hh=>e=.exit 2/\hh=hx h [b,cB (cY 320 (oR l) (fun _=>false) ((x+1)*64))] [])
  ⟨h5, by simp⟩ (by
   rintro k fr1 hh hkN hkeep ⟨g5,rfl⟩;have g1:=kp hkeep h1;have g3:=kp hkeep h3;have g4:=kp hkeep h4;by_cases hlt:k < 64
   ·have w0:Wr ((k:Int)+1)=k+1:=wz;simp [bu,g1,g3,g4,g5,hlt,show (k:Int) < 64 by omega];generalize hF:run ah _ (.loop _) _ _=R;obtain ⟨fr2,rfl,q1,q2⟩:=zb6 l _ x k hx5 hlt hF (by simp [g1]) (by simp [g4]) (by simp [g5]) (by simp) (by simp);have hset:=nz 320 (oR l) (fun _=>false) (x*64+k);have hp:oR l (x*64+k)=(yL l x k 5 % 2==1):=by
     rw [zfi l x k hx5];unfold oR;rw [show (x*64+k) / 64=x by omega,show (x*64+k) % 64=k by omega]
    rw [hp] at hset;have ht:(((yL l x k 5:Nat):Int)).tmod 2=((yL l x k 5 % 2:Nat):Int):=sv _ 2;have hq:(((yL l x k 5 % 2:Nat):Int)==1)=(yL l x k 5 % 2==1):=by
     rw [Bool.eq_iff_iff];simp only [beq_iff_eq];omega
    generalize (yL l x k 5 % 2==1)=v at*;generalize yL l x k 5=c,yL l x k 5 % 2=c2 at*;have hass:x*64+(k+1)=x*64+k+1:=rfl;have hi:x*64+k+1<=320:=by omega
    simp [q1,q2,wr,aT,bn,g3,g4,g5,w0,bC,ht,hq,eR,hx5,hlt,V,hset,hass,hi]
   ·have:k=64:=by omega
    subst this;have e0:x*64+64=(x+1)*64:=by omega
    simp [bu,g5,e0])
 exact ⟨fr',rfl,hk⟩
theorem zb8 {fr:Fr}{h:O}{R:Option (cL × Fr × O)}(l:List ac)(b:List J)
  (hF:run ah (V h) (.loop bL) fr (hx h [b,cB (tab 320 fun _=>false)] [])=R)
  (h1:fr 1=.vptr (cB (aQ l)) 0) (h3:fr 3=pA h.blks.length 1 0) (h4:fr 4=Ii 0):
  ∃ fr',R=some (.exit 0,fr',hx h [b,cB (tab 320 (oR l))] [])/\∀ t,t∉wr bL->fr' t=fr t:=by
 obtain ⟨e,fr',h',rfl,⟨rfl,rfl⟩,hk⟩:=af hF 5
  (fun k fr hh=>fr 4=Ii k/\hh=hx h [b,cB (cY 320 (oR l) (fun _=>false) (k*64))] [])
  (fun e fr hh=>e=.exit 0/\hh=hx h [b,cB (tab 320 (oR l))] [])
  ⟨h4, by simp [kT]⟩ (by
   rintro k fr1 hh hkN hkeep ⟨g4,rfl⟩;have g1:=kp hkeep h1;have g3:=kp hkeep h3;by_cases hlt:k < 5
   ·have w0:Wr ((k:Int)+1)=k+1:=wz;simp [bL,g1,g3,g4,hlt,show (k:Int) < 5 by omega];generalize hF:run ah _ (.loop _) _ _=R;obtain ⟨fr2,rfl,q2⟩:=zb7 l b k hlt hF (by simp [g1]) (by simp [g3]) (by simp [g4]) (by simp);simp [q2,wr,aT,bu,bn,g4,w0];exact hlt
   ·have:k=5:=by omega
    subst this;simp [bL,g4,tK])
 exact ⟨fr',rfl,hk⟩
theorem zcf (l:List ac)(x y z:Nat)(hx5:x < 5)(hy5:y < 5)(hz:z < 64):du (fJ l) (x*320+y*64+z)=
  (du l (x*320+y*64+z) ^^ (oR l ((x+4) % 5*64+z) ^^ oR l ((x+1) % 5*64+(z+63) % 64))):=by
 rw [j8 _ _ _ _ hx5 hy5 hz,j8 _ _ _ _ hx5 hy5 hz];unfold fJ;rw [dY (by omega),En];have h4:(x+4) % 5 < 5:=by omega
 have h1:(x+1) % 5 < 5:=by omega
 have hz2:(z+63) % 64 < 64:=by omega
 rw [show ((x+5*y) % 5+4) % 5=(x+4) % 5 by omega,show ((x+5*y) % 5+1) % 5=(x+1) % 5 by omega];unfold oR;generalize (x+1) % 5=c,(x+4) % 5=a at*;rw [show (a*64+z) / 64=a by omega,show (a*64+z) % 64=z by omega];rw [BitVec.getLsbD_xor,BitVec.getLsbD_xor,UF _ _ _ hz,show (z+64 - 1 % 64) % 64=(z+63) % 64 by omega];generalize (z+63) % 64=z2 at*;rw [show (c*64+z2) / 64=c by omega,show (c*64+z2) % 64=z2 by omega]
theorem zng (k:Nat):(k:Int).tmod 64=((k % 64:Nat):Int):=sv k 64
theorem zcg {fr:Fr}{h:O}{R:Option (cL × Fr × O)}(l:List ac)(b:List J)(x y:Nat)(hx5:x < 5)(hy5:y < 5)
  (hF:run ah (V h) (.loop b7) fr (hx h [b,cB (tab 320 (oR l)),cB (cY 1600 (du (fJ l)) (fun _=>false) (x*320+y*64))] [])=R)
  (h1:fr 1=.vptr (cB (aQ l)) 0) (h3:fr 3=pA h.blks.length 1 0) (h8:fr 8=pA h.blks.length 2 0) (h9:fr 9=Ii x) (h10:fr 10=Ii y) (h11:fr 11=Ii 0):
  ∃ fr',R=some (.exit 10,fr',hx h [b,cB (tab 320 (oR l)),cB (cY 1600 (du (fJ l)) (fun _=>false) (x*320+(y+1)*64))] [])/\∀ t,t∉wr b7->fr' t=fr t:=by
 obtain ⟨e,fr',h',rfl,⟨rfl,rfl⟩,hk⟩:=af hF 64
  (fun k fr hh=>fr 11=Ii k/\hh=hx h [b,cB (tab 320 (oR l)),cB (cY 1600 (du (fJ l)) (fun _=>false) (x*320+y*64+k))] [])
  (fun e fr hh=>e=.exit 10/\hh=hx h [b,cB (tab 320 (oR l)),cB (cY 1600 (du (fJ l)) (fun _=>false) (x*320+(y+1)*64))] [])
  ⟨h11,rfl⟩ (by
   rintro k fr1 hh hkN hkeep ⟨g11,rfl⟩;have g1:=kp hkeep h1;have g3:=kp hkeep h3;have g8:=kp hkeep h8;have g9:=kp hkeep h9;have g10:=kp hkeep h10;by_cases hlt:k < 64
   ·have w0:Wr ((k:Int)+1)=k+1:=wz;have w1:Wr ((x:Int)+1)=((x+1:Nat):Int):=wy;have w4:Wr ((x:Int)+4)=((x+4:Nat):Int):=wy;have w63:Wr ((k:Int)+63)=((k+63:Nat):Int):=wy;have t1:=u7 (x+1);have t4:=u7 (x+4);have t63:=zng (k+63);have hset:=nz 1600 (du (fJ l)) (fun _=>false) (x*320+y*64+k);rw [zcf l x y k hx5 hy5 hlt] at hset;have b0:gd (aQ l) false (x*320+y*64+k)=du l (x*320+y*64+k):=dY (by omega);have ha5:(x+4) % 5 < 5:=by omega
    have hc5:(x+1) % 5 < 5:=by omega
    have hz2:(k+63) % 64 < 64:=by omega
    have b1:gd (tab 320 (oR l)) false ((x+4) % 5*64+k)=oR l ((x+4) % 5*64+k):=dY (by omega);have b2:gd (tab 320 (oR l)) false ((x+1) % 5*64+(k+63) % 64)=oR l ((x+1) % 5*64+(k+63) % 64):=dY (by omega);generalize k+63=k63,x+4=x4,x+1=x1,(k+63) % 64=z2,(x+1) % 5=c,(x+4) % 5=a at*;have hi0:x*320+y*64+k < 1600:=by omega
    have hi1:a*64+k < 320:=by omega
    have hi2:c*64+z2 < 320:=by omega
    have hi3:x*320+y*64+k+1<=1600:=by omega
    have hass:x*320+y*64+(k+1)=x*320+y*64+k+1:=rfl;generalize hM1:cY 1600 (du (fJ l)) (fun _=>false) (x*320+y*64+k+1)=M1 at*;have hML:=DH 1600 (du (fJ l)) (fun _=>false) (x*320+y*64+k);generalize cY 1600 (du (fJ l)) (fun _=>false) (x*320+y*64+k)=M0 at*;have hPL:=AK 320 (oR l);generalize tab 320 (oR l)=P0 at*;have hxor:∀ p q:Bool,(true ^^ (p==q))=(p ^^ q):=by decide
    generalize du l (x*320+y*64+k)=v0 at*;generalize oR l (c*64+z2)=v2,oR l (a*64+k)=v1 at*;simp [b7,V,g11,g1,g3,g8,g9,g10,hlt,show (k:Int) < 64 by omega,w0,w1,w4,w63,t1,t4,t63,bC,eR,lI,hx5,hy5,ha5,hc5,hz2,hi0,hi1,hi2,hi3,b0,b1,b2,hass,hML,hPL]
    have e1:(!(v0==!(v1==v2)))=(v0 ^^ (v1 ^^ v2)):=by cases v0 <;> cases v1 <;> cases v2 <;> rfl
    rw [e1,hset,hM1]
   ·have:k=64:=by omega
    subst this;have e0:x*320+y*64+64=x*320+(y+1)*64:=by omega
    simp [b7,g11,e0])
 exact ⟨fr',rfl,hk⟩
theorem zcd {fr:Fr}{h:O}{R:Option (cL × Fr × O)}(l:List ac)(b:List J)(x:Nat)(hx5:x < 5)
  (hF:run ah (V h) (.loop dq) fr (hx h [b,cB (tab 320 (oR l)),cB (cY 1600 (du (fJ l)) (fun _=>false) (x*320))] [])=R)
  (h1:fr 1=.vptr (cB (aQ l)) 0) (h3:fr 3=pA h.blks.length 1 0) (h8:fr 8=pA h.blks.length 2 0) (h9:fr 9=Ii x) (h10:fr 10=Ii 0):
  ∃ fr',R=some (.exit 8,fr',hx h [b,cB (tab 320 (oR l)),cB (cY 1600 (du (fJ l)) (fun _=>false) ((x+1)*320))] [])/\∀ t,t∉wr dq->fr' t=fr t:=by
 obtain ⟨e,fr',h',rfl,⟨rfl,rfl⟩,hk⟩:=af hF 5
  (fun k fr hh=>fr 10=Ii k/\hh=hx h [b,cB (tab 320 (oR l)),cB (cY 1600 (du (fJ l)) (fun _=>false) (x*320+k*64))] [])
  (fun e fr hh=>e=.exit 8/\hh=hx h [b,cB (tab 320 (oR l)),cB (cY 1600 (du (fJ l)) (fun _=>false) ((x+1)*320))] [])
  ⟨h10, by simp⟩ (by
   rintro k fr1 hh hkN hkeep ⟨g10,rfl⟩;have g1:=kp hkeep h1;have g3:=kp hkeep h3;have g8:=kp hkeep h8;have g9:=kp hkeep h9;by_cases hlt:k < 5
   ·have w0:Wr ((k:Int)+1)=k+1:=wz;simp [dq,g1,g3,g8,g9,g10,hlt,show (k:Int) < 5 by omega];generalize hF:run ah _ (.loop _) _ _=R;obtain ⟨fr2,rfl,q2⟩:=zcg l b x k hx5 hlt hF (by simp [g1]) (by simp [g3]) (by simp [g8]) (by simp [g9]) (by simp [g10]) (by simp);simp [q2,wr,b7,bn,g10,w0];exact hlt
   ·have:k=5:=by omega
    subst this;simp [dq,g10];rw [show x*320+320=(x+1)*320 by omega])
 exact ⟨fr',rfl,hk⟩
theorem zci {fr:Fr}{h:O}{R:Option (cL × Fr × O)}(l:List ac)(b:List J)
  (hF:run ah (V h) (.loop eH) fr (hx h [b,cB (tab 320 (oR l)),cB (tab 1600 fun _=>false)] [])=R)
  (h1:fr 1=.vptr (cB (aQ l)) 0) (h3:fr 3=pA h.blks.length 1 0) (h8:fr 8=pA h.blks.length 2 0) (h9:fr 9=Ii 0):
  ∃ fr',R=some (.exit 6,fr',hx h [b,cB (tab 320 (oR l)),cB (aQ (fJ l))] [])/\∀ t,t∉wr eH->fr' t=fr t:=by
 obtain ⟨e,fr',h',rfl,⟨rfl,rfl⟩,hk⟩:=af hF 5
  (fun k fr hh=>fr 9=Ii k/\hh=hx h [b,cB (tab 320 (oR l)),cB (cY 1600 (du (fJ l)) (fun _=>false) (k*320))] [])
  (fun e fr hh=>e=.exit 6/\hh=hx h [b,cB (tab 320 (oR l)),cB (aQ (fJ l))] [])
  ⟨h9, by simp [kT]⟩ (by
   rintro k fr1 hh hkN hkeep ⟨g9,rfl⟩;have g1:=kp hkeep h1;have g3:=kp hkeep h3;have g8:=kp hkeep h8;by_cases hlt:k < 5
   ·have w0:Wr ((k:Int)+1)=k+1:=wz;simp [eH,g1,g3,g8,g9,hlt,show (k:Int) < 5 by omega];generalize hF:run ah _ (.loop _) _ _=R;obtain ⟨fr2,rfl,q2⟩:=zcd l b k hlt hF (by simp [g1]) (by simp [g3]) (by simp [g8]) (by simp [g9]) (by simp);simp [q2,wr,b7,dq,bn,g9,w0];exact hlt
   ·have:k=5:=by omega
    subst this;simp [eH,g9,tK,aQ])
 exact ⟨fr',rfl,hk⟩
theorem zcj (L:az)(h:O)(l:List ac):aa ah L kK [.agg (cB (aQ l))] h=some (.agg (cB (aQ (fJ l))),h):=by
 rw [B9];simp [o0,V,DK,Z,ak,aq,ab];generalize hF:run ah _ (.loop _) _ _=R;obtain ⟨fr1,rfl,hk1⟩:=zb8 l _ hF (by simp) (by simp) (by simp);simp [hk1,wr,aT,bu,bL,bn,Z,ak,aq,ab];generalize hF:run ah _ (.loop _) _ _=R;obtain ⟨fr2,rfl,hk2⟩:=zci l _ hF (by simp [hk1,wr,aT,bu,bL,bn]) (by simp [hk1,wr,aT,bu,bL,bn]) (by simp) (by simp);simp [hk1,hk2,wr,aT,bu,bL,b7,dq,eH,bn,Z,aq,ab]
def Ml (r p:Nat):Nat:=if r / p % 2=1 then r - p else r+p
def rcS (r:Nat):Nat:=if 2*r>=256 then Ml (Ml (Ml (Ml (2*r - 256) 64) 32) 16) 1 else 2*r
def rcR:Nat->Nat
 | 0=>1
 | t+1=>rcS (rcR t)
theorem znF:∀ r,r < 256->rcS r < 256:=by decide
theorem zfU:∀ t,rcR t < 256
 | 0=>by decide
 | t+1=>znF _ (zfU t)
theorem znG (r p:Nat)(hr:r < 2000)(hp:p < 200):Ml r p < r+200:=by unfold Ml;split <;> omega
def rcF (r k:Nat):Nat:=(([64,32,16,1]:List Nat).take k).foldl Ml r
theorem Yb {L:az}{fr:Fr}{H:O}{R:Option (cL × Fr × O)}(r:Nat)(hr:r < 256)
  (hF:run ah L (.loop eX) fr H=R)
  (h18:fr 18=.vsl true (eI .i64 [64,32,16,1])) (h19:fr 19=Ii 4) (h20:fr 20=Ii 0) (h3:fr 3=Ii (r:Nat)):
  ∃ fr',R=some (.exit 2,fr',H)/\fr' 3=Ii (Ml (Ml (Ml (Ml r 64) 32) 16) 1:Nat)/\∀ t,t∉wr eX->fr' t=fr t:=by
 obtain ⟨e,fr',h',rfl,⟨rfl,rfl,h3'⟩,hk⟩:=af hF 4
  (fun k fr hh=>fr 20=Ii k/\fr 3=Ii ((rcF r k:Nat):Int)/\rcF r k < 256+200*k/\hh=H)
  (fun e fr hh=>e=.exit 2/\hh=H/\fr 3=Ii (Ml (Ml (Ml (Ml r 64) 32) 16) 1:Nat))
  ⟨h20, h3, by show r < 256; exact hr, rfl⟩ (by
   rintro k fr1 hh hkN hkeep ⟨g20,g3,gl,rfl⟩;have g18:=kp hkeep h18;have g19:=kp hkeep h19;by_cases hlt:k < 4
   ·have w0:Wr ((k:Int)+1)=k+1:=wz;obtain ⟨p,hp,hp1,hp200,hnext⟩:∃ p:Nat,gd [64,32,16,1] 0 k=(p:Int)/\0 < p/\p < 200/\rcF r (k+1)=Ml (rcF r k) p:=by
     have:k=0\/k=1\/k=2\/k=3:=by omega
     rcases this with rfl | rfl | rfl | rfl
     ·exact ⟨64,rfl,by decide,by decide,rfl⟩
     ·exact ⟨32,rfl,by decide,by decide,rfl⟩
     ·exact ⟨16,rfl,by decide,by decide,rfl⟩
     ·exact ⟨1,rfl,by decide,by decide,rfl⟩
    have hlt2:=znG _ p (Nat.lt_of_lt_of_le gl (by omega)) hp200;generalize rcF r k=q at*;have t1:=xe q p;have w1:=eK (q / p) (Nat.lt_of_le_of_lt (Nat.div_le_self _ _) (by omega));have t2:((q / p:Nat):Int).tmod 2=((q / p % 2:Nat):Int):=sv _ 2;have hne:(p:Int)≠0:=by omega
    have w2:Wr ((q:Int)+(p:Int))=((q+p:Nat):Int):=wy;by_cases hc:q / p % 2=1
    ·have hqp:p<=q:=by
      rcases Nat.lt_or_ge q p with h | h
      ·rw [Nat.div_eq_of_lt h] at hc;simp at hc
      ·exact h
     have w3:Wr ((q:Int) - (p:Int))=((q - p:Nat):Int):=wy;have hr':Ml q p=q - p:=by unfold Ml;rw [if_pos hc]
     rw [hr'] at hlt2 hnext;rw [hc] at t2;generalize q - p=e,q / p=d at*;simp [eX,g20,g18,g19,g3,show (k:Int) < 4 by omega,pI,hlt,hp,da,bC,hne,show ¬p=0 by omega,t1,w1,t2,w3,w0,hnext];omega
    ·have hr':Ml q p=q+p:=by unfold Ml;rw [if_neg hc]
     have h0:q / p % 2=0:=by omega
     rw [hr'] at hlt2 hnext;rw [h0] at t2;generalize q+p=e,q / p=d at*;simp [eX,g20,g18,g19,g3,show (k:Int) < 4 by omega,pI,hlt,hp,da,bC,hne,show ¬p=0 by omega,t1,w1,t2,w2,w0,hnext];omega
   ·have:k=4:=by omega
    subst this;simp [eX,g20,g19,g3];rfl)
 exact ⟨fr',rfl,h3',hk⟩
theorem zj9 {L:az}{fr:Fr}{H:O}{R:Option (cL × Fr × O)}(t:Nat)(ht:t < 1000)
  (hF:run ah L (.loop j3) fr H=R)
  (h0:fr 0=Ii t) (h4:fr 4=Ii 0) (h3:fr 3=Ii 1):
  ∃ fr',R=some (.exit 0,fr',H)/\fr' 3=Ii (rcR t:Nat):=by
 obtain ⟨e,fr',h',rfl,⟨rfl,rfl,h3'⟩,hk⟩:=af hF t
  (fun k fr hh=>fr 4=Ii k/\fr 3=Ii (rcR k:Nat)/\hh=H)
  (fun e fr hh=>e=.exit 0/\hh=H/\fr 3=Ii (rcR t:Nat))
  ⟨h4,h3,rfl⟩ (by
   rintro k fr1 hh hkN hkeep ⟨g4,g3,rfl⟩;have g0:=kp hkeep h0;by_cases hlt:k < t
   ·have w0:Wr ((k:Int)+1)=k+1:=wz;have hlt2:=zfU k;have hs:rcR (k+1)=rcS (rcR k):=rfl;generalize rcR k=r at*;have w1:Wr ((r:Int)*2)=((2*r:Nat):Int):=wy;by_cases hc:2*r>=256
    ·have w2:Wr (((2*r:Nat):Int) - 256)=((2*r - 256:Nat):Int):=wy;have hs2:rcS r=Ml (Ml (Ml (Ml (2*r - 256) 64) 32) 16) 1:=by unfold rcS;rw [if_pos hc]
     have hb:2*r - 256 < 256:=by omega
     have hge:(256:Int)<=((2*r:Nat):Int):=by omega
     generalize 2*r=r2 at*;generalize r2 - 256=r3 at*;simp [j3,g0,g4,g3,hlt,w1,w2,hge,ak,rep,J.cells,J.okV,chunks,fx,yw];generalize hF:run ah _ (.loop _) _ _=R;obtain ⟨fr2,rfl,q1,q2⟩:=Yb r3 hb hF (by simp) (by simp) (by simp) (by simp);simp [q1,q2,wr,eX,bn,g4,w0,hs,hs2];exact hlt
    ·have hs2:rcS r=2*r:=by unfold rcS;rw [if_neg hc]
     have hge:¬(256:Int)<=((2*r:Nat):Int):=by omega
     generalize 2*r=r2 at*;simp [j3,g0,g4,g3,hlt,w1,hge,w0,hs,hs2]
   ·have:k=t:=by omega
    subst this;simp [j3,g0,g4,g3])
 exact ⟨fr',rfl,h3'⟩
def rcB (t:Nat):Bool:=rcR t % 2==1
theorem zq8 (L:az)(h:O)(t:Nat)(ht:t < 1000):aa ah L oD [Ii t] h=some (.bool (rcB t),h):=by
 rw [FM];simp [sW];generalize hF:run ah _ (.loop _) _ _=R;obtain ⟨fr2,rfl,q1⟩:=zj9 t ht hF (by simp) (by simp) (by simp);have t1:((rcR t:Nat):Int).tmod 2=((rcR t % 2:Nat):Int):=sv _ 2;have t2:(((rcR t % 2:Nat):Int)==1)=rcB t:=by
  unfold rcB;rw [Bool.eq_iff_iff];simp only [beq_iff_eq];omega
 generalize rcR t % 2=m at*;simp [q1,bC,t1,t2]
def LJ (r:Nat):Nat->List Bool
 | 0=>tab 64 fun _=>false
 | j+1=>(LJ r j).set (2 ^ j - 1) (rcB (j+7*r))
@[simp] theorem zf1 (r:Nat):∀ k,(LJ r k).length=64
 | 0=>by simp [LJ]
 | k+1=>by simp [LJ,zf1 r k]
theorem znJ:∀ r,r < 24->LJ r 7=tab 64 fun z=>(gd rcW 0#64 r).getLsbD z:=by decide +kernel
theorem zf3 {fr:Fr}{h:O}{R:Option (cL × Fr × O)}(r:Nat)(hr:r < 24)(b:List J)
  (hF:run ah (V h) (.loop cX) fr (hx h [b,cB (LJ r 0)] [])=R)
  (h0:fr 0=Ii r) (h3:fr 3=pA h.blks.length 1 0) (h4:fr 4=Ii 1) (h5:fr 5=Ii 0):
  ∃ fr',R=some (.exit 0,fr',hx h [b,cB (LJ r 7)] [])/\∀ t,t∉wr cX->fr' t=fr t:=by
 obtain ⟨e,fr',h',rfl,⟨rfl,rfl⟩,hk⟩:=af hF 7
  (fun k fr hh=>fr 5=Ii k/\fr 4=Ii ((2 ^ k:Nat):Int)/\hh=hx h [b,cB (LJ r k)] [])
  (fun e fr hh=>e=.exit 0/\hh=hx h [b,cB (LJ r 7)] [])
  ⟨h5,h4,rfl⟩ (by
   rintro k fr1 hh hkN hkeep ⟨g5,g4,rfl⟩;have g0:=kp hkeep h0;have g3:=kp hkeep h3;by_cases hlt:k < 7
   ·have w0:Wr ((k:Int)+1)=k+1:=wz;have hp1:1<=2 ^ k:=Nat.one_le_two_pow;have hp2:2 ^ k<=64:=by
     have:2 ^ k<=2 ^ 6:=Nat.pow_le_pow_right (by decide) (by omega);simpa using this
    have hs:LJ r (k+1)=(LJ r k).set (2 ^ k - 1) (rcB (k+7*r)):=rfl;have hp3:2 ^ (k+1)=2*2 ^ k:=by rw [Nat.pow_succ,Nat.mul_comm]
    generalize hpk1:2 ^ (k+1)=pk1 at*;generalize 2 ^ k=pk at*;have w1:Wr ((pk:Int) - 1)=((pk - 1:Nat):Int):=wy;have w2:Wr (7*(r:Int))=((7*r:Nat):Int):=wy;have w3:Wr ((k:Int)+((7*r:Nat):Int))=((k+7*r:Nat):Int):=wy;have w4:Wr ((pk:Int)*2)=(pk1:Int):=wy;have hrc:=fun L h=>zq8 L h (k+7*r) (by omega);have hi1:pk - 1 < 64:=by omega
    have hi2:pk - 1+1<=64:=by omega
    generalize rcB (k+7*r)=v at*;generalize pk - 1=pm,7*r=r7,k+7*r=k7 at*;have e2:(2:Int) ^ (k+1)=(pk1:Int):=by rw [<- hpk1,Int.natCast_pow];rfl
    simp [cX,V,g0,g3,g4,g5,hlt,show (k:Int) < 7 by omega,w0,w1,w2,w3,w4,hrc,eR,hi1,hi2,hs,e2]
   ·have:k=7:=by omega
    subst this;simp [cX,g5])
 exact ⟨fr',rfl,hk⟩
theorem SM (L : az)(h : O)(r : Nat)(hr : r < 24) : aa ah L iF [Ii r] h = some (.agg (cB (tab 64 fun z => (gd rcW 0#64 r).getLsbD z)), h) := by
 rw [xA,<- znJ r hr];have e0:cB (tab 64 fun _=>false)=cB (LJ r 0):=rfl;simp [lQ,V,DK,e0,Z,ak,aq,ab,show ¬(r:Int) < 0 by omega,show ¬(23:Int) < r by omega];generalize hF:run ah _ (.loop _) _ _=R;obtain ⟨fr1,rfl,hk1⟩:=zf3 r hr _ hF (by simp) (by simp) (by simp) (by simp);simp [hk1,wr,cX,bn,Z,aq,ab]
theorem zf4 (l:List ac):piL (ze6 l)=xf l:=by kernel_rfl
def Pl (w:ac)(k:Nat):Int:=((w >>> (8*k)).toNat % 256:Nat)
def aS (l:List ac):List Int:=tab (8*l.length) fun j=>Pl (gd l 0#64 (j / 8)) (j % 8)
theorem Yk (w:ac):IntKind.u8.wrap (w.toNat:Int)=((w.toNat % 256:Nat):Int):=by
 unfold IntKind.wrap;simp [IntKind.signed,IntKind.bits]
@[simp] theorem Fp (w:ac):XT .u8 (wd w)=some (.int .u8 ((w.toNat % 256:Nat):Int)):=by
 unfold wd;rw [ji,Yk]
theorem PW {fr : Fr}{h : O}{R : Option (cL × Fr × O)}(l : List ac)(bs : List (List J))(i : Nat)(hi : i < l.length)(hl : l.length < 1000000)(f : Nat -> Int)(hf : f = fun j => Pl (gd l 0#64 (j / 8)) (j % 8))
  (hF:run ah (V h) (.loop mr) fr (hx h bs (gT (eI .u8 (tab (8*i) f))))=R)
  (h3:fr 3=gL .nsl h.toks.length 0 (eI .u8 (tab (8*i) f))) (h5:fr 5=wd (gd l 0#64 i)) (h12:fr 12=Ii 0):
  ∃ fr',R=some (.exit 2,fr',hx h bs (gT (eI .u8 (tab (8*(i+1)) f))))/\fr' 3=gL .nsl h.toks.length 0 (eI .u8 (tab (8*(i+1)) f))/\∀ t,t∉wr mr->fr' t=fr t:=by
 obtain ⟨e,fr',h',rfl,⟨rfl,rfl,h3'⟩,hk⟩:=af hF 8
  (fun k fr hh=>fr 12=Ii k/\fr 5=wd (gd l 0#64 i >>> (8*k))/\fr 3=gL .nsl h.toks.length 0 (eI .u8 (tab (8*i+k) f))/\hh=hx h bs (gT (eI .u8 (tab (8*i+k) f))))
  (fun e fr hh=>e=.exit 2/\hh=hx h bs (gT (eI .u8 (tab (8*(i+1)) f)))/\fr 3=gL .nsl h.toks.length 0 (eI .u8 (tab (8*(i+1)) f)))
  ⟨h12, by simpa using h5, h3, rfl⟩ (by
   rintro k fr1 hh hkN hkeep ⟨g12,g5,g3,rfl⟩;by_cases hlt:k < 8
   ·have w1:Wr ((k:Int)+1)=k+1:=wz;have hfk:((((gd l 0#64 i >>> (8*k)).toNat % 256:Nat):Int))=f (8*i+k):=by
     rw [hf];simp only [Pl];rw [show (8*i+k) / 8=i by omega,show (8*i+k) % 8=k by omega]
    have hsh:gd l 0#64 i >>> (8*k) >>> 8=gd l 0#64 i >>> (8*(k+1)):=by
     rw [<- BitVec.shiftRight_add];rfl
    have hroom:8*i+k+1 < 274877906944:=by omega
    generalize hw:gd l 0#64 i >>> (8*k)=w at*;have hs8:aW .shr (wd w) (.int .u64 8)=some (wd (w >>> 8)):=yK w .u64 8 (by decide);generalize hm:8*i+k=m at*;simp [mr,g12,g5,g3,hlt,show (k:Int) < 8 by omega,w1,V,ak,rep,J.cells,J.okV,chunks,hfk,fx,FL,am,hroom,hs8,hsh, -j9];simp [<- Nat.add_assoc,hm]
   ·have:k=8:=by omega
    subst this;simp [mr,g12,g3,Nat.mul_add])
 exact ⟨fr',rfl,h3',hk⟩
theorem Ym {fr : Fr}{h : O}{R : Option (cL × Fr × O)}(l : List ac)(x : J)(bs : List (List J))(hl : l.length < 1000000)(f : Nat -> Int)(hf : f = fun j => Pl (gd l 0#64 (j / 8)) (j % 8))(hx6 : i6 h x l)
  (hF:run ah (V h) (.loop tq) fr (hx h bs [])=R)
  (h3:fr 3=.nsl) (h6:fr 6=x) (h7:fr 7=Ii l.length) (h8:fr 8=Ii 0):
  ∃ fr',R=some (.exit 0,fr',hx h bs (gT (eI .u8 (aS l))))/\fr' 3=gL .nsl h.toks.length 0 (eI .u8 (aS l)):=by
 obtain ⟨r1,p,r2,r3⟩:=hx6;obtain ⟨e,fr',h',rfl,⟨rfl,rfl,h3'⟩,hk⟩:=af hF l.length
  (fun k fr hh=>fr 8=Ii k/\fr 3=gL .nsl h.toks.length 0 (eI .u8 (tab (8*k) f))/\hh=hx h bs (gT (eI .u8 (tab (8*k) f))))
  (fun e fr hh=>e=.exit 0/\hh=hx h bs (gT (eI .u8 (aS l)))/\fr 3=gL .nsl h.toks.length 0 (eI .u8 (aS l)))
  ⟨h8, by simpa [tab, gL] using h3, by simp [tab, gT]⟩ (by
   rintro k fr1 hh hkN hkeep ⟨g8,g3,rfl⟩;have g6:=kp hkeep h6;have g7:=kp hkeep h7;by_cases hlt:k < l.length
   ·have w1:Wr ((k:Int)+1)=k+1:=wz;simp [tq,g8,g6,g7,hlt,r2 k hlt,r3 k _ _ hlt];generalize hF:run ah _ (.loop _) _ _=R;obtain ⟨fr2,rfl,q1,q2⟩:=PW l bs k hlt hl f hf hF (by simp [g3]) (by simp) (by simp);simp [q1,q2,wr,mr,bn,g8,w1];exact hlt
   ·have:k=l.length:=by omega
    subst this;simp [tq,g8,g7,g3,aS,hf])
 exact ⟨fr',rfl,h3'⟩
theorem Vn (L:az)(h:O)(l:List ac)(x:J)(hl:l.length < 1000000)(hx6:i6 h x l):aa ah L rQ [x] h=some (.vsl false (eI .u8 (aS l)),h):=by
 rw [LD];simp [BB,hx6.1];generalize hF:run ah _ (.loop _) _ _=R;obtain ⟨fr1,rfl,q1⟩:=Ym l x _ hl _ rfl hx6 hF (by simp) (by simp) (by simp) (by simp);simp [q1,pe]
@[simp] theorem znP (l:List ac):(aS l).length=8*l.length:=by simp [aS]
theorem NR (L:az)(h:O)(s:List ac)(hs:s.length=25):aa ah L fY [.agg (cW s)] h=some (.agg (cI .u8 (aS s)),h):=by
 rw [zW];have hb:=fun L bs=>Vn L (hx h (cW s :: bs) []) s (sA h.blks.length 0 0 1 25 (some 25)) (by omega) (i6.sA [] 0 25 _ s hs (by simp));have e1:(aS s).take 200=aS s:=List.take_of_length_le (by simp [hs]);simp [nL,V,gQ,aE,J.okV,J.cells,hs,zN,hb,SN,Z,e1,aq,ab]
def cF (s:List ac)(n:Int):List J:=cW s++[Ii n]
@[simp] theorem zpE (s:List ac)(n:Int):(cF s n).length=s.length+1:=by simp [cF]
theorem Rc {s:List ac}{n:Int}{i:Nat}(h:decide (i < s.length)=true):(cF s n)[i]?=some (wd (gd s 0#64 i)):=by
 have h':i < s.length:=by simpa using h
 unfold cF;rw [List.getElem?_append_left (by simpa using h')];exact MY h'
theorem IW {s:List ac}{n:Int}(h:s.length=25):(cF s n)[25]?=some (Ii n):=by
 unfold cF;rw [List.getElem?_append_right (by simp [h])];simp [h]
theorem Ku {s:List ac}{n:Int}(h0:25 < (cF s n).length)(h:s.length=25):(cF s n)[25]=Ii n:=by
 have:=IW (n:=n) h;rw [List.getElem?_eq_getElem h0] at this;exact sj this
theorem HD {s:List ac}{n:Int}{i:Nat}(h0:i < (cF s n).length)(h:decide (i < s.length)=true):(cF s n)[i]=wd (gd s 0#64 i):=by
 have:=Rc (n:=n) h;rw [List.getElem?_eq_getElem h0] at this;exact sj this
theorem zcW {s:List ac}{n:Int}{i:Nat}(x:ac)(h:decide (i < s.length)=true):(cF s n).set i (wd x)=cF (s.set i x) n:=by
 have h':i < s.length:=by simpa using h
 unfold cF;rw [List.set_append_left _ _ (by simpa using h')];simp
theorem NV {s:List ac}{n:Int}(m:Int)(h:s.length=25):(cF s n).set 25 (Ii m)=cF s m:=by
 unfold cF;rw [List.set_append_right _ _ (by simp [h])];simp [h]
theorem NW {s:List ac}{n:Int}(h:s.length=25):eL true (cF s n) 0 25=some (.agg (cW s)):=by
 unfold eL cF;simp [h]
theorem Re {s:List ac}{n:Int}(h:s.length=25):eL true (cF s n) 0 26=some (.agg (cF s n)):=QB (by simp [h])
theorem Yy {s t:List ac}{n:Int}(h:s.length=25)(ht:t.length=25):setAt (cF s n) 0 (cW t)=cF t n:=by
 have e:∀ (cs old rest:List J),old.length=cs.length->∀ pre:List J,setAt (pre++(old++rest)) pre.length cs=pre++(cs++rest):=by
  intro cs
  induction cs with
  | nil=>intro old rest h pre;cases old with | nil=>simp [setAt] | cons a l=>simp at h
  | cons c cs ih=>
   intro old rest h pre
   cases old with
   | nil=>simp at h
   | cons a l=>
    simp only [setAt];rw [List.set_append_right _ _ (Nat.le_refl _),Nat.sub_self];have:=ih l rest (by simpa using h) (pre++[c]);simpa using this
 have:=e (cW t) (cW s) [Ii n] (by simp [h,ht]) [];simpa [cF] using this
def sS (s:List ac)(at_:Nat)(v:Int):List ac:=s.set (at_ / 8) (gd s 0#64 (at_ / 8) ^^^ (bw v <<< (8*(at_ % 8))))
@[simp] theorem VA (s:List ac)(n:Nat)(v:Int):(sS s n v).length=s.length:=by simp [sS]
theorem Yz (L:az)(h:O)(bs:List (List J))(ts:List Nat)(i:Nat)(s:List ac)(n:Int)(at_:Nat)(v:Int)(hs:s.length=25)(ha:at_ < 200)(hb:bs[i]?=some (cF s n))(hL:L.rob<=h.blks.length):
  aa ah L dS [pA h.blks.length i 0,Ii (at_:Int),.int .u8 v] (hx h bs ts)=some (.tup [],hx h (bs.set i (cF (sS s at_ v) n)) ts):=by
 rw [Em];have w0:=xe at_ 8;have w1:=sv at_ 8;have w2:IntKind.i64.wrap ((at_ / 8:Nat):Int)=((at_ / 8:Nat):Int):=eK _ (by omega);have w3:IntKind.i64.wrap (8*((at_ % 8:Nat):Int))=((8*(at_ % 8):Nat):Int):=by
  rw [<- eK (8*(at_ % 8)) (by omega)];simp only [Int.natCast_mul,Int.natCast_add,Int.cast_ofNat_Int]
 have ha25:at_ / 8 < 25:=by omega
 have hb64:8*(at_ % 8)<=64:=by omega
 have hset:s.set (at_ / 8) (gd s 0#64 (at_ / 8) ^^^ (bw v <<< (8*(at_ % 8))))=sS s at_ v:=rfl;simp only [Int.cast_ofNat_Int] at w0 w1;have hi:=(List.getElem?_eq_some_iff.1 hb).1;generalize at_ / 8=a at*;generalize hbb:8*(at_ % 8)=b at*;generalize at_ % 8=c at*;simp [qY,w0,w1,w2,w3,da,bC,aC,aB,eR,ha25,hb,Rc,hs,Nf,hb64,ap,hL,zcW,hset,show a<=25 by omega,sK, -ji, -yv]
def vf (q:List ac × Nat)(v:Int):List ac × Nat:=if q.2+1=136 then (lq (sS q.1 q.2 v),0) else (sS q.1 q.2 v,q.2+1)
def a7 (q:List ac × Nat)(l:List Int):List ac × Nat:=l.foldl vf q
theorem zgD {q:List ac × Nat}(v:Int)(h1:q.1.length=25)(h2:q.2 < 136):(vf q v).1.length=25/\(vf q v).2 < 136:=by
 unfold vf;split
 ·exact ⟨fN _ (by simp [h1]),by simp⟩
 ·exact ⟨by simp [h1],by simp only [];omega⟩
theorem sU:∀ (l:List Int) {q:List ac × Nat},q.1.length=25->q.2 < 136->(a7 q l).1.length=25/\(a7 q l).2 < 136
 | [],q,h1,h2=>⟨h1,h2⟩
 | v :: l, q, h1, h2 => by
  obtain ⟨a,b⟩:=zgD v h1 h2;exact sU l a b
theorem YC {L:az}{fr:Fr}{h:O}{R:Option (cL × Fr × O)}(bs:List (List J))(ts:List Nat)(i:Nat)(q:List ac × Nat)(x:J)(l:List Int)(hl:l.length < 200000000000)(h1:q.1.length=25)(h2:q.2 < 136)
  (hb:bs[i]?=some (cF q.1 q.2)) (hL:L.rob<=h.blks.length) (hr:JM h .u8 x l)
  (hF:run ah ⟨L.rob,L.rot,h.blks.length+bs.length,h.toks.length+ts.length⟩ (.loop fW) fr (hx h bs ts)=R)
  (h0:fr 0=pA h.blks.length i 0) (h6:fr 6=x) (h7:fr 7=Ii l.length) (h8:fr 8=Ii 0):
  ∃ fr',R=some (.exit 0,fr',hx h (bs.set i (cF (a7 q l).1 (a7 q l).2)) ts):=by
 obtain ⟨r1,p,r2,r3⟩:=hr;have hi:=(List.getElem?_eq_some_iff.1 hb).1;obtain ⟨e,fr',h',rfl,⟨rfl,rfl⟩,hk⟩:=af hF l.length
  (fun k fr hh=>fr 8=Ii k/\hh=hx h (bs.set i (cF (a7 q (l.take k)).1 (a7 q (l.take k)).2)) ts)
  (fun e fr hh=>e=.exit 0/\hh=hx h (bs.set i (cF (a7 q l).1 (a7 q l).2)) ts)
  ⟨h8,by
   have:bs.set i (cF q.1 q.2)=bs:=by
    refine List.ext_getElem? fun j=>?_;by_cases e:i=j
    ·subst e;rw [List.getElem?_set_self hi,hb]
    ·rw [List.getElem?_set_ne e]
   simp [a7,this]⟩ (by
   rintro k fr1 hh hkN hkeep ⟨g8,rfl⟩;have g0:=kp hkeep h0;have g6:=kp hkeep h6;have g7:=kp hkeep h7;obtain ⟨c1,c2⟩:=sU (l.take k) h1 h2;by_cases hlt:k < l.length
   ·have w1:Wr ((k:Int)+1)=k+1:=wz;have hst:a7 q (l.take (k+1))=vf (a7 q (l.take k)) (gd l 0 k):=by
     rw [sQ 0 hlt];simp [a7]
    generalize a7 q (l.take k)=q' at*;obtain ⟨s,n⟩:=q';simp only at c1 c2;have w2:Wr ((n:Int)+1)=((n+1:Nat):Int):=wz;have hp:=Yz ⟨L.rob,L.rot,h.blks.length+bs.length,h.toks.length+ts.length⟩ h (bs.set i (cF s n)) ts i s n n (gd l 0 k) c1 (by omega) (by simp [hi]) hL;by_cases h136:n+1=136
    ·have hst2:vf (s,n) (gd l 0 k)=(lq (sS s n (gd l 0 k)),0):=by simp only [vf,h136,if_true]
     rw [hst2] at hst;rw [h136] at w2;simp [Ku,HD,fW,g0,g6,g7,g8,hlt,w1,r2 k hlt,r3 k _ _ hlt,hi,IW,c1,hp,w2,hst,ap,hL,NV,NW,H4,fN,aq,Yy]
    ·have hst2:vf (s,n) (gd l 0 k)=(sS s n (gd l 0 k),n+1):=by simp only [vf,h136,if_false]
     rw [hst2] at hst;have hne:(((n+1:Nat):Int)==136)=false:=beq_false_of_ne (by omega);generalize n+1=n1 at*;simp [Ku,HD,fW,g0,g6,g7,g8,hlt,w1,r2 k hlt,r3 k _ _ hlt,hi,IW,c1,hp,w2,hst,ap,hL,NV,hne]
   ·have:k=l.length:=by omega
    subst this;simp [fW,g8,g7])
 exact ⟨fr',rfl⟩
theorem zgF (L:az)(h:O)(bs:List (List J))(ts:List Nat)(i:Nat)(q:List ac × Nat)(x:J)(l:List Int)(hl:l.length < 200000000000)(h1:q.1.length=25)(h2:q.2 < 136)
  (hb:bs[i]?=some (cF q.1 q.2)) (hL:L.rob<=h.blks.length) (hr:JM h .u8 x l):
  aa ah L kS [pA h.blks.length i 0,x] (hx h bs ts)=some (.tup [],hx h (bs.set i (cF (a7 q l).1 (a7 q l).2)) ts):=by
 rw [Bv];simp [oP,hr.1,aC,aB];generalize hF:run ah _ (.loop _) _ _=R;obtain ⟨fr',rfl⟩:=YC bs ts i q x l hl h1 h2 hb hL hr hF (by simp) (by simp) (by simp) (by simp);simp [aC,aB,sK]
def VE (q:List ac × Nat):List Int:=(aS (lq (sS (sS q.1 q.2 6) 135 128))).take 32
theorem zkq (L:az)(h:O)(b:Nat)(q:List ac × Nat)(h1:q.1.length=25)(h2:q.2 < 136)(hb:h.blks[b]?=some (cF q.1 q.2)):
  aa ah L kg [.ptr b 0] h=some (.agg (cI .u8 (VE q)),h):=by
 rw [Ec];obtain ⟨s,n⟩:=q;simp only at h1 h2 hb;have hld:∀ bs ts,qC (hx h bs ts) (.ptr b 0) 26 true=some (.agg (cF s n)):=fun bs ts=>(Fs h bs ts b 0 26 true _ hb).trans (Re h1);have ep:∀ (bs:List J) (s:List ac),s.length=25->aa ah ⟨h.blks.length,h.toks.length,h.blks.length,h.toks.length⟩ dS [pA h.blks.length 1 0,Ii (n:Int),.int .u8 6] (hx h [bs,cF s n] [])=some (.tup [],hx h [bs,cF (sS s n 6) n] []):=fun bs s hs=>
  Yz _ h [bs,cF s n] [] 1 s n n 6 hs (by omega) (by simp) (Nat.le_refl _)
 have ep2:∀ (bs:List J) (s:List ac),s.length=25->aa ah ⟨h.blks.length,h.toks.length,h.blks.length,h.toks.length⟩ dS [pA h.blks.length 1 0,Ii 135,.int .u8 128] (hx h [bs,cF s n] [])=some (.tup [],hx h [bs,cF (sS s 135 128) n] []):=fun bs s hs=>
  Yz _ h [bs,cF s n] [] 1 s n 135 128 hs (by omega) (by simp) (Nat.le_refl _)
 have e32:(aS (lq (sS (sS s n 6) 135 128))).length=200:=by simp [fN,h1]
 have hsl:=NH 200 1 h.blks.length 2 0 32 .i64 (by decide);simp only [Int.cast_ofNat_Int] at hsl;simp [Ku,HD,qO,aC,aB,V,gQ,hld,Re,h1,aq,ab,IW,ep,ep2,NW,H4,NR,fN,Z,e32,hsl,zf7,VE];simp [zgc,e32,aq,ab,List.take_take]
def P4 (l:List Int):List Int:=VE (a7 (tab 25 fun _=>0#64,0) l)
theorem gh (q:List ac × Nat)(l m:List Int):a7 q (l++m)=a7 (a7 q l) m:=by simp [a7]
def W9 (ps:List (J × List Int)):List Int:=(ps.map (·.2)).flatten
theorem zgK (ps:List (J × List Int))(k:Nat)(h:k < ps.length):W9 (ps.take (k+1))=W9 (ps.take k)++ps[k].2:=by
 unfold W9;rw [List.take_add_one,List.getElem?_eq_getElem h,List.map_append,List.flatten_append]
 congr 1
 simp
theorem zc1 {fr:Fr}{h:O}{R:Option (cL × Fr × O)}(z:List J)(ps:List (J × List Int))(hn:ps.length < 1000000)(hr:∀ p∈ps,JM h .u8 p.1 p.2/\p.2.length < 200000000000)
  (hF:run ah (V h) (.loop mn) fr (hx h [z,cF (tab 25 fun _=>0#64) 0] [])=R)
  (h3:fr 3=pA h.blks.length 1 0) (h6:fr 6=.vsl false (ps.map fun p=>[p.1])) (h7:fr 7=Ii ps.length) (h8:fr 8=Ii 0):
  ∃ fr' q,R=some (.exit 0,fr',hx h [z,cF q.1 q.2] [])/\q=a7 (tab 25 fun _=>0#64,0) (W9 ps)/\q.1.length=25/\q.2 < 136/\∀ t,t∉wr mn->fr' t=fr t:=by
 obtain ⟨e,fr',h',rfl,⟨rfl,rfl⟩,hk⟩:=af hF ps.length
  (fun k fr hh=>fr 8=Ii k/\hh=hx h [z,cF (a7 (tab 25 fun _=>0#64,0) (W9 (ps.take k))).1 (a7 (tab 25 fun _=>0#64,0) (W9 (ps.take k))).2] [])
  (fun e fr hh=>e=.exit 0/\hh=hx h [z,cF (a7 (tab 25 fun _=>0#64,0) (W9 ps)).1 (a7 (tab 25 fun _=>0#64,0) (W9 ps)).2] [])
  ⟨h8, by simp only [List.take_zero]; rfl⟩ (by
   rintro k fr1 hh hkN hkeep ⟨g8,rfl⟩;have g3:=kp hkeep h3;have g6:=kp hkeep h6;have g7:=kp hkeep h7;obtain ⟨c1,c2⟩:=sU (W9 (ps.take k)) (q:=(tab 25 fun _=>0#64,0)) (by simp) (by simp);by_cases hlt:k < ps.length
   ·have w1:Wr ((k:Int)+1)=k+1:=wz;have hst : a7 (tab 25 fun _ => 0#64, 0) (W9 (ps.take (k + 1))) = a7 (a7 (tab 25 fun _ => 0#64, 0) (W9 (ps.take k))) ps[k].2 := by
     rw [<- gh]
     congr 1
     exact zgK ps k hlt
    obtain ⟨r1,r2⟩:=hr ps[k] (List.getElem_mem hlt);generalize a7 (tab 25 fun _=>0#64,0) (W9 (ps.take k))=q' at*;have hw:=zgF ⟨h.blks.length,h.toks.length,h.blks.length,h.toks.length⟩ h [z,cF q'.1 q'.2] [] 1 q' ps[k].1 ps[k].2 r2 c1 c2 (by simp) (Nat.le_refl _) r1;simp [mn,V,g3,g6,g7,g8,hlt,bA,JP,w1,hw,hst]
   ·have:k=ps.length:=by omega
    subst this;simp [mn,g8,g7])
 obtain ⟨c1,c2⟩:=sU (W9 ps) (q:=(tab 25 fun _=>0#64,0)) (by simp) (by simp);exact ⟨fr',_,rfl,rfl,c1,c2,hk⟩
theorem YF:[J.int .u64 0,.int .u64 0,.int .u64 0,.int .u64 0,.int .u64 0,.int .u64 0,.int .u64 0,.int .u64 0,.int .u64 0,.int .u64 0,.int .u64 0,.int .u64 0,.int .u64 0,.int .u64 0,.int .u64 0,.int .u64 0,.int .u64 0,.int .u64 0,.int .u64 0,.int .u64 0,.int .u64 0,.int .u64 0,.int .u64 0,.int .u64 0,.int .u64 0,Ii 0]=cF (tab 25 fun _=>0#64) 0:=rfl
theorem zkr (L:az)(h:O)(c:Bool)(ps:List (J × List Int))(hn:ps.length < 1000000)(hr:∀ p∈ps,JM h .u8 p.1 p.2/\p.2.length < 200000000000):
  aa ah L rO [.vsl c (ps.map fun p=>[p.1])] h=some (.agg (cI .u8 (P4 (W9 ps))),h):=by
 rw [LB];simp [Bw,YF,gQ,V];generalize hF:run ah _ (.loop _) _ _=R;obtain ⟨fr',q,rfl,q1,q2,q3,hk⟩:=zc1 _ ps hn hr hF (by simp) (by simp) (by simp) (by simp);have hs:aa ah ⟨h.blks.length,h.toks.length,h.blks.length,h.toks.length⟩ kg [pA h.blks.length 1 0] (hx h [cI .u8 (tab 32 fun _=>0),cF q.1 q.2] [])=some (.agg (cI .u8 (VE q)),hx h [cI .u8 (tab 32 fun _=>0),cF q.1 q.2] []):=zkq ⟨h.blks.length,h.toks.length,h.blks.length,h.toks.length⟩ (hx h [cI .u8 (tab 32 fun _=>0),cF q.1 q.2] []) (h.blks.length+1) q q2 q3 (SQ [] (by simp));have hl:(VE q).length=32:=by simp [VE,fN,q2]
 simp [hk,wr,mn,bn,hs,aq,hl,ab,Z,P4,<- q1]
theorem VH (m:List ac)(hm:m.length=25)(c:ac)(x y z:Nat)(hx5:x < 5)(hy5:y < 5)(hz:z < 64):
  du (m.set 0 (gd m 0#64 0 ^^^ c)) (x*320+y*64+z)=if x*320+y*64+z < 64 then du m (x*320+y*64+z) ^^ c.getLsbD (x*320+y*64+z) else du m (x*320+y*64+z):=by
 rw [j8 _ _ _ _ hx5 hy5 hz,j8 _ _ _ _ hx5 hy5 hz];by_cases h:x=0/\y=0
 ·obtain ⟨rfl,rfl⟩:=h;have:gd (m.set 0 (gd m 0#64 0 ^^^ c)) 0#64 0=gd m 0#64 0 ^^^ c:=by
   unfold gd;simp [List.getD,hm]
  rw [if_pos (by omega)];simp only [Nat.zero_mul,Nat.zero_add,Nat.mul_zero,this,BitVec.getLsbD_xor]
 ·rw [if_neg (by omega)]
  congr 1
  unfold gd;have:¬0=x+5*y:=by omega
  simp [List.getD,List.getElem?_set,this]
theorem VI {fr:Fr}{h:O}{R:Option (cL × Fr × O)}(m:List ac)(hm:m.length=25)(c:ac)(b:List J)
  (hF:run ah (V h) (.loop eE) fr (hx h [cB (aQ m),b,cB (tab 64 fun z=>c.getLsbD z)] [])=R)
  (h2:fr 2=pA h.blks.length 0 0) (h5:fr 5=pA h.blks.length 2 0) (h6:fr 6=Ii 0):
  ∃ fr',R=some (.exit 0,fr',hx h [cB (aQ (m.set 0 (gd m 0#64 0 ^^^ c))),b,cB (tab 64 fun z=>c.getLsbD z)] [])/\∀ t,t∉wr eE->fr' t=fr t:=by
 obtain ⟨e,fr',h',rfl,⟨rfl,rfl⟩,hk⟩:=af hF 64
  (fun k fr hh=>fr 6=Ii k/\hh=hx h [cB (cY 1600 (du (m.set 0 (gd m 0#64 0 ^^^ c))) (du m) k),b,cB (tab 64 fun z=>c.getLsbD z)] [])
  (fun e fr hh=>e=.exit 0/\hh=hx h [cB (aQ (m.set 0 (gd m 0#64 0 ^^^ c))),b,cB (tab 64 fun z=>c.getLsbD z)] [])
  ⟨h6, by rw [kT]; rfl⟩ (by
   rintro k fr1 hh hkN hkeep ⟨g6,rfl⟩;have g2:=kp hkeep h2;have g5:=kp hkeep h5;by_cases hlt:k < 64
   ·have w0:Wr ((k:Int)+1)=k+1:=wz;have hset:=nz 1600 (du (m.set 0 (gd m 0#64 0 ^^^ c))) (du m) k;have hb:=VH m hm c 0 0 k (by decide) (by decide) hlt;simp only [Nat.zero_mul,Nat.zero_add] at hb;rw [if_pos hlt] at hb;rw [hb] at hset;have b0:gd (cY 1600 (du (m.set 0 (gd m 0#64 0 ^^^ c))) (du m) k) false k=du m k:=Mh (by omega);have b1:gd (tab 64 fun z=>c.getLsbD z) false k=c.getLsbD k:=dY hlt;generalize hM1:cY 1600 (du (m.set 0 (gd m 0#64 0 ^^^ c))) (du m) (k+1)=M1 at*;have hML:=DH 1600 (du (m.set 0 (gd m 0#64 0 ^^^ c))) (du m) k;generalize cY 1600 (du (m.set 0 (gd m 0#64 0 ^^^ c))) (du m) k=M0 at*;have hCL:=AK 64 (fun z=>c.getLsbD z);generalize c.getLsbD k=v1,du m k=v0,(tab 64 fun z=>c.getLsbD z)=C0 at*;simp [eE,V,g2,g5,g6,hlt,show (k:Int) < 64 by omega,w0,eR,show k < 1600 by omega,show k<=1599 by omega,hML,hCL,b0,b1]
    have e1:(!(v0==v1))=(v0 ^^ v1):=by cases v0 <;> cases v1 <;> rfl
    rw [e1,hset,hM1]
   ·have:k=64:=by omega
    subst this;have e0 : cY 1600 (du (m.set 0 (gd m 0#64 0 ^^^ c))) (du m) 64 = aQ (m.set 0 (gd m 0#64 0 ^^^ c)) := bj fun j hj => by
     by_cases hj:j < 64
     ·rw [if_pos hj]
     ·rw [if_neg hj];obtain ⟨x,y,z,hx5,hy5,hz,rfl⟩:=zdZ (by assumption);rw [VH m hm c x y z hx5 hy5 hz,if_neg hj]
    simp [eE,g6,e0])
 exact ⟨fr',rfl,hk⟩
theorem YG (L:az)(h:O)(l:List ac)(k:Nat)(hk:k < 24):aa ah L kD [.agg (cB (aQ l)),Ii k] h=some (.agg (cB (aQ (E4 l k))),h):=by
 rw [BS];simp [oW,V,DK,aE,J.okV,J.cells,Z,aq,ab,zcj,zjj,zmY,zjw,SM,hk,zf4];generalize hF:run ah _ (.loop _) _ _=R;obtain ⟨fr1,rfl,hk1⟩:=VI (rV (xf (fJ l))) (by simp) _ _ hF (by simp) (by simp) (by simp);simp [hk1,wr,eE,bn,Z,aq,ab,E4]
theorem VJ {fr:Fr}{h:O}{R:Option (cL × Fr × O)}(l:List ac)(b:List J)
  (hF:run ah (V h) (.loop dy) fr (hx h [b,cB (aQ l)] [])=R)
  (h3:fr 3=pA h.blks.length 1 0) (h4:fr 4=Ii 0):
  ∃ fr',R=some (.exit 0,fr',hx h [b,cB (aQ (lq l))] [])/\∀ t,t∉wr dy->fr' t=fr t:=by
 obtain ⟨e,fr',h',rfl,⟨rfl,rfl⟩,hk⟩:=af hF 24
  (fun k fr hh=>fr 4=Ii k/\hh=hx h [b,cB (aQ (Lu l k))] [])
  (fun e fr hh=>e=.exit 0/\hh=hx h [b,cB (aQ (lq l))] [])
  ⟨h4,rfl⟩ (by
   rintro k fr1 hh hkN hkeep ⟨g4,rfl⟩;have g3:=kp hkeep h3;by_cases hlt:k < 24
   ·have w0:Wr ((k:Int)+1)=k+1:=wz;simp [dy,V,g3,g4,hlt,show (k:Int) < 24 by omega,w0,Z,aq,ab,YG,H3]
   ·have:k=24:=by omega
    subst this;simp [dy,g4,lq])
 exact ⟨fr',rfl,hk⟩
theorem I8 (L:az)(h:O)(l:List ac)(hl:l.length=25):aa ah L fB [.agg (cW l)] h=some (.agg (cW (lq l)),h):=by
 rw [yS];simp [my,V,bH,DK,Z,hl,aq,ab,Xp];generalize hF:run ah _ (.loop _) _ _=R;obtain ⟨fr1,rfl,hk1⟩:=VJ l _ hF (by simp) (by simp);simp [hk1,wr,dy,bn,Z,aq,ab,Xs,fN,hl]
def P6 (b:List Int)(n:Nat):Nat->List ac
 | 0=>tab 25 fun _=>0#64
 | k+1=>let i:=n - 1 - k;(P6 b n k).set (i / 8) (gd (P6 b n k) 0#64 (i / 8)*256#64+bw (gd b 0 i))
@[simp] theorem zay (b:List Int)(n:Nat):∀ k,(P6 b n k).length=25
 | 0=>by simp [P6]
 | k+1=>by simp [P6,zay b n k]
def cg (b:List Int):List ac:=P6 b 200 200
theorem zaz {fr:Fr}{h:O}{R:Option (cL × Fr × O)}(b:List Int)(hb:b.length=200)(x:J)(z:List J)(hr:JM h .u8 x b)
  (hF:run ah (V h) (.loop b8) fr (hx h [z,cW (P6 b 200 0)] [])=R)
  (h0:fr 0=x) (h3:fr 3=pA h.blks.length 1 0) (h4:fr 4=Ii 199):
  ∃ fr',R=some (.exit 0,fr',hx h [z,cW (cg b)] [])/\∀ t,t∉wr b8->fr' t=fr t:=by
 obtain ⟨r1,p,r2,r3⟩:=hr;obtain ⟨e,fr',h',rfl,⟨rfl,rfl⟩,hk⟩:=af hF 200
  (fun k fr hh=>fr 4=Ii (199 - (k:Int))/\hh=hx h [z,cW (P6 b 200 k)] [])
  (fun e fr hh=>e=.exit 0/\hh=hx h [z,cW (cg b)] [])
  ⟨h4,rfl⟩ (by
   rintro k fr1 hh hkN hkeep ⟨g4,rfl⟩;have g0:=kp hkeep h0;have g3:=kp hkeep h3;by_cases hlt:k < 200
   ·obtain ⟨i,hi⟩:∃ i:Nat,i=199 - k:=⟨_,rfl⟩;have hi200:i < 200:=by omega
    have g4':fr1 4=Ii (i:Int):=by rw [g4];congr 1;omega
    have w1:Wr ((i:Int) - 1)=199 - ((k+1:Nat):Int):=wy;have hst:P6 b 200 (k+1)=(P6 b 200 k).set (i / 8) (gd (P6 b 200 k) 0#64 (i / 8)*256#64+bw (gd b 0 i)):=by
     rw [P6,show 200 - 1 - k=i by omega]
    have t1:(i:Int).tdiv 8=((i / 8:Nat):Int):=xe i 8;have t2:=eK (i / 8) (by omega);have hq:i / 8 < 25:=by omega
    have hq2:i / 8<=24:=by omega
    generalize i / 8=q at*;have hm2:J.int .u64 256=wd 256#64:=rfl;have hib:i < b.length:=by omega
    have hL:=zay b 200 k;generalize hM1:P6 b 200 (k+1)=M1 at*;generalize P6 b 200 k=M0 at*;simp [-ji,b8,V,g0,g3,g4',show (0:Int)<=i by omega,t1,t2,da,eR,hq,hq2,hm2,hL,r2 i hib,r3 i _ _ hib,<- hst,w1];exact ⟨hlt,by rw [hM1]⟩
   ·have:k=200:=by omega
    subst this;simp [b8,g4,cg])
 exact ⟨fr',rfl,hk⟩
theorem N9 (L:az)(h:O)(bs:List (List J))(ts:List Nat)(i:Nat)(cap:Option Nat)(b:List Int)(hb:bs[i]?=some (cI .u8 b))(hl:b.length=200):
  aa ah L cG [sA h.blks.length i 0 1 200 cap] (hx h bs ts)=some (.agg (cW (cg b)),hx h bs ts):=by
 rw [pq];have hf:=Xj h bs ts i 200 cap .u8 b hb hl;rw [Hj,DW,hf,Hk,Nl,Ht];generalize hx h bs ts=H;have e0:cW (tab 25 fun _=>0#64)=cW (P6 b 200 0):=rfl;simp [jn,V,bH,e0,Z,ak,aq,ab,hl];generalize hF:run ah _ (.loop _) _ _=R;have hr:JM H .u8 (.vsl false (eI .u8 b)) b:=JM.vsl H .u8 false b;obtain ⟨fr1,rfl,hk1⟩:=zaz b hl _ _ hr hF (by simp) (by simp) (by simp;exact wrap_i64 (by decide) (by decide));have hw:(cg b).length=25:=by simp [cg]
 simp [hk1,wr,b8,bn,Z,aq,ab,hw]
def GrO (h:O)(bs:List (List J))(ts:List Nat)(f:Nat->Int)(v:J)(hh:O)(m:Nat):Prop:=
 (m=0/\v=.vsl true []/\hh=hx h bs ts)\/(0 < m/\∃ bs',(∃ js,bs'=bs++js)/\v=sA h.blks.length bs'.length 0 1 m none/\hh=hx h (bs'++[cI .u8 (tab m f)]) ts)
theorem GrO.step {h:O}{bs:List (List J)}{ts:List Nat}{f:Nat->Int}{v:J}{hh:O}{m:Nat}{L:az}(hg:GrO h bs ts f v hh m)(hm:m < 1000000)(hL:L.rob<=h.blks.length):
  ∃ v' hh',jm L hh 1 true v (.vsl true (eI .u8 [f m]))=some (v',hh')/\GrO h bs ts f v' hh' (m+1):=by
 rcases hg with ⟨rfl,rfl,rfl⟩ | ⟨h0,bs',⟨js,hjs⟩,rfl,rfl⟩
 ·refine ⟨_,_,zu L h bs ts 1 true [] (eI .u8 [f 0]) (by simp [am];rfl),.inr ⟨by omega,bs,⟨[],by simp⟩,?_,?_⟩⟩
  ·simp
  ·simp [tab,eI,cI]
 ·refine ⟨_,_,SI L h (bs'++[cI .u8 (tab m f)]) ts bs'.length m .u8 (tab m f) [f m] true (by simp) (by simp [am];omega),.inr ⟨by omega,(bs'++[cI .u8 (tab m f)]).set bs'.length [],⟨js++[[]],by rw [List.set_append_right _ _ (Nat.le_refl _),Nat.sub_self,hjs,List.append_assoc];rfl⟩,?_,?_⟩⟩
  ·simp
  ·rw [Vr]
theorem zkw (w:ac):((w % 256#64).toNat % 256:Nat)=w.toNat % 256:=by
 rw [BitVec.toNat_umod];show w.toNat % 256 % 256=_;omega
theorem YI {L : az}{fr : Fr}{h hh : O}{R : Option (cL × Fr × O)}(l : List ac)(bs : List (List J))(ts : List Nat)(i : Nat)(hi : i < 25)(f : Nat -> Int)(hf : f = fun j => Pl (gd l 0#64 (j / 8)) (j % 8))(hL : L.rob <= h.blks.length)
  (hF:run ah L (.loop et) fr hh=R) (hg:GrO h bs ts f (fr 3) hh (8*i))
  (h5:fr 5=wd (gd l 0#64 i)) (h6:fr 6=Ii 0):
  ∃ fr' hh',R=some (.exit 2,fr',hh')/\GrO h bs ts f (fr' 3) hh' (8*(i+1))/\∀ t,t∉wr et->fr' t=fr t:=by
 obtain ⟨e,fr',h',rfl,⟨rfl,h3'⟩,hk⟩:=af hF 8
  (fun k fr hh=>fr 6=Ii k/\fr 5=wd (gd l 0#64 i >>> (8*k))/\GrO h bs ts f (fr 3) hh (8*i+k))
  (fun e fr hh=>e=.exit 2/\GrO h bs ts f (fr 3) hh (8*(i+1)))
  ⟨h6, by simpa using h5, hg⟩ (by
   rintro k fr1 hh hkN hkeep ⟨g6,g5,gg⟩;by_cases hlt:k < 8
   ·have w1:Wr ((k:Int)+1)=k+1:=wz;have hfk:((((gd l 0#64 i >>> (8*k)).toNat % 256:Nat):Int))=f (8*i+k):=by
     rw [hf];simp only [Pl];rw [show (8*i+k) / 8=i by omega,show (8*i+k) % 8=k by omega]
    have hsh:gd l 0#64 i >>> (8*k) >>> 8=gd l 0#64 i >>> (8*(k+1)):=by
     rw [<- BitVec.shiftRight_add];rfl
    obtain ⟨v',hh',ea,gg'⟩:=gg.step (L:=L) (by omega) hL;have hby:=zkw (gd l 0#64 i >>> (8*k));have hu:=Fp (gd l 0#64 i >>> (8*k) % 256#64);rw [hby,hfk] at hu;generalize hw1:gd l 0#64 i >>> (8*(k+1))=w1' at*;generalize gd l 0#64 i >>> (8*k)=w at*;simp [-Fp,et,g6,g5,hlt,show (k:Int) < 8 by omega,w1,zd0,zd2,hu,ak,rep,J.cells,J.okV,chunks,fx,ea,hsh];exact ⟨by rw [hw1],gg'⟩
   ·have:k=8:=by omega
    subst this;have e8:8*i+8=8*(i+1):=by omega
    rw [e8] at gg;simp [et,g6,gg])
 exact ⟨fr',h',rfl,h3',hk⟩
theorem zkx {L : az}{fr : Fr}{h hh : O}{R : Option (cL × Fr × O)}(l : List ac)(hl : l.length = 25)(bs : List (List J))(ts : List Nat)(f : Nat -> Int)(hf : f = fun j => Pl (gd l 0#64 (j / 8)) (j % 8))(hL : L.rob <= h.blks.length)
  (hF:run ah L (.loop jP) fr hh=R) (hg:GrO h bs ts f (fr 3) hh 0)
  (h1:fr 1=.vptr (cW l) 0) (h4:fr 4=Ii 0):
  ∃ fr' hh',R=some (.exit 0,fr',hh')/\GrO h bs ts f (fr' 3) hh' 200:=by
 obtain ⟨e,fr',h',rfl,⟨rfl,h3'⟩,hk⟩:=af hF 25
  (fun k fr hh=>fr 4=Ii k/\GrO h bs ts f (fr 3) hh (8*k))
  (fun e fr hh=>e=.exit 0/\GrO h bs ts f (fr 3) hh 200)
  ⟨h4,hg⟩ (by
   rintro k fr1 hh hkN hkeep ⟨g4,gg⟩;have g1:=kp hkeep h1;by_cases hlt:k < 25
   ·have w1:Wr ((k:Int)+1)=k+1:=wz;simp [jP,g1,g4,hlt,show (k:Int) < 25 by omega,lI,hl];generalize hF:run ah _ (.loop _) _ _=R;obtain ⟨fr2,hh2,rfl,q1,q2⟩:=YI l bs ts k hlt f hf hL hF (by simpa using gg) (by simp) (by simp);simp [q1,q2,wr,et,bn,g4,w1];exact hlt
   ·have:k=25:=by omega
    subst this;simp [jP,g4];exact gg)
 exact ⟨fr',h',rfl,h3'⟩
theorem Lk (L:az)(h:O)(bs:List (List J))(ts:List Nat)(l:List ac)(hl:l.length=25)(hL:L.rob<=h.blks.length):
  ∃ bs',(∃ js,bs'=bs++js)/\aa ah L fh [.agg (cW l)] (hx h bs ts)=some (sA h.blks.length bs'.length 0 1 200 none,hx h (bs'++[cI .u8 (aS l)]) ts):=by
 rw [Bz];simp [oQ,rep,chunks,ak];generalize hF:run ah _ (.loop _) _ _=R;obtain ⟨fr',hh',rfl,hg⟩:=zkx l hl bs ts _ rfl hL hF (.inl ⟨rfl,by simp,by simp⟩) (by simp) (by simp);rcases hg with ⟨h0,_⟩ | ⟨_,bs',hj,e1,e2⟩
 ·omega
 ·refine ⟨bs',hj,?_⟩;simp [e1,e2];have:aS l=tab 200 fun j=>Pl (gd l 0#64 (j / 8)) (j % 8):=by unfold aS;rw [hl]
  rw [this]
theorem YK (L:az)(h:O)(bs:List (List J))(ts:List Nat)(l:List ac)(hl:l.length=25)(hL:L.rob<=h.blks.length):
  ∃ bs',aa ah L fh [.agg (cW l)] (hx h bs ts)=some (sA h.blks.length bs'.length 0 1 200 none,hx h (bs'++[cI .u8 (aS l)]) ts):=by
 obtain ⟨bs',_,e⟩:=Lk L h bs ts l hl hL;exact ⟨bs',e⟩
structure Sp where
 S:List Int
 a:Nat
 b:Nat
 c:Nat
def gk (S:List Int):List Int:=aS (lq (cg S))
theorem iK (S:List Int):(cg S).length=25:=by simp [cg]
theorem HP (l : List ac) : ce (aS l) := fun i hi => by
 unfold aS at hi |-;rw [dY (by simpa using hi)];unfold Pl;omega
@[simp] theorem wV (S:List Int):(gk S).length=200:=by simp [gk,aS,fN,iK]
theorem V1 (S:List Int):ce (gk S):=HP _
def ym (s:Sp):Sp:=⟨gk s.S,0,s.b,s.c+1⟩
def Qb (s:Sp):Sp:=if s.a=136 then ym s else s
def um (s:Sp)(u:Int):Sp:=⟨(Qb s).S.set (Qb s).a u,(Qb s).a+1,136,(Qb s).c⟩
def aA (s:Sp)(l:List Int):Sp:=l.foldl um s
def Om (s:Sp):Sp:=if s.b=136 then {ym s with b:=0} else s
def Jh (s:Sp):Sp:={Om s with b:=(Om s).b+1}
def zdo (s:Sp):Int:=gd (Om s).S 0 (Om s).b
def bD (s:Sp):Nat->Sp
 | 0=>s
 | n+1=>Jh (bD s n)
def fu (s:Sp)(n:Nat):List Int:=tab n fun k=>zdo (bD s k)
def BR (s:Sp):Sp:=⟨putAt (gk s.S) 0 (tab 136 fun _=>0),0,136,s.c+1⟩
def Sp.ok (s:Sp):Prop:=s.S.length=200/\ce s.S/\s.a<=136/\s.b<=136
theorem Jj {s:Sp}(h:s.ok):(ym s).ok:=⟨by simp [ym],V1 _,by simp [ym],h.2.2.2⟩
theorem zkJ {s:Sp}(h:s.ok):(Qb s).ok/\(Qb s).a < 136:=by
 unfold Qb;split
 ·exact ⟨Jj h,by simp [ym]⟩
 ·exact ⟨h,by have:=h.2.2.1;omega⟩
theorem zaS {s:Sp}(h:s.ok):(Om s).ok/\(Om s).b < 136:=by
 unfold Om;split
 ·exact ⟨⟨(Jj h).1,(Jj h).2.1,(Jj h).2.2.1,by simp⟩,by simp⟩
 ·exact ⟨h,by have:=h.2.2.2;omega⟩
theorem zaT {l : List Int}(hl : ce l)(i : Nat)(v : Int)(hv : 0 <= v /\ v < 256) : ce (l.set i v) := fun j hj => by
 have hj':j < l.length:=by simpa using hj
 by_cases hi:i < l.length
 ·rw [qh _ _ _ _ _ hi];split
  ·exact hv
  ·exact hl j hj'
 ·rw [List.set_eq_of_length_le (by omega)];exact hl j hj'
theorem zhn {s:Sp}(h:s.ok)(u:Int)(hu:0<=u/\u < 256):(um s u).ok:=by
 obtain ⟨⟨h1,h2,h3,h4⟩,h5⟩:=zkJ h;exact ⟨by simp [um,h1],zaT h2 _ _ hu,by simp only [um];omega,by simp [um]⟩
theorem uu {x:Int}{l:List Int}:ce (x :: l)↔(0<=x/\x < 256)/\ce l:=by
 constructor
 ·intro h;exact ⟨h 0 (by simp),fun i hi=>h (i+1) (by simpa using hi)⟩
 ·intro ⟨h1,h2⟩ i hi
  cases i with
  | zero=>exact h1
  | succ i=>exact h2 i (by simpa using hi)
theorem jh:∀ {l:List Int} {s:Sp},s.ok->ce l->(aA s l).ok
 | [],s,h,_=>h
 | u :: l,s,h,hl=>jh (l:=l) (zhn h u (uu.1 hl).1) (uu.1 hl).2
theorem zhs {s:Sp}(h:s.ok):(Jh s).ok:=by
 obtain ⟨⟨h1,h2,h3,h4⟩,h5⟩:=zaS h;exact ⟨h1,h2,h3,by simp only [Jh];omega⟩
theorem rJ {s:Sp}(h:s.ok):∀ n,(bD s n).ok
 | 0=>h
 | n+1=>zhs (rJ h n)
theorem Jk (n : Nat) : ce (tab n fun _ => 0) := fun i hi => by
 rw [dY (by simpa using hi)];omega
theorem zhv {l m:List Int}{off:Nat}(h:off+m.length<=l.length)(j:Nat)(hj:j < l.length):gd (putAt l off m) 0 j=if off<=j/\j < off+m.length then gd m 0 (j - off) else gd l 0 j:=by
 unfold putAt;by_cases h1:j < off
 ·rw [vJ _ _ _ _ (by simp;omega),xY h1,if_neg (by omega)]
 ·rw [yk _ _ _ _ (by simp;omega),List.length_take,Nat.min_eq_left (by omega)];by_cases h2:j < off+m.length
  ·rw [vJ _ _ _ _ (by omega),if_pos (by omega)]
  ·rw [yk _ _ _ _ (by omega),if_neg (by omega)];unfold gd;simp only [List.getD,List.getElem?_drop]
   congr 2;omega
theorem Rv {l m : List Int}{off : Nat}(h : off + m.length <= l.length)(hl : ce l)(hm : ce m) : ce (putAt l off m) := fun j hj => by
 rw [KW _ _ _ h] at hj;rw [zhv h j hj];split
 ·exact hm _ (by omega)
 ·exact hl j hj
theorem zkL {s:Sp}(h:s.ok):(BR s).ok:=
 ⟨by simp only [BR];rw [KW _ _ _ (by simp)];simp,Rv (by simp) (V1 _) (Jk 136),by simp [BR],by simp [BR]⟩
theorem Tp (s:Sp)(l m:List Int):aA s (l++m)=aA (aA s l) m:=by simp [aA]
theorem Ot (s:Sp)(l:List Int)(k:Nat)(h:k < l.length):aA s (l.take (k+1))=um (aA s (l.take k)) (gd l 0 k):=by
 rw [sQ 0 h,Tp];rfl
theorem Rw (s:Sp)(m:Nat):∀ n,bD s (m+n)=bD (bD s m) n
 | 0=>rfl
 | n+1=>by rw [<- Nat.add_assoc,bD,bD,Rw s m n]
theorem wZ (s:Sp)(n:Nat):(fu s n).length=n:=by simp [fu]
theorem zhw (s:Sp)(m n:Nat):fu s (m+n)=fu s m++fu (bD s m) n:=by
 refine List.ext_getElem? fun j=>?_;simp only [fu];rw [l6];by_cases h1:j < m
 ·rw [List.getElem?_append_left (by simpa using h1),l6,if_pos h1,if_pos (by omega)]
 ·rw [List.getElem?_append_right (by simp;omega),l6,AK];by_cases h2:j - m < n
  ·rw [if_pos h2,if_pos (by omega),<- Rw,show m+(j - m)=j by omega]
  ·rw [if_neg h2,if_neg (by omega)]
theorem Rx (s:Sp)(n:Nat):fu s (n+1)=fu s n++[zdo (bD s n)]:=by rw [zhw];rfl
theorem zdB {s:Sp}(h:s.a<=136)(u:Int):136*(um s u).c+(um s u).a=136*s.c+s.a+1/\1<=(um s u).a/\(um s u).a<=136/\s.c<=(um s u).c:=by
 unfold um Qb;split
 ·simp only [ym];omega
 ·simp only [];omega
theorem Ry:∀ {l:List Int} {s:Sp},s.a<=136->136*(aA s l).c+(aA s l).a=136*s.c+s.a+l.length/\(aA s l).a<=136/\s.c<=(aA s l).c/\(l≠[]->1<=(aA s l).a)
 | [],s,h=>by simp [aA,h]
 | u :: l, s, h => by
  obtain ⟨h1,h2,h3,h4⟩:=zdB h u;obtain ⟨g1,g2,g3,g4⟩:=Ry (l:=l) h3;have e:aA s (u :: l)=aA (um s u) l:=rfl;rw [e];refine ⟨by simp only [List.length_cons];omega,g2,by omega,fun _=>?_⟩;by_cases hl:l=[]
  ·subst hl;exact h2
  ·exact g4 hl
def rK (l:List Int):Sp:=⟨putAt (tab 200 fun _=>0) 136 l,0,136,0⟩
theorem zkQ {l:List Int}(h:l.length<=64)(hl:ce l):(rK l).ok:=
 ⟨by simp only [rK];rw [KW _ _ _ (by simp;omega)];simp,Rv (by simp;omega) (Jk 200) hl,by simp [rK],by simp [rK]⟩
end Go.Av
