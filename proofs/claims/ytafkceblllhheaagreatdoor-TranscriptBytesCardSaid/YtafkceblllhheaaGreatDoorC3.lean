/- The guard; the permutation of bytes and the digest give what plain functions of lists give. -/
import Derived.Test.YtafkceblllhheaaGreatDoorC1
import Derived.Test.YtafkceblllhheaaGreatDoorC2
import Derived.KernelRfl
set_option linter.unusedSimpArgs false
set_option linter.unusedVariables false
set_option maxHeartbeats 2000000
set_option maxRecDepth 20000
namespace Go.Av
structure Gd where
 l:List It
 k:Nat
 e:Int
def erV (e:Int):J:=if e=0 then .nilp else .vptr [Ii e] 0
def Hh (g:Gd):List J:=[.vsl false (g.l.map It.cells),Ii g.k,erV g.e]
def aG (g:Gd)(e:Int):Gd:=if g.e=0 then {g with e:=e} else g
theorem Wb {α:Type}{bs:List α}{b:Nat}{cs:α}(hb:bs[b]?=some cs):bs.set b cs=bs:=by
 refine List.ext_getElem? fun j=>?_;by_cases e:b=j
 ·subst e;rw [List.getElem?_set_self (List.getElem?_eq_some_iff.1 hb).1,hb]
 ·rw [List.getElem?_set_ne e]
@[simp] theorem zqx (L:az)(h:O)(p:J)(cs:List J)(o:Nat):KL L h 1 p (.vptr cs o)=Vv (dX L h p [.vptr cs o]):=by simp [KL,J.cells,J.okV]
theorem byR (s:ByteArray):(s==s)=true:=(Go.MapKept.bytes_beq s s).2 rfl
theorem HK (L:az)(h:O)(bs:List (List J))(ts:List Nat)(i:Nat)(g:Gd)(e:Int)(hb:bs[i]?=some (Hh g))(hL:L.rob<=h.blks.length):
  Z ah L dq [pA h.blks.length i 0,Ii e] (hx h bs ts)=some (Ii (aG g e).e,hx h (bs.set i (Hh (aG g e))) ts):=by
 rw [CC];have hi:=(List.getElem?_eq_some_iff.1 hb).1;have hgs:∀ x:List J,(bs.set i x)[i]?=some x:=fun x=>List.getElem?_set_self hi;have htr:=fun cs=>rL h bs ts i cs;have htr0:fY (hx h bs ts) (h.blks.length+bs.length) (h.toks.length+ts.length)=hx h bs ts:=by
  have:=htr (Hh g);rwa [Wb hb] at this
 obtain ⟨l,k,w⟩:=g;by_cases hw:w=0
 ·subst hw;have hv:erV 0=.nilp:=rfl;by_cases he:e=0
  ·subst he;have hf:aG ⟨l,k,0⟩ 0=⟨l,k,0⟩:=rfl;rw [hf,Wb hb];simp only [Hh,hv] at*;simp -implicitDefEqProofs [iP,aB,aA,hb,ap,GF,htr0]
  ·have hf:aG ⟨l,k,0⟩ e=⟨l,k,e⟩:=rfl;have hv2:erV e=.vptr [Ii e] 0:=if_neg he;have hne:(e !=0)=true:=bne_iff_ne.2 he;rw [hf];simp only [Hh,hv,hv2] at*;simp -implicitDefEqProofs [iP,aB,aA,hb,hgs,ap,GF,hne,al,setAt,pe,J.okV,J.cells,am,hL,aE,J.under,htr]
 ·have hf:aG ⟨l,k,w⟩ e=⟨l,k,w⟩:=if_neg hw;have hv2:erV w=.vptr [Ii w] 0:=if_neg hw;rw [hf,Wb hb];simp only [Hh,hv2] at*;simp -implicitDefEqProofs [iP,aB,aA,hb,hgs,ap,GF,htr0]
theorem PC (L:az)(h:O)(bs:List (List J))(ts:List Nat)(i:Nat)(g:Gd)(so:Bool)(e:Int)(hb:bs[i]?=some (Hh g))(hL:L.rob<=h.blks.length):
  Z ah L gh [pA h.blks.length i 0,.bool so,Ii e] (hx h bs ts)=some (Ii (aG g (if so then 0 else e)).e,hx h (bs.set i (Hh (aG g (if so then 0 else e)))) ts):=by
 rw [zq];have hF:=fun L hL e=>HK L h bs ts i g e hb hL;have htr:=fun cs=>rL h bs ts i cs
 cases so <;> simp -implicitDefEqProofs [nv,aB,aA,hF,hL,htr]
theorem zdh (L:az)(h:O)(x y:It):Z ah L xa [.agg x.cells,.agg y.cells] h=some (.bool (x.kind==y.kind&&(x.typ==y.typ&&x.count==y.count)),h):=by
 rw [L2];have hf:∀ x:It,nT h (.agg x.cells)=some (.agg x.cells,false):=fun x=>by simp [nT,bC,J.flat,It.cells]
 obtain ⟨a,b,c,l⟩:=x;obtain ⟨a',b',c',l'⟩:=y;simp only [It.cells] at hf |-;have hf1:=hf ⟨a,b,c,l⟩;have hf2:=hf ⟨a',b',c',l'⟩;simp only at hf1 hf2;simp -implicitDefEqProofs [Eb,V,hf1,hf2,aF,setAt,am,aa,cK,GD,byR]
def Gu (x y:It):Bool:=x.kind==y.kind&&(x.typ==y.typ&&x.count==y.count)
def eT (g:Gd)(k t c:Int):Bool:=decide (g.k < g.l.length)&&Gu (gd g.l ⟨0,0,0,⟨#[]⟩⟩ g.k) ⟨k,t,c,⟨#[]⟩⟩
def ak (g:Gd)(k t c:Int):Gd:=if (aG g (if eT g k t c then 0 else 10)).e=0 then {aG g (if eT g k t c then 0 else 10) with k:=g.k+1} else aG g (if eT g k t c then 0 else 10)
theorem Ak (g:Gd)(e:Int):(aG g e).l=g.l/\(aG g e).k=g.k:=by unfold aG;split <;> exact ⟨rfl,rfl⟩
theorem Ra (g:Gd)(k t c:Int):(ak g k t c).l=g.l:=by
 unfold ak;have:=Ak g (if eT g k t c then 0 else 10);generalize aG g (if eT g k t c then 0 else 10)=f at*
 split <;> exact this.1
theorem RE (g:Gd)(k t c:Int):(ak g k t c).e=(aG g (if eT g k t c then 0 else 10)).e:=by
 unfold ak;generalize aG g (if eT g k t c then 0 else 10)=f
 split <;> rfl
theorem MH (kd:IntKind)(c:Bool)(l:List It)(i:Nat)(h:i < l.length):bO none 4 (.vsl c (l.map It.cells)) (.int kd (i:Int))=some (.vptr (gd l ⟨0,0,0,⟨#[]⟩⟩ i).cells 0):=by
 simp [bO,Ke,gd,List.getD,h]
theorem zh4 (L:az)(h:O)(bs:List (List J))(ts:List Nat)(i:Nat)(g:Gd)(k t c:Int)(hk:g.k < 1000000000)(hb:bs[i]?=some (Hh g))(hL:L.rob<=h.blks.length):
  Z ah L lF [pA h.blks.length i 0,Ii k,Ii t,Ii c] (hx h bs ts)=some (Ii (ak g k t c).e,hx h (bs.set i (Hh (ak g k t c))) ts):=by
 rw [BZ];have hi:=(List.getElem?_eq_some_iff.1 hb).1;have hz:([Ii k,Ii t,Ii c,.str ⟨#[]⟩]:List J)=(⟨k,t,c,⟨#[]⟩⟩:It).cells:=rfl;obtain ⟨y,hy⟩:∃ y:It,y=⟨k,t,c,⟨#[]⟩⟩:=⟨_,rfl⟩;have hne:=RE g k t c;have hle:=Ak g (if eT g k t c then 0 else 10);have hS:=fun L h=>zdh L h (gd g.l ⟨0,0,0,⟨#[]⟩⟩ g.k) y;have hsm:((gd g.l ⟨0,0,0,⟨#[]⟩⟩ g.k).kind==y.kind&&((gd g.l ⟨0,0,0,⟨#[]⟩⟩ g.k).typ==y.typ&&(gd g.l ⟨0,0,0,⟨#[]⟩⟩ g.k).count==y.count))=Gu (gd g.l ⟨0,0,0,⟨#[]⟩⟩ g.k) ⟨k,t,c,⟨#[]⟩⟩:=by rw [hy];rfl
 rw [hsm] at hS;have hb2:∀ x:List J,(bs++[x])[i]?=some (Hh g):=fun x=>by rw [List.getElem?_append_left hi];exact hb
 have hU:=fun L hL x so=>PC L h (bs++[x]) ts i g so 10 (hb2 x) hL;simp only [List.set_append_left _ _ hi] at hU;have hg0:=fun x=>iQ bs [x] bs.length 0 rfl;have hs0:=fun x v=>lL bs [x] bs.length 0 v rfl;simp only [Nat.add_zero,List.getElem?_cons_zero,List.set_cons_zero] at hg0 hs0;have w1:Wr ((g.k:Int)+1)=((g.k+1:Nat):Int):=wy;have hcl:y.cells.length=4:=rfl;have hyc:[J.int .i64 k,Ii t,Ii c,.str ⟨#[]⟩]=y.cells:=by rw [hy];rfl
 have huy:aE 0 0 y.cells=true:=by rw [hy];rfl
 have hgs:∀ (x z:List J),(bs.set i x++[z])[i]?=some x:=fun x z=>by rw [List.getElem?_append_left (by simpa using hi),List.getElem?_set_self hi]
 have hss:∀ (x z w:List J),(bs.set i x++[z]).set i w=bs.set i w++[z]:=fun x z w=>by rw [List.set_append_left _ _ (by simpa using hi),List.set_set]
 have htr:=fun cs js=>Ev h (bs.set i cs) js ts bs.length (by simp);by_cases hlt:g.k < g.l.length
 ·have hltI:(g.k:Int) < (g.l.length:Int):=by omega
  have ia:=MH .i64 false g.l g.k hlt;have hso:eT g k t c=Gu (gd g.l ⟨0,0,0,⟨#[]⟩⟩ g.k) ⟨k,t,c,⟨#[]⟩⟩:=by unfold eT;rw [decide_eq_true hlt];rfl
  have hdef:ak g k t c=if (aG g (if eT g k t c then 0 else 10)).e=0 then {aG g (if eT g k t c then 0 else 10) with k:=g.k+1} else aG g (if eT g k t c then 0 else 10):=rfl
  rw [hso] at hdef hne hle;generalize Gu (gd g.l ⟨0,0,0,⟨#[]⟩⟩ g.k) ⟨k,t,c,⟨#[]⟩⟩=so at*;have hcx:(gd g.l ⟨0,0,0,⟨#[]⟩⟩ g.k).cells.length=4:=rfl;generalize (gd g.l ⟨0,0,0,⟨#[]⟩⟩ g.k).cells=xc at*;have hUs:=fun L hL x=>hU L hL x so;generalize aG g (if so=true then 0 else 10)=f at*;clear hU;generalize y.cells=yc at*;by_cases hf:f.e=0
  ·have hbe:(f.e==0)=true:=by rw [hf];rfl
   rw [if_pos hf] at hdef;rw [hdef];obtain ⟨fl,fk,fe⟩:=f;obtain ⟨l,k0,e0⟩:=g;simp only at*;obtain ⟨rfl,rfl⟩:=hle;subst hf;simp only [Hh] at*;generalize fk+1=k1 at*;simp -implicitDefEqProofs [iZ,aB,aA,hyc,al,setAt,hb,hb2,ap,hltI,ia,aa,hcx,hcl,hg0,hs0,au,ae,am,hL,huy,hS,hUs,hgs,hss,w1,htr]
  ·have hbe:(f.e==0)=false:=beq_false_of_ne hf;rw [if_neg hf] at hdef;rw [hdef];simp only [Hh] at hb hb2;simp -implicitDefEqProofs [iZ,aB,aA,hyc,al,setAt,hb,hb2,ap,hltI,ia,aa,hcx,hcl,hg0,hs0,au,ae,am,hL,huy,hS,hUs,hgs,hss,w1,htr,hbe]
 ·have hltI:¬(g.k:Int) < (g.l.length:Int):=by omega
  have hso:eT g k t c=false:=by unfold eT;rw [decide_eq_false hlt];rfl
  have hdef:ak g k t c=aG g 10:=by
   unfold ak;rw [hso];simp only [Bool.false_eq_true,if_false];rw [if_neg];unfold aG;split
   ·show ¬(10:Int)=0;decide
   ·assumption
  have hUs:=fun L hL x=>hU L hL x false;simp only [Bool.false_eq_true,if_false] at hUs;have hf:¬(aG g 10).e=0:=by
   unfold aG;split
   ·show ¬(10:Int)=0;decide
   ·assumption
  have hbe:((aG g 10).e==0)=false:=beq_false_of_ne hf;rw [hdef];generalize y.cells=yc,aG g 10=f at*;simp only [Hh] at hb hb2;simp -implicitDefEqProofs [iZ,aB,aA,hyc,al,setAt,hb,hb2,ap,hltI,aa,hcl,hg0,hs0,au,ae,am,hL,huy,hUs,hgs,hss,htr,hbe]
def mg (g:Gd):Gd:=aG g (if g.k=g.l.length then 0 else 12)
theorem WO (L:az)(h:O)(bs:List (List J))(ts:List Nat)(i:Nat)(g:Gd)(hb:bs[i]?=some (Hh g))(hL:L.rob<=h.blks.length):
  Z ah L jX [pA h.blks.length i 0] (hx h bs ts)=some (Ii (mg g).e,hx h (bs.set i (Hh (mg g))) ts):=by
 rw [zn];have hU:=fun L hL so=>PC L h bs ts i g so 12 hb hL;have htr:=fun cs=>rL h bs ts i cs;by_cases he:g.k=g.l.length
 ·have hbe:((g.k:Int)==(g.l.length:Int))=true:=by rw [he];simp
  have hd:mg g=aG g 0:=by unfold mg;rw [if_pos he]
  rw [hd];have hUs:=fun L hL=>hU L hL true;simp only [if_true] at hUs;generalize aG g 0=f at*;simp only [Hh] at hb;simp -implicitDefEqProofs [jC,aB,aA,hb,ap,hbe,hUs,hL,htr]
 ·have hbe:((g.k:Int)==(g.l.length:Int))=false:=beq_false_of_ne (by omega);have hd:mg g=aG g 12:=by unfold mg;rw [if_neg he]
  rw [hd];have hUs:=fun L hL=>hU L hL false;simp only [Bool.false_eq_true,if_false] at hUs;generalize aG g 12=f at*;simp only [Hh] at hb;simp -implicitDefEqProofs [jC,aB,aA,hb,ap,hbe,hUs,hL,htr]
def rotl (x:ac)(n:Nat):ac:=(x <<< (n % 64))|||(x >>> (64 - n % 64))
theorem zdf (L:az)(h:O)(x:ac)(n:Nat)(hn:n < 9223372036854775808):Z ah L dY [wd x,Ii n] h=some (wd (rotl x n),h):=by
 rw [vi];have e1:IntKind.u64.wrap (n:Int)=n:=F1 n (by omega);have e2:aV .and (.int .u64 (n:Int)) (.int .u64 63)=some (.int .u64 ((n % 64:Nat):Int)):=by
  rw [wS];show some (J.int .u64 (IntKind.u64.wrap ((BitVec.ofInt 64 (n:Int)&&&BitVec.ofInt 64 (63:Int):BitVec 64).toNat:Int)))=_;have:(BitVec.ofInt 64 (n:Int)&&&BitVec.ofInt 64 (63:Int):BitVec 64).toNat=n % 64:=by
   rw [BitVec.toNat_and];have h1:(BitVec.ofInt 64 (n:Int)).toNat=n:=by rw [BitVec.toNat_ofInt];omega
   have h2:(BitVec.ofInt 64 (63:Int)).toNat=2 ^ 6 - 1:=by decide
   rw [h1,h2,Nat.and_two_pow_sub_one_eq_mod]
  rw [this,F1 _ (by omega)]
 have e3:aV .sub (.int .u64 64) (.int .u64 ((n % 64:Nat):Int))=some (.int .u64 ((64 - n % 64:Nat):Int)):=by
  rw [QO];have:(64:Int) - ((n % 64:Nat):Int)=((64 - n % 64:Nat):Int):=by omega
  rw [this,F1 _ (by omega)]
 generalize hm:n % 64=m at e2 e3;have hm64:m<=64:=by omega
 generalize hk:64 - m=k at e3;have hk64:k<=64:=by omega
 simp [j9,e1,e2,e3,Nz,yw,hm64,hk64, -wS, -QO, -wV, -jz];simp [rotl,hm,hk]
def Fc (l:List ac)(x:Nat):ac:=gd l 0#64 x ^^^ gd l 0#64 (x+5) ^^^ gd l 0#64 (x+10) ^^^ gd l 0#64 (x+15) ^^^ gd l 0#64 (x+20)
def Ox (l:List ac)(k x:Nat):ac:=(List.range k).foldl (fun c i=>if i % 5=x then c ^^^ gd l 0#64 i else c) 0
theorem zbv (l:List ac)(k x:Nat):Ox l (k+1) x=if k % 5=x then Ox l k x ^^^ gd l 0#64 k else Ox l k x:=by
 simp [Ox,List.range_succ]
theorem zeo (l:List ac)(x:Nat)(hx:x < 5):Ox l 25 x=Fc l x:=by
 unfold Ox Fc;have:x=0\/x=1\/x=2\/x=3\/x=4:=by omega
 rcases this with rfl | rfl | rfl | rfl | rfl <;> simp [show List.range 25=[0,1,2,3,4,5,6,7,8,9,10,11,12,13,14,15,16,17,18,19,20,21,22,23,24] from by decide]
def Dx (l:List ac)(i:Nat):ac:=gd l 0#64 i ^^^ (Fc l ((i % 5+4) % 5) ^^^ rotl (Fc l ((i % 5+1) % 5)) 1)
def fE (l:List ac):List ac:=tab 25 (Dx l)
theorem uI (k:Nat):(k:Int).tmod 5=((k % 5:Nat):Int):=by rw [Int.tmod_eq_emod_of_nonneg (by omega)];omega
theorem Ut {fr:Fr}{h:O}{R:Option (dt × Fr × O)}(s:List ac)(hs:s.length=25)(b z:List J)
  (hF:run ah (V h) (.loop bu) fr (hx h [b,z,cW (tab 5 fun _=>0#64)] [])=R)
  (h8:fr 8=.agg (cW s)) (h9:fr 9=Ii 0) (h3:fr 3=pA h.blks.length 2 0):
  ∃ fr',R=some (.exit 0,fr',hx h [b,z,cW (tab 5 (Fc s))] [])/\∀ t,t∉wr bu->fr' t=fr t:=by
 obtain ⟨e,fr',h',rfl,⟨rfl,rfl⟩,hk⟩:=af hF 25
  (fun k fr hh=>fr 9=Ii k/\hh=hx h [b,z,cW (tab 5 (Ox s k))] [])
  (fun e fr hh=>e=.exit 0/\hh=hx h [b,z,cW (tab 5 (Fc s))] [])
  ⟨h9,rfl⟩ (by
   rintro k fr1 hh hkN hkeep ⟨g9,rfl⟩;have g8:=kp hkeep h8;have g3:=kp hkeep h3;by_cases hlt:k < 25
   ·have w2:Wr ((k:Int)+1)=k+1:=wz;have e5:=uI k;have hset:(tab 5 (Ox s k)).set (k % 5) (Ox s k (k % 5) ^^^ gd s 0#64 k)=tab 5 (Ox s (k+1)):=by
     rw [vh];refine a8 fun j hj=>?_;rw [zbv];by_cases hj:j=k % 5
     ·subst hj;simp
     ·simp [hj,Ne.symm hj]
    generalize hm:k % 5=m at e5 hset;have hm5:m < 5:=by omega
    simp [bu,V,g9,g8,g3,hlt,show (k:Int) < 25 by omega,w2,Sn,zlH,hs,bQ,e5,e7,hm5,show m<=4 by omega,dZ,hset]
   ·have:k=25:=by omega
    subst this;simp [bu,g9,g8,g3];exact congrArg (fun c=>hx h [b,z,c] []) (congrArg cW (a8 fun j hj=>zeo s j hj)))
 exact ⟨fr',rfl,hk⟩
theorem Uu {fr:Fr}{h:O}{R:Option (dt × Fr × O)}(s:List ac)(hs:s.length=25)(z:List J)
  (hF:run ah (V h) (.loop dS) fr (hx h [cW s,z,cW (tab 5 (Fc s))] [])=R)
  (h1:fr 1=pA h.blks.length 0 0) (h3:fr 3=pA h.blks.length 2 0) (h21:fr 21=Ii 0):
  ∃ fr',R=some (.exit 2,fr',hx h [cW (fE s),z,cW (tab 5 (Fc s))] [])/\∀ t,t∉wr dS->fr' t=fr t:=by
 obtain ⟨e,fr',h',rfl,⟨rfl,rfl⟩,hk⟩:=af hF 25
  (fun k fr hh=>fr 21=Ii k/\hh=hx h [cW (tab 25 fun j=>if j < k then Dx s j else gd s 0#64 j),z,cW (tab 5 (Fc s))] [])
  (fun e fr hh=>e=.exit 2/\hh=hx h [cW (fE s),z,cW (tab 5 (Fc s))] [])
  ⟨h21, by simp [<- EP 0#64 hs]⟩ (by
   rintro k fr1 hh hkN hkeep ⟨g21,rfl⟩;have g1:=kp hkeep h1;have g3:=kp hkeep h3;by_cases hlt:k < 25
   ·have w2:Wr ((k:Int)+1)=k+1:=wz;have e5:=uI k;have hset : (tab 25 fun j => if j < k then Dx s j else gd s 0#64 j).set k (Dx s k) = tab 25 fun j => if j < k + 1 then Dx s j else gd s 0#64 j := by
     rw [vh];refine a8 fun j hj=>?_;by_cases h1:j=k
     ·subst h1;simp
     ·by_cases h2:j < k
      ·simp [h1,h2,show j < k+1 by omega]
      ·simp [h1,h2,show ¬j < k+1 by omega]
    have hth:Dx s k=gd s 0#64 k ^^^ (Fc s ((k % 5+4) % 5) ^^^ rotl (Fc s ((k % 5+1) % 5)) 1):=rfl;have hold:(fun j=>if j < k then Dx s j else gd s 0#64 j) k=gd s 0#64 k:=by simp
    have w4:Wr (((k % 5:Nat):Int)+4)=((k % 5+4:Nat):Int):=wy;have w1:Wr (((k % 5:Nat):Int)+1)=((k % 5+1:Nat):Int):=wy;have t4:=uI (k % 5+4);have t1:=uI (k % 5+1);generalize hga:(k % 5+4) % 5=a at t4 hth;generalize hgb:(k % 5+1) % 5=b at t1 hth;generalize hm:k % 5=m at e5 w4 w1 t4 t1;rw [hth] at hset;have ha5:a < 5:=by omega
    have hb5:b < 5:=by omega
    simp only [Int.natCast_add,Int.cast_ofNat_Int] at w4 w1 t4 t1;have hrot:=fun L h x=>zdf L h x 1 (by decide);simp only [Int.natCast_one] at hrot;simp [dS,V,g21,g1,g3,hlt,show (k:Int) < 25 by omega,w2,bQ,e5,w4,w1,t4,t1,e7,ha5,hb5,dZ,hset,hrot,show k<=24 by omega]
   ·have:k=25:=by omega
    subst this;simp [dS,g21];exact congrArg (fun c=>hx h [c,z,cW (tab 5 (Fc s))] []) (congrArg cW (a8 fun j hj=>by simp [hj])))
 exact ⟨fr',rfl,hk⟩
theorem zep (L:az)(h:O)(s:List ac)(hs:s.length=25):Z ah L jM [.agg (cW s)] h=some (.agg (cW (fE s)),h):=by
 rw [zy];simp [ny,V,bH,aF,J.okV,J.cells,aa,hs];generalize hF:run ah _ (.loop _) _ _=R;obtain ⟨fr1,rfl,hk1⟩:=Ut s hs _ _ hF (by simp) (by simp) (by simp);simp [hk1,wr,bu,bj];generalize hF:run ah _ (.loop _) _ _=R;obtain ⟨fr2,rfl,hk2⟩:=Uu s hs _ hF (by simp [hk1,wr,bu,bj]) (by simp [hk1,wr,bu,bj]) (by simp);simp [hk1,hk2,wr,bu,dS,bj,aa,fE,au,ae]
def zi:Nat->Nat × Nat
 | 0=>(1,0)
 | t+1=>((zi t).2,(2*(zi t).1+3*(zi t).2) % 5)
theorem WT:∀ t,(zi t).1 < 5/\(zi t).2 < 5
 | 0=>by simp [zi]
 | t + 1 => by
  have:=WT t;simp only [zi];omega
def ye (l:List ac):Nat->List ac
 | 0=>tab 25 fun j=>if j=0 then gd l 0#64 0 else 0#64
 | t+1=>(ye l t).set ((zi t).2+5*((2*(zi t).1+3*(zi t).2) % 5)) (rotl (gd l 0#64 ((zi t).1+5*(zi t).2)) ((t+1)*(t+2) / 2))
@[simp] theorem WR (l:List ac):∀ t,(ye l t).length=25
 | 0=>by simp [ye]
 | t+1=>by simp [ye,WR l t]
def vU (l:List ac):List ac:=ye l 24
theorem WU {fr:Fr}{h:O}{R:Option (dt × Fr × O)}(s:List ac)(hs:s.length=25)(z:List J)
  (hF:run ah (V h) (.loop dT) fr (hx h [z,cW (ye s 0)] [])=R)
  (h1:fr 1=.vptr (cW s) 0) (h3:fr 3=pA h.blks.length 1 0) (h4:fr 4=Ii 1) (h5:fr 5=Ii 0) (h11:fr 11=Ii 0):
  ∃ fr',R=some (.exit 0,fr',hx h [z,cW (vU s)] [])/\∀ t,t∉wr dT->fr' t=fr t:=by
 obtain ⟨e,fr',h',rfl,⟨rfl,rfl⟩,hk⟩:=af hF 24
  (fun k fr hh=>fr 11=Ii k/\fr 4=Ii ((zi k).1:Nat)/\fr 5=Ii ((zi k).2:Nat)/\hh=hx h [z,cW (ye s k)] [])
  (fun e fr hh=>e=.exit 0/\hh=hx h [z,cW (vU s)] [])
  ⟨h11,h4,h5,rfl⟩ (by
   rintro k fr1 hh hkN hkeep ⟨g11,g4,g5,rfl⟩;have g1:=kp hkeep h1;have g3:=kp hkeep h3;by_cases hlt:k < 24
   ·obtain ⟨hx5,hy5⟩:=WT k;have hst:ye s (k+1)=(ye s k).set ((zi k).2+5*((2*(zi k).1+3*(zi k).2) % 5)) (rotl (gd s 0#64 ((zi k).1+5*(zi k).2)) ((k+1)*(k+2) / 2)):=rfl;have hp:zi (k+1)=((zi k).2,(2*(zi k).1+3*(zi k).2) % 5):=rfl;generalize (zi k).2=y,(zi k).1=x at*;have w1:Wr ((k:Int)+1)=k+1:=wz;have w2:Wr ((k:Int)+2)=k+2:=wz;have hmul:(k+1)*(k+2)<=600:=Nat.le_trans (Nat.mul_le_mul (show k+1<=24 by omega) (show k+2<=25 by omega)) (by decide);have w3:IntKind.i64.wrap (((k:Int)+1)*(k+2))=(((k+1)*(k+2):Nat):Int):=by
     rw [<- eF ((k+1)*(k+2)) (by omega)];simp only [Int.natCast_mul,Int.natCast_add,Int.cast_ofNat_Int]
    have w4:=Us ((k+1)*(k+2));have w5:=eF ((k+1)*(k+2) / 2) (by omega);have w6:IntKind.i64.wrap (2*(x:Int))=((2*x:Nat):Int):=by
     rw [<- eF (2*x) (by omega)];simp only [Int.natCast_mul,Int.natCast_add,Int.cast_ofNat_Int]
    have w7:IntKind.i64.wrap (3*(y:Int))=((3*y:Nat):Int):=by
     rw [<- eF (3*y) (by omega)];simp only [Int.natCast_mul,Int.natCast_add,Int.cast_ofNat_Int]
    have w8:IntKind.i64.wrap (((2*x:Nat):Int)+((3*y:Nat):Int))=((2*x+3*y:Nat):Int):=by
     rw [<- eF (2*x+3*y) (by omega)];simp only [Int.natCast_mul,Int.natCast_add,Int.cast_ofNat_Int]
    have w9:=uI (2*x+3*y);generalize hn:(2*x+3*y) % 5=n at*;have hn5:n < 5:=by omega
    have w10:IntKind.i64.wrap (5*(n:Int))=((5*n:Nat):Int):=by
     rw [<- eF (5*n) (by omega)];simp only [Int.natCast_mul,Int.natCast_add,Int.cast_ofNat_Int]
    have w11:IntKind.i64.wrap ((y:Int)+((5*n:Nat):Int))=((y+5*n:Nat):Int):=by
     rw [<- eF (y+5*n) (by omega)];simp only [Int.natCast_mul,Int.natCast_add,Int.cast_ofNat_Int]
    have w12:IntKind.i64.wrap (5*(y:Int))=((5*y:Nat):Int):=by
     rw [<- eF (5*y) (by omega)];simp only [Int.natCast_mul,Int.natCast_add,Int.cast_ofNat_Int]
    have w13:IntKind.i64.wrap ((x:Int)+((5*y:Nat):Int))=((x+5*y:Nat):Int):=by
     rw [<- eF (x+5*y) (by omega)];simp only [Int.natCast_mul,Int.natCast_add,Int.cast_ofNat_Int]
    have hd25:y+5*n < 25:=by omega
    have hd24:y+5*n<=24:=by omega
    have hs25:x+5*y < 25:=by omega
    generalize hd:y+5*n=d at*;generalize hsr:x+5*y=sr at*;generalize hr:(k+1)*(k+2) / 2=r at*;generalize 3*y=y3,2*x=x2,5*y=y5,5*n=n5,2*x+3*y=xy,(k+1)*(k+2)=kk at*;have hrot:=fun L h v=>zdf L h v r (by omega);simp [dT,V,g11,g1,g3,g4,g5,hlt,show (k:Int) < 24 by omega,w1,w2,w3,w4,w5,w6,w7,w8,w9,w10,w11,w12,w13,bQ,eN,e7,lG,hd25,hd24,hs25,hs,hrot,<- hst,hp]
   ·have:k=24:=by omega
    subst this;simp [dT,g11,vU])
 exact ⟨fr',rfl,hk⟩
theorem zes (L:az)(h:O)(s:List ac)(hs:s.length=25):Z ah L jN [.agg (cW s)] h=some (.agg (cW (vU s)),h):=by
 rw [zC];have e0 : cW ((tab 25 fun _ => 0#64).set 0 (gd s 0#64 0)) = cW (ye s 0) := by
  rw [vh];exact congrArg cW (a8 fun j _=>rfl)
 simp [nz,V,bH,aa,hs,al,au,ae,e0];generalize hF:run ah _ (.loop _) _ _=R;obtain ⟨fr1,rfl,hk1⟩:=WU s hs _ hF (by simp) (by simp) (by simp) (by simp) (by simp);simp [hk1,wr,dT,bj,aa,vU,au,ae]
def WV (l:List ac)(i:Nat):ac:=gd l 0#64 i ^^^ (gd l 0#64 (i - i % 5+(i+2) % 5)&&&~~~ gd l 0#64 (i - i % 5+(i+1) % 5))
def re (l:List ac):List ac:=tab 25 (WV l)
theorem zet {fr:Fr}{h:O}{R:Option (dt × Fr × O)}(s:List ac)(hs:s.length=25)(z:List J)
  (hF:run ah (V h) (.loop ff) fr (hx h [z,cW s] [])=R)
  (h1:fr 1=.vptr (cW s) 0) (h3:fr 3=pA h.blks.length 1 0) (h7:fr 7=Ii 0):
  ∃ fr',R=some (.exit 0,fr',hx h [z,cW (re s)] [])/\∀ t,t∉wr ff->fr' t=fr t:=by
 obtain ⟨e,fr',h',rfl,⟨rfl,rfl⟩,hk⟩:=af hF 25
  (fun k fr hh=>fr 7=Ii k/\hh=hx h [z,cW (cV 25 (WV s) (gd s 0#64) k)] [])
  (fun e fr hh=>e=.exit 0/\hh=hx h [z,cW (re s)] [])
  ⟨h7, by simp [kR, <- EP 0#64 hs]⟩ (by
   rintro k fr1 hh hkN hkeep ⟨g7,rfl⟩;have g1:=kp hkeep h1;have g3:=kp hkeep h3;by_cases hlt:k < 25
   ·have hset:(cV 25 (WV s) (gd s 0#64) k).set k (WV s k)=cV 25 (WV s) (gd s 0#64) (k+1):=nJ ..;have hk1:WV s k=gd s 0#64 k ^^^ (gd s 0#64 (k - k % 5+(k+2) % 5)&&&~~~ gd s 0#64 (k - k % 5+(k+1) % 5)):=rfl;rw [hk1] at hset;clear hk1;have w0:=uI k;have w1:IntKind.i64.wrap ((k:Int) - ((k % 5:Nat):Int))=((k - k % 5:Nat):Int):=by
     rw [<- eF (k - k % 5) (by omega)];congr 1;omega
    have w2:Wr ((k:Int)+1)=((k+1:Nat):Int):=wz;have w3:Wr ((k:Int)+2)=((k+2:Nat):Int):=wz;have w4:=uI (k+1);have w5:=uI (k+2);have w6:IntKind.i64.wrap (((k - k % 5:Nat):Int)+(((k+1) % 5:Nat):Int))=((k - k % 5+(k+1) % 5:Nat):Int):=by
     rw [<- eF (k - k % 5+(k+1) % 5) (by omega),Int.natCast_add]
    have w7:IntKind.i64.wrap (((k - k % 5:Nat):Int)+(((k+2) % 5:Nat):Int))=((k - k % 5+(k+2) % 5:Nat):Int):=by
     rw [<- eF (k - k % 5+(k+2) % 5) (by omega),Int.natCast_add]
    have ha:k - k % 5+(k+1) % 5 < 25:=by omega
    have hb:k - k % 5+(k+2) % 5 < 25:=by omega
    generalize k - k % 5+(k+1) % 5=a at*;generalize k % 5=r,k - k % 5=q,(k+2) % 5=d,(k+1) % 5=c,k - k % 5+(k+2) % 5=b at*;have w8:((k+1:Nat):Int)=(k:Int)+1:=rfl;generalize hk1:k+1=k1 at*;generalize k+2=k2 at*;simp [ff,V,g7,g1,g3,hlt,show (k:Int) < 25 by omega,show k<=24 by omega,w0,w1,w2,w3,w4,w5,w6,w7,bQ,e7,lG,ha,hb,LA,hs,hset,hk1,show k1<=25 by omega]
    try omega
   ·have:k=25:=by omega
    subst this;simp [ff,g7,tO,re])
 exact ⟨fr',rfl,hk⟩
theorem zlo (L:az)(h:O)(s:List ac)(hs:s.length=25):Z ah L ll [.agg (cW s)] h=some (.agg (cW (re s)),h):=by
 rw [CI];simp [pz,V,bH,aa,hs,au,ae];generalize hF:run ah _ (.loop _) _ _=R;obtain ⟨fr1,rfl,hk1⟩:=zet s hs _ hF (by simp) (by simp) (by simp);simp [hk1,wr,ff,bj,aa,re,au,ae]
def rcW:List ac:=[1#64,32898#64,9223372036854808714#64,9223372039002292224#64,32907#64,2147483649#64,9223372039002292353#64,9223372036854808585#64,138#64,136#64,2147516425#64,2147483658#64,2147516555#64,9223372036854775947#64,9223372036854808713#64,9223372036854808579#64,9223372036854808578#64,9223372036854775936#64,32778#64,9223372039002259466#64,9223372039002292353#64,9223372036854808704#64,2147483649#64,9223372039002292232#64]
theorem zia (fr:Fr):ah.ev fr (.g 0)=.vptr (cW rcW) 0:=rfl
theorem UA (L:az)(h:O)(k:Nat)(hk:k < 24):Z ah L mK [Ii k] h=some (wd (gd rcW 0#64 k),h):=by
 rw [D4];have hl:rcW.length=24:=rfl;simp [qs,show ¬(24:Int)<=k by omega,show ¬(k:Int) < 0 by omega,zia,lG,hk,hl]
def DA (l:List ac)(k:Nat):List ac:=(re (vU (fE l))).set 0 (gd (re (vU (fE l))) 0#64 0 ^^^ gd rcW 0#64 k)
@[simp] theorem zlr (l:List ac):(fE l).length=25:=by simp [fE]
@[simp] theorem zls (l:List ac):(vU l).length=25:=by simp [vU]
@[simp] theorem zoH (l:List ac):(re l).length=25:=by simp [re]
@[simp] theorem zlt (l:List ac)(k:Nat):(DA l k).length=25:=by simp [DA]
theorem zbE (L:az)(h:O)(s:List ac)(hs:s.length=25)(k:Nat)(hk:k < 24):Z ah L jL [.agg (cW s),Ii k] h=some (.agg (cW (DA s k)),h):=by
 rw [zb];simp [ng,V,bH,aF,J.okV,J.cells,aa,hs,au,ae,zep,zes,zlo,UA,hk,DA]
def Km (l:List ac)(k:Nat):List ac:=(List.range k).foldl DA l
theorem GX (l:List ac)(k:Nat):Km l (k+1)=DA (Km l k) k:=by simp [Km,List.range_succ]
theorem P8 (l:List ac)(hl:l.length=25):∀ k,(Km l k).length=25
 | 0=>by simpa [Km] using hl
 | k+1=>by rw [GX];simp
def kQ (l:List ac):List ac:=Km l 24
theorem RL {fr:Fr}{h:O}{R:Option (dt × Fr × O)}(s:List ac)(hs:s.length=25)(z:List J)
  (hF:run ah (V h) (.loop cU) fr (hx h [cW s,z] [])=R)
  (h1:fr 1=pA h.blks.length 0 0) (h4:fr 4=Ii 0):
  ∃ fr',R=some (.exit 0,fr',hx h [cW (kQ s),z] [])/\∀ t,t∉wr cU->fr' t=fr t:=by
 obtain ⟨e,fr',h',rfl,⟨rfl,rfl⟩,hk⟩:=af hF 24
  (fun k fr hh=>fr 4=Ii k/\hh=hx h [cW (Km s k),z] [])
  (fun e fr hh=>e=.exit 0/\hh=hx h [cW (kQ s),z] [])
  ⟨h4,rfl⟩ (by
   rintro k fr1 hh hkN hkeep ⟨g4,rfl⟩;have g1:=kp hkeep h1;by_cases hlt:k < 24
   ·have w1:Wr ((k:Int)+1)=k+1:=wz;have hl:=P8 s hs k;simp [cU,V,g4,g1,hlt,show (k:Int) < 24 by omega,w1,aa,hl,au,ae,zbE,GX]
   ·have:k=24:=by omega
    subst this;simp [cU,g4,kQ])
 exact ⟨fr',rfl,hk⟩
theorem fH (l:List ac)(hl:l.length=25):(kQ l).length=25:=P8 l hl 24
theorem GZ (L:az)(h:O)(s:List ac)(hs:s.length=25):Z ah L dy [.agg (cW s)] h=some (.agg (cW (kQ s)),h):=by
 rw [wI];simp [lI,V,bH,aF,J.okV,J.cells,aa,hs];generalize hF:run ah _ (.loop _) _ _=R;obtain ⟨fr1,rfl,hk1⟩:=RL s hs _ hF (by simp) (by simp);simp [hk1,wr,cU,bj,aa,fH,hs,au,ae]
def di (l:List ac)(j:Nat):Bool:=(gd l 0#64 (j / 320+5*(j / 64 % 5))).getLsbD (j % 64)
def aP (l:List ac):List Bool:=tab 1600 (di l)
@[simp] theorem zna (l:List ac):(aP l).length=1600:=by simp [aP]
theorem jS (l:List ac)(x y z:Nat)(hx:x < 5)(hy:y < 5)(hz:z < 64):di l (x*320+y*64+z)=(gd l 0#64 (x+5*y)).getLsbD z:=by
 unfold di;rw [show (x*320+y*64+z) / 320=x by omega,show (x*320+y*64+z) / 64 % 5=y by omega,show (x*320+y*64+z) % 64=z by omega]
theorem MU (l:List ac)(x y z:Nat)(hx:x < 5)(hy:y < 5)(hz:z < 64):gd (aP l) false (x*320+y*64+z)=(gd l 0#64 (x+5*y)).getLsbD z:=by
 unfold aP;rw [dZ (by omega),jS l x y z hx hy hz]
def VV (i z j:Nat):Prop:=j / 320+5*(j / 64 % 5) < i\/j / 320+5*(j / 64 % 5)=i/\j % 64 < z
instance (i z j:Nat):Decidable (VV i z j):=by unfold VV;exact inferInstance
def VX (l:List ac)(i z:Nat):List Bool:=tab 1600 fun j=>if VV i z j then di l j else false
@[simp] theorem zpI (l:List ac)(i z:Nat):(VX l i z).length=1600:=by simp [VX]
theorem zc2 (l : List ac) : VX l 0 0 = tab 1600 fun _ => false := a8 fun j hj => by
 have:¬VV 0 0 j:=by unfold VV;omega
 rw [if_neg this]
theorem zc3 (l : List ac)(i : Nat) : VX l i 64 = VX l (i + 1) 0 := a8 fun j hj => by
 by_cases h:VV i 64 j
 ·have h2:VV (i+1) 0 j:=by unfold VV at*;omega
  rw [if_pos h,if_pos h2]
 ·have h2:¬VV (i+1) 0 j:=by unfold VV at*;omega
  rw [if_neg h,if_neg h2]
theorem zg8 (l : List ac) : VX l 25 0 = aP l := a8 fun j hj => by
 have:VV 25 0 j:=by unfold VV;omega
 rw [if_pos this]
theorem zai {j:Nat}(hj:j < 1600):∃ x y z,x < 5/\y < 5/\z < 64/\j=x*320+y*64+z:=⟨j / 320,j / 64 % 5,j % 64,by omega,by omega,by omega,by omega⟩
theorem L8 (i k x y z:Nat)(hx:x < 5)(hy:y < 5)(hz:z < 64):VV i k (x*320+y*64+z)↔x+5*y < i\/x+5*y=i/\z < k:=by
 unfold VV;rw [show (x*320+y*64+z) / 320=x by omega,show (x*320+y*64+z) / 64 % 5=y by omega,show (x*320+y*64+z) % 64=z by omega]
theorem zg9 (l:List ac)(i z:Nat)(hi:i < 25)(hz:z < 64):(VX l i z).set (i % 5*320+i / 5*64+z) ((gd l 0#64 i).getLsbD z)=VX l i (z+1):=by
 unfold VX;rw [vh];refine a8 fun j hj=>?_;have hx5:i % 5 < 5:=by omega
 have hy5:i / 5 < 5:=by omega
 have hi2:i % 5+5*(i / 5)=i:=by omega
 generalize i % 5=p at*;generalize i / 5=q at*;obtain ⟨x,y,c,hx,hy,hc,rfl⟩:=zai hj;by_cases h:x*320+y*64+c=p*320+q*64+z
 ·have e1:x=p:=by omega
  have e2:y=q:=by omega
  have e3:c=z:=by omega
  subst e1 e2 e3;have h2:VV i (c+1) (x*320+y*64+c):=(L8 _ _ _ _ _ hx hy hc).2 (by omega);rw [if_pos rfl,if_pos h2,jS l _ _ _ hx hy hc,hi2]
 ·rw [if_neg h];by_cases h1:x+5*y < i\/x+5*y=i/\c < z
  ·rw [if_pos ((L8 _ _ _ _ _ hx hy hc).2 h1),if_pos ((L8 _ _ _ _ _ hx hy hc).2 (by omega))]
  ·rw [if_neg (fun h=>h1 ((L8 _ _ _ _ _ hx hy hc).1 h)),if_neg (fun h2=>by have:=(L8 _ _ _ _ _ hx hy hc).1 h2;omega)]
theorem zha (x:ac):aV .rem (wd x) (.int .u64 2)=some (wd (x % 2#64)):=by
 unfold wd;rw [bQ _ _ _ (by decide),BitVec.toNat_umod];exact congrArg (fun n=>some (J.int .u64 n)) (rt x.toNat 2)
theorem zal (x:ac):aV .rem (wd x) (.int .u64 256)=some (wd (x % 256#64)):=by
 unfold wd;rw [bQ _ _ _ (by decide),BitVec.toNat_umod];exact congrArg (fun n=>some (J.int .u64 n)) (rt x.toNat 256)
theorem zhb (x:ac):aV .quo (wd x) (.int .u64 2)=some (wd (x >>> 1)):=by
 unfold wd;rw [eN _ _ _ (by decide),BitVec.toNat_ushiftRight,Us,F1 _ (by have:=x.isLt;omega),Nat.shiftRight_eq_div_pow]
theorem zam (x:ac):aV .quo (wd x) (.int .u64 256)=some (wd (x >>> 8)):=by
 unfold wd;have:(x.toNat:Int).tdiv 256=((x.toNat / 256:Nat):Int):=vS x.toNat 256;rw [eN _ _ _ (by decide),BitVec.toNat_ushiftRight,this,F1 _ (by have:=x.isLt;omega),Nat.shiftRight_eq_div_pow]
theorem zkx (x y:ac):aV .eql (wd x) (wd y)=some (.bool (x==y)):=by
 unfold wd;rw [Lf]
 congr 2
 rw [Bool.eq_iff_iff];simp only [beq_iff_eq];constructor
 ·intro h;exact BitVec.eq_of_toNat_eq (by exact_mod_cast h)
 ·intro h;rw [h]
theorem zhc (x:ac):(x % 2#64==1#64)=x.getLsbD 0:=by
 rw [Bool.eq_iff_iff,beq_iff_eq];have h2:(x % 2#64).toNat=x.toNat % 2:=by rw [BitVec.toNat_umod];rfl
 constructor
 ·intro h;have:x.toNat % 2=1:=by rw [<- h2,h];rfl
  simp [BitVec.getLsbD,Nat.testBit,this]
 ·intro h;have:x.toNat % 2=1:=by
   simpa [BitVec.getLsbD,Nat.testBit] using h
  apply BitVec.eq_of_toNat_eq;rw [h2,this];rfl
theorem zhd (x:ac)(z:Nat):(x >>> z).getLsbD 0=x.getLsbD z:=by simp
theorem V0 {fr:Fr}{h:O}{R:Option (dt × Fr × O)}(l:List ac)(b:List J)(i:Nat)(hi:i < 25)
  (hF:run ah (V h) (.loop b8) fr (hx h [b,cB (VX l i 0)] [])=R)
  (h3:fr 3=pA h.blks.length 1 0) (h4:fr 4=Ii i) (h5:fr 5=wd (gd l 0#64 i)) (h6:fr 6=Ii 0):
  ∃ fr',R=some (.exit 2,fr',hx h [b,cB (VX l i 64)] [])/\∀ t,t∉wr b8->fr' t=fr t:=by
 obtain ⟨e,fr',h',rfl,⟨rfl,rfl⟩,hk⟩:=af hF 64
  (fun k fr hh=>fr 6=Ii k/\fr 5=wd (gd l 0#64 i >>> k)/\hh=hx h [b,cB (VX l i k)] [])
  (fun e fr hh=>e=.exit 2/\hh=hx h [b,cB (VX l i 64)] [])
  ⟨h6, by simpa using h5, rfl⟩ (by
   rintro k fr1 hh hkN hkeep ⟨g6,g5,rfl⟩;have g3:=kp hkeep h3;have g4:=kp hkeep h4;by_cases hlt:k < 64
   ·have w1:Wr ((k:Int)+1)=k+1:=wz;have hset:=zg9 l i k hi hlt;rw [<- zhd,<- zhc] at hset;have t1:=uI i;have t2:(i:Int).tdiv 5=((i / 5:Nat):Int):=vS i 5;have t3:=eF (i / 5) (by omega);have hx5:i % 5 < 5:=by omega
    have hy5:i / 5 < 5:=by omega
    have hidx:i % 5*320+i / 5*64+k+1<=1600:=by omega
    generalize i % 5=x at*;generalize i / 5=y at*;have he:=zkx (gd l 0#64 i >>> k % 2#64) 1#64;have hs1:gd l 0#64 i >>> k >>> 1=gd l 0#64 i >>> (k+1):=by rw [<- BitVec.shiftRight_add]
    have he1:J.int .u64 1=wd 1#64:=rfl;generalize hw1:gd l 0#64 i >>> (k+1)=w1' at*;generalize gd l 0#64 i >>> k=w at*;simp [b8,V,g6,g5,g3,g4,hlt,show (k:Int) < 64 by omega,w1,zha,zhb,he1,he,hs1,bQ,eN,t1,t2,t3,e7,hx5,hy5,hset,hidx,hw1]
   ·have:k=64:=by omega
    subst this;simp [b8,g6])
 exact ⟨fr',rfl,hk⟩
theorem zhe {fr:Fr}{h:O}{R:Option (dt × Fr × O)}(l:List ac)(hl:l.length=25)(b:List J)
  (hF:run ah (V h) (.loop dw) fr (hx h [b,cB (VX l 0 0)] [])=R)
  (h1:fr 1=.vptr (cW l) 0) (h3:fr 3=pA h.blks.length 1 0) (h4:fr 4=Ii 0):
  ∃ fr',R=some (.exit 0,fr',hx h [b,cB (aP l)] [])/\∀ t,t∉wr dw->fr' t=fr t:=by
 obtain ⟨e,fr',h',rfl,⟨rfl,rfl⟩,hk⟩:=af hF 25
  (fun k fr hh=>fr 4=Ii k/\hh=hx h [b,cB (VX l k 0)] [])
  (fun e fr hh=>e=.exit 0/\hh=hx h [b,cB (aP l)] [])
  ⟨h4,rfl⟩ (by
   rintro k fr1 hh hkN hkeep ⟨g4,rfl⟩;have g3:=kp hkeep h3;have g1:=kp hkeep h1;by_cases hlt:k < 25
   ·have w1:Wr ((k:Int)+1)=k+1:=wz;simp [dw,g4,g3,g1,hlt,show (k:Int) < 25 by omega,lG,hl];generalize hF:run ah _ (.loop _) _ _=R;obtain ⟨fr2,rfl,q2⟩:=V0 l b k hlt hF (by simp [g3]) (by simp [g4]) (by simp) (by simp);simp [q2,wr,b8,bj,g4,w1,zc3]
    try exact hlt
   ·have:k=25:=by omega
    subst this;simp [dw,g4,zg8])
 exact ⟨fr',rfl,hk⟩
theorem V1 (L:az)(h:O)(l:List ac)(hl:l.length=25):Z ah L je [.agg (cW l)] h=some (.agg (cB (aP l)),h):=by
 rw [yb];simp [ma,V,DT,aa,hl,al,au,ae,<- zc2 l];generalize hF:run ah _ (.loop _) _ _=R;obtain ⟨fr1,rfl,hk1⟩:=zhe l hl _ hF (by simp) (by simp) (by simp);simp [hk1,wr,b8,dw,bj,aa,au,ae]
theorem V2 {fr:Fr}{h:O}{R:Option (dt × Fr × O)}(l:List ac)(H:O)(i:Nat)(hi:i < 25)
  (hF:run ah (V h) (.loop bX) fr H=R)
  (h1:fr 1=.vptr (cB (aP l)) 0) (h4:fr 4=Ii i) (h5:fr 5=wd 0#64) (h6:fr 6=Ii 63):
  ∃ fr',R=some (.exit 2,fr',H)/\fr' 5=wd (gd l 0#64 i)/\∀ t,t∉wr bX->fr' t=fr t:=by
 obtain ⟨e,fr',h',rfl,⟨rfl,rfl,h5'⟩,hk⟩:=af hF 64
  (fun k fr hh=>fr 6=Ii (63 - (k:Int))/\fr 5=wd (gd l 0#64 i >>> (64 - k))/\hh=H)
  (fun e fr hh=>e=.exit 2/\hh=H/\fr 5=wd (gd l 0#64 i))
  ⟨h6,by
   rw [h5];congr 1;apply BitVec.eq_of_toNat_eq;rw [BitVec.toNat_ushiftRight,Nat.shiftRight_eq_div_pow,Nat.div_eq_of_lt (by have:=(gd l 0#64 i).isLt;simpa using this)];rfl,rfl⟩ (by
   rintro k fr1 hh hkN hkeep ⟨g6,g5,rfl⟩;have g1:=kp hkeep h1;have g4:=kp hkeep h4;by_cases hlt:k < 64
   ·obtain ⟨z,hz⟩:∃ z:Nat,z=63 - k:=⟨_,rfl⟩;have hz64:z < 64:=by omega
    have g6':fr1 6=Ii (z:Int):=by rw [g6];congr 1;omega
    have w1:Wr ((z:Int) - 1)=63 - ((k+1:Nat):Int):=wy;have t1:=uI i;have t2:(i:Int).tdiv 5=((i / 5:Nat):Int):=vS i 5;have t3:=eF (i / 5) (by omega);have hx5:i % 5 < 5:=by omega
    have hy5:i / 5 < 5:=by omega
    have hb:=MU l (i % 5) (i / 5) z hx5 hy5 hz64;rw [show i % 5+5*(i / 5)=i by omega] at hb;generalize i / 5=y,i % 5=x at*;have hidx:x*320+y*64+z < 1600:=by omega
    have g5':fr1 5=wd (gd l 0#64 i >>> (z+1)):=by rw [g5];congr 2;omega
    have hnext:gd l 0#64 i >>> (64 - (k+1))=gd l 0#64 i >>> z:=by congr 1;omega
    have hm2:J.int .u64 2=wd 2#64:=rfl;have hm1:J.int .u64 1=wd 1#64:=rfl;have hdbl:gd l 0#64 i >>> (z+1)*2#64+(if (gd l 0#64 i).getLsbD z then 1#64 else 0#64)=gd l 0#64 i >>> z:=by
     generalize gd l 0#64 i=w;have h1:(w >>> (z+1))*2#64=(w >>> (z+1)) <<< 1:=by
      rw [BitVec.shiftLeft_eq_mul_twoPow];rfl
     have h0:∀ (b:Bool),(w >>> (z+1)) <<< 1+(if b then 1#64 else 0#64)=(w >>> (z+1)) <<< 1|||(if b then 1#64 else 0#64):=by
      intro b;apply BitVec.add_eq_or_of_and_eq_zero;apply BitVec.eq_of_getLsbD_eq;intro j hj
      cases b <;> cases j <;> simp
     rw [h1,h0];apply BitVec.eq_of_getLsbD_eq;intro j hj
     cases j with
     | zero=>cases hb:w.getLsbD z <;> simp [hb]
     | succ j=>cases hb:w.getLsbD z <;> simp [Nat.add_assoc,Nat.add_comm,Nat.add_left_comm] <;> omega
    cases hbz:(gd l 0#64 i).getLsbD z
    ·rw [hbz] at hb hdbl;simp at hdbl;generalize gd l 0#64 i >>> (z+1)=w at*;simp [bX,g6',g5',g1,g4,show (0:Int)<=z by omega,hm2,hm1,t1,t2,t3,bQ,eN,lG,hx5,hy5,hz64,hidx,hb,w1,hdbl,hlt,hnext];rw [hz]
    ·rw [hbz] at hb hdbl;simp at hdbl;generalize gd l 0#64 i >>> (z+1)=w at*;simp [bX,g6',g5',g1,g4,show (0:Int)<=z by omega,hm2,hm1,t1,t2,t3,bQ,eN,lG,hx5,hy5,hz64,hidx,hb,w1,hdbl,hlt,hnext];rw [hz]
   ·have:k=64:=by omega
    subst this;simp [bX,g6];rw [g5];simp)
 exact ⟨fr',rfl,h5',hk⟩
theorem zic {fr:Fr}{h:O}{R:Option (dt × Fr × O)}(l:List ac)(hl:l.length=25)(b:List J)
  (hF:run ah (V h) (.loop eA) fr (hx h [b,cW (tab 25 fun _=>0#64)] [])=R)
  (h1:fr 1=.vptr (cB (aP l)) 0) (h3:fr 3=pA h.blks.length 1 0) (h4:fr 4=Ii 0):
  ∃ fr',R=some (.exit 0,fr',hx h [b,cW l] [])/\∀ t,t∉wr eA->fr' t=fr t:=by
 obtain ⟨e,fr',h',rfl,⟨rfl,rfl⟩,hk⟩:=af hF 25
  (fun k fr hh=>fr 4=Ii k/\hh=hx h [b,cW (cV 25 (gd l 0#64) (fun _=>0#64) k)] [])
  (fun e fr hh=>e=.exit 0/\hh=hx h [b,cW l] [])
  ⟨h4, by rw [kR]⟩ (by
   rintro k fr1 hh hkN hkeep ⟨g4,rfl⟩;have g3:=kp hkeep h3;have g1:=kp hkeep h1;by_cases hlt:k < 25
   ·have w1:Wr ((k:Int)+1)=k+1:=wz;have hm0:J.int .u64 0=wd 0#64:=rfl;simp [eA,g4,g3,g1,hlt,show (k:Int) < 25 by omega,hm0];generalize hF:run ah _ (.loop _) _ _=R;obtain ⟨fr2,rfl,q1,q2⟩:=V2 l _ k hlt hF (by simp [g1]) (by simp [g4]) (by simp) (by simp);simp [q1,q2,wr,bX,bj,g4,g3,w1,e7,hlt,V,show k<=24 by omega,nJ]
   ·have:k=25:=by omega
    subst this;simp [eA,g4,tO,<- EP 0#64 hl])
 exact ⟨fr',rfl,hk⟩
theorem V3 (L:az)(h:O)(l:List ac)(hl:l.length=25):Z ah L kq [.agg (cB (aP l))] h=some (.agg (cW l),h):=by
 rw [Bf];simp [oC,V,bH,aa,hl,al,au,ae];generalize hF:run ah _ (.loop _) _ _=R;obtain ⟨fr1,rfl,hk1⟩:=zic l hl _ hF (by simp) (by simp) (by simp);simp [hk1,wr,bX,eA,bj,aa,au,ae,hl]
def Tz (l:List ac):Nat->List ac
 | 0=>tab 25 fun _=>0#64
 | k+1=>(Tz l k).set (k % 5+5*((2*(k / 5)+3*(k % 5)) % 5)) (gd l 0#64 (k / 5+5*(k % 5)))
def piL (l:List ac):List ac:=Tz l 25
@[simp] theorem Yu (l:List ac):∀ k,(Tz l k).length=25
 | 0=>by simp [Tz]
 | k+1=>by simp [Tz,Yu l k]
theorem Pw : tab 1600 (fun _ => false) = aP (tab 25 fun _ => 0#64) := a8 fun j hj => by
 obtain ⟨x,y,z,hx,hy,hz,rfl⟩:=zai hj;rw [jS _ _ _ _ hx hy hz,dZ (by omega)];simp
theorem Py (l m:List ac)(hl:l.length=25)(x y p q:Nat)(hx:x < 5)(hy:y < 5)(hp:p < 5)(hq:q < 5):
  setAt (cB (aP l)) (x*320+y*64) (cB (((aP m).drop (p*320+q*64)).take 64))=cB (aP (l.set (x+5*y) (gd m 0#64 (p+5*q)))):=by
 have e1:cB (aP l)=tab 1600 (fun j=>.bool (di l j)):=by unfold cB aP;rw [EN]
 have e2 : cB (((aP m).drop (p * 320 + q * 64)).take 64) = tab 64 (fun j => .bool (di m (p * 320 + q * 64 + j))) := by
  unfold cB aP;rw [yi _ _ _ _ (by omega),EN]
 rw [e1,e2,zbH _ _ _ _ _ (by omega)];unfold cB aP;rw [EN];refine a8 fun j hj=>?_;obtain ⟨a,b,c,ha,hb,hc,rfl⟩:=zai hj;by_cases h:a=x/\b=y
 ·obtain ⟨rfl,rfl⟩:=h;rw [if_pos ⟨by omega,by omega⟩,show a*320+b*64+c - (a*320+b*64)=c by omega,jS m _ _ _ hp hq hc,jS (l.set _ _) _ _ _ ha hb hc]
  congr 2
  unfold gd;simp [List.getD,hl,show a+5*b < 25 by omega]
 ·rw [if_neg (by omega),jS l _ _ _ ha hb hc,jS (l.set _ _) _ _ _ ha hb hc]
  congr 2
  unfold gd;have:¬x+5*y=a+5*b:=by omega
  simp [List.getD,List.getElem?_set,this]
theorem V5 {fr:Fr}{h:O}{R:Option (dt × Fr × O)}(l:List ac)(b:List J)(x:Nat)(hx5:x < 5)
  (hF:run ah (V h) (.loop eX) fr (hx h [b,cB (aP (Tz l (5*x)))] [])=R)
  (h1:fr 1=.vptr (cB (aP l)) 0) (h3:fr 3=pA h.blks.length 1 0) (h4:fr 4=Ii x) (h5:fr 5=Ii 0):
  ∃ fr',R=some (.exit 2,fr',hx h [b,cB (aP (Tz l (5*(x+1))))] [])/\∀ t,t∉wr eX->fr' t=fr t:=by
 obtain ⟨e,fr',h',rfl,⟨rfl,rfl⟩,hk⟩:=af hF 5
  (fun k fr hh=>fr 5=Ii k/\hh=hx h [b,cB (aP (Tz l (5*x+k)))] [])
  (fun e fr hh=>e=.exit 2/\hh=hx h [b,cB (aP (Tz l (5*(x+1))))] [])
  ⟨h5,rfl⟩ (by
   rintro k fr1 hh hkN hkeep ⟨g5,rfl⟩;have g1:=kp hkeep h1;have g3:=kp hkeep h3;have g4:=kp hkeep h4;by_cases hlt:k < 5
   ·have w1:Wr ((k:Int)+1)=k+1:=wz;have w6:IntKind.i64.wrap (2*(x:Int))=((2*x:Nat):Int):=by
     rw [<- eF (2*x) (by omega)];simp only [Int.natCast_mul,Int.natCast_add,Int.cast_ofNat_Int]
    have w7:IntKind.i64.wrap (3*(k:Int))=((3*k:Nat):Int):=by
     rw [<- eF (3*k) (by omega)];simp only [Int.natCast_mul,Int.natCast_add,Int.cast_ofNat_Int]
    have w8:IntKind.i64.wrap (((2*x:Nat):Int)+((3*k:Nat):Int))=((2*x+3*k:Nat):Int):=by
     rw [<- eF (2*x+3*k) (by omega)];simp only [Int.natCast_mul,Int.natCast_add,Int.cast_ofNat_Int]
    have w9:=uI (2*x+3*k);have hst:Tz l (5*x+k+1)=(Tz l (5*x+k)).set (k+5*((2*x+3*k) % 5)) (gd l 0#64 (x+5*k)):=by
     rw [Tz,show (5*x+k) % 5=k by omega,show (5*x+k) / 5=x by omega]
    have hn5:(2*x+3*k) % 5 < 5:=by omega
    have hbl:=Py (Tz l (5*x+k)) l (Yu _ _) k ((2*x+3*k) % 5) x k hlt hn5 hx5 hlt;rw [<- hst] at hbl;generalize 3*k=k3,2*x=x2,2*x+3*k=xy,(2*x+3*k) % 5=n at*;have hi1:x*320+k*64+64<=1600:=by omega
    have hi2:k*320+n*64+64<=1600:=by omega
    generalize Tz l (5*x+k)=m at*;have hmin:min 64 (1600 - (x*320+k*64))=64:=by omega
    have hm1:5*x+(k+1)=5*x+k+1:=rfl;simp [eX,V,g5,g1,g3,g4,hlt,show (k:Int) < 5 by omega,w1,w6,w7,w8,w9,bQ,e7,lG,hx5,hn5,hmin,S6,hi1,hi2,au,hbl,hm1]
   ·have:k=5:=by omega
    subst this;simp [eX,g5,Nat.mul_add])
 exact ⟨fr',rfl,hk⟩
theorem zhg {fr:Fr}{h:O}{R:Option (dt × Fr × O)}(l:List ac)(b:List J)
  (hF:run ah (V h) (.loop gF) fr (hx h [b,cB (aP (Tz l 0))] [])=R)
  (h1:fr 1=.vptr (cB (aP l)) 0) (h3:fr 3=pA h.blks.length 1 0) (h4:fr 4=Ii 0):
  ∃ fr',R=some (.exit 0,fr',hx h [b,cB (aP (piL l))] [])/\∀ t,t∉wr gF->fr' t=fr t:=by
 obtain ⟨e,fr',h',rfl,⟨rfl,rfl⟩,hk⟩:=af hF 5
  (fun k fr hh=>fr 4=Ii k/\hh=hx h [b,cB (aP (Tz l (5*k)))] [])
  (fun e fr hh=>e=.exit 0/\hh=hx h [b,cB (aP (piL l))] [])
  ⟨h4,rfl⟩ (by
   rintro k fr1 hh hkN hkeep ⟨g4,rfl⟩;have g3:=kp hkeep h3;have g1:=kp hkeep h1;by_cases hlt:k < 5
   ·have w1:Wr ((k:Int)+1)=k+1:=wz;simp [gF,g4,g3,g1,hlt,show (k:Int) < 5 by omega];generalize hF:run ah _ (.loop _) _ _=R;obtain ⟨fr2,rfl,q2⟩:=V5 l b k hlt hF (by simp [g1]) (by simp [g3]) (by simp [g4]) (by simp);simp [q2,wr,eX,bj,g4,w1];exact hlt
   ·have:k=5:=by omega
    subst this;simp [gF,g4,piL])
 exact ⟨fr',rfl,hk⟩
theorem zkC (L:az)(h:O)(l:List ac):Z ah L nY [.agg (cB (aP l))] h=some (.agg (cB (aP (piL l))),h):=by
 rw [Fj];have e0:aP (tab 25 fun _=>0#64)=aP (Tz l 0):=rfl;simp [si,V,DT,Pw,e0,aa,al,au,ae];generalize hF:run ah _ (.loop _) _ _=R;obtain ⟨fr1,rfl,hk1⟩:=zhg l _ hF (by simp) (by simp) (by simp);simp [hk1,wr,eX,gF,bj,aa,au,ae]
theorem TG (v:ac)(r c:Nat)(hc:c < 64):(rotl v r).getLsbD c=v.getLsbD ((c+64 - r % 64) % 64):=by
 unfold rotl;have hs:r % 64 < 64:=by omega
 generalize r % 64=s at*;rw [BitVec.getLsbD_or,BitVec.getLsbD_shiftLeft,BitVec.getLsbD_ushiftRight];by_cases h:c < s
 ·simp [h,show 64 - s+c=c+64 - s by omega,Nat.mod_eq_of_lt (show c+64 - s < 64 by omega)]
 ·have e1:(c+64 - s) % 64=c - s:=by omega
  have e2:v.getLsbD (64 - s+c)=false:=BitVec.getLsbD_of_ge _ _ (by omega);simp [h,e1,e2,hc]
def Me (l:List ac):Nat->List ac
 | 0=>(tab 25 fun _=>0#64).set 0 (gd l 0#64 0)
 | t+1=>(Me l t).set ((zi t).1+5*(zi t).2) (rotl (gd l 0#64 ((zi t).1+5*(zi t).2)) ((t+1)*(t+2) / 2))
def zda (l:List ac):List ac:=Me l 24
@[simp] theorem zdb (l:List ac):∀ k,(Me l k).length=25
 | 0=>by simp [Me]
 | k+1=>by simp [Me,zdb l k]
def Ka (m:List ac)(v:ac)(x y r k:Nat):List Bool:=tab 1600 fun j=>if j / 64=x*5+y/\(j % 64+64 - r % 64) % 64 < k then v.getLsbD ((j % 64+64 - r % 64) % 64) else di m j
@[simp] theorem zmO (m:List ac)(v:ac)(x y r k:Nat):(Ka m v x y r k).length=1600:=by simp [Ka]
theorem Wa (m:List ac)(v:ac)(x y r:Nat):Ka m v x y r 0=aP m:=a8 fun j hj=>by simp
theorem zax (m : List ac)(hm : m.length = 25)(v : ac)(x y r : Nat)(hx : x < 5)(hy : y < 5) : Ka m v x y r 64 = aP (m.set (x + 5 * y) (rotl v r)) := a8 fun j hj => by
 obtain ⟨a,b,c,ha,hb,hc,rfl⟩:=zai hj;rw [show (a*320+b*64+c) / 64=a*5+b by omega,show (a*320+b*64+c) % 64=c by omega,jS _ _ _ _ ha hb hc,jS _ _ _ _ ha hb hc];by_cases h:a=x/\b=y
 ·obtain ⟨rfl,rfl⟩:=h;rw [if_pos ⟨rfl,Nat.mod_lt _ (by decide)⟩];have:gd (m.set (a+5*b) (rotl v r)) 0#64 (a+5*b)=rotl v r:=by
   unfold gd;simp [List.getD,hm,show a+5*b < 25 by omega]
  rw [this,TG _ _ _ hc]
 ·rw [if_neg (by omega)]
  congr 1
  unfold gd;have:¬x+5*y=a+5*b:=by omega
  simp [List.getD,List.getElem?_set,this]
theorem zay (m:List ac)(v:ac)(x y r z:Nat)(hx:x < 5)(hy:y < 5)(hz:z < 64):(Ka m v x y r z).set (x*320+y*64+(z+r) % 64) (v.getLsbD z)=Ka m v x y r (z+1):=by
 unfold Ka;rw [vh];refine a8 fun j hj=>?_;obtain ⟨a,b,c,ha,hb,hc,rfl⟩:=zai hj;rw [show (a*320+b*64+c) / 64=a*5+b by omega,show (a*320+b*64+c) % 64=c by omega];have hq:(z+r) % 64=(z+r % 64) % 64:=by omega
 rw [hq];have hs:r % 64 < 64:=by omega
 generalize r % 64=s at*;by_cases h:a*320+b*64+c=x*320+y*64+(z+s) % 64
 ·have e1:(c+64 - s) % 64=z:=by omega
  rw [if_pos h,e1,if_pos ⟨by omega,by omega⟩]
 ·rw [if_neg h];by_cases h2:a*5+b=x*5+y/\(c+64 - s) % 64 < z
  ·rw [if_pos h2,if_pos ⟨h2.1,by omega⟩]
  ·rw [if_neg h2,if_neg (by omega)]
theorem TH {fr:Fr}{h:O}{R:Option (dt × Fr × O)}(l m:List ac)(b:List J)(x y t:Nat)(hx5:x < 5)(hy5:y < 5)(ht:t < 24)(v:ac)(hv:v=gd l 0#64 (x+5*y))(r:Nat)(hr:r=(t+1)*(t+2) / 2)
  (hF:run ah (V h) (.loop eh) fr (hx h [b,cB (aP m)] [])=R) (hm:m.length=25)
  (h1:fr 1=.vptr (cB (aP l)) 0) (h3:fr 3=pA h.blks.length 1 0) (h4:fr 4=Ii x) (h5:fr 5=Ii y) (h6:fr 6=Ii t) (h7:fr 7=Ii 0):
  ∃ fr',R=some (.exit 2,fr',hx h [b,cB (aP (m.set (x+5*y) (rotl v r)))] [])/\∀ t,t∉wr eh->fr' t=fr t:=by
 have hmul:(t+1)*(t+2)<=600:=Nat.le_trans (Nat.mul_le_mul (show t+1<=24 by omega) (show t+2<=25 by omega)) (by decide);obtain ⟨e,fr',h',rfl,⟨rfl,rfl⟩,hk⟩:=af hF 64
  (fun k fr hh=>fr 7=Ii k/\hh=hx h [b,cB (Ka m v x y r k)] [])
  (fun e fr hh=>e=.exit 2/\hh=hx h [b,cB (aP (m.set (x+5*y) (rotl v r)))] [])
  ⟨h7, by rw [Wa]⟩ (by
   rintro k fr1 hh hkN hkeep ⟨g7,rfl⟩;have g1:=kp hkeep h1;have g3:=kp hkeep h3;have g4:=kp hkeep h4;have g5:=kp hkeep h5;have g6:=kp hkeep h6;by_cases hlt:k < 64
   ·have w0:Wr ((k:Int)+1)=k+1:=wz;have w1:Wr ((t:Int)+1)=t+1:=wz;have w2:Wr ((t:Int)+2)=t+2:=wz;have w3:IntKind.i64.wrap (((t:Int)+1)*(t+2))=(((t+1)*(t+2):Nat):Int):=by
     rw [<- eF ((t+1)*(t+2)) (by omega)];simp only [Int.natCast_mul,Int.natCast_add,Int.cast_ofNat_Int]
    have w4:=Us ((t+1)*(t+2));rw [<- hr] at w4;have hr300:r<=300:=by omega
    have w5:=eF r (by omega);have w6:IntKind.i64.wrap ((k:Int)+(r:Int))=((k+r:Nat):Int):=by
     rw [<- eF (k+r) (by omega)];simp only [Int.natCast_mul,Int.natCast_add,Int.cast_ofNat_Int]
    have w7:((k+r:Nat):Int).tmod 64=(((k+r) % 64:Nat):Int):=rt (k+r) 64;have hq64:(k+r) % 64 < 64:=Nat.mod_lt _ (by decide);have hset:=zay m v x y r k hx5 hy5 hlt;have hb:=MU l x y k hx5 hy5 hlt;rw [<- hv] at hb;generalize (t+1)*(t+2)=tt,k+r=kr,(k+r) % 64=q at*;have hi1:x*320+y*64+k < 1600:=by omega
    have hi2:x*320+y*64+q+1<=1600:=by omega
    simp [-BitVec.getLsbD_eq_getElem,eh,V,g7,g1,g3,g4,g5,g6,hlt,show (k:Int) < 64 by omega,w0,w1,w2,w3,w4,w5,w6,w7,bQ,eN,e7,lG,hx5,hy5,hq64,hi1,hi2,hb,hset]
   ·have:k=64:=by omega
    subst this;simp [eh,g7,zax m hm v x y r hx5 hy5])
 exact ⟨fr',rfl,hk⟩
theorem zdc {fr:Fr}{h:O}{R:Option (dt × Fr × O)}(l:List ac)(b:List J)
  (hF:run ah (V h) (.loop fG) fr (hx h [b,cB (aP (Me l 0))] [])=R)
  (h1:fr 1=.vptr (cB (aP l)) 0) (h3:fr 3=pA h.blks.length 1 0) (h4:fr 4=Ii 1) (h5:fr 5=Ii 0) (h6:fr 6=Ii 0):
  ∃ fr',R=some (.exit 0,fr',hx h [b,cB (aP (zda l))] [])/\∀ t,t∉wr fG->fr' t=fr t:=by
 obtain ⟨e,fr',h',rfl,⟨rfl,rfl⟩,hk⟩:=af hF 24
  (fun k fr hh=>fr 6=Ii k/\fr 4=Ii ((zi k).1:Nat)/\fr 5=Ii ((zi k).2:Nat)/\hh=hx h [b,cB (aP (Me l k))] [])
  (fun e fr hh=>e=.exit 0/\hh=hx h [b,cB (aP (zda l))] [])
  ⟨h6,h4,h5,rfl⟩ (by
   rintro k fr1 hh hkN hkeep ⟨g6,g4,g5,rfl⟩;have g1:=kp hkeep h1;have g3:=kp hkeep h3;by_cases hlt:k < 24
   ·obtain ⟨hx5,hy5⟩:=WT k;have hst:Me l (k+1)=(Me l k).set ((zi k).1+5*(zi k).2) (rotl (gd l 0#64 ((zi k).1+5*(zi k).2)) ((k+1)*(k+2) / 2)):=rfl;have hp:zi (k+1)=((zi k).2,(2*(zi k).1+3*(zi k).2) % 5):=rfl;generalize (zi k).2=y,(zi k).1=x at*;have w1:Wr ((k:Int)+1)=k+1:=wz;have w6:IntKind.i64.wrap (2*(x:Int))=((2*x:Nat):Int):=by
     rw [<- eF (2*x) (by omega)];simp only [Int.natCast_mul,Int.natCast_add,Int.cast_ofNat_Int]
    have w7:IntKind.i64.wrap (3*(y:Int))=((3*y:Nat):Int):=by
     rw [<- eF (3*y) (by omega)];simp only [Int.natCast_mul,Int.natCast_add,Int.cast_ofNat_Int]
    have w8:IntKind.i64.wrap (((2*x:Nat):Int)+((3*y:Nat):Int))=((2*x+3*y:Nat):Int):=by
     rw [<- eF (2*x+3*y) (by omega)];simp only [Int.natCast_mul,Int.natCast_add,Int.cast_ofNat_Int]
    have w9:=uI (2*x+3*y);generalize 3*y=y3,2*x=x2,2*x+3*y=xy,(2*x+3*y) % 5=n at*;simp [fG,g6,g3,g1,g4,g5,hlt,show (k:Int) < 24 by omega];generalize hF:run ah _ (.loop _) _ _=R;obtain ⟨fr2,rfl,q2⟩:=TH l (Me l k) b x y k hx5 hy5 hlt _ rfl _ rfl hF (by simp) (by simp [g1]) (by simp [g3]) (by simp [g4]) (by simp [g5]) (by simp [g6]) (by simp);simp [q2,wr,eh,bj,g6,g4,g5,w1,w6,w7,w8,w9,bQ,<- hst,hp];exact hlt
   ·have:k=24:=by omega
    subst this;simp [fG,g6,zda])
 exact ⟨fr',rfl,hk⟩
theorem zhm (L:az)(h:O)(l:List ac):Z ah L mN [.agg (cB (aP l))] h=some (.agg (cB (aP (zda l))),h):=by
 rw [D7];have e0:=Py (tab 25 fun _=>0#64) l (by simp) 0 0 0 0 (by decide) (by decide) (by decide) (by decide);have e1:aP ((tab 25 fun _=>0#64).set (0+5*0) (gd l 0#64 (0+5*0)))=aP (Me l 0):=rfl;rw [e1] at e0;simp only [Nat.zero_mul,Nat.add_zero,List.drop_zero] at e0;simp [qv,V,DT,Pw,aa,al,au,ae,S6,e0];generalize hF:run ah _ (.loop _) _ _=R;obtain ⟨fr1,rfl,hk1⟩:=zdc l _ hF (by simp) (by simp) (by simp) (by simp) (by simp);simp [hk1,wr,eh,fG,bj,aa,au,ae]
theorem zhp (l:List ac)(x y z:Nat)(hx5:x < 5)(hy5:y < 5)(hz:z < 64):di (re l) (x*320+y*64+z)=
  (di l (x*320+y*64+z) ^^ (!di l ((x+1) % 5*320+y*64+z)&&di l ((x+2) % 5*320+y*64+z))):=by
 rw [jS _ _ _ _ hx5 hy5 hz,jS _ _ _ _ hx5 hy5 hz,jS _ _ _ _ (by omega) hy5 hz,jS _ _ _ _ (by omega) hy5 hz];unfold re;rw [dZ (by omega),WV];rw [show x+5*y - (x+5*y) % 5+(x+5*y+2) % 5=(x+2) % 5+5*y by omega,show x+5*y - (x+5*y) % 5+(x+5*y+1) % 5=(x+1) % 5+5*y by omega];simp [hz,Bool.and_comm]
theorem Wf {fr:Fr}{h:O}{R:Option (dt × Fr × O)}(l:List ac)(b:List J)(x y:Nat)(hx5:x < 5)(hy5:y < 5)
  (hF:run ah (V h) (.loop de) fr (hx h [b,cB (cV 1600 (di (re l)) (fun _=>false) (x*320+y*64))] [])=R)
  (h1:fr 1=.vptr (cB (aP l)) 0) (h3:fr 3=pA h.blks.length 1 0) (h4:fr 4=Ii x) (h5:fr 5=Ii y) (h6:fr 6=Ii 0):
  ∃ fr',R=some (.exit 4,fr',hx h [b,cB (cV 1600 (di (re l)) (fun _=>false) (x*320+(y+1)*64))] [])/\∀ t,t∉wr de->fr' t=fr t:=by
 obtain ⟨e,fr',h',rfl,⟨rfl,rfl⟩,hk⟩:=af hF 64
  (fun k fr hh=>fr 6=Ii k/\hh=hx h [b,cB (cV 1600 (di (re l)) (fun _=>false) (x*320+y*64+k))] [])
  (fun e fr hh=>e=.exit 4/\hh=hx h [b,cB (cV 1600 (di (re l)) (fun _=>false) (x*320+(y+1)*64))] [])
  ⟨h6,rfl⟩ (by
   rintro k fr1 hh hkN hkeep ⟨g6,rfl⟩;have g1:=kp hkeep h1;have g3:=kp hkeep h3;have g4:=kp hkeep h4;have g5:=kp hkeep h5;by_cases hlt:k < 64
   ·have w0:Wr ((k:Int)+1)=k+1:=wz;have w1:Wr ((x:Int)+1)=((x+1:Nat):Int):=wy;have w2:Wr ((x:Int)+2)=((x+2:Nat):Int):=wy;have t1:=uI (x+1);have t2:=uI (x+2);have hset:=nJ 1600 (di (re l)) (fun _=>false) (x*320+y*64+k);rw [zhp l x y k hx5 hy5 hlt] at hset;have b0:gd (aP l) false (x*320+y*64+k)=di l (x*320+y*64+k):=dZ (by omega);have ha5:(x+1) % 5 < 5:=by omega
    have hc5:(x+2) % 5 < 5:=by omega
    have b1:gd (aP l) false ((x+1) % 5*320+y*64+k)=di l ((x+1) % 5*320+y*64+k):=dZ (by omega);have b2:gd (aP l) false ((x+2) % 5*320+y*64+k)=di l ((x+2) % 5*320+y*64+k):=dZ (by omega);generalize x+2=x2,x+1=x1,(x+2) % 5=c,(x+1) % 5=a at*;have hi0:x*320+y*64+k < 1600:=by omega
    have hi1:a*320+y*64+k < 1600:=by omega
    have hi2:c*320+y*64+k < 1600:=by omega
    have hi3:x*320+y*64+k+1<=1600:=by omega
    have hass:x*320+y*64+(k+1)=x*320+y*64+k+1:=rfl;generalize hM1:cV 1600 (di (re l)) (fun _=>false) (x*320+y*64+k+1)=M1 at*;have hML:=DN 1600 (di (re l)) (fun _=>false) (x*320+y*64+k);generalize cV 1600 (di (re l)) (fun _=>false) (x*320+y*64+k)=M0 at*
    cases hb0:di l (x*320+y*64+k) <;> cases hb1:di l (a*320+y*64+k) <;> cases hb2:di l (c*320+y*64+k)
    all_goals
     rw [hb0] at b0 hset;rw [hb1] at b1 hset;rw [hb2] at b2 hset;simp at hset;simp [de,V,g6,g1,g3,g4,g5,hlt,show (k:Int) < 64 by omega,w0,w1,w2,t1,t2,bQ,e7,lG,hx5,hy5,ha5,hc5,hi0,hi1,hi2,hi3,b0,b1,b2,hset,hass,hML];rw [hM1]
   ·have:k=64:=by omega
    subst this;have e0:x*320+y*64+64=x*320+(y+1)*64:=by omega
    simp [de,g6,e0])
 exact ⟨fr',rfl,hk⟩
theorem Wg {fr:Fr}{h:O}{R:Option (dt × Fr × O)}(l:List ac)(b:List J)(x:Nat)(hx5:x < 5)
  (hF:run ah (V h) (.loop eg) fr (hx h [b,cB (cV 1600 (di (re l)) (fun _=>false) (x*320))] [])=R)
  (h1:fr 1=.vptr (cB (aP l)) 0) (h3:fr 3=pA h.blks.length 1 0) (h4:fr 4=Ii x) (h5:fr 5=Ii 0):
  ∃ fr',R=some (.exit 2,fr',hx h [b,cB (cV 1600 (di (re l)) (fun _=>false) ((x+1)*320))] [])/\∀ t,t∉wr eg->fr' t=fr t:=by
 obtain ⟨e,fr',h',rfl,⟨rfl,rfl⟩,hk⟩:=af hF 5
  (fun k fr hh=>fr 5=Ii k/\hh=hx h [b,cB (cV 1600 (di (re l)) (fun _=>false) (x*320+k*64))] [])
  (fun e fr hh=>e=.exit 2/\hh=hx h [b,cB (cV 1600 (di (re l)) (fun _=>false) ((x+1)*320))] [])
  ⟨h5, by simp⟩ (by
   rintro k fr1 hh hkN hkeep ⟨g5,rfl⟩;have g1:=kp hkeep h1;have g3:=kp hkeep h3;have g4:=kp hkeep h4;by_cases hlt:k < 5
   ·have w0:Wr ((k:Int)+1)=k+1:=wz;simp [eg,g1,g3,g4,g5,hlt,show (k:Int) < 5 by omega];generalize hF:run ah _ (.loop _) _ _=R;obtain ⟨fr2,rfl,q2⟩:=Wf l b x k hx5 hlt hF (by simp [g1]) (by simp [g3]) (by simp [g4]) (by simp [g5]) (by simp);simp [q2,wr,de,bj,g5,w0];exact hlt
   ·have:k=5:=by omega
    subst this;have e0:x*320+5*64=(x+1)*320:=by omega
    simp [eg,g5];rw [show x*320+320=(x+1)*320 by omega])
 exact ⟨fr',rfl,hk⟩
theorem We {fr:Fr}{h:O}{R:Option (dt × Fr × O)}(l:List ac)(b:List J)
  (hF:run ah (V h) (.loop fF) fr (hx h [b,cB (tab 1600 fun _=>false)] [])=R)
  (h1:fr 1=.vptr (cB (aP l)) 0) (h3:fr 3=pA h.blks.length 1 0) (h4:fr 4=Ii 0):
  ∃ fr',R=some (.exit 0,fr',hx h [b,cB (aP (re l))] [])/\∀ t,t∉wr fF->fr' t=fr t:=by
 obtain ⟨e,fr',h',rfl,⟨rfl,rfl⟩,hk⟩:=af hF 5
  (fun k fr hh=>fr 4=Ii k/\hh=hx h [b,cB (cV 1600 (di (re l)) (fun _=>false) (k*320))] [])
  (fun e fr hh=>e=.exit 0/\hh=hx h [b,cB (aP (re l))] [])
  ⟨h4, by simp [kR]⟩ (by
   rintro k fr1 hh hkN hkeep ⟨g4,rfl⟩;have g1:=kp hkeep h1;have g3:=kp hkeep h3;by_cases hlt:k < 5
   ·have w0:Wr ((k:Int)+1)=k+1:=wz;simp [fF,g1,g3,g4,hlt,show (k:Int) < 5 by omega];generalize hF:run ah _ (.loop _) _ _=R;obtain ⟨fr2,rfl,q2⟩:=Wg l b k hlt hF (by simp [g1]) (by simp [g3]) (by simp [g4]) (by simp);simp [q2,wr,de,eg,bj,g4,w0];exact hlt
   ·have:k=5:=by omega
    subst this;simp [fF,g4,tO,aP])
 exact ⟨fr',rfl,hk⟩
theorem zhq (L:az)(h:O)(l:List ac):Z ah L mM [.agg (cB (aP l))] h=some (.agg (cB (aP (re l))),h):=by
 rw [D6];simp [qu,V,DT,aa,al,au,ae];generalize hF:run ah _ (.loop _) _ _=R;obtain ⟨fr1,rfl,hk1⟩:=We l _ hF (by simp) (by simp) (by simp);simp [hk1,wr,de,eg,fF,bj,aa,au,ae]
def xW (l:List ac)(x z:Nat):Nat->Nat
 | 0=>0
 | k+1=>xW l x z k+(if (gd l 0#64 (x+5*k)).getLsbD z then 1 else 0)
theorem YB (l:List ac)(x z:Nat):∀ k,xW l x z k<=k
 | 0=>by simp [xW]
 | k+1=>by have:=YB l x z k;simp only [xW];split <;> omega
theorem zdi (l:List ac)(x z:Nat)(hx5:x < 5):(xW l x z 5 % 2==1)=(Fc l x).getLsbD z:=by
 unfold Fc;simp only [xW,BitVec.getLsbD_xor,Nat.mul_zero,Nat.add_zero,Nat.mul_one,show 5*2=10 from rfl,show 5*3=15 from rfl,show 5*4=20 from rfl]
 cases (gd l 0#64 x).getLsbD z <;> cases (gd l 0#64 (x+5)).getLsbD z <;> cases (gd l 0#64 (x+10)).getLsbD z <;> cases (gd l 0#64 (x+15)).getLsbD z <;> cases (gd l 0#64 (x+20)).getLsbD z <;> rfl
theorem zaB {fr:Fr}{h:O}{R:Option (dt × Fr × O)}(l:List ac)(H:O)(x z:Nat)(hx5:x < 5)(hz:z < 64)
  (hF:run ah (V h) (.loop aS) fr H=R)
  (h1:fr 1=.vptr (cB (aP l)) 0) (h4:fr 4=Ii x) (h5:fr 5=Ii z) (h6:fr 6=Ii 0) (h7:fr 7=Ii 0):
  ∃ fr',R=some (.exit 4,fr',H)/\fr' 6=Ii (xW l x z 5:Nat)/\∀ t,t∉wr aS->fr' t=fr t:=by
 obtain ⟨e,fr',h',rfl,⟨rfl,rfl,h6'⟩,hk⟩:=af hF 5
  (fun k fr hh=>fr 7=Ii k/\fr 6=Ii (xW l x z k:Nat)/\hh=H)
  (fun e fr hh=>e=.exit 4/\hh=H/\fr 6=Ii (xW l x z 5:Nat))
  ⟨h7,h6,rfl⟩ (by
   rintro k fr1 hh hkN hkeep ⟨g7,g6,rfl⟩;have g1:=kp hkeep h1;have g4:=kp hkeep h4;have g5:=kp hkeep h5;by_cases hlt:k < 5
   ·have w0:Wr ((k:Int)+1)=k+1:=wz;have hc:=YB l x z k;have hs:xW l x z (k+1)=xW l x z k+(if (gd l 0#64 (x+5*k)).getLsbD z then 1 else 0):=rfl;have hb:=MU l x k z hx5 hlt hz;have hi:x*320+k*64+z < 1600:=by omega
    generalize hc1:xW l x z (k+1)=c1 at*;generalize xW l x z k=c at*;have w1:Wr ((c:Int)+1)=((c+1:Nat):Int):=wy
    cases hv:(gd l 0#64 (x+5*k)).getLsbD z
    ·rw [hv] at hb hs;simp at hs;subst hs;simp [aS,g1,g4,g5,g6,g7,hlt,show (k:Int) < 5 by omega,w0,lG,hx5,hz,hi,hb,hc1]
    ·rw [hv] at hb hs;simp at hs;subst hs;simp [aS,g1,g4,g5,g6,g7,hlt,show (k:Int) < 5 by omega,w0,w1,lG,hx5,hz,hi,hb,hc1]
   ·have:k=5:=by omega
    subst this;simp [aS,g7,g6])
 exact ⟨fr',rfl,h6',hk⟩
def oF (l:List ac)(j:Nat):Bool:=(Fc l (j / 64)).getLsbD (j % 64)
theorem zaC {fr:Fr}{h:O}{R:Option (dt × Fr × O)}(l:List ac)(b:List J)(x:Nat)(hx5:x < 5)
  (hF:run ah (V h) (.loop bh) fr (hx h [b,cB (cV 320 (oF l) (fun _=>false) (x*64))] [])=R)
  (h1:fr 1=.vptr (cB (aP l)) 0) (h3:fr 3=pA h.blks.length 1 0) (h4:fr 4=Ii x) (h5:fr 5=Ii 0):
  ∃ fr',R=some (.exit 2,fr',hx h [b,cB (cV 320 (oF l) (fun _=>false) ((x+1)*64))] [])/\∀ t,t∉wr bh->fr' t=fr t:=by
 obtain ⟨e,fr',h',rfl,⟨rfl,rfl⟩,hk⟩:=af hF 64
  (fun k fr hh=>fr 5=Ii k/\hh=hx h [b,cB (cV 320 (oF l) (fun _=>false) (x*64+k))] [])
  (fun e fr hh=>e=.exit 2/\hh=hx h [b,cB (cV 320 (oF l) (fun _=>false) ((x+1)*64))] [])
  ⟨h5, by simp⟩ (by
   rintro k fr1 hh hkN hkeep ⟨g5,rfl⟩;have g1:=kp hkeep h1;have g3:=kp hkeep h3;have g4:=kp hkeep h4;by_cases hlt:k < 64
   ·have w0:Wr ((k:Int)+1)=k+1:=wz;simp [bh,g1,g3,g4,g5,hlt,show (k:Int) < 64 by omega];generalize hF:run ah _ (.loop _) _ _=R;obtain ⟨fr2,rfl,q1,q2⟩:=zaB l _ x k hx5 hlt hF (by simp [g1]) (by simp [g4]) (by simp [g5]) (by simp) (by simp);have hset:=nJ 320 (oF l) (fun _=>false) (x*64+k);have hp:oF l (x*64+k)=(xW l x k 5 % 2==1):=by
     rw [zdi l x k hx5];unfold oF;rw [show (x*64+k) / 64=x by omega,show (x*64+k) % 64=k by omega]
    rw [hp] at hset;have ht:(((xW l x k 5:Nat):Int)).tmod 2=((xW l x k 5 % 2:Nat):Int):=rt _ 2;have hq:(((xW l x k 5 % 2:Nat):Int)==1)=(xW l x k 5 % 2==1):=by
     rw [Bool.eq_iff_iff];simp only [beq_iff_eq];omega
    generalize (xW l x k 5 % 2==1)=v at*;generalize xW l x k 5=c,xW l x k 5 % 2=c2 at*;have hass:x*64+(k+1)=x*64+k+1:=rfl;have hi:x*64+k+1<=320:=by omega
    simp [q1,q2,wr,aS,bj,g3,g4,g5,w0,bQ,ht,hq,e7,hx5,hlt,V,hset,hass,hi]
   ·have:k=64:=by omega
    subst this;have e0:x*64+64=(x+1)*64:=by omega
    simp [bh,g5,e0])
 exact ⟨fr',rfl,hk⟩
theorem zaO {fr:Fr}{h:O}{R:Option (dt × Fr × O)}(l:List ac)(b:List J)
  (hF:run ah (V h) (.loop bF) fr (hx h [b,cB (tab 320 fun _=>false)] [])=R)
  (h1:fr 1=.vptr (cB (aP l)) 0) (h3:fr 3=pA h.blks.length 1 0) (h4:fr 4=Ii 0):
  ∃ fr',R=some (.exit 0,fr',hx h [b,cB (tab 320 (oF l))] [])/\∀ t,t∉wr bF->fr' t=fr t:=by
 obtain ⟨e,fr',h',rfl,⟨rfl,rfl⟩,hk⟩:=af hF 5
  (fun k fr hh=>fr 4=Ii k/\hh=hx h [b,cB (cV 320 (oF l) (fun _=>false) (k*64))] [])
  (fun e fr hh=>e=.exit 0/\hh=hx h [b,cB (tab 320 (oF l))] [])
  ⟨h4, by simp [kR]⟩ (by
   rintro k fr1 hh hkN hkeep ⟨g4,rfl⟩;have g1:=kp hkeep h1;have g3:=kp hkeep h3;by_cases hlt:k < 5
   ·have w0:Wr ((k:Int)+1)=k+1:=wz;simp [bF,g1,g3,g4,hlt,show (k:Int) < 5 by omega];generalize hF:run ah _ (.loop _) _ _=R;obtain ⟨fr2,rfl,q2⟩:=zaC l b k hlt hF (by simp [g1]) (by simp [g3]) (by simp [g4]) (by simp);simp [q2,wr,aS,bh,bj,g4,w0];exact hlt
   ·have:k=5:=by omega
    subst this;simp [bF,g4,tO])
 exact ⟨fr',rfl,hk⟩
theorem zaX (l:List ac)(x y z:Nat)(hx5:x < 5)(hy5:y < 5)(hz:z < 64):di (fE l) (x*320+y*64+z)=
  (di l (x*320+y*64+z) ^^ (oF l ((x+4) % 5*64+z) ^^ oF l ((x+1) % 5*64+(z+63) % 64))):=by
 rw [jS _ _ _ _ hx5 hy5 hz,jS _ _ _ _ hx5 hy5 hz];unfold fE;rw [dZ (by omega),Dx];have h4:(x+4) % 5 < 5:=by omega
 have h1:(x+1) % 5 < 5:=by omega
 have hz2:(z+63) % 64 < 64:=by omega
 rw [show ((x+5*y) % 5+4) % 5=(x+4) % 5 by omega,show ((x+5*y) % 5+1) % 5=(x+1) % 5 by omega];unfold oF;generalize (x+1) % 5=c,(x+4) % 5=a at*;rw [show (a*64+z) / 64=a by omega,show (a*64+z) % 64=z by omega];rw [BitVec.getLsbD_xor,BitVec.getLsbD_xor,TG _ _ _ hz,show (z+64 - 1 % 64) % 64=(z+63) % 64 by omega];generalize (z+63) % 64=z2 at*;rw [show (c*64+z2) / 64=c by omega,show (c*64+z2) % 64=z2 by omega]
theorem zkS (k:Nat):(k:Int).tmod 64=((k % 64:Nat):Int):=rt k 64
theorem za0 {fr:Fr}{h:O}{R:Option (dt × Fr × O)}(l:List ac)(b:List J)(x y:Nat)(hx5:x < 5)(hy5:y < 5)
  (hF:run ah (V h) (.loop bY) fr (hx h [b,cB (tab 320 (oF l)),cB (cV 1600 (di (fE l)) (fun _=>false) (x*320+y*64))] [])=R)
  (h1:fr 1=.vptr (cB (aP l)) 0) (h3:fr 3=pA h.blks.length 1 0) (h8:fr 8=pA h.blks.length 2 0) (h9:fr 9=Ii x) (h10:fr 10=Ii y) (h11:fr 11=Ii 0):
  ∃ fr',R=some (.exit 10,fr',hx h [b,cB (tab 320 (oF l)),cB (cV 1600 (di (fE l)) (fun _=>false) (x*320+(y+1)*64))] [])/\∀ t,t∉wr bY->fr' t=fr t:=by
 obtain ⟨e,fr',h',rfl,⟨rfl,rfl⟩,hk⟩:=af hF 64
  (fun k fr hh=>fr 11=Ii k/\hh=hx h [b,cB (tab 320 (oF l)),cB (cV 1600 (di (fE l)) (fun _=>false) (x*320+y*64+k))] [])
  (fun e fr hh=>e=.exit 10/\hh=hx h [b,cB (tab 320 (oF l)),cB (cV 1600 (di (fE l)) (fun _=>false) (x*320+(y+1)*64))] [])
  ⟨h11,rfl⟩ (by
   rintro k fr1 hh hkN hkeep ⟨g11,rfl⟩;have g1:=kp hkeep h1;have g3:=kp hkeep h3;have g8:=kp hkeep h8;have g9:=kp hkeep h9;have g10:=kp hkeep h10;by_cases hlt:k < 64
   ·have w0:Wr ((k:Int)+1)=k+1:=wz;have w1:Wr ((x:Int)+1)=((x+1:Nat):Int):=wy;have w4:Wr ((x:Int)+4)=((x+4:Nat):Int):=wy;have w63:Wr ((k:Int)+63)=((k+63:Nat):Int):=wy;have t1:=uI (x+1);have t4:=uI (x+4);have t63:=zkS (k+63);have hset:=nJ 1600 (di (fE l)) (fun _=>false) (x*320+y*64+k);rw [zaX l x y k hx5 hy5 hlt] at hset;have b0:gd (aP l) false (x*320+y*64+k)=di l (x*320+y*64+k):=dZ (by omega);have ha5:(x+4) % 5 < 5:=by omega
    have hc5:(x+1) % 5 < 5:=by omega
    have hz2:(k+63) % 64 < 64:=by omega
    have b1:gd (tab 320 (oF l)) false ((x+4) % 5*64+k)=oF l ((x+4) % 5*64+k):=dZ (by omega);have b2:gd (tab 320 (oF l)) false ((x+1) % 5*64+(k+63) % 64)=oF l ((x+1) % 5*64+(k+63) % 64):=dZ (by omega);generalize k+63=k63,x+4=x4,x+1=x1,(k+63) % 64=z2,(x+1) % 5=c,(x+4) % 5=a at*;have hi0:x*320+y*64+k < 1600:=by omega
    have hi1:a*64+k < 320:=by omega
    have hi2:c*64+z2 < 320:=by omega
    have hi3:x*320+y*64+k+1<=1600:=by omega
    have hass:x*320+y*64+(k+1)=x*320+y*64+k+1:=rfl;generalize hM1:cV 1600 (di (fE l)) (fun _=>false) (x*320+y*64+k+1)=M1 at*;have hML:=DN 1600 (di (fE l)) (fun _=>false) (x*320+y*64+k);generalize cV 1600 (di (fE l)) (fun _=>false) (x*320+y*64+k)=M0 at*;have hPL:=AR 320 (oF l);generalize tab 320 (oF l)=P0 at*;have hxor:∀ p q:Bool,(true ^^ (p==q))=(p ^^ q):=by decide
    generalize di l (x*320+y*64+k)=v0 at*;generalize oF l (c*64+z2)=v2,oF l (a*64+k)=v1 at*;simp [bY,V,g11,g1,g3,g8,g9,g10,hlt,show (k:Int) < 64 by omega,w0,w1,w4,w63,t1,t4,t63,bQ,e7,lG,hx5,hy5,ha5,hc5,hz2,hi0,hi1,hi2,hi3,b0,b1,b2,hass,hML,hPL]
    have e1:(!(v0==!(v1==v2)))=(v0 ^^ (v1 ^^ v2)):=by cases v0 <;> cases v1 <;> cases v2 <;> rfl
    rw [e1,hset,hM1]
   ·have:k=64:=by omega
    subst this;have e0:x*320+y*64+64=x*320+(y+1)*64:=by omega
    simp [bY,g11,e0])
 exact ⟨fr',rfl,hk⟩
theorem zaW {fr:Fr}{h:O}{R:Option (dt × Fr × O)}(l:List ac)(b:List J)(x:Nat)(hx5:x < 5)
  (hF:run ah (V h) (.loop dh) fr (hx h [b,cB (tab 320 (oF l)),cB (cV 1600 (di (fE l)) (fun _=>false) (x*320))] [])=R)
  (h1:fr 1=.vptr (cB (aP l)) 0) (h3:fr 3=pA h.blks.length 1 0) (h8:fr 8=pA h.blks.length 2 0) (h9:fr 9=Ii x) (h10:fr 10=Ii 0):
  ∃ fr',R=some (.exit 8,fr',hx h [b,cB (tab 320 (oF l)),cB (cV 1600 (di (fE l)) (fun _=>false) ((x+1)*320))] [])/\∀ t,t∉wr dh->fr' t=fr t:=by
 obtain ⟨e,fr',h',rfl,⟨rfl,rfl⟩,hk⟩:=af hF 5
  (fun k fr hh=>fr 10=Ii k/\hh=hx h [b,cB (tab 320 (oF l)),cB (cV 1600 (di (fE l)) (fun _=>false) (x*320+k*64))] [])
  (fun e fr hh=>e=.exit 8/\hh=hx h [b,cB (tab 320 (oF l)),cB (cV 1600 (di (fE l)) (fun _=>false) ((x+1)*320))] [])
  ⟨h10, by simp⟩ (by
   rintro k fr1 hh hkN hkeep ⟨g10,rfl⟩;have g1:=kp hkeep h1;have g3:=kp hkeep h3;have g8:=kp hkeep h8;have g9:=kp hkeep h9;by_cases hlt:k < 5
   ·have w0:Wr ((k:Int)+1)=k+1:=wz;simp [dh,g1,g3,g8,g9,g10,hlt,show (k:Int) < 5 by omega];generalize hF:run ah _ (.loop _) _ _=R;obtain ⟨fr2,rfl,q2⟩:=za0 l b x k hx5 hlt hF (by simp [g1]) (by simp [g3]) (by simp [g8]) (by simp [g9]) (by simp [g10]) (by simp);simp [q2,wr,bY,bj,g10,w0];exact hlt
   ·have:k=5:=by omega
    subst this;simp [dh,g10];rw [show x*320+320=(x+1)*320 by omega])
 exact ⟨fr',rfl,hk⟩
theorem za1 {fr:Fr}{h:O}{R:Option (dt × Fr × O)}(l:List ac)(b:List J)
  (hF:run ah (V h) (.loop eG) fr (hx h [b,cB (tab 320 (oF l)),cB (tab 1600 fun _=>false)] [])=R)
  (h1:fr 1=.vptr (cB (aP l)) 0) (h3:fr 3=pA h.blks.length 1 0) (h8:fr 8=pA h.blks.length 2 0) (h9:fr 9=Ii 0):
  ∃ fr',R=some (.exit 6,fr',hx h [b,cB (tab 320 (oF l)),cB (aP (fE l))] [])/\∀ t,t∉wr eG->fr' t=fr t:=by
 obtain ⟨e,fr',h',rfl,⟨rfl,rfl⟩,hk⟩:=af hF 5
  (fun k fr hh=>fr 9=Ii k/\hh=hx h [b,cB (tab 320 (oF l)),cB (cV 1600 (di (fE l)) (fun _=>false) (k*320))] [])
  (fun e fr hh=>e=.exit 6/\hh=hx h [b,cB (tab 320 (oF l)),cB (aP (fE l))] [])
  ⟨h9, by simp [kR]⟩ (by
   rintro k fr1 hh hkN hkeep ⟨g9,rfl⟩;have g1:=kp hkeep h1;have g3:=kp hkeep h3;have g8:=kp hkeep h8;by_cases hlt:k < 5
   ·have w0:Wr ((k:Int)+1)=k+1:=wz;simp [eG,g1,g3,g8,g9,hlt,show (k:Int) < 5 by omega];generalize hF:run ah _ (.loop _) _ _=R;obtain ⟨fr2,rfl,q2⟩:=zaW l b k hlt hF (by simp [g1]) (by simp [g3]) (by simp [g8]) (by simp [g9]) (by simp);simp [q2,wr,bY,dh,bj,g9,w0];exact hlt
   ·have:k=5:=by omega
    subst this;simp [eG,g9,tO,aP])
 exact ⟨fr',rfl,hk⟩
theorem za4 (L:az)(h:O)(l:List ac):Z ah L kx [.agg (cB (aP l))] h=some (.agg (cB (aP (fE l))),h):=by
 rw [Bl];simp [oI,V,DT,aa,al,au,ae];generalize hF:run ah _ (.loop _) _ _=R;obtain ⟨fr1,rfl,hk1⟩:=zaO l _ hF (by simp) (by simp) (by simp);simp [hk1,wr,aS,bh,bF,bj,aa,al,au,ae];generalize hF:run ah _ (.loop _) _ _=R;obtain ⟨fr2,rfl,hk2⟩:=za1 l _ hF (by simp [hk1,wr,aS,bh,bF,bj]) (by simp [hk1,wr,aS,bh,bF,bj]) (by simp) (by simp);simp [hk1,hk2,wr,aS,bh,bF,bY,dh,eG,bj,aa,au,ae]
def Lq (r p:Nat):Nat:=if r / p % 2=1 then r - p else r+p
def rcS (r:Nat):Nat:=if 2*r>=256 then Lq (Lq (Lq (Lq (2*r - 256) 64) 32) 16) 1 else 2*r
def rcR:Nat->Nat
 | 0=>1
 | t+1=>rcS (rcR t)
theorem zk0:∀ r,r < 256->rcS r < 256:=by decide
theorem zdR:∀ t,rcR t < 256
 | 0=>by decide
 | t+1=>zk0 _ (zdR t)
theorem zk1 (r p:Nat)(hr:r < 2000)(hp:p < 200):Lq r p < r+200:=by unfold Lq;split <;> omega
def rcF (r k:Nat):Nat:=(([64,32,16,1]:List Nat).take k).foldl Lq r
theorem WB {L:az}{fr:Fr}{H:O}{R:Option (dt × Fr × O)}(r:Nat)(hr:r < 256)
  (hF:run ah L (.loop eY) fr H=R)
  (h18:fr 18=.vsl true (eI .i64 [64,32,16,1])) (h19:fr 19=Ii 4) (h20:fr 20=Ii 0) (h3:fr 3=Ii (r:Nat)):
  ∃ fr',R=some (.exit 2,fr',H)/\fr' 3=Ii (Lq (Lq (Lq (Lq r 64) 32) 16) 1:Nat)/\∀ t,t∉wr eY->fr' t=fr t:=by
 obtain ⟨e,fr',h',rfl,⟨rfl,rfl,h3'⟩,hk⟩:=af hF 4
  (fun k fr hh=>fr 20=Ii k/\fr 3=Ii ((rcF r k:Nat):Int)/\rcF r k < 256+200*k/\hh=H)
  (fun e fr hh=>e=.exit 2/\hh=H/\fr 3=Ii (Lq (Lq (Lq (Lq r 64) 32) 16) 1:Nat))
  ⟨h20, h3, by show r < 256; exact hr, rfl⟩ (by
   rintro k fr1 hh hkN hkeep ⟨g20,g3,gl,rfl⟩;have g18:=kp hkeep h18;have g19:=kp hkeep h19;by_cases hlt:k < 4
   ·have w0:Wr ((k:Int)+1)=k+1:=wz;obtain ⟨p,hp,hp1,hp200,hnext⟩:∃ p:Nat,gd [64,32,16,1] 0 k=(p:Int)/\0 < p/\p < 200/\rcF r (k+1)=Lq (rcF r k) p:=by
     have:k=0\/k=1\/k=2\/k=3:=by omega
     rcases this with rfl | rfl | rfl | rfl
     ·exact ⟨64,rfl,by decide,by decide,rfl⟩
     ·exact ⟨32,rfl,by decide,by decide,rfl⟩
     ·exact ⟨16,rfl,by decide,by decide,rfl⟩
     ·exact ⟨1,rfl,by decide,by decide,rfl⟩
    have hlt2:=zk1 _ p (Nat.lt_of_lt_of_le gl (by omega)) hp200;generalize rcF r k=q at*;have t1:=vS q p;have w1:=eF (q / p) (Nat.lt_of_le_of_lt (Nat.div_le_self _ _) (by omega));have t2:((q / p:Nat):Int).tmod 2=((q / p % 2:Nat):Int):=rt _ 2;have hne:(p:Int)≠0:=by omega
    have w2:Wr ((q:Int)+(p:Int))=((q+p:Nat):Int):=wy;by_cases hc:q / p % 2=1
    ·have hqp:p<=q:=by
      rcases Nat.lt_or_ge q p with h | h
      ·rw [Nat.div_eq_of_lt h] at hc;simp at hc
      ·exact h
     have w3:Wr ((q:Int) - (p:Int))=((q - p:Nat):Int):=wy;have hr':Lq q p=q - p:=by unfold Lq;rw [if_pos hc]
     rw [hr'] at hlt2 hnext;rw [hc] at t2;generalize q - p=e,q / p=d at*;simp [eY,g20,g18,g19,g3,show (k:Int) < 4 by omega,qT,hlt,hp,eN,bQ,hne,show ¬p=0 by omega,t1,w1,t2,w3,w0,hnext];omega
    ·have hr':Lq q p=q+p:=by unfold Lq;rw [if_neg hc]
     have h0:q / p % 2=0:=by omega
     rw [hr'] at hlt2 hnext;rw [h0] at t2;generalize q+p=e,q / p=d at*;simp [eY,g20,g18,g19,g3,show (k:Int) < 4 by omega,qT,hlt,hp,eN,bQ,hne,show ¬p=0 by omega,t1,w1,t2,w2,w0,hnext];omega
   ·have:k=4:=by omega
    subst this;simp [eY,g20,g19,g3];rfl)
 exact ⟨fr',rfl,h3',hk⟩
theorem zhL {L:az}{fr:Fr}{H:O}{R:Option (dt × Fr × O)}(t:Nat)(ht:t < 1000)
  (hF:run ah L (.loop jR) fr H=R)
  (h0:fr 0=Ii t) (h4:fr 4=Ii 0) (h3:fr 3=Ii 1):
  ∃ fr',R=some (.exit 0,fr',H)/\fr' 3=Ii (rcR t:Nat):=by
 obtain ⟨e,fr',h',rfl,⟨rfl,rfl,h3'⟩,hk⟩:=af hF t
  (fun k fr hh=>fr 4=Ii k/\fr 3=Ii (rcR k:Nat)/\hh=H)
  (fun e fr hh=>e=.exit 0/\hh=H/\fr 3=Ii (rcR t:Nat))
  ⟨h4,h3,rfl⟩ (by
   rintro k fr1 hh hkN hkeep ⟨g4,g3,rfl⟩;have g0:=kp hkeep h0;by_cases hlt:k < t
   ·have w0:Wr ((k:Int)+1)=k+1:=wz;have hlt2:=zdR k;have hs:rcR (k+1)=rcS (rcR k):=rfl;generalize rcR k=r at*;have w1:Wr ((r:Int)*2)=((2*r:Nat):Int):=wy;by_cases hc:2*r>=256
    ·have w2:Wr (((2*r:Nat):Int) - 256)=((2*r - 256:Nat):Int):=wy;have hs2:rcS r=Lq (Lq (Lq (Lq (2*r - 256) 64) 32) 16) 1:=by unfold rcS;rw [if_pos hc]
     have hb:2*r - 256 < 256:=by omega
     have hge:(256:Int)<=((2*r:Nat):Int):=by omega
     generalize 2*r=r2 at*;generalize r2 - 256=r3 at*;simp [jR,g0,g4,g3,hlt,w1,w2,hge,al,rep,J.cells,J.okV,chunks,fq,xC];generalize hF:run ah _ (.loop _) _ _=R;obtain ⟨fr2,rfl,q1,q2⟩:=WB r3 hb hF (by simp) (by simp) (by simp) (by simp);simp [q1,q2,wr,eY,bj,g4,w0,hs,hs2];exact hlt
    ·have hs2:rcS r=2*r:=by unfold rcS;rw [if_neg hc]
     have hge:¬(256:Int)<=((2*r:Nat):Int):=by omega
     generalize 2*r=r2 at*;simp [jR,g0,g4,g3,hlt,w1,hge,w0,hs,hs2]
   ·have:k=t:=by omega
    subst this;simp [jR,g0,g4,g3])
 exact ⟨fr',rfl,h3'⟩
def rcB (t:Nat):Bool:=rcR t % 2==1
theorem zov (L:az)(h:O)(t:Nat)(ht:t < 1000):Z ah L nZ [Ii t] h=some (.bool (rcB t),h):=by
 rw [Fk];simp [sk];generalize hF:run ah _ (.loop _) _ _=R;obtain ⟨fr2,rfl,q1⟩:=zhL t ht hF (by simp) (by simp) (by simp);have t1:((rcR t:Nat):Int).tmod 2=((rcR t % 2:Nat):Int):=rt _ 2;have t2:(((rcR t % 2:Nat):Int)==1)=rcB t:=by
  unfold rcB;rw [Bool.eq_iff_iff];simp only [beq_iff_eq];omega
 generalize rcR t % 2=m at*;simp [q1,bQ,t1,t2]
def KO (r:Nat):Nat->List Bool
 | 0=>tab 64 fun _=>false
 | j+1=>(KO r j).set (2 ^ j - 1) (rcB (j+7*r))
@[simp] theorem zd1 (r:Nat):∀ k,(KO r k).length=64
 | 0=>by simp [KO]
 | k+1=>by simp [KO,zd1 r k]
theorem zk6:∀ r,r < 24->KO r 7=tab 64 fun z=>(gd rcW 0#64 r).getLsbD z:=by decide +kernel
theorem zd2 {fr:Fr}{h:O}{R:Option (dt × Fr × O)}(r:Nat)(hr:r < 24)(b:List J)
  (hF:run ah (V h) (.loop cS) fr (hx h [b,cB (KO r 0)] [])=R)
  (h0:fr 0=Ii r) (h3:fr 3=pA h.blks.length 1 0) (h4:fr 4=Ii 1) (h5:fr 5=Ii 0):
  ∃ fr',R=some (.exit 0,fr',hx h [b,cB (KO r 7)] [])/\∀ t,t∉wr cS->fr' t=fr t:=by
 obtain ⟨e,fr',h',rfl,⟨rfl,rfl⟩,hk⟩:=af hF 7
  (fun k fr hh=>fr 5=Ii k/\fr 4=Ii ((2 ^ k:Nat):Int)/\hh=hx h [b,cB (KO r k)] [])
  (fun e fr hh=>e=.exit 0/\hh=hx h [b,cB (KO r 7)] [])
  ⟨h5,h4,rfl⟩ (by
   rintro k fr1 hh hkN hkeep ⟨g5,g4,rfl⟩;have g0:=kp hkeep h0;have g3:=kp hkeep h3;by_cases hlt:k < 7
   ·have w0:Wr ((k:Int)+1)=k+1:=wz;have hp1:1<=2 ^ k:=Nat.one_le_two_pow;have hp2:2 ^ k<=64:=by
     have:2 ^ k<=2 ^ 6:=Nat.pow_le_pow_right (by decide) (by omega);simpa using this
    have hs:KO r (k+1)=(KO r k).set (2 ^ k - 1) (rcB (k+7*r)):=rfl;have hp3:2 ^ (k+1)=2*2 ^ k:=by rw [Nat.pow_succ,Nat.mul_comm]
    generalize hpk1:2 ^ (k+1)=pk1 at*;generalize 2 ^ k=pk at*;have w1:Wr ((pk:Int) - 1)=((pk - 1:Nat):Int):=wy;have w2:Wr (7*(r:Int))=((7*r:Nat):Int):=wy;have w3:Wr ((k:Int)+((7*r:Nat):Int))=((k+7*r:Nat):Int):=wy;have w4:Wr ((pk:Int)*2)=(pk1:Int):=wy;have hrc:=fun L h=>zov L h (k+7*r) (by omega);have hi1:pk - 1 < 64:=by omega
    have hi2:pk - 1+1<=64:=by omega
    generalize rcB (k+7*r)=v at*;generalize pk - 1=pm,7*r=r7,k+7*r=k7 at*;have e2:(2:Int) ^ (k+1)=(pk1:Int):=by rw [<- hpk1,Int.natCast_pow];rfl
    simp [cS,V,g0,g3,g4,g5,hlt,show (k:Int) < 7 by omega,w0,w1,w2,w3,w4,hrc,e7,hi1,hi2,hs,e2]
   ·have:k=7:=by omega
    subst this;simp [cS,g5])
 exact ⟨fr',rfl,hk⟩
theorem Rv (L : az)(h : O)(r : Nat)(hr : r < 24) : Z ah L im [Ii r] h = some (.agg (cB (tab 64 fun z => (gd rcW 0#64 r).getLsbD z)), h) := by
 rw [wL,<- zk6 r hr];have e0:cB (tab 64 fun _=>false)=cB (KO r 0):=rfl;simp [ls,V,DT,e0,aa,al,au,ae,show ¬(r:Int) < 0 by omega,show ¬(23:Int) < r by omega];generalize hF:run ah _ (.loop _) _ _=R;obtain ⟨fr1,rfl,hk1⟩:=zd2 r hr _ hF (by simp) (by simp) (by simp) (by simp);simp [hk1,wr,cS,bj,aa,au,ae]
theorem zd3 (l:List ac):piL (zda l)=vU l:=by kernel_rfl
def N8 (w:ac)(k:Nat):Int:=((w >>> (8*k)).toNat % 256:Nat)
def aR (l:List ac):List Int:=tab (8*l.length) fun j=>N8 (gd l 0#64 (j / 8)) (j % 8)
theorem WI (w:ac):IntKind.u8.wrap (w.toNat:Int)=((w.toNat % 256:Nat):Int):=by
 unfold IntKind.wrap;simp [IntKind.signed,IntKind.bits]
@[simp] theorem ED (w:ac):XA .u8 (wd w)=some (.int .u8 ((w.toNat % 256:Nat):Int)):=by
 unfold wd;rw [iL,WI]
theorem OK {fr : Fr}{h : O}{R : Option (dt × Fr × O)}(l : List ac)(bs : List (List J))(i : Nat)(hi : i < l.length)(hl : l.length < 1000000)(f : Nat -> Int)(hf : f = fun j => N8 (gd l 0#64 (j / 8)) (j % 8))
  (hF:run ah (V h) (.loop lY) fr (hx h bs (gT (eI .u8 (tab (8*i) f))))=R)
  (h3:fr 3=gL .nsl h.toks.length 0 (eI .u8 (tab (8*i) f))) (h5:fr 5=wd (gd l 0#64 i)) (h12:fr 12=Ii 0):
  ∃ fr',R=some (.exit 2,fr',hx h bs (gT (eI .u8 (tab (8*(i+1)) f))))/\fr' 3=gL .nsl h.toks.length 0 (eI .u8 (tab (8*(i+1)) f))/\∀ t,t∉wr lY->fr' t=fr t:=by
 obtain ⟨e,fr',h',rfl,⟨rfl,rfl,h3'⟩,hk⟩:=af hF 8
  (fun k fr hh=>fr 12=Ii k/\fr 5=wd (gd l 0#64 i >>> (8*k))/\fr 3=gL .nsl h.toks.length 0 (eI .u8 (tab (8*i+k) f))/\hh=hx h bs (gT (eI .u8 (tab (8*i+k) f))))
  (fun e fr hh=>e=.exit 2/\hh=hx h bs (gT (eI .u8 (tab (8*(i+1)) f)))/\fr 3=gL .nsl h.toks.length 0 (eI .u8 (tab (8*(i+1)) f)))
  ⟨h12, by simpa using h5, h3, rfl⟩ (by
   rintro k fr1 hh hkN hkeep ⟨g12,g5,g3,rfl⟩;by_cases hlt:k < 8
   ·have w1:Wr ((k:Int)+1)=k+1:=wz;have hfk:((((gd l 0#64 i >>> (8*k)).toNat % 256:Nat):Int))=f (8*i+k):=by
     rw [hf];simp only [N8];rw [show (8*i+k) / 8=i by omega,show (8*i+k) % 8=k by omega]
    have hsh:gd l 0#64 i >>> (8*k) >>> 8=gd l 0#64 i >>> (8*(k+1)):=by
     rw [<- BitVec.shiftRight_add];rfl
    have hroom:8*i+k+1 < 274877906944:=by omega
    generalize hw:gd l 0#64 i >>> (8*k)=w at*;have hs8:aV .shr (wd w) (.int .u64 8)=some (wd (w >>> 8)):=yw w .u64 8 (by decide);generalize hm:8*i+k=m at*;simp [lY,g12,g5,g3,hlt,show (k:Int) < 8 by omega,w1,V,al,rep,J.cells,J.okV,chunks,hfk,fq,LC,ao,hroom,hs8,hsh, -jz];simp [<- Nat.add_assoc,hm]
   ·have:k=8:=by omega
    subst this;simp [lY,g12,g3,Nat.mul_add])
 exact ⟨fr',rfl,h3',hk⟩
theorem WK {fr : Fr}{h : O}{R : Option (dt × Fr × O)}(l : List ac)(x : J)(bs : List (List J))(hl : l.length < 1000000)(f : Nat -> Int)(hf : f = fun j => N8 (gd l 0#64 (j / 8)) (j % 8))(hx6 : iV h x l)
  (hF:run ah (V h) (.loop sO) fr (hx h bs [])=R)
  (h3:fr 3=.nsl) (h6:fr 6=x) (h7:fr 7=Ii l.length) (h8:fr 8=Ii 0):
  ∃ fr',R=some (.exit 0,fr',hx h bs (gT (eI .u8 (aR l))))/\fr' 3=gL .nsl h.toks.length 0 (eI .u8 (aR l)):=by
 obtain ⟨r1,p,r2,r3⟩:=hx6;obtain ⟨e,fr',h',rfl,⟨rfl,rfl,h3'⟩,hk⟩:=af hF l.length
  (fun k fr hh=>fr 8=Ii k/\fr 3=gL .nsl h.toks.length 0 (eI .u8 (tab (8*k) f))/\hh=hx h bs (gT (eI .u8 (tab (8*k) f))))
  (fun e fr hh=>e=.exit 0/\hh=hx h bs (gT (eI .u8 (aR l)))/\fr 3=gL .nsl h.toks.length 0 (eI .u8 (aR l)))
  ⟨h8, by simpa [tab, gL] using h3, by simp [tab, gT]⟩ (by
   rintro k fr1 hh hkN hkeep ⟨g8,g3,rfl⟩;have g6:=kp hkeep h6;have g7:=kp hkeep h7;by_cases hlt:k < l.length
   ·have w1:Wr ((k:Int)+1)=k+1:=wz;simp [sO,g8,g6,g7,hlt,r2 k hlt,r3 k _ _ hlt];generalize hF:run ah _ (.loop _) _ _=R;obtain ⟨fr2,rfl,q1,q2⟩:=OK l bs k hlt hl f hf hF (by simp [g3]) (by simp) (by simp);simp [q1,q2,wr,lY,bj,g8,w1];exact hlt
   ·have:k=l.length:=by omega
    subst this;simp [sO,g8,g7,g3,aR,hf])
 exact ⟨fr',rfl,h3'⟩
theorem Ue (L:az)(h:O)(l:List ac)(x:J)(hl:l.length < 1000000)(hx6:iV h x l):Z ah L qP [x] h=some (.vsl false (eI .u8 (aR l)),h):=by
 rw [KV];simp [Aw,hx6.1];generalize hF:run ah _ (.loop _) _ _=R;obtain ⟨fr1,rfl,q1⟩:=WK l x _ hl _ rfl hx6 hF (by simp) (by simp) (by simp) (by simp);simp [q1,v6]
@[simp] theorem zlc (l:List ac):(aR l).length=8*l.length:=by simp [aR]
theorem ND (L:az)(h:O)(s:List ac)(hs:s.length=25):Z ah L fT [.agg (cW s)] h=some (.agg (cI .u8 (aR s)),h):=by
 rw [yY];have hb:=fun L bs=>Ue L (hx h (cW s :: bs) []) s (sA h.blks.length 0 0 1 25 (some 25)) (by omega) (iV.sA [] 0 25 _ s hs (by simp));have e1:(aR s).take 200=aR s:=List.take_of_length_le (by simp [hs]);simp [nQ,V,fJ,aF,J.okV,J.cells,hs,vn,hb,SA,aa,e1,au,ae]
def cD (s:List ac)(n:Int):List J:=cW s++[Ii n]
@[simp] theorem znr (s:List ac)(n:Int):(cD s n).length=s.length+1:=by simp [cD]
theorem QH {s:List ac}{n:Int}{i:Nat}(h:decide (i < s.length)=true):(cD s n)[i]?=some (wd (gd s 0#64 i)):=by
 have h':i < s.length:=by simpa using h
 unfold cD;rw [List.getElem?_append_left (by simpa using h')];exact M6 h'
theorem IC {s:List ac}{n:Int}(h:s.length=25):(cD s n)[25]?=some (Ii n):=by
 unfold cD;rw [List.getElem?_append_right (by simp [h])];simp [h]
theorem JX {s:List ac}{n:Int}(h0:25 < (cD s n).length)(h:s.length=25):(cD s n)[25]=Ii n:=by
 have:=IC (n:=n) h;rw [List.getElem?_eq_getElem h0] at this;exact sj this
theorem Hb {s:List ac}{n:Int}{i:Nat}(h0:i < (cD s n).length)(h:decide (i < s.length)=true):(cD s n)[i]=wd (gd s 0#64 i):=by
 have:=QH (n:=n) h;rw [List.getElem?_eq_getElem h0] at this;exact sj this
theorem zcf {s:List ac}{n:Int}{i:Nat}(x:ac)(h:decide (i < s.length)=true):(cD s n).set i (wd x)=cD (s.set i x) n:=by
 have h':i < s.length:=by simpa using h
 unfold cD;rw [List.set_append_left _ _ (by simpa using h')];simp
theorem NF {s:List ac}{n:Int}(m:Int)(h:s.length=25):(cD s n).set 25 (Ii m)=cD s m:=by
 unfold cD;rw [List.set_append_right _ _ (by simp [h])];simp [h]
theorem NG {s:List ac}{n:Int}(h:s.length=25):cL true (cD s n) 0 25=some (.agg (cW s)):=by
 unfold cL cD;simp [h]
theorem QI {s:List ac}{n:Int}(h:s.length=25):cL true (cD s n) 0 26=some (.agg (cD s n)):=Pk (by simp [h])
theorem XN {s t:List ac}{n:Int}(h:s.length=25)(ht:t.length=25):setAt (cD s n) 0 (cW t)=cD t n:=by
 have e:∀ (cs old rest:List J),old.length=cs.length->∀ pre:List J,setAt (pre++(old++rest)) pre.length cs=pre++(cs++rest):=by
  intro cs
  induction cs with
  | nil=>intro old rest h pre;cases old with | nil=>simp [setAt] | cons a l=>simp at h
  | cons c cs ih=>
   intro old rest h pre
   cases old with
   | nil=>simp at h
   | cons a l=>
    simp only [setAt];rw [List.set_append_right _ _ (Nat.le_refl _),Nat.sub_self];have:=ih l rest (by simpa using h) (pre++[c]);simpa using this
 have:=e (cW t) (cW s) [Ii n] (by simp [h,ht]) [];simpa [cD] using this
def sH (s:List ac)(at_:Nat)(v:Int):List ac:=s.set (at_ / 8) (gd s 0#64 (at_ / 8) ^^^ (bw v <<< (8*(at_ % 8))))
@[simp] theorem Vh (s:List ac)(n:Nat)(v:Int):(sH s n v).length=s.length:=by simp [sH]
theorem XR (L:az)(h:O)(bs:List (List J))(ts:List Nat)(i:Nat)(s:List ac)(n:Int)(at_:Nat)(v:Int)(hs:s.length=25)(ha:at_ < 200)(hb:bs[i]?=some (cD s n))(hL:L.rob<=h.blks.length):
  Z ah L dO [pA h.blks.length i 0,Ii (at_:Int),.int .u8 v] (hx h bs ts)=some (.tup [],hx h (bs.set i (cD (sH s at_ v) n)) ts):=by
 rw [Da];have w0:=vS at_ 8;have w1:=rt at_ 8;have w2:IntKind.i64.wrap ((at_ / 8:Nat):Int)=((at_ / 8:Nat):Int):=eF _ (by omega);have w3:IntKind.i64.wrap (8*((at_ % 8:Nat):Int))=((8*(at_ % 8):Nat):Int):=by
  rw [<- eF (8*(at_ % 8)) (by omega)];simp only [Int.natCast_mul,Int.natCast_add,Int.cast_ofNat_Int]
 have ha25:at_ / 8 < 25:=by omega
 have hb64:8*(at_ % 8)<=64:=by omega
 have hset:s.set (at_ / 8) (gd s 0#64 (at_ / 8) ^^^ (bw v <<< (8*(at_ % 8))))=sH s at_ v:=rfl;simp only [Int.cast_ofNat_Int] at w0 w1;have hi:=(List.getElem?_eq_some_iff.1 hb).1;generalize at_ / 8=a at*;generalize hbb:8*(at_ % 8)=b at*;generalize at_ % 8=c at*;simp [qU,w0,w1,w2,w3,eN,bQ,aB,aA,e7,ha25,hb,QH,hs,Nz,hb64,am,hL,zcf,hset,show a<=25 by omega,rL, -iL, -wV]
def uQ (q:List ac × Nat)(v:Int):List ac × Nat:=if q.2+1=136 then (kQ (sH q.1 q.2 v),0) else (sH q.1 q.2 v,q.2+1)
def aX (q:List ac × Nat)(l:List Int):List ac × Nat:=l.foldl uQ q
theorem zgf {q:List ac × Nat}(v:Int)(h1:q.1.length=25)(h2:q.2 < 136):(uQ q v).1.length=25/\(uQ q v).2 < 136:=by
 unfold uQ;split
 ·exact ⟨fH _ (by simp [h1]),by simp⟩
 ·exact ⟨by simp [h1],by simp only [];omega⟩
theorem sI:∀ (l:List Int) {q:List ac × Nat},q.1.length=25->q.2 < 136->(aX q l).1.length=25/\(aX q l).2 < 136
 | [],q,h1,h2=>⟨h1,h2⟩
 | v :: l, q, h1, h2 => by
  obtain ⟨a,b⟩:=zgf v h1 h2;exact sI l a b
theorem XS {L:az}{fr:Fr}{h:O}{R:Option (dt × Fr × O)}(bs:List (List J))(ts:List Nat)(i:Nat)(q:List ac × Nat)(x:J)(l:List Int)(hl:l.length < 200000000000)(h1:q.1.length=25)(h2:q.2 < 136)
  (hb:bs[i]?=some (cD q.1 q.2)) (hL:L.rob<=h.blks.length) (hr:IY h .u8 x l)
  (hF:run ah ⟨L.rob,L.rot,h.blks.length+bs.length,h.toks.length+ts.length⟩ (.loop ga) fr (hx h bs ts)=R)
  (h0:fr 0=pA h.blks.length i 0) (h6:fr 6=x) (h7:fr 7=Ii l.length) (h8:fr 8=Ii 0):
  ∃ fr',R=some (.exit 0,fr',hx h (bs.set i (cD (aX q l).1 (aX q l).2)) ts):=by
 obtain ⟨r1,p,r2,r3⟩:=hr;have hi:=(List.getElem?_eq_some_iff.1 hb).1;obtain ⟨e,fr',h',rfl,⟨rfl,rfl⟩,hk⟩:=af hF l.length
  (fun k fr hh=>fr 8=Ii k/\hh=hx h (bs.set i (cD (aX q (l.take k)).1 (aX q (l.take k)).2)) ts)
  (fun e fr hh=>e=.exit 0/\hh=hx h (bs.set i (cD (aX q l).1 (aX q l).2)) ts)
  ⟨h8,by
   have:bs.set i (cD q.1 q.2)=bs:=by
    refine List.ext_getElem? fun j=>?_;by_cases e:i=j
    ·subst e;rw [List.getElem?_set_self hi,hb]
    ·rw [List.getElem?_set_ne e]
   simp [aX,this]⟩ (by
   rintro k fr1 hh hkN hkeep ⟨g8,rfl⟩;have g0:=kp hkeep h0;have g6:=kp hkeep h6;have g7:=kp hkeep h7;obtain ⟨c1,c2⟩:=sI (l.take k) h1 h2;by_cases hlt:k < l.length
   ·have w1:Wr ((k:Int)+1)=k+1:=wz;have hst:aX q (l.take (k+1))=uQ (aX q (l.take k)) (gd l 0 k):=by
     rw [rK 0 hlt];simp [aX]
    generalize aX q (l.take k)=q' at*;obtain ⟨s,n⟩:=q';simp only at c1 c2;have w2:Wr ((n:Int)+1)=((n+1:Nat):Int):=wz;have hp:=XR ⟨L.rob,L.rot,h.blks.length+bs.length,h.toks.length+ts.length⟩ h (bs.set i (cD s n)) ts i s n n (gd l 0 k) c1 (by omega) (by simp [hi]) hL;by_cases h136:n+1=136
    ·have hst2:uQ (s,n) (gd l 0 k)=(kQ (sH s n (gd l 0 k)),0):=by simp only [uQ,h136,if_true]
     rw [hst2] at hst;rw [h136] at w2;simp [JX,Hb,ga,g0,g6,g7,g8,hlt,w1,r2 k hlt,r3 k _ _ hlt,hi,IC,c1,hp,w2,hst,am,hL,NF,NG,GZ,fH,au,XN]
    ·have hst2:uQ (s,n) (gd l 0 k)=(sH s n (gd l 0 k),n+1):=by simp only [uQ,h136,if_false]
     rw [hst2] at hst;have hne:(((n+1:Nat):Int)==136)=false:=beq_false_of_ne (by omega);generalize n+1=n1 at*;simp [JX,Hb,ga,g0,g6,g7,g8,hlt,w1,r2 k hlt,r3 k _ _ hlt,hi,IC,c1,hp,w2,hst,am,hL,NF,hne]
   ·have:k=l.length:=by omega
    subst this;simp [ga,g8,g7])
 exact ⟨fr',rfl⟩
theorem zgi (L:az)(h:O)(bs:List (List J))(ts:List Nat)(i:Nat)(q:List ac × Nat)(x:J)(l:List Int)(hl:l.length < 200000000000)(h1:q.1.length=25)(h2:q.2 < 136)
  (hb:bs[i]?=some (cD q.1 q.2)) (hL:L.rob<=h.blks.length) (hr:IY h .u8 x l):
  Z ah L kj [pA h.blks.length i 0,x] (hx h bs ts)=some (.tup [],hx h (bs.set i (cD (aX q l).1 (aX q l).2)) ts):=by
 rw [zV];simp [oL,hr.1,aB,aA];generalize hF:run ah _ (.loop _) _ _=R;obtain ⟨fr',rfl⟩:=XS bs ts i q x l hl h1 h2 hb hL hr hF (by simp) (by simp) (by simp) (by simp);simp [aB,aA,rL]
def Vj (q:List ac × Nat):List Int:=(aR (kQ (sH (sH q.1 q.2 6) 135 128))).take 32
theorem zjk (L:az)(h:O)(b:Nat)(q:List ac × Nat)(h1:q.1.length=25)(h2:q.2 < 136)(hb:h.blks[b]?=some (cD q.1 q.2)):
  Z ah L jE [.ptr b 0] h=some (.agg (cI .u8 (Vj q)),h):=by
 rw [CP];obtain ⟨s,n⟩:=q;simp only at h1 h2 hb;have hld:∀ bs ts,qk (hx h bs ts) (.ptr b 0) 26 true=some (.agg (cD s n)):=fun bs ts=>(n8 h bs ts b 0 26 true _ hb).trans (QI h1);have ep:∀ (bs:List J) (s:List ac),s.length=25->Z ah ⟨h.blks.length,h.toks.length,h.blks.length,h.toks.length⟩ dO [pA h.blks.length 1 0,Ii (n:Int),.int .u8 6] (hx h [bs,cD s n] [])=some (.tup [],hx h [bs,cD (sH s n 6) n] []):=fun bs s hs=>
  XR _ h [bs,cD s n] [] 1 s n n 6 hs (by omega) (by simp) (Nat.le_refl _)
 have ep2:∀ (bs:List J) (s:List ac),s.length=25->Z ah ⟨h.blks.length,h.toks.length,h.blks.length,h.toks.length⟩ dO [pA h.blks.length 1 0,Ii 135,.int .u8 128] (hx h [bs,cD s n] [])=some (.tup [],hx h [bs,cD (sH s 135 128) n] []):=fun bs s hs=>
  XR _ h [bs,cD s n] [] 1 s n 135 128 hs (by omega) (by simp) (Nat.le_refl _)
 have e32:(aR (kQ (sH (sH s n 6) 135 128))).length=200:=by simp [fH,h1]
 have hsl:=NU 200 1 h.blks.length 2 0 32 .i64 (by decide);simp only [Int.cast_ofNat_Int] at hsl;simp [JX,Hb,qG,aB,aA,V,fJ,hld,QI,h1,au,ae,IC,ep,ep2,NG,GZ,ND,fH,aa,e32,hsl,zgz,Vj];simp [zgC,e32,au,ae,List.take_take]
def O8 (l:List Int):List Int:=Vj (aX (tab 25 fun _=>0#64,0) l)
theorem gn (q:List ac × Nat)(l m:List Int):aX q (l++m)=aX (aX q l) m:=by simp [aX]
def VG (ps:List (J × List Int)):List Int:=(ps.map (·.2)).flatten
theorem zgl (ps:List (J × List Int))(k:Nat)(h:k < ps.length):VG (ps.take (k+1))=VG (ps.take k)++ps[k].2:=by
 unfold VG;rw [List.take_add_one,List.getElem?_eq_getElem h,List.map_append,List.flatten_append]
 congr 1
 simp
theorem zcl {fr:Fr}{h:O}{R:Option (dt × Fr × O)}(z:List J)(ps:List (J × List Int))(hn:ps.length < 1000000)(hr:∀ p∈ps,IY h .u8 p.1 p.2/\p.2.length < 200000000000)
  (hF:run ah (V h) (.loop lZ) fr (hx h [z,cD (tab 25 fun _=>0#64) 0] [])=R)
  (h3:fr 3=pA h.blks.length 1 0) (h6:fr 6=.vsl false (ps.map fun p=>[p.1])) (h7:fr 7=Ii ps.length) (h8:fr 8=Ii 0):
  ∃ fr' q,R=some (.exit 0,fr',hx h [z,cD q.1 q.2] [])/\q=aX (tab 25 fun _=>0#64,0) (VG ps)/\q.1.length=25/\q.2 < 136/\∀ t,t∉wr lZ->fr' t=fr t:=by
 obtain ⟨e,fr',h',rfl,⟨rfl,rfl⟩,hk⟩:=af hF ps.length
  (fun k fr hh=>fr 8=Ii k/\hh=hx h [z,cD (aX (tab 25 fun _=>0#64,0) (VG (ps.take k))).1 (aX (tab 25 fun _=>0#64,0) (VG (ps.take k))).2] [])
  (fun e fr hh=>e=.exit 0/\hh=hx h [z,cD (aX (tab 25 fun _=>0#64,0) (VG ps)).1 (aX (tab 25 fun _=>0#64,0) (VG ps)).2] [])
  ⟨h8, by simp only [List.take_zero]; rfl⟩ (by
   rintro k fr1 hh hkN hkeep ⟨g8,rfl⟩;have g3:=kp hkeep h3;have g6:=kp hkeep h6;have g7:=kp hkeep h7;obtain ⟨c1,c2⟩:=sI (VG (ps.take k)) (q:=(tab 25 fun _=>0#64,0)) (by simp) (by simp);by_cases hlt:k < ps.length
   ·have w1:Wr ((k:Int)+1)=k+1:=wz;have hst : aX (tab 25 fun _ => 0#64, 0) (VG (ps.take (k + 1))) = aX (aX (tab 25 fun _ => 0#64, 0) (VG (ps.take k))) ps[k].2 := by
     rw [<- gn]
     congr 1
     exact zgl ps k hlt
    obtain ⟨r1,r2⟩:=hr ps[k] (List.getElem_mem hlt);generalize aX (tab 25 fun _=>0#64,0) (VG (ps.take k))=q' at*;have hw:=zgi ⟨h.blks.length,h.toks.length,h.blks.length,h.toks.length⟩ h [z,cD q'.1 q'.2] [] 1 q' ps[k].1 ps[k].2 r2 c1 c2 (by simp) (Nat.le_refl _) r1;simp [lZ,V,g3,g6,g7,g8,hlt,bO,Ke,w1,hw,hst]
   ·have:k=ps.length:=by omega
    subst this;simp [lZ,g8,g7])
 obtain ⟨c1,c2⟩:=sI (VG ps) (q:=(tab 25 fun _=>0#64,0)) (by simp) (by simp);exact ⟨fr',_,rfl,rfl,c1,c2,hk⟩
theorem XW:[J.int .u64 0,.int .u64 0,.int .u64 0,.int .u64 0,.int .u64 0,.int .u64 0,.int .u64 0,.int .u64 0,.int .u64 0,.int .u64 0,.int .u64 0,.int .u64 0,.int .u64 0,.int .u64 0,.int .u64 0,.int .u64 0,.int .u64 0,.int .u64 0,.int .u64 0,.int .u64 0,.int .u64 0,.int .u64 0,.int .u64 0,.int .u64 0,.int .u64 0,Ii 0]=cD (tab 25 fun _=>0#64) 0:=rfl
theorem zjm (L:az)(h:O)(c:Bool)(ps:List (J × List Int))(hn:ps.length < 1000000)(hr:∀ p∈ps,IY h .u8 p.1 p.2/\p.2.length < 200000000000):
  Z ah L qQ [.vsl c (ps.map fun p=>[p.1])] h=some (.agg (cI .u8 (O8 (VG ps))),h):=by
 rw [KW];simp [AA,XW,fJ,V];generalize hF:run ah _ (.loop _) _ _=R;obtain ⟨fr',q,rfl,q1,q2,q3,hk⟩:=zcl _ ps hn hr hF (by simp) (by simp) (by simp) (by simp);have hs:Z ah ⟨h.blks.length,h.toks.length,h.blks.length,h.toks.length⟩ jE [pA h.blks.length 1 0] (hx h [cI .u8 (tab 32 fun _=>0),cD q.1 q.2] [])=some (.agg (cI .u8 (Vj q)),hx h [cI .u8 (tab 32 fun _=>0),cD q.1 q.2] []):=zjk ⟨h.blks.length,h.toks.length,h.blks.length,h.toks.length⟩ (hx h [cI .u8 (tab 32 fun _=>0),cD q.1 q.2] []) (h.blks.length+1) q q2 q3 (BG [] (by simp));have hl:(Vj q).length=32:=by simp [Vj,fH,q2]
 simp [hk,wr,lZ,bj,hs,au,hl,ae,aa,O8,<- q1]
theorem Vn (m:List ac)(hm:m.length=25)(c:ac)(x y z:Nat)(hx5:x < 5)(hy5:y < 5)(hz:z < 64):
  di (m.set 0 (gd m 0#64 0 ^^^ c)) (x*320+y*64+z)=if x*320+y*64+z < 64 then di m (x*320+y*64+z) ^^ c.getLsbD (x*320+y*64+z) else di m (x*320+y*64+z):=by
 rw [jS _ _ _ _ hx5 hy5 hz,jS _ _ _ _ hx5 hy5 hz];by_cases h:x=0/\y=0
 ·obtain ⟨rfl,rfl⟩:=h;have:gd (m.set 0 (gd m 0#64 0 ^^^ c)) 0#64 0=gd m 0#64 0 ^^^ c:=by
   unfold gd;simp [List.getD,hm]
  rw [if_pos (by omega)];simp only [Nat.zero_mul,Nat.zero_add,Nat.mul_zero,this,BitVec.getLsbD_xor]
 ·rw [if_neg (by omega)]
  congr 1
  unfold gd;have:¬0=x+5*y:=by omega
  simp [List.getD,List.getElem?_set,this]
theorem Vo {fr:Fr}{h:O}{R:Option (dt × Fr × O)}(m:List ac)(hm:m.length=25)(c:ac)(b:List J)
  (hF:run ah (V h) (.loop eu) fr (hx h [cB (aP m),b,cB (tab 64 fun z=>c.getLsbD z)] [])=R)
  (h2:fr 2=pA h.blks.length 0 0) (h5:fr 5=pA h.blks.length 2 0) (h6:fr 6=Ii 0):
  ∃ fr',R=some (.exit 0,fr',hx h [cB (aP (m.set 0 (gd m 0#64 0 ^^^ c))),b,cB (tab 64 fun z=>c.getLsbD z)] [])/\∀ t,t∉wr eu->fr' t=fr t:=by
 obtain ⟨e,fr',h',rfl,⟨rfl,rfl⟩,hk⟩:=af hF 64
  (fun k fr hh=>fr 6=Ii k/\hh=hx h [cB (cV 1600 (di (m.set 0 (gd m 0#64 0 ^^^ c))) (di m) k),b,cB (tab 64 fun z=>c.getLsbD z)] [])
  (fun e fr hh=>e=.exit 0/\hh=hx h [cB (aP (m.set 0 (gd m 0#64 0 ^^^ c))),b,cB (tab 64 fun z=>c.getLsbD z)] [])
  ⟨h6, by rw [kR]; rfl⟩ (by
   rintro k fr1 hh hkN hkeep ⟨g6,rfl⟩;have g2:=kp hkeep h2;have g5:=kp hkeep h5;by_cases hlt:k < 64
   ·have w0:Wr ((k:Int)+1)=k+1:=wz;have hset:=nJ 1600 (di (m.set 0 (gd m 0#64 0 ^^^ c))) (di m) k;have hb:=Vn m hm c 0 0 k (by decide) (by decide) hlt;simp only [Nat.zero_mul,Nat.zero_add] at hb;rw [if_pos hlt] at hb;rw [hb] at hset;have b0:gd (cV 1600 (di (m.set 0 (gd m 0#64 0 ^^^ c))) (di m) k) false k=di m k:=LA (by omega);have b1:gd (tab 64 fun z=>c.getLsbD z) false k=c.getLsbD k:=dZ hlt;generalize hM1:cV 1600 (di (m.set 0 (gd m 0#64 0 ^^^ c))) (di m) (k+1)=M1 at*;have hML:=DN 1600 (di (m.set 0 (gd m 0#64 0 ^^^ c))) (di m) k;generalize cV 1600 (di (m.set 0 (gd m 0#64 0 ^^^ c))) (di m) k=M0 at*;have hCL:=AR 64 (fun z=>c.getLsbD z);generalize c.getLsbD k=v1,di m k=v0,(tab 64 fun z=>c.getLsbD z)=C0 at*;simp [eu,V,g2,g5,g6,hlt,show (k:Int) < 64 by omega,w0,e7,show k < 1600 by omega,show k<=1599 by omega,hML,hCL,b0,b1]
    have e1:(!(v0==v1))=(v0 ^^ v1):=by cases v0 <;> cases v1 <;> rfl
    rw [e1,hset,hM1]
   ·have:k=64:=by omega
    subst this;have e0 : cV 1600 (di (m.set 0 (gd m 0#64 0 ^^^ c))) (di m) 64 = aP (m.set 0 (gd m 0#64 0 ^^^ c)) := a8 fun j hj => by
     by_cases hj:j < 64
     ·rw [if_pos hj]
     ·rw [if_neg hj];obtain ⟨x,y,z,hx5,hy5,hz,rfl⟩:=zai (by assumption);rw [Vn m hm c x y z hx5 hy5 hz,if_neg hj]
    simp [eu,g6,e0])
 exact ⟨fr',rfl,hk⟩
theorem XX (L:az)(h:O)(l:List ac)(k:Nat)(hk:k < 24):Z ah L ko [.agg (cB (aP l)),Ii k] h=some (.agg (cB (aP (DA l k))),h):=by
 rw [AJ];simp [oz,V,DT,aF,J.okV,J.cells,aa,au,ae,za4,zhm,zkC,zhq,Rv,hk,zd3];generalize hF:run ah _ (.loop _) _ _=R;obtain ⟨fr1,rfl,hk1⟩:=Vo (re (vU (fE l))) (by simp) _ _ hF (by simp) (by simp) (by simp);simp [hk1,wr,eu,bj,aa,au,ae,DA]
theorem Vp {fr:Fr}{h:O}{R:Option (dt × Fr × O)}(l:List ac)(b:List J)
  (hF:run ah (V h) (.loop dv) fr (hx h [b,cB (aP l)] [])=R)
  (h3:fr 3=pA h.blks.length 1 0) (h4:fr 4=Ii 0):
  ∃ fr',R=some (.exit 0,fr',hx h [b,cB (aP (kQ l))] [])/\∀ t,t∉wr dv->fr' t=fr t:=by
 obtain ⟨e,fr',h',rfl,⟨rfl,rfl⟩,hk⟩:=af hF 24
  (fun k fr hh=>fr 4=Ii k/\hh=hx h [b,cB (aP (Km l k))] [])
  (fun e fr hh=>e=.exit 0/\hh=hx h [b,cB (aP (kQ l))] [])
  ⟨h4,rfl⟩ (by
   rintro k fr1 hh hkN hkeep ⟨g4,rfl⟩;have g3:=kp hkeep h3;by_cases hlt:k < 24
   ·have w0:Wr ((k:Int)+1)=k+1:=wz;simp [dv,V,g3,g4,hlt,show (k:Int) < 24 by omega,w0,aa,au,ae,XX,GX]
   ·have:k=24:=by omega
    subst this;simp [dv,g4,kQ])
 exact ⟨fr',rfl,hk⟩
theorem IJ (L:az)(h:O)(l:List ac)(hl:l.length=25):Z ah L fy [.agg (cW l)] h=some (.agg (cW (kQ l)),h):=by
 rw [xZ];simp [l9,V,bH,DT,aa,hl,au,ae,V1];generalize hF:run ah _ (.loop _) _ _=R;obtain ⟨fr1,rfl,hk1⟩:=Vp l _ hF (by simp) (by simp);simp [hk1,wr,dv,bj,aa,au,ae,V3,fH,hl]
def Pa (b:List Int)(n:Nat):Nat->List ac
 | 0=>tab 25 fun _=>0#64
 | k+1=>let i:=n - 1 - k;(Pa b n k).set (i / 8) (gd (Pa b n k) 0#64 (i / 8)*256#64+bw (gd b 0 i))
@[simp] theorem ZQ (b:List Int)(n:Nat):∀ k,(Pa b n k).length=25
 | 0=>by simp [Pa]
 | k+1=>by simp [Pa,ZQ b n k]
def ce (b:List Int):List ac:=Pa b 200 200
theorem ZR {fr:Fr}{h:O}{R:Option (dt × Fr × O)}(b:List Int)(hb:b.length=200)(x:J)(z:List J)(hr:IY h .u8 x b)
  (hF:run ah (V h) (.loop b7) fr (hx h [z,cW (Pa b 200 0)] [])=R)
  (h0:fr 0=x) (h3:fr 3=pA h.blks.length 1 0) (h4:fr 4=Ii 199):
  ∃ fr',R=some (.exit 0,fr',hx h [z,cW (ce b)] [])/\∀ t,t∉wr b7->fr' t=fr t:=by
 obtain ⟨r1,p,r2,r3⟩:=hr;obtain ⟨e,fr',h',rfl,⟨rfl,rfl⟩,hk⟩:=af hF 200
  (fun k fr hh=>fr 4=Ii (199 - (k:Int))/\hh=hx h [z,cW (Pa b 200 k)] [])
  (fun e fr hh=>e=.exit 0/\hh=hx h [z,cW (ce b)] [])
  ⟨h4,rfl⟩ (by
   rintro k fr1 hh hkN hkeep ⟨g4,rfl⟩;have g0:=kp hkeep h0;have g3:=kp hkeep h3;by_cases hlt:k < 200
   ·obtain ⟨i,hi⟩:∃ i:Nat,i=199 - k:=⟨_,rfl⟩;have hi200:i < 200:=by omega
    have g4':fr1 4=Ii (i:Int):=by rw [g4];congr 1;omega
    have w1:Wr ((i:Int) - 1)=199 - ((k+1:Nat):Int):=wy;have hst:Pa b 200 (k+1)=(Pa b 200 k).set (i / 8) (gd (Pa b 200 k) 0#64 (i / 8)*256#64+bw (gd b 0 i)):=by
     rw [Pa,show 200 - 1 - k=i by omega]
    have t1:(i:Int).tdiv 8=((i / 8:Nat):Int):=vS i 8;have t2:=eF (i / 8) (by omega);have hq:i / 8 < 25:=by omega
    have hq2:i / 8<=24:=by omega
    generalize i / 8=q at*;have hm2:J.int .u64 256=wd 256#64:=rfl;have hib:i < b.length:=by omega
    have hL:=ZQ b 200 k;generalize hM1:Pa b 200 (k+1)=M1 at*;generalize Pa b 200 k=M0 at*;simp [-iL,b7,V,g0,g3,g4',show (0:Int)<=i by omega,t1,t2,eN,e7,hq,hq2,hm2,hL,r2 i hib,r3 i _ _ hib,<- hst,w1];exact ⟨hlt,by rw [hM1]⟩
   ·have:k=200:=by omega
    subst this;simp [b7,g4,ce])
 exact ⟨fr',rfl,hk⟩
theorem NS (L:az)(h:O)(bs:List (List J))(ts:List Nat)(i:Nat)(cap:Option Nat)(b:List Int)(hb:bs[i]?=some (cI .u8 b))(hl:b.length=200):
  Z ah L cG [sA h.blks.length i 0 1 200 cap] (hx h bs ts)=some (.agg (cW (ce b)),hx h bs ts):=by
 rw [oX];have hf:=Xn h bs ts i 200 cap .u8 b hb hl;rw [Gx,C9,hf,Gy,Mm,GA];generalize hx h bs ts=H;have e0:cW (tab 25 fun _=>0#64)=cW (Pa b 200 0):=rfl;simp [i8,V,bH,e0,aa,al,au,ae,hl];generalize hF:run ah _ (.loop _) _ _=R;have hr:IY H .u8 (.vsl false (eI .u8 b)) b:=IY.vsl H .u8 false b;obtain ⟨fr1,rfl,hk1⟩:=ZR b hl _ _ hr hF (by simp) (by simp) (by simp;exact wrap_i64 (by decide) (by decide));have hw:(ce b).length=25:=by simp [ce]
 simp [hk1,wr,b7,bj,aa,au,ae,hw]
def GrO (h:O)(bs:List (List J))(ts:List Nat)(f:Nat->Int)(v:J)(hh:O)(m:Nat):Prop:=
 (m=0/\v=.vsl true []/\hh=hx h bs ts)\/(0 < m/\∃ bs',(∃ js,bs'=bs++js)/\v=sA h.blks.length bs'.length 0 1 m none/\hh=hx h (bs'++[cI .u8 (tab m f)]) ts)
theorem GrO.step {h:O}{bs:List (List J)}{ts:List Nat}{f:Nat->Int}{v:J}{hh:O}{m:Nat}{L:az}(hg:GrO h bs ts f v hh m)(hm:m < 1000000)(hL:L.rob<=h.blks.length):
  ∃ v' hh',ka L hh 1 true v (.vsl true (eI .u8 [f m]))=some (v',hh')/\GrO h bs ts f v' hh' (m+1):=by
 rcases hg with ⟨rfl,rfl,rfl⟩ | ⟨h0,bs',⟨js,hjs⟩,rfl,rfl⟩
 ·refine ⟨_,_,zM L h bs ts 1 true [] (eI .u8 [f 0]) (by simp [ao];rfl),.inr ⟨by omega,bs,⟨[],by simp⟩,?_,?_⟩⟩
  ·simp
  ·simp [tab,eI,cI]
 ·refine ⟨_,_,Su L h (bs'++[cI .u8 (tab m f)]) ts bs'.length m .u8 (tab m f) [f m] true (by simp) (by simp [ao];omega),.inr ⟨by omega,(bs'++[cI .u8 (tab m f)]).set bs'.length [],⟨js++[[]],by rw [List.set_append_right _ _ (Nat.le_refl _),Nat.sub_self,hjs,List.append_assoc];rfl⟩,?_,?_⟩⟩
  ·simp
  ·rw [S9]
theorem zjr (w:ac):((w % 256#64).toNat % 256:Nat)=w.toNat % 256:=by
 rw [BitVec.toNat_umod];show w.toNat % 256 % 256=_;omega
theorem X0 {L : az}{fr : Fr}{h hh : O}{R : Option (dt × Fr × O)}(l : List ac)(bs : List (List J))(ts : List Nat)(i : Nat)(hi : i < 25)(f : Nat -> Int)(hf : f = fun j => N8 (gd l 0#64 (j / 8)) (j % 8))(hL : L.rob <= h.blks.length)
  (hF:run ah L (.loop eL) fr hh=R) (hg:GrO h bs ts f (fr 3) hh (8*i))
  (h5:fr 5=wd (gd l 0#64 i)) (h6:fr 6=Ii 0):
  ∃ fr' hh',R=some (.exit 2,fr',hh')/\GrO h bs ts f (fr' 3) hh' (8*(i+1))/\∀ t,t∉wr eL->fr' t=fr t:=by
 obtain ⟨e,fr',h',rfl,⟨rfl,h3'⟩,hk⟩:=af hF 8
  (fun k fr hh=>fr 6=Ii k/\fr 5=wd (gd l 0#64 i >>> (8*k))/\GrO h bs ts f (fr 3) hh (8*i+k))
  (fun e fr hh=>e=.exit 2/\GrO h bs ts f (fr 3) hh (8*(i+1)))
  ⟨h6, by simpa using h5, hg⟩ (by
   rintro k fr1 hh hkN hkeep ⟨g6,g5,gg⟩;by_cases hlt:k < 8
   ·have w1:Wr ((k:Int)+1)=k+1:=wz;have hfk:((((gd l 0#64 i >>> (8*k)).toNat % 256:Nat):Int))=f (8*i+k):=by
     rw [hf];simp only [N8];rw [show (8*i+k) / 8=i by omega,show (8*i+k) % 8=k by omega]
    have hsh:gd l 0#64 i >>> (8*k) >>> 8=gd l 0#64 i >>> (8*(k+1)):=by
     rw [<- BitVec.shiftRight_add];rfl
    obtain ⟨v',hh',ea,gg'⟩:=gg.step (L:=L) (by omega) hL;have hby:=zjr (gd l 0#64 i >>> (8*k));have hu:=ED (gd l 0#64 i >>> (8*k) % 256#64);rw [hby,hfk] at hu;generalize hw1:gd l 0#64 i >>> (8*(k+1))=w1' at*;generalize gd l 0#64 i >>> (8*k)=w at*;simp [-ED,eL,g6,g5,hlt,show (k:Int) < 8 by omega,w1,zal,zam,hu,al,rep,J.cells,J.okV,chunks,fq,ea,hsh];exact ⟨by rw [hw1],gg'⟩
   ·have:k=8:=by omega
    subst this;have e8:8*i+8=8*(i+1):=by omega
    rw [e8] at gg;simp [eL,g6,gg])
 exact ⟨fr',h',rfl,h3',hk⟩
theorem zjt {L : az}{fr : Fr}{h hh : O}{R : Option (dt × Fr × O)}(l : List ac)(hl : l.length = 25)(bs : List (List J))(ts : List Nat)(f : Nat -> Int)(hf : f = fun j => N8 (gd l 0#64 (j / 8)) (j % 8))(hL : L.rob <= h.blks.length)
  (hF:run ah L (.loop jD) fr hh=R) (hg:GrO h bs ts f (fr 3) hh 0)
  (h1:fr 1=.vptr (cW l) 0) (h4:fr 4=Ii 0):
  ∃ fr' hh',R=some (.exit 0,fr',hh')/\GrO h bs ts f (fr' 3) hh' 200:=by
 obtain ⟨e,fr',h',rfl,⟨rfl,h3'⟩,hk⟩:=af hF 25
  (fun k fr hh=>fr 4=Ii k/\GrO h bs ts f (fr 3) hh (8*k))
  (fun e fr hh=>e=.exit 0/\GrO h bs ts f (fr 3) hh 200)
  ⟨h4,hg⟩ (by
   rintro k fr1 hh hkN hkeep ⟨g4,gg⟩;have g1:=kp hkeep h1;by_cases hlt:k < 25
   ·have w1:Wr ((k:Int)+1)=k+1:=wz;simp [jD,g1,g4,hlt,show (k:Int) < 25 by omega,lG,hl];generalize hF:run ah _ (.loop _) _ _=R;obtain ⟨fr2,hh2,rfl,q1,q2⟩:=X0 l bs ts k hlt f hf hL hF (by simpa using gg) (by simp) (by simp);simp [q1,q2,wr,eL,bj,g4,w1];exact hlt
   ·have:k=25:=by omega
    subst this;simp [jD,g4];exact gg)
 exact ⟨fr',h',rfl,h3'⟩
theorem KA (L:az)(h:O)(bs:List (List J))(ts:List Nat)(l:List ac)(hl:l.length=25)(hL:L.rob<=h.blks.length):
  ∃ bs',(∃ js,bs'=bs++js)/\Z ah L e9 [.agg (cW l)] (hx h bs ts)=some (sA h.blks.length bs'.length 0 1 200 none,hx h (bs'++[cI .u8 (aR l)]) ts):=by
 rw [Ax];simp [ox,rep,chunks,al];generalize hF:run ah _ (.loop _) _ _=R;obtain ⟨fr',hh',rfl,hg⟩:=zjt l hl bs ts _ rfl hL hF (.inl ⟨rfl,by simp,by simp⟩) (by simp) (by simp);rcases hg with ⟨h0,_⟩ | ⟨_,bs',hj,e1,e2⟩
 ·omega
 ·refine ⟨bs',hj,?_⟩;simp [e1,e2];have:aR l=tab 200 fun j=>N8 (gd l 0#64 (j / 8)) (j % 8):=by unfold aR;rw [hl]
  rw [this]
theorem X1 (L:az)(h:O)(bs:List (List J))(ts:List Nat)(l:List ac)(hl:l.length=25)(hL:L.rob<=h.blks.length):
  ∃ bs',Z ah L e9 [.agg (cW l)] (hx h bs ts)=some (sA h.blks.length bs'.length 0 1 200 none,hx h (bs'++[cI .u8 (aR l)]) ts):=by
 obtain ⟨bs',_,e⟩:=KA L h bs ts l hl hL;exact ⟨bs',e⟩
structure Sp where
 S:List Int
 a:Nat
 b:Nat
 c:Nat
def fR (S:List Int):List Int:=aR (kQ (ce S))
theorem iB (S:List Int):(ce S).length=25:=by simp [ce]
theorem LQ (l : List ac) : cw (aR l) := fun i hi => by
 unfold aR at hi |-;rw [dZ (by simpa using hi)];unfold N8;omega
@[simp] theorem vq (S:List Int):(fR S).length=200:=by simp [fR,aR,fH,iB]
theorem Tf (S:List Int):cw (fR S):=LQ _
def wU (s:Sp):Sp:=⟨fR s.S,0,s.b,s.c+1⟩
def Oi (s:Sp):Sp:=if s.a=136 then wU s else s
def sZ (s:Sp)(u:Int):Sp:=⟨(Oi s).S.set (Oi s).a u,(Oi s).a+1,136,(Oi s).c⟩
def ay (s:Sp)(l:List Int):Sp:=l.foldl sZ s
def LS (s:Sp):Sp:=if s.b=136 then {wU s with b:=0} else s
def Hp (s:Sp):Sp:={LS s with b:=(LS s).b+1}
def Z7 (s:Sp):Int:=gd (LS s).S 0 (LS s).b
def bz (s:Sp):Nat->Sp
 | 0=>s
 | n+1=>Hp (bz s n)
def fm (s:Sp)(n:Nat):List Int:=tab n fun k=>Z7 (bz s k)
def zX (s:Sp):Sp:=⟨putAt (fR s.S) 0 (tab 136 fun _=>0),0,136,s.c+1⟩
def Sp.ok (s:Sp):Prop:=s.S.length=200/\cw s.S/\s.a<=136/\s.b<=136
theorem Hs {s:Sp}(h:s.ok):(wU s).ok:=⟨by simp [wU],Tf _,by simp [wU],h.2.2.2⟩
theorem zg1 {s:Sp}(h:s.ok):(Oi s).ok/\(Oi s).a < 136:=by
 unfold Oi;split
 ·exact ⟨Hs h,by simp [wU]⟩
 ·exact ⟨h,by have:=h.2.2.1;omega⟩
theorem Yi {s:Sp}(h:s.ok):(LS s).ok/\(LS s).b < 136:=by
 unfold LS;split
 ·exact ⟨⟨(Hs h).1,(Hs h).2.1,(Hs h).2.2.1,by simp⟩,by simp⟩
 ·exact ⟨h,by have:=h.2.2.2;omega⟩
theorem Yj {l : List Int}(hl : cw l)(i : Nat)(v : Int)(hv : 0 <= v /\ v < 256) : cw (l.set i v) := fun j hj => by
 have hj':j < l.length:=by simpa using hj
 by_cases hi:i < l.length
 ·rw [pB _ _ _ _ _ hi];split
  ·exact hv
  ·exact hl j hj'
 ·rw [List.set_eq_of_length_le (by omega)];exact hl j hj'
theorem zcU {s:Sp}(h:s.ok)(u:Int)(hu:0<=u/\u < 256):(sZ s u).ok:=by
 obtain ⟨⟨h1,h2,h3,h4⟩,h5⟩:=zg1 h;exact ⟨by simp [sZ,h1],Yj h2 _ _ hu,by simp only [sZ];omega,by simp [sZ]⟩
theorem s7 {x:Int}{l:List Int}:cw (x :: l)↔(0<=x/\x < 256)/\cw l:=by
 constructor
 ·intro h;exact ⟨h 0 (by simp),fun i hi=>h (i+1) (by simpa using hi)⟩
 ·intro ⟨h1,h2⟩ i hi
  cases i with
  | zero=>exact h1
  | succ i=>exact h2 i (by simpa using hi)
theorem iO:∀ {l:List Int} {s:Sp},s.ok->cw l->(ay s l).ok
 | [],s,h,_=>h
 | u :: l,s,h,hl=>iO (l:=l) (zcU h u (s7.1 hl).1) (s7.1 hl).2
theorem zcW {s:Sp}(h:s.ok):(Hp s).ok:=by
 obtain ⟨⟨h1,h2,h3,h4⟩,h5⟩:=Yi h;exact ⟨h1,h2,h3,by simp only [Hp];omega⟩
theorem qj {s:Sp}(h:s.ok):∀ n,(bz s n).ok
 | 0=>h
 | n+1=>zcW (qj h n)
theorem Hu (n : Nat) : cw (tab n fun _ => 0) := fun i hi => by
 rw [dZ (by simpa using hi)];omega
theorem zcX {l m:List Int}{off:Nat}(h:off+m.length<=l.length)(j:Nat)(hj:j < l.length):gd (putAt l off m) 0 j=if off<=j/\j < off+m.length then gd m 0 (j - off) else gd l 0 j:=by
 unfold putAt;by_cases h1:j < off
 ·rw [vd _ _ _ _ (by simp;omega),wR h1,if_neg (by omega)]
 ·rw [xq _ _ _ _ (by simp;omega),List.length_take,Nat.min_eq_left (by omega)];by_cases h2:j < off+m.length
  ·rw [vd _ _ _ _ (by omega),if_pos (by omega)]
  ·rw [xq _ _ _ _ (by omega),if_neg (by omega)];unfold gd;simp only [List.getD,List.getElem?_drop]
   congr 2;omega
theorem Pn {l m : List Int}{off : Nat}(h : off + m.length <= l.length)(hl : cw l)(hm : cw m) : cw (putAt l off m) := fun j hj => by
 rw [Jt _ _ _ h] at hj;rw [zcX h j hj];split
 ·exact hm _ (by omega)
 ·exact hl j hj
theorem zg3 {s:Sp}(h:s.ok):(zX s).ok:=
 ⟨by simp only [zX];rw [Jt _ _ _ (by simp)];simp,Pn (by simp) (Tf _) (Hu 136),by simp [zX],by simp [zX]⟩
theorem QZ (s:Sp)(l m:List Int):ay s (l++m)=ay (ay s l) m:=by simp [ay]
theorem L1 (s:Sp)(l:List Int)(k:Nat)(h:k < l.length):ay s (l.take (k+1))=sZ (ay s (l.take k)) (gd l 0 k):=by
 rw [rK 0 h,QZ];rfl
theorem Pq (s:Sp)(m:Nat):∀ n,bz s (m+n)=bz (bz s m) n
 | 0=>rfl
 | n+1=>by rw [<- Nat.add_assoc,bz,bz,Pq s m n]
theorem yG (s:Sp)(n:Nat):(fm s n).length=n:=by simp [fm]
theorem zc0 (s:Sp)(m n:Nat):fm s (m+n)=fm s m++fm (bz s m) n:=by
 refine List.ext_getElem? fun j=>?_;simp only [fm];rw [lT];by_cases h1:j < m
 ·rw [List.getElem?_append_left (by simpa using h1),lT,if_pos h1,if_pos (by omega)]
 ·rw [List.getElem?_append_right (by simp;omega),lT,AR];by_cases h2:j - m < n
  ·rw [if_pos h2,if_pos (by omega),<- Pq,show m+(j - m)=j by omega]
  ·rw [if_neg h2,if_neg (by omega)]
theorem Pr (s:Sp)(n:Nat):fm s (n+1)=fm s n++[Z7 (bz s n)]:=by rw [zc0];rfl
theorem zad {s:Sp}(h:s.a<=136)(u:Int):136*(sZ s u).c+(sZ s u).a=136*s.c+s.a+1/\1<=(sZ s u).a/\(sZ s u).a<=136/\s.c<=(sZ s u).c:=by
 unfold sZ Oi;split
 ·simp only [wU];omega
 ·simp only [];omega
theorem Ps:∀ {l:List Int} {s:Sp},s.a<=136->136*(ay s l).c+(ay s l).a=136*s.c+s.a+l.length/\(ay s l).a<=136/\s.c<=(ay s l).c/\(l≠[]->1<=(ay s l).a)
 | [],s,h=>by simp [ay,h]
 | u :: l, s, h => by
  obtain ⟨h1,h2,h3,h4⟩:=zad h u;obtain ⟨g1,g2,g3,g4⟩:=Ps (l:=l) h3;have e:ay s (u :: l)=ay (sZ s u) l:=rfl;rw [e];refine ⟨by simp only [List.length_cons];omega,g2,by omega,fun _=>?_⟩;by_cases hl:l=[]
  ·subst hl;exact h2
  ·exact g4 hl
def qg (l:List Int):Sp:=⟨putAt (tab 200 fun _=>0) 136 l,0,136,0⟩
theorem zgN {l:List Int}(h:l.length<=64)(hl:cw l):(qg l).ok:=
 ⟨by simp only [qg];rw [Jt _ _ _ (by simp;omega)];simp,Pn (by simp;omega) (Hu 200) hl,by simp [qg],by simp [qg]⟩
end Go.Av
