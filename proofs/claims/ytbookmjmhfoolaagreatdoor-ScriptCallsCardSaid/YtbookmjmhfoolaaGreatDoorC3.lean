/- The guard; the permutation of bytes and the digest give what plain functions of lists give. -/
import Derived.Test.YtbookmjmhfoolaaGreatDoorC1
import Derived.Test.YtbookmjmhfoolaaGreatDoorC2
import Derived.KernelRfl
set_option linter.unusedSimpArgs false
set_option linter.unusedVariables false
set_option maxHeartbeats 2000000
set_option maxRecDepth 20000
namespace Go.Av
structure Gd where
  l:List It
  k:Nat
  e:Int
def erV (e:Int):zaa:=if e=0 then .nilp else .vptr [.int .i64 e] 0
def guC (g:Gd):List zaa:=[.vsl false (g.l.map It.cells),.int .i64 g.k,erV g.e]
def zcg (g:Gd) (e:Int):Gd:=if g.e=0 then {g with e:=e} else g
theorem zCn {α:Type} {bs:List α} {b:Nat} {cs:α} (hb:bs[b]?=some cs):bs.set b cs=bs:=by
  refine List.ext_getElem? fun j=>?_
  by_cases e:b=j
  · subst e;rw [List.getElem?_set_self (List.getElem?_eq_some_iff.1 hb).1,hb]
  · rw [List.getElem?_set_ne e]
@[simp] theorem zPJ (L:Lim) (h:zab) (p:zaa) (cs:List zaa) (o:Nat):stK L h 1 p (.vptr cs o)=stM (zcu L h p [.vptr cs o]):=by simp [stK,zaa.cells,zaa.okV]
theorem byR (s:ByteArray):(s==s)=true:=(Go.MapKept.bytes_beq s s).2 rfl
theorem zrU (L:Lim) (h:zab) (bs:List (List zaa)) (ts:List Nat) (i:Nat) (g:Gd) (e:Int) (hb:bs[i]?=some (guC g)) (hL:L.rob≤h.blks.length):
    zag ctx L za6 [pA h.blks.length i 0,.int .i64 e] (hx h bs ts)=some (.int .i64 (zcg g e).e,hx h (bs.set i (guC (zcg g e))) ts):=by
  rw [zlq]
  have hi:=(List.getElem?_eq_some_iff.1 hb).1
  have hgs:∀ x:List zaa,(bs.set i x)[i]?=some x:=fun x=>List.getElem?_set_self hi
  have htr:=fun cs=>zh9 h bs ts i cs
  have htr0:zdK (hx h bs ts) (h.blks.length+bs.length) (h.toks.length+ts.length)=hx h bs ts:=by
    have:=htr (guC g);rwa [zCn hb] at this
  obtain ⟨l,k,w⟩:=g
  by_cases hw:w=0
  · subst hw
    have hv:erV 0=.nilp:=rfl
    by_cases he:e=0
    · subst he
      have hf:zcg ⟨l,k,0⟩ 0=⟨l,k,0⟩:=rfl
      rw [hf,zCn hb]
      simp only [guC,hv] at*
      simp -implicitDefEqProofs [zcB,zam,zak,hb,zae,eqA,htr0]
    · have hf:zcg ⟨l,k,0⟩ e=⟨l,k,e⟩:=rfl
      have hv2:erV e=.vptr [.int .i64 e] 0:=if_neg he
      have hne:(e !=0)=true:=bne_iff_ne.2 he
      rw [hf]
      simp only [guC,hv,hv2] at*
      simp -implicitDefEqProofs [zcB,zam,zak,hb,hgs,zae,eqA,hne,zay,setAt,zmB,zaa.okV,zaa.cells,zan,hL,zap,zaa.under,htr]
  · have hf:zcg ⟨l,k,w⟩ e=⟨l,k,w⟩:=if_neg hw
    have hv2:erV w=.vptr [.int .i64 w] 0:=if_neg hw
    rw [hf,zCn hb]
    simp only [guC,hv2] at*
    simp -implicitDefEqProofs [zcB,zam,zak,hb,hgs,zae,eqA,htr0]
theorem zwb (L:Lim) (h:zab) (bs:List (List zaa)) (ts:List Nat) (i:Nat) (g:Gd) (so:Bool) (e:Int) (hb:bs[i]?=some (guC g)) (hL:L.rob≤h.blks.length):
    zag ctx L zbO [pA h.blks.length i 0,.bool so,.int .i64 e] (hx h bs ts)=some (.int .i64 (zcg g (if so then 0 else e)).e,hx h (bs.set i (guC (zcg g (if so then 0 else e)))) ts):=by
  rw [zj9]
  have hF:=fun L hL e=>zrU L h bs ts i g e hb hL
  have htr:=fun cs=>zh9 h bs ts i cs
  cases so <;> simp -implicitDefEqProofs [zee,zam,zak,hF,hL,htr]
theorem zFt (L:Lim) (h:zab) (x y:It):zag ctx L zjB [.agg x.cells,.agg y.cells] h=some (.bool (x.kind==y.kind&&(x.typ==y.typ&&x.count==y.count)),h):=by
  rw [zto]
  have hf:∀ x:It,fzA h (.agg x.cells)=some (.agg x.cells,false):=fun x=>by simp [fzA,zb4,zaa.flat,It.cells]
  obtain ⟨a,b,c,l⟩:=x
  obtain ⟨a',b',c',l'⟩:=y
  simp only [It.cells] at hf ⊢
  have hf1:=hf ⟨a,b,c,l⟩
  have hf2:=hf ⟨a',b',c',l'⟩
  simp only at hf1 hf2
  simp -implicitDefEqProofs [znM,zau,hf1,hf2,zd9,setAt,zan,zaf,zbm,zr1,byR]
def zwc (x y:It):Bool:=x.kind==y.kind&&(x.typ==y.typ&&x.count==y.count)
def zdE (g:Gd) (k t c:Int):Bool:=decide (g.k < g.l.length)&&zwc (gd g.l ⟨0,0,0,⟨#[]⟩⟩ g.k) ⟨k,t,c,⟨#[]⟩⟩
def zbu (g:Gd) (k t c:Int):Gd:=if (zcg g (if zdE g k t c then 0 else 10)).e=0 then {zcg g (if zdE g k t c then 0 else 10) with k:=g.k+1} else zcg g (if zdE g k t c then 0 else 10)
theorem zhP (g:Gd) (e:Int):(zcg g e).l=g.l∧(zcg g e).k=g.k:=by unfold zcg;split <;> exact ⟨rfl,rfl⟩
theorem zhQ (g:Gd) (k t c:Int):(zbu g k t c).l=g.l:=by
  unfold zbu
  have:=zhP g (if zdE g k t c then 0 else 10)
  generalize zcg g (if zdE g k t c then 0 else 10)=f at*
  split <;> exact this.1
theorem zxW (g:Gd) (k t c:Int):(zbu g k t c).e=(zcg g (if zdE g k t c then 0 else 10)).e:=by
  unfold zbu
  generalize zcg g (if zdE g k t c then 0 else 10)=f
  split <;> rfl
theorem zAd (kd:IntKind) (c:Bool) (l:List It) (i:Nat) (h:i < l.length):zcG none 4 (.vsl c (l.map It.cells)) (.int kd (i:Int))=some (.vptr (gd l ⟨0,0,0,⟨#[]⟩⟩ i).cells 0):=by
  simp [zcG,asI,gd,List.getD,h]
theorem zIv (L:Lim) (h:zab) (bs:List (List zaa)) (ts:List Nat) (i:Nat) (g:Gd) (k t c:Int) (hk:g.k < 1000000000) (hb:bs[i]?=some (guC g)) (hL:L.rob≤h.blks.length):
    zag ctx L zdp [pA h.blks.length i 0,.int .i64 k,.int .i64 t,.int .i64 c] (hx h bs ts)=some (.int .i64 (zbu g k t c).e,hx h (bs.set i (guC (zbu g k t c))) ts):=by
  rw [zlC]
  have hi:=(List.getElem?_eq_some_iff.1 hb).1
  have hz:([.int .i64 k,.int .i64 t,.int .i64 c,.str ⟨#[]⟩]:List zaa)=(⟨k,t,c,⟨#[]⟩⟩:It).cells:=rfl
  obtain ⟨y,hy⟩:∃ y:It,y=⟨k,t,c,⟨#[]⟩⟩:=⟨_,rfl⟩
  have hne:=zxW g k t c
  have hle:=zhP g (if zdE g k t c then 0 else 10)
  have hS:=fun L h=>zFt L h (gd g.l ⟨0,0,0,⟨#[]⟩⟩ g.k) y
  have hsm:((gd g.l ⟨0,0,0,⟨#[]⟩⟩ g.k).kind==y.kind&&((gd g.l ⟨0,0,0,⟨#[]⟩⟩ g.k).typ==y.typ&&(gd g.l ⟨0,0,0,⟨#[]⟩⟩ g.k).count==y.count))=zwc (gd g.l ⟨0,0,0,⟨#[]⟩⟩ g.k) ⟨k,t,c,⟨#[]⟩⟩:=by rw [hy];rfl
  rw [hsm] at hS
  have hb2:∀ x:List zaa,(bs++[x])[i]?=some (guC g):=fun x=>by rw [List.getElem?_append_left hi];exact hb
  have hU:=fun L hL x so=>zwb L h (bs++[x]) ts i g so 10 (hb2 x) hL
  simp only [List.set_append_left _ _ hi] at hU
  have hg0:=fun x=>zdm bs [x] bs.length 0 rfl
  have hs0:=fun x v=>zeI bs [x] bs.length 0 v rfl
  simp only [Nat.add_zero,List.getElem?_cons_zero,List.set_cons_zero] at hg0 hs0
  have w1:IntKind.i64.wrap ((g.k:Int)+1)=((g.k+1:Nat):Int):=(wrap_i64 (by omega) (by omega)).trans (by omega)
  have hcl:y.cells.length=4:=rfl
  have hyc:[zaa.int .i64 k,.int .i64 t,.int .i64 c,.str ⟨#[]⟩]=y.cells:=by rw [hy];rfl
  have huy:zap 0 0 y.cells=true:=by rw [hy];rfl
  have hgs:∀ (x z:List zaa),(bs.set i x++[z])[i]?=some x:=fun x z=>by rw [List.getElem?_append_left (by simpa using hi),List.getElem?_set_self hi]
  have hss:∀ (x z w:List zaa),(bs.set i x++[z]).set i w=bs.set i w++[z]:=fun x z w=>by rw [List.set_append_left _ _ (by simpa using hi),List.set_set]
  have htr:=fun cs js=>zog h (bs.set i cs) js ts bs.length (by simp)
  by_cases hlt:g.k < g.l.length
  · have hltI : (g.k : Int) < (g.l.length : Int) := by omega
    have ia:=zAd .i64 false g.l g.k hlt
    have hso:zdE g k t c=zwc (gd g.l ⟨0,0,0,⟨#[]⟩⟩ g.k) ⟨k,t,c,⟨#[]⟩⟩:=by unfold zdE;rw [decide_eq_true hlt];rfl
    have hdef:zbu g k t c=if (zcg g (if zdE g k t c then 0 else 10)).e=0 then {zcg g (if zdE g k t c then 0 else 10) with k:=g.k+1} else zcg g (if zdE g k t c then 0 else 10):=rfl
    rw [hso] at hdef hne hle
    generalize zwc (gd g.l ⟨0,0,0,⟨#[]⟩⟩ g.k) ⟨k,t,c,⟨#[]⟩⟩=so at*
    have hcx:(gd g.l ⟨0,0,0,⟨#[]⟩⟩ g.k).cells.length=4:=rfl
    generalize (gd g.l ⟨0,0,0,⟨#[]⟩⟩ g.k).cells=xc at*
    have hUs:=fun L hL x=>hU L hL x so
    generalize zcg g (if so=true then 0 else 10)=f at*
    clear hU
    generalize y.cells=yc at*
    by_cases hf:f.e=0
    · have hbe : (f.e == 0) = true := by rw [hf]; rfl
      rw [if_pos hf] at hdef
      rw [hdef]
      obtain ⟨fl,fk,fe⟩:=f
      obtain ⟨l,k0,e0⟩:=g
      simp only at*
      obtain ⟨rfl,rfl⟩:=hle
      subst hf
      simp only [guC] at*
      generalize fk+1=k1 at*
      simp -implicitDefEqProofs [zcs,zam,zak,hyc,zay,setAt,hb,hb2,zae,hltI,ia,zaf,hcx,hcl,hg0,hs0,zbB,zah,zan,hL,huy,hS,hUs,hgs,hss,w1,htr]
    · have hbe:(f.e==0)=false:=beq_false_of_ne hf
      rw [if_neg hf] at hdef
      rw [hdef]
      simp only [guC] at hb hb2
      simp -implicitDefEqProofs [zcs,zam,zak,hyc,zay,setAt,hb,hb2,zae,hltI,ia,zaf,hcx,hcl,hg0,hs0,zbB,zah,zan,hL,huy,hS,hUs,hgs,hss,w1,htr,hbe]
  · have hltI : ¬ (g.k : Int) < (g.l.length : Int) := by omega
    have hso:zdE g k t c=false:=by unfold zdE;rw [decide_eq_false hlt];rfl
    have hdef:zbu g k t c=zcg g 10:=by
      unfold zbu
      rw [hso]
      simp only [Bool.false_eq_true,if_false]
      rw [if_neg]
      unfold zcg
      split
      · show ¬(10:Int)=0;decide
      · assumption
    have hUs:=fun L hL x=>hU L hL x false
    simp only [Bool.false_eq_true,if_false] at hUs
    have hf:¬(zcg g 10).e=0:=by
      unfold zcg
      split
      · show ¬(10:Int)=0;decide
      · assumption
    have hbe:((zcg g 10).e==0)=false:=beq_false_of_ne hf
    rw [hdef]
    generalize zcg g 10=f at*
    generalize y.cells=yc at*
    simp only [guC] at hb hb2
    simp -implicitDefEqProofs [zcs,zam,zak,hyc,zay,setAt,hb,hb2,zae,hltI,zaf,hcl,hg0,hs0,zbB,zah,zan,hL,huy,hUs,hgs,hss,htr,hbe]
def zxs (g:Gd):Gd:=zcg g (if g.k=g.l.length then 0 else 12)
theorem zAe (L:Lim) (h:zab) (bs:List (List zaa)) (ts:List Nat) (i:Nat) (g:Gd) (hb:bs[i]?=some (guC g)) (hL:L.rob≤h.blks.length):
    zag ctx L zcL [pA h.blks.length i 0] (hx h bs ts)=some (.int .i64 (zxs g).e,hx h (bs.set i (guC (zxs g))) ts):=by
  rw [zj4]
  have hU:=fun L hL so=>zwb L h bs ts i g so 12 hb hL
  have htr:=fun cs=>zh9 h bs ts i cs
  by_cases he:g.k=g.l.length
  · have hbe : ((g.k : Int) == (g.l.length : Int)) = true := by rw [he]; simp
    have hd:zxs g=zcg g 0:=by unfold zxs;rw [if_pos he]
    rw [hd]
    have hUs:=fun L hL=>hU L hL true
    simp only [if_true] at hUs
    generalize zcg g 0=f at*
    simp only [guC] at hb
    simp -implicitDefEqProofs [zcI,zam,zak,hb,zae,hbe,hUs,hL,htr]
  · have hbe : ((g.k : Int) == (g.l.length : Int)) = false := beq_false_of_ne (by omega)
    have hd:zxs g=zcg g 12:=by unfold zxs;rw [if_neg he]
    rw [hd]
    have hUs:=fun L hL=>hU L hL false
    simp only [Bool.false_eq_true,if_false] at hUs
    generalize zcg g 12=f at*
    simp only [guC] at hb
    simp -implicitDefEqProofs [zcI,zam,zak,hb,zae,hbe,hUs,hL,htr]
end Go.Av
namespace Go.Av
def rotl (x:W64) (n:Nat):W64:=(x <<< (n % 64))|||(x >>> (64 - n % 64))
theorem zHv (L:Lim) (h:zab) (x:W64) (n:Nat) (hn:n < 9223372036854775808):zag ctx L zbd [wd x,.int .i64 n] h=some (wd (rotl x n),h):=by
  rw [zhH]
  have e1:IntKind.u64.wrap (n:Int)=n:=zxF n (by omega)
  have e2:zdY .and (.int .u64 (n:Int)) (.int .u64 63)=some (.int .u64 ((n % 64:Nat):Int)):=by
    rw [zlQ]
    show some (zaa.int .u64 (IntKind.u64.wrap ((BitVec.ofInt 64 (n:Int)&&&BitVec.ofInt 64 (63:Int):BitVec 64).toNat:Int)))=_
    have:(BitVec.ofInt 64 (n:Int)&&&BitVec.ofInt 64 (63:Int):BitVec 64).toNat=n % 64:=by
      rw [BitVec.toNat_and]
      have h1:(BitVec.ofInt 64 (n:Int)).toNat=n:=by rw [BitVec.toNat_ofInt];omega
      have h2:(BitVec.ofInt 64 (63:Int)).toNat=2 ^ 6 - 1:=by decide
      rw [h1,h2,Nat.and_two_pow_sub_one_eq_mod]
    rw [this,zxF _ (by omega)]
  have e3:zdY .sub (.int .u64 64) (.int .u64 ((n % 64:Nat):Int))=some (.int .u64 ((64 - n % 64:Nat):Int)):=by
    rw [zyB]
    have:(64:Int) - ((n % 64:Nat):Int)=((64 - n % 64:Nat):Int):=by omega
    rw [this,zxF _ (by omega)]
  generalize hm:n % 64=m at e2 e3
  have hm64:m≤64:=by omega
  generalize hk:64 - m=k at e3
  have hk64:k≤64:=by omega
  simp [zcQ,e1,e2,e3,zvR,zmO,hm64,hk64, -zlQ, -zyB, -zlT, -zdO]
  simp [rotl,hm,hk]
def zz9 (l:List W64) (x:Nat):W64:=gd l 0#64 x ^^^ gd l 0#64 (x+5) ^^^ gd l 0#64 (x+10) ^^^ gd l 0#64 (x+15) ^^^ gd l 0#64 (x+20)
def zEE (l:List W64) (k x:Nat):W64:=(List.range k).foldl (fun c i=>if i % 5=x then c ^^^ gd l 0#64 i else c) 0
theorem zCx (l:List W64) (k x:Nat):zEE l (k+1) x=if k % 5=x then zEE l k x ^^^ gd l 0#64 k else zEE l k x:=by
  simp [zEE,List.range_succ]
theorem zFm (l:List W64) (x:Nat) (hx:x < 5):zEE l 25 x=zz9 l x:=by
  unfold zEE zz9
  have:x=0∨x=1∨x=2∨x=3∨x=4:=by omega
  rcases this with rfl | rfl | rfl | rfl | rfl <;> simp [show List.range 25=[0,1,2,3,4,5,6,7,8,9,10,11,12,13,14,15,16,17,18,19,20,21,22,23,24] from by decide]
def zrP (l:List W64) (i:Nat):W64:=gd l 0#64 i ^^^ (zz9 l ((i % 5+4) % 5) ^^^ rotl (zz9 l ((i % 5+1) % 5)) 1)
def zp6 (l:List W64):List W64:=tab 25 (zrP l)
theorem zv7 (k:Nat):(k:Int).tmod 5=((k % 5:Nat):Int):=by rw [Int.tmod_eq_emod_of_nonneg (by omega)];omega
theorem zxP {fr:Fr} {h:zab} {R:Option (AEx × Fr × zab)} (s:List W64) (hs:s.length=25) (b z:List zaa)
    (hF:run ctx (zau h) (.loop zaB) fr (hx h [b,z,cW (tab 5 fun _=>0#64)] [])=R)
    (h8:fr 8=.agg (cW s)) (h9:fr 9=.int .i64 0) (h3:fr 3=pA h.blks.length 2 0):
    ∃ fr',R=some (.exit 0,fr',hx h [b,z,cW (tab 5 (zz9 s))] [])∧∀ t,t∉wr zaB→fr' t=fr t:=by
  obtain ⟨e,fr',h',rfl,⟨rfl,rfl⟩,hk⟩:=zaj hF 25
    (fun k fr hh=>fr 9=.int .i64 k∧hh=hx h [b,z,cW (tab 5 (zEE s k))] [])
    (fun e fr hh=>e=.exit 0∧hh=hx h [b,z,cW (tab 5 (zz9 s))] [])
    ⟨h9,rfl⟩ (by
      rintro k fr1 hh hkN hkeep ⟨g9,rfl⟩
      have g8:=(hkeep 8 (by decide)).trans h8
      have g3:=(hkeep 3 (by decide)).trans h3
      by_cases hlt:k < 25
      · have w2 : IntKind.i64.wrap ((k : Int) + 1) = k + 1 := wrap_i64 (by omega) (by omega)
        have e5:=zv7 k
        have hset:(tab 5 (zEE s k)).set (k % 5) (zEE s k (k % 5) ^^^ gd s 0#64 k)=tab 5 (zEE s (k+1)):=by
          rw [zuR]
          refine zgu fun j hj=>?_
          rw [zCx]
          by_cases hj:j=k % 5
          · subst hj;simp
          · simp [hj,Ne.symm hj]
        generalize hm:k % 5=m at e5 hset
        have hm5:m < 5:=by omega
        simp [zaB,zau,g9,g8,g3,hlt,show (k:Int) < 25 by omega,w2,zxR,zK3,hs,ziT,e5,zfV,hm5,show m≤4 by omega,zk3,hset]
      · have : k = 25 := by omega
        subst this
        simp [zaB,g9,g8,g3]
        exact congrArg (fun c=>hx h [b,z,c] []) (congrArg cW (zgu fun j hj=>zFm s j hj)))
  exact ⟨fr',rfl,hk⟩
theorem zxQ {fr:Fr} {h:zab} {R:Option (AEx × Fr × zab)} (s:List W64) (hs:s.length=25) (z:List zaa)
    (hF:run ctx (zau h) (.loop zbe) fr (hx h [cW s,z,cW (tab 5 (zz9 s))] [])=R)
    (h1:fr 1=pA h.blks.length 0 0) (h3:fr 3=pA h.blks.length 2 0) (h21:fr 21=.int .i64 0):
    ∃ fr',R=some (.exit 2,fr',hx h [cW (zp6 s),z,cW (tab 5 (zz9 s))] [])∧∀ t,t∉wr zbe→fr' t=fr t:=by
  obtain ⟨e,fr',h',rfl,⟨rfl,rfl⟩,hk⟩:=zaj hF 25
    (fun k fr hh=>fr 21=.int .i64 k∧hh=hx h [cW (tab 25 fun j=>if j < k then zrP s j else gd s 0#64 j),z,cW (tab 5 (zz9 s))] [])
    (fun e fr hh=>e=.exit 2∧hh=hx h [cW (zp6 s),z,cW (tab 5 (zz9 s))] [])
    ⟨h21, by simp [← zBD 0#64 hs]⟩ (by
      rintro k fr1 hh hkN hkeep ⟨g21,rfl⟩
      have g1:=(hkeep 1 (by decide)).trans h1
      have g3:=(hkeep 3 (by decide)).trans h3
      by_cases hlt:k < 25
      · have w2 : IntKind.i64.wrap ((k : Int) + 1) = k + 1 := wrap_i64 (by omega) (by omega)
        have e5:=zv7 k
        have hset : (tab 25 fun j => if j < k then zrP s j else gd s 0#64 j).set k (zrP s k) = tab 25 fun j => if j < k + 1 then zrP s j else gd s 0#64 j := by
          rw [zuR]
          refine zgu fun j hj=>?_
          by_cases h1:j=k
          · subst h1;simp
          · by_cases h2:j < k
            · simp [h1,h2,show j < k+1 by omega]
            · simp [h1,h2,show ¬j < k+1 by omega]
        have hth:zrP s k=gd s 0#64 k ^^^ (zz9 s ((k % 5+4) % 5) ^^^ rotl (zz9 s ((k % 5+1) % 5)) 1):=rfl
        have hold:(fun j=>if j < k then zrP s j else gd s 0#64 j) k=gd s 0#64 k:=by simp
        have w4:IntKind.i64.wrap (((k % 5:Nat):Int)+4)=((k % 5+4:Nat):Int):=(wrap_i64 (by omega) (by omega)).trans (by omega)
        have w1:IntKind.i64.wrap (((k % 5:Nat):Int)+1)=((k % 5+1:Nat):Int):=(wrap_i64 (by omega) (by omega)).trans (by omega)
        have t4:=zv7 (k % 5+4)
        have t1:=zv7 (k % 5+1)
        generalize hga:(k % 5+4) % 5=a at t4 hth
        generalize hgb:(k % 5+1) % 5=b at t1 hth
        generalize hm:k % 5=m at e5 w4 w1 t4 t1
        rw [hth] at hset
        have ha5:a < 5:=by omega
        have hb5:b < 5:=by omega
        simp only [Int.natCast_add,Int.cast_ofNat_Int] at w4 w1 t4 t1
        have hrot:=fun L h x=>zHv L h x 1 (by decide)
        simp only [Int.natCast_one] at hrot
        simp [zbe,zau,g21,g1,g3,hlt,show (k:Int) < 25 by omega,w2,ziT,e5,w4,w1,t4,t1,zfV,ha5,hb5,zk3,hset,hrot,show k≤24 by omega]
      · have : k = 25 := by omega
        subst this
        simp [zbe,g21]
        exact congrArg (fun c=>hx h [c,z,cW (tab 5 (zz9 s))] []) (congrArg cW (zgu fun j hj=>by simp [hj])))
  exact ⟨fr',rfl,hk⟩
theorem zFn (L:Lim) (h:zab) (s:List W64) (hs:s.length=25):zag ctx L zcJ [.agg (cW s)] h=some (.agg (cW (zp6 s)),h):=by
  rw [zjO]
  simp [zeh,zau,zbi,zd9,zaa.okV,zaa.cells,zaf,hs]
  generalize hF:run ctx _ (.loop _) _ _=R
  obtain ⟨fr1,rfl,hk1⟩:=zxP s hs _ _ hF (by simp) (by simp) (by simp)
  simp [hk1,wr,zaB,zgH]
  generalize hF:run ctx _ (.loop _) _ _=R
  obtain ⟨fr2,rfl,hk2⟩:=zxQ s hs _ hF (by simp [hk1,wr,zaB,zgH]) (by simp [hk1,wr,zaB,zgH]) (by simp)
  simp [hk1,hk2,wr,zaB,zbe,zgH,zaf,zp6,zbB,zah]
end Go.Av
namespace Go.Av
def pxy:Nat→Nat × Nat
  | 0=>(1,0)
  | t+1=>((pxy t).2,(2*(pxy t).1+3*(pxy t).2) % 5)
theorem zHs:∀ t,(pxy t).1 < 5∧(pxy t).2 < 5
  | 0=>by simp [pxy]
  | t + 1 => by
    have:=zHs t
    simp only [pxy]
    omega
def zmQ (l:List W64):Nat→List W64
  | 0=>tab 25 fun j=>if j=0 then gd l 0#64 0 else 0#64
  | t+1=>(zmQ l t).set ((pxy t).2+5*((2*(pxy t).1+3*(pxy t).2) % 5)) (rotl (gd l 0#64 ((pxy t).1+5*(pxy t).2)) ((t+1)*(t+2) / 2))
@[simp] theorem zAa (l:List W64):∀ t,(zmQ l t).length=25
  | 0=>by simp [zmQ]
  | t+1=>by simp [zmQ,zAa l t]
def zok (l:List W64):List W64:=zmQ l 24
theorem zAb {fr:Fr} {h:zab} {R:Option (AEx × Fr × zab)} (s:List W64) (hs:s.length=25) (z:List zaa)
    (hF:run ctx (zau h) (.loop zbf) fr (hx h [z,cW (zmQ s 0)] [])=R)
    (h1:fr 1=.vptr (cW s) 0) (h3:fr 3=pA h.blks.length 1 0) (h4:fr 4=.int .i64 1) (h5:fr 5=.int .i64 0) (h11:fr 11=.int .i64 0):
    ∃ fr',R=some (.exit 0,fr',hx h [z,cW (zok s)] [])∧∀ t,t∉wr zbf→fr' t=fr t:=by
  obtain ⟨e,fr',h',rfl,⟨rfl,rfl⟩,hk⟩:=zaj hF 24
    (fun k fr hh=>fr 11=.int .i64 k∧fr 4=.int .i64 ((pxy k).1:Nat)∧fr 5=.int .i64 ((pxy k).2:Nat)∧hh=hx h [z,cW (zmQ s k)] [])
    (fun e fr hh=>e=.exit 0∧hh=hx h [z,cW (zok s)] [])
    ⟨h11,h4,h5,rfl⟩ (by
      rintro k fr1 hh hkN hkeep ⟨g11,g4,g5,rfl⟩
      have g1:=(hkeep 1 (by decide)).trans h1
      have g3:=(hkeep 3 (by decide)).trans h3
      by_cases hlt:k < 24
      · obtain ⟨hx5,hy5⟩:=zHs k
        have hst:zmQ s (k+1)=(zmQ s k).set ((pxy k).2+5*((2*(pxy k).1+3*(pxy k).2) % 5)) (rotl (gd s 0#64 ((pxy k).1+5*(pxy k).2)) ((k+1)*(k+2) / 2)):=rfl
        have hp:pxy (k+1)=((pxy k).2,(2*(pxy k).1+3*(pxy k).2) % 5):=rfl
        generalize (pxy k).1=x at*
        generalize (pxy k).2=y at*
        have w1:IntKind.i64.wrap ((k:Int)+1)=k+1:=wrap_i64 (by omega) (by omega)
        have w2:IntKind.i64.wrap ((k:Int)+2)=k+2:=wrap_i64 (by omega) (by omega)
        have hmul:(k+1)*(k+2)≤600:=Nat.le_trans (Nat.mul_le_mul (show k+1≤24 by omega) (show k+2≤25 by omega)) (by decide)
        have w3:IntKind.i64.wrap (((k:Int)+1)*(k+2))=(((k+1)*(k+2):Nat):Int):=by
          rw [← zii ((k+1)*(k+2)) (by omega)];simp only [Int.natCast_mul,Int.natCast_add,Int.cast_ofNat_Int]
        have w4:=zPj ((k+1)*(k+2))
        have w5:=zii ((k+1)*(k+2) / 2) (by omega)
        have w6:IntKind.i64.wrap (2*(x:Int))=((2*x:Nat):Int):=by
          rw [← zii (2*x) (by omega)];simp only [Int.natCast_mul,Int.natCast_add,Int.cast_ofNat_Int]
        have w7:IntKind.i64.wrap (3*(y:Int))=((3*y:Nat):Int):=by
          rw [← zii (3*y) (by omega)];simp only [Int.natCast_mul,Int.natCast_add,Int.cast_ofNat_Int]
        have w8:IntKind.i64.wrap (((2*x:Nat):Int)+((3*y:Nat):Int))=((2*x+3*y:Nat):Int):=by
          rw [← zii (2*x+3*y) (by omega)];simp only [Int.natCast_mul,Int.natCast_add,Int.cast_ofNat_Int]
        have w9:=zv7 (2*x+3*y)
        generalize hn:(2*x+3*y) % 5=n at*
        have hn5:n < 5:=by omega
        have w10:IntKind.i64.wrap (5*(n:Int))=((5*n:Nat):Int):=by
          rw [← zii (5*n) (by omega)];simp only [Int.natCast_mul,Int.natCast_add,Int.cast_ofNat_Int]
        have w11:IntKind.i64.wrap ((y:Int)+((5*n:Nat):Int))=((y+5*n:Nat):Int):=by
          rw [← zii (y+5*n) (by omega)];simp only [Int.natCast_mul,Int.natCast_add,Int.cast_ofNat_Int]
        have w12:IntKind.i64.wrap (5*(y:Int))=((5*y:Nat):Int):=by
          rw [← zii (5*y) (by omega)];simp only [Int.natCast_mul,Int.natCast_add,Int.cast_ofNat_Int]
        have w13:IntKind.i64.wrap ((x:Int)+((5*y:Nat):Int))=((x+5*y:Nat):Int):=by
          rw [← zii (x+5*y) (by omega)];simp only [Int.natCast_mul,Int.natCast_add,Int.cast_ofNat_Int]
        have hd25:y+5*n < 25:=by omega
        have hd24:y+5*n≤24:=by omega
        have hs25:x+5*y < 25:=by omega
        generalize hd:y+5*n=d at*
        generalize hsr:x+5*y=sr at*
        generalize hr:(k+1)*(k+2) / 2=r at*
        generalize (k+1)*(k+2)=kk at*
        generalize 2*x+3*y=xy at*
        generalize 5*n=n5 at*
        generalize 5*y=y5 at*
        generalize 2*x=x2 at*
        generalize 3*y=y3 at*
        have hrot:=fun L h v=>zHv L h v r (by omega)
        simp [zbf,zau,g11,g1,g3,g4,g5,hlt,show (k:Int) < 24 by omega,w1,w2,w3,w4,w5,w6,w7,w8,w9,w10,w11,w12,w13,ziT,zlP,zfV,zrR,hd25,hd24,hs25,hs,hrot,← hst,hp]
      · have : k = 24 := by omega
        subst this
        simp [zbf,g11,zok])
  exact ⟨fr',rfl,hk⟩
theorem zFo (L:Lim) (h:zab) (s:List W64) (hs:s.length=25):zag ctx L zcK [.agg (cW s)] h=some (.agg (cW (zok s)),h):=by
  rw [zjP]
  have e0 : cW ((tab 25 fun _ => 0#64).set 0 (gd s 0#64 0)) = cW (zmQ s 0) := by
    rw [zuR];exact congrArg cW (zgu fun j _=>rfl)
  simp [zei,zau,zbi,zaf,hs,zay,zbB,zah,e0]
  generalize hF:run ctx _ (.loop _) _ _=R
  obtain ⟨fr1,rfl,hk1⟩:=zAb s hs _ hF (by simp) (by simp) (by simp) (by simp) (by simp)
  simp [hk1,wr,zbf,zgH,zaf,zok,zbB,zah]
def zKl (l:List W64) (i:Nat):W64:=gd l 0#64 i ^^^ (gd l 0#64 (i - i % 5+(i+2) % 5)&&&~~~ gd l 0#64 (i - i % 5+(i+1) % 5))
def zFq (l:List W64):List W64:=tab 25 (zKl l)
theorem zFr {fr:Fr} {h:zab} {R:Option (AEx × Fr × zab)} (s:List W64) (hs:s.length=25) (z:List zaa)
    (hF:run ctx (zau h) (.loop zbv) fr (hx h [z,cW s] [])=R)
    (h1:fr 1=.vptr (cW s) 0) (h3:fr 3=pA h.blks.length 1 0) (h7:fr 7=.int .i64 0):
    ∃ fr',R=some (.exit 0,fr',hx h [z,cW (zFq s)] [])∧∀ t,t∉wr zbv→fr' t=fr t:=by
  obtain ⟨e,fr',h',rfl,⟨rfl,rfl⟩,hk⟩:=zaj hF 25
    (fun k fr hh=>fr 7=.int .i64 k∧hh=hx h [z,cW (zA9 25 (zKl s) (gd s 0#64) k)] [])
    (fun e fr hh=>e=.exit 0∧hh=hx h [z,cW (zFq s)] [])
    ⟨h7, by simp [zBI, ← zBD 0#64 hs]⟩ (by
      rintro k fr1 hh hkN hkeep ⟨g7,rfl⟩
      have g1:=(hkeep 1 (by decide)).trans h1
      have g3:=(hkeep 3 (by decide)).trans h3
      by_cases hlt:k < 25
      · have hset:(zA9 25 (zKl s) (gd s 0#64) k).set k (zKl s k)=zA9 25 (zKl s) (gd s 0#64) (k+1):=zEM ..
        have hk1:zKl s k=gd s 0#64 k ^^^ (gd s 0#64 (k - k % 5+(k+2) % 5)&&&~~~ gd s 0#64 (k - k % 5+(k+1) % 5)):=rfl
        rw [hk1] at hset
        clear hk1
        have w0:=zv7 k
        have w1:IntKind.i64.wrap ((k:Int) - ((k % 5:Nat):Int))=((k - k % 5:Nat):Int):=by
          rw [← zii (k - k % 5) (by omega)];congr 1;omega
        have w2:IntKind.i64.wrap ((k:Int)+1)=((k+1:Nat):Int):=wrap_i64 (by omega) (by omega)
        have w3:IntKind.i64.wrap ((k:Int)+2)=((k+2:Nat):Int):=wrap_i64 (by omega) (by omega)
        have w4:=zv7 (k+1)
        have w5:=zv7 (k+2)
        have w6:IntKind.i64.wrap (((k - k % 5:Nat):Int)+(((k+1) % 5:Nat):Int))=((k - k % 5+(k+1) % 5:Nat):Int):=by
          rw [← zii (k - k % 5+(k+1) % 5) (by omega),Int.natCast_add]
        have w7:IntKind.i64.wrap (((k - k % 5:Nat):Int)+(((k+2) % 5:Nat):Int))=((k - k % 5+(k+2) % 5:Nat):Int):=by
          rw [← zii (k - k % 5+(k+2) % 5) (by omega),Int.natCast_add]
        have ha:k - k % 5+(k+1) % 5 < 25:=by omega
        have hb:k - k % 5+(k+2) % 5 < 25:=by omega
        generalize k - k % 5+(k+1) % 5=a at*
        generalize k - k % 5+(k+2) % 5=b at*
        generalize (k+1) % 5=c at*
        generalize (k+2) % 5=d at*
        generalize k - k % 5=q at*
        generalize k % 5=r at*
        have w8:((k+1:Nat):Int)=(k:Int)+1:=rfl
        generalize hk1:k+1=k1 at*
        generalize k+2=k2 at*
        simp [zbv,zau,g7,g1,g3,hlt,show (k:Int) < 25 by omega,show k≤24 by omega,w0,w1,w2,w3,w4,w5,w6,w7,ziT,zfV,zrR,ha,hb,zHY,hs,hset,hk1,show k1≤25 by omega]
        try omega
      · have : k = 25 := by omega
        subst this
        simp [zbv,g7,zEN,zFq])
  exact ⟨fr',rfl,hk⟩
theorem zLx (L:Lim) (h:zab) (s:List W64) (hs:s.length=25):zag ctx L zdn [.agg (cW s)] h=some (.agg (cW (zFq s)),h):=by
  rw [zlc]
  simp [zfv,zau,zbi,zaf,hs,zbB,zah]
  generalize hF:run ctx _ (.loop _) _ _=R
  obtain ⟨fr1,rfl,hk1⟩:=zFr s hs _ hF (by simp) (by simp) (by simp)
  simp [hk1,wr,zbv,zgH,zaf,zFq,zbB,zah]
def rcW:List W64:=[1#64,32898#64,9223372036854808714#64,9223372039002292224#64,32907#64,2147483649#64,9223372039002292353#64,9223372036854808585#64,138#64,136#64,2147516425#64,2147483658#64,2147516555#64,9223372036854775947#64,9223372036854808713#64,9223372036854808579#64,9223372036854808578#64,9223372036854775936#64,32778#64,9223372039002259466#64,9223372039002292353#64,9223372036854808704#64,2147483649#64,9223372039002292232#64]
theorem zIp (fr:Fr):ctx.ev fr (.g 3)=.vptr (cW rcW) 0:=rfl
theorem zxT (L:Lim) (h:zab) (k:Nat) (hk:k < 24):zag ctx L zdW [.int .i64 k] h=some (wd (gd rcW 0#64 k),h):=by
  rw [zml]
  have hl:rcW.length=24:=rfl
  simp [zf2,show ¬(24:Int)≤k by omega,show ¬(k:Int) < 0 by omega,zIp,zrR,hk,hl]
def ztI (l:List W64) (k:Nat):List W64:=(zFq (zok (zp6 l))).set 0 (gd (zFq (zok (zp6 l))) 0#64 0 ^^^ gd rcW 0#64 k)
@[simp] theorem zKm (l:List W64):(zp6 l).length=25:=by simp [zp6]
@[simp] theorem zKo (l:List W64):(zok l).length=25:=by simp [zok]
@[simp] theorem zNy (l:List W64):(zFq l).length=25:=by simp [zFq]
@[simp] theorem zKp (l:List W64) (k:Nat):(ztI l k).length=25:=by simp [ztI]
theorem zCE (L:Lim) (h:zab) (s:List W64) (hs:s.length=25) (k:Nat) (hk:k < 24):zag ctx L zcH [.agg (cW s),.int .i64 k] h=some (.agg (cW (ztI s k)),h):=by
  rw [zkc]
  simp [zel,zau,zbi,zd9,zaa.okV,zaa.cells,zaf,hs,zbB,zah,zFn,zFo,zLx,zxT,hk,ztI]
def zxU (l:List W64) (k:Nat):List W64:=(List.range k).foldl ztI l
theorem ztJ (l:List W64) (k:Nat):zxU l (k+1)=ztI (zxU l k) k:=by simp [zxU,List.range_succ]
theorem zv9 (l:List W64) (hl:l.length=25):∀ k,(zxU l k).length=25
  | 0=>by simpa [zxU] using hl
  | k+1=>by rw [ztJ];simp
def zom (l:List W64):List W64:=zxU l 24
theorem zwa {fr:Fr} {h:zab} {R:Option (AEx × Fr × zab)} (s:List W64) (hs:s.length=25) (z:List zaa)
    (hF:run ctx (zau h) (.loop zaV) fr (hx h [cW s,z] [])=R)
    (h1:fr 1=pA h.blks.length 0 0) (h4:fr 4=.int .i64 0):
    ∃ fr',R=some (.exit 0,fr',hx h [cW (zom s),z] [])∧∀ t,t∉wr zaV→fr' t=fr t:=by
  obtain ⟨e,fr',h',rfl,⟨rfl,rfl⟩,hk⟩:=zaj hF 24
    (fun k fr hh=>fr 4=.int .i64 k∧hh=hx h [cW (zxU s k),z] [])
    (fun e fr hh=>e=.exit 0∧hh=hx h [cW (zom s),z] [])
    ⟨h4,rfl⟩ (by
      rintro k fr1 hh hkN hkeep ⟨g4,rfl⟩
      have g1:=(hkeep 1 (by decide)).trans h1
      by_cases hlt:k < 24
      · have w1 : IntKind.i64.wrap ((k : Int) + 1) = k + 1 := wrap_i64 (by omega) (by omega)
        have hl:=zv9 s hs k
        simp [zaV,zau,g4,g1,hlt,show (k:Int) < 24 by omega,w1,zaf,hl,zbB,zah,zCE,ztJ]
      · have : k = 24 := by omega
        subst this
        simp [zaV,g4,zom])
  exact ⟨fr',rfl,hk⟩
theorem zes (l:List W64) (hl:l.length=25):(zom l).length=25:=zv9 l hl 24
theorem zpx (L:Lim) (h:zab) (s:List W64) (hs:s.length=25):zag ctx L za7 [.agg (cW s)] h=some (.agg (cW (zom s)),h):=by
  rw [ziP]
  simp [zdj,zau,zbi,zd9,zaa.okV,zaa.cells,zaf,hs]
  generalize hF:run ctx _ (.loop _) _ _=R
  obtain ⟨fr1,rfl,hk1⟩:=zwa s hs _ hF (by simp) (by simp)
  simp [hk1,wr,zaV,zgH,zaf,zes,hs,zbB,zah]
end Go.Av
namespace Go.Av
def bit (l:List W64) (j:Nat):Bool:=(gd l 0#64 (j / 320+5*(j / 64 % 5))).getLsbD (j % 64)
end Go.Av
namespace Go.Av
end Go.Av
namespace Go.Av
end Go.Av
namespace Go.Av
end Go.Av
namespace Go.Av
end Go.Av
namespace Go.Av
end Go.Av
namespace Go.Av
def byW (w:W64) (k:Nat):Int:=((w >>> (8*k)).toNat % 256:Nat)
def zev (l:List W64):List Int:=tab (8*l.length) fun j=>byW (gd l 0#64 (j / 8)) (j % 8)
theorem zAM (w:W64):IntKind.u8.wrap (w.toNat:Int)=((w.toNat % 256:Nat):Int):=by
  unfold IntKind.wrap
  simp [IntKind.signed,IntKind.bits]
@[simp] theorem zMw (w:W64):zKA .u8 (wd w)=some (.int .u8 ((w.toNat % 256:Nat):Int)):=by
  unfold wd;rw [zd5,zAM]
theorem zvd {fr : Fr} {h : zab} {R : Option (AEx × Fr × zab)} (l : List W64) (bs : List (List zaa)) (i : Nat) (hi : i < l.length) (hl : l.length < 1000000) (f : Nat → Int) (hf : f = fun j => byW (gd l 0#64 (j / 8)) (j % 8))
    (hF:run ctx (zau h) (.loop zdV) fr (hx h bs (gT (eI .u8 (tab (8*i) f))))=R)
    (h3:fr 3=gL .nsl h.toks.length 0 (eI .u8 (tab (8*i) f))) (h5:fr 5=wd (gd l 0#64 i)) (h12:fr 12=.int .i64 0):
    ∃ fr',R=some (.exit 2,fr',hx h bs (gT (eI .u8 (tab (8*(i+1)) f))))∧fr' 3=gL .nsl h.toks.length 0 (eI .u8 (tab (8*(i+1)) f))∧∀ t,t∉wr zdV→fr' t=fr t:=by
  obtain ⟨e,fr',h',rfl,⟨rfl,rfl,h3'⟩,hk⟩:=zaj hF 8
    (fun k fr hh=>fr 12=.int .i64 k∧fr 5=wd (gd l 0#64 i >>> (8*k))∧fr 3=gL .nsl h.toks.length 0 (eI .u8 (tab (8*i+k) f))∧hh=hx h bs (gT (eI .u8 (tab (8*i+k) f))))
    (fun e fr hh=>e=.exit 2∧hh=hx h bs (gT (eI .u8 (tab (8*(i+1)) f)))∧fr 3=gL .nsl h.toks.length 0 (eI .u8 (tab (8*(i+1)) f)))
    ⟨h12, by simpa using h5, h3, rfl⟩ (by
      rintro k fr1 hh hkN hkeep ⟨g12,g5,g3,rfl⟩
      by_cases hlt:k < 8
      · have w1 : IntKind.i64.wrap ((k : Int) + 1) = k + 1 := wrap_i64 (by omega) (by omega)
        have hfk:((((gd l 0#64 i >>> (8*k)).toNat % 256:Nat):Int))=f (8*i+k):=by
          rw [hf];simp only [byW]
          rw [show (8*i+k) / 8=i by omega,show (8*i+k) % 8=k by omega]
        have hsh:gd l 0#64 i >>> (8*k) >>> 8=gd l 0#64 i >>> (8*(k+1)):=by
          rw [← BitVec.shiftRight_add];rfl
        have hroom:8*i+k+1 < 274877906944:=by omega
        generalize hw:gd l 0#64 i >>> (8*k)=w at*
        have hs8:zdY .shr (wd w) (.int .u64 8)=some (wd (w >>> 8)):=zmO w .u64 8 (by decide)
        generalize hm:8*i+k=m at*
        simp [zdV,g12,g5,g3,hlt,show (k:Int) < 8 by omega,w1,zau,zay,rep,zaa.cells,zaa.okV,chunks,hfk,zhS,zpM,zas,hroom,hs8,hsh, -zdO]
        simp [← Nat.add_assoc,hm]
      · have : k = 8 := by omega
        subst this
        simp [zdV,g12,g3,Nat.mul_add])
  exact ⟨fr',rfl,h3',hk⟩
theorem zAN {fr : Fr} {h : zab} {R : Option (AEx × Fr × zab)} (l : List W64) (x : zaa) (bs : List (List zaa)) (hl : l.length < 1000000) (f : Nat → Int) (hf : f = fun j => byW (gd l 0#64 (j / 8)) (j % 8)) (hx6 : RdW h x l)
    (hF:run ctx (zau h) (.loop zhd) fr (hx h bs [])=R)
    (h3:fr 3=.nsl) (h6:fr 6=x) (h7:fr 7=.int .i64 l.length) (h8:fr 8=.int .i64 0):
    ∃ fr',R=some (.exit 0,fr',hx h bs (gT (eI .u8 (zev l))))∧fr' 3=gL .nsl h.toks.length 0 (eI .u8 (zev l)):=by
  obtain ⟨r1,p,r2,r3⟩:=hx6
  obtain ⟨e,fr',h',rfl,⟨rfl,rfl,h3'⟩,hk⟩:=zaj hF l.length
    (fun k fr hh=>fr 8=.int .i64 k∧fr 3=gL .nsl h.toks.length 0 (eI .u8 (tab (8*k) f))∧hh=hx h bs (gT (eI .u8 (tab (8*k) f))))
    (fun e fr hh=>e=.exit 0∧hh=hx h bs (gT (eI .u8 (zev l)))∧fr 3=gL .nsl h.toks.length 0 (eI .u8 (zev l)))
    ⟨h8, by simpa [tab, gL] using h3, by simp [tab, gT]⟩ (by
      rintro k fr1 hh hkN hkeep ⟨g8,g3,rfl⟩
      have g6:=(hkeep 6 (by decide)).trans h6
      have g7:=(hkeep 7 (by decide)).trans h7
      by_cases hlt:k < l.length
      · have w1 : IntKind.i64.wrap ((k : Int) + 1) = k + 1 := wrap_i64 (by omega) (by omega)
        simp [zhd,g8,g6,g7,hlt,r2 k hlt,r3 k _ _ hlt]
        generalize hF:run ctx _ (.loop _) _ _=R
        obtain ⟨fr2,rfl,q1,q2⟩:=zvd l bs k hlt hl f hf hF (by simp [g3]) (by simp) (by simp)
        simp [q1,q2,wr,zdV,zgH,g8,w1]
        exact hlt
      · have : k = l.length := by omega
        subst this
        simp [zhd,g8,g7,g3,zev,hf])
  exact ⟨fr',rfl,h3'⟩
theorem zzq (L:Lim) (h:zab) (l:List W64) (x:zaa) (hl:l.length < 1000000) (hx6:RdW h x l):zag ctx L zgB [x] h=some (.vsl false (eI .u8 (zev l)),h):=by
  rw [zr3]
  simp [zli,hx6.1]
  generalize hF:run ctx _ (.loop _) _ _=R
  obtain ⟨fr1,rfl,q1⟩:=zAN l x _ hl _ rfl hx6 hF (by simp) (by simp) (by simp) (by simp)
  simp [q1,zoI]
@[simp] theorem zKG (l:List W64):(zev l).length=8*l.length:=by simp [zev]
end Go.Av
namespace Go.Av
theorem ztM (L:Lim) (h:zab) (s:List W64) (hs:s.length=25):zag ctx L zbI [.agg (cW s)] h=some (.agg (cI .u8 (zev s)),h):=by
  rw [zkb]
  have hb:=fun L bs=>zzq L (hx h (cW s :: bs) []) s (sA h.blks.length 0 0 1 25 (some 25)) (by omega) (RdW.sA [] 0 25 _ s hs (by simp))
  have e1:(zev s).take 200=zev s:=List.take_of_length_le (by simp [hs])
  simp [zeg,zau,zgf,zd9,zaa.okV,zaa.cells,hs,zln,hb,zy3,zaf,e1,zbB,zah]
def zbN (s:List W64) (n:Int):List zaa:=cW s++[.int .i64 n]
@[simp] theorem zLF (s:List W64) (n:Int):(zbN s n).length=s.length+1:=by simp [zbN]
theorem zwd {s:List W64} {n:Int} {i:Nat} (h:decide (i < s.length)=true):(zbN s n)[i]?=some (wd (gd s 0#64 i)):=by
  have h':i < s.length:=by simpa using h
  unfold zbN;rw [List.getElem?_append_left (by simpa using h')];exact zES h'
theorem zqU {s:List W64} {n:Int} (h:s.length=25):(zbN s n)[25]?=some (.int .i64 n):=by
  unfold zbN;rw [List.getElem?_append_right (by simp [h])];simp [h]
theorem zrW {s:List W64} {n:Int} (h0:25 < (zbN s n).length) (h:s.length=25):(zbN s n)[25]=.int .i64 n:=by
  have:=zqU (n:=n) h
  rw [List.getElem?_eq_getElem h0] at this
  exact Option.some.inj this
theorem zpB {s:List W64} {n:Int} {i:Nat} (h0:i < (zbN s n).length) (h:decide (i < s.length)=true):(zbN s n)[i]=wd (gd s 0#64 i):=by
  have:=zwd (n:=n) h
  rw [List.getElem?_eq_getElem h0] at this
  exact Option.some.inj this
theorem zCL {s:List W64} {n:Int} {i:Nat} (x:W64) (h:decide (i < s.length)=true):(zbN s n).set i (wd x)=zbN (s.set i x) n:=by
  have h':i < s.length:=by simpa using h
  unfold zbN;rw [List.set_append_left _ _ (by simpa using h')];simp
theorem ztO {s:List W64} {n:Int} (m:Int) (h:s.length=25):(zbN s n).set 25 (.int .i64 m)=zbN s m:=by
  unfold zbN;rw [List.set_append_right _ _ (by simp [h])];simp [h]
theorem ztP {s:List W64} {n:Int} (h:s.length=25):zdZ true (zbN s n) 0 25=some (.agg (cW s)):=by
  unfold zdZ zbN;simp [h]
theorem zwf {s:List W64} {n:Int} (h:s.length=25):zdZ true (zbN s n) 0 26=some (.agg (zbN s n)):=zxa (by simp [h])
theorem zAg {s t:List W64} {n:Int} (h:s.length=25) (ht:t.length=25):setAt (zbN s n) 0 (cW t)=zbN t n:=by
  have e:∀ (cs old rest:List zaa),old.length=cs.length→∀ pre:List zaa,setAt (pre++(old++rest)) pre.length cs=pre++(cs++rest):=by
    intro cs
    induction cs with
    | nil=>intro old rest h pre;cases old with | nil=>simp [setAt] | cons a l=>simp at h
    | cons c cs ih=>
      intro old rest h pre
      cases old with
      | nil=>simp at h
      | cons a l=>
        simp only [setAt]
        rw [List.set_append_right _ _ (Nat.le_refl _),Nat.sub_self]
        have:=ih l rest (by simpa using h) (pre++[c])
        simpa using this
  have:=e (cW t) (cW s) [.int .i64 n] (by simp [h,ht]) []
  simpa [zbN] using this
def zy6 (s:List W64) (at_:Nat) (v:Int):List W64:=s.set (at_ / 8) (gd s 0#64 (at_ / 8) ^^^ (bw v <<< (8*(at_ % 8))))
@[simp] theorem zNE (s:List W64) (n:Nat) (v:Int):(zy6 s n v).length=s.length:=by simp [zy6]
theorem zCP (L:Lim) (h:zab) (bs:List (List zaa)) (ts:List Nat) (i:Nat) (s:List W64) (n:Int) (at_:Nat) (v:Int) (hs:s.length=25) (ha:at_ < 200) (hb:bs[i]?=some (zbN s n)) (hL:L.rob≤h.blks.length):
    zag ctx L zbc [pA h.blks.length i 0,.int .i64 (at_:Int),.int .u8 v] (hx h bs ts)=some (.tup [],hx h (bs.set i (zbN (zy6 s at_ v) n)) ts):=by
  rw [zmE]
  have w0:=zyj at_ 8
  have w1:=zCN at_ 8
  have w2:IntKind.i64.wrap ((at_ / 8:Nat):Int)=((at_ / 8:Nat):Int):=zii _ (by omega)
  have w3:IntKind.i64.wrap (8*((at_ % 8:Nat):Int))=((8*(at_ % 8):Nat):Int):=by
    rw [← zii (8*(at_ % 8)) (by omega)];simp only [Int.natCast_mul,Int.natCast_add,Int.cast_ofNat_Int]
  have ha25:at_ / 8 < 25:=by omega
  have hb64:8*(at_ % 8)≤64:=by omega
  have hset:s.set (at_ / 8) (gd s 0#64 (at_ / 8) ^^^ (bw v <<< (8*(at_ % 8))))=zy6 s at_ v:=rfl
  simp only [Int.cast_ofNat_Int] at w0 w1
  have hi:=(List.getElem?_eq_some_iff.1 hb).1
  generalize at_ / 8=a at*
  generalize hbb:8*(at_ % 8)=b at*
  generalize at_ % 8=c at*
  simp [zfY,w0,w1,w2,w3,zlP,ziT,zam,zak,zfV,ha25,hb,zwd,hs,zvR,hb64,zan,hL,zCL,hset,show a≤25 by omega,zh9, -zd5, -zlT]
def zuL (q:List W64 × Nat) (v:Int):List W64 × Nat:=if q.2+1=136 then (zom (zy6 q.1 q.2 v),0) else (zy6 q.1 q.2 v,q.2+1)
def zbl (q:List W64 × Nat) (l:List Int):List W64 × Nat:=l.foldl zuL q
theorem zFE {q:List W64 × Nat} (v:Int) (h1:q.1.length=25) (h2:q.2 < 136):(zuL q v).1.length=25∧(zuL q v).2 < 136:=by
  unfold zuL
  split
  · exact ⟨zes _ (by simp [h1]),by simp⟩
  · exact ⟨by simp [h1],by simp only [];omega⟩
theorem zjh:∀ (l:List Int) {q:List W64 × Nat},q.1.length=25→q.2 < 136→(zbl q l).1.length=25∧(zbl q l).2 < 136
  | [],q,h1,h2=>⟨h1,h2⟩
  | v :: l, q, h1, h2 => by
    obtain ⟨a,b⟩:=zFE v h1 h2
    exact zjh l a b
theorem zAj {L:Lim} {fr:Fr} {h:zab} {R:Option (AEx × Fr × zab)} (bs:List (List zaa)) (ts:List Nat) (i:Nat) (q:List W64 × Nat) (x:zaa) (l:List Int) (hl:l.length < 200000000000) (h1:q.1.length=25) (h2:q.2 < 136)
    (hb:bs[i]?=some (zbN q.1 q.2)) (hL:L.rob≤h.blks.length) (hr:RdI h .u8 x l)
    (hF:run ctx ⟨L.rob,L.rot,h.blks.length+bs.length,h.toks.length+ts.length⟩ (.loop zbK) fr (hx h bs ts)=R)
    (h0:fr 0=pA h.blks.length i 0) (h6:fr 6=x) (h7:fr 7=.int .i64 l.length) (h8:fr 8=.int .i64 0):
    ∃ fr',R=some (.exit 0,fr',hx h (bs.set i (zbN (zbl q l).1 (zbl q l).2)) ts):=by
  obtain ⟨r1,p,r2,r3⟩:=hr
  have hi:=(List.getElem?_eq_some_iff.1 hb).1
  obtain ⟨e,fr',h',rfl,⟨rfl,rfl⟩,hk⟩:=zaj hF l.length
    (fun k fr hh=>fr 8=.int .i64 k∧hh=hx h (bs.set i (zbN (zbl q (l.take k)).1 (zbl q (l.take k)).2)) ts)
    (fun e fr hh=>e=.exit 0∧hh=hx h (bs.set i (zbN (zbl q l).1 (zbl q l).2)) ts)
    ⟨h8,by
      have:bs.set i (zbN q.1 q.2)=bs:=by
        refine List.ext_getElem? fun j=>?_
        by_cases e:i=j
        · subst e;rw [List.getElem?_set_self hi,hb]
        · rw [List.getElem?_set_ne e]
      simp [zbl,this]⟩ (by
      rintro k fr1 hh hkN hkeep ⟨g8,rfl⟩
      have g0:=(hkeep 0 (by decide)).trans h0
      have g6:=(hkeep 6 (by decide)).trans h6
      have g7:=(hkeep 7 (by decide)).trans h7
      obtain ⟨c1,c2⟩:=zjh (l.take k) h1 h2
      by_cases hlt:k < l.length
      · have w1 : IntKind.i64.wrap ((k : Int) + 1) = k + 1 := wrap_i64 (by omega) (by omega)
        have hst:zbl q (l.take (k+1))=zuL (zbl q (l.take k)) (gd l 0 k):=by
          rw [zls 0 hlt];simp [zbl]
        generalize zbl q (l.take k)=q' at*
        obtain ⟨s,n⟩:=q'
        simp only at c1 c2
        have w2:IntKind.i64.wrap ((n:Int)+1)=((n+1:Nat):Int):=wrap_i64 (by omega) (by omega)
        have hp:=zCP ⟨L.rob,L.rot,h.blks.length+bs.length,h.toks.length+ts.length⟩ h (bs.set i (zbN s n)) ts i s n n (gd l 0 k) c1 (by omega) (by simp [hi]) hL
        by_cases h136:n+1=136
        · have hst2 : zuL (s, n) (gd l 0 k) = (zom (zy6 s n (gd l 0 k)), 0) := by simp only [zuL, h136, if_true]
          rw [hst2] at hst
          rw [h136] at w2
          simp [zrW,zpB,zbK,g0,g6,g7,g8,hlt,w1,r2 k hlt,r3 k _ _ hlt,hi,zqU,c1,hp,w2,hst,zan,hL,ztO,ztP,zpx,zes,zbB,zAg]
        · have hst2 : zuL (s, n) (gd l 0 k) = (zy6 s n (gd l 0 k), n + 1) := by simp only [zuL, h136, if_false]
          rw [hst2] at hst
          have hne:(((n+1:Nat):Int)==136)=false:=beq_false_of_ne (by omega)
          generalize n+1=n1 at*
          simp [zrW,zpB,zbK,g0,g6,g7,g8,hlt,w1,r2 k hlt,r3 k _ _ hlt,hi,zqU,c1,hp,w2,hst,zan,hL,ztO,hne]
      · have : k = l.length := by omega
        subst this
        simp [zbK,g8,g7])
  exact ⟨fr',rfl⟩
theorem zFF (L:Lim) (h:zab) (bs:List (List zaa)) (ts:List Nat) (i:Nat) (q:List W64 × Nat) (x:zaa) (l:List Int) (hl:l.length < 200000000000) (h1:q.1.length=25) (h2:q.2 < 136)
    (hb:bs[i]?=some (zbN q.1 q.2)) (hL:L.rob≤h.blks.length) (hr:RdI h .u8 x l):
    zag ctx L zc8 [pA h.blks.length i 0,x] (hx h bs ts)=some (.tup [],hx h (bs.set i (zbN (zbl q l).1 (zbl q l).2)) ts):=by
  rw [zkW]
  simp [zeS,hr.1,zam,zak]
  generalize hF:run ctx _ (.loop _) _ _=R
  obtain ⟨fr',rfl⟩:=zAj bs ts i q x l hl h1 h2 hb hL hr hF (by simp) (by simp) (by simp) (by simp)
  simp [zam,zak,zh9]
def zIA (q:List W64 × Nat):List Int:=(zev (zom (zy6 (zy6 q.1 q.2 6) 135 128))).take 32
theorem zIB (L:Lim) (h:zab) (b:Nat) (q:List W64 × Nat) (h1:q.1.length=25) (h2:q.2 < 136) (hb:h.blks[b]?=some (zbN q.1 q.2)):
    zag ctx L zcT [.ptr b 0] h=some (.agg (cI .u8 (zIA q)),h):=by
  rw [zmt]
  obtain ⟨s,n⟩:=q
  simp only at h1 h2 hb
  have hld:∀ bs ts,zkH (hx h bs ts) (.ptr b 0) 26 true=some (.agg (zbN s n)):=fun bs ts=>(zop h bs ts b 0 26 true _ hb).trans (zwf h1)
  have ep:∀ (bs:List zaa) (s:List W64),s.length=25→zag ctx ⟨h.blks.length,h.toks.length,h.blks.length,h.toks.length⟩ zbc [pA h.blks.length 1 0,.int .i64 (n:Int),.int .u8 6] (hx h [bs,zbN s n] [])=some (.tup [],hx h [bs,zbN (zy6 s n 6) n] []):=fun bs s hs=>
    zCP _ h [bs,zbN s n] [] 1 s n n 6 hs (by omega) (by simp) (Nat.le_refl _)
  have ep2:∀ (bs:List zaa) (s:List W64),s.length=25→zag ctx ⟨h.blks.length,h.toks.length,h.blks.length,h.toks.length⟩ zbc [pA h.blks.length 1 0,.int .i64 135,.int .u8 128] (hx h [bs,zbN s n] [])=some (.tup [],hx h [bs,zbN (zy6 s 135 128) n] []):=fun bs s hs=>
    zCP _ h [bs,zbN s n] [] 1 s n 135 128 hs (by omega) (by simp) (Nat.le_refl _)
  have e32:(zev (zom (zy6 (zy6 s n 6) 135 128))).length=200:=by simp [zes,h1]
  have hsl:=ztL 200 1 h.blks.length 2 0 32 .i64 (by decide)
  simp only [Int.cast_ofNat_Int] at hsl
  simp [zrW,zpB,zfW,zam,zak,zau,zgf,hld,zwf,h1,zbB,zah,zqU,ep,ep2,ztP,zpx,ztM,zes,zaf,e32,hsl,zHw,zIA]
  simp [zFu,e32,zbB,zah,List.take_take]
def zIC (l:List Int):List Int:=zIA (zbl (tab 25 fun _=>0#64,0) l)
theorem ztg (q:List W64 × Nat) (l m:List Int):zbl q (l++m)=zbl (zbl q l) m:=by simp [zbl]
def msg (ps:List (zaa × List Int)):List Int:=(ps.map (·.2)).flatten
theorem zFJ (ps:List (zaa × List Int)) (k:Nat) (h:k < ps.length):msg (ps.take (k+1))=msg (ps.take k)++ps[k].2:=by
  unfold msg
  rw [List.take_add_one,List.getElem?_eq_getElem h,List.map_append,List.flatten_append]
  congr 1
  simp
theorem zCU {fr:Fr} {h:zab} {R:Option (AEx × Fr × zab)} (z:List zaa) (ps:List (zaa × List Int)) (hn:ps.length < 1000000) (hr:∀ p∈ps,RdI h .u8 p.1 p.2∧p.2.length < 200000000000)
    (hF:run ctx (zau h) (.loop zd8) fr (hx h [z,zbN (tab 25 fun _=>0#64) 0] [])=R)
    (h3:fr 3=pA h.blks.length 1 0) (h6:fr 6=.vsl false (ps.map fun p=>[p.1])) (h7:fr 7=.int .i64 ps.length) (h8:fr 8=.int .i64 0):
    ∃ fr' q,R=some (.exit 0,fr',hx h [z,zbN q.1 q.2] [])∧q=zbl (tab 25 fun _=>0#64,0) (msg ps)∧q.1.length=25∧q.2 < 136∧∀ t,t∉wr zd8→fr' t=fr t:=by
  obtain ⟨e,fr',h',rfl,⟨rfl,rfl⟩,hk⟩:=zaj hF ps.length
    (fun k fr hh=>fr 8=.int .i64 k∧hh=hx h [z,zbN (zbl (tab 25 fun _=>0#64,0) (msg (ps.take k))).1 (zbl (tab 25 fun _=>0#64,0) (msg (ps.take k))).2] [])
    (fun e fr hh=>e=.exit 0∧hh=hx h [z,zbN (zbl (tab 25 fun _=>0#64,0) (msg ps)).1 (zbl (tab 25 fun _=>0#64,0) (msg ps)).2] [])
    ⟨h8, by simp only [List.take_zero]; rfl⟩ (by
      rintro k fr1 hh hkN hkeep ⟨g8,rfl⟩
      have g3:=(hkeep 3 (by decide)).trans h3
      have g6:=(hkeep 6 (by decide)).trans h6
      have g7:=(hkeep 7 (by decide)).trans h7
      obtain ⟨c1,c2⟩:=zjh (msg (ps.take k)) (q:=(tab 25 fun _=>0#64,0)) (by simp) (by simp)
      by_cases hlt:k < ps.length
      · have w1 : IntKind.i64.wrap ((k : Int) + 1) = k + 1 := wrap_i64 (by omega) (by omega)
        have hst : zbl (tab 25 fun _ => 0#64, 0) (msg (ps.take (k + 1))) = zbl (zbl (tab 25 fun _ => 0#64, 0) (msg (ps.take k))) ps[k].2 := by
          rw [← ztg]
          congr 1
          exact zFJ ps k hlt
        obtain ⟨r1,r2⟩:=hr ps[k] (List.getElem_mem hlt)
        generalize zbl (tab 25 fun _=>0#64,0) (msg (ps.take k))=q' at*
        have hw:=zFF ⟨h.blks.length,h.toks.length,h.blks.length,h.toks.length⟩ h [z,zbN q'.1 q'.2] [] 1 q' ps[k].1 ps[k].2 r2 c1 c2 (by simp) (Nat.le_refl _) r1
        simp [zd8,zau,g3,g6,g7,g8,hlt,zcG,asI,w1,hw,hst]
      · have : k = ps.length := by omega
        subst this
        simp [zd8,g8,g7])
  obtain ⟨c1,c2⟩:=zjh (msg ps) (q:=(tab 25 fun _=>0#64,0)) (by simp) (by simp)
  exact ⟨fr',_,rfl,rfl,c1,c2,hk⟩
theorem zAo:[zaa.int .u64 0,.int .u64 0,.int .u64 0,.int .u64 0,.int .u64 0,.int .u64 0,.int .u64 0,.int .u64 0,.int .u64 0,.int .u64 0,.int .u64 0,.int .u64 0,.int .u64 0,.int .u64 0,.int .u64 0,.int .u64 0,.int .u64 0,.int .u64 0,.int .u64 0,.int .u64 0,.int .u64 0,.int .u64 0,.int .u64 0,.int .u64 0,.int .u64 0,.int .i64 0]=zbN (tab 25 fun _=>0#64) 0:=rfl
theorem zID (L:Lim) (h:zab) (c:Bool) (ps:List (zaa × List Int)) (hn:ps.length < 1000000) (hr:∀ p∈ps,RdI h .u8 p.1 p.2∧p.2.length < 200000000000):
    zag ctx L zgA [.vsl c (ps.map fun p=>[p.1])] h=some (.agg (cI .u8 (zIC (msg ps))),h):=by
  rw [zrY]
  simp [zlV,zAo,zgf,zau]
  generalize hF:run ctx _ (.loop _) _ _=R
  obtain ⟨fr',q,rfl,q1,q2,q3,hk⟩:=zCU _ ps hn hr hF (by simp) (by simp) (by simp) (by simp)
  have hs:zag ctx ⟨h.blks.length,h.toks.length,h.blks.length,h.toks.length⟩ zcT [pA h.blks.length 1 0] (hx h [cI .u8 (tab 32 fun _=>0),zbN q.1 q.2] [])=some (.agg (cI .u8 (zIA q)),hx h [cI .u8 (tab 32 fun _=>0),zbN q.1 q.2] []):=zIB ⟨h.blks.length,h.toks.length,h.blks.length,h.toks.length⟩ (hx h [cI .u8 (tab 32 fun _=>0),zbN q.1 q.2] []) (h.blks.length+1) q q2 q3 (zy5 [] (by simp))
  have hl:(zIA q).length=32:=by simp [zIA,zes,q2]
  simp [hk,wr,zd8,zgH,hs,zbB,hl,zah,zaf,zIC,← q1]
end Go.Av
namespace Go.Av
def obK (b:List Int) (n:Nat):Nat→List W64
  | 0=>tab 25 fun _=>0#64
  | k+1=>let i:=n - 1 - k;(obK b n k).set (i / 8) (gd (obK b n k) 0#64 (i / 8)*256#64+bw (gd b 0 i))
@[simp] theorem zIG (b:List Int) (n:Nat):∀ k,(obK b n k).length=25
  | 0=>by simp [obK]
  | k+1=>by simp [obK,zIG b n k]
def zgs (b:List Int):List W64:=obK b 200 200
end Go.Av
namespace Go.Av
structure Sp where
  S:List Int
  a:Nat
  b:Nat
  c:Nat
def zmL (S:List Int):List Int:=zev (zom (zgs S))
theorem zeU (S:List Int):(zgs S).length=25:=by simp [zgs]
theorem zud (l : List W64) : inB (zev l) := fun i hi => by
  unfold zev at hi ⊢
  rw [zk3 (by simpa using hi)]
  unfold byW;omega
@[simp] theorem zra (S:List Int):(zmL S).length=200:=by simp [zmL,zev,zes,zeU]
theorem zzG (S:List Int):inB (zmL S):=zud _
def zo4 (s:Sp):Sp:=⟨zmL s.S,0,s.b,s.c+1⟩
def zEJ (s:Sp):Sp:=if s.a=136 then zo4 s else s
def zlR (s:Sp) (u:Int):Sp:=⟨(zEJ s).S.set (zEJ s).a u,(zEJ s).a+1,136,(zEJ s).c⟩
def zbH (s:Sp) (l:List Int):Sp:=l.foldl zlR s
def zEh (s:Sp):Sp:=if s.b=136 then {zo4 s with b:=0} else s
def zw9 (s:Sp):Sp:={zEh s with b:=(zEh s).b+1}
def zKR (s:Sp):Int:=gd (zEh s).S 0 (zEh s).b
def zdl (s:Sp):Nat→Sp
  | 0=>s
  | n+1=>zw9 (zdl s n)
def zjy (s:Sp) (n:Nat):List Int:=tab n fun k=>zKR (zdl s k)
def zEK (s:Sp):Sp:=⟨putAt (zmL s.S) 0 (tab 136 fun _=>0),0,136,s.c+1⟩
def Sp.ok (s:Sp):Prop:=s.S.length=200∧inB s.S∧s.a≤136∧s.b≤136
theorem zrc {s:Sp} (h:s.ok):(zo4 s).ok:=⟨by simp [zo4],zzG _,by simp [zo4],h.2.2.2⟩
theorem zJ4 {s:Sp} (h:s.ok):(zEJ s).ok∧(zEJ s).a < 136:=by
  unfold zEJ
  split
  · exact ⟨zrc h,by simp [zo4]⟩
  · exact ⟨h,by have:=h.2.2.1;omega⟩
theorem zEj {s:Sp} (h:s.ok):(zEh s).ok∧(zEh s).b < 136:=by
  unfold zEh
  split
  · exact ⟨⟨(zrc h).1,(zrc h).2.1,(zrc h).2.2.1,by simp⟩,by simp⟩
  · exact ⟨h,by have:=h.2.2.2;omega⟩
theorem zEl {l : List Int} (hl : inB l) (i : Nat) (v : Int) (hv : 0 ≤ v ∧ v < 256) : inB (l.set i v) := fun j hj => by
  have hj':j < l.length:=by simpa using hj
  by_cases hi:i < l.length
  · rw [zk9 _ _ _ _ _ hi];split
    · exact hv
    · exact hl j hj'
  · rw [List.set_eq_of_length_le (by omega)];exact hl j hj'
theorem zG5 {s:Sp} (h:s.ok) (u:Int) (hu:0≤u∧u < 256):(zlR s u).ok:=by
  obtain ⟨⟨h1,h2,h3,h4⟩,h5⟩:=zJ4 h
  exact ⟨by simp [zlR,h1],zEl h2 _ _ hu,by simp only [zlR];omega,by simp [zlR]⟩
theorem ziA {x:Int} {l:List Int}:inB (x :: l)↔(0≤x∧x < 256)∧inB l:=by
  constructor
  · intro h
    exact ⟨h 0 (by simp),fun i hi=>h (i+1) (by simpa using hi)⟩
  · intro ⟨h1,h2⟩ i hi
    cases i with
    | zero=>exact h1
    | succ i=>exact h2 i (by simpa using hi)
theorem zhr:∀ {l:List Int} {s:Sp},s.ok→inB l→(zbH s l).ok
  | [],s,h,_=>h
  | u :: l,s,h,hl=>zhr (l:=l) (zG5 h u (ziA.1 hl).1) (ziA.1 hl).2
theorem zG8 {s:Sp} (h:s.ok):(zw9 s).ok:=by
  obtain ⟨⟨h1,h2,h3,h4⟩,h5⟩:=zEj h
  exact ⟨h1,h2,h3,by simp only [zw9];omega⟩
theorem zmc {s:Sp} (h:s.ok):∀ n,(zdl s n).ok
  | 0=>h
  | n+1=>zG8 (zmc h n)
theorem zrd (n : Nat) : inB (tab n fun _ => 0) := fun i hi => by
  rw [zk3 (by simpa using hi)];omega
theorem zG9 {l m:List Int} {off:Nat} (h:off+m.length≤l.length) (j:Nat) (hj:j < l.length):gd (putAt l off m) 0 j=if off≤j∧j < off+m.length then gd m 0 (j - off) else gd l 0 j:=by
  unfold putAt
  by_cases h1:j < off
  · rw [zCv _ _ _ _ (by simp;omega),zC5 h1,if_neg (by omega)]
  · rw [zDP _ _ _ _ (by simp; omega), List.length_take, Nat.min_eq_left (by omega)]
    by_cases h2:j < off+m.length
    · rw [zCv _ _ _ _ (by omega),if_pos (by omega)]
    · rw [zDP _ _ _ _ (by omega), if_neg (by omega)]
      unfold gd;simp only [List.getD,List.getElem?_drop]
      congr 2;omega
theorem zxf {l m : List Int} {off : Nat} (h : off + m.length ≤ l.length) (hl : inB l) (hm : inB m) : inB (putAt l off m) := fun j hj => by
  rw [zsy _ _ _ h] at hj
  rw [zG9 h j hj]
  split
  · exact hm _ (by omega)
  · exact hl j hj
theorem zJ5 {s:Sp} (h:s.ok):(zEK s).ok:=
  ⟨by simp only [zEK];rw [zsy _ _ _ (by simp)];simp,zxf (by simp) (zzG _) (zrd 136),by simp [zEK],by simp [zEK]⟩
theorem zxg (s:Sp) (l m:List Int):zbH s (l++m)=zbH (zbH s l) m:=by simp [zbH]
theorem zA6 (s:Sp) (l:List Int) (k:Nat) (h:k < l.length):zbH s (l.take (k+1))=zlR (zbH s (l.take k)) (gd l 0 k):=by
  rw [zls 0 h,zxg];rfl
theorem zxi (s:Sp) (m:Nat):∀ n,zdl s (m+n)=zdl (zdl s m) n
  | 0=>rfl
  | n+1=>by rw [← Nat.add_assoc,zdl,zdl,zxi s m n]
theorem zo8 (s:Sp) (n:Nat):(zjy s n).length=n:=by simp [zjy]
theorem zHf (s:Sp) (m n:Nat):zjy s (m+n)=zjy s m++zjy (zdl s m) n:=by
  refine List.ext_getElem? fun j=>?_
  simp only [zjy]
  rw [zis]
  by_cases h1:j < m
  · rw [List.getElem?_append_left (by simpa using h1),zis,if_pos h1,if_pos (by omega)]
  · rw [List.getElem?_append_right (by simp; omega), zis, zx5]
    by_cases h2:j - m < n
    · rw [if_pos h2,if_pos (by omega),← zxi,show m+(j - m)=j by omega]
    · rw [if_neg h2,if_neg (by omega)]
theorem zEu (s:Sp) (n:Nat):zjy s (n+1)=zjy s n++[zKR (zdl s n)]:=by rw [zHf];rfl
theorem zEv {s:Sp} (h:s.a≤136) (u:Int):136*(zlR s u).c+(zlR s u).a=136*s.c+s.a+1∧1≤(zlR s u).a∧(zlR s u).a≤136∧s.c≤(zlR s u).c:=by
  unfold zlR zEJ
  split
  · simp only [zo4];omega
  · simp only [];omega
theorem zxl:∀ {l:List Int} {s:Sp},s.a≤136→136*(zbH s l).c+(zbH s l).a=136*s.c+s.a+l.length∧(zbH s l).a≤136∧s.c≤(zbH s l).c∧(l≠[]→1≤(zbH s l).a)
  | [],s,h=>by simp [zbH,h]
  | u :: l, s, h => by
    obtain ⟨h1,h2,h3,h4⟩:=zEv h u
    obtain ⟨g1,g2,g3,g4⟩:=zxl (l:=l) h3
    have e:zbH s (u :: l)=zbH (zlR s u) l:=rfl
    rw [e]
    refine ⟨by simp only [List.length_cons];omega,g2,by omega,fun _=>?_⟩
    by_cases hl:l=[]
    · subst hl;exact h2
    · exact g4 hl
def zyF (l:List Int):Sp:=⟨putAt (tab 200 fun _=>0) 136 l,0,136,0⟩
theorem zJ8 {l:List Int} (h:l.length≤64) (hl:inB l):(zyF l).ok:=
  ⟨by simp only [zyF];rw [zsy _ _ _ (by simp;omega)];simp,zxf (by simp;omega) (zrd 200) hl,by simp [zyF],by simp [zyF]⟩
end Go.Av
