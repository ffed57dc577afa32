/- The guard; the permutation of bytes and the digest give what plain functions of lists give. -/
import Derived.Test.YtafkceblllhheaaGreatDoorC1
import Derived.Test.YtafkceblllhheaaGreatDoorC2
import Derived.KernelRfl
set_option linter.unusedSimpArgs false
set_option linter.unusedVariables false
set_option maxHeartbeats 2000000
set_option maxRecDepth 20000
namespace Go.Av
structure Gd where
  l:List It
  k:Nat
  e:Int
def erV (e:Int):zaa:=if e=0 then .nilp else .vptr [.int .i64 e] 0
def guC (g:Gd):List zaa:=[.vsl false (g.l.map It.cells),.int .i64 g.k,erV g.e]
def zcg (g:Gd) (e:Int):Gd:=if g.e=0 then {g with e:=e} else g
theorem zB8 {α:Type} {bs:List α} {b:Nat} {cs:α} (hb:bs[b]?=some cs):bs.set b cs=bs:=by
  refine List.ext_getElem? fun j=>?_
  by_cases e:b=j
  · subst e;rw [List.getElem?_set_self (List.getElem?_eq_some_iff.1 hb).1,hb]
  · rw [List.getElem?_set_ne e]
@[simp] theorem zPn (L:Lim) (h:zab) (p:zaa) (cs:List zaa) (o:Nat):stK L h 1 p (.vptr cs o)=stM (zcF L h p [.vptr cs o]):=by simp [stK,zaa.cells,zaa.okV]
theorem byR (s:ByteArray):(s==s)=true:=(Go.MapKept.bytes_beq s s).2 rfl
theorem zrn (L:Lim) (h:zab) (bs:List (List zaa)) (ts:List Nat) (i:Nat) (g:Gd) (e:Int) (hb:bs[i]?=some (guC g)) (hL:L.rob≤h.blks.length):
    zae ctx L za9 [pA h.blks.length i 0,.int .i64 e] (hx h bs ts)=some (.int .i64 (zcg g e).e,hx h (bs.set i (guC (zcg g e))) ts):=by
  rw [zlP]
  have hi:=(List.getElem?_eq_some_iff.1 hb).1
  have hgs:∀ x:List zaa,(bs.set i x)[i]?=some x:=fun x=>List.getElem?_set_self hi
  have htr:=fun cs=>zhI h bs ts i cs
  have htr0:zdw (hx h bs ts) (h.blks.length+bs.length) (h.toks.length+ts.length)=hx h bs ts:=by
    have:=htr (guC g);rwa [zB8 hb] at this
  obtain ⟨l,k,w⟩:=g
  by_cases hw:w=0
  · subst hw
    have hv:erV 0=.nilp:=rfl
    by_cases he:e=0
    · subst he
      have hf:zcg ⟨l,k,0⟩ 0=⟨l,k,0⟩:=rfl
      rw [hf,zB8 hb]
      simp only [guC,hv] at*
      simp -implicitDefEqProofs [zcz,zal,zaj,hb,zaf,eqA,htr0]
    · have hf:zcg ⟨l,k,0⟩ e=⟨l,k,e⟩:=rfl
      have hv2:erV e=.vptr [.int .i64 e] 0:=if_neg he
      have hne:(e !=0)=true:=bne_iff_ne.2 he
      rw [hf]
      simp only [guC,hv,hv2] at*
      simp -implicitDefEqProofs [zcz,zal,zaj,hb,hgs,zaf,eqA,hne,zaE,setAt,zpP,zaa.okV,zaa.cells,zao,hL,zas,zaa.under,htr]
  · have hf:zcg ⟨l,k,w⟩ e=⟨l,k,w⟩:=if_neg hw
    have hv2:erV w=.vptr [.int .i64 w] 0:=if_neg hw
    rw [hf,zB8 hb]
    simp only [guC,hv2] at*
    simp -implicitDefEqProofs [zcz,zal,zaj,hb,hgs,zaf,eqA,htr0]
theorem zvN (L:Lim) (h:zab) (bs:List (List zaa)) (ts:List Nat) (i:Nat) (g:Gd) (so:Bool) (e:Int) (hb:bs[i]?=some (guC g)) (hL:L.rob≤h.blks.length):
    zae ctx L zbM [pA h.blks.length i 0,.bool so,.int .i64 e] (hx h bs ts)=some (.int .i64 (zcg g (if so then 0 else e)).e,hx h (bs.set i (guC (zcg g (if so then 0 else e)))) ts):=by
  rw [zjF]
  have hF:=fun L hL e=>zrn L h bs ts i g e hb hL
  have htr:=fun cs=>zhI h bs ts i cs
  cases so <;> simp -implicitDefEqProofs [zer,zal,zaj,hF,hL,htr]
theorem zEB (L:Lim) (h:zab) (x y:It):zae ctx L zj2 [.agg x.cells,.agg y.cells] h=some (.bool (x.kind==y.kind&&(x.typ==y.typ&&x.count==y.count)),h):=by
  rw [zs1]
  have hf:∀ x:It,fzA h (.agg x.cells)=some (.agg x.cells,false):=fun x=>by simp [fzA,zda,zaa.flat,It.cells]
  obtain ⟨a,b,c,l⟩:=x
  obtain ⟨a',b',c',l'⟩:=y
  simp only [It.cells] at hf ⊢
  have hf1:=hf ⟨a,b,c,l⟩
  have hf2:=hf ⟨a',b',c',l'⟩
  simp only at hf1 hf2
  simp -implicitDefEqProofs [znb,zav,hf1,hf2,zdV,setAt,zao,zag,zbp,zse,byR]
def zvO (x y:It):Bool:=x.kind==y.kind&&(x.typ==y.typ&&x.count==y.count)
def zdx (g:Gd) (k t c:Int):Bool:=decide (g.k < g.l.length)&&zvO (gd g.l ⟨0,0,0,⟨#[]⟩⟩ g.k) ⟨k,t,c,⟨#[]⟩⟩
def zbt (g:Gd) (k t c:Int):Gd:=if (zcg g (if zdx g k t c then 0 else 10)).e=0 then {zcg g (if zdx g k t c then 0 else 10) with k:=g.k+1} else zcg g (if zdx g k t c then 0 else 10)
theorem zmZ (g:Gd) (e:Int):(zcg g e).l=g.l∧(zcg g e).k=g.k:=by unfold zcg;split <;> exact ⟨rfl,rfl⟩
theorem zxz (g:Gd) (k t c:Int):(zbt g k t c).l=g.l:=by
  unfold zbt
  have:=zmZ g (if zdx g k t c then 0 else 10)
  generalize zcg g (if zdx g k t c then 0 else 10)=f at*
  split <;> exact this.1
theorem zxA (g:Gd) (k t c:Int):(zbt g k t c).e=(zcg g (if zdx g k t c then 0 else 10)).e:=by
  unfold zbt
  generalize zcg g (if zdx g k t c then 0 else 10)=f
  split <;> rfl
theorem zz4 (kd:IntKind) (c:Bool) (l:List It) (i:Nat) (h:i < l.length):zc1 none 4 (.vsl c (l.map It.cells)) (.int kd (i:Int))=some (.vptr (gd l ⟨0,0,0,⟨#[]⟩⟩ i).cells 0):=by
  simp [zc1,asI,gd,List.getD,h]
theorem zHE (L:Lim) (h:zab) (bs:List (List zaa)) (ts:List Nat) (i:Nat) (g:Gd) (k t c:Int) (hk:g.k < 1000000000) (hb:bs[i]?=some (guC g)) (hL:L.rob≤h.blks.length):
    zae ctx L zdq [pA h.blks.length i 0,.int .i64 k,.int .i64 t,.int .i64 c] (hx h bs ts)=some (.int .i64 (zbt g k t c).e,hx h (bs.set i (guC (zbt g k t c))) ts):=by
  rw [zlb]
  have hi:=(List.getElem?_eq_some_iff.1 hb).1
  have hz:([.int .i64 k,.int .i64 t,.int .i64 c,.str ⟨#[]⟩]:List zaa)=(⟨k,t,c,⟨#[]⟩⟩:It).cells:=rfl
  obtain ⟨y,hy⟩:∃ y:It,y=⟨k,t,c,⟨#[]⟩⟩:=⟨_,rfl⟩
  have hne:=zxA g k t c
  have hle:=zmZ g (if zdx g k t c then 0 else 10)
  have hS:=fun L h=>zEB L h (gd g.l ⟨0,0,0,⟨#[]⟩⟩ g.k) y
  have hsm:((gd g.l ⟨0,0,0,⟨#[]⟩⟩ g.k).kind==y.kind&&((gd g.l ⟨0,0,0,⟨#[]⟩⟩ g.k).typ==y.typ&&(gd g.l ⟨0,0,0,⟨#[]⟩⟩ g.k).count==y.count))=zvO (gd g.l ⟨0,0,0,⟨#[]⟩⟩ g.k) ⟨k,t,c,⟨#[]⟩⟩:=by rw [hy];rfl
  rw [hsm] at hS
  have hb2:∀ x:List zaa,(bs++[x])[i]?=some (guC g):=fun x=>by rw [List.getElem?_append_left hi];exact hb
  have hU:=fun L hL x so=>zvN L h (bs++[x]) ts i g so 10 (hb2 x) hL
  simp only [List.set_append_left _ _ hi] at hU
  have hg0:=fun x=>zc6 bs [x] bs.length 0 rfl
  have hs0:=fun x v=>zeJ bs [x] bs.length 0 v rfl
  simp only [Nat.add_zero,List.getElem?_cons_zero,List.set_cons_zero] at hg0 hs0
  have w1:IntKind.i64.wrap ((g.k:Int)+1)=((g.k+1:Nat):Int):=(wrap_i64 (by omega) (by omega)).trans (by omega)
  have hcl:y.cells.length=4:=rfl
  have hyc:[zaa.int .i64 k,.int .i64 t,.int .i64 c,.str ⟨#[]⟩]=y.cells:=by rw [hy];rfl
  have huy:zas 0 0 y.cells=true:=by rw [hy];rfl
  have hgs:∀ (x z:List zaa),(bs.set i x++[z])[i]?=some x:=fun x z=>by rw [List.getElem?_append_left (by simpa using hi),List.getElem?_set_self hi]
  have hss:∀ (x z w:List zaa),(bs.set i x++[z]).set i w=bs.set i w++[z]:=fun x z w=>by rw [List.set_append_left _ _ (by simpa using hi),List.set_set]
  have htr:=fun cs js=>zoh h (bs.set i cs) js ts bs.length (by simp)
  by_cases hlt:g.k < g.l.length
  · have hltI : (g.k : Int) < (g.l.length : Int) := by omega
    have ia:=zz4 .i64 false g.l g.k hlt
    have hso:zdx g k t c=zvO (gd g.l ⟨0,0,0,⟨#[]⟩⟩ g.k) ⟨k,t,c,⟨#[]⟩⟩:=by unfold zdx;rw [decide_eq_true hlt];rfl
    have hdef:zbt g k t c=if (zcg g (if zdx g k t c then 0 else 10)).e=0 then {zcg g (if zdx g k t c then 0 else 10) with k:=g.k+1} else zcg g (if zdx g k t c then 0 else 10):=rfl
    rw [hso] at hdef hne hle
    generalize zvO (gd g.l ⟨0,0,0,⟨#[]⟩⟩ g.k) ⟨k,t,c,⟨#[]⟩⟩=so at*
    have hcx:(gd g.l ⟨0,0,0,⟨#[]⟩⟩ g.k).cells.length=4:=rfl
    generalize (gd g.l ⟨0,0,0,⟨#[]⟩⟩ g.k).cells=xc at*
    have hUs:=fun L hL x=>hU L hL x so
    generalize zcg g (if so=true then 0 else 10)=f at*
    clear hU
    generalize y.cells=yc at*
    by_cases hf:f.e=0
    · have hbe : (f.e == 0) = true := by rw [hf]; rfl
      rw [if_pos hf] at hdef
      rw [hdef]
      obtain ⟨fl,fk,fe⟩:=f
      obtain ⟨l,k0,e0⟩:=g
      simp only at*
      obtain ⟨rfl,rfl⟩:=hle
      subst hf
      simp only [guC] at*
      generalize fk+1=k1 at*
      simp -implicitDefEqProofs [zcB,zal,zaj,hyc,zaE,setAt,hb,hb2,zaf,hltI,ia,zag,hcx,hcl,hg0,hs0,zbV,zai,zao,hL,huy,hS,hUs,hgs,hss,w1,htr]
    · have hbe:(f.e==0)=false:=beq_false_of_ne hf
      rw [if_neg hf] at hdef
      rw [hdef]
      simp only [guC] at hb hb2
      simp -implicitDefEqProofs [zcB,zal,zaj,hyc,zaE,setAt,hb,hb2,zaf,hltI,ia,zag,hcx,hcl,hg0,hs0,zbV,zai,zao,hL,huy,hS,hUs,hgs,hss,w1,htr,hbe]
  · have hltI : ¬ (g.k : Int) < (g.l.length : Int) := by omega
    have hso:zdx g k t c=false:=by unfold zdx;rw [decide_eq_false hlt];rfl
    have hdef:zbt g k t c=zcg g 10:=by
      unfold zbt
      rw [hso]
      simp only [Bool.false_eq_true,if_false]
      rw [if_neg]
      unfold zcg
      split
      · show ¬(10:Int)=0;decide
      · assumption
    have hUs:=fun L hL x=>hU L hL x false
    simp only [Bool.false_eq_true,if_false] at hUs
    have hf:¬(zcg g 10).e=0:=by
      unfold zcg
      split
      · show ¬(10:Int)=0;decide
      · assumption
    have hbe:((zcg g 10).e==0)=false:=beq_false_of_ne hf
    rw [hdef]
    generalize zcg g 10=f at*
    generalize y.cells=yc at*
    simp only [guC] at hb hb2
    simp -implicitDefEqProofs [zcB,zal,zaj,hyc,zaE,setAt,hb,hb2,zaf,hltI,zag,hcl,hg0,hs0,zbV,zai,zao,hL,huy,hUs,hgs,hss,htr,hbe]
def zvA (g:Gd):Gd:=zcg g (if g.k=g.l.length then 0 else 12)
theorem zz6 (L:Lim) (h:zab) (bs:List (List zaa)) (ts:List Nat) (i:Nat) (g:Gd) (hb:bs[i]?=some (guC g)) (hL:L.rob≤h.blks.length):
    zae ctx L zcK [pA h.blks.length i 0] (hx h bs ts)=some (.int .i64 (zvA g).e,hx h (bs.set i (guC (zvA g))) ts):=by
  rw [zkc]
  have hU:=fun L hL so=>zvN L h bs ts i g so 12 hb hL
  have htr:=fun cs=>zhI h bs ts i cs
  by_cases he:g.k=g.l.length
  · have hbe : ((g.k : Int) == (g.l.length : Int)) = true := by rw [he]; simp
    have hd:zvA g=zcg g 0:=by unfold zvA;rw [if_pos he]
    rw [hd]
    have hUs:=fun L hL=>hU L hL true
    simp only [if_true] at hUs
    generalize zcg g 0=f at*
    simp only [guC] at hb
    simp -implicitDefEqProofs [zcL,zal,zaj,hb,zaf,hbe,hUs,hL,htr]
  · have hbe : ((g.k : Int) == (g.l.length : Int)) = false := beq_false_of_ne (by omega)
    have hd:zvA g=zcg g 12:=by unfold zvA;rw [if_neg he]
    rw [hd]
    have hUs:=fun L hL=>hU L hL false
    simp only [Bool.false_eq_true,if_false] at hUs
    generalize zcg g 12=f at*
    simp only [guC] at hb
    simp -implicitDefEqProofs [zcL,zal,zaj,hb,zaf,hbe,hUs,hL,htr]
end Go.Av
namespace Go.Av
def rotl (x:W64) (n:Nat):W64:=(x <<< (n % 64))|||(x >>> (64 - n % 64))
theorem zGQ (L:Lim) (h:zab) (x:W64) (n:Nat) (hn:n < 9223372036854775808):zae ctx L zbf [wd x,.int .i64 n] h=some (wd (rotl x n),h):=by
  rw [zh3]
  have e1:IntKind.u64.wrap (n:Int)=n:=zxR n (by omega)
  have e2:zd1 .and (.int .u64 (n:Int)) (.int .u64 63)=some (.int .u64 ((n % 64:Nat):Int)):=by
    rw [zk4]
    show some (zaa.int .u64 (IntKind.u64.wrap ((BitVec.ofInt 64 (n:Int)&&&BitVec.ofInt 64 (63:Int):BitVec 64).toNat:Int)))=_
    have:(BitVec.ofInt 64 (n:Int)&&&BitVec.ofInt 64 (63:Int):BitVec 64).toNat=n % 64:=by
      rw [BitVec.toNat_and]
      have h1:(BitVec.ofInt 64 (n:Int)).toNat=n:=by rw [BitVec.toNat_ofInt];omega
      have h2:(BitVec.ofInt 64 (63:Int)).toNat=2 ^ 6 - 1:=by decide
      rw [h1,h2,Nat.and_two_pow_sub_one_eq_mod]
    rw [this,zxR _ (by omega)]
  have e3:zd1 .sub (.int .u64 64) (.int .u64 ((n % 64:Nat):Int))=some (.int .u64 ((64 - n % 64:Nat):Int)):=by
    rw [zys]
    have:(64:Int) - ((n % 64:Nat):Int)=((64 - n % 64:Nat):Int):=by omega
    rw [this,zxR _ (by omega)]
  generalize hm:n % 64=m at e2 e3
  have hm64:m≤64:=by omega
  generalize hk:64 - m=k at e3
  have hk64:k≤64:=by omega
  simp [zcU,e1,e2,e3,zwc,zmP,hm64,hk64, -zk4, -zys, -zk5, -zdv]
  simp [rotl,hm,hk]
def zz7 (l:List W64) (x:Nat):W64:=gd l 0#64 x ^^^ gd l 0#64 (x+5) ^^^ gd l 0#64 (x+10) ^^^ gd l 0#64 (x+15) ^^^ gd l 0#64 (x+20)
def zEe (l:List W64) (k x:Nat):W64:=(List.range k).foldl (fun c i=>if i % 5=x then c ^^^ gd l 0#64 i else c) 0
theorem zBx (l:List W64) (k x:Nat):zEe l (k+1) x=if k % 5=x then zEe l k x ^^^ gd l 0#64 k else zEe l k x:=by
  simp [zEe,List.range_succ]
theorem zEH (l:List W64) (x:Nat) (hx:x < 5):zEe l 25 x=zz7 l x:=by
  unfold zEe zz7
  have:x=0∨x=1∨x=2∨x=3∨x=4:=by omega
  rcases this with rfl | rfl | rfl | rfl | rfl <;> simp [show List.range 25=[0,1,2,3,4,5,6,7,8,9,10,11,12,13,14,15,16,17,18,19,20,21,22,23,24] from by decide]
def zrq (l:List W64) (i:Nat):W64:=gd l 0#64 i ^^^ (zz7 l ((i % 5+4) % 5) ^^^ rotl (zz7 l ((i % 5+1) % 5)) 1)
def zp2 (l:List W64):List W64:=tab 25 (zrq l)
theorem zvS (k:Nat):(k:Int).tmod 5=((k % 5:Nat):Int):=by rw [Int.tmod_eq_emod_of_nonneg (by omega)];omega
theorem zxD {fr:Fr} {h:zab} {R:Option (AEx × Fr × zab)} (s:List W64) (hs:s.length=25) (b z:List zaa)
    (hF:run ctx (zav h) (.loop zaD) fr (hx h [b,z,cW (tab 5 fun _=>0#64)] [])=R)
    (h8:fr 8=.agg (cW s)) (h9:fr 9=.int .i64 0) (h3:fr 3=pA h.blks.length 2 0):
    ∃ fr',R=some (.exit 0,fr',hx h [b,z,cW (tab 5 (zz7 s))] [])∧∀ t,t∉wr zaD→fr' t=fr t:=by
  obtain ⟨e,fr',h',rfl,⟨rfl,rfl⟩,hk⟩:=zan hF 25
    (fun k fr hh=>fr 9=.int .i64 k∧hh=hx h [b,z,cW (tab 5 (zEe s k))] [])
    (fun e fr hh=>e=.exit 0∧hh=hx h [b,z,cW (tab 5 (zz7 s))] [])
    ⟨h9,rfl⟩ (by
      rintro k fr1 hh hkN hkeep ⟨g9,rfl⟩
      have g8:=(hkeep 8 (by decide)).trans h8
      have g3:=(hkeep 3 (by decide)).trans h3
      by_cases hlt:k < 25
      · have w2 : IntKind.i64.wrap ((k : Int) + 1) = k + 1 := wrap_i64 (by omega) (by omega)
        have e5:=zvS k
        have hset:(tab 5 (zEe s k)).set (k % 5) (zEe s k (k % 5) ^^^ gd s 0#64 k)=tab 5 (zEe s (k+1)):=by
          rw [zvc]
          refine zfv fun j hj=>?_
          rw [zBx]
          by_cases hj:j=k % 5
          · subst hj;simp
          · simp [hj,Ne.symm hj]
        generalize hm:k % 5=m at e5 hset
        have hm5:m < 5:=by omega
        simp [zaD,zav,g9,g8,g3,hlt,show (k:Int) < 25 by omega,w2,zx1,zKQ,hs,ziA,e5,zfZ,hm5,show m≤4 by omega,zlw,hset]
      · have : k = 25 := by omega
        subst this
        simp [zaD,g9,g8,g3]
        exact congrArg (fun c=>hx h [b,z,c] []) (congrArg cW (zfv fun j hj=>zEH s j hj)))
  exact ⟨fr',rfl,hk⟩
theorem zxE {fr:Fr} {h:zab} {R:Option (AEx × Fr × zab)} (s:List W64) (hs:s.length=25) (z:List zaa)
    (hF:run ctx (zav h) (.loop zbh) fr (hx h [cW s,z,cW (tab 5 (zz7 s))] [])=R)
    (h1:fr 1=pA h.blks.length 0 0) (h3:fr 3=pA h.blks.length 2 0) (h21:fr 21=.int .i64 0):
    ∃ fr',R=some (.exit 2,fr',hx h [cW (zp2 s),z,cW (tab 5 (zz7 s))] [])∧∀ t,t∉wr zbh→fr' t=fr t:=by
  obtain ⟨e,fr',h',rfl,⟨rfl,rfl⟩,hk⟩:=zan hF 25
    (fun k fr hh=>fr 21=.int .i64 k∧hh=hx h [cW (tab 25 fun j=>if j < k then zrq s j else gd s 0#64 j),z,cW (tab 5 (zz7 s))] [])
    (fun e fr hh=>e=.exit 2∧hh=hx h [cW (zp2 s),z,cW (tab 5 (zz7 s))] [])
    ⟨h21, by simp [← zDh 0#64 hs]⟩ (by
      rintro k fr1 hh hkN hkeep ⟨g21,rfl⟩
      have g1:=(hkeep 1 (by decide)).trans h1
      have g3:=(hkeep 3 (by decide)).trans h3
      by_cases hlt:k < 25
      · have w2 : IntKind.i64.wrap ((k : Int) + 1) = k + 1 := wrap_i64 (by omega) (by omega)
        have e5:=zvS k
        have hset : (tab 25 fun j => if j < k then zrq s j else gd s 0#64 j).set k (zrq s k) = tab 25 fun j => if j < k + 1 then zrq s j else gd s 0#64 j := by
          rw [zvc]
          refine zfv fun j hj=>?_
          by_cases h1:j=k
          · subst h1;simp
          · by_cases h2:j < k
            · simp [h1,h2,show j < k+1 by omega]
            · simp [h1,h2,show ¬j < k+1 by omega]
        have hth:zrq s k=gd s 0#64 k ^^^ (zz7 s ((k % 5+4) % 5) ^^^ rotl (zz7 s ((k % 5+1) % 5)) 1):=rfl
        have hold:(fun j=>if j < k then zrq s j else gd s 0#64 j) k=gd s 0#64 k:=by simp
        have w4:IntKind.i64.wrap (((k % 5:Nat):Int)+4)=((k % 5+4:Nat):Int):=(wrap_i64 (by omega) (by omega)).trans (by omega)
        have w1:IntKind.i64.wrap (((k % 5:Nat):Int)+1)=((k % 5+1:Nat):Int):=(wrap_i64 (by omega) (by omega)).trans (by omega)
        have t4:=zvS (k % 5+4)
        have t1:=zvS (k % 5+1)
        generalize hga:(k % 5+4) % 5=a at t4 hth
        generalize hgb:(k % 5+1) % 5=b at t1 hth
        generalize hm:k % 5=m at e5 w4 w1 t4 t1
        rw [hth] at hset
        have ha5:a < 5:=by omega
        have hb5:b < 5:=by omega
        simp only [Int.natCast_add,Int.cast_ofNat_Int] at w4 w1 t4 t1
        have hrot:=fun L h x=>zGQ L h x 1 (by decide)
        simp only [Int.natCast_one] at hrot
        simp [zbh,zav,g21,g1,g3,hlt,show (k:Int) < 25 by omega,w2,ziA,e5,w4,w1,t4,t1,zfZ,ha5,hb5,zlw,hset,hrot,show k≤24 by omega]
      · have : k = 25 := by omega
        subst this
        simp [zbh,g21]
        exact congrArg (fun c=>hx h [c,z,cW (tab 5 (zz7 s))] []) (congrArg cW (zfv fun j hj=>by simp [hj])))
  exact ⟨fr',rfl,hk⟩
theorem zEI (L:Lim) (h:zab) (s:List W64) (hs:s.length=25):zae ctx L zcI [.agg (cW s)] h=some (.agg (cW (zp2 s)),h):=by
  rw [zj4]
  simp [zep,zav,zbj,zdV,zaa.okV,zaa.cells,zag,hs]
  generalize hF:run ctx _ (.loop _) _ _=R
  obtain ⟨fr1,rfl,hk1⟩:=zxD s hs _ _ hF (by simp) (by simp) (by simp)
  simp [hk1,wr,zaD,zgK]
  generalize hF:run ctx _ (.loop _) _ _=R
  obtain ⟨fr2,rfl,hk2⟩:=zxE s hs _ hF (by simp [hk1,wr,zaD,zgK]) (by simp [hk1,wr,zaD,zgK]) (by simp)
  simp [hk1,hk2,wr,zaD,zbh,zgK,zag,zp2,zbV,zai]
end Go.Av
namespace Go.Av
def pxy:Nat→Nat × Nat
  | 0=>(1,0)
  | t+1=>((pxy t).2,(2*(pxy t).1+3*(pxy t).2) % 5)
theorem zGV:∀ t,(pxy t).1 < 5∧(pxy t).2 < 5
  | 0=>by simp [pxy]
  | t + 1 => by
    have:=zGV t
    simp only [pxy]
    omega
def zmM (l:List W64):Nat→List W64
  | 0=>tab 25 fun j=>if j=0 then gd l 0#64 0 else 0#64
  | t+1=>(zmM l t).set ((pxy t).2+5*((2*(pxy t).1+3*(pxy t).2) % 5)) (rotl (gd l 0#64 ((pxy t).1+5*(pxy t).2)) ((t+1)*(t+2) / 2))
@[simp] theorem zAc (l:List W64):∀ t,(zmM l t).length=25
  | 0=>by simp [zmM]
  | t+1=>by simp [zmM,zAc l t]
def zn4 (l:List W64):List W64:=zmM l 24
theorem zAe {fr:Fr} {h:zab} {R:Option (AEx × Fr × zab)} (s:List W64) (hs:s.length=25) (z:List zaa)
    (hF:run ctx (zav h) (.loop zbi) fr (hx h [z,cW (zmM s 0)] [])=R)
    (h1:fr 1=.vptr (cW s) 0) (h3:fr 3=pA h.blks.length 1 0) (h4:fr 4=.int .i64 1) (h5:fr 5=.int .i64 0) (h11:fr 11=.int .i64 0):
    ∃ fr',R=some (.exit 0,fr',hx h [z,cW (zn4 s)] [])∧∀ t,t∉wr zbi→fr' t=fr t:=by
  obtain ⟨e,fr',h',rfl,⟨rfl,rfl⟩,hk⟩:=zan hF 24
    (fun k fr hh=>fr 11=.int .i64 k∧fr 4=.int .i64 ((pxy k).1:Nat)∧fr 5=.int .i64 ((pxy k).2:Nat)∧hh=hx h [z,cW (zmM s k)] [])
    (fun e fr hh=>e=.exit 0∧hh=hx h [z,cW (zn4 s)] [])
    ⟨h11,h4,h5,rfl⟩ (by
      rintro k fr1 hh hkN hkeep ⟨g11,g4,g5,rfl⟩
      have g1:=(hkeep 1 (by decide)).trans h1
      have g3:=(hkeep 3 (by decide)).trans h3
      by_cases hlt:k < 24
      · obtain ⟨hx5,hy5⟩:=zGV k
        have hst:zmM s (k+1)=(zmM s k).set ((pxy k).2+5*((2*(pxy k).1+3*(pxy k).2) % 5)) (rotl (gd s 0#64 ((pxy k).1+5*(pxy k).2)) ((k+1)*(k+2) / 2)):=rfl
        have hp:pxy (k+1)=((pxy k).2,(2*(pxy k).1+3*(pxy k).2) % 5):=rfl
        generalize (pxy k).1=x at*
        generalize (pxy k).2=y at*
        have w1:IntKind.i64.wrap ((k:Int)+1)=k+1:=wrap_i64 (by omega) (by omega)
        have w2:IntKind.i64.wrap ((k:Int)+2)=k+2:=wrap_i64 (by omega) (by omega)
        have hmul:(k+1)*(k+2)≤600:=Nat.le_trans (Nat.mul_le_mul (show k+1≤24 by omega) (show k+2≤25 by omega)) (by decide)
        have w3:IntKind.i64.wrap (((k:Int)+1)*(k+2))=(((k+1)*(k+2):Nat):Int):=by
          rw [← zih ((k+1)*(k+2)) (by omega)];simp only [Int.natCast_mul,Int.natCast_add,Int.cast_ofNat_Int]
        have w4:=zOL ((k+1)*(k+2))
        have w5:=zih ((k+1)*(k+2) / 2) (by omega)
        have w6:IntKind.i64.wrap (2*(x:Int))=((2*x:Nat):Int):=by
          rw [← zih (2*x) (by omega)];simp only [Int.natCast_mul,Int.natCast_add,Int.cast_ofNat_Int]
        have w7:IntKind.i64.wrap (3*(y:Int))=((3*y:Nat):Int):=by
          rw [← zih (3*y) (by omega)];simp only [Int.natCast_mul,Int.natCast_add,Int.cast_ofNat_Int]
        have w8:IntKind.i64.wrap (((2*x:Nat):Int)+((3*y:Nat):Int))=((2*x+3*y:Nat):Int):=by
          rw [← zih (2*x+3*y) (by omega)];simp only [Int.natCast_mul,Int.natCast_add,Int.cast_ofNat_Int]
        have w9:=zvS (2*x+3*y)
        generalize hn:(2*x+3*y) % 5=n at*
        have hn5:n < 5:=by omega
        have w10:IntKind.i64.wrap (5*(n:Int))=((5*n:Nat):Int):=by
          rw [← zih (5*n) (by omega)];simp only [Int.natCast_mul,Int.natCast_add,Int.cast_ofNat_Int]
        have w11:IntKind.i64.wrap ((y:Int)+((5*n:Nat):Int))=((y+5*n:Nat):Int):=by
          rw [← zih (y+5*n) (by omega)];simp only [Int.natCast_mul,Int.natCast_add,Int.cast_ofNat_Int]
        have w12:IntKind.i64.wrap (5*(y:Int))=((5*y:Nat):Int):=by
          rw [← zih (5*y) (by omega)];simp only [Int.natCast_mul,Int.natCast_add,Int.cast_ofNat_Int]
        have w13:IntKind.i64.wrap ((x:Int)+((5*y:Nat):Int))=((x+5*y:Nat):Int):=by
          rw [← zih (x+5*y) (by omega)];simp only [Int.natCast_mul,Int.natCast_add,Int.cast_ofNat_Int]
        have hd25:y+5*n < 25:=by omega
        have hd24:y+5*n≤24:=by omega
        have hs25:x+5*y < 25:=by omega
        generalize hd:y+5*n=d at*
        generalize hsr:x+5*y=sr at*
        generalize hr:(k+1)*(k+2) / 2=r at*
        generalize (k+1)*(k+2)=kk at*
        generalize 2*x+3*y=xy at*
        generalize 5*n=n5 at*
        generalize 5*y=y5 at*
        generalize 2*x=x2 at*
        generalize 3*y=y3 at*
        have hrot:=fun L h v=>zGQ L h v r (by omega)
        simp [zbi,zav,g11,g1,g3,g4,g5,hlt,show (k:Int) < 24 by omega,w1,w2,w3,w4,w5,w6,w7,w8,w9,w10,w11,w12,w13,ziA,zk3,zfZ,zrL,hd25,hd24,hs25,hs,hrot,← hst,hp]
      · have : k = 24 := by omega
        subst this
        simp [zbi,g11,zn4])
  exact ⟨fr',rfl,hk⟩
theorem zER (L:Lim) (h:zab) (s:List W64) (hs:s.length=25):zae ctx L zcJ [.agg (cW s)] h=some (.agg (cW (zn4 s)),h):=by
  rw [zj5]
  have e0 : cW ((tab 25 fun _ => 0#64).set 0 (gd s 0#64 0)) = cW (zmM s 0) := by
    rw [zvc];exact congrArg cW (zfv fun j _=>rfl)
  simp [zeq,zav,zbj,zag,hs,zaE,zbV,zai,e0]
  generalize hF:run ctx _ (.loop _) _ _=R
  obtain ⟨fr1,rfl,hk1⟩:=zAe s hs _ hF (by simp) (by simp) (by simp) (by simp) (by simp)
  simp [hk1,wr,zbi,zgK,zag,zn4,zbV,zai]
def zJJ (l:List W64) (i:Nat):W64:=gd l 0#64 i ^^^ (gd l 0#64 (i - i % 5+(i+2) % 5)&&&~~~ gd l 0#64 (i - i % 5+(i+1) % 5))
def zES (l:List W64):List W64:=tab 25 (zJJ l)
theorem zET {fr:Fr} {h:zab} {R:Option (AEx × Fr × zab)} (s:List W64) (hs:s.length=25) (z:List zaa)
    (hF:run ctx (zav h) (.loop zbx) fr (hx h [z,cW s] [])=R)
    (h1:fr 1=.vptr (cW s) 0) (h3:fr 3=pA h.blks.length 1 0) (h7:fr 7=.int .i64 0):
    ∃ fr',R=some (.exit 0,fr',hx h [z,cW (zES s)] [])∧∀ t,t∉wr zbx→fr' t=fr t:=by
  obtain ⟨e,fr',h',rfl,⟨rfl,rfl⟩,hk⟩:=zan hF 25
    (fun k fr hh=>fr 7=.int .i64 k∧hh=hx h [z,cW (zBg 25 (zJJ s) (gd s 0#64) k)] [])
    (fun e fr hh=>e=.exit 0∧hh=hx h [z,cW (zES s)] [])
    ⟨h7, by simp [zDj, ← zDh 0#64 hs]⟩ (by
      rintro k fr1 hh hkN hkeep ⟨g7,rfl⟩
      have g1:=(hkeep 1 (by decide)).trans h1
      have g3:=(hkeep 3 (by decide)).trans h3
      by_cases hlt:k < 25
      · have hset:(zBg 25 (zJJ s) (gd s 0#64) k).set k (zJJ s k)=zBg 25 (zJJ s) (gd s 0#64) (k+1):=zFU ..
        have hk1:zJJ s k=gd s 0#64 k ^^^ (gd s 0#64 (k - k % 5+(k+2) % 5)&&&~~~ gd s 0#64 (k - k % 5+(k+1) % 5)):=rfl
        rw [hk1] at hset
        clear hk1
        have w0:=zvS k
        have w1:IntKind.i64.wrap ((k:Int) - ((k % 5:Nat):Int))=((k - k % 5:Nat):Int):=by
          rw [← zih (k - k % 5) (by omega)];congr 1;omega
        have w2:IntKind.i64.wrap ((k:Int)+1)=((k+1:Nat):Int):=wrap_i64 (by omega) (by omega)
        have w3:IntKind.i64.wrap ((k:Int)+2)=((k+2:Nat):Int):=wrap_i64 (by omega) (by omega)
        have w4:=zvS (k+1)
        have w5:=zvS (k+2)
        have w6:IntKind.i64.wrap (((k - k % 5:Nat):Int)+(((k+1) % 5:Nat):Int))=((k - k % 5+(k+1) % 5:Nat):Int):=by
          rw [← zih (k - k % 5+(k+1) % 5) (by omega),Int.natCast_add]
        have w7:IntKind.i64.wrap (((k - k % 5:Nat):Int)+(((k+2) % 5:Nat):Int))=((k - k % 5+(k+2) % 5:Nat):Int):=by
          rw [← zih (k - k % 5+(k+2) % 5) (by omega),Int.natCast_add]
        have ha:k - k % 5+(k+1) % 5 < 25:=by omega
        have hb:k - k % 5+(k+2) % 5 < 25:=by omega
        generalize k - k % 5+(k+1) % 5=a at*
        generalize k - k % 5+(k+2) % 5=b at*
        generalize (k+1) % 5=c at*
        generalize (k+2) % 5=d at*
        generalize k - k % 5=q at*
        generalize k % 5=r at*
        have w8:((k+1:Nat):Int)=(k:Int)+1:=rfl
        generalize hk1:k+1=k1 at*
        generalize k+2=k2 at*
        simp [zbx,zav,g7,g1,g3,hlt,show (k:Int) < 25 by omega,show k≤24 by omega,w0,w1,w2,w3,w4,w5,w6,w7,ziA,zfZ,zrL,ha,hb,zIT,hs,hset,hk1,show k1≤25 by omega]
        try omega
      · have : k = 25 := by omega
        subst this
        simp [zbx,g7,zFV,zES])
  exact ⟨fr',rfl,hk⟩
theorem zKJ (L:Lim) (h:zab) (s:List W64) (hs:s.length=25):zae ctx L zdo [.agg (cW s)] h=some (.agg (cW (zES s)),h):=by
  rw [zlx]
  simp [zfA,zav,zbj,zag,hs,zbV,zai]
  generalize hF:run ctx _ (.loop _) _ _=R
  obtain ⟨fr1,rfl,hk1⟩:=zET s hs _ hF (by simp) (by simp) (by simp)
  simp [hk1,wr,zbx,zgK,zag,zES,zbV,zai]
def rcW:List W64:=[1#64,32898#64,9223372036854808714#64,9223372039002292224#64,32907#64,2147483649#64,9223372039002292353#64,9223372036854808585#64,138#64,136#64,2147516425#64,2147483658#64,2147516555#64,9223372036854775947#64,9223372036854808713#64,9223372036854808579#64,9223372036854808578#64,9223372036854775936#64,32778#64,9223372039002259466#64,9223372039002292353#64,9223372036854808704#64,2147483649#64,9223372039002292232#64]
theorem zIq (fr:Fr):ctx.ev fr (.g 0)=.vptr (cW rcW) 0:=rfl
theorem zyd (L:Lim) (h:zab) (k:Nat) (hk:k < 24):zae ctx L zdT [.int .i64 k] h=some (wd (gd rcW 0#64 k),h):=by
  rw [zmA]
  have hl:rcW.length=24:=rfl
  simp [zga,show ¬(24:Int)≤k by omega,show ¬(k:Int) < 0 by omega,zIq,zrL,hk,hl]
def ztX (l:List W64) (k:Nat):List W64:=(zES (zn4 (zp2 l))).set 0 (gd (zES (zn4 (zp2 l))) 0#64 0 ^^^ gd rcW 0#64 k)
@[simp] theorem zJ0 (l:List W64):(zp2 l).length=25:=by simp [zp2]
@[simp] theorem zJ1 (l:List W64):(zn4 l).length=25:=by simp [zn4]
@[simp] theorem zM9 (l:List W64):(zES l).length=25:=by simp [zES]
@[simp] theorem zJ2 (l:List W64) (k:Nat):(ztX l k).length=25:=by simp [ztX]
theorem zCP (L:Lim) (h:zab) (s:List W64) (hs:s.length=25) (k:Nat) (hk:k < 24):zae ctx L zcH [.agg (cW s),.int .i64 k] h=some (.agg (cW (ztX s k)),h):=by
  rw [zjP]
  simp [zem,zav,zbj,zdV,zaa.okV,zaa.cells,zag,hs,zbV,zai,zEI,zER,zKJ,zyd,hk,ztX]
def zye (l:List W64) (k:Nat):List W64:=(List.range k).foldl ztX l
theorem ztZ (l:List W64) (k:Nat):zye l (k+1)=ztX (zye l k) k:=by simp [zye,List.range_succ]
theorem zwy (l:List W64) (hl:l.length=25):∀ k,(zye l k).length=25
  | 0=>by simpa [zye] using hl
  | k+1=>by rw [ztZ];simp
def zoB (l:List W64):List W64:=zye l 24
theorem zwz {fr:Fr} {h:zab} {R:Option (AEx × Fr × zab)} (s:List W64) (hs:s.length=25) (z:List zaa)
    (hF:run ctx (zav h) (.loop za1) fr (hx h [cW s,z] [])=R)
    (h1:fr 1=pA h.blks.length 0 0) (h4:fr 4=.int .i64 0):
    ∃ fr',R=some (.exit 0,fr',hx h [cW (zoB s),z] [])∧∀ t,t∉wr za1→fr' t=fr t:=by
  obtain ⟨e,fr',h',rfl,⟨rfl,rfl⟩,hk⟩:=zan hF 24
    (fun k fr hh=>fr 4=.int .i64 k∧hh=hx h [cW (zye s k),z] [])
    (fun e fr hh=>e=.exit 0∧hh=hx h [cW (zoB s),z] [])
    ⟨h4,rfl⟩ (by
      rintro k fr1 hh hkN hkeep ⟨g4,rfl⟩
      have g1:=(hkeep 1 (by decide)).trans h1
      by_cases hlt:k < 24
      · have w1 : IntKind.i64.wrap ((k : Int) + 1) = k + 1 := wrap_i64 (by omega) (by omega)
        have hl:=zwy s hs k
        simp [za1,zav,g4,g1,hlt,show (k:Int) < 24 by omega,w1,zag,hl,zbV,zai,zCP,ztZ]
      · have : k = 24 := by omega
        subst this
        simp [za1,g4,zoB])
  exact ⟨fr',rfl,hk⟩
theorem zex (l:List W64) (hl:l.length=25):(zoB l).length=25:=zwy l hl 24
theorem zpD (L:Lim) (h:zab) (s:List W64) (hs:s.length=25):zae ctx L zba [.agg (cW s)] h=some (.agg (cW (zoB s)),h):=by
  rw [ziH]
  simp [zdm,zav,zbj,zdV,zaa.okV,zaa.cells,zag,hs]
  generalize hF:run ctx _ (.loop _) _ _=R
  obtain ⟨fr1,rfl,hk1⟩:=zwz s hs _ hF (by simp) (by simp)
  simp [hk1,wr,za1,zgK,zag,zex,hs,zbV,zai]
end Go.Av
namespace Go.Av
def bit (l:List W64) (j:Nat):Bool:=(gd l 0#64 (j / 320+5*(j / 64 % 5))).getLsbD (j % 64)
end Go.Av
namespace Go.Av
end Go.Av
namespace Go.Av
end Go.Av
namespace Go.Av
end Go.Av
namespace Go.Av
end Go.Av
namespace Go.Av
end Go.Av
namespace Go.Av
def byW (w:W64) (k:Nat):Int:=((w >>> (8*k)).toNat % 256:Nat)
def zes (l:List W64):List Int:=tab (8*l.length) fun j=>byW (gd l 0#64 (j / 8)) (j % 8)
theorem zzX (w:W64):IntKind.u8.wrap (w.toNat:Int)=((w.toNat % 256:Nat):Int):=by
  unfold IntKind.wrap
  simp [IntKind.signed,IntKind.bits]
@[simp] theorem zKq (w:W64):zKm .u8 (wd w)=some (.int .u8 ((w.toNat % 256:Nat):Int)):=by
  unfold wd;rw [zd9,zzX]
theorem zum {fr : Fr} {h : zab} {R : Option (AEx × Fr × zab)} (l : List W64) (bs : List (List zaa)) (i : Nat) (hi : i < l.length) (hl : l.length < 1000000) (f : Nat → Int) (hf : f = fun j => byW (gd l 0#64 (j / 8)) (j % 8))
    (hF:run ctx (zav h) (.loop zea) fr (hx h bs (gT (eI .u8 (tab (8*i) f))))=R)
    (h3:fr 3=gL .nsl h.toks.length 0 (eI .u8 (tab (8*i) f))) (h5:fr 5=wd (gd l 0#64 i)) (h12:fr 12=.int .i64 0):
    ∃ fr',R=some (.exit 2,fr',hx h bs (gT (eI .u8 (tab (8*(i+1)) f))))∧fr' 3=gL .nsl h.toks.length 0 (eI .u8 (tab (8*(i+1)) f))∧∀ t,t∉wr zea→fr' t=fr t:=by
  obtain ⟨e,fr',h',rfl,⟨rfl,rfl,h3'⟩,hk⟩:=zan hF 8
    (fun k fr hh=>fr 12=.int .i64 k∧fr 5=wd (gd l 0#64 i >>> (8*k))∧fr 3=gL .nsl h.toks.length 0 (eI .u8 (tab (8*i+k) f))∧hh=hx h bs (gT (eI .u8 (tab (8*i+k) f))))
    (fun e fr hh=>e=.exit 2∧hh=hx h bs (gT (eI .u8 (tab (8*(i+1)) f)))∧fr 3=gL .nsl h.toks.length 0 (eI .u8 (tab (8*(i+1)) f)))
    ⟨h12, by simpa using h5, h3, rfl⟩ (by
      rintro k fr1 hh hkN hkeep ⟨g12,g5,g3,rfl⟩
      by_cases hlt:k < 8
      · have w1 : IntKind.i64.wrap ((k : Int) + 1) = k + 1 := wrap_i64 (by omega) (by omega)
        have hfk:((((gd l 0#64 i >>> (8*k)).toNat % 256:Nat):Int))=f (8*i+k):=by
          rw [hf];simp only [byW]
          rw [show (8*i+k) / 8=i by omega,show (8*i+k) % 8=k by omega]
        have hsh:gd l 0#64 i >>> (8*k) >>> 8=gd l 0#64 i >>> (8*(k+1)):=by
          rw [← BitVec.shiftRight_add];rfl
        have hroom:8*i+k+1 < 274877906944:=by omega
        generalize hw:gd l 0#64 i >>> (8*k)=w at*
        have hs8:zd1 .shr (wd w) (.int .u64 8)=some (wd (w >>> 8)):=zmP w .u64 8 (by decide)
        generalize hm:8*i+k=m at*
        simp [zea,g12,g5,g3,hlt,show (k:Int) < 8 by omega,w1,zav,zaE,rep,zaa.cells,zaa.okV,chunks,hfk,zhL,zvz,zau,hroom,hs8,hsh, -zdv]
        simp [← Nat.add_assoc,hm]
      · have : k = 8 := by omega
        subst this
        simp [zea,g12,g3,Nat.mul_add])
  exact ⟨fr',rfl,h3',hk⟩
theorem zzZ {fr : Fr} {h : zab} {R : Option (AEx × Fr × zab)} (l : List W64) (x : zaa) (bs : List (List zaa)) (hl : l.length < 1000000) (f : Nat → Int) (hf : f = fun j => byW (gd l 0#64 (j / 8)) (j % 8)) (hx6 : RdW h x l)
    (hF:run ctx (zav h) (.loop zhy) fr (hx h bs [])=R)
    (h3:fr 3=.nsl) (h6:fr 6=x) (h7:fr 7=.int .i64 l.length) (h8:fr 8=.int .i64 0):
    ∃ fr',R=some (.exit 0,fr',hx h bs (gT (eI .u8 (zes l))))∧fr' 3=gL .nsl h.toks.length 0 (eI .u8 (zes l)):=by
  obtain ⟨r1,p,r2,r3⟩:=hx6
  obtain ⟨e,fr',h',rfl,⟨rfl,rfl,h3'⟩,hk⟩:=zan hF l.length
    (fun k fr hh=>fr 8=.int .i64 k∧fr 3=gL .nsl h.toks.length 0 (eI .u8 (tab (8*k) f))∧hh=hx h bs (gT (eI .u8 (tab (8*k) f))))
    (fun e fr hh=>e=.exit 0∧hh=hx h bs (gT (eI .u8 (zes l)))∧fr 3=gL .nsl h.toks.length 0 (eI .u8 (zes l)))
    ⟨h8, by simpa [tab, gL] using h3, by simp [tab, gT]⟩ (by
      rintro k fr1 hh hkN hkeep ⟨g8,g3,rfl⟩
      have g6:=(hkeep 6 (by decide)).trans h6
      have g7:=(hkeep 7 (by decide)).trans h7
      by_cases hlt:k < l.length
      · have w1 : IntKind.i64.wrap ((k : Int) + 1) = k + 1 := wrap_i64 (by omega) (by omega)
        simp [zhy,g8,g6,g7,hlt,r2 k hlt,r3 k _ _ hlt]
        generalize hF:run ctx _ (.loop _) _ _=R
        obtain ⟨fr2,rfl,q1,q2⟩:=zum l bs k hlt hl f hf hF (by simp [g3]) (by simp) (by simp)
        simp [q1,q2,wr,zea,zgK,g8,w1]
        exact hlt
      · have : k = l.length := by omega
        subst this
        simp [zhy,g8,g7,g3,zes,hf])
  exact ⟨fr',rfl,h3'⟩
theorem zyF (L:Lim) (h:zab) (l:List W64) (x:zaa) (hl:l.length < 1000000) (hx6:RdW h x l):zae ctx L zgo [x] h=some (.vsl false (eI .u8 (zes l)),h):=by
  rw [zrw]
  simp [zlT,hx6.1]
  generalize hF:run ctx _ (.loop _) _ _=R
  obtain ⟨fr1,rfl,q1⟩:=zzZ l x _ hl _ rfl hx6 hF (by simp) (by simp) (by simp) (by simp)
  simp [q1,zsL]
@[simp] theorem zJE (l:List W64):(zes l).length=8*l.length:=by simp [zes]
end Go.Av
namespace Go.Av
theorem ztw (L:Lim) (h:zab) (s:List W64) (hs:s.length=25):zae ctx L zbN [.agg (cW s)] h=some (.agg (cI .u8 (zes s)),h):=by
  rw [zjK]
  have hb:=fun L bs=>zyF L (hx h (cW s :: bs) []) s (sA h.blks.length 0 0 1 25 (some 25)) (by omega) (RdW.sA [] 0 25 _ s hs (by simp))
  have e1:(zes s).take 200=zes s:=List.take_of_length_le (by simp [hs])
  simp [zej,zav,zgl,zdV,zaa.okV,zaa.cells,hs,zlh,hb,zzf,zag,e1,zbV,zai]
def zbH (s:List W64) (n:Int):List zaa:=cW s++[.int .i64 n]
@[simp] theorem zKC (s:List W64) (n:Int):(zbH s n).length=s.length+1:=by simp [zbH]
theorem zvR {s:List W64} {n:Int} {i:Nat} (h:decide (i < s.length)=true):(zbH s n)[i]?=some (wd (gd s 0#64 i)):=by
  have h':i < s.length:=by simpa using h
  unfold zbH;rw [List.getElem?_append_left (by simpa using h')];exact zEX h'
theorem zqV {s:List W64} {n:Int} (h:s.length=25):(zbH s n)[25]?=some (.int .i64 n):=by
  unfold zbH;rw [List.getElem?_append_right (by simp [h])];simp [h]
theorem zrs {s:List W64} {n:Int} (h0:25 < (zbH s n).length) (h:s.length=25):(zbH s n)[25]=.int .i64 n:=by
  have:=zqV (n:=n) h
  rw [List.getElem?_eq_getElem h0] at this
  exact Option.some.inj this
theorem zph {s:List W64} {n:Int} {i:Nat} (h0:i < (zbH s n).length) (h:decide (i < s.length)=true):(zbH s n)[i]=wd (gd s 0#64 i):=by
  have:=zvR (n:=n) h
  rw [List.getElem?_eq_getElem h0] at this
  exact Option.some.inj this
theorem zBC {s:List W64} {n:Int} {i:Nat} (x:W64) (h:decide (i < s.length)=true):(zbH s n).set i (wd x)=zbH (s.set i x) n:=by
  have h':i < s.length:=by simpa using h
  unfold zbH;rw [List.set_append_left _ _ (by simpa using h')];simp
theorem ztz {s:List W64} {n:Int} (m:Int) (h:s.length=25):(zbH s n).set 25 (.int .i64 m)=zbH s m:=by
  unfold zbH;rw [List.set_append_right _ _ (by simp [h])];simp [h]
theorem ztA {s:List W64} {n:Int} (h:s.length=25):zd2 true (zbH s n) 0 25=some (.agg (cW s)):=by
  unfold zd2 zbH;simp [h]
theorem zvV {s:List W64} {n:Int} (h:s.length=25):zd2 true (zbH s n) 0 26=some (.agg (zbH s n)):=zvL (by simp [h])
theorem zAb {s t:List W64} {n:Int} (h:s.length=25) (ht:t.length=25):setAt (zbH s n) 0 (cW t)=zbH t n:=by
  have e:∀ (cs old rest:List zaa),old.length=cs.length→∀ pre:List zaa,setAt (pre++(old++rest)) pre.length cs=pre++(cs++rest):=by
    intro cs
    induction cs with
    | nil=>intro old rest h pre;cases old with | nil=>simp [setAt] | cons a l=>simp at h
    | cons c cs ih=>
      intro old rest h pre
      cases old with
      | nil=>simp at h
      | cons a l=>
        simp only [setAt]
        rw [List.set_append_right _ _ (Nat.le_refl _),Nat.sub_self]
        have:=ih l rest (by simpa using h) (pre++[c])
        simpa using this
  have:=e (cW t) (cW s) [.int .i64 n] (by simp [h,ht]) []
  simpa [zbH] using this
def zyO (s:List W64) (at_:Nat) (v:Int):List W64:=s.set (at_ / 8) (gd s 0#64 (at_ / 8) ^^^ (bw v <<< (8*(at_ % 8))))
@[simp] theorem zMH (s:List W64) (n:Nat) (v:Int):(zyO s n v).length=s.length:=by simp [zyO]
theorem zBG (L:Lim) (h:zab) (bs:List (List zaa)) (ts:List Nat) (i:Nat) (s:List W64) (n:Int) (at_:Nat) (v:Int) (hs:s.length=25) (ha:at_ < 200) (hb:bs[i]?=some (zbH s n)) (hL:L.rob≤h.blks.length):
    zae ctx L zbg [pA h.blks.length i 0,.int .i64 (at_:Int),.int .u8 v] (hx h bs ts)=some (.tup [],hx h (bs.set i (zbH (zyO s at_ v) n)) ts):=by
  rw [zml]
  have w0:=zyh at_ 8
  have w1:=zCY at_ 8
  have w2:IntKind.i64.wrap ((at_ / 8:Nat):Int)=((at_ / 8:Nat):Int):=zih _ (by omega)
  have w3:IntKind.i64.wrap (8*((at_ % 8:Nat):Int))=((8*(at_ % 8):Nat):Int):=by
    rw [← zih (8*(at_ % 8)) (by omega)];simp only [Int.natCast_mul,Int.natCast_add,Int.cast_ofNat_Int]
  have ha25:at_ / 8 < 25:=by omega
  have hb64:8*(at_ % 8)≤64:=by omega
  have hset:s.set (at_ / 8) (gd s 0#64 (at_ / 8) ^^^ (bw v <<< (8*(at_ % 8))))=zyO s at_ v:=rfl
  simp only [Int.cast_ofNat_Int] at w0 w1
  have hi:=(List.getElem?_eq_some_iff.1 hb).1
  generalize at_ / 8=a at*
  generalize hbb:8*(at_ % 8)=b at*
  generalize at_ % 8=c at*
  simp [zf2,w0,w1,w2,w3,zk3,ziA,zal,zaj,zfZ,ha25,hb,zvR,hs,zwc,hb64,zao,hL,zBC,hset,show a≤25 by omega,zhI, -zd9, -zk5]
def zuu (q:List W64 × Nat) (v:Int):List W64 × Nat:=if q.2+1=136 then (zoB (zyO q.1 q.2 v),0) else (zyO q.1 q.2 v,q.2+1)
def zbn (q:List W64 × Nat) (l:List Int):List W64 × Nat:=l.foldl zuu q
theorem zEM {q:List W64 × Nat} (v:Int) (h1:q.1.length=25) (h2:q.2 < 136):(zuu q v).1.length=25∧(zuu q v).2 < 136:=by
  unfold zuu
  split
  · exact ⟨zex _ (by simp [h1]),by simp⟩
  · exact ⟨by simp [h1],by simp only [];omega⟩
theorem ziV:∀ (l:List Int) {q:List W64 × Nat},q.1.length=25→q.2 < 136→(zbn q l).1.length=25∧(zbn q l).2 < 136
  | [],q,h1,h2=>⟨h1,h2⟩
  | v :: l, q, h1, h2 => by
    obtain ⟨a,b⟩:=zEM v h1 h2
    exact ziV l a b
theorem zAd {L:Lim} {fr:Fr} {h:zab} {R:Option (AEx × Fr × zab)} (bs:List (List zaa)) (ts:List Nat) (i:Nat) (q:List W64 × Nat) (x:zaa) (l:List Int) (hl:l.length < 200000000000) (h1:q.1.length=25) (h2:q.2 < 136)
    (hb:bs[i]?=some (zbH q.1 q.2)) (hL:L.rob≤h.blks.length) (hr:RdI h .u8 x l)
    (hF:run ctx ⟨L.rob,L.rot,h.blks.length+bs.length,h.toks.length+ts.length⟩ (.loop zbK) fr (hx h bs ts)=R)
    (h0:fr 0=pA h.blks.length i 0) (h6:fr 6=x) (h7:fr 7=.int .i64 l.length) (h8:fr 8=.int .i64 0):
    ∃ fr',R=some (.exit 0,fr',hx h (bs.set i (zbH (zbn q l).1 (zbn q l).2)) ts):=by
  obtain ⟨r1,p,r2,r3⟩:=hr
  have hi:=(List.getElem?_eq_some_iff.1 hb).1
  obtain ⟨e,fr',h',rfl,⟨rfl,rfl⟩,hk⟩:=zan hF l.length
    (fun k fr hh=>fr 8=.int .i64 k∧hh=hx h (bs.set i (zbH (zbn q (l.take k)).1 (zbn q (l.take k)).2)) ts)
    (fun e fr hh=>e=.exit 0∧hh=hx h (bs.set i (zbH (zbn q l).1 (zbn q l).2)) ts)
    ⟨h8,by
      have:bs.set i (zbH q.1 q.2)=bs:=by
        refine List.ext_getElem? fun j=>?_
        by_cases e:i=j
        · subst e;rw [List.getElem?_set_self hi,hb]
        · rw [List.getElem?_set_ne e]
      simp [zbn,this]⟩ (by
      rintro k fr1 hh hkN hkeep ⟨g8,rfl⟩
      have g0:=(hkeep 0 (by decide)).trans h0
      have g6:=(hkeep 6 (by decide)).trans h6
      have g7:=(hkeep 7 (by decide)).trans h7
      obtain ⟨c1,c2⟩:=ziV (l.take k) h1 h2
      by_cases hlt:k < l.length
      · have w1 : IntKind.i64.wrap ((k : Int) + 1) = k + 1 := wrap_i64 (by omega) (by omega)
        have hst:zbn q (l.take (k+1))=zuu (zbn q (l.take k)) (gd l 0 k):=by
          rw [zli 0 hlt];simp [zbn]
        generalize zbn q (l.take k)=q' at*
        obtain ⟨s,n⟩:=q'
        simp only at c1 c2
        have w2:IntKind.i64.wrap ((n:Int)+1)=((n+1:Nat):Int):=wrap_i64 (by omega) (by omega)
        have hp:=zBG ⟨L.rob,L.rot,h.blks.length+bs.length,h.toks.length+ts.length⟩ h (bs.set i (zbH s n)) ts i s n n (gd l 0 k) c1 (by omega) (by simp [hi]) hL
        by_cases h136:n+1=136
        · have hst2 : zuu (s, n) (gd l 0 k) = (zoB (zyO s n (gd l 0 k)), 0) := by simp only [zuu, h136, if_true]
          rw [hst2] at hst
          rw [h136] at w2
          simp [zrs,zph,zbK,g0,g6,g7,g8,hlt,w1,r2 k hlt,r3 k _ _ hlt,hi,zqV,c1,hp,w2,hst,zao,hL,ztz,ztA,zpD,zex,zbV,zAb]
        · have hst2 : zuu (s, n) (gd l 0 k) = (zyO s n (gd l 0 k), n + 1) := by simp only [zuu, h136, if_false]
          rw [hst2] at hst
          have hne:(((n+1:Nat):Int)==136)=false:=beq_false_of_ne (by omega)
          generalize n+1=n1 at*
          simp [zrs,zph,zbK,g0,g6,g7,g8,hlt,w1,r2 k hlt,r3 k _ _ hlt,hi,zqV,c1,hp,w2,hst,zao,hL,ztz,hne]
      · have : k = l.length := by omega
        subst this
        simp [zbK,g8,g7])
  exact ⟨fr',rfl⟩
theorem zEQ (L:Lim) (h:zab) (bs:List (List zaa)) (ts:List Nat) (i:Nat) (q:List W64 × Nat) (x:zaa) (l:List Int) (hl:l.length < 200000000000) (h1:q.1.length=25) (h2:q.2 < 136)
    (hb:bs[i]?=some (zbH q.1 q.2)) (hL:L.rob≤h.blks.length) (hr:RdI h .u8 x l):
    zae ctx L zdb [pA h.blks.length i 0,x] (hx h bs ts)=some (.tup [],hx h (bs.set i (zbH (zbn q l).1 (zbn q l).2)) ts):=by
  rw [zkG]
  simp [zeS,hr.1,zal,zaj]
  generalize hF:run ctx _ (.loop _) _ _=R
  obtain ⟨fr',rfl⟩:=zAd bs ts i q x l hl h1 h2 hb hL hr hF (by simp) (by simp) (by simp) (by simp)
  simp [zal,zaj,zhI]
def zHL (q:List W64 × Nat):List Int:=(zes (zoB (zyO (zyO q.1 q.2 6) 135 128))).take 32
theorem zHM (L:Lim) (h:zab) (b:Nat) (q:List W64 × Nat) (h1:q.1.length=25) (h2:q.2 < 136) (hb:h.blks[b]?=some (zbH q.1 q.2)):
    zae ctx L zcV [.ptr b 0] h=some (.agg (cI .u8 (zHL q)),h):=by
  rw [zmh]
  obtain ⟨s,n⟩:=q
  simp only at h1 h2 hb
  have hld:∀ bs ts,zkO (hx h bs ts) (.ptr b 0) 26 true=some (.agg (zbH s n)):=fun bs ts=>(zgm h bs ts b 0 26 true _ hb).trans (zvV h1)
  have ep:∀ (bs:List zaa) (s:List W64),s.length=25→zae ctx ⟨h.blks.length,h.toks.length,h.blks.length,h.toks.length⟩ zbg [pA h.blks.length 1 0,.int .i64 (n:Int),.int .u8 6] (hx h [bs,zbH s n] [])=some (.tup [],hx h [bs,zbH (zyO s n 6) n] []):=fun bs s hs=>
    zBG _ h [bs,zbH s n] [] 1 s n n 6 hs (by omega) (by simp) (Nat.le_refl _)
  have ep2:∀ (bs:List zaa) (s:List W64),s.length=25→zae ctx ⟨h.blks.length,h.toks.length,h.blks.length,h.toks.length⟩ zbg [pA h.blks.length 1 0,.int .i64 135,.int .u8 128] (hx h [bs,zbH s n] [])=some (.tup [],hx h [bs,zbH (zyO s 135 128) n] []):=fun bs s hs=>
    zBG _ h [bs,zbH s n] [] 1 s n 135 128 hs (by omega) (by simp) (Nat.le_refl _)
  have e32:(zes (zoB (zyO (zyO s n 6) 135 128))).length=200:=by simp [zex,h1]
  have hsl:=ztQ 200 1 h.blks.length 2 0 32 .i64 (by decide)
  simp only [Int.cast_ofNat_Int] at hsl
  simp [zrs,zph,zf0,zal,zaj,zav,zgl,hld,zvV,h1,zbV,zai,zqV,ep,ep2,ztA,zpD,ztw,zex,zag,e32,hsl,zG9,zHL]
  simp [zFk,e32,zbV,zai,List.take_take]
def zHN (l:List Int):List Int:=zHL (zbn (tab 25 fun _=>0#64,0) l)
theorem zsX (q:List W64 × Nat) (l m:List Int):zbn q (l++m)=zbn (zbn q l) m:=by simp [zbn]
def msg (ps:List (zaa × List Int)):List Int:=(ps.map (·.2)).flatten
theorem zEU (ps:List (zaa × List Int)) (k:Nat) (h:k < ps.length):msg (ps.take (k+1))=msg (ps.take k)++ps[k].2:=by
  unfold msg
  rw [List.take_add_one,List.getElem?_eq_getElem h,List.map_append,List.flatten_append]
  congr 1
  simp
theorem zBM {fr:Fr} {h:zab} {R:Option (AEx × Fr × zab)} (z:List zaa) (ps:List (zaa × List Int)) (hn:ps.length < 1000000) (hr:∀ p∈ps,RdI h .u8 p.1 p.2∧p.2.length < 200000000000)
    (hF:run ctx (zav h) (.loop zeb) fr (hx h [z,zbH (tab 25 fun _=>0#64) 0] [])=R)
    (h3:fr 3=pA h.blks.length 1 0) (h6:fr 6=.vsl false (ps.map fun p=>[p.1])) (h7:fr 7=.int .i64 ps.length) (h8:fr 8=.int .i64 0):
    ∃ fr' q,R=some (.exit 0,fr',hx h [z,zbH q.1 q.2] [])∧q=zbn (tab 25 fun _=>0#64,0) (msg ps)∧q.1.length=25∧q.2 < 136∧∀ t,t∉wr zeb→fr' t=fr t:=by
  obtain ⟨e,fr',h',rfl,⟨rfl,rfl⟩,hk⟩:=zan hF ps.length
    (fun k fr hh=>fr 8=.int .i64 k∧hh=hx h [z,zbH (zbn (tab 25 fun _=>0#64,0) (msg (ps.take k))).1 (zbn (tab 25 fun _=>0#64,0) (msg (ps.take k))).2] [])
    (fun e fr hh=>e=.exit 0∧hh=hx h [z,zbH (zbn (tab 25 fun _=>0#64,0) (msg ps)).1 (zbn (tab 25 fun _=>0#64,0) (msg ps)).2] [])
    ⟨h8, by simp only [List.take_zero]; rfl⟩ (by
      rintro k fr1 hh hkN hkeep ⟨g8,rfl⟩
      have g3:=(hkeep 3 (by decide)).trans h3
      have g6:=(hkeep 6 (by decide)).trans h6
      have g7:=(hkeep 7 (by decide)).trans h7
      obtain ⟨c1,c2⟩:=ziV (msg (ps.take k)) (q:=(tab 25 fun _=>0#64,0)) (by simp) (by simp)
      by_cases hlt:k < ps.length
      · have w1 : IntKind.i64.wrap ((k : Int) + 1) = k + 1 := wrap_i64 (by omega) (by omega)
        have hst : zbn (tab 25 fun _ => 0#64, 0) (msg (ps.take (k + 1))) = zbn (zbn (tab 25 fun _ => 0#64, 0) (msg (ps.take k))) ps[k].2 := by
          rw [← zsX]
          congr 1
          exact zEU ps k hlt
        obtain ⟨r1,r2⟩:=hr ps[k] (List.getElem_mem hlt)
        generalize zbn (tab 25 fun _=>0#64,0) (msg (ps.take k))=q' at*
        have hw:=zEQ ⟨h.blks.length,h.toks.length,h.blks.length,h.toks.length⟩ h [z,zbH q'.1 q'.2] [] 1 q' ps[k].1 ps[k].2 r2 c1 c2 (by simp) (Nat.le_refl _) r1
        simp [zeb,zav,g3,g6,g7,g8,hlt,zc1,asI,w1,hw,hst]
      · have : k = ps.length := by omega
        subst this
        simp [zeb,g8,g7])
  obtain ⟨c1,c2⟩:=ziV (msg ps) (q:=(tab 25 fun _=>0#64,0)) (by simp) (by simp)
  exact ⟨fr',_,rfl,rfl,c1,c2,hk⟩
theorem zAD:[zaa.int .u64 0,.int .u64 0,.int .u64 0,.int .u64 0,.int .u64 0,.int .u64 0,.int .u64 0,.int .u64 0,.int .u64 0,.int .u64 0,.int .u64 0,.int .u64 0,.int .u64 0,.int .u64 0,.int .u64 0,.int .u64 0,.int .u64 0,.int .u64 0,.int .u64 0,.int .u64 0,.int .u64 0,.int .u64 0,.int .u64 0,.int .u64 0,.int .u64 0,.int .i64 0]=zbH (tab 25 fun _=>0#64) 0:=rfl
theorem zIp (L:Lim) (h:zab) (c:Bool) (ps:List (zaa × List Int)) (hn:ps.length < 1000000) (hr:∀ p∈ps,RdI h .u8 p.1 p.2∧p.2.length < 200000000000):
    zae ctx L zgq [.vsl c (ps.map fun p=>[p.1])] h=some (.agg (cI .u8 (zHN (msg ps))),h):=by
  rw [zrz]
  simp [zlV,zAD,zgl,zav]
  generalize hF:run ctx _ (.loop _) _ _=R
  obtain ⟨fr',q,rfl,q1,q2,q3,hk⟩:=zBM _ ps hn hr hF (by simp) (by simp) (by simp) (by simp)
  have hs:zae ctx ⟨h.blks.length,h.toks.length,h.blks.length,h.toks.length⟩ zcV [pA h.blks.length 1 0] (hx h [cI .u8 (tab 32 fun _=>0),zbH q.1 q.2] [])=some (.agg (cI .u8 (zHL q)),hx h [cI .u8 (tab 32 fun _=>0),zbH q.1 q.2] []):=zHM ⟨h.blks.length,h.toks.length,h.blks.length,h.toks.length⟩ (hx h [cI .u8 (tab 32 fun _=>0),zbH q.1 q.2] []) (h.blks.length+1) q q2 q3 (zqb [] (by simp))
  have hl:(zHL q).length=32:=by simp [zHL,zex,q2]
  simp [hk,wr,zeb,zgK,hs,zbV,hl,zai,zag,zHN,← q1]
end Go.Av
namespace Go.Av
def obK (b:List Int) (n:Nat):Nat→List W64
  | 0=>tab 25 fun _=>0#64
  | k+1=>let i:=n - 1 - k;(obK b n k).set (i / 8) (gd (obK b n k) 0#64 (i / 8)*256#64+bw (gd b 0 i))
@[simp] theorem zIr (b:List Int) (n:Nat):∀ k,(obK b n k).length=25
  | 0=>by simp [obK]
  | k+1=>by simp [obK,zIr b n k]
def zgt (b:List Int):List W64:=obK b 200 200
end Go.Av
namespace Go.Av
structure Sp where
  S:List Int
  a:Nat
  b:Nat
  c:Nat
def zmw (S:List Int):List Int:=zes (zoB (zgt S))
theorem zeX (S:List Int):(zgt S).length=25:=by simp [zgt]
theorem zt4 (l : List W64) : inB (zes l) := fun i hi => by
  unfold zes at hi ⊢
  rw [zlw (by simpa using hi)]
  unfold byW;omega
@[simp] theorem zra (S:List Int):(zmw S).length=200:=by simp [zmw,zes,zex,zeX]
theorem zzo (S:List Int):inB (zmw S):=zt4 _
def zoM (s:Sp):Sp:=⟨zmw s.S,0,s.b,s.c+1⟩
def zEm (s:Sp):Sp:=if s.a=136 then zoM s else s
def zls (s:Sp) (u:Int):Sp:=⟨(zEm s).S.set (zEm s).a u,(zEm s).a+1,136,(zEm s).c⟩
def zbQ (s:Sp) (l:List Int):Sp:=l.foldl zls s
def zCX (s:Sp):Sp:=if s.b=136 then {zoM s with b:=0} else s
def zwH (s:Sp):Sp:={zCX s with b:=(zCX s).b+1}
def zJ9 (s:Sp):Int:=gd (zCX s).S 0 (zCX s).b
def zdl (s:Sp):Nat→Sp
  | 0=>s
  | n+1=>zwH (zdl s n)
def zi0 (s:Sp) (n:Nat):List Int:=tab n fun k=>zJ9 (zdl s k)
def zEg (s:Sp):Sp:=⟨putAt (zmw s.S) 0 (tab 136 fun _=>0),0,136,s.c+1⟩
def Sp.ok (s:Sp):Prop:=s.S.length=200∧inB s.S∧s.a≤136∧s.b≤136
theorem zq1 {s:Sp} (h:s.ok):(zoM s).ok:=⟨by simp [zoM],zzo _,by simp [zoM],h.2.2.2⟩
theorem zH2 {s:Sp} (h:s.ok):(zEm s).ok∧(zEm s).a < 136:=by
  unfold zEm
  split
  · exact ⟨zq1 h,by simp [zoM]⟩
  · exact ⟨h,by have:=h.2.2.1;omega⟩
theorem zB6 {s:Sp} (h:s.ok):(zCX s).ok∧(zCX s).b < 136:=by
  unfold zCX
  split
  · exact ⟨⟨(zq1 h).1,(zq1 h).2.1,(zq1 h).2.2.1,by simp⟩,by simp⟩
  · exact ⟨h,by have:=h.2.2.2;omega⟩
theorem zB7 {l : List Int} (hl : inB l) (i : Nat) (v : Int) (hv : 0 ≤ v ∧ v < 256) : inB (l.set i v) := fun j hj => by
  have hj':j < l.length:=by simpa using hj
  by_cases hi:i < l.length
  · rw [zlm _ _ _ _ _ hi];split
    · exact hv
    · exact hl j hj'
  · rw [List.set_eq_of_length_le (by omega)];exact hl j hj'
theorem zE6 {s:Sp} (h:s.ok) (u:Int) (hu:0≤u∧u < 256):(zls s u).ok:=by
  obtain ⟨⟨h1,h2,h3,h4⟩,h5⟩:=zH2 h
  exact ⟨by simp [zls,h1],zB7 h2 _ _ hu,by simp only [zls];omega,by simp [zls]⟩
theorem zim {x:Int} {l:List Int}:inB (x :: l)↔(0≤x∧x < 256)∧inB l:=by
  constructor
  · intro h
    exact ⟨h 0 (by simp),fun i hi=>h (i+1) (by simpa using hi)⟩
  · intro ⟨h1,h2⟩ i hi
    cases i with
    | zero=>exact h1
    | succ i=>exact h2 i (by simpa using hi)
theorem zgb:∀ {l:List Int} {s:Sp},s.ok→inB l→(zbQ s l).ok
  | [],s,h,_=>h
  | u :: l,s,h,hl=>zgb (l:=l) (zE6 h u (zim.1 hl).1) (zim.1 hl).2
theorem zE7 {s:Sp} (h:s.ok):(zwH s).ok:=by
  obtain ⟨⟨h1,h2,h3,h4⟩,h5⟩:=zB6 h
  exact ⟨h1,h2,h3,by simp only [zwH];omega⟩
theorem zl6 {s:Sp} (h:s.ok):∀ n,(zdl s n).ok
  | 0=>h
  | n+1=>zE7 (zl6 h n)
theorem zq2 (n : Nat) : inB (tab n fun _ => 0) := fun i hi => by
  rw [zlw (by simpa using hi)];omega
theorem zE8 {l m:List Int} {off:Nat} (h:off+m.length≤l.length) (j:Nat) (hj:j < l.length):gd (putAt l off m) 0 j=if off≤j∧j < off+m.length then gd m 0 (j - off) else gd l 0 j:=by
  unfold putAt
  by_cases h1:j < off
  · rw [zCL _ _ _ _ (by simp;omega),zCG h1,if_neg (by omega)]
  · rw [zCM _ _ _ _ (by simp; omega), List.length_take, Nat.min_eq_left (by omega)]
    by_cases h2:j < off+m.length
    · rw [zCL _ _ _ _ (by omega),if_pos (by omega)]
    · rw [zCM _ _ _ _ (by omega), if_neg (by omega)]
      unfold gd;simp only [List.getD,List.getElem?_drop]
      congr 2;omega
theorem zwh {l m : List Int} {off : Nat} (h : off + m.length ≤ l.length) (hl : inB l) (hm : inB m) : inB (putAt l off m) := fun j hj => by
  rw [zsk _ _ _ h] at hj
  rw [zE8 h j hj]
  split
  · exact hm _ (by omega)
  · exact hl j hj
theorem zH4 {s:Sp} (h:s.ok):(zEg s).ok:=
  ⟨by simp only [zEg];rw [zsk _ _ _ (by simp)];simp,zwh (by simp) (zzo _) (zq2 136),by simp [zEg],by simp [zEg]⟩
theorem zwi (s:Sp) (l m:List Int):zbQ s (l++m)=zbQ (zbQ s l) m:=by simp [zbQ]
theorem zAw (s:Sp) (l:List Int) (k:Nat) (h:k < l.length):zbQ s (l.take (k+1))=zls (zbQ s (l.take k)) (gd l 0 k):=by
  rw [zli 0 h,zwi];rfl
theorem zwk (s:Sp) (m:Nat):∀ n,zdl s (m+n)=zdl (zdl s m) n
  | 0=>rfl
  | n+1=>by rw [← Nat.add_assoc,zdl,zdl,zwk s m n]
theorem zq3 (s:Sp) (n:Nat):(zi0 s n).length=n:=by simp [zi0]
theorem zE9 (s:Sp) (m n:Nat):zi0 s (m+n)=zi0 s m++zi0 (zdl s m) n:=by
  refine List.ext_getElem? fun j=>?_
  simp only [zi0]
  rw [zit]
  by_cases h1:j < m
  · rw [List.getElem?_append_left (by simpa using h1),zit,if_pos h1,if_pos (by omega)]
  · rw [List.getElem?_append_right (by simp; omega), zit, zyj]
    by_cases h2:j - m < n
    · rw [if_pos h2,if_pos (by omega),← zwk,show m+(j - m)=j by omega]
    · rw [if_neg h2,if_neg (by omega)]
theorem zB9 (s:Sp) (n:Nat):zi0 s (n+1)=zi0 s n++[zJ9 (zdl s n)]:=by rw [zE9];rfl
theorem zCa {s:Sp} (h:s.a≤136) (u:Int):136*(zls s u).c+(zls s u).a=136*s.c+s.a+1∧1≤(zls s u).a∧(zls s u).a≤136∧s.c≤(zls s u).c:=by
  unfold zls zEm
  split
  · simp only [zoM];omega
  · simp only [];omega
theorem zwl:∀ {l:List Int} {s:Sp},s.a≤136→136*(zbQ s l).c+(zbQ s l).a=136*s.c+s.a+l.length∧(zbQ s l).a≤136∧s.c≤(zbQ s l).c∧(l≠[]→1≤(zbQ s l).a)
  | [],s,h=>by simp [zbQ,h]
  | u :: l, s, h => by
    obtain ⟨h1,h2,h3,h4⟩:=zCa h u
    obtain ⟨g1,g2,g3,g4⟩:=zwl (l:=l) h3
    have e:zbQ s (u :: l)=zbQ (zls s u) l:=rfl
    rw [e]
    refine ⟨by simp only [List.length_cons];omega,g2,by omega,fun _=>?_⟩
    by_cases hl:l=[]
    · subst hl;exact h2
    · exact g4 hl
def zxX (l:List Int):Sp:=⟨putAt (tab 200 fun _=>0) 136 l,0,136,0⟩
theorem zH7 {l:List Int} (h:l.length≤64) (hl:inB l):(zxX l).ok:=
  ⟨by simp only [zxX];rw [zsk _ _ _ (by simp;omega)];simp,zwh (by simp;omega) (zq2 200) hl,by simp [zxX],by simp [zxX]⟩
end Go.Av
