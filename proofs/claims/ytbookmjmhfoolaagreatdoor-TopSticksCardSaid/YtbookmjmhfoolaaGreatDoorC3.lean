/- The guard; the permutation of bytes and the digest give what plain functions of lists give. -/
import Derived.Test.YtbookmjmhfoolaaGreatDoorC1
import Derived.Test.YtbookmjmhfoolaaGreatDoorC2
import Derived.KernelRfl
set_option linter.unusedSimpArgs false
set_option linter.unusedVariables false
set_option maxHeartbeats 2000000
set_option maxRecDepth 20000
namespace Go.Av
structure Gd where
  l:List It
  k:Nat
  e:Int
def erV (e:Int):zaa:=if e=0 then .nilp else .vptr [.int .i64 e] 0
def guC (g:Gd):List zaa:=[.vsl false (g.l.map It.cells),.int .i64 g.k,erV g.e]
def zbV (g:Gd) (e:Int):Gd:=if g.e=0 then {g with e:=e} else g
theorem zDR {α:Type} {bs:List α} {b:Nat} {cs:α} (hb:bs[b]?=some cs):bs.set b cs=bs:=by
  refine List.ext_getElem? fun j=>?_
  by_cases e:b=j
  · subst e;rw [List.getElem?_set_self (List.getElem?_eq_some_iff.1 hb).1,hb]
  · rw [List.getElem?_set_ne e]
@[simp] theorem zRA (L:Lim) (h:zab) (p:zaa) (cs:List zaa) (o:Nat):stK L h 1 p (.vptr cs o)=stM (zcx L h p [.vptr cs o]):=by simp [stK,zaa.cells,zaa.okV]
theorem byR (s:ByteArray):(s==s)=true:=(Go.MapKept.bytes_beq s s).2 rfl
theorem zsY (L:Lim) (h:zab) (bs:List (List zaa)) (ts:List Nat) (i:Nat) (g:Gd) (e:Int) (hb:bs[i]?=some (guC g)) (hL:L.rob≤h.blks.length):
    zag ctx L za7 [pA h.blks.length i 0,.int .i64 e] (hx h bs ts)=some (.int .i64 (zbV g e).e,hx h (bs.set i (guC (zbV g e))) ts):=by
  rw [zlE]
  have hi:=(List.getElem?_eq_some_iff.1 hb).1
  have hgs:∀ x:List zaa,(bs.set i x)[i]?=some x:=fun x=>List.getElem?_set_self hi
  have htr:=fun cs=>zik h bs ts i cs
  have htr0:zdW (hx h bs ts) (h.blks.length+bs.length) (h.toks.length+ts.length)=hx h bs ts:=by
    have:=htr (guC g);rwa [zDR hb] at this
  obtain ⟨l,k,w⟩:=g
  by_cases hw:w=0
  · subst hw
    have hv:erV 0=.nilp:=rfl
    by_cases he:e=0
    · subst he
      have hf:zbV ⟨l,k,0⟩ 0=⟨l,k,0⟩:=rfl
      rw [hf,zDR hb]
      simp only [guC,hv] at*
      simp -implicitDefEqProofs [zcu,zan,zak,hb,zae,eqA,htr0]
    · have hf:zbV ⟨l,k,0⟩ e=⟨l,k,e⟩:=rfl
      have hv2:erV e=.vptr [.int .i64 e] 0:=if_neg he
      have hne:(e !=0)=true:=bne_iff_ne.2 he
      rw [hf]
      simp only [guC,hv,hv2] at*
      simp -implicitDefEqProofs [zcu,zan,zak,hb,hgs,zae,eqA,hne,zaA,setAt,znl,zaa.okV,zaa.cells,zam,hL,zap,zaa.under,htr]
  · have hf:zbV ⟨l,k,w⟩ e=⟨l,k,w⟩:=if_neg hw
    have hv2:erV w=.vptr [.int .i64 w] 0:=if_neg hw
    rw [hf,zDR hb]
    simp only [guC,hv2] at*
    simp -implicitDefEqProofs [zcu,zan,zak,hb,hgs,zae,eqA,htr0]
theorem zxP (L:Lim) (h:zab) (bs:List (List zaa)) (ts:List Nat) (i:Nat) (g:Gd) (so:Bool) (e:Int) (hb:bs[i]?=some (guC g)) (hL:L.rob≤h.blks.length):
    zag ctx L zbK [pA h.blks.length i 0,.bool so,.int .i64 e] (hx h bs ts)=some (.int .i64 (zbV g (if so then 0 else e)).e,hx h (bs.set i (guC (zbV g (if so then 0 else e)))) ts):=by
  rw [zj1]
  have hF:=fun L hL e=>zsY L h bs ts i g e hb hL
  have htr:=fun cs=>zik h bs ts i cs
  cases so <;> simp -implicitDefEqProofs [zes,zan,zak,hF,hL,htr]
theorem zIa (L:Lim) (h:zab) (x y:It):zag ctx L zj3 [.agg x.cells,.agg y.cells] h=some (.bool (x.kind==y.kind&&(x.typ==y.typ&&x.count==y.count)),h):=by
  rw [ztR]
  have hf:∀ x:It,fzA h (.agg x.cells)=some (.agg x.cells,false):=fun x=>by simp [fzA,zck,zaa.flat,It.cells]
  obtain ⟨a,b,c,l⟩:=x
  obtain ⟨a',b',c',l'⟩:=y
  simp only [It.cells] at hf ⊢
  have hf1:=hf ⟨a,b,c,l⟩
  have hf2:=hf ⟨a',b',c',l'⟩
  simp only at hf1 hf2
  simp -implicitDefEqProofs [znS,zau,hf1,hf2,zee,setAt,zam,zaf,zbo,zsQ,byR]
def zxQ (x y:It):Bool:=x.kind==y.kind&&(x.typ==y.typ&&x.count==y.count)
def zdU (g:Gd) (k t c:Int):Bool:=decide (g.k < g.l.length)&&zxQ (gd g.l ⟨0,0,0,⟨#[]⟩⟩ g.k) ⟨k,t,c,⟨#[]⟩⟩
def zbi (g:Gd) (k t c:Int):Gd:=if (zbV g (if zdU g k t c then 0 else 10)).e=0 then {zbV g (if zdU g k t c then 0 else 10) with k:=g.k+1} else zbV g (if zdU g k t c then 0 else 10)
theorem zie (g:Gd) (e:Int):(zbV g e).l=g.l∧(zbV g e).k=g.k:=by unfold zbV;split <;> exact ⟨rfl,rfl⟩
theorem zif (g:Gd) (k t c:Int):(zbi g k t c).l=g.l:=by
  unfold zbi
  have:=zie g (if zdU g k t c then 0 else 10)
  generalize zbV g (if zdU g k t c then 0 else 10)=f at*
  split <;> exact this.1
theorem zvZ (g:Gd) (k t c:Int):(zbi g k t c).e=(zbV g (if zdU g k t c then 0 else 10)).e:=by
  unfold zbi
  generalize zbV g (if zdU g k t c then 0 else 10)=f
  split <;> rfl
theorem zB2 (kd:IntKind) (c:Bool) (l:List It) (i:Nat) (h:i < l.length):zbP none 4 (.vsl c (l.map It.cells)) (.int kd (i:Int))=some (.vptr (gd l ⟨0,0,0,⟨#[]⟩⟩ i).cells 0):=by
  simp [zbP,asI,gd,List.getD,h]
theorem zLc (L:Lim) (h:zab) (bs:List (List zaa)) (ts:List Nat) (i:Nat) (g:Gd) (k t c:Int) (hk:g.k < 1000000000) (hb:bs[i]?=some (guC g)) (hL:L.rob≤h.blks.length):
    zag ctx L zdt [pA h.blks.length i 0,.int .i64 k,.int .i64 t,.int .i64 c] (hx h bs ts)=some (.int .i64 (zbi g k t c).e,hx h (bs.set i (guC (zbi g k t c))) ts):=by
  rw [zlF]
  have hi:=(List.getElem?_eq_some_iff.1 hb).1
  have hz:([.int .i64 k,.int .i64 t,.int .i64 c,.str ⟨#[]⟩]:List zaa)=(⟨k,t,c,⟨#[]⟩⟩:It).cells:=rfl
  obtain ⟨y,hy⟩:∃ y:It,y=⟨k,t,c,⟨#[]⟩⟩:=⟨_,rfl⟩
  have hne:=zvZ g k t c
  have hle:=zie g (if zdU g k t c then 0 else 10)
  have hS:=fun L h=>zIa L h (gd g.l ⟨0,0,0,⟨#[]⟩⟩ g.k) y
  have hsm:((gd g.l ⟨0,0,0,⟨#[]⟩⟩ g.k).kind==y.kind&&((gd g.l ⟨0,0,0,⟨#[]⟩⟩ g.k).typ==y.typ&&(gd g.l ⟨0,0,0,⟨#[]⟩⟩ g.k).count==y.count))=zxQ (gd g.l ⟨0,0,0,⟨#[]⟩⟩ g.k) ⟨k,t,c,⟨#[]⟩⟩:=by rw [hy];rfl
  rw [hsm] at hS
  have hb2:∀ x:List zaa,(bs++[x])[i]?=some (guC g):=fun x=>by rw [List.getElem?_append_left hi];exact hb
  have hU:=fun L hL x so=>zxP L h (bs++[x]) ts i g so 10 (hb2 x) hL
  simp only [List.set_append_left _ _ hi] at hU
  have hg0:=fun x=>zdv bs [x] bs.length 0 rfl
  have hs0:=fun x v=>zeQ bs [x] bs.length 0 v rfl
  simp only [Nat.add_zero,List.getElem?_cons_zero,List.set_cons_zero] at hg0 hs0
  have w1:IntKind.i64.wrap ((g.k:Int)+1)=((g.k+1:Nat):Int):=(wrap_i64 (by omega) (by omega)).trans (by omega)
  have hcl:y.cells.length=4:=rfl
  have hyc:[zaa.int .i64 k,.int .i64 t,.int .i64 c,.str ⟨#[]⟩]=y.cells:=by rw [hy];rfl
  have huy:zap 0 0 y.cells=true:=by rw [hy];rfl
  have hgs:∀ (x z:List zaa),(bs.set i x++[z])[i]?=some x:=fun x z=>by rw [List.getElem?_append_left (by simpa using hi),List.getElem?_set_self hi]
  have hss:∀ (x z w:List zaa),(bs.set i x++[z]).set i w=bs.set i w++[z]:=fun x z w=>by rw [List.set_append_left _ _ (by simpa using hi),List.set_set]
  have htr:=fun cs js=>zoU h (bs.set i cs) js ts bs.length (by simp)
  by_cases hlt:g.k < g.l.length
  · have hltI : (g.k : Int) < (g.l.length : Int) := by omega
    have ia:=zB2 .i64 false g.l g.k hlt
    have hso:zdU g k t c=zxQ (gd g.l ⟨0,0,0,⟨#[]⟩⟩ g.k) ⟨k,t,c,⟨#[]⟩⟩:=by unfold zdU;rw [decide_eq_true hlt];rfl
    have hdef:zbi g k t c=if (zbV g (if zdU g k t c then 0 else 10)).e=0 then {zbV g (if zdU g k t c then 0 else 10) with k:=g.k+1} else zbV g (if zdU g k t c then 0 else 10):=rfl
    rw [hso] at hdef hne hle
    generalize zxQ (gd g.l ⟨0,0,0,⟨#[]⟩⟩ g.k) ⟨k,t,c,⟨#[]⟩⟩=so at*
    have hcx:(gd g.l ⟨0,0,0,⟨#[]⟩⟩ g.k).cells.length=4:=rfl
    generalize (gd g.l ⟨0,0,0,⟨#[]⟩⟩ g.k).cells=xc at*
    have hUs:=fun L hL x=>hU L hL x so
    generalize zbV g (if so=true then 0 else 10)=f at*
    clear hU
    generalize y.cells=yc at*
    by_cases hf:f.e=0
    · have hbe : (f.e == 0) = true := by rw [hf]; rfl
      rw [if_pos hf] at hdef
      rw [hdef]
      obtain ⟨fl,fk,fe⟩:=f
      obtain ⟨l,k0,e0⟩:=g
      simp only at*
      obtain ⟨rfl,rfl⟩:=hle
      subst hf
      simp only [guC] at*
      generalize fk+1=k1 at*
      simp -implicitDefEqProofs [zcA,zan,zak,hyc,zaA,setAt,hb,hb2,zae,hltI,ia,zaf,hcx,hcl,hg0,hs0,zbF,zah,zam,hL,huy,hS,hUs,hgs,hss,w1,htr]
    · have hbe:(f.e==0)=false:=beq_false_of_ne hf
      rw [if_neg hf] at hdef
      rw [hdef]
      simp only [guC] at hb hb2
      simp -implicitDefEqProofs [zcA,zan,zak,hyc,zaA,setAt,hb,hb2,zae,hltI,ia,zaf,hcx,hcl,hg0,hs0,zbF,zah,zam,hL,huy,hS,hUs,hgs,hss,w1,htr,hbe]
  · have hltI : ¬ (g.k : Int) < (g.l.length : Int) := by omega
    have hso:zdU g k t c=false:=by unfold zdU;rw [decide_eq_false hlt];rfl
    have hdef:zbi g k t c=zbV g 10:=by
      unfold zbi
      rw [hso]
      simp only [Bool.false_eq_true,if_false]
      rw [if_neg]
      unfold zbV
      split
      · show ¬(10:Int)=0;decide
      · assumption
    have hUs:=fun L hL x=>hU L hL x false
    simp only [Bool.false_eq_true,if_false] at hUs
    have hf:¬(zbV g 10).e=0:=by
      unfold zbV
      split
      · show ¬(10:Int)=0;decide
      · assumption
    have hbe:((zbV g 10).e==0)=false:=beq_false_of_ne hf
    rw [hdef]
    generalize zbV g 10=f at*
    generalize y.cells=yc at*
    simp only [guC] at hb hb2
    simp -implicitDefEqProofs [zcA,zan,zak,hyc,zaA,setAt,hb,hb2,zae,hltI,zaf,hcl,hg0,hs0,zbF,zah,zam,hL,huy,hUs,hgs,hss,htr,hbe]
def zsZ (g:Gd):Gd:=zbV g (if g.k=g.l.length then 0 else 12)
theorem zB4 (L:Lim) (h:zab) (bs:List (List zaa)) (ts:List Nat) (i:Nat) (g:Gd) (hb:bs[i]?=some (guC g)) (hL:L.rob≤h.blks.length):
    zag ctx L zcJ [pA h.blks.length i 0] (hx h bs ts)=some (.int .i64 (zsZ g).e,hx h (bs.set i (guC (zsZ g))) ts):=by
  rw [zj0]
  have hU:=fun L hL so=>zxP L h bs ts i g so 12 hb hL
  have htr:=fun cs=>zik h bs ts i cs
  by_cases he:g.k=g.l.length
  · have hbe : ((g.k : Int) == (g.l.length : Int)) = true := by rw [he]; simp
    have hd:zsZ g=zbV g 0:=by unfold zsZ;rw [if_pos he]
    rw [hd]
    have hUs:=fun L hL=>hU L hL true
    simp only [if_true] at hUs
    generalize zbV g 0=f at*
    simp only [guC] at hb
    simp -implicitDefEqProofs [zcK,zan,zak,hb,zae,hbe,hUs,hL,htr]
  · have hbe : ((g.k : Int) == (g.l.length : Int)) = false := beq_false_of_ne (by omega)
    have hd:zsZ g=zbV g 12:=by unfold zsZ;rw [if_neg he]
    rw [hd]
    have hUs:=fun L hL=>hU L hL false
    simp only [Bool.false_eq_true,if_false] at hUs
    generalize zbV g 12=f at*
    simp only [guC] at hb
    simp -implicitDefEqProofs [zcK,zan,zak,hb,zae,hbe,hUs,hL,htr]
end Go.Av
namespace Go.Av
def rotl (x:W64) (n:Nat):W64:=(x <<< (n % 64))|||(x >>> (64 - n % 64))
theorem zJf (L:Lim) (h:zab) (x:W64) (n:Nat) (hn:n < 9223372036854775808):zag ctx L zbh [wd x,.int .i64 n] h=some (wd (rotl x n),h):=by
  rw [zhR]
  have e1:IntKind.u64.wrap (n:Int)=n:=zzq n (by omega)
  have e2:zew .and (.int .u64 (n:Int)) (.int .u64 63)=some (.int .u64 ((n % 64:Nat):Int)):=by
    rw [zlZ]
    show some (zaa.int .u64 (IntKind.u64.wrap ((BitVec.ofInt 64 (n:Int)&&&BitVec.ofInt 64 (63:Int):BitVec 64).toNat:Int)))=_
    have:(BitVec.ofInt 64 (n:Int)&&&BitVec.ofInt 64 (63:Int):BitVec 64).toNat=n % 64:=by
      rw [BitVec.toNat_and]
      have h1:(BitVec.ofInt 64 (n:Int)).toNat=n:=by rw [BitVec.toNat_ofInt];omega
      have h2:(BitVec.ofInt 64 (63:Int)).toNat=2 ^ 6 - 1:=by decide
      rw [h1,h2,Nat.and_two_pow_sub_one_eq_mod]
    rw [this,zzq _ (by omega)]
  have e3:zew .sub (.int .u64 64) (.int .u64 ((n % 64:Nat):Int))=some (.int .u64 ((64 - n % 64:Nat):Int)):=by
    rw [zzf]
    have:(64:Int) - ((n % 64:Nat):Int)=((64 - n % 64:Nat):Int):=by omega
    rw [this,zzq _ (by omega)]
  generalize hm:n % 64=m at e2 e3
  have hm64:m≤64:=by omega
  generalize hk:64 - m=k at e3
  have hk64:k≤64:=by omega
  simp [zcY,e1,e2,e3,zxY,znj,hm64,hk64, -zlZ, -zzf, -zl0, -zdO]
  simp [rotl,hm,hk]
def zB5 (l:List W64) (x:Nat):W64:=gd l 0#64 x ^^^ gd l 0#64 (x+5) ^^^ gd l 0#64 (x+10) ^^^ gd l 0#64 (x+15) ^^^ gd l 0#64 (x+20)
def zF8 (l:List W64) (k x:Nat):W64:=(List.range k).foldl (fun c i=>if i % 5=x then c ^^^ gd l 0#64 i else c) 0
theorem zE2 (l:List W64) (k x:Nat):zF8 l (k+1) x=if k % 5=x then zF8 l k x ^^^ gd l 0#64 k else zF8 l k x:=by
  simp [zF8,List.range_succ]
theorem zId (l:List W64) (x:Nat) (hx:x < 5):zF8 l 25 x=zB5 l x:=by
  unfold zF8 zB5
  have:x=0∨x=1∨x=2∨x=3∨x=4:=by omega
  rcases this with rfl | rfl | rfl | rfl | rfl <;> simp [show List.range 25=[0,1,2,3,4,5,6,7,8,9,10,11,12,13,14,15,16,17,18,19,20,21,22,23,24] from by decide]
def zs4 (l:List W64) (i:Nat):W64:=gd l 0#64 i ^^^ (zB5 l ((i % 5+4) % 5) ^^^ rotl (zB5 l ((i % 5+1) % 5)) 1)
def zqP (l:List W64):List W64:=tab 25 (zs4 l)
theorem zxS (k:Nat):(k:Int).tmod 5=((k % 5:Nat):Int):=by rw [Int.tmod_eq_emod_of_nonneg (by omega)];omega
theorem zzo {fr:Fr} {h:zab} {R:Option (AEx × Fr × zab)} (s:List W64) (hs:s.length=25) (b z:List zaa)
    (hF:run ctx (zau h) (.loop zaD) fr (hx h [b,z,cW (tab 5 fun _=>0#64)] [])=R)
    (h8:fr 8=.agg (cW s)) (h9:fr 9=.int .i64 0) (h3:fr 3=pA h.blks.length 2 0):
    ∃ fr',R=some (.exit 0,fr',hx h [b,z,cW (tab 5 (zB5 s))] [])∧∀ t,t∉wr zaD→fr' t=fr t:=by
  obtain ⟨e,fr',h',rfl,⟨rfl,rfl⟩,hk⟩:=zaj hF 25
    (fun k fr hh=>fr 9=.int .i64 k∧hh=hx h [b,z,cW (tab 5 (zF8 s k))] [])
    (fun e fr hh=>e=.exit 0∧hh=hx h [b,z,cW (tab 5 (zB5 s))] [])
    ⟨h9,rfl⟩ (by
      rintro k fr1 hh hkN hkeep ⟨g9,rfl⟩
      have g8:=(hkeep 8 (by decide)).trans h8
      have g3:=(hkeep 3 (by decide)).trans h3
      by_cases hlt:k < 25
      · have w2 : IntKind.i64.wrap ((k : Int) + 1) = k + 1 := wrap_i64 (by omega) (by omega)
        have e5:=zxS k
        have hset:(tab 5 (zF8 s k)).set (k % 5) (zF8 s k (k % 5) ^^^ gd s 0#64 k)=tab 5 (zF8 s (k+1)):=by
          rw [zvX]
          refine zfA fun j hj=>?_
          rw [zE2]
          by_cases hj:j=k % 5
          · subst hj;simp
          · simp [hj,Ne.symm hj]
        generalize hm:k % 5=m at e5 hset
        have hm5:m < 5:=by omega
        simp [zaD,zau,g9,g8,g3,hlt,show (k:Int) < 25 by omega,w2,zzs,zOk,hs,zi0,e5,zgb,hm5,show m≤4 by omega,zkQ,hset]
      · have : k = 25 := by omega
        subst this
        simp [zaD,g9,g8,g3]
        exact congrArg (fun c=>hx h [b,z,c] []) (congrArg cW (zfA fun j hj=>zId s j hj)))
  exact ⟨fr',rfl,hk⟩
theorem zzp {fr:Fr} {h:zab} {R:Option (AEx × Fr × zab)} (s:List W64) (hs:s.length=25) (z:List zaa)
    (hF:run ctx (zau h) (.loop zbe) fr (hx h [cW s,z,cW (tab 5 (zB5 s))] [])=R)
    (h1:fr 1=pA h.blks.length 0 0) (h3:fr 3=pA h.blks.length 2 0) (h21:fr 21=.int .i64 0):
    ∃ fr',R=some (.exit 2,fr',hx h [cW (zqP s),z,cW (tab 5 (zB5 s))] [])∧∀ t,t∉wr zbe→fr' t=fr t:=by
  obtain ⟨e,fr',h',rfl,⟨rfl,rfl⟩,hk⟩:=zaj hF 25
    (fun k fr hh=>fr 21=.int .i64 k∧hh=hx h [cW (tab 25 fun j=>if j < k then zs4 s j else gd s 0#64 j),z,cW (tab 5 (zB5 s))] [])
    (fun e fr hh=>e=.exit 2∧hh=hx h [cW (zqP s),z,cW (tab 5 (zB5 s))] [])
    ⟨h21, by simp [← zEV 0#64 hs]⟩ (by
      rintro k fr1 hh hkN hkeep ⟨g21,rfl⟩
      have g1:=(hkeep 1 (by decide)).trans h1
      have g3:=(hkeep 3 (by decide)).trans h3
      by_cases hlt:k < 25
      · have w2 : IntKind.i64.wrap ((k : Int) + 1) = k + 1 := wrap_i64 (by omega) (by omega)
        have e5:=zxS k
        have hset : (tab 25 fun j => if j < k then zs4 s j else gd s 0#64 j).set k (zs4 s k) = tab 25 fun j => if j < k + 1 then zs4 s j else gd s 0#64 j := by
          rw [zvX]
          refine zfA fun j hj=>?_
          by_cases h1:j=k
          · subst h1;simp
          · by_cases h2:j < k
            · simp [h1,h2,show j < k+1 by omega]
            · simp [h1,h2,show ¬j < k+1 by omega]
        have hth:zs4 s k=gd s 0#64 k ^^^ (zB5 s ((k % 5+4) % 5) ^^^ rotl (zB5 s ((k % 5+1) % 5)) 1):=rfl
        have hold:(fun j=>if j < k then zs4 s j else gd s 0#64 j) k=gd s 0#64 k:=by simp
        have w4:IntKind.i64.wrap (((k % 5:Nat):Int)+4)=((k % 5+4:Nat):Int):=(wrap_i64 (by omega) (by omega)).trans (by omega)
        have w1:IntKind.i64.wrap (((k % 5:Nat):Int)+1)=((k % 5+1:Nat):Int):=(wrap_i64 (by omega) (by omega)).trans (by omega)
        have t4:=zxS (k % 5+4)
        have t1:=zxS (k % 5+1)
        generalize hga:(k % 5+4) % 5=a at t4 hth
        generalize hgb:(k % 5+1) % 5=b at t1 hth
        generalize hm:k % 5=m at e5 w4 w1 t4 t1
        rw [hth] at hset
        have ha5:a < 5:=by omega
        have hb5:b < 5:=by omega
        simp only [Int.natCast_add,Int.cast_ofNat_Int] at w4 w1 t4 t1
        have hrot:=fun L h x=>zJf L h x 1 (by decide)
        simp only [Int.natCast_one] at hrot
        simp [zbe,zau,g21,g1,g3,hlt,show (k:Int) < 25 by omega,w2,zi0,e5,w4,w1,t4,t1,zgb,ha5,hb5,zkQ,hset,hrot,show k≤24 by omega]
      · have : k = 25 := by omega
        subst this
        simp [zbe,g21]
        exact congrArg (fun c=>hx h [c,z,cW (tab 5 (zB5 s))] []) (congrArg cW (zfA fun j hj=>by simp [hj])))
  exact ⟨fr',rfl,hk⟩
theorem zIf (L:Lim) (h:zab) (s:List W64) (hs:s.length=25):zag ctx L zcM [.agg (cW s)] h=some (.agg (cW (zqP s)),h):=by
  rw [zjT]
  simp [zeq,zau,zbk,zee,zaa.okV,zaa.cells,zaf,hs]
  generalize hF:run ctx _ (.loop _) _ _=R
  obtain ⟨fr1,rfl,hk1⟩:=zzo s hs _ _ hF (by simp) (by simp) (by simp)
  simp [hk1,wr,zaD,zgR]
  generalize hF:run ctx _ (.loop _) _ _=R
  obtain ⟨fr2,rfl,hk2⟩:=zzp s hs _ hF (by simp [hk1,wr,zaD,zgR]) (by simp [hk1,wr,zaD,zgR]) (by simp)
  simp [hk1,hk2,wr,zaD,zbe,zgR,zaf,zqP,zbF,zah]
end Go.Av
namespace Go.Av
def pxy:Nat→Nat × Nat
  | 0=>(1,0)
  | t+1=>((pxy t).2,(2*(pxy t).1+3*(pxy t).2) % 5)
theorem zJh:∀ t,(pxy t).1 < 5∧(pxy t).2 < 5
  | 0=>by simp [pxy]
  | t + 1 => by
    have:=zJh t
    simp only [pxy]
    omega
def zni (l:List W64):Nat→List W64
  | 0=>tab 25 fun j=>if j=0 then gd l 0#64 0 else 0#64
  | t+1=>(zni l t).set ((pxy t).2+5*((2*(pxy t).1+3*(pxy t).2) % 5)) (rotl (gd l 0#64 ((pxy t).1+5*(pxy t).2)) ((t+1)*(t+2) / 2))
@[simp] theorem zB6 (l:List W64):∀ t,(zni l t).length=25
  | 0=>by simp [zni]
  | t+1=>by simp [zni,zB6 l t]
def zof (l:List W64):List W64:=zni l 24
theorem zAZ {fr:Fr} {h:zab} {R:Option (AEx × Fr × zab)} (s:List W64) (hs:s.length=25) (z:List zaa)
    (hF:run ctx (zau h) (.loop zbf) fr (hx h [z,cW (zni s 0)] [])=R)
    (h1:fr 1=.vptr (cW s) 0) (h3:fr 3=pA h.blks.length 1 0) (h4:fr 4=.int .i64 1) (h5:fr 5=.int .i64 0) (h11:fr 11=.int .i64 0):
    ∃ fr',R=some (.exit 0,fr',hx h [z,cW (zof s)] [])∧∀ t,t∉wr zbf→fr' t=fr t:=by
  obtain ⟨e,fr',h',rfl,⟨rfl,rfl⟩,hk⟩:=zaj hF 24
    (fun k fr hh=>fr 11=.int .i64 k∧fr 4=.int .i64 ((pxy k).1:Nat)∧fr 5=.int .i64 ((pxy k).2:Nat)∧hh=hx h [z,cW (zni s k)] [])
    (fun e fr hh=>e=.exit 0∧hh=hx h [z,cW (zof s)] [])
    ⟨h11,h4,h5,rfl⟩ (by
      rintro k fr1 hh hkN hkeep ⟨g11,g4,g5,rfl⟩
      have g1:=(hkeep 1 (by decide)).trans h1
      have g3:=(hkeep 3 (by decide)).trans h3
      by_cases hlt:k < 24
      · obtain ⟨hx5,hy5⟩:=zJh k
        have hst:zni s (k+1)=(zni s k).set ((pxy k).2+5*((2*(pxy k).1+3*(pxy k).2) % 5)) (rotl (gd s 0#64 ((pxy k).1+5*(pxy k).2)) ((k+1)*(k+2) / 2)):=rfl
        have hp:pxy (k+1)=((pxy k).2,(2*(pxy k).1+3*(pxy k).2) % 5):=rfl
        generalize (pxy k).1=x at*
        generalize (pxy k).2=y at*
        have w1:IntKind.i64.wrap ((k:Int)+1)=k+1:=wrap_i64 (by omega) (by omega)
        have w2:IntKind.i64.wrap ((k:Int)+2)=k+2:=wrap_i64 (by omega) (by omega)
        have hmul:(k+1)*(k+2)≤600:=Nat.le_trans (Nat.mul_le_mul (show k+1≤24 by omega) (show k+2≤25 by omega)) (by decide)
        have w3:IntKind.i64.wrap (((k:Int)+1)*(k+2))=(((k+1)*(k+2):Nat):Int):=by
          rw [← zit ((k+1)*(k+2)) (by omega)];simp only [Int.natCast_mul,Int.natCast_add,Int.cast_ofNat_Int]
        have w4:=zQh ((k+1)*(k+2))
        have w5:=zit ((k+1)*(k+2) / 2) (by omega)
        have w6:IntKind.i64.wrap (2*(x:Int))=((2*x:Nat):Int):=by
          rw [← zit (2*x) (by omega)];simp only [Int.natCast_mul,Int.natCast_add,Int.cast_ofNat_Int]
        have w7:IntKind.i64.wrap (3*(y:Int))=((3*y:Nat):Int):=by
          rw [← zit (3*y) (by omega)];simp only [Int.natCast_mul,Int.natCast_add,Int.cast_ofNat_Int]
        have w8:IntKind.i64.wrap (((2*x:Nat):Int)+((3*y:Nat):Int))=((2*x+3*y:Nat):Int):=by
          rw [← zit (2*x+3*y) (by omega)];simp only [Int.natCast_mul,Int.natCast_add,Int.cast_ofNat_Int]
        have w9:=zxS (2*x+3*y)
        generalize hn:(2*x+3*y) % 5=n at*
        have hn5:n < 5:=by omega
        have w10:IntKind.i64.wrap (5*(n:Int))=((5*n:Nat):Int):=by
          rw [← zit (5*n) (by omega)];simp only [Int.natCast_mul,Int.natCast_add,Int.cast_ofNat_Int]
        have w11:IntKind.i64.wrap ((y:Int)+((5*n:Nat):Int))=((y+5*n:Nat):Int):=by
          rw [← zit (y+5*n) (by omega)];simp only [Int.natCast_mul,Int.natCast_add,Int.cast_ofNat_Int]
        have w12:IntKind.i64.wrap (5*(y:Int))=((5*y:Nat):Int):=by
          rw [← zit (5*y) (by omega)];simp only [Int.natCast_mul,Int.natCast_add,Int.cast_ofNat_Int]
        have w13:IntKind.i64.wrap ((x:Int)+((5*y:Nat):Int))=((x+5*y:Nat):Int):=by
          rw [← zit (x+5*y) (by omega)];simp only [Int.natCast_mul,Int.natCast_add,Int.cast_ofNat_Int]
        have hd25:y+5*n < 25:=by omega
        have hd24:y+5*n≤24:=by omega
        have hs25:x+5*y < 25:=by omega
        generalize hd:y+5*n=d at*
        generalize hsr:x+5*y=sr at*
        generalize hr:(k+1)*(k+2) / 2=r at*
        generalize (k+1)*(k+2)=kk at*
        generalize 2*x+3*y=xy at*
        generalize 5*n=n5 at*
        generalize 5*y=y5 at*
        generalize 2*x=x2 at*
        generalize 3*y=y3 at*
        have hrot:=fun L h v=>zJf L h v r (by omega)
        simp [zbf,zau,g11,g1,g3,g4,g5,hlt,show (k:Int) < 24 by omega,w1,w2,w3,w4,w5,w6,w7,w8,w9,w10,w11,w12,w13,zi0,zlY,zgb,ztb,hd25,hd24,hs25,hs,hrot,← hst,hp]
      · have : k = 24 := by omega
        subst this
        simp [zbf,g11,zof])
  exact ⟨fr',rfl,hk⟩
theorem zGe (L:Lim) (h:zab) (s:List W64) (hs:s.length=25):zag ctx L zcN [.agg (cW s)] h=some (.agg (cW (zof s)),h):=by
  rw [zjU]
  have e0 : cW ((tab 25 fun _ => 0#64).set 0 (gd s 0#64 0)) = cW (zni s 0) := by
    rw [zvX];exact congrArg cW (zfA fun j _=>rfl)
  simp [zer,zau,zbk,zaf,hs,zaA,zbF,zah,e0]
  generalize hF:run ctx _ (.loop _) _ _=R
  obtain ⟨fr1,rfl,hk1⟩:=zAZ s hs _ hF (by simp) (by simp) (by simp) (by simp) (by simp)
  simp [hk1,wr,zbf,zgR,zaf,zof,zbF,zah]
def zLQ (l:List W64) (i:Nat):W64:=gd l 0#64 i ^^^ (gd l 0#64 (i - i % 5+(i+2) % 5)&&&~~~ gd l 0#64 (i - i % 5+(i+1) % 5))
def zGg (l:List W64):List W64:=tab 25 (zLQ l)
theorem zGi {fr:Fr} {h:zab} {R:Option (AEx × Fr × zab)} (s:List W64) (hs:s.length=25) (z:List zaa)
    (hF:run ctx (zau h) (.loop zby) fr (hx h [z,cW s] [])=R)
    (h1:fr 1=.vptr (cW s) 0) (h3:fr 3=pA h.blks.length 1 0) (h7:fr 7=.int .i64 0):
    ∃ fr',R=some (.exit 0,fr',hx h [z,cW (zGg s)] [])∧∀ t,t∉wr zby→fr' t=fr t:=by
  obtain ⟨e,fr',h',rfl,⟨rfl,rfl⟩,hk⟩:=zaj hF 25
    (fun k fr hh=>fr 7=.int .i64 k∧hh=hx h [z,cW (zCA 25 (zLQ s) (gd s 0#64) k)] [])
    (fun e fr hh=>e=.exit 0∧hh=hx h [z,cW (zGg s)] [])
    ⟨h7, by simp [zEW, ← zEV 0#64 hs]⟩ (by
      rintro k fr1 hh hkN hkeep ⟨g7,rfl⟩
      have g1:=(hkeep 1 (by decide)).trans h1
      have g3:=(hkeep 3 (by decide)).trans h3
      by_cases hlt:k < 25
      · have hset:(zCA 25 (zLQ s) (gd s 0#64) k).set k (zLQ s k)=zCA 25 (zLQ s) (gd s 0#64) (k+1):=zH8 ..
        have hk1:zLQ s k=gd s 0#64 k ^^^ (gd s 0#64 (k - k % 5+(k+2) % 5)&&&~~~ gd s 0#64 (k - k % 5+(k+1) % 5)):=rfl
        rw [hk1] at hset
        clear hk1
        have w0:=zxS k
        have w1:IntKind.i64.wrap ((k:Int) - ((k % 5:Nat):Int))=((k - k % 5:Nat):Int):=by
          rw [← zit (k - k % 5) (by omega)];congr 1;omega
        have w2:IntKind.i64.wrap ((k:Int)+1)=((k+1:Nat):Int):=wrap_i64 (by omega) (by omega)
        have w3:IntKind.i64.wrap ((k:Int)+2)=((k+2:Nat):Int):=wrap_i64 (by omega) (by omega)
        have w4:=zxS (k+1)
        have w5:=zxS (k+2)
        have w6:IntKind.i64.wrap (((k - k % 5:Nat):Int)+(((k+1) % 5:Nat):Int))=((k - k % 5+(k+1) % 5:Nat):Int):=by
          rw [← zit (k - k % 5+(k+1) % 5) (by omega),Int.natCast_add]
        have w7:IntKind.i64.wrap (((k - k % 5:Nat):Int)+(((k+2) % 5:Nat):Int))=((k - k % 5+(k+2) % 5:Nat):Int):=by
          rw [← zit (k - k % 5+(k+2) % 5) (by omega),Int.natCast_add]
        have ha:k - k % 5+(k+1) % 5 < 25:=by omega
        have hb:k - k % 5+(k+2) % 5 < 25:=by omega
        generalize k - k % 5+(k+1) % 5=a at*
        generalize k - k % 5+(k+2) % 5=b at*
        generalize (k+1) % 5=c at*
        generalize (k+2) % 5=d at*
        generalize k - k % 5=q at*
        generalize k % 5=r at*
        have w8:((k+1:Nat):Int)=(k:Int)+1:=rfl
        generalize hk1:k+1=k1 at*
        generalize k+2=k2 at*
        simp [zby,zau,g7,g1,g3,hlt,show (k:Int) < 25 by omega,show k≤24 by omega,w0,w1,w2,w3,w4,w5,w6,w7,zi0,zgb,ztb,ha,hb,zK9,hs,hset,hk1,show k1≤25 by omega]
        try omega
      · have : k = 25 := by omega
        subst this
        simp [zby,g7,zH9,zGg])
  exact ⟨fr',rfl,hk⟩
theorem zMD (L:Lim) (h:zab) (s:List W64) (hs:s.length=25):zag ctx L zdw [.agg (cW s)] h=some (.agg (cW (zGg s)),h):=by
  rw [zlm]
  simp [zfv,zau,zbk,zaf,hs,zbF,zah]
  generalize hF:run ctx _ (.loop _) _ _=R
  obtain ⟨fr1,rfl,hk1⟩:=zGi s hs _ hF (by simp) (by simp) (by simp)
  simp [hk1,wr,zby,zgR,zaf,zGg,zbF,zah]
def rcW:List W64:=[1#64,32898#64,9223372036854808714#64,9223372039002292224#64,32907#64,2147483649#64,9223372039002292353#64,9223372036854808585#64,138#64,136#64,2147516425#64,2147483658#64,2147516555#64,9223372036854775947#64,9223372036854808713#64,9223372036854808579#64,9223372036854808578#64,9223372036854775936#64,32778#64,9223372039002259466#64,9223372039002292353#64,9223372036854808704#64,2147483649#64,9223372039002292232#64]
theorem zJw (fr:Fr):ctx.ev fr (.g 3)=.vptr (cW rcW) 0:=rfl
theorem zyx (L:Lim) (h:zab) (k:Nat) (hk:k < 24):zag ctx L zd5 [.int .i64 k] h=some (wd (gd rcW 0#64 k),h):=by
  rw [zmE]
  have hl:rcW.length=24:=rfl
  simp [zf2,show ¬(24:Int)≤k by omega,show ¬(k:Int) < 0 by omega,zJw,ztb,hk,hl]
def zua (l:List W64) (k:Nat):List W64:=(zGg (zof (zqP l))).set 0 (gd (zGg (zof (zqP l))) 0#64 0 ^^^ gd rcW 0#64 k)
@[simp] theorem zLR (l:List W64):(zqP l).length=25:=by simp [zqP]
@[simp] theorem zLS (l:List W64):(zof l).length=25:=by simp [zof]
@[simp] theorem zO0 (l:List W64):(zGg l).length=25:=by simp [zGg]
@[simp] theorem zLT (l:List W64) (k:Nat):(zua l k).length=25:=by simp [zua]
theorem zCH (L:Lim) (h:zab) (s:List W64) (hs:s.length=25) (k:Nat) (hk:k < 24):zag ctx L zcL [.agg (cW s),.int .i64 k] h=some (.agg (cW (zua s k)),h):=by
  rw [zkf]
  simp [zem,zau,zbk,zee,zaa.okV,zaa.cells,zaf,hs,zbF,zah,zIf,zGe,zMD,zyx,hk,zua]
def zyA (l:List W64) (k:Nat):List W64:=(List.range k).foldl zua l
theorem zud (l:List W64) (k:Nat):zyA l (k+1)=zua (zyA l k) k:=by simp [zyA,List.range_succ]
theorem zwG (l:List W64) (hl:l.length=25):∀ k,(zyA l k).length=25
  | 0=>by simpa [zyA] using hl
  | k+1=>by rw [zud];simp
def zol (l:List W64):List W64:=zyA l 24
theorem zwH {fr:Fr} {h:zab} {R:Option (AEx × Fr × zab)} (s:List W64) (hs:s.length=25) (z:List zaa)
    (hF:run ctx (zau h) (.loop zaZ) fr (hx h [cW s,z] [])=R)
    (h1:fr 1=pA h.blks.length 0 0) (h4:fr 4=.int .i64 0):
    ∃ fr',R=some (.exit 0,fr',hx h [cW (zol s),z] [])∧∀ t,t∉wr zaZ→fr' t=fr t:=by
  obtain ⟨e,fr',h',rfl,⟨rfl,rfl⟩,hk⟩:=zaj hF 24
    (fun k fr hh=>fr 4=.int .i64 k∧hh=hx h [cW (zyA s k),z] [])
    (fun e fr hh=>e=.exit 0∧hh=hx h [cW (zol s),z] [])
    ⟨h4,rfl⟩ (by
      rintro k fr1 hh hkN hkeep ⟨g4,rfl⟩
      have g1:=(hkeep 1 (by decide)).trans h1
      by_cases hlt:k < 24
      · have w1 : IntKind.i64.wrap ((k : Int) + 1) = k + 1 := wrap_i64 (by omega) (by omega)
        have hl:=zwG s hs k
        simp [zaZ,zau,g4,g1,hlt,show (k:Int) < 24 by omega,w1,zaf,hl,zbF,zah,zCH,zud]
      · have : k = 24 := by omega
        subst this
        simp [zaZ,g4,zol])
  exact ⟨fr',rfl,hk⟩
theorem zez (l:List W64) (hl:l.length=25):(zol l).length=25:=zwG l hl 24
theorem zpI (L:Lim) (h:zab) (s:List W64) (hs:s.length=25):zag ctx L za8 [.agg (cW s)] h=some (.agg (cW (zol s)),h):=by
  rw [ziZ]
  simp [zds,zau,zbk,zee,zaa.okV,zaa.cells,zaf,hs]
  generalize hF:run ctx _ (.loop _) _ _=R
  obtain ⟨fr1,rfl,hk1⟩:=zwH s hs _ hF (by simp) (by simp)
  simp [hk1,wr,zaZ,zgR,zaf,zez,hs,zbF,zah]
end Go.Av
namespace Go.Av
def bit (l:List W64) (j:Nat):Bool:=(gd l 0#64 (j / 320+5*(j / 64 % 5))).getLsbD (j % 64)
end Go.Av
namespace Go.Av
end Go.Av
namespace Go.Av
end Go.Av
namespace Go.Av
end Go.Av
namespace Go.Av
end Go.Av
namespace Go.Av
end Go.Av
namespace Go.Av
def byW (w:W64) (k:Nat):Int:=((w >>> (8*k)).toNat % 256:Nat)
def zdk (l:List W64):List Int:=tab (8*l.length) fun j=>byW (gd l 0#64 (j / 8)) (j % 8)
theorem zB8 (w:W64):IntKind.u8.wrap (w.toNat:Int)=((w.toNat % 256:Nat):Int):=by
  unfold IntKind.wrap
  simp [IntKind.signed,IntKind.bits]
@[simp] theorem zOL (w:W64):zMz .u8 (wd w)=some (.int .u8 ((w.toNat % 256:Nat):Int)):=by
  unfold wd;rw [zd6,zB8]
theorem zwd {fr : Fr} {h : zab} {R : Option (AEx × Fr × zab)} (l : List W64) (bs : List (List zaa)) (i : Nat) (hi : i < l.length) (hl : l.length < 1000000) (f : Nat → Int) (hf : f = fun j => byW (gd l 0#64 (j / 8)) (j % 8))
    (hF:run ctx (zau h) (.loop zd0) fr (hx h bs (gT (eI .u8 (tab (8*i) f))))=R)
    (h3:fr 3=gL .nsl h.toks.length 0 (eI .u8 (tab (8*i) f))) (h5:fr 5=wd (gd l 0#64 i)) (h12:fr 12=.int .i64 0):
    ∃ fr',R=some (.exit 2,fr',hx h bs (gT (eI .u8 (tab (8*(i+1)) f))))∧fr' 3=gL .nsl h.toks.length 0 (eI .u8 (tab (8*(i+1)) f))∧∀ t,t∉wr zd0→fr' t=fr t:=by
  obtain ⟨e,fr',h',rfl,⟨rfl,rfl,h3'⟩,hk⟩:=zaj hF 8
    (fun k fr hh=>fr 12=.int .i64 k∧fr 5=wd (gd l 0#64 i >>> (8*k))∧fr 3=gL .nsl h.toks.length 0 (eI .u8 (tab (8*i+k) f))∧hh=hx h bs (gT (eI .u8 (tab (8*i+k) f))))
    (fun e fr hh=>e=.exit 2∧hh=hx h bs (gT (eI .u8 (tab (8*(i+1)) f)))∧fr 3=gL .nsl h.toks.length 0 (eI .u8 (tab (8*(i+1)) f)))
    ⟨h12, by simpa using h5, h3, rfl⟩ (by
      rintro k fr1 hh hkN hkeep ⟨g12,g5,g3,rfl⟩
      by_cases hlt:k < 8
      · have w1 : IntKind.i64.wrap ((k : Int) + 1) = k + 1 := wrap_i64 (by omega) (by omega)
        have hfk:((((gd l 0#64 i >>> (8*k)).toNat % 256:Nat):Int))=f (8*i+k):=by
          rw [hf];simp only [byW]
          rw [show (8*i+k) / 8=i by omega,show (8*i+k) % 8=k by omega]
        have hsh:gd l 0#64 i >>> (8*k) >>> 8=gd l 0#64 i >>> (8*(k+1)):=by
          rw [← BitVec.shiftRight_add];rfl
        have hroom:8*i+k+1 < 274877906944:=by omega
        generalize hw:gd l 0#64 i >>> (8*k)=w at*
        have hs8:zew .shr (wd w) (.int .u64 8)=some (wd (w >>> 8)):=znj w .u64 8 (by decide)
        generalize hm:8*i+k=m at*
        simp [zd0,g12,g5,g3,hlt,show (k:Int) < 8 by omega,w1,zau,zaA,rep,zaa.cells,zaa.okV,chunks,hfk,zii,zqq,zat,hroom,hs8,hsh, -zdO]
        simp [← Nat.add_assoc,hm]
      · have : k = 8 := by omega
        subst this
        simp [zd0,g12,g3,Nat.mul_add])
  exact ⟨fr',rfl,h3',hk⟩
theorem zCa {fr : Fr} {h : zab} {R : Option (AEx × Fr × zab)} (l : List W64) (x : zaa) (bs : List (List zaa)) (hl : l.length < 1000000) (f : Nat → Int) (hf : f = fun j => byW (gd l 0#64 (j / 8)) (j % 8)) (hx6 : RdW h x l)
    (hF:run ctx (zau h) (.loop zhs) fr (hx h bs [])=R)
    (h3:fr 3=.nsl) (h6:fr 6=x) (h7:fr 7=.int .i64 l.length) (h8:fr 8=.int .i64 0):
    ∃ fr',R=some (.exit 0,fr',hx h bs (gT (eI .u8 (zdk l))))∧fr' 3=gL .nsl h.toks.length 0 (eI .u8 (zdk l)):=by
  obtain ⟨r1,p,r2,r3⟩:=hx6
  obtain ⟨e,fr',h',rfl,⟨rfl,rfl,h3'⟩,hk⟩:=zaj hF l.length
    (fun k fr hh=>fr 8=.int .i64 k∧fr 3=gL .nsl h.toks.length 0 (eI .u8 (tab (8*k) f))∧hh=hx h bs (gT (eI .u8 (tab (8*k) f))))
    (fun e fr hh=>e=.exit 0∧hh=hx h bs (gT (eI .u8 (zdk l)))∧fr 3=gL .nsl h.toks.length 0 (eI .u8 (zdk l)))
    ⟨h8, by simpa [tab, gL] using h3, by simp [tab, gT]⟩ (by
      rintro k fr1 hh hkN hkeep ⟨g8,g3,rfl⟩
      have g6:=(hkeep 6 (by decide)).trans h6
      have g7:=(hkeep 7 (by decide)).trans h7
      by_cases hlt:k < l.length
      · have w1 : IntKind.i64.wrap ((k : Int) + 1) = k + 1 := wrap_i64 (by omega) (by omega)
        simp [zhs,g8,g6,g7,hlt,r2 k hlt,r3 k _ _ hlt]
        generalize hF:run ctx _ (.loop _) _ _=R
        obtain ⟨fr2,rfl,q1,q2⟩:=zwd l bs k hlt hl f hf hF (by simp [g3]) (by simp) (by simp)
        simp [q1,q2,wr,zd0,zgR,g8,w1]
        exact hlt
      · have : k = l.length := by omega
        subst this
        simp [zhs,g8,g7,g3,zdk,hf])
  exact ⟨fr',rfl,h3'⟩
theorem zAT (L:Lim) (h:zab) (l:List W64) (x:zaa) (hl:l.length < 1000000) (hx6:RdW h x l):zag ctx L zgO [x] h=some (.vsl false (eI .u8 (zdk l)),h):=by
  rw [zrZ]
  simp [zlC,hx6.1]
  generalize hF:run ctx _ (.loop _) _ _=R
  obtain ⟨fr1,rfl,q1⟩:=zCa l x _ hl _ rfl hx6 hF (by simp) (by simp) (by simp) (by simp)
  simp [q1,zpo]
@[simp] theorem zMv (l:List W64):(zdk l).length=8*l.length:=by simp [zdk]
end Go.Av
namespace Go.Av
theorem zuY (L:Lim) (h:zab) (s:List W64) (hs:s.length=25):zag ctx L zbM [.agg (cW s)] h=some (.agg (cI .u8 (zdk s)),h):=by
  rw [zka]
  have hb:=fun L bs=>zAT L (hx h (cW s :: bs) []) s (sA h.blks.length 0 0 1 25 (some 25)) (by omega) (RdW.sA [] 0 25 _ s hs (by simp))
  have e1:(zdk s).take 200=zdk s:=List.take_of_length_le (by simp [hs])
  simp [zev,zau,zgL,zee,zaa.okV,zaa.cells,hs,zli,hb,zzB,zaf,e1,zbF,zah]
def zbR (s:List W64) (n:Int):List zaa:=cW s++[.int .i64 n]
@[simp] theorem zOR (s:List W64) (n:Int):(zbR s n).length=s.length+1:=by simp [zbR]
theorem zya {s:List W64} {n:Int} {i:Nat} (h:decide (i < s.length)=true):(zbR s n)[i]?=some (wd (gd s 0#64 i)):=by
  have h':i < s.length:=by simpa using h
  unfold zbR;rw [List.getElem?_append_left (by simpa using h')];exact zIe h'
theorem zrN {s:List W64} {n:Int} (h:s.length=25):(zbR s n)[25]?=some (.int .i64 n):=by
  unfold zbR;rw [List.getElem?_append_right (by simp [h])];simp [h]
theorem zto {s:List W64} {n:Int} (h0:25 < (zbR s n).length) (h:s.length=25):(zbR s n)[25]=.int .i64 n:=by
  have:=zrN (n:=n) h
  rw [List.getElem?_eq_getElem h0] at this
  exact Option.some.inj this
theorem zqw {s:List W64} {n:Int} {i:Nat} (h0:i < (zbR s n).length) (h:decide (i < s.length)=true):(zbR s n)[i]=wd (gd s 0#64 i):=by
  have:=zya (n:=n) h
  rw [List.getElem?_eq_getElem h0] at this
  exact Option.some.inj this
theorem zFP {s:List W64} {n:Int} {i:Nat} (x:W64) (h:decide (i < s.length)=true):(zbR s n).set i (wd x)=zbR (s.set i x) n:=by
  have h':i < s.length:=by simpa using h
  unfold zbR;rw [List.set_append_left _ _ (by simpa using h')];simp
theorem zuZ {s:List W64} {n:Int} (m:Int) (h:s.length=25):(zbR s n).set 25 (.int .i64 m)=zbR s m:=by
  unfold zbR;rw [List.set_append_right _ _ (by simp [h])];simp [h]
theorem zu0 {s:List W64} {n:Int} (h:s.length=25):zeb true (zbR s n) 0 25=some (.agg (cW s)):=by
  unfold zeb zbR;simp [h]
theorem zye {s:List W64} {n:Int} (h:s.length=25):zeb true (zbR s n) 0 26=some (.agg (zbR s n)):=zxG (by simp [h])
theorem zCh {s t:List W64} {n:Int} (h:s.length=25) (ht:t.length=25):setAt (zbR s n) 0 (cW t)=zbR t n:=by
  have e:∀ (cs old rest:List zaa),old.length=cs.length→∀ pre:List zaa,setAt (pre++(old++rest)) pre.length cs=pre++(cs++rest):=by
    intro cs
    induction cs with
    | nil=>intro old rest h pre;cases old with | nil=>simp [setAt] | cons a l=>simp at h
    | cons c cs ih=>
      intro old rest h pre
      cases old with
      | nil=>simp at h
      | cons a l=>
        simp only [setAt]
        rw [List.set_append_right _ _ (Nat.le_refl _),Nat.sub_self]
        have:=ih l rest (by simpa using h) (pre++[c])
        simpa using this
  have:=e (cW t) (cW s) [.int .i64 n] (by simp [h,ht]) []
  simpa [zbR] using this
def zAY (s:List W64) (at_:Nat) (v:Int):List W64:=s.set (at_ / 8) (gd s 0#64 (at_ / 8) ^^^ (bw v <<< (8*(at_ % 8))))
@[simp] theorem zP8 (s:List W64) (n:Nat) (v:Int):(zAY s n v).length=s.length:=by simp [zAY]
theorem zFU (L:Lim) (h:zab) (bs:List (List zaa)) (ts:List Nat) (i:Nat) (s:List W64) (n:Int) (at_:Nat) (v:Int) (hs:s.length=25) (ha:at_ < 200) (hb:bs[i]?=some (zbR s n)) (hL:L.rob≤h.blks.length):
    zag ctx L zbd [pA h.blks.length i 0,.int .i64 (at_:Int),.int .u8 v] (hx h bs ts)=some (.tup [],hx h (bs.set i (zbR (zAY s at_ v) n)) ts):=by
  rw [zmT]
  have w0:=zyC at_ 8
  have w1:=zFj at_ 8
  have w2:IntKind.i64.wrap ((at_ / 8:Nat):Int)=((at_ / 8:Nat):Int):=zit _ (by omega)
  have w3:IntKind.i64.wrap (8*((at_ % 8:Nat):Int))=((8*(at_ % 8):Nat):Int):=by
    rw [← zit (8*(at_ % 8)) (by omega)];simp only [Int.natCast_mul,Int.natCast_add,Int.cast_ofNat_Int]
  have ha25:at_ / 8 < 25:=by omega
  have hb64:8*(at_ % 8)≤64:=by omega
  have hset:s.set (at_ / 8) (gd s 0#64 (at_ / 8) ^^^ (bw v <<< (8*(at_ % 8))))=zAY s at_ v:=rfl
  simp only [Int.cast_ofNat_Int] at w0 w1
  have hi:=(List.getElem?_eq_some_iff.1 hb).1
  generalize at_ / 8=a at*
  generalize hbb:8*(at_ % 8)=b at*
  generalize at_ % 8=c at*
  simp [zf6,w0,w1,w2,w3,zlY,zi0,zan,zak,zgb,ha25,hb,zya,hs,zxY,hb64,zam,hL,zFP,hset,show a≤25 by omega,zik, -zd6, -zl0]
def zwp (q:List W64 × Nat) (v:Int):List W64 × Nat:=if q.2+1=136 then (zol (zAY q.1 q.2 v),0) else (zAY q.1 q.2 v,q.2+1)
def zbt (q:List W64 × Nat) (l:List Int):List W64 × Nat:=l.foldl zwp q
theorem zIJ {q:List W64 × Nat} (v:Int) (h1:q.1.length=25) (h2:q.2 < 136):(zwp q v).1.length=25∧(zwp q v).2 < 136:=by
  unfold zwp
  split
  · exact ⟨zez _ (by simp [h1]),by simp⟩
  · exact ⟨by simp [h1],by simp only [];omega⟩
theorem zjO:∀ (l:List Int) {q:List W64 × Nat},q.1.length=25→q.2 < 136→(zbt q l).1.length=25∧(zbt q l).2 < 136
  | [],q,h1,h2=>⟨h1,h2⟩
  | v :: l, q, h1, h2 => by
    obtain ⟨a,b⟩:=zIJ v h1 h2
    exact zjO l a b
theorem zBG {L:Lim} {fr:Fr} {h:zab} {R:Option (AEx × Fr × zab)} (bs:List (List zaa)) (ts:List Nat) (i:Nat) (q:List W64 × Nat) (x:zaa) (l:List Int) (hl:l.length < 200000000000) (h1:q.1.length=25) (h2:q.2 < 136)
    (hb:bs[i]?=some (zbR q.1 q.2)) (hL:L.rob≤h.blks.length) (hr:RdI h .u8 x l)
    (hF:run ctx ⟨L.rob,L.rot,h.blks.length+bs.length,h.toks.length+ts.length⟩ (.loop zbL) fr (hx h bs ts)=R)
    (h0:fr 0=pA h.blks.length i 0) (h6:fr 6=x) (h7:fr 7=.int .i64 l.length) (h8:fr 8=.int .i64 0):
    ∃ fr',R=some (.exit 0,fr',hx h (bs.set i (zbR (zbt q l).1 (zbt q l).2)) ts):=by
  obtain ⟨r1,p,r2,r3⟩:=hr
  have hi:=(List.getElem?_eq_some_iff.1 hb).1
  obtain ⟨e,fr',h',rfl,⟨rfl,rfl⟩,hk⟩:=zaj hF l.length
    (fun k fr hh=>fr 8=.int .i64 k∧hh=hx h (bs.set i (zbR (zbt q (l.take k)).1 (zbt q (l.take k)).2)) ts)
    (fun e fr hh=>e=.exit 0∧hh=hx h (bs.set i (zbR (zbt q l).1 (zbt q l).2)) ts)
    ⟨h8,by
      have:bs.set i (zbR q.1 q.2)=bs:=by
        refine List.ext_getElem? fun j=>?_
        by_cases e:i=j
        · subst e;rw [List.getElem?_set_self hi,hb]
        · rw [List.getElem?_set_ne e]
      simp [zbt,this]⟩ (by
      rintro k fr1 hh hkN hkeep ⟨g8,rfl⟩
      have g0:=(hkeep 0 (by decide)).trans h0
      have g6:=(hkeep 6 (by decide)).trans h6
      have g7:=(hkeep 7 (by decide)).trans h7
      obtain ⟨c1,c2⟩:=zjO (l.take k) h1 h2
      by_cases hlt:k < l.length
      · have w1 : IntKind.i64.wrap ((k : Int) + 1) = k + 1 := wrap_i64 (by omega) (by omega)
        have hst:zbt q (l.take (k+1))=zwp (zbt q (l.take k)) (gd l 0 k):=by
          rw [zlr 0 hlt];simp [zbt]
        generalize zbt q (l.take k)=q' at*
        obtain ⟨s,n⟩:=q'
        simp only at c1 c2
        have w2:IntKind.i64.wrap ((n:Int)+1)=((n+1:Nat):Int):=wrap_i64 (by omega) (by omega)
        have hp:=zFU ⟨L.rob,L.rot,h.blks.length+bs.length,h.toks.length+ts.length⟩ h (bs.set i (zbR s n)) ts i s n n (gd l 0 k) c1 (by omega) (by simp [hi]) hL
        by_cases h136:n+1=136
        · have hst2 : zwp (s, n) (gd l 0 k) = (zol (zAY s n (gd l 0 k)), 0) := by simp only [zwp, h136, if_true]
          rw [hst2] at hst
          rw [h136] at w2
          simp [zto,zqw,zbL,g0,g6,g7,g8,hlt,w1,r2 k hlt,r3 k _ _ hlt,hi,zrN,c1,hp,w2,hst,zam,hL,zuZ,zu0,zpI,zez,zbF,zCh]
        · have hst2 : zwp (s, n) (gd l 0 k) = (zAY s n (gd l 0 k), n + 1) := by simp only [zwp, h136, if_false]
          rw [hst2] at hst
          have hne:(((n+1:Nat):Int)==136)=false:=beq_false_of_ne (by omega)
          generalize n+1=n1 at*
          simp [zto,zqw,zbL,g0,g6,g7,g8,hlt,w1,r2 k hlt,r3 k _ _ hlt,hi,zrN,c1,hp,w2,hst,zam,hL,zuZ,hne]
      · have : k = l.length := by omega
        subst this
        simp [zbL,g8,g7])
  exact ⟨fr',rfl⟩
theorem zGx (L:Lim) (h:zab) (bs:List (List zaa)) (ts:List Nat) (i:Nat) (q:List W64 × Nat) (x:zaa) (l:List Int) (hl:l.length < 200000000000) (h1:q.1.length=25) (h2:q.2 < 136)
    (hb:bs[i]?=some (zbR q.1 q.2)) (hL:L.rob≤h.blks.length) (hr:RdI h .u8 x l):
    zag ctx L zc7 [pA h.blks.length i 0,x] (hx h bs ts)=some (.tup [],hx h (bs.set i (zbR (zbt q l).1 (zbt q l).2)) ts):=by
  rw [zk1]
  simp [ze1,hr.1,zan,zak]
  generalize hF:run ctx _ (.loop _) _ _=R
  obtain ⟨fr',rfl⟩:=zBG bs ts i q x l hl h1 h2 hb hL hr hF (by simp) (by simp) (by simp) (by simp)
  simp [zan,zak,zik]
def zJJ (q:List W64 × Nat):List Int:=(zdk (zol (zAY (zAY q.1 q.2 6) 135 128))).take 32
theorem zJK (L:Lim) (h:zab) (b:Nat) (q:List W64 × Nat) (h1:q.1.length=25) (h2:q.2 < 136) (hb:h.blks[b]?=some (zbR q.1 q.2)):
    zag ctx L zcR [.ptr b 0] h=some (.agg (cI .u8 (zJJ q)),h):=by
  rw [zmR]
  obtain ⟨s,n⟩:=q
  simp only at h1 h2 hb
  have hld:∀ bs ts,zkn (hx h bs ts) (.ptr b 0) 26 true=some (.agg (zbR s n)):=fun bs ts=>(zhN h bs ts b 0 26 true _ hb).trans (zye h1)
  have ep:∀ (bs:List zaa) (s:List W64),s.length=25→zag ctx ⟨h.blks.length,h.toks.length,h.blks.length,h.toks.length⟩ zbd [pA h.blks.length 1 0,.int .i64 (n:Int),.int .u8 6] (hx h [bs,zbR s n] [])=some (.tup [],hx h [bs,zbR (zAY s n 6) n] []):=fun bs s hs=>
    zFU _ h [bs,zbR s n] [] 1 s n n 6 hs (by omega) (by simp) (Nat.le_refl _)
  have ep2:∀ (bs:List zaa) (s:List W64),s.length=25→zag ctx ⟨h.blks.length,h.toks.length,h.blks.length,h.toks.length⟩ zbd [pA h.blks.length 1 0,.int .i64 135,.int .u8 128] (hx h [bs,zbR s n] [])=some (.tup [],hx h [bs,zbR (zAY s 135 128) n] []):=fun bs s hs=>
    zFU _ h [bs,zbR s n] [] 1 s n 135 128 hs (by omega) (by simp) (Nat.le_refl _)
  have e32:(zdk (zol (zAY (zAY s n 6) 135 128))).length=200:=by simp [zez,h1]
  have hsl:=zt8 200 1 h.blks.length 2 0 32 .i64 (by decide)
  simp only [Int.cast_ofNat_Int] at hsl
  simp [zto,zqw,zfY,zan,zak,zau,zgL,hld,zye,h1,zbF,zah,zrN,ep,ep2,zu0,zpI,zuY,zez,zaf,e32,hsl,zIM,zJJ]
  simp [zGj,e32,zbF,zah,List.take_take]
def zJL (l:List Int):List Int:=zJJ (zbt (tab 25 fun _=>0#64,0) l)
theorem ztI (q:List W64 × Nat) (l m:List Int):zbt q (l++m)=zbt (zbt q l) m:=by simp [zbt]
def msg (ps:List (zaa × List Int)):List Int:=(ps.map (·.2)).flatten
theorem zGy (ps:List (zaa × List Int)) (k:Nat) (h:k < ps.length):msg (ps.take (k+1))=msg (ps.take k)++ps[k].2:=by
  unfold msg
  rw [List.take_add_one,List.getElem?_eq_getElem h,List.map_append,List.flatten_append]
  congr 1
  simp
theorem zC8 {fr:Fr} {h:zab} {R:Option (AEx × Fr × zab)} (z:List zaa) (ps:List (zaa × List Int)) (hn:ps.length < 1000000) (hr:∀ p∈ps,RdI h .u8 p.1 p.2∧p.2.length < 200000000000)
    (hF:run ctx (zau h) (.loop zdX) fr (hx h [z,zbR (tab 25 fun _=>0#64) 0] [])=R)
    (h3:fr 3=pA h.blks.length 1 0) (h6:fr 6=.vsl false (ps.map fun p=>[p.1])) (h7:fr 7=.int .i64 ps.length) (h8:fr 8=.int .i64 0):
    ∃ fr' q,R=some (.exit 0,fr',hx h [z,zbR q.1 q.2] [])∧q=zbt (tab 25 fun _=>0#64,0) (msg ps)∧q.1.length=25∧q.2 < 136∧∀ t,t∉wr zdX→fr' t=fr t:=by
  obtain ⟨e,fr',h',rfl,⟨rfl,rfl⟩,hk⟩:=zaj hF ps.length
    (fun k fr hh=>fr 8=.int .i64 k∧hh=hx h [z,zbR (zbt (tab 25 fun _=>0#64,0) (msg (ps.take k))).1 (zbt (tab 25 fun _=>0#64,0) (msg (ps.take k))).2] [])
    (fun e fr hh=>e=.exit 0∧hh=hx h [z,zbR (zbt (tab 25 fun _=>0#64,0) (msg ps)).1 (zbt (tab 25 fun _=>0#64,0) (msg ps)).2] [])
    ⟨h8, by simp only [List.take_zero]; rfl⟩ (by
      rintro k fr1 hh hkN hkeep ⟨g8,rfl⟩
      have g3:=(hkeep 3 (by decide)).trans h3
      have g6:=(hkeep 6 (by decide)).trans h6
      have g7:=(hkeep 7 (by decide)).trans h7
      obtain ⟨c1,c2⟩:=zjO (msg (ps.take k)) (q:=(tab 25 fun _=>0#64,0)) (by simp) (by simp)
      by_cases hlt:k < ps.length
      · have w1 : IntKind.i64.wrap ((k : Int) + 1) = k + 1 := wrap_i64 (by omega) (by omega)
        have hst : zbt (tab 25 fun _ => 0#64, 0) (msg (ps.take (k + 1))) = zbt (zbt (tab 25 fun _ => 0#64, 0) (msg (ps.take k))) ps[k].2 := by
          rw [← ztI]
          congr 1
          exact zGy ps k hlt
        obtain ⟨r1,r2⟩:=hr ps[k] (List.getElem_mem hlt)
        generalize zbt (tab 25 fun _=>0#64,0) (msg (ps.take k))=q' at*
        have hw:=zGx ⟨h.blks.length,h.toks.length,h.blks.length,h.toks.length⟩ h [z,zbR q'.1 q'.2] [] 1 q' ps[k].1 ps[k].2 r2 c1 c2 (by simp) (Nat.le_refl _) r1
        simp [zdX,zau,g3,g6,g7,g8,hlt,zbP,asI,w1,hw,hst]
      · have : k = ps.length := by omega
        subst this
        simp [zdX,g8,g7])
  obtain ⟨c1,c2⟩:=zjO (msg ps) (q:=(tab 25 fun _=>0#64,0)) (by simp) (by simp)
  exact ⟨fr',_,rfl,rfl,c1,c2,hk⟩
theorem zA5:[zaa.int .u64 0,.int .u64 0,.int .u64 0,.int .u64 0,.int .u64 0,.int .u64 0,.int .u64 0,.int .u64 0,.int .u64 0,.int .u64 0,.int .u64 0,.int .u64 0,.int .u64 0,.int .u64 0,.int .u64 0,.int .u64 0,.int .u64 0,.int .u64 0,.int .u64 0,.int .u64 0,.int .u64 0,.int .u64 0,.int .u64 0,.int .u64 0,.int .u64 0,.int .i64 0]=zbR (tab 25 fun _=>0#64) 0:=rfl
theorem zJM (L:Lim) (h:zab) (c:Bool) (ps:List (zaa × List Int)) (hn:ps.length < 1000000) (hr:∀ p∈ps,RdI h .u8 p.1 p.2∧p.2.length < 200000000000):
    zag ctx L zgN [.vsl c (ps.map fun p=>[p.1])] h=some (.agg (cI .u8 (zJL (msg ps))),h):=by
  rw [zrY]
  simp [zlq,zA5,zgL,zau]
  generalize hF:run ctx _ (.loop _) _ _=R
  obtain ⟨fr',q,rfl,q1,q2,q3,hk⟩:=zC8 _ ps hn hr hF (by simp) (by simp) (by simp) (by simp)
  have hs:zag ctx ⟨h.blks.length,h.toks.length,h.blks.length,h.toks.length⟩ zcR [pA h.blks.length 1 0] (hx h [cI .u8 (tab 32 fun _=>0),zbR q.1 q.2] [])=some (.agg (cI .u8 (zJJ q)),hx h [cI .u8 (tab 32 fun _=>0),zbR q.1 q.2] []):=zJK ⟨h.blks.length,h.toks.length,h.blks.length,h.toks.length⟩ (hx h [cI .u8 (tab 32 fun _=>0),zbR q.1 q.2] []) (h.blks.length+1) q q2 q3 (zzD [] (by simp))
  have hl:(zJJ q).length=32:=by simp [zJJ,zez,q2]
  simp [hk,wr,zdX,zgR,hs,zbF,hl,zah,zaf,zJL,← q1]
end Go.Av
namespace Go.Av
def obK (b:List Int) (n:Nat):Nat→List W64
  | 0=>tab 25 fun _=>0#64
  | k+1=>let i:=n - 1 - k;(obK b n k).set (i / 8) (gd (obK b n k) 0#64 (i / 8)*256#64+bw (gd b 0 i))
@[simp] theorem zJN (b:List Int) (n:Nat):∀ k,(obK b n k).length=25
  | 0=>by simp [obK]
  | k+1=>by simp [obK,zJN b n k]
def zgt (b:List Int):List W64:=obK b 200 200
end Go.Av
namespace Go.Av
structure Sp where
  S:List Int
  a:Nat
  b:Nat
  c:Nat
def zmS (S:List Int):List Int:=zdk (zol (zgt S))
theorem ze2 (S:List Int):(zgt S).length=25:=by simp [zgt]
theorem zp0 (l : List W64) : inB (zdk l) := fun i hi => by
  unfold zdk at hi ⊢
  rw [zkQ (by simpa using hi)]
  unfold byW;omega
@[simp] theorem zrt (S:List Int):(zmS S).length=200:=by simp [zmS,zdk,zez,ze2]
theorem zzY (S:List Int):inB (zmS S):=zp0 _
def zoL (s:Sp):Sp:=⟨zmS s.S,0,s.b,s.c+1⟩
def zF4 (s:Sp):Sp:=if s.a=136 then zoL s else s
def zlH (s:Sp) (u:Int):Sp:=⟨(zF4 s).S.set (zF4 s).a u,(zF4 s).a+1,136,(zF4 s).c⟩
def zbH (s:Sp) (l:List Int):Sp:=l.foldl zlH s
def zDG (s:Sp):Sp:=if s.b=136 then {zoL s with b:=0} else s
def zxb (s:Sp):Sp:={zDG s with b:=(zDG s).b+1}
def zMc (s:Sp):Int:=gd (zDG s).S 0 (zDG s).b
def zdr (s:Sp):Nat→Sp
  | 0=>s
  | n+1=>zxb (zdr s n)
def zjq (s:Sp) (n:Nat):List Int:=tab n fun k=>zMc (zdr s k)
def zF5 (s:Sp):Sp:=⟨putAt (zmS s.S) 0 (tab 136 fun _=>0),0,136,s.c+1⟩
def Sp.ok (s:Sp):Prop:=s.S.length=200∧inB s.S∧s.a≤136∧s.b≤136
theorem zrx {s:Sp} (h:s.ok):(zoL s).ok:=⟨by simp [zoL],zzY _,by simp [zoL],h.2.2.2⟩
theorem zKh {s:Sp} (h:s.ok):(zF4 s).ok∧(zF4 s).a < 136:=by
  unfold zF4
  split
  · exact ⟨zrx h,by simp [zoL]⟩
  · exact ⟨h,by have:=h.2.2.1;omega⟩
theorem zDL {s:Sp} (h:s.ok):(zDG s).ok∧(zDG s).b < 136:=by
  unfold zDG
  split
  · exact ⟨⟨(zrx h).1,(zrx h).2.1,(zrx h).2.2.1,by simp⟩,by simp⟩
  · exact ⟨h,by have:=h.2.2.2;omega⟩
theorem zDM {l : List Int} (hl : inB l) (i : Nat) (v : Int) (hv : 0 ≤ v ∧ v < 256) : inB (l.set i v) := fun j hj => by
  have hj':j < l.length:=by simpa using hj
  by_cases hi:i < l.length
  · rw [zmc _ _ _ _ _ hi];split
    · exact hv
    · exact hl j hj'
  · rw [List.set_eq_of_length_le (by omega)];exact hl j hj'
theorem zG8 {s:Sp} (h:s.ok) (u:Int) (hu:0≤u∧u < 256):(zlH s u).ok:=by
  obtain ⟨⟨h1,h2,h3,h4⟩,h5⟩:=zKh h
  exact ⟨by simp [zlH,h1],zDM h2 _ _ hu,by simp only [zlH];omega,by simp [zlH]⟩
theorem ziB {x:Int} {l:List Int}:inB (x :: l)↔(0≤x∧x < 256)∧inB l:=by
  constructor
  · intro h
    exact ⟨h 0 (by simp),fun i hi=>h (i+1) (by simpa using hi)⟩
  · intro ⟨h1,h2⟩ i hi
    cases i with
    | zero=>exact h1
    | succ i=>exact h2 i (by simpa using hi)
theorem zge:∀ {l:List Int} {s:Sp},s.ok→inB l→(zbH s l).ok
  | [],s,h,_=>h
  | u :: l,s,h,hl=>zge (l:=l) (zG8 h u (ziB.1 hl).1) (ziB.1 hl).2
theorem zG9 {s:Sp} (h:s.ok):(zxb s).ok:=by
  obtain ⟨⟨h1,h2,h3,h4⟩,h5⟩:=zDL h
  exact ⟨h1,h2,h3,by simp only [zxb];omega⟩
theorem zmo {s:Sp} (h:s.ok):∀ n,(zdr s n).ok
  | 0=>h
  | n+1=>zG9 (zmo h n)
theorem zry (n : Nat) : inB (tab n fun _ => 0) := fun i hi => by
  rw [zkQ (by simpa using hi)];omega
theorem zHc {l m:List Int} {off:Nat} (h:off+m.length≤l.length) (j:Nat) (hj:j < l.length):gd (putAt l off m) 0 j=if off≤j∧j < off+m.length then gd m 0 (j - off) else gd l 0 j:=by
  unfold putAt
  by_cases h1:j < off
  · rw [zE7 _ _ _ _ (by simp;omega),zCM h1,if_neg (by omega)]
  · rw [zE8 _ _ _ _ (by simp; omega), List.length_take, Nat.min_eq_left (by omega)]
    by_cases h2:j < off+m.length
    · rw [zE7 _ _ _ _ (by omega),if_pos (by omega)]
    · rw [zE8 _ _ _ _ (by omega), if_neg (by omega)]
      unfold gd;simp only [List.getD,List.getElem?_drop]
      congr 2;omega
theorem zxd {l m : List Int} {off : Nat} (h : off + m.length ≤ l.length) (hl : inB l) (hm : inB m) : inB (putAt l off m) := fun j hj => by
  rw [zsa _ _ _ h] at hj
  rw [zHc h j hj]
  split
  · exact hm _ (by omega)
  · exact hl j hj
theorem zKo {s:Sp} (h:s.ok):(zF5 s).ok:=
  ⟨by simp only [zF5];rw [zsa _ _ _ (by simp)];simp,zxd (by simp) (zzY _) (zry 136),by simp [zF5],by simp [zF5]⟩
theorem zxf (s:Sp) (l m:List Int):zbH s (l++m)=zbH (zbH s l) m:=by simp [zbH]
theorem zBu (s:Sp) (l:List Int) (k:Nat) (h:k < l.length):zbH s (l.take (k+1))=zlH (zbH s (l.take k)) (gd l 0 k):=by
  rw [zlr 0 h,zxf];rfl
theorem zxg (s:Sp) (m:Nat):∀ n,zdr s (m+n)=zdr (zdr s m) n
  | 0=>rfl
  | n+1=>by rw [← Nat.add_assoc,zdr,zdr,zxg s m n]
theorem zoR (s:Sp) (n:Nat):(zjq s n).length=n:=by simp [zjq]
theorem zHe (s:Sp) (m n:Nat):zjq s (m+n)=zjq s m++zjq (zdr s m) n:=by
  refine List.ext_getElem? fun j=>?_
  simp only [zjq]
  rw [ziK]
  by_cases h1:j < m
  · rw [List.getElem?_append_left (by simpa using h1),ziK,if_pos h1,if_pos (by omega)]
  · rw [List.getElem?_append_right (by simp; omega), ziK, zzl]
    by_cases h2:j - m < n
    · rw [if_pos h2,if_pos (by omega),← zxg,show m+(j - m)=j by omega]
    · rw [if_neg h2,if_neg (by omega)]
theorem zDW (s:Sp) (n:Nat):zjq s (n+1)=zjq s n++[zMc (zdr s n)]:=by rw [zHe];rfl
theorem zDX {s:Sp} (h:s.a≤136) (u:Int):136*(zlH s u).c+(zlH s u).a=136*s.c+s.a+1∧1≤(zlH s u).a∧(zlH s u).a≤136∧s.c≤(zlH s u).c:=by
  unfold zlH zF4
  split
  · simp only [zoL];omega
  · simp only [];omega
theorem zxi:∀ {l:List Int} {s:Sp},s.a≤136→136*(zbH s l).c+(zbH s l).a=136*s.c+s.a+l.length∧(zbH s l).a≤136∧s.c≤(zbH s l).c∧(l≠[]→1≤(zbH s l).a)
  | [],s,h=>by simp [zbH,h]
  | u :: l, s, h => by
    obtain ⟨h1,h2,h3,h4⟩:=zDX h u
    obtain ⟨g1,g2,g3,g4⟩:=zxi (l:=l) h3
    have e:zbH s (u :: l)=zbH (zlH s u) l:=rfl
    rw [e]
    refine ⟨by simp only [List.length_cons];omega,g2,by omega,fun _=>?_⟩
    by_cases hl:l=[]
    · subst hl;exact h2
    · exact g4 hl
def zy0 (l:List Int):Sp:=⟨putAt (tab 200 fun _=>0) 136 l,0,136,0⟩
theorem zKq {l:List Int} (h:l.length≤64) (hl:inB l):(zy0 l).ok:=
  ⟨by simp only [zy0];rw [zsa _ _ _ (by simp;omega)];simp,zxd (by simp;omega) (zry 200) hl,by simp [zy0],by simp [zy0]⟩
end Go.Av
