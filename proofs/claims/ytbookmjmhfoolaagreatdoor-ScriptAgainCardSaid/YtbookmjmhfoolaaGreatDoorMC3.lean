/- The guard; the permutation of bytes and the digest give what plain functions of lists give. -/
import Derived.Test.YtbookmjmhfoolaaGreatDoorMC1
import Derived.Test.YtbookmjmhfoolaaGreatDoorMC2
import Derived.KernelRfl
set_option linter.unusedSimpArgs false
set_option linter.unusedVariables false
set_option maxHeartbeats 2000000
set_option maxRecDepth 20000
namespace Go.Av
structure Gd where
  l:List It
  k:Nat
  e:Int
def erV (e:Int):zaa:=if e=0 then .nilp else .vptr [.int .i64 e] 0
def guC (g:Gd):List zaa:=[.vsl false (g.l.map It.cells),.int .i64 g.k,erV g.e]
def zbY (g:Gd) (e:Int):Gd:=if g.e=0 then {g with e:=e} else g
theorem zCR {α:Type} {bs:List α} {b:Nat} {cs:α} (hb:bs[b]?=some cs):bs.set b cs=bs:=by
  refine List.ext_getElem? fun j=>?_
  by_cases e:b=j
  · subst e;rw [List.getElem?_set_self (List.getElem?_eq_some_iff.1 hb).1,hb]
  · rw [List.getElem?_set_ne e]
@[simp] theorem zQh (L:Lim) (h:zab) (p:zaa) (cs:List zaa) (o:Nat):stK L h 1 p (.vptr cs o)=stM (zcw L h p [.vptr cs o]):=by simp [stK,zaa.cells,zaa.okV]
theorem byR (s:ByteArray):(s==s)=true:=(Go.MapKept.bytes_beq s s).2 rfl
theorem zsi (L:Lim) (h:zab) (bs:List (List zaa)) (ts:List Nat) (i:Nat) (g:Gd) (e:Int) (hb:bs[i]?=some (guC g)) (hL:L.rob≤h.blks.length):
    zag ctx L za5 [pA h.blks.length i 0,.int .i64 e] (hx h bs ts)=some (.int .i64 (zbY g e).e,hx h (bs.set i (guC (zbY g e))) ts):=by
  rw [zlu]
  have hi:=(List.getElem?_eq_some_iff.1 hb).1
  have hgs:∀ x:List zaa,(bs.set i x)[i]?=some x:=fun x=>List.getElem?_set_self hi
  have htr:=fun cs=>zh9 h bs ts i cs
  have htr0:zdN (hx h bs ts) (h.blks.length+bs.length) (h.toks.length+ts.length)=hx h bs ts:=by
    have:=htr (guC g);rwa [zCR hb] at this
  obtain ⟨l,k,w⟩:=g
  by_cases hw:w=0
  · subst hw
    have hv:erV 0=.nilp:=rfl
    by_cases he:e=0
    · subst he
      have hf:zbY ⟨l,k,0⟩ 0=⟨l,k,0⟩:=rfl
      rw [hf,zCR hb]
      simp only [guC,hv] at*
      simp -implicitDefEqProofs [zcB,zan,zal,hb,zae,eqA,htr0]
    · have hf:zbY ⟨l,k,0⟩ e=⟨l,k,e⟩:=rfl
      have hv2:erV e=.vptr [.int .i64 e] 0:=if_neg he
      have hne:(e !=0)=true:=bne_iff_ne.2 he
      rw [hf]
      simp only [guC,hv,hv2] at*
      simp -implicitDefEqProofs [zcB,zan,zal,hb,hgs,zae,eqA,hne,zay,setAt,zmH,zaa.okV,zaa.cells,zak,hL,zap,zaa.under,htr]
  · have hf:zbY ⟨l,k,w⟩ e=⟨l,k,w⟩:=if_neg hw
    have hv2:erV w=.vptr [.int .i64 w] 0:=if_neg hw
    rw [hf,zCR hb]
    simp only [guC,hv2] at*
    simp -implicitDefEqProofs [zcB,zan,zal,hb,hgs,zae,eqA,htr0]
theorem zwN (L:Lim) (h:zab) (bs:List (List zaa)) (ts:List Nat) (i:Nat) (g:Gd) (so:Bool) (e:Int) (hb:bs[i]?=some (guC g)) (hL:L.rob≤h.blks.length):
    zag ctx L zbN [pA h.blks.length i 0,.bool so,.int .i64 e] (hx h bs ts)=some (.int .i64 (zbY g (if so then 0 else e)).e,hx h (bs.set i (guC (zbY g (if so then 0 else e)))) ts):=by
  rw [zkc]
  have hF:=fun L hL e=>zsi L h bs ts i g e hb hL
  have htr:=fun cs=>zh9 h bs ts i cs
  cases so <;> simp -implicitDefEqProofs [zec,zan,zal,hF,hL,htr]
theorem zGy (L:Lim) (h:zab) (x y:It):zag ctx L zjD [.agg x.cells,.agg y.cells] h=some (.bool (x.kind==y.kind&&(x.typ==y.typ&&x.count==y.count)),h):=by
  rw [ztt]
  have hf:∀ x:It,fzA h (.agg x.cells)=some (.agg x.cells,false):=fun x=>by simp [fzA,zb4,zaa.flat,It.cells]
  obtain ⟨a,b,c,l⟩:=x
  obtain ⟨a',b',c',l'⟩:=y
  simp only [It.cells] at hf ⊢
  have hf1:=hf ⟨a,b,c,l⟩
  have hf2:=hf ⟨a',b',c',l'⟩
  simp only at hf1 hf2
  simp -implicitDefEqProofs [znO,zau,hf1,hf2,zd7,setAt,zak,zaf,zbm,zsh,byR]
def zwP (x y:It):Bool:=x.kind==y.kind&&(x.typ==y.typ&&x.count==y.count)
def zdF (g:Gd) (k t c:Int):Bool:=decide (g.k < g.l.length)&&zwP (gd g.l ⟨0,0,0,⟨#[]⟩⟩ g.k) ⟨k,t,c,⟨#[]⟩⟩
def zbi (g:Gd) (k t c:Int):Gd:=if (zbY g (if zdF g k t c then 0 else 10)).e=0 then {zbY g (if zdF g k t c then 0 else 10) with k:=g.k+1} else zbY g (if zdF g k t c then 0 else 10)
theorem zhX (g:Gd) (e:Int):(zbY g e).l=g.l∧(zbY g e).k=g.k:=by unfold zbY;split <;> exact ⟨rfl,rfl⟩
theorem zhY (g:Gd) (k t c:Int):(zbi g k t c).l=g.l:=by
  unfold zbi
  have:=zhX g (if zdF g k t c then 0 else 10)
  generalize zbY g (if zdF g k t c then 0 else 10)=f at*
  split <;> exact this.1
theorem zvi (g:Gd) (k t c:Int):(zbi g k t c).e=(zbY g (if zdF g k t c then 0 else 10)).e:=by
  unfold zbi
  generalize zbY g (if zdF g k t c then 0 else 10)=f
  split <;> rfl
theorem zAJ (kd:IntKind) (c:Bool) (l:List It) (i:Nat) (h:i < l.length):zcZ none 4 (.vsl c (l.map It.cells)) (.int kd (i:Int))=some (.vptr (gd l ⟨0,0,0,⟨#[]⟩⟩ i).cells 0):=by
  simp [zcZ,asI,gd,List.getD,h]
theorem zJu (L:Lim) (h:zab) (bs:List (List zaa)) (ts:List Nat) (i:Nat) (g:Gd) (k t c:Int) (hk:g.k < 1000000000) (hb:bs[i]?=some (guC g)) (hL:L.rob≤h.blks.length):
    zag ctx L zdp [pA h.blks.length i 0,.int .i64 k,.int .i64 t,.int .i64 c] (hx h bs ts)=some (.int .i64 (zbi g k t c).e,hx h (bs.set i (guC (zbi g k t c))) ts):=by
  rw [zlF]
  have hi:=(List.getElem?_eq_some_iff.1 hb).1
  have hz:([.int .i64 k,.int .i64 t,.int .i64 c,.str ⟨#[]⟩]:List zaa)=(⟨k,t,c,⟨#[]⟩⟩:It).cells:=rfl
  obtain ⟨y,hy⟩:∃ y:It,y=⟨k,t,c,⟨#[]⟩⟩:=⟨_,rfl⟩
  have hne:=zvi g k t c
  have hle:=zhX g (if zdF g k t c then 0 else 10)
  have hS:=fun L h=>zGy L h (gd g.l ⟨0,0,0,⟨#[]⟩⟩ g.k) y
  have hsm:((gd g.l ⟨0,0,0,⟨#[]⟩⟩ g.k).kind==y.kind&&((gd g.l ⟨0,0,0,⟨#[]⟩⟩ g.k).typ==y.typ&&(gd g.l ⟨0,0,0,⟨#[]⟩⟩ g.k).count==y.count))=zwP (gd g.l ⟨0,0,0,⟨#[]⟩⟩ g.k) ⟨k,t,c,⟨#[]⟩⟩:=by rw [hy];rfl
  rw [hsm] at hS
  have hb2:∀ x:List zaa,(bs++[x])[i]?=some (guC g):=fun x=>by rw [List.getElem?_append_left hi];exact hb
  have hU:=fun L hL x so=>zwN L h (bs++[x]) ts i g so 10 (hb2 x) hL
  simp only [List.set_append_left _ _ hi] at hU
  have hg0:=fun x=>zdo bs [x] bs.length 0 rfl
  have hs0:=fun x v=>zeJ bs [x] bs.length 0 v rfl
  simp only [Nat.add_zero,List.getElem?_cons_zero,List.set_cons_zero] at hg0 hs0
  have w1:IntKind.i64.wrap ((g.k:Int)+1)=((g.k+1:Nat):Int):=(wrap_i64 (by omega) (by omega)).trans (by omega)
  have hcl:y.cells.length=4:=rfl
  have hyc:[zaa.int .i64 k,.int .i64 t,.int .i64 c,.str ⟨#[]⟩]=y.cells:=by rw [hy];rfl
  have huy:zap 0 0 y.cells=true:=by rw [hy];rfl
  have hgs:∀ (x z:List zaa),(bs.set i x++[z])[i]?=some x:=fun x z=>by rw [List.getElem?_append_left (by simpa using hi),List.getElem?_set_self hi]
  have hss:∀ (x z w:List zaa),(bs.set i x++[z]).set i w=bs.set i w++[z]:=fun x z w=>by rw [List.set_append_left _ _ (by simpa using hi),List.set_set]
  have htr:=fun cs js=>zoJ h (bs.set i cs) js ts bs.length (by simp)
  by_cases hlt:g.k < g.l.length
  · have hltI : (g.k : Int) < (g.l.length : Int) := by omega
    have ia:=zAJ .i64 false g.l g.k hlt
    have hso:zdF g k t c=zwP (gd g.l ⟨0,0,0,⟨#[]⟩⟩ g.k) ⟨k,t,c,⟨#[]⟩⟩:=by unfold zdF;rw [decide_eq_true hlt];rfl
    have hdef:zbi g k t c=if (zbY g (if zdF g k t c then 0 else 10)).e=0 then {zbY g (if zdF g k t c then 0 else 10) with k:=g.k+1} else zbY g (if zdF g k t c then 0 else 10):=rfl
    rw [hso] at hdef hne hle
    generalize zwP (gd g.l ⟨0,0,0,⟨#[]⟩⟩ g.k) ⟨k,t,c,⟨#[]⟩⟩=so at*
    have hcx:(gd g.l ⟨0,0,0,⟨#[]⟩⟩ g.k).cells.length=4:=rfl
    generalize (gd g.l ⟨0,0,0,⟨#[]⟩⟩ g.k).cells=xc at*
    have hUs:=fun L hL x=>hU L hL x so
    generalize zbY g (if so=true then 0 else 10)=f at*
    clear hU
    generalize y.cells=yc at*
    by_cases hf:f.e=0
    · have hbe : (f.e == 0) = true := by rw [hf]; rfl
      rw [if_pos hf] at hdef
      rw [hdef]
      obtain ⟨fl,fk,fe⟩:=f
      obtain ⟨l,k0,e0⟩:=g
      simp only at*
      obtain ⟨rfl,rfl⟩:=hle
      subst hf
      simp only [guC] at*
      generalize fk+1=k1 at*
      simp -implicitDefEqProofs [zcr,zan,zal,hyc,zay,setAt,hb,hb2,zae,hltI,ia,zaf,hcx,hcl,hg0,hs0,zbG,zah,zak,hL,huy,hS,hUs,hgs,hss,w1,htr]
    · have hbe:(f.e==0)=false:=beq_false_of_ne hf
      rw [if_neg hf] at hdef
      rw [hdef]
      simp only [guC] at hb hb2
      simp -implicitDefEqProofs [zcr,zan,zal,hyc,zay,setAt,hb,hb2,zae,hltI,ia,zaf,hcx,hcl,hg0,hs0,zbG,zah,zak,hL,huy,hS,hUs,hgs,hss,w1,htr,hbe]
  · have hltI : ¬ (g.k : Int) < (g.l.length : Int) := by omega
    have hso:zdF g k t c=false:=by unfold zdF;rw [decide_eq_false hlt];rfl
    have hdef:zbi g k t c=zbY g 10:=by
      unfold zbi
      rw [hso]
      simp only [Bool.false_eq_true,if_false]
      rw [if_neg]
      unfold zbY
      split
      · show ¬(10:Int)=0;decide
      · assumption
    have hUs:=fun L hL x=>hU L hL x false
    simp only [Bool.false_eq_true,if_false] at hUs
    have hf:¬(zbY g 10).e=0:=by
      unfold zbY
      split
      · show ¬(10:Int)=0;decide
      · assumption
    have hbe:((zbY g 10).e==0)=false:=beq_false_of_ne hf
    rw [hdef]
    generalize zbY g 10=f at*
    generalize y.cells=yc at*
    simp only [guC] at hb hb2
    simp -implicitDefEqProofs [zcr,zan,zal,hyc,zay,setAt,hb,hb2,zae,hltI,zaf,hcl,hg0,hs0,zbG,zah,zak,hL,huy,hUs,hgs,hss,htr,hbe]
def zxH (g:Gd):Gd:=zbY g (if g.k=g.l.length then 0 else 12)
theorem zAh (L:Lim) (h:zab) (bs:List (List zaa)) (ts:List Nat) (i:Nat) (g:Gd) (hb:bs[i]?=some (guC g)) (hL:L.rob≤h.blks.length):
    zag ctx L zcJ [pA h.blks.length i 0] (hx h bs ts)=some (.int .i64 (zxH g).e,hx h (bs.set i (guC (zxH g))) ts):=by
  rw [zj8]
  have hU:=fun L hL so=>zwN L h bs ts i g so 12 hb hL
  have htr:=fun cs=>zh9 h bs ts i cs
  by_cases he:g.k=g.l.length
  · have hbe : ((g.k : Int) == (g.l.length : Int)) = true := by rw [he]; simp
    have hd:zxH g=zbY g 0:=by unfold zxH;rw [if_pos he]
    rw [hd]
    have hUs:=fun L hL=>hU L hL true
    simp only [if_true] at hUs
    generalize zbY g 0=f at*
    simp only [guC] at hb
    simp -implicitDefEqProofs [zcG,zan,zal,hb,zae,hbe,hUs,hL,htr]
  · have hbe : ((g.k : Int) == (g.l.length : Int)) = false := beq_false_of_ne (by omega)
    have hd:zxH g=zbY g 12:=by unfold zxH;rw [if_neg he]
    rw [hd]
    have hUs:=fun L hL=>hU L hL false
    simp only [Bool.false_eq_true,if_false] at hUs
    generalize zbY g 12=f at*
    simp only [guC] at hb
    simp -implicitDefEqProofs [zcG,zan,zal,hb,zae,hbe,hUs,hL,htr]
end Go.Av
namespace Go.Av
def rotl (x:W64) (n:Nat):W64:=(x <<< (n % 64))|||(x >>> (64 - n % 64))
theorem zHT (L:Lim) (h:zab) (x:W64) (n:Nat) (hn:n < 9223372036854775808):zag ctx L zbd [wd x,.int .i64 n] h=some (wd (rotl x n),h):=by
  rw [zhF]
  have e1:IntKind.u64.wrap (n:Int)=n:=zxO n (by omega)
  have e2:zdX .and (.int .u64 (n:Int)) (.int .u64 63)=some (.int .u64 ((n % 64:Nat):Int)):=by
    rw [zlX]
    show some (zaa.int .u64 (IntKind.u64.wrap ((BitVec.ofInt 64 (n:Int)&&&BitVec.ofInt 64 (63:Int):BitVec 64).toNat:Int)))=_
    have:(BitVec.ofInt 64 (n:Int)&&&BitVec.ofInt 64 (63:Int):BitVec 64).toNat=n % 64:=by
      rw [BitVec.toNat_and]
      have h1:(BitVec.ofInt 64 (n:Int)).toNat=n:=by rw [BitVec.toNat_ofInt];omega
      have h2:(BitVec.ofInt 64 (63:Int)).toNat=2 ^ 6 - 1:=by decide
      rw [h1,h2,Nat.and_two_pow_sub_one_eq_mod]
    rw [this,zxO _ (by omega)]
  have e3:zdX .sub (.int .u64 64) (.int .u64 ((n % 64:Nat):Int))=some (.int .u64 ((64 - n % 64:Nat):Int)):=by
    rw [zyK]
    have:(64:Int) - ((n % 64:Nat):Int)=((64 - n % 64:Nat):Int):=by omega
    rw [this,zxO _ (by omega)]
  generalize hm:n % 64=m at e2 e3
  have hm64:m≤64:=by omega
  generalize hk:64 - m=k at e3
  have hk64:k≤64:=by omega
  simp [zcP,e1,e2,e3,zv0,zmT,hm64,hk64, -zlX, -zyK, -zlZ, -zdL]
  simp [rotl,hm,hk]
def zAi (l:List W64) (x:Nat):W64:=gd l 0#64 x ^^^ gd l 0#64 (x+5) ^^^ gd l 0#64 (x+10) ^^^ gd l 0#64 (x+15) ^^^ gd l 0#64 (x+20)
def zEY (l:List W64) (k x:Nat):W64:=(List.range k).foldl (fun c i=>if i % 5=x then c ^^^ gd l 0#64 i else c) 0
theorem zCz (l:List W64) (k x:Nat):zEY l (k+1) x=if k % 5=x then zEY l k x ^^^ gd l 0#64 k else zEY l k x:=by
  simp [zEY,List.range_succ]
theorem zFD (l:List W64) (x:Nat) (hx:x < 5):zEY l 25 x=zAi l x:=by
  unfold zEY zAi
  have:x=0∨x=1∨x=2∨x=3∨x=4:=by omega
  rcases this with rfl | rfl | rfl | rfl | rfl <;> simp [show List.range 25=[0,1,2,3,4,5,6,7,8,9,10,11,12,13,14,15,16,17,18,19,20,21,22,23,24] from by decide]
def zrU (l:List W64) (i:Nat):W64:=gd l 0#64 i ^^^ (zAi l ((i % 5+4) % 5) ^^^ rotl (zAi l ((i % 5+1) % 5)) 1)
def zqa (l:List W64):List W64:=tab 25 (zrU l)
theorem zwf (k:Nat):(k:Int).tmod 5=((k % 5:Nat):Int):=by rw [Int.tmod_eq_emod_of_nonneg (by omega)];omega
theorem zx1 {fr:Fr} {h:zab} {R:Option (AEx × Fr × zab)} (s:List W64) (hs:s.length=25) (b z:List zaa)
    (hF:run ctx (zau h) (.loop zaB) fr (hx h [b,z,cW (tab 5 fun _=>0#64)] [])=R)
    (h8:fr 8=.agg (cW s)) (h9:fr 9=.int .i64 0) (h3:fr 3=pA h.blks.length 2 0):
    ∃ fr',R=some (.exit 0,fr',hx h [b,z,cW (tab 5 (zAi s))] [])∧∀ t,t∉wr zaB→fr' t=fr t:=by
  obtain ⟨e,fr',h',rfl,⟨rfl,rfl⟩,hk⟩:=zaj hF 25
    (fun k fr hh=>fr 9=.int .i64 k∧hh=hx h [b,z,cW (tab 5 (zEY s k))] [])
    (fun e fr hh=>e=.exit 0∧hh=hx h [b,z,cW (tab 5 (zAi s))] [])
    ⟨h9,rfl⟩ (by
      rintro k fr1 hh hkN hkeep ⟨g9,rfl⟩
      have g8:=(hkeep 8 (by decide)).trans h8
      have g3:=(hkeep 3 (by decide)).trans h3
      by_cases hlt:k < 25
      · have w2 : IntKind.i64.wrap ((k : Int) + 1) = k + 1 := wrap_i64 (by omega) (by omega)
        have e5:=zwf k
        have hset:(tab 5 (zEY s k)).set (k % 5) (zEY s k (k % 5) ^^^ gd s 0#64 k)=tab 5 (zEY s (k+1)):=by
          rw [zu6]
          refine zgx fun j hj=>?_
          rw [zCz]
          by_cases hj:j=k % 5
          · subst hj;simp
          · simp [hj,Ne.symm hj]
        generalize hm:k % 5=m at e5 hset
        have hm5:m < 5:=by omega
        simp [zaB,zau,g9,g8,g3,hlt,show (k:Int) < 25 by omega,w2,zxS,zLq,hs,zgY,e5,zfT,hm5,show m≤4 by omega,zk6,hset]
      · have : k = 25 := by omega
        subst this
        simp [zaB,g9,g8,g3]
        exact congrArg (fun c=>hx h [b,z,c] []) (congrArg cW (zgx fun j hj=>zFD s j hj)))
  exact ⟨fr',rfl,hk⟩
theorem zx2 {fr:Fr} {h:zab} {R:Option (AEx × Fr × zab)} (s:List W64) (hs:s.length=25) (z:List zaa)
    (hF:run ctx (zau h) (.loop zbe) fr (hx h [cW s,z,cW (tab 5 (zAi s))] [])=R)
    (h1:fr 1=pA h.blks.length 0 0) (h3:fr 3=pA h.blks.length 2 0) (h21:fr 21=.int .i64 0):
    ∃ fr',R=some (.exit 2,fr',hx h [cW (zqa s),z,cW (tab 5 (zAi s))] [])∧∀ t,t∉wr zbe→fr' t=fr t:=by
  obtain ⟨e,fr',h',rfl,⟨rfl,rfl⟩,hk⟩:=zaj hF 25
    (fun k fr hh=>fr 21=.int .i64 k∧hh=hx h [cW (tab 25 fun j=>if j < k then zrU s j else gd s 0#64 j),z,cW (tab 5 (zAi s))] [])
    (fun e fr hh=>e=.exit 2∧hh=hx h [cW (zqa s),z,cW (tab 5 (zAi s))] [])
    ⟨h21, by simp [← zBP 0#64 hs]⟩ (by
      rintro k fr1 hh hkN hkeep ⟨g21,rfl⟩
      have g1:=(hkeep 1 (by decide)).trans h1
      have g3:=(hkeep 3 (by decide)).trans h3
      by_cases hlt:k < 25
      · have w2 : IntKind.i64.wrap ((k : Int) + 1) = k + 1 := wrap_i64 (by omega) (by omega)
        have e5:=zwf k
        have hset : (tab 25 fun j => if j < k then zrU s j else gd s 0#64 j).set k (zrU s k) = tab 25 fun j => if j < k + 1 then zrU s j else gd s 0#64 j := by
          rw [zu6]
          refine zgx fun j hj=>?_
          by_cases h1:j=k
          · subst h1;simp
          · by_cases h2:j < k
            · simp [h1,h2,show j < k+1 by omega]
            · simp [h1,h2,show ¬j < k+1 by omega]
        have hth:zrU s k=gd s 0#64 k ^^^ (zAi s ((k % 5+4) % 5) ^^^ rotl (zAi s ((k % 5+1) % 5)) 1):=rfl
        have hold:(fun j=>if j < k then zrU s j else gd s 0#64 j) k=gd s 0#64 k:=by simp
        have w4:IntKind.i64.wrap (((k % 5:Nat):Int)+4)=((k % 5+4:Nat):Int):=(wrap_i64 (by omega) (by omega)).trans (by omega)
        have w1:IntKind.i64.wrap (((k % 5:Nat):Int)+1)=((k % 5+1:Nat):Int):=(wrap_i64 (by omega) (by omega)).trans (by omega)
        have t4:=zwf (k % 5+4)
        have t1:=zwf (k % 5+1)
        generalize hga:(k % 5+4) % 5=a at t4 hth
        generalize hgb:(k % 5+1) % 5=b at t1 hth
        generalize hm:k % 5=m at e5 w4 w1 t4 t1
        rw [hth] at hset
        have ha5:a < 5:=by omega
        have hb5:b < 5:=by omega
        simp only [Int.natCast_add,Int.cast_ofNat_Int] at w4 w1 t4 t1
        have hrot:=fun L h x=>zHT L h x 1 (by decide)
        simp only [Int.natCast_one] at hrot
        simp [zbe,zau,g21,g1,g3,hlt,show (k:Int) < 25 by omega,w2,zgY,e5,w4,w1,t4,t1,zfT,ha5,hb5,zk6,hset,hrot,show k≤24 by omega]
      · have : k = 25 := by omega
        subst this
        simp [zbe,g21]
        exact congrArg (fun c=>hx h [c,z,cW (tab 5 (zAi s))] []) (congrArg cW (zgx fun j hj=>by simp [hj])))
  exact ⟨fr',rfl,hk⟩
theorem zFE (L:Lim) (h:zab) (s:List W64) (hs:s.length=25):zag ctx L zcH [.agg (cW s)] h=some (.agg (cW (zqa s)),h):=by
  rw [zjO]
  simp [zef,zau,zbh,zd7,zaa.okV,zaa.cells,zaf,hs]
  generalize hF:run ctx _ (.loop _) _ _=R
  obtain ⟨fr1,rfl,hk1⟩:=zx1 s hs _ _ hF (by simp) (by simp) (by simp)
  simp [hk1,wr,zaB,zgI]
  generalize hF:run ctx _ (.loop _) _ _=R
  obtain ⟨fr2,rfl,hk2⟩:=zx2 s hs _ hF (by simp [hk1,wr,zaB,zgI]) (by simp [hk1,wr,zaB,zgI]) (by simp)
  simp [hk1,hk2,wr,zaB,zbe,zgI,zaf,zqa,zbG,zah]
end Go.Av
namespace Go.Av
def pxy:Nat→Nat × Nat
  | 0=>(1,0)
  | t+1=>((pxy t).2,(2*(pxy t).1+3*(pxy t).2) % 5)
theorem zHK:∀ t,(pxy t).1 < 5∧(pxy t).2 < 5
  | 0=>by simp [pxy]
  | t + 1 => by
    have:=zHK t
    simp only [pxy]
    omega
def zmW (l:List W64):Nat→List W64
  | 0=>tab 25 fun j=>if j=0 then gd l 0#64 0 else 0#64
  | t+1=>(zmW l t).set ((pxy t).2+5*((2*(pxy t).1+3*(pxy t).2) % 5)) (rotl (gd l 0#64 ((pxy t).1+5*(pxy t).2)) ((t+1)*(t+2) / 2))
@[simp] theorem zAk (l:List W64):∀ t,(zmW l t).length=25
  | 0=>by simp [zmW]
  | t+1=>by simp [zmW,zAk l t]
def zoj (l:List W64):List W64:=zmW l 24
theorem zAl {fr:Fr} {h:zab} {R:Option (AEx × Fr × zab)} (s:List W64) (hs:s.length=25) (z:List zaa)
    (hF:run ctx (zau h) (.loop zbf) fr (hx h [z,cW (zmW s 0)] [])=R)
    (h1:fr 1=.vptr (cW s) 0) (h3:fr 3=pA h.blks.length 1 0) (h4:fr 4=.int .i64 1) (h5:fr 5=.int .i64 0) (h11:fr 11=.int .i64 0):
    ∃ fr',R=some (.exit 0,fr',hx h [z,cW (zoj s)] [])∧∀ t,t∉wr zbf→fr' t=fr t:=by
  obtain ⟨e,fr',h',rfl,⟨rfl,rfl⟩,hk⟩:=zaj hF 24
    (fun k fr hh=>fr 11=.int .i64 k∧fr 4=.int .i64 ((pxy k).1:Nat)∧fr 5=.int .i64 ((pxy k).2:Nat)∧hh=hx h [z,cW (zmW s k)] [])
    (fun e fr hh=>e=.exit 0∧hh=hx h [z,cW (zoj s)] [])
    ⟨h11,h4,h5,rfl⟩ (by
      rintro k fr1 hh hkN hkeep ⟨g11,g4,g5,rfl⟩
      have g1:=(hkeep 1 (by decide)).trans h1
      have g3:=(hkeep 3 (by decide)).trans h3
      by_cases hlt:k < 24
      · obtain ⟨hx5,hy5⟩:=zHK k
        have hst:zmW s (k+1)=(zmW s k).set ((pxy k).2+5*((2*(pxy k).1+3*(pxy k).2) % 5)) (rotl (gd s 0#64 ((pxy k).1+5*(pxy k).2)) ((k+1)*(k+2) / 2)):=rfl
        have hp:pxy (k+1)=((pxy k).2,(2*(pxy k).1+3*(pxy k).2) % 5):=rfl
        generalize (pxy k).1=x at*
        generalize (pxy k).2=y at*
        have w1:IntKind.i64.wrap ((k:Int)+1)=k+1:=wrap_i64 (by omega) (by omega)
        have w2:IntKind.i64.wrap ((k:Int)+2)=k+2:=wrap_i64 (by omega) (by omega)
        have hmul:(k+1)*(k+2)≤600:=Nat.le_trans (Nat.mul_le_mul (show k+1≤24 by omega) (show k+2≤25 by omega)) (by decide)
        have w3:IntKind.i64.wrap (((k:Int)+1)*(k+2))=(((k+1)*(k+2):Nat):Int):=by
          rw [← zij ((k+1)*(k+2)) (by omega)];simp only [Int.natCast_mul,Int.natCast_add,Int.cast_ofNat_Int]
        have w4:=zPK ((k+1)*(k+2))
        have w5:=zij ((k+1)*(k+2) / 2) (by omega)
        have w6:IntKind.i64.wrap (2*(x:Int))=((2*x:Nat):Int):=by
          rw [← zij (2*x) (by omega)];simp only [Int.natCast_mul,Int.natCast_add,Int.cast_ofNat_Int]
        have w7:IntKind.i64.wrap (3*(y:Int))=((3*y:Nat):Int):=by
          rw [← zij (3*y) (by omega)];simp only [Int.natCast_mul,Int.natCast_add,Int.cast_ofNat_Int]
        have w8:IntKind.i64.wrap (((2*x:Nat):Int)+((3*y:Nat):Int))=((2*x+3*y:Nat):Int):=by
          rw [← zij (2*x+3*y) (by omega)];simp only [Int.natCast_mul,Int.natCast_add,Int.cast_ofNat_Int]
        have w9:=zwf (2*x+3*y)
        generalize hn:(2*x+3*y) % 5=n at*
        have hn5:n < 5:=by omega
        have w10:IntKind.i64.wrap (5*(n:Int))=((5*n:Nat):Int):=by
          rw [← zij (5*n) (by omega)];simp only [Int.natCast_mul,Int.natCast_add,Int.cast_ofNat_Int]
        have w11:IntKind.i64.wrap ((y:Int)+((5*n:Nat):Int))=((y+5*n:Nat):Int):=by
          rw [← zij (y+5*n) (by omega)];simp only [Int.natCast_mul,Int.natCast_add,Int.cast_ofNat_Int]
        have w12:IntKind.i64.wrap (5*(y:Int))=((5*y:Nat):Int):=by
          rw [← zij (5*y) (by omega)];simp only [Int.natCast_mul,Int.natCast_add,Int.cast_ofNat_Int]
        have w13:IntKind.i64.wrap ((x:Int)+((5*y:Nat):Int))=((x+5*y:Nat):Int):=by
          rw [← zij (x+5*y) (by omega)];simp only [Int.natCast_mul,Int.natCast_add,Int.cast_ofNat_Int]
        have hd25:y+5*n < 25:=by omega
        have hd24:y+5*n≤24:=by omega
        have hs25:x+5*y < 25:=by omega
        generalize hd:y+5*n=d at*
        generalize hsr:x+5*y=sr at*
        generalize hr:(k+1)*(k+2) / 2=r at*
        generalize (k+1)*(k+2)=kk at*
        generalize 2*x+3*y=xy at*
        generalize 5*n=n5 at*
        generalize 5*y=y5 at*
        generalize 2*x=x2 at*
        generalize 3*y=y3 at*
        have hrot:=fun L h v=>zHT L h v r (by omega)
        simp [zbf,zau,g11,g1,g3,g4,g5,hlt,show (k:Int) < 24 by omega,w1,w2,w3,w4,w5,w6,w7,w8,w9,w10,w11,w12,w13,zgY,zlW,zfT,zry,hd25,hd24,hs25,hs,hrot,← hst,hp]
      · have : k = 24 := by omega
        subst this
        simp [zbf,g11,zoj])
  exact ⟨fr',rfl,hk⟩
theorem zFG (L:Lim) (h:zab) (s:List W64) (hs:s.length=25):zag ctx L zcI [.agg (cW s)] h=some (.agg (cW (zoj s)),h):=by
  rw [zjP]
  have e0 : cW ((tab 25 fun _ => 0#64).set 0 (gd s 0#64 0)) = cW (zmW s 0) := by
    rw [zu6];exact congrArg cW (zgx fun j _=>rfl)
  simp [zeg,zau,zbh,zaf,hs,zay,zbG,zah,e0]
  generalize hF:run ctx _ (.loop _) _ _=R
  obtain ⟨fr1,rfl,hk1⟩:=zAl s hs _ hF (by simp) (by simp) (by simp) (by simp) (by simp)
  simp [hk1,wr,zbf,zgI,zaf,zoj,zbG,zah]
def zKx (l:List W64) (i:Nat):W64:=gd l 0#64 i ^^^ (gd l 0#64 (i - i % 5+(i+2) % 5)&&&~~~ gd l 0#64 (i - i % 5+(i+1) % 5))
def zFI (l:List W64):List W64:=tab 25 (zKx l)
theorem zFJ {fr:Fr} {h:zab} {R:Option (AEx × Fr × zab)} (s:List W64) (hs:s.length=25) (z:List zaa)
    (hF:run ctx (zau h) (.loop zbu) fr (hx h [z,cW s] [])=R)
    (h1:fr 1=.vptr (cW s) 0) (h3:fr 3=pA h.blks.length 1 0) (h7:fr 7=.int .i64 0):
    ∃ fr',R=some (.exit 0,fr',hx h [z,cW (zFI s)] [])∧∀ t,t∉wr zbu→fr' t=fr t:=by
  obtain ⟨e,fr',h',rfl,⟨rfl,rfl⟩,hk⟩:=zaj hF 25
    (fun k fr hh=>fr 7=.int .i64 k∧hh=hx h [z,cW (zBm 25 (zKx s) (gd s 0#64) k)] [])
    (fun e fr hh=>e=.exit 0∧hh=hx h [z,cW (zFI s)] [])
    ⟨h7, by simp [zBT, ← zBP 0#64 hs]⟩ (by
      rintro k fr1 hh hkN hkeep ⟨g7,rfl⟩
      have g1:=(hkeep 1 (by decide)).trans h1
      have g3:=(hkeep 3 (by decide)).trans h3
      by_cases hlt:k < 25
      · have hset:(zBm 25 (zKx s) (gd s 0#64) k).set k (zKx s k)=zBm 25 (zKx s) (gd s 0#64) (k+1):=zE6 ..
        have hk1:zKx s k=gd s 0#64 k ^^^ (gd s 0#64 (k - k % 5+(k+2) % 5)&&&~~~ gd s 0#64 (k - k % 5+(k+1) % 5)):=rfl
        rw [hk1] at hset
        clear hk1
        have w0:=zwf k
        have w1:IntKind.i64.wrap ((k:Int) - ((k % 5:Nat):Int))=((k - k % 5:Nat):Int):=by
          rw [← zij (k - k % 5) (by omega)];congr 1;omega
        have w2:IntKind.i64.wrap ((k:Int)+1)=((k+1:Nat):Int):=wrap_i64 (by omega) (by omega)
        have w3:IntKind.i64.wrap ((k:Int)+2)=((k+2:Nat):Int):=wrap_i64 (by omega) (by omega)
        have w4:=zwf (k+1)
        have w5:=zwf (k+2)
        have w6:IntKind.i64.wrap (((k - k % 5:Nat):Int)+(((k+1) % 5:Nat):Int))=((k - k % 5+(k+1) % 5:Nat):Int):=by
          rw [← zij (k - k % 5+(k+1) % 5) (by omega),Int.natCast_add]
        have w7:IntKind.i64.wrap (((k - k % 5:Nat):Int)+(((k+2) % 5:Nat):Int))=((k - k % 5+(k+2) % 5:Nat):Int):=by
          rw [← zij (k - k % 5+(k+2) % 5) (by omega),Int.natCast_add]
        have ha:k - k % 5+(k+1) % 5 < 25:=by omega
        have hb:k - k % 5+(k+2) % 5 < 25:=by omega
        generalize k - k % 5+(k+1) % 5=a at*
        generalize k - k % 5+(k+2) % 5=b at*
        generalize (k+1) % 5=c at*
        generalize (k+2) % 5=d at*
        generalize k - k % 5=q at*
        generalize k % 5=r at*
        have w8:((k+1:Nat):Int)=(k:Int)+1:=rfl
        generalize hk1:k+1=k1 at*
        generalize k+2=k2 at*
        simp [zbu,zau,g7,g1,g3,hlt,show (k:Int) < 25 by omega,show k≤24 by omega,w0,w1,w2,w3,w4,w5,w6,w7,zgY,zfT,zry,ha,hb,zIh,hs,hset,hk1,show k1≤25 by omega]
        try omega
      · have : k = 25 := by omega
        subst this
        simp [zbu,g7,zE7,zFI])
  exact ⟨fr',rfl,hk⟩
theorem zLK (L:Lim) (h:zab) (s:List W64) (hs:s.length=25):zag ctx L zdl [.agg (cW s)] h=some (.agg (cW (zFI s)),h):=by
  rw [zlb]
  simp [zfu,zau,zbh,zaf,hs,zbG,zah]
  generalize hF:run ctx _ (.loop _) _ _=R
  obtain ⟨fr1,rfl,hk1⟩:=zFJ s hs _ hF (by simp) (by simp) (by simp)
  simp [hk1,wr,zbu,zgI,zaf,zFI,zbG,zah]
def rcW:List W64:=[1#64,32898#64,9223372036854808714#64,9223372039002292224#64,32907#64,2147483649#64,9223372039002292353#64,9223372036854808585#64,138#64,136#64,2147516425#64,2147483658#64,2147516555#64,9223372036854775947#64,9223372036854808713#64,9223372036854808579#64,9223372036854808578#64,9223372036854775936#64,32778#64,9223372039002259466#64,9223372039002292353#64,9223372036854808704#64,2147483649#64,9223372039002292232#64]
theorem zIH (fr:Fr):ctx.ev fr (.g 3)=.vptr (cW rcW) 0:=rfl
theorem zx4 (L:Lim) (h:zab) (k:Nat) (hk:k < 24):zag ctx L zdU [.int .i64 k] h=some (wd (gd rcW 0#64 k),h):=by
  rw [zmp]
  have hl:rcW.length=24:=rfl
  simp [zf2,show ¬(24:Int)≤k by omega,show ¬(k:Int) < 0 by omega,zIH,zry,hk,hl]
def ztR (l:List W64) (k:Nat):List W64:=(zFI (zoj (zqa l))).set 0 (gd (zFI (zoj (zqa l))) 0#64 0 ^^^ gd rcW 0#64 k)
@[simp] theorem zKz (l:List W64):(zqa l).length=25:=by simp [zqa]
@[simp] theorem zKA (l:List W64):(zoj l).length=25:=by simp [zoj]
@[simp] theorem zNP (l:List W64):(zFI l).length=25:=by simp [zFI]
@[simp] theorem zKB (l:List W64) (k:Nat):(ztR l k).length=25:=by simp [ztR]
theorem zCP (L:Lim) (h:zab) (s:List W64) (hs:s.length=25) (k:Nat) (hk:k < 24):zag ctx L zcF [.agg (cW s),.int .i64 k] h=some (.agg (cW (ztR s k)),h):=by
  rw [zjJ]
  simp [zej,zau,zbh,zd7,zaa.okV,zaa.cells,zaf,hs,zbG,zah,zFE,zFG,zLK,zx4,hk,ztR]
def zx5 (l:List W64) (k:Nat):List W64:=(List.range k).foldl ztR l
theorem ztS (l:List W64) (k:Nat):zx5 l (k+1)=ztR (zx5 l k) k:=by simp [zx5,List.range_succ]
theorem zwm (l:List W64) (hl:l.length=25):∀ k,(zx5 l k).length=25
  | 0=>by simpa [zx5] using hl
  | k+1=>by rw [ztS];simp
def zom (l:List W64):List W64:=zx5 l 24
theorem zwn {fr:Fr} {h:zab} {R:Option (AEx × Fr × zab)} (s:List W64) (hs:s.length=25) (z:List zaa)
    (hF:run ctx (zau h) (.loop zaU) fr (hx h [cW s,z] [])=R)
    (h1:fr 1=pA h.blks.length 0 0) (h4:fr 4=.int .i64 0):
    ∃ fr',R=some (.exit 0,fr',hx h [cW (zom s),z] [])∧∀ t,t∉wr zaU→fr' t=fr t:=by
  obtain ⟨e,fr',h',rfl,⟨rfl,rfl⟩,hk⟩:=zaj hF 24
    (fun k fr hh=>fr 4=.int .i64 k∧hh=hx h [cW (zx5 s k),z] [])
    (fun e fr hh=>e=.exit 0∧hh=hx h [cW (zom s),z] [])
    ⟨h4,rfl⟩ (by
      rintro k fr1 hh hkN hkeep ⟨g4,rfl⟩
      have g1:=(hkeep 1 (by decide)).trans h1
      by_cases hlt:k < 24
      · have w1 : IntKind.i64.wrap ((k : Int) + 1) = k + 1 := wrap_i64 (by omega) (by omega)
        have hl:=zwm s hs k
        simp [zaU,zau,g4,g1,hlt,show (k:Int) < 24 by omega,w1,zaf,hl,zbG,zah,zCP,ztS]
      · have : k = 24 := by omega
        subst this
        simp [zaU,g4,zom])
  exact ⟨fr',rfl,hk⟩
theorem zes (l:List W64) (hl:l.length=25):(zom l).length=25:=zwm l hl 24
theorem zpy (L:Lim) (h:zab) (s:List W64) (hs:s.length=25):zag ctx L za6 [.agg (cW s)] h=some (.agg (cW (zom s)),h):=by
  rw [ziQ]
  simp [zdi,zau,zbh,zd7,zaa.okV,zaa.cells,zaf,hs]
  generalize hF:run ctx _ (.loop _) _ _=R
  obtain ⟨fr1,rfl,hk1⟩:=zwn s hs _ hF (by simp) (by simp)
  simp [hk1,wr,zaU,zgI,zaf,zes,hs,zbG,zah]
end Go.Av
namespace Go.Av
def bit (l:List W64) (j:Nat):Bool:=(gd l 0#64 (j / 320+5*(j / 64 % 5))).getLsbD (j % 64)
end Go.Av
namespace Go.Av
end Go.Av
namespace Go.Av
end Go.Av
namespace Go.Av
end Go.Av
namespace Go.Av
end Go.Av
namespace Go.Av
end Go.Av
namespace Go.Av
def byW (w:W64) (k:Nat):Int:=((w >>> (8*k)).toNat % 256:Nat)
def zew (l:List W64):List Int:=tab (8*l.length) fun j=>byW (gd l 0#64 (j / 8)) (j % 8)
theorem zAV (w:W64):IntKind.u8.wrap (w.toNat:Int)=((w.toNat % 256:Nat):Int):=by
  unfold IntKind.wrap
  simp [IntKind.signed,IntKind.bits]
@[simp] theorem zMV (w:W64):zKM .u8 (wd w)=some (.int .u8 ((w.toNat % 256:Nat):Int)):=by
  unfold wd;rw [zd3,zAV]
theorem zvq {fr : Fr} {h : zab} {R : Option (AEx × Fr × zab)} (l : List W64) (bs : List (List zaa)) (i : Nat) (hi : i < l.length) (hl : l.length < 1000000) (f : Nat → Int) (hf : f = fun j => byW (gd l 0#64 (j / 8)) (j % 8))
    (hF:run ctx (zau h) (.loop zdT) fr (hx h bs (gT (eI .u8 (tab (8*i) f))))=R)
    (h3:fr 3=gL .nsl h.toks.length 0 (eI .u8 (tab (8*i) f))) (h5:fr 5=wd (gd l 0#64 i)) (h12:fr 12=.int .i64 0):
    ∃ fr',R=some (.exit 2,fr',hx h bs (gT (eI .u8 (tab (8*(i+1)) f))))∧fr' 3=gL .nsl h.toks.length 0 (eI .u8 (tab (8*(i+1)) f))∧∀ t,t∉wr zdT→fr' t=fr t:=by
  obtain ⟨e,fr',h',rfl,⟨rfl,rfl,h3'⟩,hk⟩:=zaj hF 8
    (fun k fr hh=>fr 12=.int .i64 k∧fr 5=wd (gd l 0#64 i >>> (8*k))∧fr 3=gL .nsl h.toks.length 0 (eI .u8 (tab (8*i+k) f))∧hh=hx h bs (gT (eI .u8 (tab (8*i+k) f))))
    (fun e fr hh=>e=.exit 2∧hh=hx h bs (gT (eI .u8 (tab (8*(i+1)) f)))∧fr 3=gL .nsl h.toks.length 0 (eI .u8 (tab (8*(i+1)) f)))
    ⟨h12, by simpa using h5, h3, rfl⟩ (by
      rintro k fr1 hh hkN hkeep ⟨g12,g5,g3,rfl⟩
      by_cases hlt:k < 8
      · have w1 : IntKind.i64.wrap ((k : Int) + 1) = k + 1 := wrap_i64 (by omega) (by omega)
        have hfk:((((gd l 0#64 i >>> (8*k)).toNat % 256:Nat):Int))=f (8*i+k):=by
          rw [hf];simp only [byW]
          rw [show (8*i+k) / 8=i by omega,show (8*i+k) % 8=k by omega]
        have hsh:gd l 0#64 i >>> (8*k) >>> 8=gd l 0#64 i >>> (8*(k+1)):=by
          rw [← BitVec.shiftRight_add];rfl
        have hroom:8*i+k+1 < 274877906944:=by omega
        generalize hw:gd l 0#64 i >>> (8*k)=w at*
        have hs8:zdX .shr (wd w) (.int .u64 8)=some (wd (w >>> 8)):=zmT w .u64 8 (by decide)
        generalize hm:8*i+k=m at*
        simp [zdT,g12,g5,g3,hlt,show (k:Int) < 8 by omega,w1,zau,zay,rep,zaa.cells,zaa.okV,chunks,hfk,zhT,zpQ,zas,hroom,hs8,hsh, -zdL]
        simp [← Nat.add_assoc,hm]
      · have : k = 8 := by omega
        subst this
        simp [zdT,g12,g3,Nat.mul_add])
  exact ⟨fr',rfl,h3',hk⟩
theorem zAW {fr : Fr} {h : zab} {R : Option (AEx × Fr × zab)} (l : List W64) (x : zaa) (bs : List (List zaa)) (hl : l.length < 1000000) (f : Nat → Int) (hf : f = fun j => byW (gd l 0#64 (j / 8)) (j % 8)) (hx6 : RdW h x l)
    (hF:run ctx (zau h) (.loop zhf) fr (hx h bs [])=R)
    (h3:fr 3=.nsl) (h6:fr 6=x) (h7:fr 7=.int .i64 l.length) (h8:fr 8=.int .i64 0):
    ∃ fr',R=some (.exit 0,fr',hx h bs (gT (eI .u8 (zew l))))∧fr' 3=gL .nsl h.toks.length 0 (eI .u8 (zew l)):=by
  obtain ⟨r1,p,r2,r3⟩:=hx6
  obtain ⟨e,fr',h',rfl,⟨rfl,rfl,h3'⟩,hk⟩:=zaj hF l.length
    (fun k fr hh=>fr 8=.int .i64 k∧fr 3=gL .nsl h.toks.length 0 (eI .u8 (tab (8*k) f))∧hh=hx h bs (gT (eI .u8 (tab (8*k) f))))
    (fun e fr hh=>e=.exit 0∧hh=hx h bs (gT (eI .u8 (zew l)))∧fr 3=gL .nsl h.toks.length 0 (eI .u8 (zew l)))
    ⟨h8, by simpa [tab, gL] using h3, by simp [tab, gT]⟩ (by
      rintro k fr1 hh hkN hkeep ⟨g8,g3,rfl⟩
      have g6:=(hkeep 6 (by decide)).trans h6
      have g7:=(hkeep 7 (by decide)).trans h7
      by_cases hlt:k < l.length
      · have w1 : IntKind.i64.wrap ((k : Int) + 1) = k + 1 := wrap_i64 (by omega) (by omega)
        simp [zhf,g8,g6,g7,hlt,r2 k hlt,r3 k _ _ hlt]
        generalize hF:run ctx _ (.loop _) _ _=R
        obtain ⟨fr2,rfl,q1,q2⟩:=zvq l bs k hlt hl f hf hF (by simp [g3]) (by simp) (by simp)
        simp [q1,q2,wr,zdT,zgI,g8,w1]
        exact hlt
      · have : k = l.length := by omega
        subst this
        simp [zhf,g8,g7,g3,zew,hf])
  exact ⟨fr',rfl,h3'⟩
theorem zzH (L:Lim) (h:zab) (l:List W64) (x:zaa) (hl:l.length < 1000000) (hx6:RdW h x l):zag ctx L zgC [x] h=some (.vsl false (eI .u8 (zew l)),h):=by
  rw [zr7]
  simp [zlh,hx6.1]
  generalize hF:run ctx _ (.loop _) _ _=R
  obtain ⟨fr1,rfl,q1⟩:=zAW l x _ hl _ rfl hx6 hF (by simp) (by simp) (by simp) (by simp)
  simp [q1,zoN]
@[simp] theorem zKZ (l:List W64):(zew l).length=8*l.length:=by simp [zew]
end Go.Av
namespace Go.Av
theorem ztV (L:Lim) (h:zab) (s:List W64) (hs:s.length=25):zag ctx L zbH [.agg (cW s)] h=some (.agg (cI .u8 (zew s)),h):=by
  rw [zke]
  have hb:=fun L bs=>zzH L (hx h (cW s :: bs) []) s (sA h.blks.length 0 0 1 25 (some 25)) (by omega) (RdW.sA [] 0 25 _ s hs (by simp))
  have e1:(zew s).take 200=zew s:=List.take_of_length_le (by simp [hs])
  simp [zee,zau,zgg,zd7,zaa.okV,zaa.cells,hs,zlf,hb,zy2,zaf,e1,zbG,zah]
def zbL (s:List W64) (n:Int):List zaa:=cW s++[.int .i64 n]
@[simp] theorem zLU (s:List W64) (n:Int):(zbL s n).length=s.length+1:=by simp [zbL]
theorem zwp {s:List W64} {n:Int} {i:Nat} (h:decide (i < s.length)=true):(zbL s n)[i]?=some (wd (gd s 0#64 i)):=by
  have h':i < s.length:=by simpa using h
  unfold zbL;rw [List.getElem?_append_left (by simpa using h')];exact zFb h'
theorem zqZ {s:List W64} {n:Int} (h:s.length=25):(zbL s n)[25]?=some (.int .i64 n):=by
  unfold zbL;rw [List.getElem?_append_right (by simp [h])];simp [h]
theorem zr2 {s:List W64} {n:Int} (h0:25 < (zbL s n).length) (h:s.length=25):(zbL s n)[25]=.int .i64 n:=by
  have:=zqZ (n:=n) h
  rw [List.getElem?_eq_getElem h0] at this
  exact Option.some.inj this
theorem zpE {s:List W64} {n:Int} {i:Nat} (h0:i < (zbL s n).length) (h:decide (i < s.length)=true):(zbL s n)[i]=wd (gd s 0#64 i):=by
  have:=zwp (n:=n) h
  rw [List.getElem?_eq_getElem h0] at this
  exact Option.some.inj this
theorem zCZ {s:List W64} {n:Int} {i:Nat} (x:W64) (h:decide (i < s.length)=true):(zbL s n).set i (wd x)=zbL (s.set i x) n:=by
  have h':i < s.length:=by simpa using h
  unfold zbL;rw [List.set_append_left _ _ (by simpa using h')];simp
theorem ztX {s:List W64} {n:Int} (m:Int) (h:s.length=25):(zbL s n).set 25 (.int .i64 m)=zbL s m:=by
  unfold zbL;rw [List.set_append_right _ _ (by simp [h])];simp [h]
theorem ztY {s:List W64} {n:Int} (h:s.length=25):zei true (zbL s n) 0 25=some (.agg (cW s)):=by
  unfold zei zbL;simp [h]
theorem zwr {s:List W64} {n:Int} (h:s.length=25):zei true (zbL s n) 0 26=some (.agg (zbL s n)):=zxk (by simp [h])
theorem zAp {s t:List W64} {n:Int} (h:s.length=25) (ht:t.length=25):setAt (zbL s n) 0 (cW t)=zbL t n:=by
  have e:∀ (cs old rest:List zaa),old.length=cs.length→∀ pre:List zaa,setAt (pre++(old++rest)) pre.length cs=pre++(cs++rest):=by
    intro cs
    induction cs with
    | nil=>intro old rest h pre;cases old with | nil=>simp [setAt] | cons a l=>simp at h
    | cons c cs ih=>
      intro old rest h pre
      cases old with
      | nil=>simp at h
      | cons a l=>
        simp only [setAt]
        rw [List.set_append_right _ _ (Nat.le_refl _),Nat.sub_self]
        have:=ih l rest (by simpa using h) (pre++[c])
        simpa using this
  have:=e (cW t) (cW s) [.int .i64 n] (by simp [h,ht]) []
  simpa [zbL] using this
def zzf (s:List W64) (at_:Nat) (v:Int):List W64:=s.set (at_ / 8) (gd s 0#64 (at_ / 8) ^^^ (bw v <<< (8*(at_ % 8))))
@[simp] theorem zNV (s:List W64) (n:Nat) (v:Int):(zzf s n v).length=s.length:=by simp [zzf]
theorem zC3 (L:Lim) (h:zab) (bs:List (List zaa)) (ts:List Nat) (i:Nat) (s:List W64) (n:Int) (at_:Nat) (v:Int) (hs:s.length=25) (ha:at_ < 200) (hb:bs[i]?=some (zbL s n)) (hL:L.rob≤h.blks.length):
    zag ctx L zbc [pA h.blks.length i 0,.int .i64 (at_:Int),.int .u8 v] (hx h bs ts)=some (.tup [],hx h (bs.set i (zbL (zzf s at_ v) n)) ts):=by
  rw [zmJ]
  have w0:=zyx at_ 8
  have w1:=zC0 at_ 8
  have w2:IntKind.i64.wrap ((at_ / 8:Nat):Int)=((at_ / 8:Nat):Int):=zij _ (by omega)
  have w3:IntKind.i64.wrap (8*((at_ % 8:Nat):Int))=((8*(at_ % 8):Nat):Int):=by
    rw [← zij (8*(at_ % 8)) (by omega)];simp only [Int.natCast_mul,Int.natCast_add,Int.cast_ofNat_Int]
  have ha25:at_ / 8 < 25:=by omega
  have hb64:8*(at_ % 8)≤64:=by omega
  have hset:s.set (at_ / 8) (gd s 0#64 (at_ / 8) ^^^ (bw v <<< (8*(at_ % 8))))=zzf s at_ v:=rfl
  simp only [Int.cast_ofNat_Int] at w0 w1
  have hi:=(List.getElem?_eq_some_iff.1 hb).1
  generalize at_ / 8=a at*
  generalize hbb:8*(at_ % 8)=b at*
  generalize at_ % 8=c at*
  simp [zfY,w0,w1,w2,w3,zlW,zgY,zan,zal,zfT,ha25,hb,zwp,hs,zv0,hb64,zak,hL,zCZ,hset,show a≤25 by omega,zh9, -zd3, -zlZ]
def zuW (q:List W64 × Nat) (v:Int):List W64 × Nat:=if q.2+1=136 then (zom (zzf q.1 q.2 v),0) else (zzf q.1 q.2 v,q.2+1)
def zbl (q:List W64 × Nat) (l:List Int):List W64 × Nat:=l.foldl zuW q
theorem zFS {q:List W64 × Nat} (v:Int) (h1:q.1.length=25) (h2:q.2 < 136):(zuW q v).1.length=25∧(zuW q v).2 < 136:=by
  unfold zuW
  split
  · exact ⟨zes _ (by simp [h1]),by simp⟩
  · exact ⟨by simp [h1],by simp only [];omega⟩
theorem zjg:∀ (l:List Int) {q:List W64 × Nat},q.1.length=25→q.2 < 136→(zbl q l).1.length=25∧(zbl q l).2 < 136
  | [],q,h1,h2=>⟨h1,h2⟩
  | v :: l, q, h1, h2 => by
    obtain ⟨a,b⟩:=zFS v h1 h2
    exact zjg l a b
theorem zAs {L:Lim} {fr:Fr} {h:zab} {R:Option (AEx × Fr × zab)} (bs:List (List zaa)) (ts:List Nat) (i:Nat) (q:List W64 × Nat) (x:zaa) (l:List Int) (hl:l.length < 200000000000) (h1:q.1.length=25) (h2:q.2 < 136)
    (hb:bs[i]?=some (zbL q.1 q.2)) (hL:L.rob≤h.blks.length) (hr:RdI h .u8 x l)
    (hF:run ctx ⟨L.rob,L.rot,h.blks.length+bs.length,h.toks.length+ts.length⟩ (.loop zbJ) fr (hx h bs ts)=R)
    (h0:fr 0=pA h.blks.length i 0) (h6:fr 6=x) (h7:fr 7=.int .i64 l.length) (h8:fr 8=.int .i64 0):
    ∃ fr',R=some (.exit 0,fr',hx h (bs.set i (zbL (zbl q l).1 (zbl q l).2)) ts):=by
  obtain ⟨r1,p,r2,r3⟩:=hr
  have hi:=(List.getElem?_eq_some_iff.1 hb).1
  obtain ⟨e,fr',h',rfl,⟨rfl,rfl⟩,hk⟩:=zaj hF l.length
    (fun k fr hh=>fr 8=.int .i64 k∧hh=hx h (bs.set i (zbL (zbl q (l.take k)).1 (zbl q (l.take k)).2)) ts)
    (fun e fr hh=>e=.exit 0∧hh=hx h (bs.set i (zbL (zbl q l).1 (zbl q l).2)) ts)
    ⟨h8,by
      have:bs.set i (zbL q.1 q.2)=bs:=by
        refine List.ext_getElem? fun j=>?_
        by_cases e:i=j
        · subst e;rw [List.getElem?_set_self hi,hb]
        · rw [List.getElem?_set_ne e]
      simp [zbl,this]⟩ (by
      rintro k fr1 hh hkN hkeep ⟨g8,rfl⟩
      have g0:=(hkeep 0 (by decide)).trans h0
      have g6:=(hkeep 6 (by decide)).trans h6
      have g7:=(hkeep 7 (by decide)).trans h7
      obtain ⟨c1,c2⟩:=zjg (l.take k) h1 h2
      by_cases hlt:k < l.length
      · have w1 : IntKind.i64.wrap ((k : Int) + 1) = k + 1 := wrap_i64 (by omega) (by omega)
        have hst:zbl q (l.take (k+1))=zuW (zbl q (l.take k)) (gd l 0 k):=by
          rw [zlz 0 hlt];simp [zbl]
        generalize zbl q (l.take k)=q' at*
        obtain ⟨s,n⟩:=q'
        simp only at c1 c2
        have w2:IntKind.i64.wrap ((n:Int)+1)=((n+1:Nat):Int):=wrap_i64 (by omega) (by omega)
        have hp:=zC3 ⟨L.rob,L.rot,h.blks.length+bs.length,h.toks.length+ts.length⟩ h (bs.set i (zbL s n)) ts i s n n (gd l 0 k) c1 (by omega) (by simp [hi]) hL
        by_cases h136:n+1=136
        · have hst2 : zuW (s, n) (gd l 0 k) = (zom (zzf s n (gd l 0 k)), 0) := by simp only [zuW, h136, if_true]
          rw [hst2] at hst
          rw [h136] at w2
          simp [zr2,zpE,zbJ,g0,g6,g7,g8,hlt,w1,r2 k hlt,r3 k _ _ hlt,hi,zqZ,c1,hp,w2,hst,zak,hL,ztX,ztY,zpy,zes,zbG,zAp]
        · have hst2 : zuW (s, n) (gd l 0 k) = (zzf s n (gd l 0 k), n + 1) := by simp only [zuW, h136, if_false]
          rw [hst2] at hst
          have hne:(((n+1:Nat):Int)==136)=false:=beq_false_of_ne (by omega)
          generalize n+1=n1 at*
          simp [zr2,zpE,zbJ,g0,g6,g7,g8,hlt,w1,r2 k hlt,r3 k _ _ hlt,hi,zqZ,c1,hp,w2,hst,zak,hL,ztX,hne]
      · have : k = l.length := by omega
        subst this
        simp [zbJ,g8,g7])
  exact ⟨fr',rfl⟩
theorem zFT (L:Lim) (h:zab) (bs:List (List zaa)) (ts:List Nat) (i:Nat) (q:List W64 × Nat) (x:zaa) (l:List Int) (hl:l.length < 200000000000) (h1:q.1.length=25) (h2:q.2 < 136)
    (hb:bs[i]?=some (zbL q.1 q.2)) (hL:L.rob≤h.blks.length) (hr:RdI h .u8 x l):
    zag ctx L zc6 [pA h.blks.length i 0,x] (hx h bs ts)=some (.tup [],hx h (bs.set i (zbL (zbl q l).1 (zbl q l).2)) ts):=by
  rw [zkZ]
  simp [zeR,hr.1,zan,zal]
  generalize hF:run ctx _ (.loop _) _ _=R
  obtain ⟨fr',rfl⟩:=zAs bs ts i q x l hl h1 h2 hb hL hr hF (by simp) (by simp) (by simp) (by simp)
  simp [zan,zal,zh9]
def zIN (q:List W64 × Nat):List Int:=(zew (zom (zzf (zzf q.1 q.2 6) 135 128))).take 32
theorem zIO (L:Lim) (h:zab) (b:Nat) (q:List W64 × Nat) (h1:q.1.length=25) (h2:q.2 < 136) (hb:h.blks[b]?=some (zbL q.1 q.2)):
    zag ctx L zcR [.ptr b 0] h=some (.agg (cI .u8 (zIN q)),h):=by
  rw [zmB]
  obtain ⟨s,n⟩:=q
  simp only at h1 h2 hb
  have hld:∀ bs ts,zkN (hx h bs ts) (.ptr b 0) 26 true=some (.agg (zbL s n)):=fun bs ts=>(zos h bs ts b 0 26 true _ hb).trans (zwr h1)
  have ep:∀ (bs:List zaa) (s:List W64),s.length=25→zag ctx ⟨h.blks.length,h.toks.length,h.blks.length,h.toks.length⟩ zbc [pA h.blks.length 1 0,.int .i64 (n:Int),.int .u8 6] (hx h [bs,zbL s n] [])=some (.tup [],hx h [bs,zbL (zzf s n 6) n] []):=fun bs s hs=>
    zC3 _ h [bs,zbL s n] [] 1 s n n 6 hs (by omega) (by simp) (Nat.le_refl _)
  have ep2:∀ (bs:List zaa) (s:List W64),s.length=25→zag ctx ⟨h.blks.length,h.toks.length,h.blks.length,h.toks.length⟩ zbc [pA h.blks.length 1 0,.int .i64 135,.int .u8 128] (hx h [bs,zbL s n] [])=some (.tup [],hx h [bs,zbL (zzf s 135 128) n] []):=fun bs s hs=>
    zC3 _ h [bs,zbL s n] [] 1 s n 135 128 hs (by omega) (by simp) (Nat.le_refl _)
  have e32:(zew (zom (zzf (zzf s n 6) 135 128))).length=200:=by simp [zes,h1]
  have hsl:=ztL 200 1 h.blks.length 2 0 32 .i64 (by decide)
  simp only [Int.cast_ofNat_Int] at hsl
  simp [zr2,zpE,zfW,zan,zal,zau,zgg,hld,zwr,h1,zbG,zah,zqZ,ep,ep2,ztY,zpy,ztV,zes,zaf,e32,hsl,zHH,zIN]
  simp [zFw,e32,zbG,zah,List.take_take]
def zIP (l:List Int):List Int:=zIN (zbl (tab 25 fun _=>0#64,0) l)
theorem ztm (q:List W64 × Nat) (l m:List Int):zbl q (l++m)=zbl (zbl q l) m:=by simp [zbl]
def msg (ps:List (zaa × List Int)):List Int:=(ps.map (·.2)).flatten
theorem zFW (ps:List (zaa × List Int)) (k:Nat) (h:k < ps.length):msg (ps.take (k+1))=msg (ps.take k)++ps[k].2:=by
  unfold msg
  rw [List.take_add_one,List.getElem?_eq_getElem h,List.map_append,List.flatten_append]
  congr 1
  simp
theorem zC7 {fr:Fr} {h:zab} {R:Option (AEx × Fr × zab)} (z:List zaa) (ps:List (zaa × List Int)) (hn:ps.length < 1000000) (hr:∀ p∈ps,RdI h .u8 p.1 p.2∧p.2.length < 200000000000)
    (hF:run ctx (zau h) (.loop zd6) fr (hx h [z,zbL (tab 25 fun _=>0#64) 0] [])=R)
    (h3:fr 3=pA h.blks.length 1 0) (h6:fr 6=.vsl false (ps.map fun p=>[p.1])) (h7:fr 7=.int .i64 ps.length) (h8:fr 8=.int .i64 0):
    ∃ fr' q,R=some (.exit 0,fr',hx h [z,zbL q.1 q.2] [])∧q=zbl (tab 25 fun _=>0#64,0) (msg ps)∧q.1.length=25∧q.2 < 136∧∀ t,t∉wr zd6→fr' t=fr t:=by
  obtain ⟨e,fr',h',rfl,⟨rfl,rfl⟩,hk⟩:=zaj hF ps.length
    (fun k fr hh=>fr 8=.int .i64 k∧hh=hx h [z,zbL (zbl (tab 25 fun _=>0#64,0) (msg (ps.take k))).1 (zbl (tab 25 fun _=>0#64,0) (msg (ps.take k))).2] [])
    (fun e fr hh=>e=.exit 0∧hh=hx h [z,zbL (zbl (tab 25 fun _=>0#64,0) (msg ps)).1 (zbl (tab 25 fun _=>0#64,0) (msg ps)).2] [])
    ⟨h8, by simp only [List.take_zero]; rfl⟩ (by
      rintro k fr1 hh hkN hkeep ⟨g8,rfl⟩
      have g3:=(hkeep 3 (by decide)).trans h3
      have g6:=(hkeep 6 (by decide)).trans h6
      have g7:=(hkeep 7 (by decide)).trans h7
      obtain ⟨c1,c2⟩:=zjg (msg (ps.take k)) (q:=(tab 25 fun _=>0#64,0)) (by simp) (by simp)
      by_cases hlt:k < ps.length
      · have w1 : IntKind.i64.wrap ((k : Int) + 1) = k + 1 := wrap_i64 (by omega) (by omega)
        have hst : zbl (tab 25 fun _ => 0#64, 0) (msg (ps.take (k + 1))) = zbl (zbl (tab 25 fun _ => 0#64, 0) (msg (ps.take k))) ps[k].2 := by
          rw [← ztm]
          congr 1
          exact zFW ps k hlt
        obtain ⟨r1,r2⟩:=hr ps[k] (List.getElem_mem hlt)
        generalize zbl (tab 25 fun _=>0#64,0) (msg (ps.take k))=q' at*
        have hw:=zFT ⟨h.blks.length,h.toks.length,h.blks.length,h.toks.length⟩ h [z,zbL q'.1 q'.2] [] 1 q' ps[k].1 ps[k].2 r2 c1 c2 (by simp) (Nat.le_refl _) r1
        simp [zd6,zau,g3,g6,g7,g8,hlt,zcZ,asI,w1,hw,hst]
      · have : k = ps.length := by omega
        subst this
        simp [zd6,g8,g7])
  obtain ⟨c1,c2⟩:=zjg (msg ps) (q:=(tab 25 fun _=>0#64,0)) (by simp) (by simp)
  exact ⟨fr',_,rfl,rfl,c1,c2,hk⟩
theorem zAx:[zaa.int .u64 0,.int .u64 0,.int .u64 0,.int .u64 0,.int .u64 0,.int .u64 0,.int .u64 0,.int .u64 0,.int .u64 0,.int .u64 0,.int .u64 0,.int .u64 0,.int .u64 0,.int .u64 0,.int .u64 0,.int .u64 0,.int .u64 0,.int .u64 0,.int .u64 0,.int .u64 0,.int .u64 0,.int .u64 0,.int .u64 0,.int .u64 0,.int .u64 0,.int .i64 0]=zbL (tab 25 fun _=>0#64) 0:=rfl
theorem zIQ (L:Lim) (h:zab) (c:Bool) (ps:List (zaa × List Int)) (hn:ps.length < 1000000) (hr:∀ p∈ps,RdI h .u8 p.1 p.2∧p.2.length < 200000000000):
    zag ctx L zgA [.vsl c (ps.map fun p=>[p.1])] h=some (.agg (cI .u8 (zIP (msg ps))),h):=by
  rw [zr4]
  simp [zl1,zAx,zgg,zau]
  generalize hF:run ctx _ (.loop _) _ _=R
  obtain ⟨fr',q,rfl,q1,q2,q3,hk⟩:=zC7 _ ps hn hr hF (by simp) (by simp) (by simp) (by simp)
  have hs:zag ctx ⟨h.blks.length,h.toks.length,h.blks.length,h.toks.length⟩ zcR [pA h.blks.length 1 0] (hx h [cI .u8 (tab 32 fun _=>0),zbL q.1 q.2] [])=some (.agg (cI .u8 (zIN q)),hx h [cI .u8 (tab 32 fun _=>0),zbL q.1 q.2] []):=zIO ⟨h.blks.length,h.toks.length,h.blks.length,h.toks.length⟩ (hx h [cI .u8 (tab 32 fun _=>0),zbL q.1 q.2] []) (h.blks.length+1) q q2 q3 (zy3 [] (by simp))
  have hl:(zIN q).length=32:=by simp [zIN,zes,q2]
  simp [hk,wr,zd6,zgI,hs,zbG,hl,zah,zaf,zIP,← q1]
end Go.Av
namespace Go.Av
def obK (b:List Int) (n:Nat):Nat→List W64
  | 0=>tab 25 fun _=>0#64
  | k+1=>let i:=n - 1 - k;(obK b n k).set (i / 8) (gd (obK b n k) 0#64 (i / 8)*256#64+bw (gd b 0 i))
@[simp] theorem zIU (b:List Int) (n:Nat):∀ k,(obK b n k).length=25
  | 0=>by simp [obK]
  | k+1=>by simp [obK,zIU b n k]
def zgv (b:List Int):List W64:=obK b 200 200
end Go.Av
namespace Go.Av
structure Sp where
  S:List Int
  a:Nat
  b:Nat
  c:Nat
def zmQ (S:List Int):List Int:=zew (zom (zgv S))
theorem zeS (S:List Int):(zgv S).length=25:=by simp [zgv]
theorem zp3 (l : List W64) : inB (zew l) := fun i hi => by
  unfold zew at hi ⊢
  rw [zk6 (by simpa using hi)]
  unfold byW;omega
@[simp] theorem zrf (S:List Int):(zmQ S).length=200:=by simp [zmQ,zew,zes,zeS]
theorem zzT (S:List Int):inB (zmQ S):=zp3 _
def zo9 (s:Sp):Sp:=⟨zmQ s.S,0,s.b,s.c+1⟩
def zE1 (s:Sp):Sp:=if s.a=136 then zo9 s else s
def zlY (s:Sp) (u:Int):Sp:=⟨(zE1 s).S.set (zE1 s).a u,(zE1 s).a+1,136,(zE1 s).c⟩
def zbF (s:Sp) (l:List Int):Sp:=l.foldl zlY s
def zEC (s:Sp):Sp:=if s.b=136 then {zo9 s with b:=0} else s
def zxj (s:Sp):Sp:={zEC s with b:=(zEC s).b+1}
def zLd (s:Sp):Int:=gd (zEC s).S 0 (zEC s).b
def zdj (s:Sp):Nat→Sp
  | 0=>s
  | n+1=>zxj (zdj s n)
def zjz (s:Sp) (n:Nat):List Int:=tab n fun k=>zLd (zdj s k)
def zE2 (s:Sp):Sp:=⟨putAt (zmQ s.S) 0 (tab 136 fun _=>0),0,136,s.c+1⟩
def Sp.ok (s:Sp):Prop:=s.S.length=200∧inB s.S∧s.a≤136∧s.b≤136
theorem zrh {s:Sp} (h:s.ok):(zo9 s).ok:=⟨by simp [zo9],zzT _,by simp [zo9],h.2.2.2⟩
theorem zKr {s:Sp} (h:s.ok):(zE1 s).ok∧(zE1 s).a < 136:=by
  unfold zE1
  split
  · exact ⟨zrh h,by simp [zo9]⟩
  · exact ⟨h,by have:=h.2.2.1;omega⟩
theorem zEF {s:Sp} (h:s.ok):(zEC s).ok∧(zEC s).b < 136:=by
  unfold zEC
  split
  · exact ⟨⟨(zrh h).1,(zrh h).2.1,(zrh h).2.2.1,by simp⟩,by simp⟩
  · exact ⟨h,by have:=h.2.2.2;omega⟩
theorem zEG {l : List Int} (hl : inB l) (i : Nat) (v : Int) (hv : 0 ≤ v ∧ v < 256) : inB (l.set i v) := fun j hj => by
  have hj':j < l.length:=by simpa using hj
  by_cases hi:i < l.length
  · rw [zlD _ _ _ _ _ hi];split
    · exact hv
    · exact hl j hj'
  · rw [List.set_eq_of_length_le (by omega)];exact hl j hj'
theorem zHr {s:Sp} (h:s.ok) (u:Int) (hu:0≤u∧u < 256):(zlY s u).ok:=by
  obtain ⟨⟨h1,h2,h3,h4⟩,h5⟩:=zKr h
  exact ⟨by simp [zlY,h1],zEG h2 _ _ hu,by simp only [zlY];omega,by simp [zlY]⟩
theorem ziB {x:Int} {l:List Int}:inB (x :: l)↔(0≤x∧x < 256)∧inB l:=by
  constructor
  · intro h
    exact ⟨h 0 (by simp),fun i hi=>h (i+1) (by simpa using hi)⟩
  · intro ⟨h1,h2⟩ i hi
    cases i with
    | zero=>exact h1
    | succ i=>exact h2 i (by simpa using hi)
theorem zgc:∀ {l:List Int} {s:Sp},s.ok→inB l→(zbF s l).ok
  | [],s,h,_=>h
  | u :: l,s,h,hl=>zgc (l:=l) (zHr h u (ziB.1 hl).1) (ziB.1 hl).2
theorem zHs {s:Sp} (h:s.ok):(zxj s).ok:=by
  obtain ⟨⟨h1,h2,h3,h4⟩,h5⟩:=zEF h
  exact ⟨h1,h2,h3,by simp only [zxj];omega⟩
theorem zmi {s:Sp} (h:s.ok):∀ n,(zdj s n).ok
  | 0=>h
  | n+1=>zHs (zmi h n)
theorem zrj (n : Nat) : inB (tab n fun _ => 0) := fun i hi => by
  rw [zk6 (by simpa using hi)];omega
theorem zHt {l m:List Int} {off:Nat} (h:off+m.length≤l.length) (j:Nat) (hj:j < l.length):gd (putAt l off m) 0 j=if off≤j∧j < off+m.length then gd m 0 (j - off) else gd l 0 j:=by
  unfold putAt
  by_cases h1:j < off
  · rw [zDU _ _ _ _ (by simp;omega),zDh h1,if_neg (by omega)]
  · rw [zDI _ _ _ _ (by simp; omega), List.length_take, Nat.min_eq_left (by omega)]
    by_cases h2:j < off+m.length
    · rw [zDU _ _ _ _ (by omega),if_pos (by omega)]
    · rw [zDI _ _ _ _ (by omega), if_neg (by omega)]
      unfold gd;simp only [List.getD,List.getElem?_drop]
      congr 2;omega
theorem zxo {l m : List Int} {off : Nat} (h : off + m.length ≤ l.length) (hl : inB l) (hm : inB m) : inB (putAt l off m) := fun j hj => by
  rw [zsj _ _ _ h] at hj
  rw [zHt h j hj]
  split
  · exact hm _ (by omega)
  · exact hl j hj
theorem zKs {s:Sp} (h:s.ok):(zE2 s).ok:=
  ⟨by simp only [zE2];rw [zsj _ _ _ (by simp)];simp,zxo (by simp) (zzT _) (zrj 136),by simp [zE2],by simp [zE2]⟩
theorem zxp (s:Sp) (l m:List Int):zbF s (l++m)=zbF (zbF s l) m:=by simp [zbF]
theorem zBj (s:Sp) (l:List Int) (k:Nat) (h:k < l.length):zbF s (l.take (k+1))=zlY (zbF s (l.take k)) (gd l 0 k):=by
  rw [zlz 0 h,zxp];rfl
theorem zxr (s:Sp) (m:Nat):∀ n,zdj s (m+n)=zdj (zdj s m) n
  | 0=>rfl
  | n+1=>by rw [← Nat.add_assoc,zdj,zdj,zxr s m n]
theorem zpc (s:Sp) (n:Nat):(zjz s n).length=n:=by simp [zjz]
theorem zHx (s:Sp) (m n:Nat):zjz s (m+n)=zjz s m++zjz (zdj s m) n:=by
  refine List.ext_getElem? fun j=>?_
  simp only [zjz]
  rw [ziu]
  by_cases h1:j < m
  · rw [List.getElem?_append_left (by simpa using h1),ziu,if_pos h1,if_pos (by omega)]
  · rw [List.getElem?_append_right (by simp; omega), ziu, zyi]
    by_cases h2:j - m < n
    · rw [if_pos h2,if_pos (by omega),← zxr,show m+(j - m)=j by omega]
    · rw [if_neg h2,if_neg (by omega)]
theorem zEK (s:Sp) (n:Nat):zjz s (n+1)=zjz s n++[zLd (zdj s n)]:=by rw [zHx];rfl
theorem zEL {s:Sp} (h:s.a≤136) (u:Int):136*(zlY s u).c+(zlY s u).a=136*s.c+s.a+1∧1≤(zlY s u).a∧(zlY s u).a≤136∧s.c≤(zlY s u).c:=by
  unfold zlY zE1
  split
  · simp only [zo9];omega
  · simp only [];omega
theorem zxt:∀ {l:List Int} {s:Sp},s.a≤136→136*(zbF s l).c+(zbF s l).a=136*s.c+s.a+l.length∧(zbF s l).a≤136∧s.c≤(zbF s l).c∧(l≠[]→1≤(zbF s l).a)
  | [],s,h=>by simp [zbF,h]
  | u :: l, s, h => by
    obtain ⟨h1,h2,h3,h4⟩:=zEL h u
    obtain ⟨g1,g2,g3,g4⟩:=zxt (l:=l) h3
    have e:zbF s (u :: l)=zbF (zlY s u) l:=rfl
    rw [e]
    refine ⟨by simp only [List.length_cons];omega,g2,by omega,fun _=>?_⟩
    by_cases hl:l=[]
    · subst hl;exact h2
    · exact g4 hl
def zyM (l:List Int):Sp:=⟨putAt (tab 200 fun _=>0) 136 l,0,136,0⟩
theorem zKu {l:List Int} (h:l.length≤64) (hl:inB l):(zyM l).ok:=
  ⟨by simp only [zyM];rw [zsj _ _ _ (by simp;omega)];simp,zxo (by simp;omega) (zrj 200) hl,by simp [zyM],by simp [zyM]⟩
end Go.Av
