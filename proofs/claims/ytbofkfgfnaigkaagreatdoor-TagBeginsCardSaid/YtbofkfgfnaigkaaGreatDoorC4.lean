/- Powers, matrices and the shift register of the program are those of the numbers. -/
import Derived.Test.YtbofkfgfnaigkaaGreatDoorC3
import Derived.Test.YtbofkfgfnaigkaaGreatDoorC8
set_option linter.unusedSimpArgs false
set_option linter.unusedVariables false
set_option maxHeartbeats 2000000
set_option maxRecDepth 20000
namespace Go.Av
theorem zXt:pN+pN < rN:=by decide
theorem zCs (x y:Nat):val (fe x)+val (fe y) < rN:=Nat.lt_trans (Nat.add_lt_add (zp9 x) (zp9 y)) zXt
theorem zPm (L:Lim) (h:zab) (x y:Nat):zag ctx L zdL [.agg (cW (fe x)),.agg (cW (fe y))] h=some (.agg (cW (fe (x+y))),h):=by
  rw [zo8]
  have h1:=fun L h=>zJx L h (fe x) (fe y) rfl rfl (zCs x y)
  have h2:=fun L h=>zzD L h (w4 (val (fe x)+val (fe y))) rfl
  rw [zuI _ (zCs x y),zTU] at h2
  have l1:=zaV x
  have l2:=zaV y
  have l3:=zaV (x+y)
  generalize w4 (val (fe x)+val (fe y))=s at*
  generalize fe (x+y)=r at*
  generalize fe x=a at*
  generalize fe y=b at*
  simp -implicitDefEqProofs [zhD,zak,zaj,l1,l2,l3,h1,h2,zaA,zbp,zai,zaI]
theorem zyC (L:Lim) (h:zab) (x y:Nat):zag ctx L za4 [.agg (cW (fe x)),.agg (cW (fe y))] h=some (.agg (cW (fe (x*y))),h):=by
  rw [zo9]
  have h1:=fun L h=>zud L h (fe x) (fe y) rfl rfl (zp9 y)
  rw [zQT] at h1
  have l1:=zaV x
  have l2:=zaV y
  have l3:=zaV (x*y)
  generalize fe (x*y)=r at*
  generalize fe x=a at*
  generalize fe y=b at*
  simp -implicitDefEqProofs [zhF,zak,zaj,l1,l2,l3,h1,zaA,zbp,zai,zaI]
theorem zwX (L:Lim) (h:zab) (x:Nat):zag ctx L zbE [.agg (cW (fe x))] h=some (.agg (cW (fe (x*x))),h):=by
  rw [zmv]
  have h1:=fun L h=>zyC L h x x
  have l1:=zaV x
  have l3:=zaV (x*x)
  generalize fe (x*x)=r at*
  generalize fe x=a at*
  simp -implicitDefEqProofs [zfJ,zak,zaj,l1,l3,h1,zaA,zbp,zai,zaI]
theorem ztN (L:Lim) (h:zab) (v:W64):zag ctx L zen [wd v] h=some (.agg (cW (fe v.toNat)),h):=by
  rw [zql]
  have e0:(cW (tab 4 fun _=>0#64)).set 0 (wd v)=cW [v,0#64,0#64,0#64]:=rfl
  have h1:=fun L h=>zy1 L h [v,0#64,0#64,0#64] rfl
  have hv:val [v,0#64,0#64,0#64]=v.toNat:=by simp [val]
  rw [hv] at h1
  have l3:=zaV v.toNat
  generalize fe v.toNat=r at*
  generalize [v,0#64,0#64,0#64]=q at*
  simp -implicitDefEqProofs [zh3,zak,zaj,l3,h1,zaA,zbp,zai,zaI,e0]
theorem zRP (x : Nat) : (fe x = tab 4 fun _ => 0#64) ↔ x % pN = 0 := by
  have h0:(tab 4 fun _=>(0#64:W64))=fe 0:=by decide +kernel
  rw [h0]
  constructor
  · intro h
    have:=zT6 h
    rwa [Nat.zero_mod] at this
  · intro h
    rw [← zyp,h]
theorem zHF (L:Lim) (h:zab) (x:Nat):zag ctx L zcw [.agg (cW (fe x))] h=some (.bool (decide (x % pN=0)),h):=by
  rw [zmi]
  have e:=zUk (fe x) (tab 4 fun _=>0#64) 4 rfl (by simp)
  have e2:decide (fe x=tab 4 fun _=>0#64)=decide (x % pN=0):=by simp only [zRP]
  rw [e2] at e
  have l1:=zaV x
  generalize fe x=a at*
  simp -implicitDefEqProofs [zfA,zak,zaj,l1,zaA,zaI,e, -zEr]
theorem zLI (L:Lim) (h:zab) (x:Nat):zag ctx L zhj [.agg (cW (fe x))] h=some (.agg (cW (fe (x ^ 5))),h):=by
  rw [zsE]
  have h1:=fun L h=>zwX L h x
  have h2:=fun L h=>zwX L h (x*x)
  have h3:=fun L h=>zyC L h (x*x*(x*x)) x
  have e:x*x*(x*x)*x=x ^ 5:=by simp [Nat.pow_succ,Nat.mul_assoc]
  rw [e] at h3
  have l1:=zaV x
  have l3:=zaV (x ^ 5)
  generalize fe (x ^ 5)=r at*
  generalize fe (x*x*(x*x))=q at*
  generalize fe (x*x)=s at*
  generalize fe x=a at*
  simp -implicitDefEqProofs [zkf,zak,zaj,l1,l3,h1,h2,h3,zbp,zai,zaI]
theorem zLJ {fr:Fr} {h:zab} {R:Option (AEx × Fr × zab)} (x:Nat) (v:zaa) (e:List W64) (hr:RdW h v e) (hn:e.length < 1000000) (z:List zaa)
    (hF:run ctx (zak h) (.loop zbq) fr (hx h [z,cW (fe 1)] [])=R)
    (h1:fr 1=v) (h2:fr 2=.vptr (cW (fe x)) 0) (h5:fr 5=pA h.blks.length 1 0) (h6:fr 6=.int .i64 (((bl (val e):Nat):Int) - 1)):
    ∃ fr',R=some (.exit 0,fr',hx h [z,cW (fe (x ^ val e))] [])∧∀ t,t∉wr zbq→fr' t=fr t:=by
  obtain ⟨r1,p,r2,r3⟩:=hr
  have hN:bl (val e)≤64*e.length:=zDM (by rw [← zyg];exact zrD e)
  have hvN:val e / 2 ^ bl (val e)=0:=Nat.div_eq_of_lt (zQD _)
  obtain ⟨e',fr',h',rfl,⟨rfl,rfl⟩,hk⟩:=zaf hF (bl (val e))
    (fun k fr hh=>fr 6=.int .i64 (((bl (val e):Nat):Int) - 1 - k)∧hh=hx h [z,cW (fe (x ^ (val e / 2 ^ (bl (val e) - k))))] [])
    (fun e' fr hh=>e'=.exit 0∧hh=hx h [z,cW (fe (x ^ val e))] [])
    ⟨by rw [h6]; simp, by rw [Nat.sub_zero, hvN, Nat.pow_zero]⟩ (by
      rintro k fr1 hh hkN hkeep ⟨g6,rfl⟩
      have g1:=(hkeep 1 (by decide)).trans h1
      have g2:=(hkeep 2 (by decide)).trans h2
      have g5:=(hkeep 5 (by decide)).trans h5
      by_cases hlt:k < bl (val e)
      · obtain ⟨i,hi⟩:∃ i:Nat,i=bl (val e) - 1 - k:=⟨_,rfl⟩
        have e1:bl (val e) - k=i+1:=by omega
        have e2:bl (val e) - (k+1)=i:=by omega
        have hvb:=zJO e i
        have hil:i / 64 < e.length:=by omega
        have g6':fr1 6=.int .i64 (i:Int):=by rw [g6];congr 1;omega
        have w1:IntKind.i64.wrap ((i:Int) - 1)=((bl (val e):Nat):Int) - 1 - ((k+1:Nat):Int):=(wrap_i64 (by omega) (by omega)).trans (by omega)
        have t1:(i:Int).tdiv 64=((i / 64:Nat):Int):=zuB i 64
        have t2:=zfQ (i / 64) (by omega)
        have t3:(i:Int).tmod 64=((i % 64:Nat):Int):=zoA i 64
        have hro:=r2 (i / 64) hil
        have hsh:=zsR (gd e 0#64 (i / 64)) .i64 (i % 64) (by simp;omega)
        have hstep:val e / 2 ^ i=2*(val e / 2 ^ (i+1))+val e / 2 ^ i % 2:=by
          rw [Nat.pow_succ,← Nat.div_div_eq_div_mul];omega
        have hrd:=fun c=>r3 (i / 64) [z,c] [] hil
        have hand:zdj .and (wd (gd e 0#64 (i / 64) >>> (i % 64))) (wd 1#64)=some (wd (gd e 0#64 (i / 64) >>> (i % 64)&&&1#64)):=zvJ _ _
        generalize gd e 0#64 (i / 64) >>> (i % 64)&&&1#64=bit at*
        generalize gd e 0#64 (i / 64) >>> (i % 64)=sh at*
        generalize gd e 0#64 (i / 64)=wq at*
        generalize i % 64=ir at*
        generalize i / 64=iq at*
        have hsq:=fun L h=>zwX L h (x ^ (val e / 2 ^ (i+1)))
        have l1:=zaV (x ^ (val e / 2 ^ (i+1)))
        have l2:=zaV (x ^ (val e / 2 ^ (i+1))*x ^ (val e / 2 ^ (i+1)))
        have lx:=zaV x
        have hmu:=fun L h=>zyC L h (x ^ (val e / 2 ^ (i+1))*x ^ (val e / 2 ^ (i+1))) x
        have l3:=zaV (x ^ (val e / 2 ^ (i+1))*x ^ (val e / 2 ^ (i+1))*x)
        rw [e1]
        by_cases hbz:val e / 2 ^ i % 2=0
        · have hfin : x ^ (val e / 2 ^ i) = x ^ (val e / 2 ^ (i + 1)) * x ^ (val e / 2 ^ (i + 1)) := by rw [hstep, hbz, Nat.add_zero, Nat.two_mul, Nat.pow_add]
          have hb0:(bit==1#64)=false:=beq_false_of_ne fun q=>by rw [q,hbz] at hvb;exact absurd hvb (by decide)
          rw [← hfin] at hsq l2
          generalize fe (x ^ (val e / 2 ^ (i+1)))=o1 at*
          generalize ho2:fe (x ^ (val e / 2 ^ i))=o2 at*
          generalize fe x=ex at*
          simp -implicitDefEqProofs [zbq,zak,g1,g2,g5,g6',show (0:Int)≤(i:Int) by omega,t1,t2,t3,zc9,zbs,hro,hrd,hsh,wd1,hand,zp0,hb0,zaj,l1,l2,lx,hsq,hmu,zbp,zai,w1, -zfH, -zov, -zvJ,e2,ho2]
          exact hlt
        · have hb1 : val e / 2 ^ i % 2 = 1 := by omega
          have hfin:x ^ (val e / 2 ^ i)=x ^ (val e / 2 ^ (i+1))*x ^ (val e / 2 ^ (i+1))*x:=by rw [hstep,hb1,Nat.two_mul,Nat.pow_succ,Nat.pow_add]
          have hb0:(bit==1#64)=true:=by rw [beq_iff_eq];exact BitVec.eq_of_toNat_eq (by rw [hvb,hb1];rfl)
          rw [← hfin] at hmu l3
          generalize fe (x ^ (val e / 2 ^ (i+1)))=o1 at*
          generalize ho2:fe (x ^ (val e / 2 ^ i))=o2 at*
          generalize fe (x ^ (val e / 2 ^ (i+1))*x ^ (val e / 2 ^ (i+1)))=o3 at*
          generalize fe x=ex at*
          simp -implicitDefEqProofs [zbq,zak,g1,g2,g5,g6',show (0:Int)≤(i:Int) by omega,t1,t2,t3,zc9,zbs,hro,hrd,hsh,wd1,hand,zp0,hb0,zaj,l1,l2,l3,lx,hsq,hmu,zbp,zai,w1, -zfH, -zov, -zvJ,e2,ho2]
          exact hlt
      · have : k = bl (val e) := by omega
        subst this
        have hz:((bl (val e):Nat):Int) - 1 - ((bl (val e):Nat):Int)= -1:=by omega
        rw [hz] at g6
        rw [Nat.sub_self,Nat.pow_zero,Nat.div_one]
        simp [zbq,g6])
  exact ⟨fr',rfl,hk⟩
theorem zSN (L:Lim) (h:zab) (x:Nat) (v:zaa) (e:List W64) (hr:RdW h v e) (hn:e.length < 1000000):zag ctx L zfu [.agg (cW (fe x)),v] h=some (.agg (cW (fe (x ^ val e))),h):=by
  rw [zpc]
  have hB:=fun L bs=>zJT L (hx h bs []) v e (hr.ext bs []) hn
  have hN:bl (val e)≤64*e.length:=zDM (by rw [← zyg];exact zrD e)
  have w1:IntKind.i64.wrap (((bl (val e):Nat):Int) - 1)=((bl (val e):Nat):Int) - 1:=wrap_i64 (by omega) (by omega)
  have hU:=fun L h=>ztN L h 1#64
  rw [show (1#64:W64).toNat=1 from rfl] at hU
  have l1:=zaV 1
  have lx:=zaV x
  have l3:=zaV (x ^ val e)
  have hlo:=fun fr R=>zLJ (fr:=fr) (h:=h) (R:=R) x v e hr hn (cW (tab 4 fun _=>0#64))
  generalize fe (x ^ val e)=r at*
  generalize fe 1=o at*
  generalize fe x=a at*
  simp -implicitDefEqProofs [zhm,zak,hB,w1,hU,wd1,zaI,zbp,zai,l1]
  generalize hF:run ctx _ (.loop _) _ _=R
  obtain ⟨fr1,rfl,hk1⟩:=hlo _ _ hF (by simp) (by simp) (by simp) (by simp)
  simp -implicitDefEqProofs [hk1,wr,zbq,zbM,zaj,zbp,zai,l3]
end Go.Av
namespace Go.Av
def pW2:List W64:=[0x43e1f593efffffff#64,0x2833e84879b97091#64,0xb85045b68181585d#64,0x30644e72e131a029#64]
theorem zSQ:val pW2=pN - 2:=by decide +kernel
theorem zFN (L:Lim) (h:zab) (x:Nat):zag ctx L zdo [.agg (cW (fe x))] h=some (.agg (cW (fe (x ^ (pN - 2)))),h):=by
  rw [zlR]
  have hsl:=zg6 4 1 h.blks.length 1 0 (by decide)
  have hE:=fun L=>zSN L (hx h [cW (tab 4 fun _=>0#64),cW pW2] []) x (sA h.blks.length 1 0 1 4 (some 4)) pW2 (RdW.sA [] 1 4 _ pW2 rfl rfl) (by decide)
  rw [zSQ] at hE
  have hp4:pW.length=4:=rfl
  have h0:∀ hh:0 < (cW pW).length,(cW pW)[0]'hh=wd 0x43e1f593f0000001#64:=fun _=>rfl
  have hset:(cW pW).set 0 (wd 0x43e1f593efffffff#64)=cW pW2:=rfl
  have e2:zaa.int .u64 2=wd 2#64:=rfl
  have hsub:zdj .sub (wd 0x43e1f593f0000001#64) (wd 2#64)=some (wd 0x43e1f593efffffff#64):=by rw [zEG];rfl
  have hl:(cW pW).length=4:=rfl
  have l1:=zaV x
  have l3:=zaV (x ^ (pN - 2))
  generalize fe (x ^ (pN - 2))=r at*
  generalize fe x=a at*
  generalize cW pW2=pc2 at*
  generalize hpc:cW pW=pc at*
  simp -implicitDefEqProofs [ze4,zak,zaI,zlZ,hpc,zbp,zai,hl,zat,h0,e2,hsub,hset,hsl,zaj,l1,l3,hE, -zEG]
theorem zLO (L:Lim) (h:zab) (x:Nat):zag ctx L zel [.agg (cW (fe x))] h=some (.agg (cW (w4 (x % pN))),h):=by
  rw [zm5]
  have e0:(cW (tab 4 fun _=>0#64)).set 0 (wd 1#64)=cW [1#64,0#64,0#64,0#64]:=rfl
  have hv:val [1#64,0#64,0#64,0#64]=1:=by decide +kernel
  have h1:=fun L h=>zud L h (fe x) [1#64,0#64,0#64,0#64] rfl rfl (by rw [hv];decide)
  rw [hv,zNg] at h1
  have l1:=zaV x
  have l3:=ztk (x % pN)
  generalize w4 (x % pN)=r at*
  generalize fe x=a at*
  generalize [1#64,0#64,0#64,0#64]=q at*
  simp -implicitDefEqProofs [zf3,zak,zaj,l1,l3,h1,zaA,zbp,zai,zaI,e0,wd1]
def feB (x:Nat):List Int:=zbQ (w4 (x % pN))
@[simp] theorem zHP (x:Nat):(feB x).length=32:=by simp [feB,zbQ]
theorem zLP (L:Lim) (h:zab) (x:Nat):zag ctx L zei [.agg (cW (fe x))] h=some (.agg (cI .u8 (feB x)),h):=by
  rw [zm0]
  have hsl:=zg6 4 1 h.blks.length 1 0 (by decide)
  have hlv:=fun L h=>zLO L h x
  have hB:=fun L z=>zFm L (hx h [z,cW (w4 (x % pN))] []) (w4 (x % pN)) (sA h.blks.length 1 0 1 4 (some 4)) (by simp) (RdW.sA [] 1 4 _ _ rfl rfl)
  have h2a:=zJC 32 false .u8 (feB x) (by simp)
  rw [List.take_of_length_le (by simp)] at h2a
  have l0:=zHP x
  have l1:=zaV x
  have l3:=ztk (x % pN)
  have hf:zbQ (w4 (x % pN))=feB x:=rfl
  rw [hf] at hB
  generalize feB x=bs at*
  generalize w4 (x % pN)=r at*
  generalize fe x=a at*
  simp -implicitDefEqProofs [zfV,zak,zaj,l0,l1,l3,zaI,zjs,hlv,hsl,hB,h2a,zbp,zai]
theorem zAO (L:Lim) (h:zab) (c:Bool) (b:List Int) (hb:inB b) (hl:b.length=32):zag ctx L ze0 [.vsl c (eI .u8 b)] h=
    some (if leN b < pN then .tup [.agg (cW (fe (leN b))),.int .i64 0] else .tup [.agg (cW (tab 4 fun _=>0#64)),.int .i64 4],h):=by
  rw [zkp]
  have hW:=fun L H=>zzN L H (.vsl false (eI .u8 b)) b (RdI.vsl H .u8 false b) (by omega)
  rw [hl,show (32+7) / 8=4 from rfl] at hW
  have hv:=zJY b hb 4 (by omega)
  rw [hl] at hv
  have hwl:(wdP b 4 32).length=4:=by simp
  have h2a:=zKg 4 false (wdP b 4 32) (by decide) (by simp)
  rw [List.take_of_length_le (by simp)] at h2a
  have hbo:=fun L h=>zBs L h (wdP b 4 32) pW hwl rfl
  simp only [hv,zJz] at hbo
  have hE:=fun L H=>zy1 L H (wdP b 4 32) hwl
  rw [hv] at hE
  generalize wdP b 4 32=ws at*
  by_cases hlt:leN b < pN
  · simp only [if_pos hlt] at hbo
    rw [if_pos hlt]
    have l3:=ztk (leN b+rN - pN)
    have l4:=zaV (leN b)
    generalize w4 (leN b+rN - pN)=q at*
    generalize fe (leN b)=r at*
    have he:(wd 1#64=zaa.int .u64 1):=rfl
    simp -implicitDefEqProofs [zgm,zak,hl,hW,h2a,zaj,hwl,zaI,zbp,zai,zlZ,hbo,l3,l4,he,hE]
  · simp only [if_neg hlt] at hbo
    rw [if_neg hlt]
    have l3:=ztk (leN b - pN)
    generalize w4 (leN b - pN)=q at*
    have he:(wd 0#64=zaa.int .u64 0):=rfl
    simp -implicitDefEqProofs [zgm,zak,hl,hW,h2a,zaj,hwl,zaI,zbp,zai,zlZ,hbo,l3,he,zaA]
end Go.Av
namespace Go.Av
def feL (l:List Nat):List W64:=(l.map fe).flatten
@[simp] theorem zWE:feL []=[]:=rfl
theorem zvj (a:Nat) (l:List Nat):feL (a :: l)=fe a++feL l:=rfl
theorem zqC (l m:List Nat):feL (l++m)=feL l++feL m:=by simp [feL]
@[simp] theorem zIa:∀ l:List Nat,(feL l).length=4*l.length
  | []=>rfl
  | a :: l=>by rw [zvj,List.length_append,zIa l,zaV,List.length_cons];omega
theorem zvk:∀ (l:List Nat) (i:Nat),(feL l).drop (4*i)=feL (l.drop i)
  | l,0=>by simp
  | [],i+1=>by simp
  | a :: l, i + 1 => by
    rw [zvj,List.drop_append,List.drop_of_length_le (by rw [zaV];omega),zaV,show 4*(i+1) - 4=4*i by omega,zvk l i];rfl
theorem zvl:∀ (l:List Nat) (i:Nat),(feL l).take (4*i)=feL (l.take i)
  | l,0=>by simp
  | [],i+1=>by simp
  | a :: l, i + 1 => by
    rw [zvj,List.take_append,List.take_of_length_le (by rw [zaV];omega),zaV,show 4*(i+1) - 4=4*i by omega,zvl l i];rfl
theorem zyU (x:Nat):feL [x]=fe x:=by simp [feL]
theorem zyW (pre:List zaa) (l:List Nat) (o i k:Nat) (ho:o=pre.length+4*i) (h:i+k≤l.length):zb2 true (pre++cW (feL l)) o (4*k)=some (.agg (cW (feL ((l.drop i).take k)))):=by
  subst ho
  unfold zb2
  have h1:pre.length+4*i+4*k≤(pre++cW (feL l)).length:=by simp;omega
  have e:(pre++cW (feL l)).drop (pre.length+4*i)=cW ((feL l).drop (4*i)):=by
    rw [List.drop_append,List.drop_of_length_le (by omega),List.nil_append,show pre.length+4*i - pre.length=4*i by omega,zC3]
  simp only [if_true,if_pos h1]
  rw [e,zvk,zC2,zvl]
theorem zPG (pre:List zaa) (l:List Nat) (o i:Nat) (ho:o=pre.length+4*i) (h:i < l.length):zb2 true (pre++cW (feL l)) o 4=some (.agg (cW (fe (gd l 0 i)))):=by
  have:=zyW pre l o i 1 ho (by omega)
  rw [Nat.mul_one] at this
  rw [this]
  have e:(l.drop i).take 1=[gd l 0 i]:=by
    rw [List.drop_eq_getElem_cons h]
    have:=zou (d:=0) h
    rw [List.getElem?_eq_getElem h] at this
    simp only [List.take_succ_cons,List.take_zero,List.cons.injEq,and_true]
    exact Option.some.inj this
  rw [e,zyU]
theorem zIe (pre:List zaa) (l m:List Nat) (o i:Nat) (ho:o=pre.length+4*i) (h:i+m.length≤l.length):setAt (pre++cW (feL l)) o (cW (feL m))=pre++cW (feL (putAt l i m)):=by
  subst ho
  rw [ztu _ _ _ (by simp;omega)]
  unfold putAt
  rw [List.take_append,List.take_of_length_le (by omega),show pre.length+4*i - pre.length=4*i by omega,zC2,zvl]
  rw [List.drop_append,List.drop_of_length_le (by omega),List.nil_append,zCq,zIa,show pre.length+4*i+4*m.length - pre.length=4*(i+m.length) by omega,zC3,zvk]
  rw [zqC,zqC]
  simp [cW]
theorem zIg {α:Type} (l:List α) (i:Nat) (x:α) (h:i < l.length):putAt l i [x]=l.set i x:=by
  rw [List.set_eq_take_append_cons_drop,if_pos h];rfl
theorem zOK (pre:List zaa) (l:List Nat) (x o i:Nat) (ho:o=pre.length+4*i) (h:i < l.length):setAt (pre++cW (feL l)) o (cW (fe x))=pre++cW (feL (l.set i x)):=by
  rw [← zyU,zIe pre l [x] o i ho (by simp;omega),zIg l i x h]
theorem zsS (l:List Nat) (o i k:Nat) (ho:o=4*i) (h:i+k≤l.length):zb2 true (cW (feL l)) o (4*k)=some (.agg (cW (feL ((l.drop i).take k)))):=zyW [] l o i k (by simpa using ho) h
theorem zh9 (l:List Nat) (o i:Nat) (ho:o=4*i) (h:i < l.length):zb2 true (cW (feL l)) o 4=some (.agg (cW (fe (gd l 0 i)))):=zPG [] l o i (by simpa using ho) h
theorem zDb (l:List Nat) (x o i:Nat) (ho:o=4*i) (h:i < l.length):setAt (cW (feL l)) o (cW (fe x))=cW (feL (l.set i x)):=zOK [] l x o i (by simpa using ho) h
theorem zEL:(tab 4 fun _=>(0#64:W64))=fe 0:=by decide +kernel
theorem zps (n : Nat) : (tab (4 * n) fun _ => (0#64 : W64)) = feL (tab n fun _ => 0) := by
  induction n with
  | zero=>rfl
  | succ n ih=>
    rw [← zig,zqC,← ih,zyU,← zEL]
    have : ∀ m k, (tab (m + k) fun _ => (0#64 : W64)) = (tab m fun _ => 0#64) ++ tab k fun _ => 0#64 := fun m k => by
      simp [tab,List.map_const',List.replicate_append_replicate]
    exact this (4*n) 4
def zCP (l:List Nat):Nat:=l.foldl (· + ·) 0
theorem zIl (l:List Nat) (k:Nat) (h:k < l.length):zCP (l.take (k+1))=zCP (l.take k)+gd l 0 k:=by
  rw [zto 0 h];simp [zCP]
theorem zL6 {fr:Fr} {h:zab} {R:Option (AEx × Fr × zab)} (c:Bool) (l:List Nat) (hn:l.length < 1000000) (z:List zaa)
    (hF:run ctx (zak h) (.loop zhL) fr (hx h [z,cW (fe 0)] [])=R)
    (h6:fr 6=.vsl c (l.map fun x=>cW (fe x))) (h3:fr 3=pA h.blks.length 1 0) (h7:fr 7=.int .i64 l.length) (h8:fr 8=.int .i64 0):
    ∃ fr' js,R=some (.exit 0,fr',hx h (z :: cW (fe (zCP l)) :: js) [])∧∀ t,t∉wr zhL→fr' t=fr t:=by
  obtain ⟨e',fr',h',rfl,⟨rfl,js,rfl⟩,hk⟩:=zaf hF l.length
    (fun k fr hh=>fr 8=.int .i64 k∧∃ js,hh=hx h (z :: cW (fe (zCP (l.take k))) :: js) [])
    (fun e' fr hh=>e'=.exit 0∧∃ js,hh=hx h (z :: cW (fe (zCP l)) :: js) [])
    ⟨h8,[],rfl⟩ (by
      rintro k fr1 hh hkN hkeep ⟨g8,js,rfl⟩
      have g6:=(hkeep 6 (by decide)).trans h6
      have g3:=(hkeep 3 (by decide)).trans h3
      have g7:=(hkeep 7 (by decide)).trans h7
      by_cases hlt:k < l.length
      · have w1 : IntKind.i64.wrap ((k : Int) + 1) = k + 1 := wrap_i64 (by omega) (by omega)
        have hia : zcP none 4 (.vsl c (l.map fun x => cW (fe x))) (.int .i64 (k : Int)) = some (.vptr (cW (fe (gd l 0 k))) 0) := by
          have e:=zou (d:=0) hlt
          rw [List.getElem?_eq_getElem hlt] at e
          have e':=Option.some.inj e
          simp [zcP,asI,hlt,e']
        have hA:=fun L h=>zPm L h (zCP (l.take k)) (gd l 0 k)
        have l1:=zaV (zCP (l.take k))
        have l2:=zaV (gd l 0 k)
        have l3:=zaV (zCP (l.take k)+gd l 0 k)
        rw [← zIl l k hlt] at hA l3
        generalize hr:fe (zCP (l.take (k+1)))=r at*
        generalize fe (zCP (l.take k))=a at*
        generalize fe (gd l 0 k)=b at*
        simp -implicitDefEqProofs [zhL,zak,g3,g6,g7,g8,hlt,w1,hia,hA,zaI,zbp,zai,l1,l2,l3,zaj]
        rw [hr]
        exact ⟨_,rfl⟩
      · have : k = l.length := by omega
        subst this
        rw [List.take_length]
        simp [zhL,g8,g7]
        exact ⟨js,rfl⟩)
  exact ⟨fr',js,rfl,hk⟩
theorem zS4 (L : Lim) (h : zab) (c : Bool) (l : List Nat) (hn : l.length < 1000000) : zag ctx L zoB [.vsl c (l.map fun x => cW (fe x))] h = some (.agg (cW (fe (zCP l))), h) := by
  rw [zxO]
  have hlo:=fun fr R=>zL6 (fr:=fr) (h:=h) (R:=R) false l hn (cW (fe 0))
  have l3:=zaV (zCP l)
  have l0:=zaV 0
  generalize fe (zCP l)=r at*
  have hz:=zEL
  generalize fe 0=o at*
  simp -implicitDefEqProofs [zrP,zak,zaI,hz,zBV]
  generalize hF:run ctx _ (.loop _) _ _=R
  obtain ⟨fr1,js,rfl,hk1⟩:=hlo _ _ hF (by simp) (by simp) (by simp) (by simp)
  simp -implicitDefEqProofs [hk1,wr,zhL,zbM,zaj,zbp,zai,l3,l0]
theorem zIn (L:Lim) (h:zab) (a b c x y z:Nat):zag ctx L zcG [.agg (cW (feL [a,b,c])),.agg (cW (feL [x,y,z]))] h=some (.agg (cW (fe (a*x+b*y+c*z))),h):=by
  rw [zpa]
  have h1:=fun L h=>zyC L h a x
  have h2:=fun L h=>zyC L h b y
  have h3:=fun L h=>zyC L h c z
  have hS:=fun L h c'=>zS4 L h c' [a*x,b*y,c*z] (by simp)
  have e:zCP [a*x,b*y,c*z]=a*x+b*y+c*z:=by simp [zCP]
  rw [e] at hS
  simp only [List.map_cons,List.map_nil] at hS
  have pa:zb2 true (cW (feL [a,b,c])) 0 4=some (.agg (cW (fe a))):=zh9 [a,b,c] 0 0 rfl (by simp)
  have pb:zb2 true (cW (feL [a,b,c])) 4 4=some (.agg (cW (fe b))):=zh9 [a,b,c] 4 1 rfl (by simp)
  have pc:zb2 true (cW (feL [a,b,c])) 8 4=some (.agg (cW (fe c))):=zh9 [a,b,c] 8 2 rfl (by simp)
  have px:zb2 true (cW (feL [x,y,z])) 0 4=some (.agg (cW (fe x))):=zh9 [x,y,z] 0 0 rfl (by simp)
  have py:zb2 true (cW (feL [x,y,z])) 4 4=some (.agg (cW (fe y))):=zh9 [x,y,z] 4 1 rfl (by simp)
  have pz:zb2 true (cW (feL [x,y,z])) 8 4=some (.agg (cW (fe z))):=zh9 [x,y,z] 8 2 rfl (by simp)
  have hf : ∀ u v w : List W64, u.length = 4 → v.length = 4 → w.length = 4 → zaA (rep (cW (tab 4 fun _ => 0#64)) 3) [(0, 4, .agg (cW u)), (4, 4, .agg (cW v)), (8, 4, .agg (cW w))] = some (cW u ++ (cW v ++ cW w)) ∧ chunks 4 3 (cW u ++ (cW v ++ cW w)) = [cW u, cW v, cW w] := by
    intro u v w hu hv hw
    match u,v,w,hu,hv,hw with
    | [_,_,_,_],[_,_,_,_],[_,_,_,_],_,_,_=>exact ⟨rfl,rfl⟩
  have hf1:=fun u v w hu hv hw=>(hf u v w hu hv hw).1
  have hf2:=fun u v w hu hv hw=>(hf u v w hu hv hw).2
  have hf1':=hf1 _ _ _ (zaV (a*x)) (zaV (b*y)) (zaV (c*z))
  have hf2':=hf2 _ _ _ (zaV (a*x)) (zaV (b*y)) (zaV (c*z))
  have l3:=zaV (a*x+b*y+c*z)
  generalize fe (a*x+b*y+c*z)=r at*
  generalize fe (a*x)=m1 at*
  generalize fe (b*y)=m2 at*
  generalize fe (c*z)=m3 at*
  generalize feL [a,b,c]=v1 at*
  generalize feL [x,y,z]=v2 at*
  simp -implicitDefEqProofs [zhk,zak,pa,pb,pc,px,py,pz,h1,h2,h3,hf1',hf2',hS,zcP,asI,zbp,zai,l3,zaI,zaj]
def applyN (m v:List Nat):List Nat:=tab 3 fun i=>(gd m 0 (3*i)*gd v 0 0+gd m 0 (3*i+1)*gd v 0 1+gd m 0 (3*i+2)*gd v 0 2) % pN
@[simp] theorem zR3 (m v:List Nat):(applyN m v).length=3:=by simp [applyN]
theorem zYh {α:Type} {l:List α} (h:l.length=3):∃ a b c,l=[a,b,c]:=match l,h with
  | [a,b,c],_=>⟨a,b,c,rfl⟩
theorem zYi {α:Type} {l:List α} (h:l.length=9):∃ a b c d e f g i j,l=[a,b,c,d,e,f,g,i,j]:=match l,h with
  | [a,b,c,d,e,f,g,i,j],_=>⟨a,b,c,d,e,f,g,i,j,rfl⟩
theorem zL9 (L:Lim) (h:zab) (m v:List Nat) (hm:m.length=9) (hv:v.length=3):zag ctx L zem [.agg (cW (feL m)),.agg (cW (feL v))] h=some (.agg (cW (feL (applyN m v))),h):=by
  obtain ⟨a,b,c,d,e,f,g,i,j,rfl⟩:=zYi hm
  obtain ⟨x,y,z,rfl⟩:=zYh hv
  rw [zno]
  have h1:=fun L h=>zIn L h a b c x y z
  have h2:=fun L h=>zIn L h d e f x y z
  have h3:=fun L h=>zIn L h g i j x y z
  have hr:feL (applyN [a,b,c,d,e,f,g,i,j] [x,y,z])=fe (a*x+b*y+c*z)++(fe (d*x+e*y+f*z)++fe (g*x+i*y+j*z)):=by
    have:applyN [a,b,c,d,e,f,g,i,j] [x,y,z]=[(a*x+b*y+c*z) % pN,(d*x+e*y+f*z) % pN,(g*x+i*y+j*z) % pN]:=rfl
    rw [this]
    simp [feL,zyp]
  rw [hr]
  have pa:zb2 true (cW (feL [a,b,c,d,e,f,g,i,j])) 0 12=some (.agg (cW (feL [a,b,c]))):=zsS _ 0 0 3 rfl (by simp)
  have pb:zb2 true (cW (feL [a,b,c,d,e,f,g,i,j])) 12 12=some (.agg (cW (feL [d,e,f]))):=zsS _ 12 3 3 rfl (by simp)
  have pc:zb2 true (cW (feL [a,b,c,d,e,f,g,i,j])) 24 12=some (.agg (cW (feL [g,i,j]))):=zsS _ 24 6 3 rfl (by simp)
  have px:zb2 true (cW (feL [x,y,z])) 0 12=some (.agg (cW (feL [x,y,z]))):=zsS _ 0 0 3 rfl (by simp)
  have hf : ∀ u v w : List W64, u.length = 4 → v.length = 4 → w.length = 4 → zaA (cW (tab 12 fun _ => 0#64)) [(0, 4, .agg (cW u)), (4, 4, .agg (cW v)), (8, 4, .agg (cW w))] = some (cW (u ++ (v ++ w))) := by
    intro u v w hu hv hw
    match u,v,w,hu,hv,hw with
    | [_,_,_,_],[_,_,_,_],[_,_,_,_],_,_,_=>exact rfl
  have hf':=hf _ _ _ (zaV (a*x+b*y+c*z)) (zaV (d*x+e*y+f*z)) (zaV (g*x+i*y+j*z))
  have l1:=zaV (a*x+b*y+c*z)
  have l2:=zaV (d*x+e*y+f*z)
  have l3:=zaV (g*x+i*y+j*z)
  have l4:(fe (a*x+b*y+c*z)++(fe (d*x+e*y+f*z)++fe (g*x+i*y+j*z))).length=12:=by simp [l1,l2,l3]
  generalize fe (a*x+b*y+c*z)=m1 at*
  generalize fe (d*x+e*y+f*z)=m2 at*
  generalize fe (g*x+i*y+j*z)=m3 at*
  generalize m1++(m2++m3)=mm at*
  generalize feL [a,b,c,d,e,f,g,i,j]=q1 at*
  generalize feL [x,y,z]=q2 at*
  simp -implicitDefEqProofs [zgd,zak,pa,pb,pc,px,h1,h2,h3,hf',zcP,asI,zbp,zai,l4,zaI,zaj]
def zvR (i:Nat):Nat:=(i / 3+i % 3+3) ^ (pN - 2) % pN
def zae:List Nat:=tab 9 zvR
theorem zF4 (L:Lim) (h:zab) (i j:Nat) (hi:i < 3) (hj:j < 3):zag ctx L zcH [.int .i64 (i:Int),.int .i64 (j:Int)] h=some (.agg (cW (fe (zvR (3*i+j)))),h):=by
  rw [zrm]
  have w1:IntKind.i64.wrap ((i:Int)+(j:Int))=((i+j:Nat):Int):=(wrap_i64 (by omega) (by omega)).trans (by omega)
  have w2:IntKind.i64.wrap (((i+j:Nat):Int)+3)=((i+j+3:Nat):Int):=(wrap_i64 (by omega) (by omega)).trans (by omega)
  have hb:bw ((i+j+3:Nat):Int)=BitVec.ofNat 64 (i+j+3):=by unfold bw;rw [BitVec.ofInt_natCast]
  have hU:=fun L h=>ztN L h (BitVec.ofNat 64 (i+j+3))
  have e:(BitVec.ofNat 64 (i+j+3):W64).toNat=i+j+3:=by simp;omega
  rw [e] at hU
  have hI:=fun L h=>zFN L h (i+j+3)
  have hc:fe (zvR (3*i+j))=fe ((i+j+3) ^ (pN - 2)):=by
    unfold zvR
    rw [zyp,show (3*i+j) / 3=i by omega,show (3*i+j) % 3=j by omega]
  rw [hc]
  have l1:=zaV (i+j+3)
  have l3:=zaV ((i+j+3) ^ (pN - 2))
  generalize fe ((i+j+3) ^ (pN - 2))=r at*
  generalize fe (i+j+3)=a at*
  generalize i+j+3=s at*
  generalize i+j=t at*
  simp -implicitDefEqProofs [ziO,zak,w1,w2,hb,hU,hI,zbp,zai,l3,zaI,zaj, -zHX, -zdV]
def fnC:zaa:=.fn (.func zcH) [] []
theorem zDg {fr:Fr} {h:zab} {R:Option (AEx × Fr × zab)} (i:Nat) (hi:i < 3)
    (hF:run ctx (zak h) (.loop zdz) fr (hx h [cW (feL (za6 9 zvR (fun _=>0) (3*i)))] [])=R)
    (h0:fr 0=fnC) (h2:fr 2=pA h.blks.length 0 0) (h3:fr 3=.int .i64 (i:Int)) (h8:fr 8=.int .i64 0):
    ∃ fr',R=some (.exit 2,fr',hx h [cW (feL (za6 9 zvR (fun _=>0) (3*(i+1))))] [])∧∀ t,t∉wr zdz→fr' t=fr t:=by
  obtain ⟨e',fr',h',rfl,⟨rfl,rfl⟩,hk⟩:=zaf hF 3
    (fun k fr hh=>fr 8=.int .i64 k∧hh=hx h [cW (feL (za6 9 zvR (fun _=>0) (3*i+k)))] [])
    (fun e' fr hh=>e'=.exit 2∧hh=hx h [cW (feL (za6 9 zvR (fun _=>0) (3*(i+1))))] [])
    ⟨h8,rfl⟩ (by
      rintro k fr1 hh hkN hkeep ⟨g8,rfl⟩
      have g0:=(hkeep 0 (by decide)).trans h0
      have g2:=(hkeep 2 (by decide)).trans h2
      have g3:=(hkeep 3 (by decide)).trans h3
      by_cases hlt:k < 3
      · have w1 : IntKind.i64.wrap ((k : Int) + 1) = k + 1 := wrap_i64 (by omega) (by omega)
        have hC:=fun L h=>zF4 L h i k hi hlt
        have i1:=zaP 3 12 h.blks.length 0 0 i .i64 (by simpa using hi)
        have i2:=zaP 3 4 h.blks.length 0 (0+i*12) k .i64 (by simpa using hlt)
        have hs:=zDb (za6 9 zvR (fun _=>0) (3*i+k)) (zvR (3*i+k)) (0+i*12+k*4) (3*i+k) (by omega) (by simp;omega)
        rw [zdn] at hs
        have hn:za6 9 zvR (fun _=>0) (3*i+k+1)=za6 9 zvR (fun _=>0) (3*i+(k+1)):=rfl
        rw [hn] at hs
        have l1:=zaV (zvR (3*i+k))
        have hob:0+i*12+k*4+4≤(feL (za6 9 zvR (fun _=>0) (3*i+k))).length:=by simp;omega
        generalize fe (zvR (3*i+k))=c at*
        generalize feL (za6 9 zvR (fun _=>0) (3*i+k))=m1 at*
        generalize hm2:feL (za6 9 zvR (fun _=>0) (3*i+(k+1)))=m2 at*
        generalize 0+i*12+k*4=o at*
        generalize 0+i*12=o1 at*
        simp -implicitDefEqProofs [zdz,zak,g0,g2,g3,g8,fnC,show (k:Int) < 3 by omega,w1,hC,i1,i2,zbp,l1,hs,hm2,hob]
        exact hlt
      · have : k = 3 := by omega
        subst this
        rw [show 3*i+3=3*(i+1) by omega]
        simp [zdz,g8])
  exact ⟨fr',rfl,hk⟩
theorem zF5 {fr:Fr} {h:zab} {R:Option (AEx × Fr × zab)}
    (hF:run ctx (zak h) (.loop zeH) fr (hx h [cW (feL (tab 9 fun _=>0))] [])=R)
    (h0:fr 0=fnC) (h2:fr 2=pA h.blks.length 0 0) (h5:fr 5=.int .i64 0):
    ∃ fr',R=some (.exit 0,fr',hx h [cW (feL zae)] [])∧∀ t,t∉wr zeH→fr' t=fr t:=by
  obtain ⟨e',fr',h',rfl,⟨rfl,rfl⟩,hk⟩:=zaf hF 3
    (fun k fr hh=>fr 5=.int .i64 k∧hh=hx h [cW (feL (za6 9 zvR (fun _=>0) (3*k)))] [])
    (fun e' fr hh=>e'=.exit 0∧hh=hx h [cW (feL zae)] [])
    ⟨h5, by rw [Nat.mul_zero, zcc]⟩ (by
      rintro k fr1 hh hkN hkeep ⟨g5,rfl⟩
      have g0:=(hkeep 0 (by decide)).trans h0
      have g2:=(hkeep 2 (by decide)).trans h2
      by_cases hlt:k < 3
      · have w1 : IntKind.i64.wrap ((k : Int) + 1) = k + 1 := wrap_i64 (by omega) (by omega)
        have hlo:=fun fr R=>zDg (fr:=fr) (h:=h) (R:=R) k hlt
        generalize feL (za6 9 zvR (fun _=>0) (3*k))=m1 at*
        generalize hm2:feL (za6 9 zvR (fun _=>0) (3*(k+1)))=m2 at*
        simp -implicitDefEqProofs [zeH,zak,g0,g2,g5,show (k:Int) < 3 by omega]
        generalize hF:run ctx _ (.loop _) _ _=R
        obtain ⟨fr2,rfl,hk2⟩:=hlo _ _ hF (by simp [g0]) (by simp [g2]) (by simp) (by simp)
        simp -implicitDefEqProofs [hk2,wr,zdz,zbM,g5,w1,hm2]
        exact hlt
      · have : k = 3 := by omega
        subst this
        rw [show 3*3=9 by rfl,zft]
        simp [zeH,g5,zae])
  exact ⟨fr',rfl,hk⟩
theorem zMg (L:Lim) (h:zab):zag ctx L zjr [fnC] h=some (.agg (cW (feL zae)),h):=by
  rw [zut]
  have hz:=zps 9
  simp only [show 4*9=36 from rfl] at hz
  have hlo:=fun fr R=>zF5 (fr:=fr) (h:=h) (R:=R)
  have l1:(feL zae).length=36:=by simp [zae]
  have l2:(feL (tab 9 fun _=>0)).length=36:=by simp
  generalize feL zae=c at*
  generalize feL (tab 9 fun _=>0)=z at*
  unfold fnC at*
  have hfz:fzA h (.fn (.func zcH) [] [])=some (.fn (.func zcH) [] [],false):=by simp only [fzA]
  simp -implicitDefEqProofs [zl8,zak,zaI,hz,hfz]
  generalize hF:run ctx _ (.loop _) _ _=R
  obtain ⟨fr1,rfl,hk1⟩:=hlo _ _ hF (by simp) (by simp) (by simp)
  simp -implicitDefEqProofs [hk1,wr,zdz,zeH,zbM,zaj,zbp,zai,l1,l2]
theorem zIv (L:Lim) (h:zab):zag ctx L zix [] h=some (.agg (cW (feL zae)),h):=by
  rw [ztB]
  have hB:=zMg
  have l1:(feL zae).length=36:=by simp [zae]
  generalize feL zae=c at*
  unfold fnC at hB
  simp -implicitDefEqProofs [zlv,zak,zaI,hB,zaj,zbp,zai,l1]
end Go.Av
namespace Go.Av
def zry (s:Nat):Bool:=(s ^^^ (s >>> 13) ^^^ (s >>> 23) ^^^ (s >>> 38) ^^^ (s >>> 51) ^^^ (s >>> 62)).testBit 0
def zcA (s:Nat):Nat:=2 ^ 79*(zry s).toNat+s >>> 1
def zER (k:Nat):Nat:=gd [13,23,38,51,62] 0 k
def pxN (s:Nat):Nat→Bool
  | 0=>s.testBit 0
  | k+1=>pxN s k ^^ s.testBit (zER k)
theorem zIB (s:Nat):pxN s 5=zry s:=by
  show ((((((s.testBit 0 ^^ s.testBit 13) ^^ s.testBit 23) ^^ s.testBit 38) ^^ s.testBit 51) ^^ s.testBit 62))=zry s
  simp only [zry,Nat.testBit_xor,Nat.testBit_shiftRight,Nat.add_zero]
theorem zjl (s:Nat) (h:s < 2 ^ 80):zcA s < 2 ^ 80:=by
  unfold zcA
  have:s >>> 1 < 2 ^ 79:=by rw [Nat.shiftRight_eq_div_pow];omega
  have:(zry s).toNat≤1:=by cases zry s <;> decide
  generalize (zry s).toNat=b at*
  have:2 ^ 79*b≤2 ^ 79:=by
    calc 2 ^ 79*b≤2 ^ 79*1:=Nat.mul_le_mul_left _ this
      _=2 ^ 79:=by omega
  omega
theorem zA5 (s i:Nat) (h:s < 2 ^ 80):(zcA s).testBit i=if i < 79 then s.testBit (i+1) else (zry s).toNat.testBit (i - 79):=by
  unfold zcA
  have h1:s >>> 1 < 2 ^ 79:=by rw [Nat.shiftRight_eq_div_pow];omega
  rw [Nat.testBit_two_pow_mul_add _ h1,Nat.testBit_shiftRight,Nat.add_comm 1 i]
def zrX (s a:Nat):List Bool:=tab 80 fun j=>s.testBit ((j+80 - a) % 80)
def zd2 (s a:Nat):List zaa:=cB (zrX s a)++[zaa.int .i64 (a:Int)]
@[simp] theorem zTh (s a:Nat):(zrX s a).length=80:=by simp [zrX]
@[simp] theorem zMl (s a:Nat):(zd2 s a).length=81:=by simp [zd2]
theorem zES (s a i:Nat) (ha:a < 80) (hi:i < 80):gd (zrX s a) false ((a+i) % 80)=s.testBit i:=by
  unfold zrX
  rw [zbz (by omega)]
  congr 1;omega
theorem zGc (s a:Nat) (hs:s < 2 ^ 80) (ha:a < 80):(zrX s a).set a (zry s)=zrX (zcA s) ((a+1) % 80):=by
  unfold zrX
  rw [zlr]
  refine zaN fun j hj=>?_
  rw [zA5 _ _ hs]
  by_cases hja:j=a
  · subst hja
    rw [if_pos rfl]
    by_cases h79:j+1=80
    · rw [h79]
      rw [if_neg (by omega)]
      rw [show (j+80 - 80 % 80) % 80 - 79=0 by omega]
      cases zry s <;> decide
    · rw [show (j + 1) % 80 = j + 1 by omega, if_neg (by omega), show (j + 80 - (j + 1)) % 80 - 79 = 0 by omega]
      cases zry s <;> decide
  · rw [if_neg hja]
    have e:(j+80 - (a+1) % 80) % 80+1=(j+80 - a) % 80:=by omega
    rw [if_pos (by omega),e]
theorem zID (s a:Nat):(zd2 s a)[80]?=some (.int .i64 (a:Int)):=by
  unfold zd2;rw [List.getElem?_append_right (by simp)];simp
theorem zEV (s a i:Nat) (h:i < 80):(zd2 s a)[i]?=some (.bool (gd (zrX s a) false i)):=by
  unfold zd2;rw [List.getElem?_append_left (by simpa using h)];exact zOl (by simpa using h)
theorem zMn (s a:Nat) (hs:s < 2 ^ 80) (ha:a < 80):(zd2 s a).set a (.bool (zry s))=cB (zrX (zcA s) ((a+1) % 80))++[zaa.int .i64 (a:Int)]:=by
  unfold zd2
  rw [List.set_append_left _ _ (by simpa using ha),zCv,zGc s a hs ha]
theorem zIF (l:List Bool) (x y:zaa) (h:l.length=80):(cB l++[x]).set 80 y=cB l++[y]:=by
  rw [List.set_append_right _ _ (by simp [h])];simp [h]
theorem zy9 {α : Type} {l : List α} {i : Nat} {x : α} (h : l[i]? = some x) : ∀ hh : i < l.length, l[i]'hh = x := fun hh => by
  rw [List.getElem?_eq_getElem hh] at h
  exact Option.some.inj h
theorem zIG {L:Lim} {fr:Fr} {h:zab} {R:Option (AEx × Fr × zab)} (bs:List (List zaa)) (ts:List Nat) (i s a:Nat) (ha:a < 80) (hb:bs[i]?=some (zd2 s a))
    (hF:run ctx L (.loop zch) fr (hx h bs ts)=R)
    (h0:fr 0=pA h.blks.length i 0) (h3:fr 3=.bool (s.testBit 0)) (h15:fr 15=.vsl true (eI .i64 [13,23,38,51,62])) (h16:fr 16=.int .i64 5) (h17:fr 17=.int .i64 0):
    ∃ fr',R=some (.exit 0,fr',hx h bs ts)∧fr' 3=.bool (zry s)∧∀ t,t∉wr zch→fr' t=fr t:=by
  obtain ⟨e',fr',h',rfl,⟨rfl,h3',rfl⟩,hk⟩:=zaf hF 5
    (fun k fr hh=>fr 17=.int .i64 k∧fr 3=.bool (pxN s k)∧hh=hx h bs ts)
    (fun e' fr hh=>e'=.exit 0∧fr 3=.bool (zry s)∧hh=hx h bs ts)
    ⟨h17,h3,rfl⟩ (by
      rintro k fr1 hh hkN hkeep ⟨g17,g3,rfl⟩
      have g0:=(hkeep 0 (by decide)).trans h0
      have g15:=(hkeep 15 (by decide)).trans h15
      have g16:=(hkeep 16 (by decide)).trans h16
      by_cases hlt:k < 5
      · have w1 : IntKind.i64.wrap ((k : Int) + 1) = k + 1 := wrap_i64 (by omega) (by omega)
        have htap:gd [13,23,38,51,62] (0:Int) k=((zER k:Nat):Int):=by
          match k,hlt with
          | 0,_=>rfl | 1,_=>rfl | 2,_=>rfl | 3,_=>rfl | 4,_=>rfl
        have htl:zER k < 80:=by
          match k,hlt with
          | 0,_=>decide | 1,_=>decide | 2,_=>decide | 3,_=>decide | 4,_=>decide
        have hia:=znQ .i64 .i64 true [13,23,38,51,62] k (by simpa using hlt)
        rw [htap] at hia
        have w2:IntKind.i64.wrap ((a:Int)+(zER k:Nat))=((a+zER k:Nat):Int):=(wrap_i64 (by omega) (by omega)).trans (by omega)
        have w3:=zoA (a+zER k) 80
        simp only [Int.cast_ofNat_Int] at w3
        have i1:=zaP 80 1 h.blks.length i 0 ((a+zER k) % 80) .i64 (by simp;omega)
        have hgt:=zEV s a ((a+zER k) % 80) (by omega)
        rw [zES s a _ ha htl] at hgt
        have hp:pxN s (k+1)=(pxN s k ^^ s.testBit (zER k)):=rfl
        rw [show 0+(a+zER k) % 80*1=(a+zER k) % 80 by omega] at i1
        generalize (a+zER k) % 80=x at*
        generalize a+zER k=y at*
        generalize hp2:pxN s (k+1)=p2 at*
        generalize pxN s k=p1 at*
        generalize s.testBit (zER k)=b at*
        have hat:=zID s a
        generalize zd2 s a=cs at*
        simp -implicitDefEqProofs [zch,g0,g3,g15,g16,g17,show (k:Int) < 5 by omega,w1,w2,w3,hia,hb,hat,zbs,i1,hgt,zat,hp2,hp]
        exact ⟨hlt,by cases p1 <;> cases b <;> rfl⟩
      · have : k = 5 := by omega
        subst this
        rw [zIB] at g3
        simp [zch,g16,g17,g3])
  exact ⟨fr',rfl,h3',hk⟩
theorem zDp (L:Lim) (h:zab) (bs:List (List zaa)) (ts:List Nat) (i s a:Nat) (hs:s < 2 ^ 80) (ha:a < 80) (hb:bs[i]?=some (zd2 s a)) (hL:L.rob≤h.blks.length):
    zag ctx L zbi [pA h.blks.length i 0] (hx h bs ts)=some (.bool (zry s),hx h (bs.set i (zd2 (zcA s) ((a+1) % 80))) ts):=by
  rw [zpb]
  obtain ⟨hi,hbe⟩:=List.getElem?_eq_some_iff.1 hb
  have w2:IntKind.i64.wrap ((a:Int)+1)=((a+1:Nat):Int):=(wrap_i64 (by omega) (by omega)).trans (by omega)
  have w3:=zoA (a+1) 80
  simp only [Int.cast_ofNat_Int] at w3
  have i1:=zaP 80 1 h.blks.length i 0 a .i64 (by simp;omega)
  rw [show 0+a*1=a by omega] at i1
  have hat:=zID s a
  have hgt:=zEV s a a ha
  have e0:=zES s a 0 ha (by omega)
  rw [Nat.add_zero,Nat.mod_eq_of_lt ha] at e0
  rw [e0] at hgt
  have hset:=zMn s a hs ha
  have hset2:(cB (zrX (zcA s) ((a+1) % 80))++[zaa.int .i64 (a:Int)]).set 80 (.int .i64 (((a+1) % 80:Nat):Int))=zd2 (zcA s) ((a+1) % 80):=zIF _ _ _ (by simp)
  have hat2:(cB (zrX (zcA s) ((a+1) % 80))++[zaa.int .i64 (a:Int)])[80]?=some (.int .i64 (a:Int)):=by
    rw [List.getElem?_append_right (by simp)];simp
  have hl2:(cB (zrX (zcA s) ((a+1) % 80))++[zaa.int .i64 (a:Int)]).length=81:=by simp
  have hlo:=fun L fr R=>zIG (L:=L) (fr:=fr) (h:=h) (R:=R) bs ts i s a ha hb
  have hl1:=zMl s a
  generalize cB (zrX (zcA s) ((a+1) % 80))++[zaa.int .i64 (a:Int)]=c2 at*
  generalize zd2 (zcA s) ((a+1) % 80)=c3 at*
  generalize zd2 s a=c1 at*
  generalize (a+1) % 80=a2 at*
  generalize a+1=a1 at*
  have hsl:zaA (rep [zaa.int .i64 0] 5) [(0,1,.int .i64 13),(1,1,.int .i64 23),(2,1,.int .i64 38),(3,1,.int .i64 51),(4,1,.int .i64 62)]=some (cI .i64 [13,23,38,51,62]):=rfl
  have hch:chunks 1 5 (cI .i64 [13,23,38,51,62])=eI .i64 [13,23,38,51,62]:=rfl
  have hll:(eI .i64 [13,23,38,51,62]).length=5:=rfl
  generalize eI .i64 [13,23,38,51,62]=tp at*
  generalize cI .i64 [13,23,38,51,62]=tc at*
  simp -implicitDefEqProofs [-Nat.testBit_zero,zhl,za5,zaQ,hb,hat,i1,hgt,zat,hsl,hch,zBV,hll]
  generalize hF:run ctx _ (.loop _) _ _=R
  obtain ⟨fr1,rfl,h3,hk1⟩:=hlo _ _ _ hF (by simp) (by simp) (by simp) (by simp) (by simp)
  have hai:a≤80:=by omega
  have hatE:=zy9 hat
  have hat2E:=zy9 hat2
  simp -implicitDefEqProofs [-Nat.testBit_zero,hk1,wr,zch,zbM,h3,za5,zaQ,hb,hbe,hat,hatE,hat2E,hi,i1,w2,w3,zbs,zat,zah,hL,hl1,hl2,hset,hset2,hat2,zs4,show a+1≤81 by omega,hai]
end Go.Av
namespace Go.Av
def zDr:Nat→Nat→Option (Nat × Bool)
  | 0,_=>none
  | f + 1, s => match zry s with
    | true=>some (zcA (zcA s),zry (zcA s))
    | false=>zDr f (zcA (zcA s))
theorem zIJ:∀ (f s:Nat) (q:Nat × Bool),zDr f s=some q→s < 2 ^ 80→q.1 < 2 ^ 80
  | 0,s,q,h,_=>by simp [zDr] at h
  | f + 1, s, q, h, hs => by
    unfold zDr at h
    cases hb:zry s with
    | true=>
      rw [hb] at h
      obtain rfl:=Option.some.inj h
      exact zjl _ (zjl _ hs)
    | false=>
      rw [hb] at h
      exact zIJ f _ q h (zjl _ (zjl _ hs))
def zkV:AC:=.seq (.reg [iv 5 (.mv (.t 0)),
    ic 6 (.call zbi [.t 5]),iv 7 (.mv (.t 0)),
    ic 8 (.call zbi [.t 7]),iv 3 (.mv (.t 6)),iv 4 (.mv (.t 8))])
  (.seq (.seq (.reg [iv 9 (.mv (.t 3)),iv 10 (.un .not (.t 9))])
  (.cond (.t 10)
   (.goto 0)
   (.skip)))
  (.seq (.reg [iv 11 (.mv (.t 4)),iv 2 (.mv (.t 11))])
  (.ret)))
def zpF:AC:=.seq (.label 0) zkV
theorem zMr:zfs zpF 0=some (.seq .skip zkV):=by simp [zpF,zfs]
theorem zDs (L:Lim) (fr:Fr) (h:zab):run ctx L (.seq .skip zkV) fr h=run ctx L zkV fr h:=by simp
theorem zDt (L:Lim) (fr:Fr) (h:zab):run ctx L zpF fr h=run ctx L zkV fr h:=by
  unfold zpF;simp
theorem zIQ (L:Lim) (h:zab) (ts:List Nat) (i:Nat) (hL:L.rob≤h.blks.length):∀ (f s a:Nat) (bs:List (List zaa)) (fr:Fr) (q:Nat × Bool),zDr f s=some q→s < 2 ^ 80→a < 80→bs[i]?=some (zd2 s a)→fr 0=pA h.blks.length i 0→
    ∃ fr' a',a' < 80∧zyt ctx L zpF (run ctx L zkV fr (hx h bs ts))=some (.ret,fr',hx h (bs.set i (zd2 q.1 a')) ts)∧fr' 2=.bool q.2
  | 0,s,a,bs,fr,q,hq,hs,ha,hb,h0=>by simp [zDr] at hq
  | f + 1, s, a, bs, fr, q, hq, hs, ha, hb, h0 => by
    obtain ⟨hi,hbe⟩:=List.getElem?_eq_some_iff.1 hb
    have t1:=zDp L h bs ts i s a hs ha hb hL
    have t2:=zDp L h (bs.set i (zd2 (zcA s) ((a+1) % 80))) ts i (zcA s) ((a+1) % 80) (zjl _ hs) (by omega) (by simp [hi]) hL
    rw [List.set_set] at t2
    have ha2:((a+1) % 80+1) % 80 < 80:=by omega
    unfold zDr at hq
    have hb2:(bs.set i (zd2 (zcA (zcA s)) (((a+1) % 80+1) % 80)))[i]?=some (zd2 (zcA (zcA s)) (((a+1) % 80+1) % 80)):=by simp [hi]
    have hrec:=fun fr=>zIQ L h ts i hL f (zcA (zcA s)) (((a+1) % 80+1) % 80) (bs.set i (zd2 (zcA (zcA s)) (((a+1) % 80+1) % 80))) fr q
    have hs2:=zjl _ (zjl _ hs)
    generalize (((a+1) % 80+1) % 80)=a2 at*
    generalize (a+1) % 80=a1 at*
    cases hbit:zry s with
    | true=>
      rw [hbit] at hq t1
      obtain rfl:=Option.some.inj hq
      simp only
      generalize zcA (zcA s)=s2 at*
      generalize zry (zcA s)=b at*
      simp -implicitDefEqProofs [zkV,h0,t1,t2]
      first | exact ⟨a2,ha2,rfl⟩ | exact ⟨_,a2,ha2,⟨rfl,rfl⟩,by simp⟩
    | false=>
      rw [hbit] at hq t1
      have:=fun fr=>hrec fr hq hs2 ha2 hb2
      simp only [List.set_set] at this
      have hfind:=zMr
      generalize hbb:zpF=bb at*
      generalize zcA (zcA s)=s2 at*
      generalize zry (zcA s)=b at*
      have e:∃ fr2,zyt ctx L bb (run ctx L zkV fr (hx h bs ts))=zyt ctx L bb (run ctx L zkV fr2 (hx h (bs.set i (zd2 s2 a2)) ts))∧fr2 0=pA h.blks.length i 0:=by
        have:∃ fr2,run ctx L zkV fr (hx h bs ts)=some (.goto 0,fr2,hx h (bs.set i (zd2 s2 a2)) ts)∧fr2 0=pA h.blks.length i 0:=by
          simp -implicitDefEqProofs [zkV,h0,t1,t2]
        obtain ⟨fr2,e1,e2⟩:=this
        refine ⟨fr2,?_,e2⟩
        rw [e1,zD4,zD5,hfind]
        simp only [zDs]
      obtain ⟨fr2,e1,e2⟩:=e
      rw [e1]
      exact this fr2 e2
theorem zTr (L:Lim) (h:zab) (bs:List (List zaa)) (ts:List Nat) (i s a f:Nat) (q:Nat × Bool) (hq:zDr f s=some q) (hs:s < 2 ^ 80) (ha:a < 80) (hb:bs[i]?=some (zd2 s a)) (hL:L.rob≤h.blks.length):
    ∃ a',a' < 80∧zag ctx L zfO [pA h.blks.length i 0] (hx h bs ts)=some (.bool q.2,hx h (bs.set i (zd2 q.1 a')) ts):=by
  rw [zqm]
  have hbody:zh5=.seq (.reg [iv 2 (.mv (.k (.bool false)))]) (.scope zpF):=rfl
  rw [hbody]
  obtain ⟨fr',a',ha',e,e2⟩:=zIQ ⟨L.rob,L.rot,h.blks.length+bs.length,h.toks.length+ts.length⟩ h ts i hL f s a bs (upd (frm [pA h.blks.length i 0]) 2 (.bool false)) q hq hs ha hb (by simp)
  refine ⟨a',ha',?_⟩
  rw [← zDt] at e
  generalize zpF=bb at*
  simp -implicitDefEqProofs [za5,zaQ,e,e2,zs4]
end Go.Av
namespace Go.Av
def byL (k m:Nat):List Int:=tab k fun j=>(((m >>> (8*j)) % 256:Nat):Int)
@[simp] theorem zQc (k m:Nat):(byL k m).length=k:=by simp [byL]
theorem zQf (k m : Nat) : inB (byL k m) := fun i hi => by
  unfold byL;rw [zbz (by simpa using hi)];omega
theorem zIX (m:Nat):∀ k,leN (byL k m)=m % 256 ^ k
  | 0=>by simp [byL,tab,leN,Nat.mod_one]
  | k + 1 => by
    unfold byL
    rw [← zig,zAq,show tab k (fun j=>(((m >>> (8*j)) % 256:Nat):Int))=byL k m from rfl,zIX m k,zQc,Int.toNat_natCast,Nat.mod_pow_succ,Nat.mul_comm (256 ^ k),Nat.shiftRight_eq_div_pow,Nat.pow_mul]
theorem zQh (m i j:Nat):((m|||2 ^ i) >>> (8*j)) % 256=if j=i / 8 then ((m >>> (8*j)) % 256|||2 ^ (i % 8)) else (m >>> (8*j)) % 256:=by
  refine Nat.eq_of_testBit_eq fun t=>?_
  have e:(256:Nat)=2 ^ 8:=rfl
  rw [e]
  split
  · rename_i hj
    simp only [Nat.testBit_mod_two_pow,Nat.testBit_shiftRight,Nat.testBit_or,Nat.testBit_two_pow]
    by_cases ht:t < 8
    · have : decide (i = 8 * j + t) = decide (i % 8 = t) := by congr 1; exact propext ⟨fun h => by omega, fun h => by omega⟩
      simp [ht,this]
    · have h1 : ¬ i % 8 = t := by omega
      simp [ht,h1]
  · rename_i hj
    simp only [Nat.testBit_mod_two_pow,Nat.testBit_shiftRight,Nat.testBit_or,Nat.testBit_two_pow]
    by_cases ht:t < 8
    · have h1 : ¬ i = 8 * j + t := by omega
      simp [h1]
    · simp [ht]
theorem zTy (k m i:Nat):(byL k m).set (i / 8) ((((m >>> (8*(i / 8))) % 256|||2 ^ (i % 8):Nat)):Int)=byL k (m|||2 ^ i):=by
  unfold byL
  rw [zlr]
  refine zaN fun j hj=>?_
  rw [zQh]
  split
  · rename_i h;subst h;rfl
  · rfl
theorem zTA (k m j:Nat) (h:j < k):gd (byL k m) 0 j=(((m >>> (8*j)) % 256:Nat):Int):=by unfold byL;rw [zbz h]
theorem zWU (r:Nat) (hr:r < 8):zdj .shl (.int .u8 1) (.int .i64 (r:Int))=some (.int .u8 ((2 ^ r:Nat):Int)):=by
  match r,hr with
  | 0,_=>rfl | 1,_=>rfl | 2,_=>rfl | 3,_=>rfl | 4,_=>rfl | 5,_=>rfl | 6,_=>rfl | 7,_=>rfl
theorem zYj (x y:Nat) (hx:x < 256) (hy:y < 256):zdj .or (.int .u8 (x:Int)) (.int .u8 (y:Int))=some (.int .u8 ((x|||y:Nat):Int)):=by
  rw [zK4]
  have h:x|||y < 2 ^ 8:=Nat.or_lt_two_pow hx hy
  have e:(BitVec.ofInt IntKind.u8.bits (x:Int)|||BitVec.ofInt IntKind.u8.bits (y:Int)).toNat=x|||y:=by
    rw [BitVec.toNat_or]
    have : ∀ z : Nat, z < 256 → (BitVec.ofInt IntKind.u8.bits (z : Int)).toNat = z := fun z hz => by
      rw [BitVec.toNat_ofInt];simp only [IntKind.bits];omega
    rw [this x hx,this y hy]
  rw [e,wrap_u8 (by omega) (by omega)]
def zrc (s:Nat):Nat→Option (Nat × Nat)
  | 0=>some (s,0)
  | k + 1 => match zrc s k with
    | none=>none
    | some q => match zDr 100 q.1 with
      | none=>none
      | some r=>some (r.1,2*q.2+r.2.toNat)
theorem zqH {s k:Nat} {q:Nat × Nat} (h:zrc s (k+1)=some q):∃ p r,zrc s k=some p∧zDr 100 p.1=some r∧q=(r.1,2*p.2+r.2.toNat):=by
  simp only [zrc] at h
  cases hp:zrc s k with
  | none=>rw [hp] at h;cases h
  | some p=>
    rw [hp] at h
    simp only at h
    cases hr:zDr 100 p.1 with
    | none=>rw [hr] at h;cases h
    | some r=>
      rw [hr] at h
      exact ⟨p,r,rfl,hr,(Option.some.inj h).symm⟩
theorem zv6 {s:Nat}:∀ {k:Nat} {q:Nat × Nat},zrc s k=some q→∀ j,j≤k→∃ p,zrc s j=some p
  | 0,q,h,j,hj=>⟨q,by rw [show j=0 by omega];exact h⟩
  | k + 1, q, h, j, hj => by
    obtain ⟨p,r,h1,h2,h3⟩:=zqH h
    by_cases e:j=k+1
    · subst e;exact ⟨q,h⟩
    · exact zv6 h1 j (by omega)
theorem zqI {s:Nat} (hs:s < 2 ^ 80):∀ {k:Nat} {q:Nat × Nat},zrc s k=some q→q.1 < 2 ^ 80∧q.2 < 2 ^ k
  | 0, q, h => by
    obtain rfl:=Option.some.inj h
    exact ⟨hs,by simp⟩
  | k + 1, q, h => by
    obtain ⟨p,r,h1,h2,rfl⟩:=zqH h
    obtain ⟨a,b⟩:=zqI hs h1
    have:r.2.toNat≤1:=by cases r.2 <;> decide
    exact ⟨zIJ 100 _ r h2 a,by simp only [Nat.pow_succ];omega⟩
theorem zMX (n k:Nat):(n <<< (k+1))|||2 ^ k=(2*n+1) <<< k:=by
  rw [Nat.shiftLeft_eq,Nat.shiftLeft_eq,Nat.mul_comm n,← Nat.two_pow_add_eq_or_of_lt (by rw [Nat.pow_succ];have:=Nat.two_pow_pos k;omega),Nat.pow_succ,Nat.add_mul,Nat.one_mul,Nat.mul_comm (2 ^ k*2),← Nat.mul_assoc,Nat.mul_right_comm,Nat.mul_comm 2 n,Nat.mul_right_comm]
theorem zGq (n k:Nat):n <<< (k+1)=(2*n+0) <<< k:=by
  rw [Nat.shiftLeft_eq,Nat.shiftLeft_eq,Nat.pow_succ,Nat.add_zero,← Nat.mul_assoc,Nat.mul_comm 2 n,Nat.mul_right_comm]
theorem zMZ {L:Lim} {fr:Fr} {h:zab} {R:Option (AEx × Fr × zab)} (cs:List (List zaa)) (ts:List Nat) (i s a:Nat) (q:Nat × Nat) (hq:zrc s 254=some q) (hs:s < 2 ^ 80) (ha:a < 80) (hb:cs[i]?=some (zd2 s a)) (hL:L.rob≤h.blks.length)
    (hF:run ctx L (.loop zav) fr (hx h (cs++[cI .u8 (byL 32 0)]) ts)=R)
    (h0:fr 0=pA h.blks.length i 0) (h3:fr 3=pA h.blks.length cs.length 0) (h4:fr 4=.int .i64 253):
    ∃ fr' a',a' < 80∧R=some (.exit 2,fr',hx h (cs.set i (zd2 q.1 a')++[cI .u8 (byL 32 q.2)]) ts)∧∀ t,t∉wr zav→fr' t=fr t:=by
  obtain ⟨hi,hbe⟩:=List.getElem?_eq_some_iff.1 hb
  obtain ⟨e',fr',h',rfl,⟨rfl,a',ha',rfl⟩,hk⟩:=zaf hF 254
    (fun k fr hh=>fr 4=.int .i64 (253 - (k:Int))∧∃ a' s' n' m,a' < 80∧m+k=254∧zrc s k=some (s',n')∧hh=hx h (cs.set i (zd2 s' a')++[cI .u8 (byL 32 (n' <<< m))]) ts)
    (fun e' fr hh=>e'=.exit 2∧∃ a',a' < 80∧hh=hx h (cs.set i (zd2 q.1 a')++[cI .u8 (byL 32 q.2)]) ts)
    ⟨h4,a,s,0,254,ha,rfl,rfl,by
      have:cs.set i (zd2 s a)=cs:=by
        refine List.ext_getElem? fun j=>?_
        by_cases e:i=j
        · subst e;rw [List.getElem?_set_self hi,hb]
        · rw [List.getElem?_set_ne e]
      simp only [this,Nat.zero_shiftLeft]⟩ (by
      rintro k fr1 hh hkN hkeep ⟨g4,a1,ps,pn,m,ha1,hmk,hp,rfl⟩
      obtain ⟨p,rfl,rfl⟩:∃ p:Nat × Nat,p.1=ps∧p.2=pn:=⟨(ps,pn),rfl,rfl⟩
      have g0:=(hkeep 0 (by decide)).trans h0
      have g3:=(hkeep 3 (by decide)).trans h3
      by_cases hlt:k < 254
      · obtain ⟨q1, hq1⟩ := zv6 hq (k + 1) (by omega)
        obtain ⟨p',r,e1,e2,rfl⟩:=zqH hq1
        rw [hp] at e1
        obtain rfl:=Option.some.inj e1
        obtain ⟨hps,hpn⟩:=zqI hs hp
        obtain ⟨j,hj⟩:∃ j:Nat,j=253 - k:=⟨_,rfl⟩
        obtain rfl:m=j+1:=by omega
        have g4':fr1 4=.int .i64 (j:Int):=by rw [g4];congr 1;omega
        have hil:(cs.set i (zd2 p.1 a1))[i]?=some (zd2 p.1 a1):=by simp [hi]
        obtain ⟨a2,ha2,hB⟩:=zTr L h (cs.set i (zd2 p.1 a1)++[cI .u8 (byL 32 (p.2 <<< (j+1)))]) ts i p.1 a1 100 r e2 hps ha1 (zf0 _ hil) hL
        rw [zom _ _ (by simpa using hi),List.set_set] at hB
        have w1:IntKind.i64.wrap ((j:Int) - 1)=253 - ((k+1:Nat):Int):=(wrap_i64 (by omega) (by omega)).trans (by omega)
        have hl:(cs.set i (zd2 r.1 a2)).length=cs.length:=by simp
        have hfin:∃ a' s' n' m,a' < 80∧m+(k+1)=254∧zrc s (k+1)=some (s',n')∧hx h (cs.set i (zd2 r.1 a2)++[cI .u8 (byL 32 ((2*p.2+r.2.toNat) <<< j))]) ts=hx h (cs.set i (zd2 s' a')++[cI .u8 (byL 32 (n' <<< m))]) ts:=
          ⟨a2,_,_,j,ha2,by omega,hq1,rfl⟩
        have t1:=zuB j 8
        have t3:=zoA j 8
        have t2:=zfQ (j / 8) (by omega)
        simp only [Int.cast_ofNat_Int] at t1 t3
        have i1:=zaP 32 1 h.blks.length cs.length 0 (j / 8) .i64 (by simp;omega)
        rw [show 0+j / 8*1=j / 8 by omega] at i1
        have hgd:=zTA 32 (p.2 <<< (j+1)) (j / 8) (by omega)
        have hsh:=zWU (j % 8) (by omega)
        have hor:=zYj (((p.2 <<< (j+1)) >>> (8*(j / 8))) % 256) (2 ^ (j % 8)) (by omega) (Nat.pow_lt_pow_right (by omega:1 < 2) (show j % 8 < 8 by omega))
        have hset:=zTy 32 (p.2 <<< (j+1)) j
        rw [zMX] at hset
        have hz:=zGq p.2 j
        cases hr2:r.2 with
        | true=>
          rw [hr2] at hB hfin
          have hgr:=zaO (cs.set i (zd2 r.1 a2)) [cI .u8 (byL 32 (p.2 <<< (j+1)))] cs.length 0 hl.symm
          have hsr:=fun x=>zbY (cs.set i (zd2 r.1 a2)) [cI .u8 (byL 32 (p.2 <<< (j+1)))] cs.length 0 x hl.symm
          simp only [Nat.add_zero,List.getElem?_cons_zero,List.set_cons_zero] at hgr hsr
          have hcg:(cI .u8 (byL 32 (p.2 <<< (j+1))))[j / 8]?=some (.int .u8 ((((p.2 <<< (j+1)) >>> (8*(j / 8))) % 256:Nat):Int)):=by
            rw [← hgd]
            simp only [cI,List.getElem?_map,zou (show j / 8 < (byL 32 (p.2 <<< (j+1))).length by simp;omega) (d:=0),Option.map_some]
          have hcs:=zU8 .u8 (byL 32 (p.2 <<< (j+1))) (j / 8) ((((p.2 <<< (j+1)) >>> (8*(j / 8))) % 256|||2 ^ (j % 8):Nat):Int)
          rw [hset] at hcs
          have hcl:(cI .u8 (byL 32 (p.2 <<< (j+1)))).length=32:=by simp
          have hj8:j / 8+1≤32:=by omega
          simp only [Bool.toNat_true] at hfin
          generalize cI .u8 (byL 32 (p.2 <<< (j+1)))=c1 at*
          generalize cI .u8 (byL 32 ((2*p.2+1) <<< j))=c2 at*
          generalize cs.set i (zd2 r.1 a2)=ds at*
          generalize ((p.2 <<< (j+1)) >>> (8*(j / 8))) % 256|||2 ^ (j % 8)=v3 at*
          generalize ((p.2 <<< (j+1)) >>> (8*(j / 8))) % 256=v1 at*
          generalize 2 ^ (j % 8)=v2 at*
          generalize j % 8=x8 at*
          generalize j / 8=y8 at*
          simp -implicitDefEqProofs [zav,zak,g0,g3,g4',show (0:Int)≤(j:Int) by omega,w1,hB,t1,t2,t3,zc9,zbs,i1,hgr,hsr,hcg,zy9 hcg,hsh,hor,hcs,hcl,zat,zah,hL,hj8,show y8 < 32 by omega, -zuA, -zK4]
          obtain ⟨a',s',n',m',f1,f2,f3,f4⟩:=hfin
          exact ⟨by omega,a',f1,s',n',m',f2,f3,f4⟩
        | false=>
          rw [hr2] at hB hfin
          simp only [Bool.toNat_false] at hfin
          rw [← hz] at hfin
          simp -implicitDefEqProofs [zav,zak,g0,g3,g4',show (0:Int)≤(j:Int) by omega,w1,hB]
          obtain ⟨a',s',n',m',f1,f2,f3,f4⟩:=hfin
          exact ⟨by omega,a',f1,s',n',m',f2,f3,f4⟩
      · have : k = 254 := by omega
        subst this
        rw [hq] at hp
        obtain rfl:=Option.some.inj hp
        obtain rfl:m=0:=by omega
        rw [Nat.shiftLeft_zero]
        simp [zav,g4]
        exact ⟨a1,ha1,rfl⟩)
  exact ⟨fr',a',ha',rfl,hk⟩
end Go.Av
namespace Go.Av
theorem zE7 (a b:zaa) (ha:a.flat=true) (hb:b.flat=true):(zaa.tup [a,b]).flat=true:=by simp [zaa.flat,zdE,ha,hb]
theorem zzB (L:Lim) (h:zab) (bs:List (List zaa)) (ts:List Nat) (i:Nat) (cap:Option Nat) (t:List Int) (hb:inB t) (hi:bs[i]?=some (cI .u8 t)) (hl:t.length=32):
    zag ctx L ze0 [sA h.blks.length i 0 1 32 cap] (hx h bs ts)=some (if leN t < pN then .tup [.agg (cW (fe (leN t))),.int .i64 0] else .tup [.agg (cW (tab 4 fun _=>0#64)),.int .i64 4],hx h bs ts):=by
  have h1:=zAO L (hx h bs ts) false t hb hl
  rw [zkp] at h1 ⊢
  have hf:=zH8 h bs ts i 32 cap .u8 t hi hl
  rw [zqA,znP,zjZ,zqB,zvi,zqK] at h1
  rw [zqA,znP,hf,zqB,zvi,zqK]
  refine zAR h1 ?_
  split
  · exact zE7 _ _ (zwV _) rfl
  · exact zE7 _ _ (zwV _) rfl
@[irreducible] def zGu (s:Nat):Option (Nat × Nat):=zrc s 254
theorem zzj (s:Nat):zGu s=zrc s 254:=by unfold zGu;exact rfl
def zsp:Nat→Nat→Option (Nat × Nat)
  | 0,_=>none
  | f + 1, s => match zGu s with
    | none=>none
    | some q => match Nat.ble pN q.2 with
      | true=>zsp f q.1
      | false=>some q
theorem zzC:∀ (f s:Nat) (q:Nat × Nat),zsp f s=some q→s < 2 ^ 80→q.1 < 2 ^ 80∧q.2 < pN
  | 0,s,q,h,_=>by simp [zsp] at h
  | f + 1, s, q, h, hs => by
    unfold zsp at h
    cases hb:zGu s with
    | none=>rw [hb] at h;cases h
    | some p=>
      rw [hb] at h
      simp only at h
      rw [zzj] at hb
      obtain ⟨h1,h2⟩:=zqI hs hb
      cases hp:Nat.ble pN p.2 with
      | true=>
        rw [hp] at h
        exact zzC f _ q h h1
      | false=>
        rw [hp] at h
        obtain rfl:=Option.some.inj h
        refine ⟨h1,Nat.lt_of_not_le fun hle=>?_⟩
        rw [Nat.ble_eq_true_of_le hle] at hp
        cases hp
theorem zW2:(2:Nat) ^ 254 < 256 ^ 32:=by decide
theorem zO6 (L:Lim) (h:zab) (ts:List Nat) (i j:Nat) (hij:i≠j) (hL:L.rob≤h.blks.length):∀ (f s a:Nat) (cs:List (List zaa)) (fr:Fr) (z:List W64) (q:Nat × Nat),zsp f s=some q→s < 2 ^ 80→a < 80→cs[i]?=some (zd2 s a)→cs[j]?=some (cW z)→z.length=4→fr 0=pA h.blks.length i 0→fr 2=pA h.blks.length j 0→
    ∃ fr' a' js,a' < 80∧run ctx L (.loop za2) fr (hx h cs ts)=some (.ret,fr',hx h ((cs.set i (zd2 q.1 a')).set j (cW (fe q.2))++js) ts)∧fr' 2=pA h.blks.length j 0
  | 0,s,a,cs,fr,z,q,hq,_,_,_,_,_,_,_=>by simp [zsp] at hq
  | f + 1, s, a, cs, fr, z, q, hq, hs, ha, hb, hj, hz, h0, h2 => by
    obtain ⟨hi,hbe⟩:=List.getElem?_eq_some_iff.1 hb
    obtain ⟨hj1,hje⟩:=List.getElem?_eq_some_iff.1 hj
    unfold zsp at hq
    cases hbb:zGu s with
    | none=>rw [hbb] at hq;cases hq
    | some p=>
      rw [hbb] at hq
      simp only at hq
      rw [zzj] at hbb
      obtain ⟨hp1,hp2⟩:=zqI hs hbb
      have hlo:=fun fr R=>zMZ (L:=L) (fr:=fr) (h:=h) (R:=R) cs ts i s a p hbb hs ha hb hL
      have hle:leN (byL 32 p.2)=p.2:=by rw [zIX];exact Nat.mod_eq_of_lt (Nat.lt_trans hp2 zW2)
      have hFB:=fun L a'=>zzB L h (cs.set i (zd2 p.1 a')++[cI .u8 (byL 32 p.2)]) ts cs.length (some 32) (byL 32 p.2) (zQf 32 p.2) (by simp) (by simp)
      rw [hle] at hFB
      have hsl:=zg6 32 1 h.blks.length cs.length 0 (by decide)
      have hz0:(tab 32 fun _=>(0:Int))=byL 32 0:=by unfold byL;refine zaN fun j hj=>?_;simp
      have hself:∀ a',(cs.set i (zd2 p.1 a'))[i]?=some (zd2 p.1 a'):=fun a'=>by simp [hi]
      have hotherj:∀ a',(cs.set i (zd2 p.1 a'))[j]?=some (cW z):=fun a'=>by rw [List.getElem?_set_ne hij];exact hj
      have hlen:∀ a',(cs.set i (zd2 p.1 a')).length=cs.length:=fun a'=>by simp
      cases hp:Nat.ble pN p.2 with
      | true=>
        rw [hp] at hq
        simp only at hq
        have hnl : ¬ p.2 < pN := fun hlt => by
          have:=Nat.le_of_ble_eq_true hp;omega
        rw [if_neg hnl] at hFB
        rw [znc]
        have hbody:∃ fr2 a2 j2,a2 < 80∧run ctx L za2 fr (hx h cs ts)=some (.normal,fr2,hx h (cs.set i (zd2 p.1 a2)++j2) ts)∧fr2 0=pA h.blks.length i 0∧fr2 2=pA h.blks.length j 0:=by
          generalize byL 32 p.2=b1 at*
          generalize hb0:byL 32 0=b0 at*
          simp -implicitDefEqProofs [za2,zjs,hz0,h0]
          generalize hF:run ctx _ (.loop _) _ _=R
          obtain ⟨fr1,a',ha',rfl,hk1⟩:=hlo _ _ hF (by simp [h0]) (by simp) (by simp)
          have hd:=hlen a'
          have hgr:=zaO (cs.set i (zd2 p.1 a')) [cI .u8 b1,cW (tab 4 fun _=>0#64)] cs.length 1 hd.symm
          have hsr:=fun x=>zbY (cs.set i (zd2 p.1 a')) [cI .u8 b1,cW (tab 4 fun _=>0#64)] cs.length 1 x hd.symm
          simp only [List.getElem?_cons_succ,List.getElem?_cons_zero,List.set_cons_succ,List.set_cons_zero] at hgr hsr
          have hfb:=fun L=>hFB L a'
          generalize hds:cs.set i (zd2 p.1 a')=ds at*
          simp -implicitDefEqProofs [hk1,wr,zav,zbM,hsl,hfb,zaI,zbp,zai,hgr,hsr,hd,zah,hL,h0,h2]
          refine ⟨_,a',ha',⟨rfl,_,by rw [hds]⟩,?_,?_⟩
          · simp -implicitDefEqProofs [hk1,wr,zav,zbM,h0]
          · simp -implicitDefEqProofs [hk1,wr,zav,zbM,h2]
        obtain ⟨fr2,a2,j2,ha2,hrun,e0,e2⟩:=hbody
        rw [hrun,zD1]
        obtain ⟨fr',a3,js,ha3,hr,e3⟩:=zO6 L h ts i j hij hL f p.1 a2 (cs.set i (zd2 p.1 a2)++j2) fr2 z q hq hp1 ha2 (zf0 _ (hself a2)) (zf0 _ (hotherj a2)) hz e0 e2
        refine ⟨fr',a3,j2++js,ha3,?_,e3⟩
        rw [hr,zom _ _ (by simpa using hi),List.set_set,zom _ _ (by simpa using hj1),List.append_assoc]
      | false=>
        rw [hp] at hq
        obtain rfl:=Option.some.inj hq
        have hlt:p.2 < pN:=Nat.lt_of_not_le fun hle=>by rw [Nat.ble_eq_true_of_le hle] at hp;cases hp
        rw [if_pos hlt] at hFB
        rw [znc]
        have l3:=zaV p.2
        generalize byL 32 p.2=b1 at*
        generalize hb0:byL 32 0=b0 at*
        generalize fe p.2=r at*
        simp -implicitDefEqProofs [za2,zjs,hz0,h0]
        generalize hF:run ctx _ (.loop _) _ _=R
        obtain ⟨fr1,a',ha',rfl,hk1⟩:=hlo _ _ hF (by simp [h0]) (by simp) (by simp)
        have hd:=hlen a'
        have hgr:=fun y=>zaO (cs.set i (zd2 p.1 a')) [cI .u8 b1,y] cs.length 1 hd.symm
        have hsr:=fun y x=>zbY (cs.set i (zd2 p.1 a')) [cI .u8 b1,y] cs.length 1 x hd.symm
        simp only [List.getElem?_cons_succ,List.getElem?_cons_zero,List.set_cons_succ,List.set_cons_zero] at hgr hsr
        have hgj:=fun y=>zf0 [cI .u8 b1,y] (hotherj a')
        have hsj:=fun x=>zom [cI .u8 b1,cW r] x (show j < (cs.set i (zd2 p.1 a')).length by simpa using hj1)
        have hfb:=fun L=>hFB L a'
        generalize hds:cs.set i (zd2 p.1 a')=ds at*
        have hn0:(pN:Nat)=pN:=rfl
        simp -implicitDefEqProofs [hk1,wr,zav,zbM,hsl,hfb,zaI,zbp,zai,hgr,hsr,hgj,hsj,hd,zah,hL,h0,h2,l3,hz,zaj]
        refine ⟨_,a',ha',⟨rfl,_,by rw [hds]⟩,?_⟩
        simp -implicitDefEqProofs [hk1,wr,zav,zbM,h2]
theorem zDJ (L:Lim) (h:zab) (bs:List (List zaa)) (ts:List Nat) (i s a f:Nat) (q:Nat × Nat) (hq:zsp f s=some q) (hs:s < 2 ^ 80) (ha:a < 80) (hb:bs[i]?=some (zd2 s a)) (hL:L.rob≤h.blks.length):
    ∃ a',a' < 80∧zag ctx L zdX [pA h.blks.length i 0] (hx h bs ts)=some (.agg (cW (fe q.2)),hx h (bs.set i (zd2 q.1 a')) ts):=by
  obtain ⟨hi,hbe⟩:=List.getElem?_eq_some_iff.1 hb
  rw [zmt]
  have hgz:=zaO bs [cW (tab 4 fun _=>0#64)] bs.length 0 rfl
  simp only [Nat.add_zero,List.getElem?_cons_zero] at hgz
  obtain ⟨fr',a',js,ha',e,e2⟩:=zO6 ⟨L.rob,L.rot,h.blks.length+bs.length,h.toks.length+ts.length⟩ h ts i bs.length (by omega) hL f s a (bs++[cW (tab 4 fun _=>0#64)]) (upd (frm [pA h.blks.length i 0]) 2 (pA h.blks.length bs.length 0)) (tab 4 fun _=>0#64) q hq hs ha (zf0 _ hb) hgz (by simp) (by simp) (by simp)
  refine ⟨a',ha',?_⟩
  have hs1:=zbY (bs.set i (zd2 q.1 a')) [cW (tab 4 fun _=>0#64)] bs.length 0 (cW (fe q.2)) (by simp)
  simp only [Nat.add_zero,List.set_cons_zero] at hs1
  rw [zom _ _ hi,hs1,List.append_assoc] at e
  have hd:(bs.set i (zd2 q.1 a')).length=bs.length:=by simp
  have htr:=zjH h (bs.set i (zd2 q.1 a')) ([cW (fe q.2)]++js) ts bs.length hd.symm
  have hg2:=zaO (bs.set i (zd2 q.1 a')) ([cW (fe q.2)]++js) bs.length 0 hd.symm
  simp only [Nat.add_zero,List.singleton_append,List.getElem?_cons_zero] at hg2 htr e
  have l3:=zaV q.2
  generalize fe q.2=r at*
  generalize bs.set i (zd2 q.1 a')=ds at*
  have hbody:zfI=.seq (.reg [ic 2 (.alloc (zaS (.int .u64 0) 4))]) (.blk 0 (.loop za2)):=rfl
  rw [hbody]
  generalize za2=bb at*
  simp -implicitDefEqProofs [za5,zaQ,zaI,zB1,e,e2,hg2,zaj,l3,htr]
end Go.Av
namespace Go.Av
theorem zJL (L:Lim) (h:zab) (bs:List (List zaa)) (ts:List Nat) (i off:Nat) (cs:List zaa) (h1:(decide (L.rob≤h.blks.length)&&decide (L.nb≤h.blks.length+i))=true):
    zc2 L (hx h bs ts) (pA h.blks.length i off) cs=stO h bs ts i off cs bs[i]?:=by
  simp only [Bool.and_eq_true,decide_eq_true_eq] at h1
  unfold zc2 pA stO stI hx
  simp only
  rw [List.getElem?_append_right (Nat.le_add_right _ _),Nat.add_sub_cancel_left]
  cases bs[i]? with
  | none=>rfl
  | some old=>
    simp only [Option.bind_some]
    by_cases hc:off+cs.length≤old.length
    · rw [if_pos ⟨by omega, hc, .inl (by omega)⟩, if_pos (by simpa using hc)]
      rw [List.set_append_right _ _ (Nat.le_add_right _ _),Nat.add_sub_cancel_left]
    · rw [if_neg (fun h=>hc h.2.1),if_neg (by simpa using hc)]
def zhR:Nat:=1208925819174894048508930
theorem zDP:zhR < 2 ^ 80:=by decide
def rgT (p:Nat):List Bool:=tab 80 fun j=>if j < p then zhR.testBit j else false
@[simp] theorem zW6 (p:Nat):(rgT p).length=80:=by simp [rgT]
theorem zQG (p:Nat):(rgT p).set p (zhR.testBit p)=rgT (p+1):=by
  unfold rgT;rw [zlr]
  refine zaN fun j hj=>?_
  by_cases h:j=p
  · subst h;simp
  · rw [if_neg h]
    by_cases h2:j < p
    · rw [if_pos h2,if_pos (by omega)]
    · rw [if_neg h2,if_neg (by omega)]
def rgC (p:Nat):List zaa:=cB (rgT p)++[zaa.int .i64 0]
@[simp] theorem zQH (p:Nat):(rgC p).length=81:=by simp [rgC]
theorem zQJ (p:Nat) (hp:p < 80):(rgC p).set p (.bool (zhR.testBit p))=rgC (p+1):=by
  unfold rgC;rw [List.set_append_left _ _ (by simpa using hp),zCv,zQG]
theorem zQL:rgC 80=zd2 zhR 0:=by
  unfold rgC zd2
  have:rgT 80=zrX zhR 0:=zaN fun j hj=>by rw [if_pos hj];congr 1;omega
  rw [this];rfl
theorem zYk (n i:Nat) (hi:i≤64):zdj .shr (.int .i64 (n:Int)) (.int .i64 (i:Int))=some (.int .i64 ((n >>> i:Nat):Int)):=by
  have:=zVe .i64 (n:Int) (i:Int) (by simp only [Bool.and_eq_true,decide_eq_true_eq];exact ⟨by omega,by show (i:Int)≤((64:Nat):Int);omega⟩)
  rw [zfH,this,Nat.shiftRight_eq_div_pow,Int.fdiv_eq_ediv_of_nonneg _ (Int.pow_nonneg (by decide))]
  simp
theorem zW8 (n:Nat) (h:n < 9223372036854775808):zdj .and (.int .i64 (n:Int)) (.int .i64 1)=some (.int .i64 ((n % 2:Nat):Int)):=by
  rw [zov]
  have e:(BitVec.ofInt IntKind.i64.bits (n:Int)&&&BitVec.ofInt IntKind.i64.bits 1).toNat=n % 2:=by
    rw [BitVec.toNat_and]
    have h1:(BitVec.ofInt IntKind.i64.bits (n:Int)).toNat=n:=by rw [BitVec.toNat_ofInt];simp only [IntKind.bits];omega
    have h2:(BitVec.ofInt IntKind.i64.bits 1).toNat=1:=by decide
    rw [h1,h2,Nat.and_one_is_mod]
  rw [e,zfQ _ (by omega)]
theorem zNi {L:Lim} {fr:Fr} {h:zab} {R:Option (AEx × Fr × zab)} (cs:List (List zaa)) (ts:List Nat) (n w p:Nat) (hw:w≤60) (hn:n < 2 ^ 60) (hp:p+w≤80) (hbit:∀ k,k < w→n.testBit (w - 1 - k)=zhR.testBit (p+k)) (hL:L.rob≤h.blks.length)
    (hF:run ctx L (.loop zgY) fr (hx h (cs++[rgC p,[pA h.blks.length cs.length 0],[.int .i64 (p:Int)]]) ts)=R)
    (h0:fr 0=.int .i64 (n:Int)) (h2:fr 2=pA h.blks.length (cs.length+1) 0) (h3:fr 3=pA h.blks.length (cs.length+2) 0) (h6:fr 6=.int .i64 ((w:Int) - 1)):
    ∃ fr',R=some (.exit 0,fr',hx h (cs++[rgC (p+w),[pA h.blks.length cs.length 0],[.int .i64 ((p+w:Nat):Int)]]) ts)∧∀ t,t∉wr zgY→fr' t=fr t:=by
  obtain ⟨e',fr',h',rfl,⟨rfl,rfl⟩,hk⟩:=zaf hF w
    (fun k fr hh=>fr 6=.int .i64 ((w:Int) - 1 - k)∧hh=hx h (cs++[rgC (p+k),[pA h.blks.length cs.length 0],[.int .i64 ((p+k:Nat):Int)]]) ts)
    (fun e' fr hh=>e'=.exit 0∧hh=hx h (cs++[rgC (p+w),[pA h.blks.length cs.length 0],[.int .i64 ((p+w:Nat):Int)]]) ts)
    ⟨by rw [h6]; simp, rfl⟩ (by
      rintro k fr1 hh hkN hkeep ⟨g6,rfl⟩
      have g0:=(hkeep 0 (by decide)).trans h0
      have g2:=(hkeep 2 (by decide)).trans h2
      have g3:=(hkeep 3 (by decide)).trans h3
      by_cases hlt:k < w
      · obtain ⟨i,hi⟩:∃ i:Nat,i=w - 1 - k:=⟨_,rfl⟩
        have g6':fr1 6=.int .i64 (i:Int):=by rw [g6];congr 1;omega
        have w1:IntKind.i64.wrap ((i:Int) - 1)=(w:Int) - 1 - ((k+1:Nat):Int):=(wrap_i64 (by omega) (by omega)).trans (by omega)
        have w2:IntKind.i64.wrap (((p+k:Nat):Int)+1)=((p+(k+1):Nat):Int):=(wrap_i64 (by omega) (by omega)).trans (by omega)
        have hsh:=zYk n i (by omega)
        have hand:=zW8 (n >>> i) (by
          have:n >>> i≤n:=by rw [Nat.shiftRight_eq_div_pow];exact Nat.div_le_self _ _
          omega)
        have hb:=hbit k hlt
        rw [← hi] at hb
        have htb:decide (n >>> i % 2=1)=zhR.testBit (p+k):=by rw [← hb,Nat.testBit_eq_decide_div_mod_eq,Nat.shiftRight_eq_div_pow]
        have heq:(((n >>> i % 2:Nat):Int)==1)=zhR.testBit (p+k):=by
          rw [← htb]
          by_cases e:n >>> i % 2=1
          · rw [e];rfl
          · rw [decide_eq_false e];exact beq_false_of_ne (by omega)
        have i1:=zaP 80 1 h.blks.length cs.length 0 (p+k) .i64 (by simp;omega)
        rw [show 0+(p+k)*1=p+k by omega] at i1
        have hset:=zQJ (p+k) (by omega)
        have hr0:=fun x y z=>zaO cs [x,y,z] cs.length 0 rfl
        have hr1:=fun x y z=>zaO cs [x,y,z] cs.length 1 rfl
        have hr2:=fun x y z=>zaO cs [x,y,z] cs.length 2 rfl
        have hs0:=fun x y z v=>zbY cs [x,y,z] cs.length 0 v rfl
        have hs2:=fun x y z v=>zbY cs [x,y,z] cs.length 2 v rfl
        simp only [Nat.add_zero,List.getElem?_cons_zero,List.getElem?_cons_succ,List.set_cons_zero,List.set_cons_succ] at hr0 hr1 hr2 hs0 hs2
        have hcl:=zQH (p+k)
        have hpk:p+k+1≤81:=by omega
        rw [show p+k+1=p+(k+1) by omega] at hset
        generalize rgC (p+k)=c1 at*
        generalize hc2:rgC (p+(k+1))=c2 at*
        generalize n >>> i % 2=b1 at*
        generalize n >>> i=b2 at*
        generalize zhR.testBit (p+k)=bb at*
        generalize hpk1:p+(k+1)=pk1 at*
        have hc1:(p:Int)+((k:Int)+1)=(pk1:Int):=by omega
        have hpk0:p+k≤80:=by omega
        generalize p+k=pk at*
        simp -implicitDefEqProofs [zgY,g0,g2,g3,g6',show (0:Int)≤(i:Int) by omega,w1,w2,hsh,hand,heq,i1,hr0,hr1,hr2,hs0,hs2,hcl,hset,zat,zah,hL,hpk0,hc2,hpk1,hc1, -zfH, -zov]
        omega
      · have : k = w := by omega
        subst this
        have:(k:Int) - 1 - k= -1:=by omega
        rw [this] at g6
        simp [zgY,g6])
  exact ⟨fr',rfl,hk⟩
theorem zwo (L:Lim) (h:zab) (cs:List (List zaa)) (ts:List Nat) (n w p:Nat) (hw:w≤60) (hn:n < 2 ^ 60) (hp:p+w≤80) (hbit:∀ k,k < w→n.testBit (w - 1 - k)=zhR.testBit (p+k)) (hL:L.rob≤h.blks.length):
    zag ctx L zbN [.int .i64 (n:Int),.int .i64 (w:Int),pA h.blks.length (cs.length+1) 0,pA h.blks.length (cs.length+2) 0] (hx h (cs++[rgC p,[pA h.blks.length cs.length 0],[.int .i64 (p:Int)]]) ts)
      =some (.tup [],hx h (cs++[rgC (p+w),[pA h.blks.length cs.length 0],[.int .i64 ((p+w:Nat):Int)]]) ts):=by
  rw [zva]
  have w1:IntKind.i64.wrap ((w:Int) - 1)=(w:Int) - 1:=wrap_i64 (by omega) (by omega)
  have hlo:=fun L hL fr R=>zNi (L:=L) (fr:=fr) (h:=h) (R:=R) cs ts n w p hw hn hp hbit hL
  generalize rgC (p+w)=c2 at*
  generalize rgC p=c1 at*
  generalize ((p+w:Nat):Int)=pw at*
  simp -implicitDefEqProofs [znN,za5,zaQ,w1]
  generalize hF:run ctx _ (.loop _) _ _=R
  obtain ⟨fr1,rfl,hk1⟩:=hlo ⟨L.rob,L.rot,h.blks.length+(cs.length+3),h.toks.length+ts.length⟩ hL _ _ hF (by simp) (by simp) (by simp) (by simp)
  have htr:=zjH h (cs++[c2,[pA h.blks.length cs.length 0],[.int .i64 pw]]) [] ts (cs.length+3) (by simp)
  rw [List.append_nil] at htr
  simp -implicitDefEqProofs [za5,zaQ,htr]
def zfw (s:Nat):Nat→Nat
  | 0=>s
  | k+1=>zcA (zfw s k)
theorem ztp (s:Nat) (hs:s < 2 ^ 80):∀ k,zfw s k < 2 ^ 80
  | 0=>hs
  | k+1=>zjl _ (ztp s hs k)
theorem zJV {L:Lim} {fr:Fr} {h:zab} {R:Option (AEx × Fr × zab)} (cs:List (List zaa)) (ts:List Nat) (y z:List zaa) (hy:y=[pA h.blks.length cs.length 0]) (hL:L.rob≤h.blks.length)
    (hF:run ctx L (.loop zge) fr (hx h (cs++[zd2 zhR 0,y,z]) ts)=R)
    (h10:fr 10=pA h.blks.length (cs.length+1) 0) (h64:fr 64=.int .i64 0):
    ∃ fr' a',a' < 80∧R=some (.exit 0,fr',hx h (cs++[zd2 (zfw zhR 160) a',y,z]) ts)∧∀ t,t∉wr zge→fr' t=fr t:=by
  obtain ⟨e',fr',h',rfl,⟨rfl,a',ha',rfl⟩,hk⟩:=zaf hF 160
    (fun k fr hh=>fr 64=.int .i64 (k:Int)∧∃ a',a' < 80∧hh=hx h (cs++[zd2 (zfw zhR k) a',y,z]) ts)
    (fun e' fr hh=>e'=.exit 0∧∃ a',a' < 80∧hh=hx h (cs++[zd2 (zfw zhR 160) a',y,z]) ts)
    ⟨h64, 0, by decide, rfl⟩ (by
      rintro k fr1 hh hkN hkeep ⟨g64,a1,ha1,rfl⟩
      have g10:=(hkeep 10 (by decide)).trans h10
      by_cases hlt:k < 160
      · have w1 : IntKind.i64.wrap ((k : Int) + 1) = k + 1 := wrap_i64 (by omega) (by omega)
        have hr0:=fun x=>zaO cs [x,y,z] cs.length 0 rfl
        have hr1:=fun x=>zaO cs [x,y,z] cs.length 1 rfl
        have hs0:=fun x v=>zbY cs [x,y,z] cs.length 0 v rfl
        simp only [Nat.add_zero,List.getElem?_cons_zero,List.getElem?_cons_succ,List.set_cons_zero] at hr0 hr1 hs0
        have hT:=fun L hL=>zDp L h (cs++[zd2 (zfw zhR k) a1,y,z]) ts cs.length (zfw zhR k) a1 (ztp _ zDP k) ha1 (hr0 _) hL
        simp only [hs0] at hT
        have hn:zcA (zfw zhR k)=zfw zhR (k+1):=rfl
        rw [hn] at hT
        have ha2:(a1+1) % 80 < 80:=by omega
        generalize hs2:zfw zhR (k+1)=s2 at*
        generalize zfw zhR k=s1 at*
        generalize (a1+1) % 80=a2 at*
        have hT2:=hT L hL
        have hpy:y[0]?=some (pA h.blks.length cs.length 0):=by rw [hy];rfl
        simp -implicitDefEqProofs [zge,g10,g64,show (k:Int) < 160 by omega,w1,hr1,zat,hpy,zy9 hpy,hT2]
        exact ⟨hlt,a2,ha2,by rw [hs2]⟩
      · have : k = 160 := by omega
        subst this
        simp [zge,g64]
        exact ⟨a1,ha1,rfl⟩)
  exact ⟨fr',a',ha',rfl,hk⟩
def zlY:Nat:=zfw zhR 160
theorem zp8:zlY < 2 ^ 80:=ztp _ zDP 160
def nG:AC:=.seq (.reg [iv 8 (.mv (.k (.nilp))),iv 9 (.mv (.k (.int .i64 0)))])
   (.seq (.seq (.reg [iv 13 (.mv (.t 0)),iv 14 (.bin .lss (.t 13) (.k (.int .i64 1))),iv 15 (.mv (.t 14)),
     ⟨(some 16),.v (.mv (.t 0)),(some (15,false)),[],0,0⟩,
     ⟨(some 17),.v (.bin .gtr (.t 16) (.k (.int .i64 4095))),(some (15,false)),[],0,0⟩,iv 18 (.pick (.t 15) (.k (.bool true)) (.t 17)),iv 19 (.mv (.t 18)),
     ⟨(some 20),.v (.mv (.t 1)),(some (19,false)),[],0,0⟩,
     ⟨(some 21),.v (.bin .lss (.t 20) (.k (.int .i64 1))),(some (19,false)),[],0,0⟩,iv 22 (.pick (.t 19) (.k (.bool true)) (.t 21)),iv 23 (.mv (.t 22)),
     ⟨(some 24),.v (.mv (.t 1)),(some (23,false)),[],0,0⟩,
     ⟨(some 25),.v (.bin .gtr (.t 24) (.k (.int .i64 4095))),(some (23,false)),[],0,0⟩,iv 26 (.pick (.t 23) (.k (.bool true)) (.t 25)),iv 27 (.mv (.t 26)),
     ⟨(some 28),.v (.mv (.t 2)),(some (27,false)),[],0,0⟩,
     ⟨(some 29),.v (.bin .lss (.t 28) (.k (.int .i64 0))),(some (27,false)),[],0,0⟩,iv 30 (.pick (.t 27) (.k (.bool true)) (.t 29)),iv 31 (.mv (.t 30)),
     ⟨(some 32),.v (.mv (.t 2)),(some (31,false)),[],0,0⟩,
     ⟨(some 33),.v (.bin .gtr (.t 32) (.k (.int .i64 1023))),(some (31,false)),[],0,0⟩,iv 34 (.pick (.t 31) (.k (.bool true)) (.t 33)),iv 35 (.mv (.t 34)),
     ⟨(some 36),.v (.mv (.t 3)),(some (35,false)),[],0,0⟩,
     ⟨(some 37),.v (.bin .lss (.t 36) (.k (.int .i64 0))),(some (35,false)),[],0,0⟩,iv 38 (.pick (.t 35) (.k (.bool true)) (.t 37)),iv 39 (.mv (.t 38)),
     ⟨(some 40),.v (.mv (.t 3)),(some (39,false)),[],0,0⟩,
     ⟨(some 41),.v (.bin .gtr (.t 40) (.k (.int .i64 1023))),(some (39,false)),[],0,0⟩,iv 42 (.pick (.t 39) (.k (.bool true)) (.t 41))])
   (.cond (.t 42)
    (.seq (.reg [iv 8 (.mv (.k (.nilp))),iv 9 (.mv (.k (.int .i64 1)))])
    (.ret))
    (.skip)))
   (.seq (.reg [iv 43 (.build (rgC 0) []),
     ic 44 (.box (.t 43)),
     ic 10 (.alloc [.nilp]),
     jc (.st 1 (.t 10) (.t 44))])
   (.seq (.reg [ic 11 (.alloc [.int .i64 0]),
     jc (.st 1 (.t 11) (.k (.int .i64 0)))])
   (.seq (.reg [iv 45 (.mkfn (.func zbN) [] [.t 10,.t 11]),iv 12 (.mv (.t 45))])
   (.seq (.reg [iv 46 (.mv (.t 12)),
     ic 47 (.callv (.t 46) [.k (.int .i64 1),.k (.int .i64 2)])])
   (.seq (.reg [iv 48 (.mv (.t 12)),
     ic 49 (.callv (.t 48) [.k (.int .i64 0),.k (.int .i64 4)])])
   (.seq (.reg [iv 50 (.mv (.t 12)),iv 51 (.mv (.t 0)),
     ic 52 (.callv (.t 50) [.t 51,.k (.int .i64 12)])])
   (.seq (.reg [iv 53 (.mv (.t 12)),iv 54 (.mv (.t 1)),
     ic 55 (.callv (.t 53) [.t 54,.k (.int .i64 12)])])
   (.seq (.reg [iv 56 (.mv (.t 12)),iv 57 (.mv (.t 2)),
     ic 58 (.callv (.t 56) [.t 57,.k (.int .i64 10)])])
   (.seq (.reg [iv 59 (.mv (.t 12)),iv 60 (.mv (.t 3)),
     ic 61 (.callv (.t 59) [.t 60,.k (.int .i64 10)])])
   (.seq (.reg [iv 62 (.mv (.t 12)),
     ic 63 (.callv (.t 62) [.k (.int .i64 1073741823),.k (.int .i64 30)])])
   (.seq (.seq (.reg [iv 64 (.mv (.k (.int .i64 0)))])
   (.blk 0
    (.loop zge)))
   (.seq (.reg [ir 69 (.ld 1 false (.t 10)),iv 8 (.mv (.t 69)),iv 9 (.mv (.k (.int .i64 0)))])
   (.ret))))))))))))))
theorem zXc:zsH=nG:=rfl
theorem zQP (L:Lim) (h:zab) (cs:List (List zaa)) (ts:List Nat) (hL:L.rob≤h.blks.length) (hnb:L.nb≤h.blks.length+cs.length):
    ∃ a',a' < 80∧zag ctx L zoz [.int .i64 254,.int .i64 3,.int .i64 8,.int .i64 57] (hx h cs ts)=some (.tup [pA h.blks.length cs.length 0,.int .i64 0],hx h (cs++[zd2 zlY a',[pA h.blks.length cs.length 0],[.int .i64 80]]) ts):=by
  rw [zxM]
  have q1:∀ L:Lim,L.rob≤h.blks.length→zag ctx L zbN [.int .i64 1,.int .i64 2,pA h.blks.length (cs.length+1) 0,pA h.blks.length (cs.length+2) 0] (hx h (cs++[rgC 0,[pA h.blks.length cs.length 0],[.int .i64 0]]) ts)
      =some (.tup [],hx h (cs++[rgC 2,[pA h.blks.length cs.length 0],[.int .i64 2]]) ts):=fun L hL=>zwo L h cs ts 1 2 0 (by decide) (by decide) (by decide) (by decide) hL
  have q2:∀ L:Lim,L.rob≤h.blks.length→zag ctx L zbN [.int .i64 0,.int .i64 4,pA h.blks.length (cs.length+1) 0,pA h.blks.length (cs.length+2) 0] (hx h (cs++[rgC 2,[pA h.blks.length cs.length 0],[.int .i64 2]]) ts)
      =some (.tup [],hx h (cs++[rgC 6,[pA h.blks.length cs.length 0],[.int .i64 6]]) ts):=fun L hL=>zwo L h cs ts 0 4 2 (by decide) (by decide) (by decide) (by decide) hL
  have q3:∀ L:Lim,L.rob≤h.blks.length→zag ctx L zbN [.int .i64 254,.int .i64 12,pA h.blks.length (cs.length+1) 0,pA h.blks.length (cs.length+2) 0] (hx h (cs++[rgC 6,[pA h.blks.length cs.length 0],[.int .i64 6]]) ts)
      =some (.tup [],hx h (cs++[rgC 18,[pA h.blks.length cs.length 0],[.int .i64 18]]) ts):=fun L hL=>zwo L h cs ts 254 12 6 (by decide) (by decide) (by decide) (by decide) hL
  have q4:∀ L:Lim,L.rob≤h.blks.length→zag ctx L zbN [.int .i64 3,.int .i64 12,pA h.blks.length (cs.length+1) 0,pA h.blks.length (cs.length+2) 0] (hx h (cs++[rgC 18,[pA h.blks.length cs.length 0],[.int .i64 18]]) ts)
      =some (.tup [],hx h (cs++[rgC 30,[pA h.blks.length cs.length 0],[.int .i64 30]]) ts):=fun L hL=>zwo L h cs ts 3 12 18 (by decide) (by decide) (by decide) (by decide) hL
  have q5:∀ L:Lim,L.rob≤h.blks.length→zag ctx L zbN [.int .i64 8,.int .i64 10,pA h.blks.length (cs.length+1) 0,pA h.blks.length (cs.length+2) 0] (hx h (cs++[rgC 30,[pA h.blks.length cs.length 0],[.int .i64 30]]) ts)
      =some (.tup [],hx h (cs++[rgC 40,[pA h.blks.length cs.length 0],[.int .i64 40]]) ts):=fun L hL=>zwo L h cs ts 8 10 30 (by decide) (by decide) (by decide) (by decide) hL
  have q6:∀ L:Lim,L.rob≤h.blks.length→zag ctx L zbN [.int .i64 57,.int .i64 10,pA h.blks.length (cs.length+1) 0,pA h.blks.length (cs.length+2) 0] (hx h (cs++[rgC 40,[pA h.blks.length cs.length 0],[.int .i64 40]]) ts)
      =some (.tup [],hx h (cs++[rgC 50,[pA h.blks.length cs.length 0],[.int .i64 50]]) ts):=fun L hL=>zwo L h cs ts 57 10 40 (by decide) (by decide) (by decide) (by decide) hL
  have q7:∀ L:Lim,L.rob≤h.blks.length→zag ctx L zbN [.int .i64 1073741823,.int .i64 30,pA h.blks.length (cs.length+1) 0,pA h.blks.length (cs.length+2) 0] (hx h (cs++[rgC 50,[pA h.blks.length cs.length 0],[.int .i64 50]]) ts)
      =some (.tup [],hx h (cs++[rgC 80,[pA h.blks.length cs.length 0],[.int .i64 80]]) ts):=fun L hL=>zwo L h cs ts 1073741823 30 50 (by decide) (by decide) (by decide) (by decide) hL
  rw [zQL] at q7
  have hlo:=fun fr R y z hy=>zJV (L:=L) (fr:=fr) (h:=h) (R:=R) cs ts y z hy hL
  have q1:=q1 L hL
  have q2:=q2 L hL
  have q3:=q3 L hL
  have q4:=q4 L hL
  have q5:=q5 L hL
  have q6:=q6 L hL
  have q7:=q7 L hL
  have hok:(zaa.agg (rgC 0)).okV=true:=by
    unfold rgC;rfl
  have hcl:(zaa.agg (rgC 0)).cells=rgC 0:=by simp only [zaa.cells]
  have hfl:zaA (rgC 0) []=some (rgC 0):=by simp only [zaA]
  rw [zXc]
  unfold nG
  generalize rgC 0=c0 at*
  generalize rgC 2=c2 at*
  generalize rgC 6=c6 at*
  generalize rgC 18=c18 at*
  generalize rgC 30=c30 at*
  generalize rgC 40=c40 at*
  generalize rgC 50=c50 at*
  have hr1:=fun x y=>zaO cs [x,y] cs.length 1 rfl
  have hs1:=fun x y v=>zbY cs [x,y] cs.length 1 v rfl
  have hr2:=fun x y z=>zaO cs [x,y,z] cs.length 2 rfl
  have hs2:=fun x y z v=>zbY cs [x,y,z] cs.length 2 v rfl
  have hr1':=fun x y z=>zaO cs [x,y,z] cs.length 1 rfl
  simp only [List.getElem?_cons_zero,List.getElem?_cons_succ,List.set_cons_zero,List.set_cons_succ] at hr1 hs1 hr2 hs2 hr1'
  have hsA:=fun bs i off x (hi:(decide (L.rob≤h.blks.length)&&decide (L.nb≤h.blks.length+i))=true)=>zJL L h bs ts i off x hi
  have hnb1:L.nb≤h.blks.length+(cs.length+1):=by omega
  have hnb2:L.nb≤h.blks.length+(cs.length+2):=by omega
  simp -implicitDefEqProofs [hfl,zbX,hok,hcl,hsA,hL,hnb1,hnb2,hr1,hs1,hr2,hs2,q1,q2,q3,q4,q5,q6,q7]
  generalize hF:run ctx _ (.loop _) _ _=R
  obtain ⟨fr1,a',ha',rfl,hk1⟩:=hlo _ _ _ _ rfl hF (by simp) (by simp)
  have hs0:zfw zhR 160=zlY:=rfl
  rw [hs0]
  generalize zlY=sg at*
  simp -implicitDefEqProofs [hk1,wr,zge,zbM,hr1',zat]
  exact ⟨a',ha',rfl⟩
end Go.Av
