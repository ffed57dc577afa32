/- The document's digits: sums, differences, products, rests. -/
import Derived.Test.YtbofkfgfnaigkaaGreatDoorC3
set_option linter.unusedSimpArgs false
set_option linter.unusedVariables false
set_option maxHeartbeats 2000000
set_option maxRecDepth 20000
namespace Go.Av
theorem zf0 {α:Type} {bs:List α} {i:Nat} {x:α} (js:List α) (h:bs[i]?=some x):(bs++js)[i]?=some x:=by
  rw [List.getElem?_append_left (List.getElem?_eq_some_iff.1 h).1,h]
theorem zom {α:Type} {bs:List α} {i:Nat} (js:List α) (x:α) (h:i < bs.length):(bs++js).set i x=bs.set i x++js:=List.set_append_left _ _ h
theorem zaO {α:Type} (bs js:List α) (n k:Nat) (h:n=bs.length):(bs++js)[n+k]?=js[k]?:=by
  subst h;rw [List.getElem?_append_right (Nat.le_add_right _ _),Nat.add_sub_cancel_left]
theorem zbY {α:Type} (bs js:List α) (n k:Nat) (x:α) (h:n=bs.length):(bs++js).set (n+k) x=bs++js.set k x:=by
  subst h;rw [List.set_append_right _ _ (Nat.le_add_right _ _),Nat.add_sub_cancel_left]
theorem zjH (h:zab) (bs js:List (List zaa)) (ts:List Nat) (n:Nat) (hn:n=bs.length):zit (hx h (bs++js) ts) (h.blks.length+n) (h.toks.length+ts.length)=hx h bs ts:=by
  subst hn
  unfold zit hx
  have e : ∀ {α : Type} (a b c : List α), (a ++ (b ++ c)).take (a.length + b.length) = a ++ b := fun a b c => by
    rw [← List.append_assoc,← List.length_append];exact List.take_left
  simp only [e]
  rw [← List.length_append,List.take_length]
def dB:Nat:=4294967296
def vD:List W64→Nat
  | []=>0
  | x :: l=>x.toNat+dB*vD l
def Dg (l:List W64):Prop:=∀ i,(gd l 0#64 i).toNat < dB
theorem zty {l:List W64} {i:Nat} (h:l.length≤i):gd l 0#64 i=0#64:=by
  unfold gd;simp [List.getD,List.getElem?_eq_none h]
theorem zvA (x:W64) (l:List W64):gd (x :: l) 0#64 0=x:=rfl
theorem ztz (x:W64) (l:List W64) (i:Nat):gd (x :: l) 0#64 (i+1)=gd l 0#64 i:=rfl
theorem Dg.tail {x:W64} {l:List W64} (h:Dg (x :: l)):Dg l:=fun i=>h (i+1)
theorem Dg.head {x:W64} {l:List W64} (h:Dg (x :: l)):x.toNat < dB:=h 0
theorem Dg.nil:Dg []:=fun i=>by rw [zty (by simp)];decide
theorem Dg.cons {x : W64} {l : List W64} (h1 : x.toNat < dB) (h : Dg l) : Dg (x :: l) := fun i => match i with
  | 0=>h1
  | i+1=>h i
theorem Dg.take {l : List W64} (h : Dg l) (n : Nat) : Dg (l.take n) := fun i => by
  by_cases hi:i < n
  · rw [zss hi];exact h i
  · rw [zty (by simp;omega)];decide
theorem Dg.tab {n : Nat} {f : Nat → W64} (h : ∀ i, i < n → (f i).toNat < dB) : Dg (tab n f) := fun i => by
  by_cases hi:i < n
  · rw [zbz hi];exact h i hi
  · rw [zty (by simp;omega)];decide
def sD (f:Nat→W64):Nat→Nat
  | 0=>0
  | k+1=>sD f k+(f k).toNat*dB ^ k
theorem ztD {f g:Nat→W64}:∀ {n:Nat},(∀ i,i < n→f i=g i)→sD f n=sD g n
  | 0,_=>rfl
  | n+1,h=>by unfold sD;rw [ztD fun i hi=>h i (by omega),h n (by omega)]
theorem zFo (f : Nat → W64) : ∀ n, sD f (n + 1) = (f 0).toNat + dB * sD (fun i => f (i + 1)) n
  | 0=>by simp [sD]
  | n + 1 => by
    rw [sD,zFo f n,sD,Nat.mul_add,Nat.add_assoc,Nat.pow_succ]
    congr 2
    rw [Nat.mul_comm dB,Nat.mul_assoc]
theorem zjJ:∀ (l:List W64) (n:Nat),l.length≤n→vD l=sD (gd l 0#64) n
  | [], n, _ => by
    have:∀ n,sD (gd ([]:List W64) 0#64) n=0:=by
      intro n
      induction n with
      | zero=>rfl
      | succ n ih=>rw [sD,ih];simp [gd,List.getD]
    rw [this];rfl
  | x :: l,0,h=>by simp at h
  | x :: l, n + 1, h => by
    rw [zFo,vD,zjJ l n (by simpa using h)]
    rfl
theorem zGX {f:Nat→W64}:∀ {n:Nat},(∀ i,i < n→(f i).toNat < dB)→sD f n < dB ^ n
  | 0,_=>by simp [sD]
  | n + 1, h => by
    have a:=zGX (f:=f) (n:=n) fun i hi=>h i (by omega)
    have b:=h n (by omega)
    have:(f n).toNat*dB ^ n+dB ^ n≤dB*dB ^ n:=by
      rw [← Nat.succ_mul];exact Nat.mul_le_mul_right _ b
    rw [sD,Nat.pow_succ,Nat.mul_comm (dB ^ n)]
    omega
theorem zKs {l:List W64} (h:Dg l):vD l < dB ^ l.length:=by
  rw [zjJ l _ (Nat.le_refl _)];exact zGX fun i _=>h i
theorem ztF (n:Nat) (f:Nat→W64):vD (tab n f)=sD f n:=by
  rw [zjJ _ n (by simp)];exact ztD fun i hi=>zbz hi
def Can (l:List W64):Prop:=Dg l∧(l=[]∨gd l 0#64 (l.length - 1)≠0#64)
theorem Can.nil:Can []:=⟨Dg.nil,.inl rfl⟩
theorem Can.tail {x:W64} {l:List W64} (h:Can (x :: l)):Can l:=⟨h.1.tail,by
  cases l with
  | nil=>exact .inl rfl
  | cons y l=>
    right
    rcases h.2 with e | e
    · cases e
    · simpa [ztz] using e⟩
theorem toNat_ne {x:W64} (h:x≠0#64):x.toNat≠0:=fun e=>h (BitVec.eq_of_toNat_eq e)
theorem Can.pos:∀ {l:List W64},Can l→l≠[]→vD l≠0
  | [],_,h=>absurd rfl h
  | [x], h, _ => by
    rcases h.2 with e | e
    · cases e
    · have:=toNat_ne (x:=x) e
      unfold vD;omega
  | x :: y :: l, h, _ => by
    have:=Can.pos h.tail (by simp)
    have hB:dB=4294967296:=rfl
    unfold vD
    rw [hB]
    omega
theorem Can.uniq:∀ {l m:List W64},Can l→Can m→vD l=vD m→l=m
  | [],[],_,_,_=>rfl
  | [],y :: m,_,h,e=>absurd e.symm (h.pos (by simp))
  | x :: l,[],h,_,e=>absurd e (h.pos (by simp))
  | x :: l, y :: m, h, h2, e => by
    have a:=h.1.head
    have b:=h2.1.head
    have hB:dB=4294967296:=rfl
    unfold vD at e
    rw [hB] at e a b
    have e1:x=y:=BitVec.eq_of_toNat_eq (by omega)
    have e2:vD l=vD m:=by subst e1;omega
    rw [e1,Can.uniq h.tail h2.tail e2]
def dgF:Nat→Nat→List W64
  | 0,_=>[]
  | f+1,n=>if n=0 then [] else BitVec.ofNat 64 (n % dB) :: dgF f (n / dB)
def dg (n:Nat):List W64:=dgF n n
theorem zKu:∀ (f n:Nat),n≤f→Can (dgF f n)∧vD (dgF f n)=n
  | 0, n, h => ⟨Can.nil, by have : n = 0 := by omega
                            subst this;rfl⟩
  | f + 1, n, h => by
    unfold dgF
    by_cases h0:n=0
    · rw [if_pos h0];exact ⟨Can.nil,h0.symm⟩
    · rw [if_neg h0]
      have hB:dB=4294967296:=rfl
      have hlt:n % dB < dB:=by rw [hB];omega
      have hx:(BitVec.ofNat 64 (n % dB):W64).toNat=n % dB:=by
        rw [BitVec.toNat_ofNat];rw [hB] at*;omega
      obtain ⟨a,b⟩:=zKu f (n / dB) (by
        have:n / dB≤n / 2:=Nat.div_le_div_left (by rw [hB];omega) (by omega)
        omega)
      refine ⟨⟨Dg.cons (by rw [hx];exact hlt) a.1,.inr ?_⟩,?_⟩
      · cases hd:dgF f (n / dB) with
        | nil=>
          rw [hd] at b
          have:n / dB=0:=b.symm
          intro e
          have e2:=congrArg BitVec.toNat e
          simp only [List.length_cons,List.length_nil] at e2
          rw [show (0+1 - 1)=0 from rfl,zvA,hx] at e2
          rw [hB] at*
          simp at e2
          omega
        | cons y l=>
          rw [hd] at a
          rcases a.2 with e | e
          · cases e
          · simpa [ztz] using e
      · rw [vD,hx,b,hB];omega
theorem zKv (n:Nat):Can (dg n):=(zKu n n (Nat.le_refl _)).1
@[simp] theorem zds (n:Nat):vD (dg n)=n:=(zKu n n (Nat.le_refl _)).2
theorem zkH (n:Nat):Dg (dg n):=(zKv n).1
theorem zQ9 {l:List W64} (h:Can l):l=dg (vD l):=Can.uniq h (zKv _) (zds _).symm
theorem zKx:dg 0=[]:=rfl
theorem zrL {n k:Nat} (h:n < dB ^ k):(dg n).length≤k:=by
  refine Nat.le_of_not_lt fun hk=>?_
  rcases (zKv n).2 with e | e
  · rw [e] at hk;simp at hk
  · have h1:=zjJ (dg n) (dg n).length (Nat.le_refl _)
    obtain ⟨m,hm⟩:∃ m,(dg n).length=m+1:=⟨(dg n).length - 1,by omega⟩
    rw [hm] at e h1
    simp only [Nat.add_sub_cancel] at e
    rw [zds,sD] at h1
    have:=toNat_ne e
    have h2:dB ^ k≤dB ^ m:=Nat.pow_le_pow_right (by decide) (by omega)
    have h3:dB ^ m≤(gd (dg n) 0#64 m).toNat*dB ^ m:=Nat.le_mul_of_pos_left _ (by omega)
    omega
def ztV (l:List W64):Nat→Nat
  | 0=>0
  | k + 1 => match gd l 0#64 k == 0#64 with
    | true=>ztV l k
    | false=>k+1
theorem zwG (l:List W64):∀ k,ztV l k≤k
  | 0=>Nat.le_refl _
  | k + 1 => by
    unfold ztV
    split
    · have:=zwG l k;omega
    · exact Nat.le_refl _
theorem zKA (l:List W64) (h:Dg l):∀ k,k≤l.length→vD (l.take k)=vD (l.take (ztV l k))∧Can (l.take (ztV l k))
  | 0,_=>⟨rfl,Can.nil⟩
  | k + 1, hk => by
    unfold ztV
    cases h0:gd l 0#64 k==0#64 with
    | true=>
      obtain ⟨a,b⟩:=zKA l h k (by omega)
      refine ⟨?_,b⟩
      simp only
      rw [← a,zjJ (l.take (k+1)) (k+1) (by simp;omega),zjJ (l.take k) (k+1) (by simp;omega)]
      refine ztD fun i hi=>?_
      by_cases hik:i < k
      · rw [zss hi,zss hik]
      · have : i = k := by omega
        subst this
        rw [zss hi,zty (l:=l.take i) (by simp;omega)]
        exact beq_iff_eq.1 h0
    | false=>
      refine ⟨rfl,h.take _,.inr ?_⟩
      simp only
      rw [List.length_take,Nat.min_eq_left hk,Nat.add_sub_cancel,zss (by omega)]
      intro e
      rw [e] at h0
      simp at h0
theorem zz5 {l:List W64} (h:Dg l):l.take (ztV l l.length)=dg (vD l):=by
  obtain ⟨a,b⟩:=zKA l h l.length (Nat.le_refl _)
  rw [List.take_length] at a
  rw [zQ9 b,← a]
end Go.Av
namespace Go.Av
structure LV (x:zaa) (l:List W64):Prop where
  fz:∀ h,fzA h x=some (.vsl false (eW l),false)
  rd:∀ h,RdW h x l
theorem LV.vsl (c:Bool) (l:List W64):LV (.vsl c (eW l)) l:=⟨fun h=>zjZ h c _,fun h=>RdW.vsl h c l⟩
theorem LV.nsl:LV .nsl []:=⟨fun h=>zPD h,fun h=>⟨rfl,fun _=>.nilp,fun i hi=>by simp at hi,fun i _ _ hi=>by simp at hi⟩⟩
theorem zQ4 (x y:W64):zdj .lss (wd x) (wd y)=some (.bool (decide (x.toNat < y.toNat))):=by
  show some (zaa.bool (decide ((x.toNat:Int) < y.toNat)))=_
  simp
theorem zQ5 (x y:W64):zdj .gtr (wd x) (wd y)=some (.bool (decide (y.toNat < x.toNat))):=by
  show some (zaa.bool (decide ((x.toNat:Int) > y.toNat)))=_
  simp
def rmW (x:W64) (c:Nat):W64:=BitVec.ofNat 64 (x.toNat % c)
def qtW (x:W64) (c:Nat):W64:=BitVec.ofNat 64 (x.toNat / c)
theorem zi6 (x:W64) (c:Nat):(rmW x c).toNat=x.toNat % c:=by
  unfold rmW;rw [BitVec.toNat_ofNat,Nat.mod_eq_of_lt (Nat.lt_of_le_of_lt (Nat.mod_le _ _) x.isLt)]
theorem zkc (x:W64) (c:Nat):(qtW x c).toNat=x.toNat / c:=by
  unfold qtW;rw [BitVec.toNat_ofNat,Nat.mod_eq_of_lt (Nat.lt_of_le_of_lt (Nat.div_le_self _ _) x.isLt)]
theorem zEd (x:W64) (c:Nat) (h:c≠0):zdj .rem (wd x) (.int .u64 (c:Int))=some (wd (rmW x c)):=by
  have:=zbs (k:=.u64) (a:=(x.toNat:Int)) (b:=(c:Int)) (by omega)
  rw [zoA] at this
  rw [wd,wd,zi6];exact this
theorem zEe (x:W64) (c:Nat) (h:c≠0):zdj .quo (wd x) (.int .u64 (c:Int))=some (wd (qtW x c)):=by
  have:=zc9 (k:=.u64) (a:=(x.toNat:Int)) (b:=(c:Int)) (by omega)
  rw [zuB,zxk _ (Nat.lt_of_le_of_lt (Nat.div_le_self _ _) x.isLt)] at this
  rw [wd,wd,zkc];exact this
theorem ztI (x:W64):zdj .rem (wd x) (.int .u64 4294967296)=some (wd (rmW x 4294967296)):=zEd x 4294967296 (by decide)
theorem ztJ (x:W64):zdj .quo (wd x) (.int .u64 4294967296)=some (wd (qtW x 4294967296)):=zEe x 4294967296 (by decide)
theorem zKE (x:W64):zdj .rem (wd x) (.int .u64 256)=some (wd (rmW x 256)):=zEd x 256 (by decide)
theorem zKF (x:W64):zdj .quo (wd x) (.int .u64 256)=some (wd (qtW x 256)):=zEe x 256 (by decide)
theorem zRc (x:W64):zdj .rem (wd x) (.int .u64 2)=some (wd (rmW x 2)):=zEd x 2 (by decide)
theorem zRd (x:W64):zdj .quo (wd x) (.int .u64 2)=some (wd (qtW x 2)):=zEe x 2 (by decide)
theorem zqp (L:Lim) (h:zab) (x:zaa) (l:List W64) (hr:RdW h x l) (i:Nat):zag ctx L zaF [x,.int .i64 (i:Int)] h=some (wd (gd l 0#64 i),h):=by
  rw [zrs]
  obtain ⟨r1,p,r2,r3⟩:=hr
  by_cases hi:i < l.length
  · simp -implicitDefEqProofs [zgK,zak,r1,hi,r2 i hi,r3 i [] [] hi]
  · have hg:gd l 0#64 i=0#64:=zty (Nat.le_of_not_lt hi)
    simp -implicitDefEqProofs [zgK,zak,r1,hi,hg,wd0]
theorem zKG {fr:Fr} {h:zab} {R:Option (AEx × Fr × zab)} (x:zaa) (l:List W64) (hr:RdW h x l) (hn:l.length < 1000000000)
    (hF:run ctx (zak h) (.loop zbO) fr (hx h [] [])=R)
    (h0:fr 0=x) (h3:fr 3=.int .i64 (l.length:Int)):
    ∃ fr',R=some (.exit 0,fr',hx h [] [])∧fr' 3=.int .i64 ((ztV l l.length:Nat):Int)∧∀ t,t∉wr zbO→fr' t=fr t:=by
  obtain ⟨r1,p,r2,r3⟩:=hr
  generalize hT:ztV l l.length=T at*
  obtain ⟨e,fr',h',rfl,⟨rfl,rfl,h3'⟩,hk⟩:=zaf hF l.length
    (fun k fr hh=>∃ m,m+k=l.length∧fr 3=.int .i64 (m:Int)∧T=ztV l m∧hh=hx h [] [])
    (fun e fr hh=>e=.exit 0∧hh=hx h [] []∧fr 3=.int .i64 (T:Int))
    ⟨l.length,rfl,h3,hT.symm,rfl⟩ (by
      rintro k fr1 hh hkN hkeep ⟨m,hm,g3,ht,rfl⟩
      have g0:=(hkeep 0 (by decide)).trans h0
      cases m with
      | succ i=>
        have w1:IntKind.i64.wrap (((i+1:Nat):Int) - 1)=(i:Int):=(wrap_i64 (by omega) (by omega)).trans (by omega)
        have hro:=r2 i (by omega)
        have hrd:=r3 i [] [] (by omega)
        have hst:ztV l (i+1)=match gd l 0#64 i==0#64 with | true=>ztV l i | false=>i+1:=rfl
        have e0:zaa.int .u64 0=wd 0#64:=rfl
        have hgt:(0:Int) < ((i+1:Nat):Int):=by omega
        rw [hst] at ht
        cases hz:gd l 0#64 i==0#64 with
        | true=>
          rw [hz] at ht
          simp only at ht
          generalize ((i+1:Nat):Int)=ii at*
          simp -implicitDefEqProofs [zbO,zak,g0,g3,hgt,w1,hro,hrd,e0,zp0,hz, -zqr]
          exact ⟨by omega,i,by omega,rfl,ht⟩
        | false=>
          rw [hz] at ht
          simp only at ht
          subst ht
          generalize ((i+1:Nat):Int)=ii at*
          simp -implicitDefEqProofs [zbO,zak,g0,g3,hgt,w1,hro,hrd,e0,zp0,hz, -zqr]
      | zero=>
        have ht0:T=0:=ht
        subst ht0
        simp [zbO,g3])
  exact ⟨fr',rfl,h3',hk⟩
theorem zqT (L:Lim) (h:zab) (x r r':zaa) (l:List W64) (hr:RdW h x l) (hn:l.length < 1000000000) (hsl:zhU .slc 1 x none (some (.int .i64 ((ztV l l.length:Nat):Int))) none=some r)
    (hfz:frz (hx h [] []) h.blks.length h.toks.length 12 r=some r'):zag ctx L zau [x] h=some (r',h):=by
  rw [zqt]
  have hlo:=fun fr R=>zKG (fr:=fr) (h:=h) (R:=R) x l hr hn
  obtain ⟨r1,_⟩:=hr
  generalize ((ztV l l.length:Nat):Int)=tl at*
  simp -implicitDefEqProofs [zip,zak,r1]
  generalize hF:run ctx _ (.loop _) _ _=R
  obtain ⟨fr1,rfl,h3,hk1⟩:=hlo _ _ hF (by simp) (by simp)
  simp -implicitDefEqProofs [hk1,wr,zbO,zbM,h3,hsl,hfz]
theorem zCe (L:Lim) (h:zab) (c:Bool) (l:List W64) (hd:Dg l) (hn:l.length < 1000000000):zag ctx L zau [.vsl c (eW l)] h=some (.vsl false (eW (dg (vD l))),h):=by
  have htl:=zwG l l.length
  have htd:=zz5 hd
  refine zqT L h _ (.vsl (c&&ztV l l.length==l.length) (eW (dg (vD l)))) _ l (RdW.vsl h c l) hn ?_ (ztW _ _ _ _ _ _)
  have e1:zCX 0 (ztV l l.length) (eW l)=eW (dg (vD l)):=by rw [← htd];simp [zCX,eW,List.map_take]
  simp [zhU,zlN,htl,e1]
theorem zsN (L:Lim) (h:zab) (bs:List (List zaa)) (ts:List Nat) (i n c:Nat) (cs l:List W64) (hb:bs[i]?=some (cW cs)) (hl:cs.take n=l) (hln:l.length=n) (hd:Dg l) (hn:n < 1000000000) (hnc:n≤c):
    ∃ r,zag ctx L zau [sA h.blks.length i 0 1 n (some c)] (hx h bs ts)=some (r,hx h bs ts)∧∀ js,frz (hx h (bs++js) ts) h.blks.length h.toks.length 12 r=some (.vsl false (eW (dg (vD l)))):=by
  have hrd:RdW (hx h bs ts) (sA h.blks.length i 0 1 n (some c)) l:=by
    refine ⟨by simp [hln],fun k=>pA h.blks.length i (0+k*1),fun k hk=>?_,fun k bs' ts' hk=>?_⟩
    · exact ztZ h.blks.length i 0 1 n k (some c) .i64 (by simp;omega)
    · rw [zGd,zEC,zf0 bs' hb,zFR,zat,Nat.zero_add,Nat.mul_one]
      have hkc:k < cs.length:=by rw [← hl] at hk;simp at hk;omega
      have:gd l 0#64 k=gd cs 0#64 k:=by rw [← hl,zss (by omega)]
      rw [this];exact zsG hkc
  have htl:=zwG l n
  have htd:=zz5 hd
  rw [hln] at htd
  have hcl:n≤cs.length:=by rw [← hl] at hln;simp at hln;omega
  have hb2:bs[i]?=some (cI .u64 (zsO cs)):=by rw [hb,znO]
  have hbl:=(List.getElem?_eq_some_iff.1 hb).1
  by_cases h0:ztV l n=0
  · have htd0 : dg (vD l) = [] := by rw [← htd, h0]; rfl
    rw [htd0]
    refine ⟨.vsl false (eW []),zqT L _ _ (.vsl (some c==some 0) (eW [])) _ l hrd (by omega) ?_ (ztW _ _ _ _ _ _),fun js=>ztW _ _ _ _ _ _⟩
    rw [hln,h0];simp [zhU,sA,zlN]
  · refine ⟨sA h.blks.length i 0 1 (ztV l n) (some c), zqT L _ _ (sA h.blks.length i 0 1 (ztV l n) (some c)) _ l hrd (by omega) ?_ ?_, fun js => ?_⟩
    · rw [hln];simp [zhU,sA,zlN,h0,show ztV l n≤c by omega]
    · exact zyP _ _ _ _ _ _ _ _ _ (by simp [za5,hbl])
    · have := zEB h (bs ++ js) ts h.toks.length 11 i (ztV l n) (some c) .u64 (zsO cs) (zf0 js hb2) (by simp; omega)
      rw [this,← htd]
      generalize ztV l n=T at*
      rw [← hl,List.take_take,Nat.min_eq_left htl,zvH,← zpo]
theorem zAL {f g:Nat→W64} (hf:∀ i,(f i).toNat < dB):∀ (n m:Nat),m < n→(∀ j,m < j→j < n→f j=g j)→(f m).toNat < (g m).toNat→sD f n < sD g n
  | 0,m,h,_,_=>by omega
  | n + 1, m, h, he, hl => by
    rw [sD,sD]
    by_cases e:m=n
    · subst e
      have h1:=zGX (f:=f) (n:=m) fun i _=>hf i
      have h2:(f m).toNat*dB ^ m+dB ^ m≤(g m).toNat*dB ^ m:=by
        rw [← Nat.succ_mul];exact Nat.mul_le_mul_right _ hl
      omega
    · have h1 := zAL hf n m (by omega) (fun j h1 h2 => he j h1 (by omega)) hl
      rw [he n (by omega) (by omega)]
      omega
theorem zPo {x y:Nat} (h:x < y):zmE x y= -1:=by unfold zmE;rw [if_pos h]
theorem zPp {x y:Nat} (h:y < x):zmE x y=1:=by unfold zmE;rw [if_neg (by omega),if_pos h]
theorem zPq (x:Nat):zmE x x=0:=by unfold zmE;simp
theorem zHI {fr:Fr} {h:zab} {R:Option (AEx × Fr × zab)} (x y:zaa) (a b:List W64) (hx1:RdW h x a) (hy1:RdW h y b) (ha:Dg a) (hb:Dg b) (n:Nat) (hn:n < 1000000000)
    (hF:run ctx (zak h) (.loop zcd) fr (hx h [] [])=R)
    (h0:fr 0=x) (h1:fr 1=y) (h5:fr 5=.int .i64 ((n:Int) - 1)):
    ∃ e fr',R=some (e,fr',hx h [] [])∧(e=.exit 0∧(∀ j,j < n→gd a 0#64 j=gd b 0#64 j)∧(∀ t,t∉wr zcd→fr' t=fr t)∨e=.ret∧fr' 4=.int .i64 (zmE (sD (gd a 0#64) n) (sD (gd b 0#64) n))):=by
  obtain ⟨e,fr',h',rfl,⟨rfl,hor⟩,hk⟩:=zaf hF n
    (fun k fr hh=>∃ m,m+k=n∧fr 5=.int .i64 ((m:Int) - 1)∧(∀ j,m≤j→j < n→gd a 0#64 j=gd b 0#64 j)∧hh=hx h [] [])
    (fun e fr hh=>hh=hx h [] []∧(e=.exit 0∧(∀ j,j < n→gd a 0#64 j=gd b 0#64 j)∨e=.ret∧fr 4=.int .i64 (zmE (sD (gd a 0#64) n) (sD (gd b 0#64) n))))
    ⟨n, rfl, h5, fun j h1 h2 => by omega, rfl⟩ (by
      rintro k fr1 hh hkN hkeep ⟨m,hm,g5,he,rfl⟩
      have g0:=(hkeep 0 (by decide)).trans h0
      have g1:=(hkeep 1 (by decide)).trans h1
      cases m with
      | succ i=>
        rw [show (((i+1:Nat):Int) - 1)=(i:Int) by omega] at g5
        have hga:=fun L=>zqp L (hx h [] []) x a (hx1.ext [] []) i
        have hgb:=fun L=>zqp L (hx h [] []) y b (hy1.ext [] []) i
        have w1:IntKind.i64.wrap ((i:Int) - 1)=(i:Int) - 1:=wrap_i64 (by omega) (by omega)
        have hnn:¬((i:Int) < 0):=by omega
        have c1:(gd a 0#64 i).toNat < (gd b 0#64 i).toNat→zmE (sD (gd a 0#64) n) (sD (gd b 0#64) n)= -1:=fun hl=>zPo (zAL ha n i (by omega) (fun j h1 h2=>he j (by omega) h2) hl)
        have c2:(gd b 0#64 i).toNat < (gd a 0#64 i).toNat→zmE (sD (gd a 0#64) n) (sD (gd b 0#64) n)=1:=fun hl=>zPp (zAL hb n i (by omega) (fun j h1 h2=>(he j (by omega) h2).symm) hl)
        generalize zmE (sD (gd a 0#64) n) (sD (gd b 0#64) n)=r at*
        by_cases hl:(gd a 0#64 i).toNat < (gd b 0#64 i).toNat
        · simp -implicitDefEqProofs [zcd,zak,g0,g1,g5,w1,hga,hgb,zQ4,hl,c1 hl]
        · by_cases hl2:(gd b 0#64 i).toNat < (gd a 0#64 i).toNat
          · simp -implicitDefEqProofs [zcd,zak,g0,g1,g5,w1,hga,hgb,zQ4,zQ5,hl,hl2,c2 hl2]
          · simp -implicitDefEqProofs [zcd,zak,g0,g1,g5,w1,hga,hgb,zQ4,zQ5,hl,hl2]
            refine ⟨by omega,i,by omega,rfl,fun j h1 h2=>?_⟩
            by_cases e:j=i
            · subst e;exact BitVec.eq_of_toNat_eq (by omega)
            · exact he j (by omega) h2
      | zero=>
        simp [zcd,g5]
        exact fun j hj=>he j (by omega) hj)
  exact ⟨e,fr',rfl,hor.imp (fun ⟨p,q⟩=>⟨p,q,hk⟩) id⟩
theorem zC5 (L:Lim) (h:zab) (x y:zaa) (a b:List W64) (hx1:RdW h x a) (hy1:RdW h y b) (ha:Dg a) (hb:Dg b) (hl:a.length < 100000000∧b.length < 100000000):
    zag ctx L zdt [x,y] h=some (.int .i64 (zmE (vD a) (vD b)),h):=by
  rw [zrq]
  have hlo:=fun fr R=>zHI (fr:=fr) (h:=h) (R:=R) x y a b hx1 hy1 ha hb (a.length+b.length+1) (by omega)
  rw [← zjJ a _ (by omega),← zjJ b _ (by omega)] at hlo
  have hsame : (∀ j, j < a.length + b.length + 1 → gd a 0#64 j = gd b 0#64 j) → zmE (vD a) (vD b) = 0 := fun hh => by
    rw [zjJ a (a.length+b.length+1) (by omega),zjJ b (a.length+b.length+1) (by omega),ztD hh,zPq]
  have w1:IntKind.i64.wrap ((a.length:Int)+b.length)=((a.length+b.length+1:Nat):Int) - 1:=(wrap_i64 (by omega) (by omega)).trans (by omega)
  generalize zmE (vD a) (vD b)=r at*
  obtain ⟨q1,_⟩:=hx1
  obtain ⟨q2,_⟩:=hy1
  generalize ((a.length+b.length+1:Nat):Int) - 1=nn at*
  simp -implicitDefEqProofs [zjf,zak,q1,q2,w1]
  generalize hF:run ctx _ (.loop _) _ _=R
  obtain ⟨e,fr1,rfl,⟨rfl,hs,hk⟩ | ⟨rfl,h4⟩⟩:=hlo _ _ hF (by simp) (by simp) (by simp)
  · simp -implicitDefEqProofs [hsame hs]
  · simp -implicitDefEqProofs [h4]
end Go.Av
namespace Go.Av
theorem zx0 (x:W64):zaA (rep [zaa.int .u64 0] 1) [(0,1,wd x)]=some [wd x]:=rfl
theorem zki (x:zaa):chunks 1 1 [x]=[[x]]:=rfl
theorem zSS {α:Type} (l:List α) (i:Nat) (x:α) (h:i < l.length):putAt l i [x]=l.set i x:=by
  unfold putAt
  rw [List.set_eq_take_append_cons_drop,if_pos h];rfl
theorem zHO {n:Nat} (h:n < 200000000000):(decide ((0:Int)≤(n:Int))&&decide ((n:Int) < zam))=true:=by
  have:(zam:Int)=274877906944:=rfl
  rw [Bool.and_eq_true,decide_eq_true_eq,decide_eq_true_eq]
  omega
theorem zPu (L:Lim) (h:zab) (bs:List (List zaa)) (ts:List Nat) (i n c:Nat) (l:List W64) (x:W64) (cl:Bool) (hb:bs[i]?=some (cW l)) (hc:n < c) (hl:n < l.length) (hL:L.rob≤h.blks.length):
    zqX L (hx h bs ts) 1 false (sA h.blks.length i 0 1 n (some c)) (.vsl cl [[wd x]])=some (sA h.blks.length i 0 1 (n+1) (some c),hx h (bs.set i (cW (l.set n x))) ts):=by
  have:=zGs L h bs ts i 0 n c l [x] cl hb (by simp) (by simp;omega) (by simp;omega) hL
  rw [Nat.zero_add,zSS _ _ _ hl] at this
  exact this
theorem zFS (n:Nat):rep [zaa.int .u64 0] n=cW (tab n fun _=>0#64):=by rw [zjm,zaI]
def zOF (a b:Nat→W64) (k:Nat) (c:W64):W64:=a k+b k+c
def zxm (a b:Nat→W64):Nat→W64
  | 0=>0#64
  | k+1=>qtW (zOF a b k (zxm a b k)) 4294967296
def zHS (a b:Nat→W64) (k:Nat):W64:=rmW (zOF a b k (zxm a b k)) 4294967296
theorem zyO {a b:Nat→W64} (ha:∀ i,(a i).toNat < dB) (hb:∀ i,(b i).toNat < dB) (k:Nat) (c:W64) (hc:c.toNat≤1):(zOF a b k c).toNat=(a k).toNat+(b k).toNat+c.toNat:=by
  have h1:=ha k
  have h2:=hb k
  rw [show dB=4294967296 from rfl] at h1 h2
  unfold zOF
  rw [BitVec.toNat_add,BitVec.toNat_add]
  omega
theorem zC6 {a b:Nat→W64} (ha:∀ i,(a i).toNat < dB) (hb:∀ i,(b i).toNat < dB):∀ k,(zxm a b k).toNat≤1
  | 0=>by simp [zxm]
  | k + 1 => by
    have h1:=ha k
    have h2:=hb k
    have h3:=zC6 ha hb k
    rw [show dB=4294967296 from rfl] at h1 h2
    rw [zxm,zkc,zyO ha hb k _ h3]
    omega
theorem zPw (a b:Nat→W64) (k:Nat):(zHS a b k).toNat < dB:=by
  unfold zHS;rw [zi6];exact Nat.mod_lt _ (by decide)
theorem zEF {a b:Nat→W64} (ha:∀ i,(a i).toNat < dB) (hb:∀ i,(b i).toNat < dB):∀ k,sD (zHS a b) k+(zxm a b k).toNat*dB ^ k=sD a k+sD b k
  | 0=>by simp [sD,zxm]
  | k + 1 => by
    have ih:=zEF ha hb k
    have e:=zyO ha hb k _ (zC6 ha hb k)
    have hm:(zHS a b k).toNat+dB*(zxm a b (k+1)).toNat=(a k).toNat+(b k).toNat+(zxm a b k).toNat:=by
      rw [← e];unfold zHS;rw [zxm,zi6,zkc];exact Nat.mod_add_div _ _
    rw [sD,sD,sD,Nat.pow_succ,← Nat.mul_assoc,Nat.mul_right_comm]
    have:=congrArg (·*dB ^ k) hm
    simp only [Nat.add_mul] at this
    rw [Nat.mul_comm dB] at this
    omega
theorem zHY {L:Lim} {fr:Fr} {h:zab} {R:Option (AEx × Fr × zab)} (a b:List W64) (n:Nat) (hn:n < 1000000000) (hL:L.rob≤h.blks.length)
    (hF:run ctx L (.loop zce) fr (hx h [cW (za6 (n+1) (zHS (gd a 0#64) (gd b 0#64)) (fun _=>0#64) 0)] [])=R)
    (h0:fr 0=.vsl false (eW a)) (h1:fr 1=.vsl false (eW b)) (h5:fr 5=.int .i64 (n:Int)) (h6:fr 6=sA h.blks.length 0 0 1 0 (some (n+1))) (h7:fr 7=wd 0#64) (h8:fr 8=.int .i64 0):
    ∃ fr',R=some (.exit 0,fr',hx h [cW (tab (n+1) (zHS (gd a 0#64) (gd b 0#64)))] [])∧fr' 6=sA h.blks.length 0 0 1 (n+1) (some (n+1))∧∀ t,t∉wr zce→fr' t=fr t:=by
  generalize hfd:zHS (gd a 0#64) (gd b 0#64)=f at*
  obtain ⟨e,fr',h',rfl,⟨rfl,rfl,h6'⟩,hk⟩:=zaf hF (n+1)
    (fun k fr hh=>fr 8=.int .i64 (k:Int)∧fr 6=sA h.blks.length 0 0 1 k (some (n+1))∧fr 7=wd (zxm (gd a 0#64) (gd b 0#64) k)∧hh=hx h [cW (za6 (n+1) f (fun _=>0#64) k)] [])
    (fun e fr hh=>e=.exit 0∧hh=hx h [cW (tab (n+1) f)] []∧fr 6=sA h.blks.length 0 0 1 (n+1) (some (n+1)))
    ⟨h8,h6,h7,rfl⟩ (by
      rintro k fr1 hh hkN hkeep ⟨g8,g6,g7,rfl⟩
      have g0:=(hkeep 0 (by decide)).trans h0
      have g1:=(hkeep 1 (by decide)).trans h1
      have g5:=(hkeep 5 (by decide)).trans h5
      by_cases hlt:k < n+1
      · have w1 : IntKind.i64.wrap ((k : Int) + 1) = k + 1 := wrap_i64 (by omega) (by omega)
        have hga:=fun L h=>zqp L h (.vsl false (eW a)) a (RdW.vsl h false a) k
        have hgb:=fun L h=>zqp L h (.vsl false (eW b)) b (RdW.vsl h false b) k
        have hap:=fun cl=>zPu L h [cW (za6 (n+1) f (fun _=>0#64) k)] [] 0 k (n+1) (za6 (n+1) f (fun _=>0#64) k) (f k) cl rfl hlt (by simpa using hlt) hL
        rw [zdn] at hap
        simp only [List.set_cons_zero] at hap
        have hS:wd (gd a 0#64 k+gd b 0#64 k+zxm (gd a 0#64) (gd b 0#64) k)=wd (zOF (gd a 0#64) (gd b 0#64) k (zxm (gd a 0#64) (gd b 0#64) k)):=rfl
        have hD:rmW (zOF (gd a 0#64) (gd b 0#64) k (zxm (gd a 0#64) (gd b 0#64) k)) 4294967296=f k:=by rw [← hfd];rfl
        have hC:qtW (zOF (gd a 0#64) (gd b 0#64) k (zxm (gd a 0#64) (gd b 0#64) k)) 4294967296=zxm (gd a 0#64) (gd b 0#64) (k+1):=rfl
        generalize hc2:zxm (gd a 0#64) (gd b 0#64) (k+1)=c2 at*
        generalize zOF (gd a 0#64) (gd b 0#64) k (zxm (gd a 0#64) (gd b 0#64) k)=s at*
        generalize zxm (gd a 0#64) (gd b 0#64) k=c1 at*
        generalize hm2:za6 (n+1) f (fun _=>0#64) (k+1)=m2 at*
        generalize za6 (n+1) f (fun _=>0#64) k=m1 at*
        have hle:(k:Int)≤n:=by omega
        simp -implicitDefEqProofs [zce,g0,g1,g5,g6,g7,g8,hle,w1,hga,hgb,hS,ztI,ztJ,hD,hC,zx0,zki,hap]
        exact ⟨hlt,by rw [hc2],by rw [hm2]⟩
      · have : k = n + 1 := by omega
        subst this
        have hgt:¬((n+1:Nat):Int)≤n:=by omega
        rw [zft]
        generalize tab (n+1) f=m1 at*
        generalize ((n+1:Nat):Int)=nn at*
        simp [zce,g8,g5,g6,hgt])
  exact ⟨fr',rfl,h6',hk⟩
theorem zHZ (L:Lim) (h:zab) (x y:zaa) (a b:List W64) (hx1:LV x a) (hy1:LV y b) (ha:Dg a) (hb:Dg b) (hl:a.length < 100000000∧b.length < 100000000):
    zag ctx L zeR [x,y] h=some (.vsl false (eW (dg (vD a+vD b))),h):=by
  rw [zrt]
  obtain ⟨n,hn,hna,hnb⟩:∃ n,(n=a.length∨n=b.length)∧a.length≤n∧b.length≤n:=⟨max a.length b.length,by omega,Nat.le_max_left _ _,Nat.le_max_right _ _⟩
  have hlo:=fun fr R=>zHY (L:=zak h) (fr:=fr) (h:=h) (R:=R) a b n (by omega) (Nat.le_refl _)
  have hv:vD (tab (n+1) (zHS (gd a 0#64) (gd b 0#64)))=vD a+vD b:=by
    have e:=zEF ha hb (n+1)
    have ec:=zC6 ha hb n
    have e0:(zxm (gd a 0#64) (gd b 0#64) (n+1)).toNat=0:=by
      rw [zxm,zkc,zyO ha hb n _ ec,zty (l:=a) (i:=n) hna,zty (l:=b) (i:=n) hnb]
      simp;omega
    rw [e0,Nat.zero_mul,Nat.add_zero] at e
    rw [ztF,e,zjJ a (n+1) (by omega),zjJ b (n+1) (by omega)]
  obtain ⟨r,hT,hfz⟩:=zsN (zak h) h [cW (tab (n+1) (zHS (gd a 0#64) (gd b 0#64)))] [] 0 (n+1) (n+1) _ _ rfl (by rw [List.take_of_length_le (by simp)]) (by simp) (Dg.tab fun i _=>zPw _ _ i) (by omega) (Nat.le_refl _)
  rw [hv] at hfz
  have hfz0:=hfz []
  rw [List.append_nil] at hfz0
  rw [zcc] at hlo
  have hmk:=zwg h [] [] 1 [zaa.int .u64 0] .i64 .i64 ((n+1:Nat):Int) (zHO (by omega))
  rw [Int.toNat_natCast,zFS] at hmk
  have w1:IntKind.i64.wrap ((n:Int)+1)=((n+1:Nat):Int):=wrap_i64 (by omega) (by omega)
  have hz:(zaa.int .u64 0)=wd 0#64:=rfl
  have hf1:=hx1.fz
  have hf2:=hy1.fz
  generalize ((n+1:Nat):Int)=nn at*
  generalize hm0:tab (n+1) (fun _=>0#64)=m0 at*
  generalize tab (n+1) (zHS (gd a 0#64) (gd b 0#64))=m1 at*
  generalize hr:eW (dg (vD a+vD b))=rr at*
  by_cases hc:a.length < b.length
  · have hi : (a.length : Int) < b.length := by omega
    have hbn:b.length=n:=by omega
    simp -implicitDefEqProofs [zgL,hf1,hf2,hi]
    rw [hbn]
    simp -implicitDefEqProofs [w1,hmk]
    generalize hF:run ctx _ (.loop _) _ _=R
    obtain ⟨fr1,rfl,h6,hk1⟩:=hlo _ _ hF (by simp) (by simp) (by simp) (by simp) (by simp [hz]) (by simp)
    simp -implicitDefEqProofs [hk1,wr,zce,zbM,h6,hT,hfz0]
  · have hi : ¬ (a.length : Int) < b.length := by omega
    have han:a.length=n:=by omega
    simp -implicitDefEqProofs [zgL,hf1,hf2,hi]
    rw [han]
    simp -implicitDefEqProofs [w1,hmk]
    generalize hF:run ctx _ (.loop _) _ _=R
    obtain ⟨fr1,rfl,h6,hk1⟩:=hlo _ _ hF (by simp) (by simp) (by simp) (by simp) (by simp [hz]) (by simp)
    simp -implicitDefEqProofs [hk1,wr,zce,zbM,h6,hT,hfz0]
end Go.Av
namespace Go.Av
theorem zSV (x:W64):zdj .add (.int .u64 4294967296) (wd x)=some (wd (4294967296#64+x)):=zHX 4294967296#64 x
theorem one_sub (x:W64):zdj .sub (.int .u64 1) (wd x)=some (wd (1#64 - x)):=zEG 1#64 x
def zEJ (a b:Nat→W64) (k:Nat) (c:W64):W64:=4294967296#64+a k - b k - c
def zrz (a b:Nat→W64):Nat→W64
  | 0=>0#64
  | k+1=>1#64 - qtW (zEJ a b k (zrz a b k)) 4294967296
def zx1 (a b:Nat→W64) (k:Nat):W64:=rmW (zEJ a b k (zrz a b k)) 4294967296
theorem zLS {a b:Nat→W64} (ha:∀ i,(a i).toNat < dB) (hb:∀ i,(b i).toNat < dB) (k:Nat) (c:W64) (hc:c.toNat≤1):(zEJ a b k c).toNat=4294967296+(a k).toNat - (b k).toNat - c.toNat:=by
  have h1:=ha k
  have h2:=hb k
  rw [show dB=4294967296 from rfl] at h1 h2
  unfold zEJ
  rw [BitVec.toNat_sub,BitVec.toNat_sub,BitVec.toNat_add]
  simp only [BitVec.toNat_ofNat]
  omega
theorem zAQ {a b:Nat→W64} (ha:∀ i,(a i).toNat < dB) (hb:∀ i,(b i).toNat < dB) (k:Nat) (h0:(zrz a b k).toNat≤1):(zx1 a b k).toNat+(b k).toNat+(zrz a b k).toNat=(a k).toNat+dB*(zrz a b (k+1)).toNat∧(zrz a b (k+1)).toNat≤1:=by
  have h1:=ha k
  have h2:=hb k
  have e:=zLS ha hb k _ h0
  rw [show dB=4294967296 from rfl] at*
  have h3:(zrz a b (k+1)).toNat=1 - (zEJ a b k (zrz a b k)).toNat / 4294967296:=by
    rw [zrz,BitVec.toNat_sub,zkc,e]
    simp only [BitVec.toNat_ofNat]
    omega
  have h4:(zx1 a b k).toNat=(zEJ a b k (zrz a b k)).toNat % 4294967296:=by unfold zx1;rw [zi6]
  rw [h3,h4,e]
  omega
theorem zyQ {a b:Nat→W64} (ha:∀ i,(a i).toNat < dB) (hb:∀ i,(b i).toNat < dB):∀ k,(zrz a b k).toNat≤1
  | 0=>by simp [zrz]
  | k+1=>(zAQ ha hb k (zyQ ha hb k)).2
theorem zyR (a b:Nat→W64) (k:Nat):(zx1 a b k).toNat < dB:=by
  unfold zx1;rw [zi6];exact Nat.mod_lt _ (by decide)
theorem zyT {a b:Nat→W64} (ha:∀ i,(a i).toNat < dB) (hb:∀ i,(b i).toNat < dB):∀ k,sD (zx1 a b) k+sD b k=sD a k+(zrz a b k).toNat*dB ^ k
  | 0=>by simp [sD,zrz]
  | k + 1 => by
    have ih:=zyT ha hb k
    have hm:=(zAQ ha hb k (zyQ ha hb k)).1
    rw [sD,sD,sD,Nat.pow_succ,← Nat.mul_assoc,Nat.mul_right_comm]
    have:=congrArg (·*dB ^ k) hm
    simp only [Nat.add_mul] at this
    rw [Nat.mul_comm dB] at this
    omega
theorem zH9 {L:Lim} {fr:Fr} {h:zab} {R:Option (AEx × Fr × zab)} (a b:List W64) (n:Nat) (han:a.length=n) (hn:n < 1000000000) (hL:L.rob≤h.blks.length)
    (hF:run ctx L (.loop zc6) fr (hx h [cW (za6 n (zx1 (gd a 0#64) (gd b 0#64)) (fun _=>0#64) 0)] [])=R)
    (h0:fr 0=.vsl false (eW a)) (h1:fr 1=.vsl false (eW b)) (h5:fr 5=sA h.blks.length 0 0 1 0 (some n)) (h6:fr 6=wd 0#64) (h7:fr 7=.int .i64 0):
    ∃ fr',R=some (.exit 0,fr',hx h [cW (tab n (zx1 (gd a 0#64) (gd b 0#64)))] [])∧fr' 5=sA h.blks.length 0 0 1 n (some n)∧∀ t,t∉wr zc6→fr' t=fr t:=by
  generalize hfd:zx1 (gd a 0#64) (gd b 0#64)=f at*
  obtain ⟨e,fr',h',rfl,⟨rfl,rfl,h5'⟩,hk⟩:=zaf hF n
    (fun k fr hh=>fr 7=.int .i64 (k:Int)∧fr 5=sA h.blks.length 0 0 1 k (some n)∧fr 6=wd (zrz (gd a 0#64) (gd b 0#64) k)∧hh=hx h [cW (za6 n f (fun _=>0#64) k)] [])
    (fun e fr hh=>e=.exit 0∧hh=hx h [cW (tab n f)] []∧fr 5=sA h.blks.length 0 0 1 n (some n))
    ⟨h7,h5,h6,rfl⟩ (by
      rintro k fr1 hh hkN hkeep ⟨g7,g5,g6,rfl⟩
      have g0:=(hkeep 0 (by decide)).trans h0
      have g1:=(hkeep 1 (by decide)).trans h1
      by_cases hlt:k < n
      · have w1 : IntKind.i64.wrap ((k : Int) + 1) = k + 1 := wrap_i64 (by omega) (by omega)
        obtain ⟨r1,p,r2,r3⟩:=RdW.vsl h false a
        have hro:=r2 k (by omega)
        have hrd:=fun bs ts=>r3 k bs ts (by omega)
        have hgb:=fun L h=>zqp L h (.vsl false (eW b)) b (RdW.vsl h false b) k
        have hap:=fun cl=>zPu L h [cW (za6 n f (fun _=>0#64) k)] [] 0 k n (za6 n f (fun _=>0#64) k) (f k) cl rfl hlt (by simpa using hlt) hL
        rw [zdn] at hap
        simp only [List.set_cons_zero] at hap
        have hS:wd (4294967296#64+gd a 0#64 k - gd b 0#64 k - zrz (gd a 0#64) (gd b 0#64) k)=wd (zEJ (gd a 0#64) (gd b 0#64) k (zrz (gd a 0#64) (gd b 0#64) k)):=rfl
        have hD:rmW (zEJ (gd a 0#64) (gd b 0#64) k (zrz (gd a 0#64) (gd b 0#64) k)) 4294967296=f k:=by rw [← hfd];rfl
        have hC:1#64 - qtW (zEJ (gd a 0#64) (gd b 0#64) k (zrz (gd a 0#64) (gd b 0#64) k)) 4294967296=zrz (gd a 0#64) (gd b 0#64) (k+1):=rfl
        generalize hc2:zrz (gd a 0#64) (gd b 0#64) (k+1)=c2 at*
        generalize zEJ (gd a 0#64) (gd b 0#64) k (zrz (gd a 0#64) (gd b 0#64) k)=s at*
        generalize zrz (gd a 0#64) (gd b 0#64) k=c1 at*
        generalize hm2:za6 n f (fun _=>0#64) (k+1)=m2 at*
        generalize za6 n f (fun _=>0#64) k=m1 at*
        have hle:(k:Int) < a.length:=by omega
        simp -implicitDefEqProofs [zc6,g0,g1,g5,g6,g7,hle,w1,hro,hrd,hgb,zSV,one_sub,hS,ztI,ztJ,hD,hC,zx0,zki,hap]
        exact ⟨hlt,by rw [hc2],by rw [hm2]⟩
      · have : k = n := by omega
        subst this
        have hgt:¬(k:Int) < a.length:=by omega
        rw [zft]
        generalize tab k f=m1 at*
        simp [zc6,g7,g5,g0,hgt])
  exact ⟨fr',rfl,h5',hk⟩
theorem zC9 (L:Lim) (h:zab) (x y:zaa) (a b:List W64) (hx1:LV x a) (hy1:LV y b) (ha:Dg a) (hb:Dg b) (hl:a.length < 100000000) (hba:b.length≤a.length) (hv:vD b≤vD a):
    zag ctx L zdu [x,y] h=some (.vsl false (eW (dg (vD a - vD b))),h):=by
  rw [zrv]
  obtain ⟨n,hn⟩:∃ n,a.length=n:=⟨_,rfl⟩
  have hlo:=fun fr R=>zH9 (L:=zak h) (fr:=fr) (h:=h) (R:=R) a b n hn (by omega) (Nat.le_refl _)
  have hvd:vD (tab n (zx1 (gd a 0#64) (gd b 0#64)))=vD a - vD b:=by
    have e:=zyT ha hb n
    have e1:=zGX (f:=zx1 (gd a 0#64) (gd b 0#64)) (n:=n) fun i _=>zyR _ _ i
    have e0:=zyQ ha hb n
    rw [← zjJ a n (by omega),← zjJ b n (by omega)] at e
    rw [ztF]
    rcases Nat.le_one_iff_eq_zero_or_eq_one.1 e0 with e2 | e2
    · rw [e2] at e;omega
    · rw [e2] at e;omega
  obtain ⟨r,hT,hfz⟩:=zsN (zak h) h [cW (tab n (zx1 (gd a 0#64) (gd b 0#64)))] [] 0 n n _ _ rfl (by rw [List.take_of_length_le (by simp)]) (by simp) (Dg.tab fun i _=>zyR _ _ i) (by omega) (Nat.le_refl _)
  rw [hvd] at hfz
  have hfz0:=hfz []
  rw [List.append_nil] at hfz0
  rw [zcc] at hlo
  have hmk:=zwg h [] [] 1 [zaa.int .u64 0] .i64 .i64 (n:Int) (zHO (by omega))
  rw [Int.toNat_natCast,zFS] at hmk
  have hz:(zaa.int .u64 0)=wd 0#64:=rfl
  have hf1:=hx1.fz
  have hf2:=hy1.fz
  generalize hm0:tab n (fun _=>0#64)=m0 at*
  generalize tab n (zx1 (gd a 0#64) (gd b 0#64))=m1 at*
  generalize hr:eW (dg (vD a - vD b))=rr at*
  simp -implicitDefEqProofs [zjj,hf1,hf2,hn,hmk]
  generalize hF:run ctx _ (.loop _) _ _=R
  obtain ⟨fr1,rfl,h5,hk1⟩:=hlo _ _ hF (by simp) (by simp) (by simp) (by simp [hz]) (by simp)
  simp -implicitDefEqProofs [hk1,wr,zc6,zbM,h5,hT,hfz0]
theorem zEK (x:W64):∀ (l:List W64) (k:Nat),k < l.length→vD (l.set k x)+(gd l 0#64 k).toNat*dB ^ k=vD l+x.toNat*dB ^ k
  | [],k,h=>by simp at h
  | y :: l,0,_=>by rw [List.set_cons_zero,vD,vD,zvA];simp;omega
  | y :: l, k + 1, h => by
    have ih:=zEK x l k (by simpa using h)
    rw [List.set_cons_succ,vD,vD,ztz,Nat.pow_succ]
    have:=congrArg (dB*·) ih
    simp only [Nat.mul_add] at this
    have e1:∀ z:Nat,z*(dB ^ k*dB)=dB*(z*dB ^ k):=fun z=>by rw [← Nat.mul_assoc,Nat.mul_comm]
    rw [e1,e1]
    omega
theorem Dg.set {l : List W64} (h : Dg l) {k : Nat} {x : W64} (hk : k < l.length) (hx : x.toNat < dB) : Dg (l.set k x) := fun i => by
  rw [zlA _ _ _ _ _ hk]
  split
  · exact hx
  · exact h i
def mlS (o x y c:W64):W64:=o+x*y+c
theorem zPE {o x y c:W64} (ho:o.toNat < dB) (hx:x.toNat < dB) (hy:y.toNat < dB) (hc:c.toNat < dB):(mlS o x y c).toNat=o.toNat+x.toNat*y.toNat+c.toNat∧(mlS o x y c).toNat < dB*dB:=by
  have h1:x.toNat*y.toNat≤4294967295*4294967295:=Nat.mul_le_mul (by rw [show dB=4294967296 from rfl] at hx;omega) (by rw [show dB=4294967296 from rfl] at hy;omega)
  rw [show dB=4294967296 from rfl] at*
  unfold mlS
  rw [BitVec.toNat_add,BitVec.toNat_add,BitVec.toNat_mul]
  generalize x.toNat*y.toNat=z at*
  omega
theorem zFW {L:Lim} {fr:Fr} {h:zab} {R:Option (AEx × Fr × zab)} (a b:List W64) (ha:Dg a) (hb:Dg b) (i N:Nat) (hi:i < a.length) (hN:N=a.length+b.length+1) (hn:N < 1000000000) (o0:List W64) (ho0:o0.length=N) (hd0:Dg o0) (hL:L.rob≤h.blks.length)
    (hF:run ctx L (.loop zcf) fr (hx h [cW o0] [])=R)
    (h0:fr 0=.vsl false (eW a)) (h1:fr 1=.vsl false (eW b)) (h5:fr 5=sA h.blks.length 0 0 1 N (some N)) (h6:fr 6=.int .i64 (i:Int)) (h7:fr 7=wd 0#64) (h8:fr 8=.int .i64 0):
    ∃ fr' o c,R=some (.exit 2,fr',hx h [cW o] [])∧fr' 7=wd c∧o.length=N∧Dg o∧c.toNat < dB∧vD o+c.toNat*dB ^ (i+b.length)=vD o0+(gd a 0#64 i).toNat*dB ^ i*vD b∧(∀ t,i+b.length≤t→gd o 0#64 t=gd o0 0#64 t)∧∀ t,t∉wr zcf→fr' t=fr t:=by
  rw [zjJ b _ (Nat.le_refl _)]
  obtain ⟨e,fr',h',rfl,⟨rfl,o,c,rfl,p1,p2,p3,p4,p5,p6⟩,hk⟩:=zaf hF b.length
    (fun k fr hh=>fr 8=.int .i64 (k:Int)∧∃ o c,hh=hx h [cW o] []∧fr 7=wd c∧o.length=N∧Dg o∧c.toNat < dB∧vD o+c.toNat*dB ^ (i+k)=vD o0+(gd a 0#64 i).toNat*dB ^ i*sD (gd b 0#64) k∧(∀ t,i+k≤t→gd o 0#64 t=gd o0 0#64 t))
    (fun e fr hh=>e=.exit 2∧∃ o c,hh=hx h [cW o] []∧fr 7=wd c∧o.length=N∧Dg o∧c.toNat < dB∧vD o+c.toNat*dB ^ (i+b.length)=vD o0+(gd a 0#64 i).toNat*dB ^ i*sD (gd b 0#64) b.length∧(∀ t,i+b.length≤t→gd o 0#64 t=gd o0 0#64 t))
    ⟨h8, o0, 0#64, rfl, h7, ho0, hd0, by decide, by simp [sD], fun t _ => rfl⟩ (by
      rintro k fr1 hh hkN hkeep ⟨g8,o,c,rfl,g7,q1,q2,q3,q4,q5⟩
      have g0:=(hkeep 0 (by decide)).trans h0
      have g1:=(hkeep 1 (by decide)).trans h1
      have g5:=(hkeep 5 (by decide)).trans h5
      have g6:=(hkeep 6 (by decide)).trans h6
      by_cases hlt:k < b.length
      · have w1 : IntKind.i64.wrap ((k : Int) + 1) = k + 1 := wrap_i64 (by omega) (by omega)
        have w2:IntKind.i64.wrap ((i:Int)+k)=((i+k:Nat):Int):=wrap_i64 (by omega) (by omega)
        obtain ⟨r1,p,r2,r3⟩:=RdW.vsl h false a
        have hro:=r2 i (by omega)
        have hrd:=fun bs ts=>r3 i bs ts (by omega)
        obtain ⟨r1',p',r2',r3'⟩:=RdW.vsl h false b
        have hro':=r2' k (by omega)
        have hrd':=fun bs ts=>r3' k bs ts (by omega)
        have hio:=zpq h.blks.length 0 0 N (i+k) (some N) (by simp;omega)
        rw [Nat.zero_add] at hio
        have hat:=zsG (l:=o) (i:=i+k) (by omega)
        have hss:=zuT o (i+k) (rmW (mlS (gd o 0#64 (i+k)) (gd a 0#64 i) (gd b 0#64 k) c) 4294967296)
        have hlen:(cW o).length=N:=by simp [q1]
        have hikN:i+k+1≤N:=by omega
        have hmn:=zPE (q2 (i+k)) (ha i) (hb k) q3
        have hS:wd (gd o 0#64 (i+k)+gd a 0#64 i*gd b 0#64 k+c)=wd (mlS (gd o 0#64 (i+k)) (gd a 0#64 i) (gd b 0#64 k) c):=rfl
        have hfin:∃ o' c',(hx h [cW (o.set (i+k) (rmW (mlS (gd o 0#64 (i+k)) (gd a 0#64 i) (gd b 0#64 k) c) 4294967296))] []=hx h [cW o'] []∧wd (qtW (mlS (gd o 0#64 (i+k)) (gd a 0#64 i) (gd b 0#64 k) c) 4294967296)=wd c'∧o'.length=N∧Dg o'∧c'.toNat < dB∧vD o' + c'.toNat*dB ^ (i+(k+1))=vD o0+(gd a 0#64 i).toNat*dB ^ i*sD (gd b 0#64) (k+1)∧(∀ t,i+(k+1)≤t→gd o' 0#64 t=gd o0 0#64 t)):=by
          refine ⟨_,_,rfl,rfl,by simp [q1],q2.set (by omega) ?_,?_,?_,fun t ht=>?_⟩
          · rw [zi6];exact Nat.mod_lt _ (by decide)
          · rw [zkc];exact Nat.div_lt_of_lt_mul hmn.2
          · have e1 := zEK (rmW (mlS (gd o 0#64 (i + k)) (gd a 0#64 i) (gd b 0#64 k) c) 4294967296) o (i + k) (by omega)
            have e2:=Nat.mod_add_div (mlS (gd o 0#64 (i+k)) (gd a 0#64 i) (gd b 0#64 k) c).toNat 4294967296
            rw [zi6] at e1
            rw [zkc]
            rw [hmn.1] at*
            have e3:=congrArg (·*dB ^ (i+k)) e2
            simp only [Nat.add_mul] at e3
            have e4:dB ^ (i+(k+1))=4294967296*dB ^ (i+k):=by rw [← Nat.add_assoc,Nat.pow_succ,Nat.mul_comm];rfl
            have e5:(gd a 0#64 i).toNat*dB ^ i*((gd b 0#64 k).toNat*dB ^ k)=(gd a 0#64 i).toNat*(gd b 0#64 k).toNat*dB ^ (i+k):=by
              rw [Nat.pow_add];ac_rfl
            have e6:∀ z:Nat,z*(4294967296*dB ^ (i+k))=4294967296*z*dB ^ (i+k):=fun z=>by rw [← Nat.mul_assoc,Nat.mul_comm z]
            rw [sD,Nat.mul_add,e5,e4,e6]
            omega
          · rw [zlA _ _ _ _ _ (by omega),if_neg (by omega)];exact q5 t (by omega)
        generalize mlS (gd o 0#64 (i+k)) (gd a 0#64 i) (gd b 0#64 k) c=s at*
        generalize cW (o.set (i+k) (rmW s 4294967296))=cs2 at*
        generalize cW o=cs1 at*
        generalize ((i+k:Nat):Int)=ik at*
        have hle:(k:Int) < b.length:=by omega
        simp -implicitDefEqProofs [zcf,g0,g1,g5,g6,g7,g8,hle,w1,w2,hro,hrd,hro',hrd',hio,hat,hS,ztI,ztJ,zat,zah,hL,hikN,hlen,hss]
        obtain ⟨o',c',f1,f2,f3⟩:=hfin
        exact ⟨hlt,o',f1,c',f2,f3⟩
      · have : k = b.length := by omega
        subst this
        have hgt:¬(b.length:Int) < b.length:=by omega
        simp [zcf,g8,g1,g7]
        exact ⟨o,rfl,c,rfl,q1,q2,q3,q4,q5⟩)
  exact ⟨fr',o,c,rfl,p1,p2,p3,p4,p5,p6,hk⟩
theorem zIc {L:Lim} {fr:Fr} {h:zab} {R:Option (AEx × Fr × zab)} (a b:List W64) (ha:Dg a) (hb:Dg b) (N:Nat) (hN:N=a.length+b.length+1) (hn:N < 1000000000) (hL:L.rob≤h.blks.length)
    (hF:run ctx L (.loop zc5) fr (hx h [cW (tab N fun _=>0#64)] [])=R)
    (h0:fr 0=.vsl false (eW a)) (h1:fr 1=.vsl false (eW b)) (h5:fr 5=sA h.blks.length 0 0 1 N (some N)) (h6:fr 6=.int .i64 0):
    ∃ fr' o,R=some (.exit 0,fr',hx h [cW o] [])∧o.length=N∧Dg o∧vD o=vD a*vD b∧∀ t,t∉wr zc5→fr' t=fr t:=by
  obtain ⟨e,fr',h',rfl,⟨rfl,o,rfl,p1,p2,p3⟩,hk⟩:=zaf hF a.length
    (fun k fr hh=>fr 6=.int .i64 (k:Int)∧∃ o,hh=hx h [cW o] []∧o.length=N∧Dg o∧vD o=sD (gd a 0#64) k*vD b∧(∀ t,k+b.length≤t→gd o 0#64 t=0#64))
    (fun e fr hh=>e=.exit 0∧∃ o,hh=hx h [cW o] []∧o.length=N∧Dg o∧vD o=vD a*vD b)
    ⟨h6, _, rfl, by simp, Dg.tab (fun _ _ => by decide), by
      rw [ztF,sD,Nat.zero_mul]
      have : ∀ n, sD (fun _ => 0#64) n = 0 := fun n => by induction n with
        | zero=>rfl
        | succ n ih=>rw [sD,ih];simp
      exact this N,fun t _=>by
      by_cases ht:t < N
      · rw [zbz ht]
      · rw [zty (by simp;omega)]⟩ (by
      rintro k fr1 hh hkN hkeep ⟨g6,o,rfl,q1,q2,q3,q4⟩
      have g0:=(hkeep 0 (by decide)).trans h0
      have g1:=(hkeep 1 (by decide)).trans h1
      have g5:=(hkeep 5 (by decide)).trans h5
      by_cases hlt:k < a.length
      · have w1 : IntKind.i64.wrap ((k : Int) + 1) = k + 1 := wrap_i64 (by omega) (by omega)
        have w2:IntKind.i64.wrap ((k:Int)+b.length)=((k+b.length:Nat):Int):=wrap_i64 (by omega) (by omega)
        have hlo:=fun fr R=>zFW (L:=L) (fr:=fr) (h:=h) (R:=R) a b ha hb k N hlt hN hn o q1 q2 hL
        have hle:(k:Int) < a.length:=by omega
        have hz:zaa.int .u64 0=wd 0#64:=rfl
        simp -implicitDefEqProofs [zc5,g0,g1,g5,g6,hle]
        generalize hF:run ctx _ (.loop _) _ _=R
        obtain ⟨fr2,o2,c,rfl,f7,f1,f2,f3,f4,f5,hk2⟩:=hlo _ _ hF (by simp [g0]) (by simp [g1]) (by simp [g5]) (by simp [g6]) (by simp [hz]) (by simp)
        have hio:=zpq h.blks.length 0 0 N (k+b.length) (some N) (by simp;omega)
        rw [Nat.zero_add] at hio
        have hss:=zuT o2 (k+b.length) c
        have hlen:(cW o2).length=N:=by simp [f1]
        have hikN:k+b.length+1≤N:=by omega
        have hfin:∃ o',(hx h [cW (o2.set (k+b.length) c)] []=hx h [cW o'] []∧o'.length=N∧Dg o'∧vD o'=sD (gd a 0#64) (k+1)*vD b∧(∀ t,k+1+b.length≤t→gd o' 0#64 t=0#64)):=by
          refine ⟨_,rfl,by simp [f1],f2.set (by omega) f3,?_,fun t ht=>?_⟩
          · have e1 := zEK c o2 (k + b.length) (by omega)
            rw [f5 _ (Nat.le_refl _),q4 _ (Nat.le_refl _),f4,q3] at e1
            rw [sD,Nat.add_mul]
            simpa using e1
          · rw [zlA _ _ _ _ _ (by omega),if_neg (by omega),f5 t (by omega)];exact q4 t (by omega)
        generalize cW (o2.set (k+b.length) c)=cs2 at*
        generalize cW o2=cs1 at*
        generalize ((k+b.length:Nat):Int)=ik at*
        simp -implicitDefEqProofs [hk2,wr,zcf,zbM,g0,g1,g5,g6,f7,w1,w2,hio,zat,zah,hL,hikN,hlen,hss]
        exact ⟨hlt,hfin⟩
      · have : k = a.length := by omega
        subst this
        have hgt:¬(a.length:Int) < a.length:=by omega
        simp [zc5,g6,g0]
        exact ⟨o,rfl,q1,q2,by rw [q3,← zjJ a _ (Nat.le_refl _)]⟩)
  exact ⟨fr',o,rfl,p1,p2,p3,hk⟩
theorem zId (L:Lim) (h:zab) (x y:zaa) (a b:List W64) (hx1:LV x a) (hy1:LV y b) (ha:Dg a) (hb:Dg b) (hl:a.length < 100000000∧b.length < 100000000):
    zag ctx L zeS [x,y] h=some (.vsl false (eW (dg (vD a*vD b))),h):=by
  rw [zru]
  obtain ⟨N,hN⟩:∃ N,N=a.length+b.length+1:=⟨_,rfl⟩
  have hlo:=fun fr R=>zIc (L:=zak h) (fr:=fr) (h:=h) (R:=R) a b ha hb N hN (by omega) (Nat.le_refl _)
  have hT:=fun (o:List W64) (h1:o.length=N) (h2:Dg o)=>zsN (zak h) h [cW o] [] 0 N N o o rfl (by rw [List.take_of_length_le (by omega)]) h1 h2 (by omega) (Nat.le_refl _)
  have hmk:=zj7 h [] [] 1 [zaa.int .u64 0] .i64 (N:Int) (zHO (by omega))
  rw [Int.toNat_natCast,zFS] at hmk
  have w1:IntKind.i64.wrap ((a.length:Int)+b.length)=((a.length+b.length:Nat):Int):=wrap_i64 (by omega) (by omega)
  have w2:IntKind.i64.wrap (((a.length+b.length:Nat):Int)+1)=(N:Int):=(wrap_i64 (by omega) (by omega)).trans (by omega)
  have hf1:=hx1.fz
  have hf2:=hy1.fz
  generalize hm0:tab N (fun _=>0#64)=m0 at*
  generalize hr:eW (dg (vD a*vD b))=rr at*
  generalize ((a.length+b.length:Nat):Int)=ab at*
  simp -implicitDefEqProofs [zji,hf1,hf2,w1,w2,hmk]
  generalize hF:run ctx _ (.loop _) _ _=R
  obtain ⟨fr1,o,rfl,p1,p2,p3,hk1⟩:=hlo _ _ hF (by simp) (by simp) (by simp) (by simp)
  obtain ⟨r,hT1,hfz⟩:=hT o p1 p2
  have hfz0:=hfz []
  rw [List.append_nil,p3,hr] at hfz0
  simp -implicitDefEqProofs [hk1,wr,zc5,zcf,zbM,hT1,hfz0]
end Go.Av
namespace Go.Av
theorem zPH (x:W64):zdj .mul (wd x) (.int .u64 2)=some (wd (x*2#64)):=zH1 x 2#64
def pw2 (k:Nat):W64:=BitVec.ofNat 64 (2 ^ k)
theorem zL1 (k:Nat):pw2 k*2#64=pw2 (k+1):=by
  unfold pw2
  rw [Nat.pow_succ]
  refine BitVec.eq_of_toNat_eq ?_
  rw [BitVec.toNat_mul,BitVec.toNat_ofNat,BitVec.toNat_ofNat,BitVec.toNat_ofNat,← Nat.mul_mod]
theorem zPx {k:Nat} (h:k < 32):(pw2 k).toNat=2 ^ k:=by
  unfold pw2
  rw [BitVec.toNat_ofNat,Nat.mod_eq_of_lt (Nat.pow_lt_pow_right (by decide) (by omega))]
theorem zFX {L:Lim} {fr:Fr} {h:zab} {R:Option (AEx × Fr × zab)} (n:Nat) (hn:n < 32)
    (hF:run ctx L (.loop zcq) fr h=R) (h1:fr 1=.int .i64 (n:Int)) (h5:fr 5=wd (pw2 0)) (h6:fr 6=.int .i64 0):
    ∃ fr',R=some (.exit 0,fr',h)∧fr' 5=wd (pw2 n)∧∀ t,t∉wr zcq→fr' t=fr t:=by
  obtain ⟨e,fr',h',rfl,⟨rfl,rfl,h5'⟩,hk⟩:=zaf hF n
    (fun k fr hh=>fr 6=.int .i64 (k:Int)∧fr 5=wd (pw2 k)∧hh=h)
    (fun e fr hh=>e=.exit 0∧hh=h∧fr 5=wd (pw2 n))
    ⟨h6,h5,rfl⟩ (by
      rintro k fr1 hh hkN hkeep ⟨g6,g5,rfl⟩
      have g1:=(hkeep 1 (by decide)).trans h1
      by_cases hlt:k < n
      · have w1 : IntKind.i64.wrap ((k : Int) + 1) = k + 1 := wrap_i64 (by omega) (by omega)
        have hle:(k:Int) < n:=by omega
        have hp:=zL1 k
        generalize pw2 k=pk at*
        generalize hp2:pw2 (k+1)=pk2 at*
        simp -implicitDefEqProofs [zcq,g1,g5,g6,hle,w1,zPH,hp]
        exact ⟨hlt,by rw [hp2]⟩
      · have : k = n := by omega
        subst this
        simp [zcq,g6,g1,g5])
  exact ⟨fr',rfl,h5',hk⟩
theorem zIj (L:Lim) (h:zab) (x:zaa) (a:List W64) (hx1:LV x a) (ha:Dg a) (n:Nat) (hn:n < 32) (hl:a.length < 10000000):
    zag ctx L zfe [x,.int .i64 (n:Int)] h=some (.vsl false (eW (dg (vD a*2 ^ n))),h):=by
  rw [zph]
  have hlo:=fun L fr R=>zFX (L:=L) (fr:=fr) (h:=hx h [] []) (R:=R) n hn
  have hpn:=zPx hn
  have hd:Dg [pw2 n]:=Dg.cons (by rw [hpn];exact Nat.pow_lt_pow_right (by decide) hn) Dg.nil
  have hm:=fun L h=>zId L h (.vsl false (eW a)) (.vsl true (eW [pw2 n])) a [pw2 n] (LV.vsl _ _) (LV.vsl _ _) ha hd ⟨by omega,by simp⟩
  rw [show vD [pw2 n]=2 ^ n by rw [vD,vD,hpn];omega] at hm
  have hf1:=hx1.fz
  have hz:zaa.int .u64 1=wd (pw2 0):=rfl
  have hch:chunks 1 1 [wd (pw2 n)]=eW [pw2 n]:=rfl
  generalize eW [pw2 n]=e1 at*
  generalize pw2 n=pn at*
  generalize pw2 0=p0 at*
  simp -implicitDefEqProofs [zhH,hf1,hz]
  generalize hF:run ctx _ (.loop _) _ _=R
  obtain ⟨fr1,rfl,h5,hk1⟩:=hlo _ _ _ hF (by simp) (by simp) (by simp)
  simp -implicitDefEqProofs [hk1,wr,zcq,zbM,h5,zx0,hch,hm]
theorem zyY {x y:Nat} (h:x≤y):(dg x).length≤(dg y).length:=zrL (Nat.lt_of_le_of_lt h (by have:=zKs (zkH y);rwa [zds] at this))
theorem zyZ {x n:Nat} (h:x < 512*dB ^ n):(dg x).length≤n+1:=zrL (by
  rw [Nat.pow_succ,Nat.mul_comm]
  have:512*dB ^ n≤dB*dB ^ n:=Nat.mul_le_mul_right _ (by decide)
  omega)
theorem zPK {l:List W64} (h:Dg l) (i:Nat):(gd l 0#64 i).toNat=vD l / dB ^ i % dB:=by
  induction l generalizing i with
  | nil=>simp [gd,List.getD,vD]
  | cons x l ih=>
    have hB:0 < dB:=by decide
    cases i with
    | zero=>rw [zvA,vD,Nat.pow_zero,Nat.div_one,Nat.add_mul_mod_self_left,Nat.mod_eq_of_lt h.head]
    | succ i=>rw [ztz,ih h.tail i,vD,Nat.pow_succ,Nat.mul_comm (dB ^ i),← Nat.div_div_eq_div_mul,Nat.add_mul_div_left _ _ hB,Nat.div_eq_of_lt h.head,Nat.zero_add]
theorem zPM {l:List W64} (h:Dg l) (m:Nat):(gd l 0#64 (m / 4)).toNat / 256 ^ (m % 4) % 256=vD l / 256 ^ m % 256:=by
  rw [zPK h]
  have e:256 ^ m=dB ^ (m / 4)*256 ^ (m % 4):=by
    rw [show dB=256 ^ 4 from rfl,← Nat.pow_mul,← Nat.pow_add,Nat.div_add_mod]
  rw [e,← Nat.div_div_eq_div_mul]
  generalize vD l / dB ^ (m / 4)=x
  rw [show dB=4294967296 from rfl]
  have h4:m % 4 < 4:=Nat.mod_lt _ (by decide)
  generalize m % 4=j at*
  have:j=0∨j=1∨j=2∨j=3:=by omega
  rcases this with rfl | rfl | rfl | rfl
  · rw [show 256 ^ 0=1 from rfl];omega
  · rw [show 256 ^ 1=256 from rfl];omega
  · rw [show 256 ^ 2=65536 from rfl];omega
  · rw [show 256 ^ 3=16777216 from rfl];omega
def grd (M:Nat):Nat→Nat→Nat
  | 0,x=>x
  | k+1,x=>grd M k (if M*2 ^ k≤x then x - M*2 ^ k else x)
theorem zEM (M:Nat):∀ (k x:Nat),x < M*2 ^ k→grd M k x=x % M
  | 0,x,h=>by rw [grd,Nat.mod_eq_of_lt (by simpa using h)]
  | k + 1, x, h => by
    rw [Nat.pow_succ,← Nat.mul_assoc] at h
    rw [grd]
    split
    · rename_i hle
      rw [zEM M k _ (by omega)]
      exact (Nat.mod_eq_sub_mod_iter M (2 ^ k) x hle).symm
    · exact zEM M k x (by omega)
where
  Nat.mod_eq_sub_mod_iter (M c x:Nat) (h:M*c≤x):x % M=(x - M*c) % M:=by
    obtain ⟨d,rfl⟩:=Nat.exists_eq_add_of_le h
    rw [Nat.add_sub_cancel_left,Nat.mul_add_mod]
theorem zL8 (N M m:Nat):(N / 256 ^ (m+1) % M*256+N / 256 ^ m % 256) % M=N / 256 ^ m % M:=by
  have e:N / 256 ^ m=N / 256 ^ (m+1)*256+N / 256 ^ m % 256:=by
    rw [Nat.pow_succ,← Nat.div_div_eq_div_mul];omega
  conv=>rhs;rw [e]
  rw [Nat.add_mod,Nat.mod_mul_mod,← Nat.add_mod]
end Go.Av
namespace Go.Av
def tmV (M k:Nat):zaa:=.vsl false (eW (dg (M*2 ^ k)))
theorem zRj (L:Lim) (h:zab) (p:zaa) (M k:Nat):stK L h 1 p (tmV M k)=stM (zc2 L h p [tmV M k]):=zPy _ _ p _ _
theorem zKH (M k:Nat):zap 0 0 [tmV M k]=true:=by simp [zap,tmV,zaa.under]
theorem zKK {fr:Fr} {h:zab} {R:Option (AEx × Fr × zab)} (m:List W64) (hm:Dg m) (hl:m.length < 10000000)
    (hF:run ctx (zak h) (.loop zbx) fr (hx h [za6 9 (tmV (vD m)) (fun _=>.nsl) 0] [])=R)
    (h1:fr 1=.vsl false (eW m)) (h5:fr 5=pA h.blks.length 0 0) (h6:fr 6=.int .i64 0):
    ∃ fr',R=some (.exit 0,fr',hx h [tab 9 (tmV (vD m))] [])∧∀ t,t∉wr zbx→fr' t=fr t:=by
  obtain ⟨e,fr',h',rfl,⟨rfl,rfl⟩,hk⟩:=zaf hF 9
    (fun k fr hh=>fr 6=.int .i64 (k:Int)∧hh=hx h [za6 9 (tmV (vD m)) (fun _=>.nsl) k] [])
    (fun e fr hh=>e=.exit 0∧hh=hx h [tab 9 (tmV (vD m))] [])
    ⟨h6,rfl⟩ (by
      rintro k fr1 hh hkN hkeep ⟨g6,rfl⟩
      have g1:=(hkeep 1 (by decide)).trans h1
      have g5:=(hkeep 5 (by decide)).trans h5
      by_cases hlt:k < 9
      · have w1 : IntKind.i64.wrap ((k : Int) + 1) = k + 1 := wrap_i64 (by omega) (by omega)
        have hS:=fun L h=>zIj L h (.vsl false (eW m)) m (LV.vsl _ _) hm k (by omega) hl
        rw [show zaa.vsl false (eW (dg (vD m*2 ^ k)))=tmV (vD m) k from rfl] at hS
        have hi:=zaP 9 1 h.blks.length 0 0 k .i64 (by simpa using hlt)
        rw [Nat.zero_add,Nat.mul_one] at hi
        have hms:=zdn 9 (tmV (vD m)) (fun _=>zaa.nsl) k
        have hml:(za6 9 (tmV (vD m)) (fun _=>zaa.nsl) k).length=9:=by simp
        have hst:=zRj (zak h)
        have hun:=zKH (vD m) k
        generalize hm2:za6 9 (tmV (vD m)) (fun _=>zaa.nsl) (k+1)=m2 at*
        generalize za6 9 (tmV (vD m)) (fun _=>zaa.nsl) k=m1 at*
        have hrob:(zak h).rob≤h.blks.length:=Nat.le_refl _
        simp -implicitDefEqProofs [zbx,g1,g5,g6,show (k:Int) < 9 by omega,w1,hS,hi,hst,zah,hrob,hun,hml,hms,show k+1≤9 by omega]
        exact ⟨hlt,by rw [hm2]⟩
      · have : k = 9 := by omega
        subst this
        rw [zft]
        simp [zbx,g6])
  exact ⟨fr',rfl,hk⟩
def dq (d:W64):Nat→W64
  | 0=>d
  | k+1=>qtW (dq d k) 256
theorem zPg (d:W64):∀ k,(dq d k).toNat=d.toNat / 256 ^ k
  | 0=>by simp [dq]
  | k+1=>by rw [dq,zkc,zPg d k,Nat.pow_succ,Nat.div_div_eq_div_mul]
theorem zKL {L:Lim} {fr:Fr} {h:zab} {R:Option (AEx × Fr × zab)} (d:W64) (i:Nat)
    (hF:run ctx L (.loop zby) fr h=R) (h8:fr 8=.int .i64 (i:Int)) (h9:fr 9=wd d) (h10:fr 10=.int .i64 0):
    ∃ fr',R=some (.exit 4,fr',h)∧fr' 9=wd (dq d (i % 4))∧∀ t,t∉wr zby→fr' t=fr t:=by
  have hm4:(i:Int).tmod 4=((i % 4:Nat):Int):=zoA i 4
  generalize hn:i % 4=n at*
  have hn4:n < 4:=by omega
  obtain ⟨e,fr',h',rfl,⟨rfl,rfl,h9'⟩,hk⟩:=zaf hF n
    (fun k fr hh=>fr 10=.int .i64 (k:Int)∧fr 9=wd (dq d k)∧hh=h)
    (fun e fr hh=>e=.exit 4∧hh=h∧fr 9=wd (dq d n))
    ⟨h10,h9,rfl⟩ (by
      rintro k fr1 hh hkN hkeep ⟨g10,g9,rfl⟩
      have g8:=(hkeep 8 (by decide)).trans h8
      by_cases hlt:k < n
      · have w1 : IntKind.i64.wrap ((k : Int) + 1) = k + 1 := wrap_i64 (by omega) (by omega)
        have hle:(k:Int) < n:=by omega
        have hd:qtW (dq d k) 256=dq d (k+1):=rfl
        generalize hd2:dq d (k+1)=d2 at*
        generalize dq d k=d1 at*
        simp -implicitDefEqProofs [zby,g8,g9,g10,zbs,hm4,hle,w1,zKF,hd]
        exact ⟨hlt,by rw [hd2]⟩
      · have : k = n := by omega
        subst this
        generalize dq d k=d1 at*
        simp [zby,g8,g9,g10,zbs,hm4])
  exact ⟨fr',rfl,h9',hk⟩
def VlW (x:zaa) (l:List W64):Prop:=∃ c,x=.vsl c (eW l)
theorem VlW.mk (c:Bool) (l:List W64):VlW (.vsl c (eW l)) l:=⟨c,rfl⟩
theorem zKO (x y:Nat):(decide (zmE x y≥0))=decide (y≤x):=by
  unfold zmE
  split
  · simp;omega
  · split <;> simp <;> omega
theorem zKQ {fr:Fr} {h:zab} {R:Option (AEx × Fr × zab)} (M K x0:Nat) (hM:M < dB ^ K) (hK:K < 10000000) (hx0:x0 < M*512)
    (hF:run ctx (zak h) (.loop zb9) fr (hx h [tab 9 (tmV M)] [])=R)
    (h5:fr 5=pA h.blks.length 0 0) (h7:VlW (fr 7) (dg x0)) (h11:fr 11=.int .i64 8):
    ∃ fr',R=some (.exit 6,fr',hx h [tab 9 (tmV M)] [])∧VlW (fr' 7) (dg (x0 % M))∧∀ t,t∉wr zb9→fr' t=fr t:=by
  have hbig : ∀ k, k ≤ 9 → M * 2 ^ k < 512 * dB ^ K ∨ M = 0 := fun k hk => by
    by_cases h0:M=0
    · exact .inr h0
    · left
      have h1:(2:Nat) ^ k≤2 ^ 9:=Nat.pow_le_pow_right (by decide) hk
      have h2:M*2 ^ k≤M*512:=Nat.mul_le_mul_left _ h1
      omega
  obtain ⟨e,fr',h',rfl,⟨rfl,rfl,h7'⟩,hk⟩:=zaf hF 9
    (fun k fr hh=>∃ j x,j+k=9∧fr 11=.int .i64 ((j:Int) - 1)∧VlW (fr 7) (dg x)∧x≤x0∧grd M j x=grd M 9 x0∧hh=hx h [tab 9 (tmV M)] [])
    (fun e fr hh=>e=.exit 6∧hh=hx h [tab 9 (tmV M)] []∧VlW (fr 7) (dg (x0 % M)))
    ⟨9,x0,rfl,h11,h7,Nat.le_refl _,rfl,rfl⟩ (by
      rintro k fr1 hh hkN hkeep ⟨j,x,hj,g11,⟨c,g7⟩,hxx,hgr,rfl⟩
      have g5:=(hkeep 5 (by decide)).trans h5
      cases j with
      | succ i=>
        rw [show (((i+1:Nat):Int) - 1)=(i:Int) by omega] at g11
        have w1:IntKind.i64.wrap ((i:Int) - 1)=(i:Int) - 1:=wrap_i64 (by omega) (by omega)
        have hi:=zaP 9 1 h.blks.length 0 0 i .i64 (by simp;omega)
        rw [Nat.zero_add,Nat.mul_one] at hi
        have hat:(tab 9 (tmV M))[i]?=some (tmV M i):=zCi (by omega)
        have hM0:M≠0:=fun e=>by subst e;omega
        have hl1:(dg x).length < 100000000:=by have:=zyZ (x:=x) (n:=K) (by have:=hbig 9 (by omega);omega);omega
        have hl2:(dg (M*2 ^ i)).length < 100000000:=by have:=zyZ (x:=M*2 ^ i) (n:=K) (by have:=hbig i (by omega);omega);omega
        have hC:=fun L h c=>zC5 L h (.vsl c (eW (dg x))) (tmV M i) (dg x) (dg (M*2 ^ i)) (RdW.vsl _ _ _) (RdW.vsl _ _ _) (zkH _) (zkH _) ⟨hl1,hl2⟩
        rw [zds,zds] at hC
        have hge:=zKO x (M*2 ^ i)
        have hnn:(i:Int)≥0:=by omega
        by_cases hle:M*2 ^ i≤x
        · have hS := fun L h c => zC9 L h (.vsl c (eW (dg x))) (tmV M i) (dg x) (dg (M * 2 ^ i)) (LV.vsl _ _) (LV.vsl _ _) (zkH _) (zkH _) hl1 (zyY hle) (by rw [zds, zds]; exact hle)
          rw [zds,zds] at hS
          rw [decide_eq_true hle] at hge
          have hfin:∃ x',(x - M*2 ^ i=x'∧x'≤x0∧grd M i x'=grd M 9 x0):=⟨_,rfl,by omega,by rw [← hgr,grd,if_pos hle]⟩
          obtain ⟨x',e1,e2,e3⟩:=hfin
          rw [e1] at hS
          generalize zmE x (M*2 ^ i)=cc at*
          generalize tab 9 (tmV M)=tb at*
          generalize tmV M i=tv at*
          simp -implicitDefEqProofs [zb9,g5,g7,g11,w1,hi,hat,zat,hC,hge,hS, -zhE,binGE]
          exact ⟨by omega,i,by omega,rfl,x',VlW.mk _ _,e2,e3⟩
        · rw [decide_eq_false hle] at hge
          have e3:grd M i x=grd M 9 x0:=by rw [← hgr,grd,if_neg hle]
          generalize zmE x (M*2 ^ i)=cc at*
          generalize tab 9 (tmV M)=tb at*
          generalize tmV M i=tv at*
          simp -implicitDefEqProofs [zb9,g5,g7,g11,w1,hi,hat,zat,hC,hge, -zhE,binGE]
          exact ⟨by omega,i,by omega,rfl,x,VlW.mk _ _,hxx,e3⟩
      | zero=>
        have e1:x=x0 % M:=by
          rw [zEM M 9 x0 hx0] at hgr;exact hgr
        simp [zb9,g11]
        rw [g7,e1];exact VlW.mk _ _)
  exact ⟨fr',rfl,h7',hk⟩
where
  binGE {k:IntKind} (a:Int):zdj .geq (.int k a) (.int k 0)=some (.bool (decide (a≥0))):=zhE k a 0
end Go.Av
namespace Go.Av
theorem zKR {x:W64} (h:x.toNat < dB):Dg [x]:=Dg.cons h Dg.nil
theorem zPi (x:W64):vD [x]=x.toNat:=by simp [vD]
theorem zRs (x:W64):(rmW x 256).toNat < dB:=by
  rw [zi6];exact Nat.lt_of_lt_of_le (Nat.mod_lt _ (by decide)) (by decide)
theorem zUM:zaA (rep [zaa.int .u64 0] 1) [(0,1,.int .u64 256)]=some [wd 256#64]:=rfl
theorem zN8 {fr:Fr} {h:zab} {R:Option (AEx × Fr × zab)} (a m:List W64) (ha:Dg a) (hm:Dg m) (h0m:vD m≠0) (hl:a.length < 10000000∧m.length < 10000000)
    (hF:run ctx (zak h) (.loop zeh) fr (hx h [tab 9 (tmV (vD m))] [])=R)
    (h0:fr 0=.vsl false (eW a)) (h5:fr 5=pA h.blks.length 0 0) (h7:VlW (fr 7) []) (h8:fr 8=.int .i64 (((4*a.length:Nat):Int) - 1)):
    ∃ fr',R=some (.exit 2,fr',hx h [tab 9 (tmV (vD m))] [])∧VlW (fr' 7) (dg (vD a % vD m))∧∀ t,t∉wr zeh→fr' t=fr t:=by
  have hML:=zKs hm
  generalize hM:vD m=M at*
  generalize hN:vD a=N at*
  have hbig:N / 256 ^ (4*a.length)=0:=Nat.div_eq_of_lt (by
    rw [Nat.pow_mul,← hN];exact zKs ha)
  obtain ⟨e,fr',h',rfl,⟨rfl,rfl,h7'⟩,hk⟩:=zaf hF (4*a.length)
    (fun k fr hh=>∃ j,j+k=4*a.length∧fr 8=.int .i64 ((j:Int) - 1)∧VlW (fr 7) (dg (N / 256 ^ j % M))∧hh=hx h [tab 9 (tmV M)] [])
    (fun e fr hh=>e=.exit 2∧hh=hx h [tab 9 (tmV M)] []∧VlW (fr 7) (dg (N % M)))
    ⟨4 * a.length, rfl, h8, by rw [hbig, Nat.zero_mod, zKx]; exact h7, rfl⟩ (by
      rintro k fr1 hh hkN hkeep ⟨j,hj,g8,⟨c,g7⟩,rfl⟩
      have g0:=(hkeep 0 (by decide)).trans h0
      have g5:=(hkeep 5 (by decide)).trans h5
      cases j with
      | succ i=>
        rw [show (((i+1:Nat):Int) - 1)=(i:Int) by omega] at g8
        have w1:IntKind.i64.wrap ((i:Int) - 1)=(i:Int) - 1:=wrap_i64 (by omega) (by omega)
        have w2:IntKind.i64.wrap ((i:Int) / 4)=((i / 4:Nat):Int):=wrap_i64 (by omega) (by omega)
        obtain ⟨r1,p,r2,r3⟩:=RdW.vsl h false a
        have hro:=r2 (i / 4) (by omega)
        have hrd:=fun bs ts=>r3 (i / 4) bs ts (by omega)
        have hnn:(i:Int)≥0:=by omega
        have hlo2:=fun L fr R=>zKL (L:=L) (fr:=fr) (h:=hx h [tab 9 (tmV M)] []) (R:=R) (gd a 0#64 (i / 4)) i
        have hdn:=zPg (gd a 0#64 (i / 4)) (i % 4)
        generalize dq (gd a 0#64 (i / 4)) (i % 4)=dd at*
        have hr0:=Nat.mod_lt (N / 256 ^ (i+1)) (Nat.pos_of_ne_zero h0m)
        generalize hr:N / 256 ^ (i+1) % M=r at*
        have hrl:(dg r).length < 100000000:=by have:=zyZ (x:=r) (n:=m.length) (by omega);omega
        have hMu:=fun L h=>zId L h (.vsl c (eW (dg r))) (.vsl true (eW [256#64])) (dg r) [256#64] (LV.vsl _ _) (LV.vsl _ _) (zkH _) (zKR (by decide)) ⟨hrl,by simp⟩
        rw [zds,show vD [256#64]=256 from rfl] at hMu
        have hTr:=fun L h=>zCe L h true [rmW dd 256] (zKR (zRs _)) (by simp)
        have hb:vD [rmW dd 256]=N / 256 ^ i % 256:=by rw [zPi,zi6,hdn,zPM ha,hN]
        rw [hb] at hTr
        have hlr:(dg (r*256)).length < 100000000:=by have:=zyZ (x:=r*256) (n:=m.length) (by omega);omega
        have hAd:=fun L h=>zHZ L h (.vsl false (eW (dg (r*256)))) (.vsl false (eW (dg (N / 256 ^ i % 256)))) _ _ (LV.vsl _ _) (LV.vsl _ _) (zkH _) (zkH _) ⟨hlr,by have:=zrL (n:=N / 256 ^ i % 256) (k:=1) (Nat.lt_of_lt_of_le (Nat.mod_lt _ (by decide)) (show 256≤dB ^ 1 by decide));omega⟩
        rw [zds,zds] at hAd
        have hst:=zL8 N M i
        rw [hr] at hst
        have hlo3:=fun fr R=>zKQ (fr:=fr) (h:=h) (R:=R) M m.length (r*256+N / 256 ^ i % 256) hML hl.2 (by have:=Nat.mod_lt (N / 256 ^ i) (show 0 < 256 by decide);omega)
        rw [hst] at hlo3
        have hch1:chunks 1 1 [wd 256#64]=eW [256#64]:=rfl
        have hch2:chunks 1 1 [wd (rmW dd 256)]=eW [rmW dd 256]:=rfl
        generalize ((i / 4:Nat):Int)=q4 at*
        simp -implicitDefEqProofs [zeh,g0,g7,g8,zc9,w2,hro,hrd]
        generalize hF:run ctx _ (.loop _) _ _=R
        obtain ⟨fr2,rfl,f9,hk2⟩:=hlo2 _ _ _ hF (by simp [g8]) (by simp) (by simp)
        simp -implicitDefEqProofs [hk2,wr,zby,zbM,f9,g7,g8,zUM,zx0,hch1,hch2,hMu,zKE,hTr,hAd]
        generalize hF:run ctx _ (.loop _) _ _=R
        obtain ⟨fr3,rfl,f7,hk3⟩:=hlo3 _ _ hF (by simp [hk2,wr,zby,zbM,g5]) (by simp;exact VlW.mk _ _) (by simp)
        simp -implicitDefEqProofs [hk2,hk3,wr,zby,zb9,zbM,g8,w1]
        exact ⟨by omega,i,by omega,rfl,f7⟩
      | zero=>
        simp [zeh,g8]
        rw [g7,Nat.pow_zero,Nat.div_one];exact VlW.mk _ _)
  exact ⟨fr',rfl,h7',hk⟩
theorem zRt (L:Lim) (h:zab) (x y:zaa) (a m:List W64) (hx1:LV x a) (hy1:LV y m) (ha:Dg a) (hm:Dg m) (h0m:vD m≠0) (hl:a.length < 10000000∧m.length < 10000000):
    zag ctx L zgH [x,y] h=some (.vsl false (eW (dg (vD a % vD m))),h):=by
  rw [zro]
  have hlo1:=fun fr R=>zKK (fr:=fr) (h:=h) (R:=R) m hm hl.2
  have hlo:=fun fr R=>zN8 (fr:=fr) (h:=h) (R:=R) a m ha hm h0m hl
  have w1:IntKind.i64.wrap ((a.length:Int)*4)=((4*a.length:Nat):Int):=(wrap_i64 (by omega) (by omega)).trans (by omega)
  have w2:IntKind.i64.wrap (((4*a.length:Nat):Int) - 1)=((4*a.length:Nat):Int) - 1:=wrap_i64 (by omega) (by omega)
  have hf1:=hx1.fz
  have hf2:=hy1.fz
  have hfill:zaA (zaS zaa.nsl 9) []=some (zaS .nsl 9):=rfl
  have hrep:zaS zaa.nsl 9=za6 9 (tmV (vD m)) (fun _=>.nsl) 0:=by rw [zcc,zvD]
  have hml:(za6 9 (tmV (vD m)) (fun _=>zaa.nsl) 0).length=9:=by simp
  have hun:zap 0 0 (za6 9 (tmV (vD m)) (fun _=>zaa.nsl) 0)=true:=by rw [← hrep];rfl
  have hch:zaA (rep [zaa.int .u64 0] 0) []=some []:=rfl
  have hch0:chunks 1 0 []=eW []:=rfl
  rw [hrep] at hfill
  generalize za6 9 (tmV (vD m)) (fun _=>.nsl) 0=m0 at*
  generalize tab 9 (tmV (vD m))=m1 at*
  generalize ((4*a.length:Nat):Int)=la at*
  have hrob:(zak h).rob≤h.blks.length:=Nat.le_refl _
  simp -implicitDefEqProofs [zi9,hf1,hf2,hrep,hfill,zbp,zai,hml,zah,hrob,hun]
  generalize hF:run ctx _ (.loop _) _ _=R
  obtain ⟨fr1,rfl,hk1⟩:=hlo1 _ _ hF (by simp) (by simp) (by simp)
  simp -implicitDefEqProofs [hk1,wr,zbx,zbM,hch,hch0,w1,w2]
  generalize hF:run ctx _ (.loop _) _ _=R
  obtain ⟨fr2,rfl,⟨c,f7⟩,hk2⟩:=hlo _ _ hF (by simp [hk1,wr,zbx,zbM]) (by simp [hk1,wr,zbx,zbM]) (by simp;exact VlW.mk true []) (by simp)
  simp -implicitDefEqProofs [f7]
end Go.Av
namespace Go.Av
def sg (b:List Int) (m q:Nat):List Int:=(b.take (4*q+4)).drop (max m (4*q))
def sgD (b:List Int) (m q:Nat):W64:=BitVec.ofNat 64 (leN (sg b m q))
theorem zRD {b:List Int} (hb:inB b) (m q:Nat):leN (sg b m q) < dB:=by
  have h:=zCH (zAt (zAr hb (4*q+4)) (max m (4*q)))
  have hl:(sg b m q).length≤4:=by simp [sg];omega
  exact Nat.lt_of_lt_of_le h (Nat.pow_le_pow_right (by decide) hl)
theorem zAc {b:List Int} (hb:inB b) (m q:Nat):(sgD b m q).toNat=leN (sg b m q):=by
  have:=zRD hb m q
  unfold sgD;rw [BitVec.toNat_ofNat];rw [show dB=4294967296 from rfl] at this;omega
theorem zOg (b:List Int) (m q:Nat) (h:q≠m / 4):sg b m q=sg b (m+1) q:=by
  unfold sg
  by_cases h1:m < 4*q
  · rw [show max m (4*q)=max (m+1) (4*q) by omega]
  · rw [List.drop_eq_nil_of_le (by simp;omega),List.drop_eq_nil_of_le (by simp;omega)]
theorem zK3 (b:List Int) (m:Nat) (h:m < b.length):sg b m (m / 4)=gd b 0 m :: sg b (m+1) (m / 4):=by
  unfold sg
  rw [show max m (4*(m / 4))=m by omega,show max (m+1) (4*(m / 4))=m+1 by omega]
  have hl:m < (b.take (4*(m / 4)+4)).length:=by simp;omega
  rw [List.drop_eq_getElem_cons hl,List.getElem_take]
  congr 1
  unfold gd;simp [List.getD,List.getElem?_eq_getElem h]
theorem zPj {b:List Int} (hb:inB b):∀ n,sD (sgD b 0) n=leN (b.take (4*n))
  | 0=>by simp [sD,leN]
  | n + 1 => by
    rw [sD,zPj hb n,zAc hb]
    have e:b.take (4*(n+1))=b.take (4*n)++sg b 0 n:=by
      unfold sg
      rw [show max 0 (4*n)=4*n by omega,show 4*(n+1)=4*n+4 by omega,List.drop_take,Nat.add_sub_cancel_left,List.take_add]
    rw [e,zug]
    by_cases h:4*n≤b.length
    · rw [List.length_take,Nat.min_eq_left h,Nat.pow_mul];rfl
    · have : sg b 0 n = [] := by unfold sg; exact List.drop_eq_nil_of_le (by simp; omega)
      rw [this];simp [leN]
theorem zPk (x:W64):zdj .mul (wd x) (.int .u64 256)=some (wd (x*256#64)):=zH1 x 256#64
theorem zCr {fr:Fr} {h:zab} {R:Option (AEx × Fr × zab)} (b:List Int) (hb:inB b) (N:Nat) (hN:N=b.length / 4+1) (hl:b.length < 100000000)
    (hF:run ctx (zak h) (.loop zbA) fr (hx h [cW (tab N (sgD b b.length))] [])=R)
    (h0:fr 0=.vsl false (eI .u8 b)) (h3:fr 3=sA h.blks.length 0 0 1 N (some N)) (h4:fr 4=.int .i64 ((b.length:Int) - 1)):
    ∃ fr',R=some (.exit 0,fr',hx h [cW (tab N (sgD b 0))] [])∧∀ t,t∉wr zbA→fr' t=fr t:=by
  obtain ⟨e,fr',h',rfl,⟨rfl,rfl⟩,hk⟩:=zaf hF b.length
    (fun k fr hh=>∃ j,j+k=b.length∧fr 4=.int .i64 ((j:Int) - 1)∧hh=hx h [cW (tab N (sgD b j))] [])
    (fun e fr hh=>e=.exit 0∧hh=hx h [cW (tab N (sgD b 0))] [])
    ⟨b.length,rfl,h4,rfl⟩ (by
      rintro k fr1 hh hkN hkeep ⟨j,hj,g4,rfl⟩
      have g0:=(hkeep 0 (by decide)).trans h0
      have g3:=(hkeep 3 (by decide)).trans h3
      cases j with
      | succ i=>
        rw [show (((i+1:Nat):Int) - 1)=(i:Int) by omega] at g4
        have w1:IntKind.i64.wrap ((i:Int) - 1)=(i:Int) - 1:=wrap_i64 (by omega) (by omega)
        have w2:IntKind.i64.wrap ((i:Int) / 4)=((i / 4:Nat):Int):=wrap_i64 (by omega) (by omega)
        have hbi:=hb i (by omega)
        have hio:=zpq h.blks.length 0 0 N (i / 4) (some N) (by simp;omega)
        rw [Nat.zero_add] at hio
        have hat:=zsG (l:=tab N (sgD b (i+1))) (i:=i / 4) (by simp;omega)
        rw [zbz (by omega)] at hat
        have hib:=znQ .u8 .i64 false b i (by simp;omega)
        have hlen:(cW (tab N (sgD b (i+1)))).length=N:=by simp
        have hv:sgD b (i+1) (i / 4)*256#64+bw (gd b 0 i)=sgD b i (i / 4):=by
          refine BitVec.eq_of_toNat_eq ?_
          have e1:=zAc hb (i+1) (i / 4)
          have e2:=zAc hb i (i / 4)
          rw [zK3 b i (by omega),leN] at e2
          have e3:=zRD hb i (i / 4)
          rw [zK3 b i (by omega),leN] at e3
          have e4:(bw (gd b 0 i)).toNat=(gd b 0 i).toNat:=by
            obtain ⟨v,hv⟩:∃ v:Nat,gd b 0 i=(v:Int):=⟨(gd b 0 i).toNat,by omega⟩
            rw [hv,zLq v (by omega)];simp
          rw [BitVec.toNat_add,BitVec.toNat_mul,e1,e2,e4]
          rw [show dB=4294967296 from rfl] at e3
          simp only [BitVec.toNat_ofNat]
          omega
        have hss:(cW (tab N (sgD b (i+1)))).set (i / 4) (wd (sgD b i (i / 4)))=cW (tab N (sgD b i)):=by
          rw [zuT,zlr]
          congr 1
          refine zaN fun q hq=>?_
          split
          · rename_i e;rw [e]
          · rename_i e;unfold sgD;rw [zOg b i q e]
        have hrob:(zak h).rob≤h.blks.length:=Nat.le_refl _
        have hi4:i / 4+1≤N:=by omega
        generalize hm2:cW (tab N (sgD b i))=m2 at*
        generalize cW (tab N (sgD b (i+1)))=m1 at*
        generalize hq:i / 4=q at*
        generalize (q:Int)=qi at*
        have hnn:(i:Int)≥0:=by omega
        simp -implicitDefEqProofs [zbA,g0,g3,g4,zc9,w1,w2,hio,hat,zat,hib,zH2, -zdV,zPk,hv,zah,hrob,hlen,hi4,hss]
        exact ⟨by omega,i,by omega,rfl,by rw [hm2]⟩
      | zero=>
        simp [zbA,g4])
  exact ⟨fr',rfl,hk⟩
theorem zEq (L:Lim) (h:zab) (c:Bool) (b:List Int) (hb:inB b) (hl:b.length < 100000000):
    zag ctx L zej [.vsl c (eI .u8 b)] h=some (.vsl false (eW (dg (leN b))),h):=by
  rw [zm1]
  obtain ⟨N,hN⟩:∃ N,N=b.length / 4+1:=⟨_,rfl⟩
  have hlo:=fun fr R=>zCr (fr:=fr) (h:=h) (R:=R) b hb N hN hl
  have h0 : tab N (sgD b b.length) = tab N (fun _ => 0#64) := zaN fun q _ => by
    unfold sgD sg;rw [List.drop_eq_nil_of_le (by simp;omega)];rfl
  rw [h0] at hlo
  have hvd:vD (tab N (sgD b 0))=leN b:=by rw [ztF,zPj hb,List.take_of_length_le (by omega)]
  obtain ⟨r,hT,hfz⟩:=zsN (zak h) h [cW (tab N (sgD b 0))] [] 0 N N _ _ rfl (by rw [List.take_of_length_le (by simp)]) (by simp) (Dg.tab fun i _=>by rw [zAc hb];exact zRD hb _ _) (by omega) (Nat.le_refl _)
  rw [hvd] at hfz
  have hfz0:=hfz []
  rw [List.append_nil] at hfz0
  have hmk:=zj7 h [] [] 1 [zaa.int .u64 0] .i64 (N:Int) (zHO (by omega))
  rw [Int.toNat_natCast,zFS] at hmk
  have w1:IntKind.i64.wrap ((b.length:Int) / 4)=((b.length / 4:Nat):Int):=wrap_i64 (by omega) (by omega)
  have w2:IntKind.i64.wrap (((b.length / 4:Nat):Int)+1)=(N:Int):=(wrap_i64 (by omega) (by omega)).trans (by omega)
  have w3:IntKind.i64.wrap ((b.length:Int) - 1)=(b.length:Int) - 1:=wrap_i64 (by omega) (by omega)
  generalize ((b.length / 4:Nat):Int)=b4 at*
  generalize tab N (fun _=>0#64)=m0 at*
  generalize tab N (sgD b 0)=m1 at*
  simp -implicitDefEqProofs [zfW,zc9,w1,w2,w3,hmk]
  generalize hF:run ctx _ (.loop _) _ _=R
  obtain ⟨fr1,rfl,hk1⟩:=hlo _ _ hF (by simp) (by simp) (by simp)
  simp -implicitDefEqProofs [hk1,wr,zbA,zbM,hT,hfz0]
def wdO (l:List W64) (i:Nat):W64:=gd l 0#64 (2*i)+gd l 0#64 (2*i+1)*4294967296#64
theorem zXr (x:W64):zdj .mul (wd x) (.int .u64 4294967296)=some (wd (x*4294967296#64)):=zH1 x 4294967296#64
theorem zRK {l:List W64} (hl:Dg l) (i:Nat):(wdO l i).toNat=(gd l 0#64 (2*i)).toNat+(gd l 0#64 (2*i+1)).toNat*4294967296:=by
  have h1:=hl (2*i)
  have h2:=hl (2*i+1)
  rw [show dB=4294967296 from rfl] at h1 h2
  unfold wdO
  rw [BitVec.toNat_add,BitVec.toNat_mul]
  simp only [BitVec.toNat_ofNat]
  omega
theorem zLa {l:List W64} (hl:Dg l):∀ n,zg5 (wdO l) n=sD (gd l 0#64) (2*n)
  | 0=>rfl
  | n + 1 => by
    rw [zg5,zLa hl n,zRK hl,show 2*(n+1)=2*n+1+1 by omega,sD,sD,Nat.pow_succ,Nat.add_mul,Nat.add_assoc,← Nat.mul_assoc]
    have e:bN n=dB ^ (2*n):=by unfold bN;rw [Nat.pow_mul];rfl
    rw [e,Nat.mul_assoc,Nat.mul_comm 4294967296,← Nat.mul_assoc]
    rfl
end Go.Av
