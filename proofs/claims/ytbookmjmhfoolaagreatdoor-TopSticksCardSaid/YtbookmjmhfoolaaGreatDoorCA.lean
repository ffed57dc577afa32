/- A script played: what its calls answer; the law's own functions, walked. -/
import Derived.Test.YtbookmjmhfoolaaGreatDoorC8
import Derived.Lib.ItoaLen
import Derived.Test.YtbookmjmhfoolaaGreatDoorV6
set_option linter.unusedSimpArgs false
set_option linter.unusedVariables false
set_option maxHeartbeats 2000000
set_option maxRecDepth 100000
namespace Go.Av
theorem zBr {L:Lim} {H:zab} {sz:Nat} {ref:Bool} {x y:zaa} {ys:List (List zaa)} (hy:zay H sz y=some ys) (hs:zeo sz y=true):zrI L H sz ref x y=zrI L H sz ref x (.vsl false ys):=by
  unfold zrI
  rw [hy,show zay H sz (.vsl false ys)=some ys by simp only [zay],hs,show zeo sz (.vsl false ys)=true by simp only [zeo]]
theorem zKm (kd:IntKind) (c:Bool) (xs:List Nat) (i:Nat) (h:i < xs.length):zbP none 4 (.vsl c ((xs.map fe).map cW)) (.int kd (i:Int))=some (.vptr (cW (fe (gd xs 0 i))) 0):=by
  simp [zbP,asI,gd,List.getD,h]
def zoV (xs:List Nat):List Int:=xs.flatMap feB
theorem zDS (xs:List Nat) (k:Nat) (h:k < xs.length):zoV (xs.take (k+1))=zoV (xs.take k)++feB (gd xs 0 k):=by
  have:xs.take (k+1)=xs.take k++[gd xs 0 k]:=by rw [List.take_add_one];simp [gd,List.getD,h]
  rw [this];simp [zoV]
theorem zvF (xs:List Nat):(zoV xs).length=32*xs.length:=by
  induction xs with
  | nil=>rfl
  | cons x xs ih=>simp [zoV] at ih ⊢;omega
theorem zEg {l m:List Int} (hl:inB l) (hm:inB m) (h:byA l=byA m):l=m:=by
  unfold byA at h
  have h1 : l.map (fun n => UInt8.ofNat n.toNat) = m.map fun n => UInt8.ofNat n.toNat := by
    have:=congrArg (fun s:ByteArray=>s.data.toList) h
    simpa using this
  have hlen:l.length=m.length:=by simpa using congrArg List.length h1
  rw [← zJe l 0,← zJe m 0,← hlen]
  refine zfA fun i hi=>?_
  have h2:(l.map (fun n=>UInt8.ofNat n.toNat))[i]?=(m.map fun n=>UInt8.ofNat n.toNat)[i]?:=by rw [h1]
  rw [List.getElem?_map,List.getElem?_map,zql (d:=0) hi,zql (d:=0) (by omega)] at h2
  simp only [Option.map_some,Option.some.injEq] at h2
  have r1:=hl i hi
  have r2:=hm i (by omega)
  have h3:=congrArg UInt8.toNat h2
  simp only [UInt8.toNat_ofNat'] at h3
  omega
structure zaw where
  d:Int
  ty:Int
  n:Int
  b:List Int
def zaw.cells (x:zaw):List zaa:=[.int .i64 x.d,.int .i64 x.ty,.int .i64 x.n,.vsl false (eI .u8 x.b)]
def zcz:zaw:=⟨0,0,0,[]⟩
def zaw.few (x:zaw):Prop:=x.b.length≤400∧(x.n≤1048576→x.n≤100)
theorem zsl (kd:IntKind) (c:Bool) (l:List zaw) (i:Nat) (h:i < l.length):zbP none 4 (.vsl c (l.map zaw.cells)) (.int kd (i:Int))=some (.vptr (gd l zcz i).cells 0):=by
  simp [zbP,asI,gd,List.getD,h,zaw.cells]
noncomputable def stepT (t:Tc) (x:zaw):(Int × List Int) × Tc:=
  if x.d < 0∨x.d > 3 then (((zsZ t.g).e,[]),{t with g:=zsZ t.g}) else doT t x.d x.ty x.n x.b
theorem zzb (t:Tc) (x:zaw):(stepT t x).2.g.e=(stepT t x).1.1:=by
  unfold stepT
  split
  · rfl
  · exact zQ8 _ _ _ _ _
theorem zsm {t:Tc} (h:¬t.g.e=0) (x:zaw):stepT t x=((t.g.e,[]),t):=by
  unfold stepT
  split
  · rw [zB0 h]
  · exact zFr h _ _ _ _
theorem zHy {t:Tc} (h:t.ok) {x:zaw} (hb:inB x.b) (hx:x.few):(stepT t x).2.ok∧(stepT t x).2.s.c≤t.s.c+300000:=by
  unfold stepT
  split
  · exact ⟨zLe h,by simp only;omega⟩
  · exact zOH h _ _ _ hb hx.1 hx.2
end Go.Av
namespace Go.Av
theorem zFb (L:Lim) (h:zab) (p:zaa) (n i:Nat) (es:List (List zaa)):stK L h 1 p (gL .nsl n i es)=stM (zcx L h p [gL .nsl n i es]):=by
  unfold gL;split <;> simp [stK,zaa.cells,zaa.okV,gA]
theorem zIh {L:Lim} {fr:Fr} {h:zab} {R:Option (AEx × Fr × zab)} (B:List (List zaa)) (ts:List Nat) (e0:Int) (bi:Nat) (hbi:bi < B.length) (xs:List Nat) (hxs:xs.length < 100000) (hL:L.rob≤h.blks.length) (hnb:L.nb≤h.blks.length+bi) (hT:L.rot≤h.toks.length)
    (hF:run ctx L (.loop zc1) fr (hx h B ts)=R) (hB:B[bi]?=some [.int .i64 e0,.nsl])
    (h47:fr 47=.vsl false ((xs.map fe).map cW)) (h48:fr 48=.int .i64 (xs.length:Int)) (h9:fr 9=pA h.blks.length bi 0) (h49:fr 49=.int .i64 0):
    ∃ fr' jk us,R=some (.exit 1,fr',hx h (B.set bi [.int .i64 e0,gL .nsl h.toks.length ts.length (eI .u8 (zoV xs))]++jk) (ts++us))∧∀ t,t∉wr zc1→fr' t=fr t:=by
  obtain ⟨e,fr',h',rfl,⟨rfl,jk,us,rfl⟩,hk⟩:=zaj hF xs.length
    (fun k fr hh=>fr 49=.int .i64 (k:Int)∧∃ jk,hh=hx h (B.set bi [.int .i64 e0,gL .nsl h.toks.length ts.length (eI .u8 (zoV (xs.take k)))]++jk) (ts++gT (eI .u8 (zoV (xs.take k)))))
    (fun e fr hh=>e=.exit 1∧∃ jk us,hh=hx h (B.set bi [.int .i64 e0,gL .nsl h.toks.length ts.length (eI .u8 (zoV xs))]++jk) (ts++us))
    ⟨h49,[],by
      have:B.set bi [.int .i64 e0,.nsl]=B:=by
        obtain ⟨h1,h2⟩:=List.getElem?_eq_some_iff.1 hB
        rw [← h2,List.set_getElem_self]
      simp [zoV,gL,gT,this]⟩ (by
      rintro k fr1 hh hkN hkeep ⟨g49,jk,rfl⟩
      have g9:=(hkeep 9 (by decide)).trans h9
      have g47:=(hkeep 47 (by decide)).trans h47
      have g48:=(hkeep 48 (by decide)).trans h48
      by_cases hlt:k < xs.length
      · have hltI : (k : Int) < (xs.length : Int) := by omega
        have w0:IntKind.i64.wrap ((k:Int)+1)=k+1:=wrap_i64 (by omega) (by omega)
        have ia:=zKm .i64 false xs k hlt
        have hsu:=zDS xs k hlt
        have hfl:=zvF (xs.take k)
        rw [List.length_take,Nat.min_eq_left (Nat.le_of_lt hlt)] at hfl
        have hBy:=fun L h=>zHH L h (gd xs 0 k)
        have hbl:=zEt (gd xs 0 k)
        have hcl:(cW (fe (gd xs 0 k))).length=4:=rfl
        have hfl4:(fe (gd xs 0 k)).length=4:=rfl
        generalize feB (gd xs 0 k)=b at*
        generalize fe (gd xs 0 k)=f4 at*
        generalize (xs.map fe).map cW=lw at*
        generalize zoV (xs.take k)=acc at*
        have hroom:acc.length+b.length < zat:=by unfold zat;omega
        obtain ⟨B1,hB1⟩:∃ B1,B1=B.set bi [.int .i64 e0,gL .nsl h.toks.length ts.length (eI .u8 acc)]:=⟨_,rfl⟩
        have hB1l:B1.length=B.length:=by rw [hB1];simp
        have hB1g:B1[bi]?=some [.int .i64 e0,gL .nsl h.toks.length ts.length (eI .u8 acc)]:=by rw [hB1];simp [hbi]
        have hB1s:∀ v,B1.set bi v=B.set bi v:=fun v=>by rw [hB1,List.set_set]
        rw [← hB1]
        have hap : ∀ (B : List (List zaa)) i, B[i]? = some (cI .u8 b) → zrI L (hx h B (ts ++ gT (eI .u8 acc))) 1 false (gL .nsl h.toks.length ts.length (eI .u8 acc)) (sA h.blks.length i 0 1 32 (some 32)) = some (gL .nsl h.toks.length ts.length (eI .u8 (acc ++ b)), hx h B (ts ++ gT (eI .u8 (acc ++ b)))) := fun B i hB => by
          rw [zBr (ys:=eI .u8 b) (by rw [zv7 h B _ i 32 (cI .u8 b) (some 32) hB (by simpa using hbl),zrK]) (by simp [zeo,sA])]
          have:=zy3 L h B ts 1 false (eI .u8 acc) (eI .u8 b) (by simp [hT,hroom])
          simpa using this
        have gA:=fun x=>zpb B1 jk [x] B1.length 0 rfl
        have sA1:=fun x v=>zpc B1 jk [x] B1.length 0 v rfl
        have gB:=fun x y=>zpb B1 jk [x,y] B1.length 1 rfl
        have sB1:=fun x y v=>zpc B1 jk [x,y] B1.length 1 v rfl
        simp only [Nat.add_zero,List.getElem?_cons_zero,List.set_cons_zero,List.getElem?_cons_succ,List.set_cons_succ] at gA sA1 gB sB1
        have hsl:=fun i=>zli 32 1 h.blks.length i 0 (by decide)
        have hap1:=fun x=>hap (B1++(jk++[x,cI .u8 b])) (B1.length+(jk.length+1)) (gB _ _)
        have hz4:(cW (tab 4 fun _=>0#64)).length=4:=rfl
        have gI:∀ w:List (List zaa),(B1++w)[bi]?=some [.int .i64 e0,gL .nsl h.toks.length ts.length (eI .u8 acc)]:=fun w=>by rw [List.getElem?_append_left (by omega),hB1g]
        have sI:∀ (w:List (List zaa)) v,(B1++w).set bi v=B.set bi v++w:=fun w v=>by rw [List.set_append_left _ _ (by omega),hB1s]
        clear hB1 hB1g hB1s
        have hst:=fun w us off cs=>zmm L h (B1++w) us bi off cs (by simp only [Bool.and_eq_true,decide_eq_true_eq];exact ⟨hL,hnb⟩)
        simp -implicitDefEqProofs [zc1,g9,g47,g48,g49,hltI,zan,zak,ia,hBy,zgL,zbk,hL,hT,zam,zbF,zah,zaf,hcl,hfl4,hbl,hz4,hsl,gA,sA1,gB,sB1,hap1,gI,sI,w0,zFb,setAt,hst]
        exact ⟨hlt,_,by rw [hsu]⟩
      · have : k = xs.length := by omega
        subst this
        rw [List.take_length]
        simp [zc1,g48,g49]
        exact ⟨jk,_,rfl⟩)
  exact ⟨fr',jk,us,rfl,hk⟩
def An2 (a:Int × List Int):List zaa:=[.int .i64 a.1,.vsl false (eI .u8 a.2)]
theorem zFa (h:zab) (nb nt n:Nat) (e:Int) (b:List Int) (v:zaa) (hv:frz h nb nt n v=some (.vsl false (eI .u8 b))) (hn:n≠0) (hf:zck [.int .i64 e,v]=false):frz h nb nt (n+1) (.agg [.int .i64 e,v])=some (.agg [.int .i64 e,.vsl false (eI .u8 b)]):=by
  obtain ⟨m,rfl⟩:∃ m,n=m+1:=⟨n - 1,by omega⟩
  rw [zks _ _ _ _ _ hf]
  have:frz h nb nt (m+1) (.int .i64 e)=some (.int .i64 e):=by simp only [frz]
  simp [zCk,this,hv]
def zaw.cellsC (c:Bool) (x:zaw):List zaa:=[.int .i64 x.d,.int .i64 x.ty,.int .i64 x.n,.vsl c (eI .u8 x.b)]
theorem zOt (cl:Bool) (L:Lim) (h:zab) (js:List (List zaa)) (ts:List Nat) (t:Tc) (ht:t.ok) (hc:t.s.c < 10000000) (x:zaw) (hb:inB x.b) (hfew:x.few) (hL:L.rob≤h.blks.length) (hT:L.rot≤h.toks.length):
    zag ctx L zeV [.agg (x.cellsC cl),pA h.blks.length 1 0] (hx h (trB h.blks.length [] t js) ts)=some (.agg (An2 (stepT t x).1),hx h (trB h.blks.length [] (stepT t x).2 js) ts):=by
  rw [znA]
  have hk:t.g.k < 1000000000:=by have:=ht.k;have:=ht.l;omega
  obtain ⟨d,ty,N,b⟩:=x
  simp only [zaw.few] at hfew
  obtain ⟨hbl,hN⟩:=hfew
  simp only at hb
  have hA:=fun L hL js=>zBe L h [] js ts t ty cl b hb (by omega) hk ht.s hc ht.tg hL
  have hS:=fun L hL hT js=>zyO L h [] js ts t N hk ht.s hc ht.tg (fun h0=>by have:=hN (ht.count h0);omega) hL hT
  have hC:=fun L hL hT js=>zvm L h [] js ts t N hk ht.s hc ht.tg (fun h0=>by have:=hN (ht.count h0);omega) hL hT
  have hR:=fun L hL js=>zyP L h [] js ts t hk ht.s hc ht.tg hL
  have hFi:=fun L hL js=>zBc L h [] js ts t hL
  have hle:=zLi t N 100 (fun h0=>by have:=hN (ht.count h0);omega)
  rw [zuP] at hC
  have hgw:=fun t js y=>zyK h.blks.length [] t js [y] 0
  have hsw:=fun t js y v=>zoE h.blks.length [] t js [y] 0 v
  have hgwG:=fun t js y hh=>zun h.blks.length [] t js y hh
  have happ:=fun t js w=>znF h.blks.length [] t js w
  have hln:=fun t js=>zbG h.blks.length [] t js
  have htr:=fun t w us=>zDg h.blks.length [] t js h ts us w
  have htr0:=fun t=>zr3 h.blks.length [] t js h ts
  have htr1:=fun t w=>zr4 h.blks.length [] t js h ts w
  simp only [List.length_nil,Nat.zero_add,Nat.add_zero,List.getElem?_cons_zero,List.set_cons_zero] at hA hS hC hR hFi hgw hsw hgwG hln htr htr0 htr1
  have hfz:=fun hh nb nt m e (l:List Int)=>zFa hh nb nt (m+1) e l (.vsl false (eI .u8 l)) (zhF hh nb nt m false (by simp)) (by omega) rfl
  have hfz0:=fun hh nb nt m e=>zFa hh nb nt (m+1) e [] .nsl (by simp [eI]) (by omega) rfl
  unfold An2
  simp only [zaw.cellsC]
  by_cases h0:d=0
  · have hd : stepT t ⟨d, ty, N, b⟩ = (((zgZ t ty b).2, []), (zgZ t ty b).1) := by unfold stepT; rw [if_neg (by simp only; omega)]; exact if_pos h0
    rw [hd]
    subst h0
    simp -implicitDefEqProofs [zbJ,znl,zan,zak,hln,happ,hgw,hsw,hgwG,zaf,zae,zbF,zah,zam,zap,zaa.under,zaA,zaa.cells,zaa.okV,setAt,hA,hL,hfz0,htr0,htr1]
  · have b0 : (d == 0) = false := by simp [h0]
    by_cases h1:d=1
    · have hd : stepT t ⟨d, ty, N, b⟩ = (((zq6 t N).1.2, (zq6 t N).1.1), (zq6 t N).2) := by unfold stepT; rw [if_neg (by simp only; omega)]; unfold doT; rw [if_neg h0, if_pos h1]
      rw [hd]
      subst h1
      simp -implicitDefEqProofs [zbJ,znl,zan,zak,hln,happ,hgw,hsw,hgwG,zaf,zae,zbF,zah,zam,zap,zaa.under,zaA,zaa.cells,zaa.okV,setAt,hS,hL,hT,hfz,htr0,htr1]
    · have b1 : (d == 1) = false := by simp [h1]
      by_cases h2:d=2
      · have hd : stepT t ⟨d, ty, N, b⟩ = (((zgv t N).1.2, zoV (xsT t N)), (zgv t N).2) := by unfold stepT; rw [if_neg (by simp only; omega)]; unfold doT; rw [if_neg h0, if_neg h1, if_pos h2]; rfl
        rw [hd]
        subst h2
        have hlen:(((xsT t N).map fe).map cW).length=(xsT t N).length:=by simp
        have hfg:=fun hh m=>zpo (h1:=hh) (nb:=h.blks.length+(4+js.length)) (nt:=h.toks.length+ts.length) (n:=m) (s:=.nsl) (es:=eI .u8 (zoV (xsT t N))) (.inl rfl) (by simp)
        simp only [zLw] at hfg
        generalize xsT t N=xs at*
        generalize hlw:(xs.map fe).map cW=lw at*
        have hgw0:=fun t js y z=>zyK h.blks.length [] t js [y,z] 0
        have hgw1:=fun t js y z=>zyK h.blks.length [] t js [y,z] 1
        have hgwG0:∀ t js y z hh,(trB h.blks.length [] t (js++[y,z]))[4+js.length]'hh=y:=fun t js y z hh=>(List.getElem?_eq_some_iff.1 (by simpa using hgw0 t js y z)).2
        have hgwG1:∀ t js y z hh,(trB h.blks.length [] t (js++[y,z]))[4+(js.length+1)]'hh=z:=fun t js y z hh=>(List.getElem?_eq_some_iff.1 (by simpa [Nat.add_assoc] using hgw1 t js y z)).2
        have hsw0:=fun t js y z v=>zoE h.blks.length [] t js [y,z] 0 v
        have hsw1:=fun t js y z v=>zoE h.blks.length [] t js [y,z] 1 v
        simp only [List.length_nil,Nat.zero_add,Nat.add_zero,Nat.add_assoc,List.getElem?_cons_zero,List.set_cons_zero,List.getElem?_cons_succ,List.set_cons_succ] at hgw0 hgw1 hsw0 hsw1
        simp -implicitDefEqProofs [zbJ,znl,zan,zak,hln,happ,hgw,hsw,hgwG,hgw0,hgw1,hsw0,hsw1,hgwG0,hgwG1,zaf,zae,zbF,zah,zam,zap,zaa.under,zaA,zaa.cells,zaa.okV,setAt,hC,hL,hT,hlen]
        generalize hF:run ctx _ (.loop _) _ _=R
        obtain ⟨fr',jk,us,rfl,hk'⟩:=zIh (trB h.blks.length [] (zgv t N).2 (js++[[.int .i64 0,.nsl],[.int .i64 (zgv t N).1.2,.nsl]])) ts (zgv t N).1.2 (4+(js.length+1)) (by rw [zbG];simp) xs (by omega) (by first | exact hL | simpa using hL) (by simp) (by first | exact hT | simpa using hT) hF (by rw [hgw1]) (by simp [hlw]) (by simp) (by simp) (by simp)
        have k9:=hk' 9 (by decide)
        have k4:=hk' 4 (by decide)
        have k2:=hk' 2 (by decide)
        simp at k9 k4 k2
        have hfa:=fun hh m=>zFa hh (h.blks.length+(4+js.length)) (h.toks.length+ts.length) (m+1) (zgv t N).1.2 (zoV xs) (gL .nsl h.toks.length ts.length (eI .u8 (zoV xs))) (hfg hh m) (by omega) (by unfold gL;split <;> rfl)
        have hw0:=fun t js y z jk=>zyK h.blks.length [] t js (y :: z :: jk) 0
        have hw1:=fun t js y z jk=>zyK h.blks.length [] t js (y :: z :: jk) 1
        have ws0:=fun t js y z jk v=>zoE h.blks.length [] t js (y :: z :: jk) 0 v
        simp only [List.length_nil,Nat.zero_add,Nat.add_zero,Nat.add_assoc,List.getElem?_cons_zero,List.set_cons_zero,List.getElem?_cons_succ,List.set_cons_succ] at hw0 hw1 ws0
        have hwG0:∀ t js y z jk hh,(trB h.blks.length [] t (js++y :: z :: jk))[4+js.length]'hh=y:=fun t js y z jk hh=>(List.getElem?_eq_some_iff.1 (hw0 t js y z jk)).2
        have hwG1:∀ t js y z jk hh,(trB h.blks.length [] t (js++y :: z :: jk))[4+(js.length+1)]'hh=z:=fun t js y z jk hh=>(List.getElem?_eq_some_iff.1 (hw1 t js y z jk)).2
        have hst:=fun (L:Lim) (hL:L.rob≤h.blks.length) (hnb:L.nb≤h.blks.length+(4+js.length)) js2 us off cs=>zmm L h (trB h.blks.length [] (zgv t N).2 js2) us (4+js.length) off cs (by simp only [Bool.and_eq_true,decide_eq_true_eq];exact ⟨hL,hnb⟩)
        rw [hsw1]
        simp -implicitDefEqProofs [k9,k4,k2,zan,zak,hln,happ,hw0,hw1,hwG0,hwG1,ws0,hst,hfa,zaf,zbF,zah,hL,htr]
      · have b2 : (d == 2) = false := by simp [h2]
        by_cases h3:d=3
        · have hd : stepT t ⟨d, ty, N, b⟩ = (((zwY t).2, []), (zwY t).1) := by unfold stepT; rw [if_neg (by simp only; omega)]; unfold doT; rw [if_neg h0, if_neg h1, if_neg h2]
          rw [hd]
          subst h3
          simp -implicitDefEqProofs [zbJ,znl,zan,zak,hln,happ,hgw,hsw,hgwG,zaf,zae,zbF,zah,zam,zap,zaa.under,zaA,zaa.cells,zaa.okV,setAt,hR,hL,hfz0,htr0,htr1]
        · have b3 : (d == 3) = false := by simp [h3]
          have hd:stepT t ⟨d,ty,N,b⟩=(((zsZ t.g).e,[]),{t with g:=zsZ t.g}):=by unfold stepT;rw [if_pos (by simp only;omega)]
          rw [hd]
          simp -implicitDefEqProofs [zbJ,znl,zan,zak,hln,happ,hgw,hsw,hgwG,zaf,zae,zbF,zah,zam,zap,zaa.under,zaA,zaa.cells,zaa.okV,setAt,b0,b1,b2,b3,hFi,hL,hfz0,htr0,htr1]
noncomputable def runT (t:Tc) (l:List zaw):List (Int × List Int) × Tc:=l.foldl (fun q x=>(q.1++[(stepT q.2 x).1],(stepT q.2 x).2)) ([],t)
theorem zxX (t:Tc) (l:List zaw) (x:zaw):runT t (l++[x])=((runT t l).1++[(stepT (runT t l).2 x).1],(stepT (runT t l).2 x).2):=by
  unfold runT;rw [List.foldl_append];rfl
theorem zgM (t:Tc) (l:List zaw) (k:Nat) (h:k < l.length):runT t (l.take (k+1))=((runT t (l.take k)).1++[(stepT (runT t (l.take k)).2 (gd l zcz k)).1],(stepT (runT t (l.take k)).2 (gd l zcz k)).2):=by
  have:l.take (k+1)=l.take k++[gd l zcz k]:=by rw [List.take_add_one];simp [gd,List.getD,h]
  rw [this,zxX]
theorem ziM (t:Tc) (l:List zaw):(runT t l).1.length=l.length:=by
  obtain ⟨n,hn⟩:∃ n,n=l.length:=⟨_,rfl⟩
  induction n generalizing l with
  | zero => have : l = [] := by cases l with | nil => rfl | cons => simp at hn
            subst this;rfl
  | succ n ih=>
    have hl:l=l.take n++[gd l zcz n]:=by
      have:l.take (n+1)=l:=by rw [hn,List.take_length]
      rw [List.take_add_one] at this
      conv=>lhs;rw [← this]
      simp [gd,List.getD,show n < l.length by omega]
    rw [hl,zxX]
    have:=ih (l.take n) (by rw [List.length_take];omega)
    simp [this]
theorem zzr {t:Tc} (ht:t.ok) (l:List zaw) (hb:∀ x∈l,inB x.b) (hf:∀ x∈l,x.few):∀ k,k≤l.length→(runT t (l.take k)).2.ok∧(runT t (l.take k)).2.s.c≤t.s.c+300000*k
  | 0,_=>by rw [List.take_zero];exact ⟨ht,by simp [runT]⟩
  | k + 1, h => by
    have ih:=zzr ht l hb hf k (by omega)
    have hm:=zuO (d:=zcz) (show k < l.length by omega)
    have:=zHy ih.1 (hb _ hm) (hf _ hm)
    rw [zgM t l k (by omega)]
    exact ⟨this.1,by simp only;omega⟩
theorem zv5 (l:List (Int × List Int)):zeH 2 (l.map An2)=true:=by cases l <;> simp [zeH,An2]
theorem zxZ (nb nt:Nat):∀ l:List (Int × List Int),zax nb nt (l.map An2)=true
  | []=>by simp [zax]
  | c :: cs => by
    have ih:=zxZ nb nt cs
    simp [zax,ih,An2,zap,zaa.under,zv6]
def RdC (h:zab) (y:zaa) (l:List zaw):Prop:=
  zwy y=some l.length∧∃ p:Nat→zaa,(∀ i,i < l.length→zbP none 4 y (.int .i64 (i:Int))=some (p i))∧∀ i,i < l.length→∃ c,∀ bs ts,zkn (hx h bs ts) (p i) 4 true=some (.agg ((gd l zcz i).cellsC c))
theorem RdC.vsl (h:zab) (l:List zaw):RdC h (.vsl false (l.map zaw.cells)) l:=
  ⟨by simp,fun i=>.vptr (gd l zcz i).cells 0,fun i hi=>zsl .i64 false l i hi,fun i hi=>⟨false,fun bs ts=>by simp [zaf,zaw.cells,zaw.cellsC]⟩⟩
theorem zFf {fr:Fr} {h:zab} {R:Option (AEx × Fr × zab)} (l:List zaw) (hl:l.length≤20) (hb:∀ x∈l,inB x.b) (hf:∀ x∈l,x.few) (t0:Tc) (ht0:t0.ok) (hc0:t0.s.c=0)
    (hF:run ctx (zau h) (.loop zgh) fr (hx h (trB h.blks.length [] t0 []) [])=R)
    (y:zaa) (hy:RdC h y l) (h5:fr 5=pA h.blks.length 1 0) (h8:fr 8=.nsl) (h25:fr 25=y) (h26:fr 26=.int .i64 (l.length:Int)) (h27:fr 27=.int .i64 0):
    ∃ fr' bs ts,R=some (.exit 0,fr',hx h bs ts)∧fr' 8=gL .nsl h.toks.length 0 ((runT t0 l).1.map An2):=by
  obtain ⟨y1,yp,y2,y3⟩:=hy
  obtain ⟨e,fr',h',rfl,⟨rfl,⟨bs,ts,rfl⟩,h8'⟩,hk⟩:=zaj hF l.length
    (fun k fr hh=>fr 27=.int .i64 (k:Int)∧fr 8=gL .nsl h.toks.length 0 ((runT t0 (l.take k)).1.map An2)∧∃ js,hh=hx h (trB h.blks.length [] (runT t0 (l.take k)).2 js) (gT ((runT t0 (l.take k)).1.map An2)))
    (fun e fr hh=>e=.exit 0∧(∃ bs ts,hh=hx h bs ts)∧fr 8=gL .nsl h.toks.length 0 ((runT t0 l).1.map An2))
    ⟨h27, by simpa [runT, gL] using h8, [], by simp [runT, gT]⟩ (by
      rintro k fr1 hh hkN hkeep ⟨g27,g8,js,rfl⟩
      have g5:=(hkeep 5 (by decide)).trans h5
      have g25:=(hkeep 25 (by decide)).trans h25
      have g26:=(hkeep 26 (by decide)).trans h26
      by_cases hlt:k < l.length
      · have hltI : (k : Int) < (l.length : Int) := by omega
        have w0:IntKind.i64.wrap ((k:Int)+1)=k+1:=wrap_i64 (by omega) (by omega)
        have ia:=y2 k hlt
        obtain ⟨cl,ld⟩:=y3 k hlt
        have hm:=zuO (d:=zcz) hlt
        have hxb:=hb _ hm
        have hxf:=hf _ hm
        have hsu:=zgM t0 l k hlt
        have hok:=zzr ht0 l hb hf k (by omega)
        have hal:(runT t0 (l.take k)).1.length=k:=by rw [ziM,List.length_take];omega
        generalize runT t0 (l.take k)=q at*
        obtain ⟨acc,t⟩:=q
        simp only at hok hal hsu g8
        generalize gd l zcz k=x at*
        have hDo:=fun L hL hT js ts=>zOt cl L h js ts t hok.1 (by omega) x hxb hxf hL hT
        have hcl:(x.cellsC cl).length=4:=rfl
        have hap := fun (L : Lim) (hT : L.rot ≤ h.toks.length) B => zqq L h B 2 true (acc.map An2) [An2 (stepT t x).1] (by
          simp only [zv5,List.length_map,hal,Bool.and_eq_true,decide_eq_true_eq]
          exact ⟨⟨⟨rfl,trivial⟩,hT⟩,by unfold zat;simp only [List.length_cons,List.length_nil];omega⟩)
        have hmm:acc.map An2++[An2 (stepT t x).1]=(acc++[(stepT t x).1]).map An2:=by simp
        rw [hmm] at hap
        have hfi:∀ a,zaA (rep [zaa.int .i64 0,.nsl] 1) [(0,2,.agg (An2 a))]=some (An2 a):=fun a=>rfl
        have hch:∀ a,chunks 2 1 (An2 a)=[An2 a]:=fun a=>rfl
        have hgw:=fun t js y=>zyK h.blks.length [] t js [y] 0
        have hsw:=fun t js y v=>zoE h.blks.length [] t js [y] 0 v
        have hgwG:=fun t js y hh=>zun h.blks.length [] t js y hh
        have happ:=fun t js w=>znF h.blks.length [] t js w
        have hln:=fun t js=>zbG h.blks.length [] t js
        simp only [List.length_nil,Nat.zero_add,Nat.add_zero,List.getElem?_cons_zero,List.set_cons_zero] at hgw hsw hgwG hln
        generalize stepT t x=r at*
        obtain ⟨a,t2⟩:=r
        simp only at hDo hap hsu
        simp -implicitDefEqProofs [zgh,zau,g5,g8,g25,g26,g27,hltI,ia,ld,zan,zak,hln,happ,hgw,hsw,hgwG,zaf,zae,zbF,zah,zam,zap,zaa.under,hcl,hDo,hfi,hch,hap,w0]
        rw [hsu,List.map_append]
        exact ⟨hlt,rfl,_,rfl⟩
      · have : k = l.length := by omega
        subst this
        rw [List.take_length] at g8
        simp [zgh,g26,g27]
        exact ⟨⟨_,_,rfl⟩,g8⟩)
  exact ⟨fr',bs,ts,rfl,h8'⟩
theorem zIk (L:Lim) (h:zab) (c:Bool) (bk:Int) (h1:(bk==1)=false) (h2:(bk==2)=false) (y:zaa):
    zag ctx L zdj [.int .i64 bk,y] h=some (.tup [.nilp,.int .i64 (-1),.int .i64 15],h):=by
  rw [zhU]
  simp -implicitDefEqProofs [zdm,zau,bne,h1,h2,zxK]
noncomputable def zaL (bk:Int) (p:List Int) (l:List zaw):List (Int × List Int) × Int × Int:=
  if bk=1 then (if (zhX p).2.2=0 then ((runT (zkJ p) l).1, -1,0) else ([],(zhX p).2.1,(zhX p).2.2)) else ([], -1,15)
theorem zAK (L:Lim) (h:zab) (bk:Int) (hbk:bk≠2) (p:List Int) (hp:inB p) (hpl:p.length≤1000) (l:List zaw) (hl:l.length≤20) (hb:∀ x∈l,inB x.b) (hf:∀ x∈l,x.few) (y:zaa) (hy:RdC h y l) (hyc:y.isCell=true) (hyo:y.okV=true):
    zag ctx L zbp [.agg [.int .i64 bk,.vsl false (eI .u8 p),y]] h=some (.tup [.vsl false ((zaL bk p l).1.map An2),.int .i64 (zaL bk p l).2.1,.int .i64 (zaL bk p l).2.2],h):=by
  rw [zqX]
  have hlen:=hy.1
  have hbox:znl (.agg [.int .i64 bk,.vsl false (eI .u8 p),y])=some (.vptr [.int .i64 bk,.vsl false (eI .u8 p),y] 0):=by simp [znl,zaa.cells,zaa.okV]
  by_cases h1:bk=1
  · subst h1
    have hN:=fun L hL hnb=>zJ6 L h [] [] false p hp (by omega) hL hnb
    by_cases he:(zhX p).2.2=0
    · have hd : zaL 1 p l = ((runT (zkJ p) l).1, -1, 0) := by unfold zaL; rw [if_pos rfl, if_pos he]
      rw [hd]
      simp only [if_pos he] at hN
      have hlo:=fun fr R hF h5 h8 h25=>zFf (fr:=fr) (h:=h) (R:=R) l hl hb hf (zkJ p) (zE3 p hp) (zOj p) hF y hy h5 h8 h25
      have hfa:=fun hh m=>zpo (h1:=hh) (nb:=h.blks.length) (nt:=h.toks.length) (n:=m) (s:=.nsl) (.inl rfl) (zxZ h.blks.length h.toks.length (runT (zkJ p) l).1)
      generalize zkJ p=t0 at*
      simp only [List.length_nil,Nat.zero_add,Nat.add_zero] at hN
      simp -implicitDefEqProofs [zfK,zau,ziu,hbox,zaf,zae,hN,bne,hlen]
      generalize hF:run ctx _ (.loop _) _ _=R
      obtain ⟨fr',bs,ts,rfl,f8⟩:=hlo _ _ hF (by simp) (by simp) (by simp) (by simp) (by simp)
      simp -implicitDefEqProofs [f8,hfa]
    · have hd : zaL 1 p l = ([], (zhX p).2.1, (zhX p).2.2) := by unfold zaL; rw [if_pos rfl, if_neg he]
      rw [hd]
      simp only [if_neg he] at hN
      have be:((zhX p).2.2==0)=false:=by simp [he]
      simp -implicitDefEqProofs [zfK,zau,ziu,hbox,zaf,zae,hN,bne,be]
  · have hd : zaL bk p l = ([], -1, 15) := by unfold zaL; rw [if_neg h1]
    rw [hd]
    have hN:=fun L h y=>zIk L h true bk (by simp [h1]) (by simp [hbk]) y
    simp -implicitDefEqProofs [zfK,zau,ziu,hbox,zaf,zae,hN,bne]
theorem zFg (L:Lim) (h:zab) (bk:Int) (hbk:bk≠2) (p:List Int) (hp:inB p) (hpl:p.length≤1000) (l:List zaw) (hl:l.length≤20) (hb:∀ x∈l,inB x.b) (hf:∀ x∈l,x.few):
    zag ctx L zbp [.agg [.int .i64 bk,.vsl false (eI .u8 p),.vsl false (l.map zaw.cells)]] h=some (.tup [.vsl false ((zaL bk p l).1.map An2),.int .i64 (zaL bk p l).2.1,.int .i64 (zaL bk p l).2.2],h):=
  zAK L h bk hbk p hp hpl l hl hb hf _ (RdC.vsl h l) rfl rfl
end Go.Av
namespace Go.Av
theorem zIm (L:Lim) (h:zab) (x:zaa) (es:List (List zaa)) (m:List (Int × List Nat)) (hx:zay h 2 x=some es) (hs:zeo 2 x=true) (hz:zeH 2 es=true) (hm:es.mapM (zJz h)=some m) (hc:m.length≤1000∧∀ a∈m,a.2.length≤4000):
    zag ctx L zed [x] h=some (.str ⟨(zmG m).toArray⟩,h):=by
  rw [zoW _ _ _ zrV]
  simp only [zwL,hs,hx,hz,if_true,Option.bind_some,hm,if_pos hc]
def scT (bk:Int) (p:List Int) (l:List zaw):List zaa:=[.int .i64 bk,.vsl false (eI .u8 p),.vsl false (l.map zaw.cells)]
theorem zFk (l:List zaw):zeH 4 (l.map zaw.cells)=true:=by cases l <;> simp [zeH,zaw.cells]
theorem zIn {fr:Fr} {h:zab} {bk:Int} {p:List Int} {z:List zaa} {R:Option (AEx × Fr × zab)} (hF:run ctx (zau h) (.loop zeg) fr (hx h [z,[.int .i64 bk,.vsl false (eI .u8 p),.nsl]] [])=R) (l:List zaw) (hl:l.length≤1000000)
    (h3:fr 3=pA h.blks.length 1 0) (h12:fr 12=.vsl false (l.map zaw.cells)) (h13:fr 13=.int .i64 l.length) (h14:fr 14=.int .i64 0):
    ∃ fr' bs,R=some (.exit 0,fr',hx h (z :: [.int .i64 bk,.vsl false (eI .u8 p),gL .nsl h.toks.length 0 (l.map zaw.cells)] :: bs) (gT (l.map zaw.cells)))∧fr' 2=fr 2∧fr' 3=fr 3:=by
  obtain ⟨e,fr',h',rfl,⟨bs,rfl,rfl⟩,hk⟩:=zaj hF l.length
    (fun k fr hh=>fr 14=.int .i64 k∧∃ bs,hh=hx h (z :: [.int .i64 bk,.vsl false (eI .u8 p),gL .nsl h.toks.length 0 ((l.take k).map zaw.cells)] :: bs) (gT ((l.take k).map zaw.cells)))
    (fun e fr hh=>∃ bs,hh=hx h (z :: [.int .i64 bk,.vsl false (eI .u8 p),gL .nsl h.toks.length 0 (l.map zaw.cells)] :: bs) (gT (l.map zaw.cells))∧e=.exit 0)
    ⟨h14, [], by simp [gT, gL]⟩ (by
      rintro k fr1 hh hkN hkeep ⟨g14,bs,rfl⟩
      have g3:=(hkeep 3 (by decide)).trans h3
      have g12:=(hkeep 12 (by decide)).trans h12
      have g13:=(hkeep 13 (by decide)).trans h13
      by_cases hlt:k < l.length
      · have hi:=zsl .i64 false l k hlt
        have w2:IntKind.i64.wrap ((k:Int)+1)=k+1:=wrap_i64 (by omega) (by omega)
        have e:(l.take k).map zaw.cells++[(gd l zcz k).cells]=(l.take (k+1)).map zaw.cells:=by rw [List.take_add_one,zql (d:=zcz) hlt];simp
        generalize gd l zcz k=c at*
        simp only [zaw.cells] at hi
        simp [zeg,g14,g13,g12,g3,hlt,hi,w2,zaf,zbF,zau,zah,setAt,zaA,rep,zaa.cells,zaa.okV,chunks,zqq,zFb, -List.map_take,zat,show k+1 < 274877906944 by omega,Nat.min_eq_left hkN,zFk]
        rw [show (l.take k).map zaw.cells++[[zaa.int .i64 c.d,.int .i64 c.ty,.int .i64 c.n,.vsl false (eI .u8 c.b)]]=(l.take (k+1)).map zaw.cells from e]
        exact ⟨_,rfl⟩
      · have : k = l.length := by omega
        subst this
        simp [zeg,g14,g13]
        exact ⟨_,rfl⟩)
  exact ⟨fr',bs,rfl,hk 2 (by decide),hk 3 (by decide)⟩
theorem zAM (nb nt:Nat):∀ l:List zaw,zax nb nt (l.map zaw.cells)=true
  | []=>by simp [zax]
  | c :: l => by
    have ih:=zAM nb nt l
    simp [zax,ih,zaw.cells,zap,zaa.under,zv6]
theorem zJo (L:Lim) (h:zab) (bk:Int) (p:List Int) (l:List zaw) (hl:l.length≤1000000):zag ctx L zdi [.agg (scT bk p l)] h=some (.agg (scT bk p l),h):=by
  rw [znz]
  simp only [scT]
  simp [zg8,fzA,zgK,zck,zaa.flat,zaA,rep,zaa.cells,zaa.okV,zaf,zbF,zau,zah,setAt]
  generalize hF:run ctx _ (.loop _) _ _=R
  obtain ⟨fr',bs,rfl,g2,g3⟩:=zIn hF l hl (by simp) (by simp) (by simp) (by simp)
  simp at g2 g3
  have hf1:=fun hh n=>zpo (h1:=hh) (nb:=h.blks.length) (nt:=h.toks.length) (n:=n) (s:=.nsl) (.inl rfl) (zAM h.blks.length h.toks.length l)
  simp [g2,g3,zaf,zbF,zau,zah,zks,zCk,zck,zaa.flat,hf1]
end Go.Av
namespace Go.Av
theorem zIr {b:List Int} (h:(zts b).2.2=0):chk (zts b).1=0:=by
  unfold zts at h ⊢
  split at h
  · simp at h
  · split at h
    · next h1 h2=>rw [if_neg h1,if_pos h2];exact h2
    · next h1 h2=>exact absurd h h2
theorem zAO:∀ (f:Nat) (b:List Int) (k:Nat) (acc:List It),(∀ x∈acc,chk x=0)→∀ x∈(zDb f b k acc).1,chk x=0
  | 0,b,k,acc,h=>h
  | f + 1, b, k, acc, h => by
    unfold zDb
    split
    · exact h
    · split
      · intro x hx;simp at hx
      · split
        · next he=>
          refine zAO f _ _ _ ?_
          intro x hx
          rcases List.mem_append.1 hx with h1 | h1
          · exact h x h1
          · rw [List.mem_singleton.1 h1];exact zIr he
        · intro x hx;simp at hx
def Tc.chk (t:Tc):Prop:=∀ x∈t.g.l,Av.chk x=0
theorem zv8 (p:List Int):(zkJ p).chk:=zAO _ _ _ _ (by simp)
theorem zNS (g:Gd):(zsZ g).l=g.l:=(zie _ _).1
theorem zNT (t:Tc) (ty:Int) (b:List Int):(zgZ t ty b).1.g.l=t.g.l:=by
  unfold zgZ
  split
  · split
    · split
      · split
        · exact zif _ _ _ _
        · exact (zie _ _).1.trans (zif _ _ _ _)
      · exact zif _ _ _ _
    · exact (zie _ _).1
  · rfl
theorem zNU (t:Tc) (N:Int):(zq6 t N).2.g.l=t.g.l:=by
  unfold zq6;split <;> exact zif _ _ _ _
theorem zNV (t:Tc) (N:Int):(zgv t N).2.g.l=t.g.l:=by
  unfold zgv
  split
  · split
    · exact zif _ _ _ _
    · exact (zie _ _).1.trans (zif _ _ _ _)
  · exact zif _ _ _ _
theorem zNW (t:Tc):(zwY t).1.g.l=t.g.l:=by
  unfold zwY;split <;> exact zif _ _ _ _
theorem zKD (t:Tc) (x:zaw):(stepT t x).2.g.l=t.g.l:=by
  unfold stepT
  split
  · exact zNS _
  · unfold doT
    split
    · exact zNT _ _ _
    · split
      · exact zNU _ _
      · split
        · exact zNV _ _
        · exact zNW _
theorem zEn {t:Tc} (h:t.chk) (x:zaw):(stepT t x).2.chk:=by unfold Tc.chk;rw [zKD];exact h
theorem Tc.chk.count {t:Tc} (h:t.chk) {k ty c:Int} (hn:(zbi t.g k ty c).e=0):1≤c∧c≤1048576:=by
  obtain ⟨h1,h2⟩:=zvY (zqm hn)
  rw [← h2]
  obtain ⟨_,_,_,_,h3,h4,_⟩:=zo9 (h _ (zuO (d:=⟨0,0,0,⟨#[]⟩⟩) h1))
  exact ⟨h3,h4⟩
theorem zEp (n:Nat):∀ (s:Sp) (acc:List (List W64)) (t:Int),(zin n s acc t).1.2.2=0→(zin n s acc t).1.1.length=acc.length+n:=by
  induction n with
  | zero=>intro s acc t _;simp [zin]
  | succ n ih=>
    intro s acc t h
    rw [zin] at h ⊢
    split at h
    · next h0=>
      rw [if_pos h0]
      have:=ih (zbb s).2 (acc++[(zbb s).1.1]) (IntKind.i64.wrap (t+(zbb s).1.2.1)) h
      simp only [List.length_append,List.length_singleton] at this
      omega
    · next h0=>exact absurd h h0
theorem zo2 {t:Tc} {N:Int} (h:(zgv t N).1.2=0):(zbi t.g 2 3 N).e=0∧(xsT t N).length=N.toNat:=by
  have h1:(xsT t N).length=(zgv t N).1.1.length:=by rw [zuP];simp
  rw [h1]
  unfold zgv at h ⊢
  by_cases h0:(zbi t.g 2 3 N).e=0
  · rw [if_pos h0] at h ⊢
    refine ⟨h0,?_⟩
    by_cases h2:(zaC (zbH t.s (opB 2 3 N [])) N.toNat).1.2.2=0
    · rw [if_pos h2]
      have:=zEp N.toNat (zbH t.s (opB 2 3 N [])) [] 0 h2
      simp only [List.length_nil,Nat.zero_add] at this
      exact this
    · rw [if_neg h2] at h
      simp only at h
      unfold zbV at h
      rw [if_pos h0] at h
      exact absurd h h2
  · rw [if_neg h0] at h;exact absurd h h0
def zEq (x:zaw) (e:Int):Int:=if e=0 then (if x.d=1 then x.n else if x.d=2 then 32*x.n else 0) else 0
theorem zsr {t:Tc} (hc:t.chk) (x:zaw):((stepT t x).1.2.length:Int)=zEq x (stepT t x).1.1:=by
  unfold zEq stepT
  by_cases hd:x.d < 0∨x.d > 3
  · rw [if_pos hd]
    simp only [List.length_nil]
    rw [if_neg (show ¬x.d=1 by omega),if_neg (show ¬x.d=2 by omega)]
    split <;> rfl
  · rw [if_neg hd]
    unfold doT
    by_cases h0:x.d=0
    · rw [if_pos h0, if_neg (show ¬ x.d = 1 by omega), if_neg (show ¬ x.d = 2 by omega)]
      simp
    · rw [if_neg h0]
      by_cases h1:x.d=1
      · rw [if_pos h1,if_pos h1]
        simp only
        unfold zq6
        by_cases hn:(zbi t.g 2 1 x.n).e=0
        · rw [if_pos hn]
          simp only [zoR,if_pos]
          have:=hc.count hn
          omega
        · rw [if_neg hn]
          simp only [List.length_nil,if_neg hn];rfl
      · rw [if_neg h1,if_neg h1]
        by_cases h2:x.d=2
        · rw [if_pos h2,if_pos h2]
          simp only
          by_cases he:(zgv t x.n).1.2=0
          · obtain ⟨hn,hl⟩:=zo2 he
            rw [if_pos he]
            have:=hc.count hn
            have h3:(zoV (xsT t x.n)).length=32*(xsT t x.n).length:=zvF _
            show ((zoV (xsT t x.n)).length:Int)=_
            rw [h3,hl]
            omega
          · rw [if_neg he,zE6 he];rfl
        · rw [if_neg h2,if_neg h2]
          simp
theorem zEs {t:Tc} (hc:t.chk) (x:zaw) (he:(stepT t x).1.1=0) (h2:x.d=2):1≤x.n∧x.n≤1048576:=by
  unfold stepT at he
  rw [if_neg (by omega)] at he
  unfold doT at he
  rw [if_neg (by omega),if_neg (by omega),if_pos h2] at he
  exact hc.count (zo2 he).1
theorem zrD {t:Tc} (h:t.chk) (l:List zaw):∀ k,k≤l.length→(runT t (l.take k)).2.chk
  | 0,_=>h
  | k+1,hk=>by rw [zgM t l k (by omega)];exact zEn (zrD h l k (by omega)) _
theorem zo4 (t:Tc) (l:List zaw):∀ k,k≤l.length→∀ i,i < k→gd (runT t (l.take k)).1 (0,[]) i=(stepT (runT t (l.take i)).2 (gd l zcz i)).1
  | 0,_,i,hi=>absurd hi (by omega)
  | k + 1, hk, i, hi => by
    rw [zgM t l k (by omega)]
    have hlen:(runT t (l.take k)).1.length=k:=by rw [ziM,List.length_take];omega
    by_cases h:i=k
    · subst h
      simp [gd,List.getD,hlen]
    · have := zo4 t l k (by omega) i (by omega)
      rw [← this]
      simp [gd,List.getD,List.getElem?_append_left (show i < (runT t (l.take k)).1.length by omega)]
theorem zEv (t:Tc) (l:List zaw):∀ n k,n=l.length - k→k≤l.length→(runT t l).1.take k=(runT t (l.take k)).1:=by
  intro n
  induction n with
  | zero=>
    intro k hn hk
    have:k=l.length:=by omega
    subst this
    have:=ziM t l
    rw [List.take_length,← this,List.take_length]
  | succ n ih=>
    intro k hn hk
    have h1:=ih (k+1) (by omega) (by omega)
    have h2:=zgM t l k (by omega)
    have h3:(runT t (l.take k)).1.length=k:=by rw [ziM,List.length_take];omega
    rw [h2] at h1
    have h4:(runT t l).1.take k=((runT t l).1.take (k+1)).take k:=by rw [List.take_take,Nat.min_eq_left (by omega)]
    rw [h4,h1]
    simp only
    rw [List.take_left' h3]
theorem zst (bk:Int) (p:List Int) (l:List zaw) (h:(zaL bk p l).2.2=0):(zaL bk p l).2.1= -1∧(zaL bk p l).1.length=l.length∧∀ i,i < l.length→((gd (zaL bk p l).1 (0,[]) i).2.length:Int)=zEq (gd l zcz i) (gd (zaL bk p l).1 (0,[]) i).1∧((gd (zaL bk p l).1 (0,[]) i).1=0→(gd l zcz i).d=2→1≤(gd l zcz i).n∧(gd l zcz i).n≤1048576):=by
  unfold zaL at h ⊢
  by_cases h1:bk=1
  · rw [if_pos h1] at h ⊢
    by_cases he:(zhX p).2.2=0
    · rw [if_pos he]
      refine ⟨rfl,ziM _ _,fun i hi=>?_⟩
      have h2:=zo4 (zkJ p) l l.length (Nat.le_refl _) i hi
      rw [List.take_length] at h2
      simp only
      rw [h2]
      exact ⟨zsr (zrD (zv8 p) l i (by omega)) _,zEs (zrD (zv8 p) l i (by omega)) _⟩
    · rw [if_neg he] at h;exact absurd h he
  · rw [if_neg h1] at h;simp at h
theorem zuD (bk:Int) (p:List Int) (l:List zaw) (h:¬(zaL bk p l).2.2=0):(zaL bk p l).1=[]:=by
  unfold zaL at h ⊢
  by_cases h1:bk=1
  · rw [if_pos h1] at h ⊢
    by_cases he:(zhX p).2.2=0
    · rw [if_pos he] at h;exact absurd rfl h
    · rw [if_neg he]
  · rw [if_neg h1]
theorem zHJ (kd:IntKind) (c:Bool) (l:List (Int × List Int)) (i:Nat) (h:i < l.length):zbP none 2 (.vsl c (l.map An2)) (.int kd (i:Int))=some (.vptr (An2 (gd l (0,[]) i)) 0):=by
  simp [zbP,asI,gd,List.getD,h,An2]
theorem zuE (es:List (List zaa)) (sz:Nat) (hi:Int) (k:Nat) (hk:hi=(k:Int)) (hkl:k≤es.length) (hz:zeH sz es=true):zc0 .slc sz (.vsl false es) none (some (.int .i64 hi)) none=some (.vsl false (es.take k)):=by
  subst hk
  simp [zc0,zio,hz,zwz,hkl]
end Go.Av
namespace Go.Av
def er (e:Int):Prop:=0≤e∧e≤15
theorem zte {g:Gd} {e:Int} (hg:er g.e) (he:er e):er (zbV g e).e:=by
  unfold zbV;split
  · exact he
  · exact hg
theorem zlX {g:Gd} (hg:er g.e) (k t c:Int):er (zbi g k t c).e:=by
  rw [zvZ]
  refine zte hg ?_
  split <;> simp [er]
theorem zJp (t:Int) (n:Nat):er (zqR t n).2:=by
  unfold zqR
  split
  · simp [er]
  · split
    · simp [er]
    · split <;> simp [er]
theorem zN5 (t:Int) (b:List Int):er (zF9 t b):=by
  unfold zF9
  split
  · exact zJp _ _
  · split
    · split <;> simp [er]
    · simp [er]
theorem zN6 (f:Nat):∀ (s:Sp) (k:Nat),er (zvS f s k).1.2.2:=by
  induction f with
  | zero=>intro s k;rw [zxT];simp [er]
  | succ f ih=>
    intro s k
    rw [zxU]
    split
    · simp [er]
    · exact ih _ _
theorem zHO (s:Sp):er (zbb s).1.2.2:=by
  have h:=zN6 64 s 0
  rw [← zl1] at h
  exact h
theorem zKO (n:Nat):∀ (s:Sp) (acc:List (List W64)) (t:Int),er (zin n s acc t).1.2.2:=by
  induction n with
  | zero=>intro s acc t;simp [zin,er]
  | succ n ih=>
    intro s acc t
    rw [zin]
    split
    · exact ih _ _ _
    · exact zHO s
theorem zBO (s:Sp) (n:Nat):er (zaC s n).1.2.2:=by unfold zaC;exact zKO n s [] 0
theorem zAl {t:Tc} (h:er t.g.e) (x:zaw):er (stepT t x).1.1:=by
  rw [← zzb]
  unfold stepT
  split
  · exact zte h (by split <;> simp [er])
  · unfold doT
    split
    · simp only
      unfold zgZ
      split
      · split
        · split
          · split
            · exact zlX h _ _ _
            · exact zte (zlX h _ _ _) (zN5 _ _)
          · exact zlX h _ _ _
        · exact zte h (zJp _ _)
      · exact h
    · split
      · simp only;unfold zq6;split <;> exact zlX h _ _ _
      · split
        · simp only;unfold zgv
          split
          · split
            · exact zlX h _ _ _
            · exact zte (zlX h _ _ _) (zBO _ _)
          · exact zlX h _ _ _
        · simp only;unfold zwY;split <;> exact zlX h _ _ _
theorem zvN (xs : List Nat) : inB (zoV xs) := zqQ fun z hz => by
  obtain ⟨x,_,hx⟩:=List.mem_flatMap.1 hz
  exact zuQ (zp0 _) z hx
theorem zHT {t:Tc} (h:t.ok) (x:zaw):inB (stepT t x).1.2:=by
  unfold stepT
  split
  · exact zi3
  · unfold doT
    split
    · exact zi3
    · split
      · exact zLb h _
      · split
        · exact zvN _
        · exact zi3
def zBT (a:Int × List Int):Prop:=er a.1∧a.2.length≤4000∧inB a.2
theorem zEF {t:Tc} (h:t.ok) (hc:t.chk) (he:er t.g.e) {x:zaw} (hx:x.few):zBT (stepT t x).1:=by
  refine ⟨zAl he x,?_,zHT h x⟩
  have hd:=zsr hc x
  unfold zEq at hd
  by_cases h0:(stepT t x).1.1=0
  · rw [if_pos h0] at hd
    by_cases h1:x.d=1
    · rw [if_pos h1] at hd
      have:1≤x.n∧x.n≤1048576:=by
        unfold stepT at h0
        rw [if_neg (by omega)] at h0
        unfold doT at h0
        rw [if_neg (by omega),if_pos h1] at h0
        simp only at h0
        refine hc.count (k:=2) (ty:=1) ?_
        unfold zq6 at h0
        split at h0
        · next hn=>exact hn
        · next hn=>exact absurd h0 hn
      have:=hx.2 this.2
      omega
    · rw [if_neg h1] at hd
      by_cases h2:x.d=2
      · rw [if_pos h2] at hd
        have:=hx.2 (zEs hc x h0 h2).2
        omega
      · rw [if_neg h2] at hd;omega
  · rw [if_neg h0] at hd;omega
theorem zEH {t:Tc} (h:er t.g.e) (l:List zaw):∀ k,k≤l.length→er (runT t (l.take k)).2.g.e
  | 0,_=>h
  | k + 1, hk => by
    rw [zgM t l k (by omega)]
    simp only
    rw [zzb]
    exact zAl (zEH h l k (by omega)) _
theorem zAq {t:Tc} (h:t.ok) (hc:t.chk) (he:er t.g.e) (l:List zaw) (hb:∀ x∈l,inB x.b) (hf:∀ x∈l,x.few):∀ k,k≤l.length→∀ a∈(runT t (l.take k)).1,zBT a
  | 0,_=>by simp [runT]
  | k + 1, hk => by
    rw [zgM t l k (by omega)]
    intro a ha
    rcases List.mem_append.1 ha with h1 | h1
    · exact zAq h hc he l hb hf k (by omega) a h1
    · rw [List.mem_singleton.1 h1]
      exact zEF (zzr h l hb hf k (by omega)).1 (zrD hc l k (by omega)) (zEH he l k (by omega)) (hf _ (zuO (show k < l.length by omega)))
theorem zEI (bk:Int) (p:List Int) (hp:inB p) (l:List zaw) (hb:∀ x∈l,inB x.b) (hf:∀ x∈l,x.few):∀ a∈(zaL bk p l).1,zBT a:=by
  unfold zaL
  split
  · split
    · have := zAq (zE3 p hp) (zv8 p) (by simp [zkJ, zIU, er]) l hb hf l.length (Nat.le_refl _)
      rwa [List.take_length] at this
    · simp
  · simp
theorem zBU (bk:Int) (p:List Int) (l:List zaw) (k:Nat) (hk:k≤l.length):(zaL bk p (l.take k)).2=(zaL bk p l).2∧(zaL bk p (l.take k)).1=(zaL bk p l).1.take k∧((zaL bk p l).2.2=0→(zaL bk p (l.take k)).1.length=k):=by
  unfold zaL
  by_cases h1:bk=1
  · rw [if_pos h1,if_pos h1]
    by_cases he:(zhX p).2.2=0
    · rw [if_pos he,if_pos he]
      refine ⟨rfl,(zEv _ l _ k rfl hk).symm,fun _=>?_⟩
      simp only [ziM,List.length_take];omega
    · rw [if_neg he,if_neg he]
      exact ⟨rfl,by simp,fun h=>absurd h he⟩
  · rw [if_neg h1,if_neg h1]
    exact ⟨rfl,by simp,fun h=>by simp at h⟩
def An3 (a:Int × List Int):Int × List Nat:=(a.1,a.2.map Int.toNat)
theorem zAs (l:List Int) (h:∀ x∈l,0≤x∧x < 256):(eI .u8 l).mapM zIQ=some (l.map Int.toNat):=by
  induction l with
  | nil=>rfl
  | cons x l ih=>
    have:=ih (fun y hy=>h y (by simp [hy]))
    have hx:=h x (by simp)
    simp only [eI,List.map_cons,List.mapM_cons] at*
    rw [this]
    simp [zIQ,hx]
theorem zHZ (h:zab) {a:Int × List Int} (hok:zBT a):zJz h (An2 a)=some (An3 a):=by
  have hz:zeH 1 (eI .u8 a.2)=true:=by simp
  have h1:=hok.1.1
  have h2:=hok.1.2
  simp [zJz,An2,show -9223372036854775808≤a.1 by omega,show a.1≤9223372036854775807 by omega,zeo,zay,zAs a.2 (zuQ hok.2.2),An3,hz]
theorem zEK (h:zab) (l:List (Int × List Int)) (hok:∀ a∈l,zBT a):(l.map An2).mapM (zJz h)=some (l.map An3):=by
  induction l with
  | nil=>rfl
  | cons a l ih=>
    simp only [List.map_cons,List.mapM_cons,zHZ h (hok a (by simp)),ih (fun b hb=>hok b (by simp [hb]))]
    rfl
theorem zEL (L:Lim) (h:zab) (c:Bool) (l:List (Int × List Int)) (hok:∀ a∈l,zBT a) (hl:l.length≤1000):zag ctx L zed [.vsl c (l.map An2)] h=some (.str ⟨(zmG (l.map An3)).toArray⟩,h):=
  zIm L h _ (l.map An2) (l.map An3) (by simp only [zay]) (by simp only [zeo]) (zv5 l) (zEK h l hok) ⟨by simpa using hl, fun a ha => by
    obtain ⟨b,hb,rfl⟩:=List.mem_map.1 ha
    simpa [An3] using (hok b hb).2.1⟩
end Go.Av
namespace Go.Av
def ppT:List Int:=[1,1,1,0,0,0,0,0,2,3,1,0,0,0,0,0]
theorem zR7:(zhX ppT).2.2=0:=by decide +kernel
theorem zQL:(zgZ (zkJ ppT) 1 [7]).2=0:=by decide +kernel
theorem zQJ:(zgZ (zkJ ppT) 1 [8]).2=0:=by decide +kernel
theorem zKK:(zgv (zgZ (zkJ ppT) 1 [7]).1 1).1.2=0:=by decide +kernel
theorem zKL:(zgv (zgZ (zkJ ppT) 1 [8]).1 1).1.2=0:=by decide +kernel
theorem zQM:(zsZ (zgv (zgZ (zkJ ppT) 1 [7]).1 1).2.g).e=0:=by decide +kernel
theorem zQN:(zgv (zgZ (zkJ ppT) 1 [7]).1 1).1.1≠(zgv (zgZ (zkJ ppT) 1 [8]).1 1).1.1:=by decide +kernel
def zl3 (k:Int):List zaw:=[⟨0,1,0,[k]⟩,⟨2,0,1,[]⟩,⟨4,0,0,[]⟩]
theorem zxJ (k:Int) (ha:(zgZ (zkJ ppT) 1 [k]).2=0) (hc:(zgv (zgZ (zkJ ppT) 1 [k]).1 1).1.2=0):
    (zaL 1 ppT (zl3 k))=([(0,[]),(0,zoV (xsT (zgZ (zkJ ppT) 1 [k]).1 1)),((zsZ (zgv (zgZ (zkJ ppT) 1 [k]).1 1).2.g).e,[])], -1,0):=by
  unfold zaL
  rw [if_pos rfl,if_pos zR7]
  generalize zkJ ppT=t0 at*
  have e1:stepT t0 ⟨0,1,0,[k]⟩=((0,[]),(zgZ t0 1 [k]).1):=by
    unfold stepT;rw [if_neg (by simp)];unfold doT;rw [if_pos rfl];simp only [ha]
  have e2:stepT (zgZ t0 1 [k]).1 ⟨2,0,1,[]⟩=((0,zoV (xsT (zgZ t0 1 [k]).1 1)),(zgv (zgZ t0 1 [k]).1 1).2):=by
    unfold stepT;rw [if_neg (by simp)];unfold doT;rw [if_neg (by simp),if_neg (by simp),if_pos rfl];simp only [hc];rfl
  have e3:stepT (zgv (zgZ t0 1 [k]).1 1).2 ⟨4,0,0,[]⟩=(((zsZ (zgv (zgZ t0 1 [k]).1 1).2.g).e,[]),{(zgv (zgZ t0 1 [k]).1 1).2 with g:=zsZ (zgv (zgZ t0 1 [k]).1 1).2.g}):=by
    unfold stepT;rw [if_pos (by simp)]
  have hr:(runT t0 (zl3 k)).1=[(0,[]),(0,zoV (xsT (zgZ t0 1 [k]).1 1)),((zsZ (zgv (zgZ t0 1 [k]).1 1).2.g).e,[])]:=by
    unfold runT zl3
    simp only [List.foldl_cons,List.foldl_nil,List.nil_append,e1,e2,e3,List.cons_append]
  rw [hr]
theorem zOf {α:Type} (w d:α) (l:List α):gd (w :: l) d 0=w:=rfl
theorem zOg {α:Type} (w d:α) (l:List α) (q:Nat):gd (w :: l) d (q+1)=gd l d q:=by simp [gd,List.getD]
theorem zEP (x i:Nat) (hx:x < rN) (hi:i < 32):gd (zdk (w4 x)) 0 i=((x / 256 ^ i % 256:Nat):Int):=by
  unfold zdk
  rw [zkQ (by simp;omega)]
  unfold byW
  congr 1
  have hv:=zuv x hx
  have key:∀ (l:List W64) (q:Nat),(gd l 0#64 q).toNat=val l / 18446744073709551616 ^ q % 18446744073709551616:=by
    intro l
    induction l with
    | nil=>intro q;simp [gd,List.getD,val]
    | cons w l ih=>
      intro q
      have:=w.isLt
      cases q with
      | zero=>rw [zOf,val,Nat.pow_zero,Nat.div_one,Nat.add_mul_mod_self_left,Nat.mod_eq_of_lt this]
      | succ q=>rw [zOg,ih q,val,Nat.pow_succ,Nat.mul_comm (18446744073709551616 ^ q),← Nat.div_div_eq_div_mul,Nat.add_mul_div_left _ _ (by decide),Nat.div_eq_of_lt this,Nat.zero_add]
  rw [BitVec.toNat_ushiftRight,key,hv,Nat.shiftRight_eq_div_pow,show (2:Nat) ^ (8*(i % 8))=256 ^ (i % 8) by rw [Nat.pow_mul]]
  have e:256 ^ i=18446744073709551616 ^ (i / 8)*256 ^ (i % 8):=by
    rw [show 18446744073709551616=256 ^ 8 from rfl,← Nat.pow_mul,← Nat.pow_add,Nat.div_add_mod]
  rw [e,← Nat.div_div_eq_div_mul]
  generalize x / 18446744073709551616 ^ (i / 8)=y
  have h8:i % 8 < 8:=Nat.mod_lt _ (by decide)
  generalize i % 8=j at*
  have:j=0∨j=1∨j=2∨j=3∨j=4∨j=5∨j=6∨j=7:=by omega
  rcases this with rfl | rfl | rfl | rfl | rfl | rfl | rfl | rfl
  · rw [show 256 ^ 0=1 from rfl];omega
  · rw [show 256 ^ 1=256 from rfl];omega
  · rw [show 256 ^ 2=65536 from rfl];omega
  · rw [show 256 ^ 3=16777216 from rfl];omega
  · rw [show 256 ^ 4=4294967296 from rfl];omega
  · rw [show 256 ^ 5=1099511627776 from rfl];omega
  · rw [show 256 ^ 6=281474976710656 from rfl];omega
  · rw [show 256 ^ 7=72057594037927936 from rfl];omega
theorem zEQ {a b:Nat} (ha:a < pN) (hb:b < pN) (h:zdk (w4 a)=zdk (w4 b)):a=b:=by
  have hp:pN < rN:=by decide
  have key : ∀ k, k ≤ 32 → a % 256 ^ k = b % 256 ^ k := fun k => by
    induction k with
    | zero=>intro _;rw [Nat.pow_zero,Nat.mod_one,Nat.mod_one]
    | succ k ih=>
      intro hk
      have h1:=zEP a k (by omega) (by omega)
      have h2:=zEP b k (by omega) (by omega)
      rw [h,h2] at h1
      have h3:b / 256 ^ k % 256=a / 256 ^ k % 256:=by exact_mod_cast h1
      rw [Nat.mod_pow_succ,Nat.mod_pow_succ,ih (by omega),h3]
  have:=key 32 (Nat.le_refl _)
  have e:(256:Nat) ^ 32=rN:=by decide
  rwa [e,Nat.mod_eq_of_lt (by omega),Nat.mod_eq_of_lt (by omega)] at this
theorem zxM (k:Int) (hc:(zgv (zgZ (zkJ ppT) 1 [k]).1 1).1.2=0):(zoV (xsT (zgZ (zkJ ppT) 1 [k]).1 1)).length=32:=by
  rw [zvF,(zo2 hc).2];rfl
theorem zH5:zoV (xsT (zgZ (zkJ ppT) 1 [7]).1 1)≠zoV (xsT (zgZ (zkJ ppT) 1 [8]).1 1):=by
  intro h
  have l1:=(zo2 zKK).2
  have l2:=(zo2 zKL).2
  have e1:=zuP (zgZ (zkJ ppT) 1 [7]).1 1
  have e2:=zuP (zgZ (zkJ ppT) 1 [8]).1 1
  refine zQN (e1.trans (Eq.trans ?_ e2.symm))
  generalize xsT (zgZ (zkJ ppT) 1 [7]).1 1=x at*
  generalize xsT (zgZ (zkJ ppT) 1 [8]).1 1=y at*
  obtain ⟨a,rfl⟩:∃ a,x=[a]:=by
    match x,l1 with
    | [a],_=>exact ⟨a,rfl⟩
  obtain ⟨b,rfl⟩:∃ b,y=[b]:=by
    match y,l2 with
    | [b],_=>exact ⟨b,rfl⟩
  simp only [zoV,List.flatMap_cons,List.flatMap_nil,List.append_nil,feB] at h
  have hp:0 < pN:=by decide
  have:=zEQ (Nat.mod_lt a hp) (Nat.mod_lt b hp) h
  simp only [List.map_cons,List.map_nil]
  rw [← zI1 a,← zI1 b,this]
end Go.Av
namespace Go.Av
def zaw.tall (x:zaw):Prop:=x.b.length≤300∧x.n≤60
theorem zqh {fr:Fr} {h:zab} {R:Option (AEx × Fr × zab)} (hF:run ctx (zau h) (.loop zb3) fr (hx h [] [])=R) (l:List zaw) (hl:l.length < 9223372036854775808)
    (h6:fr 12=.vsl false (l.map zaw.cells)) (h7:fr 13=.int .i64 (l.length:Int)) (h8:fr 14=.int .i64 0) (h2:fr 2=.int .i64 300) (h3:fr 3=.int .i64 60):
    ∃ e fr' bs,R=some (e,fr',hx h bs [])∧(e=.exit 0∧(∀ x∈l,x.tall)∧fr' 1=fr 1∧fr' 4=fr 4∨e=.ret∧fr' 8=.bool true∧¬∀ x∈l,x.tall):=by
  obtain ⟨e,fr',h',rfl,⟨bs,rfl,hp⟩,hk⟩:=zaj hF l.length
    (fun k fr hh=>fr 14=.int .i64 (k:Int)∧∃ bs,hh=hx h bs []∧∀ i,i < k→(gd l zcz i).tall)
    (fun e fr hh=>∃ bs,hh=hx h bs []∧(e=.exit 0∧(∀ x∈l,x.tall)∨e=.ret∧fr 8=.bool true∧¬∀ x∈l,x.tall))
    ⟨h8, [], rfl, fun i hi => by omega⟩ (by
      rintro k fr1 hh hkN hkeep ⟨g8,bs,rfl,hall⟩
      have g6:=(hkeep 12 (by decide)).trans h6
      have g2:=(hkeep 2 (by decide)).trans h2
      have g3:=(hkeep 3 (by decide)).trans h3
      have g7:=(hkeep 13 (by decide)).trans h7
      by_cases hlt:k < l.length
      · have hltI : (k : Int) < (l.length : Int) := by omega
        have w0:IntKind.i64.wrap ((k:Int)+1)=k+1:=wrap_i64 (by omega) (by omega)
        have ia:=zsl .i64 false l k hlt
        have hm:=zuO (d:=zcz) hlt
        have hstep : (gd l zcz k).tall → ∀ i, i < k + 1 → (gd l zcz i).tall := fun hf i hi => by
          by_cases e:i=k
          · rw [e];exact hf
          · exact hall i (by omega)
        have hno:¬(gd l zcz k).tall→¬∀ x∈l,x.tall:=fun hn ha=>hn (ha _ hm)
        generalize gd l zcz k=x at*
        obtain ⟨d,ty,n,b⟩:=x
        simp only [zaw.cells] at ia
        have hno2:=fun hn:¬zaw.tall ⟨d,ty,n,b⟩=>hno hn
        simp only [zaw.tall] at hstep
        generalize l.map zaw.cells=lc at*
        by_cases h1:300 < b.length
        · have h1' : (300 : Int) < (b.length : Int) := by omega
          simp -implicitDefEqProofs [zb3,zau,g2,g3,g6,g7,g8,hltI,ia,zaf,zae,zbF,zah,h1']
          refine ⟨⟨_,rfl⟩,?_⟩
          have:=hno2 (fun hf=>by have h5:=hf.1;have h6:=hf.2;simp only at h5 h6;omega)
          simpa using this
        · have h1' : ¬ (300 : Int) < (b.length : Int) := by omega
          by_cases h2:60 < n
          · simp -implicitDefEqProofs [zb3,zau,g2,g3,g6,g7,g8,hltI,ia,zaf,zae,zbF,zah,h1',h2]
            refine ⟨⟨_,rfl⟩,?_⟩
            have:=hno2 (fun hf=>by have h5:=hf.1;have h6:=hf.2;simp only at h5 h6;omega)
            simpa using this
          · simp -implicitDefEqProofs [zb3,zau,g2,g3,g6,g7,g8,hltI,ia,zaf,zae,zbF,zah,h1',h2,w0]
            exact ⟨hlt,⟨_,rfl⟩,hstep (by omega)⟩
      · have : k = l.length := by omega
        subst this
        simp [zb3,g7,g8]
        refine ⟨⟨_,rfl⟩,fun x hx=>?_⟩
        obtain ⟨i,hi,rfl⟩:=List.mem_iff_getElem.1 hx
        have:=hall i hi
        rwa [show gd l zcz i=l[i] by simp [gd,List.getD,hi]] at this)
  refine ⟨e,fr',bs,rfl,?_⟩
  rcases hp with ⟨rfl,h1⟩ | h2
  · exact .inl ⟨rfl,h1,hk 1 (by decide),hk 4 (by decide)⟩
  · exact .inr h2
def zQO (p:List Int) (l:List zaw):Prop:=(∀ x∈l,x.tall)∧l.length≤12∧p.length≤1000
theorem zH6 (bk:Int) (p:List Int) (hpl:p.length < 9223372036854775808) (l:List zaw) (hl:l.length < 9223372036854775808):∃ q:Bool,(q=false↔zQO p l)∧∀ L h,zag ctx L zeU [.agg (scT bk p l),.int .i64 12,.int .i64 300,.int .i64 60] h=some (.bool q,h):=by
  have hlen:(l.map zaw.cells).length=l.length:=by simp
  by_cases hs:∀ x∈l,x.tall
  · by_cases hq:l.length≤12∧p.length≤1000
    · refine ⟨false, ⟨fun _ => ⟨hs, hq⟩, fun _ => rfl⟩, fun L h => ?_⟩
      have hlo:=fun fr R=>zqh (fr:=fr) (h:=h) (R:=R)
      have h1:¬(1000:Int) < (p.length:Int):=by omega
      have h2:¬(12:Int) < (l.length:Int):=by omega
      rw [ze0]
      simp only [scT]
      simp -implicitDefEqProofs [zdl,zau, -List.length_map,hlen,zaf,zae,fzA,zgK,zck,zaa.flat]
      generalize hF:run ctx _ (.loop _) _ _=R
      obtain ⟨e,fr',bs,rfl,⟨rfl,_,f1,f4⟩ | ⟨rfl,f2,hn⟩⟩:=hlo _ _ hF l hl (by simp) (by simp [-List.length_map,hlen]) (by simp) (by simp) (by simp)
      · simp at f1 f4
        simp -implicitDefEqProofs [f1,f4, -List.length_map,hlen,zae,h1,h2]
      · exact absurd hs hn
    · refine ⟨true, ⟨fun hh => by simp at hh, fun hh => absurd hh.2 hq⟩, fun L h => ?_⟩
      have hlo:=fun fr R=>zqh (fr:=fr) (h:=h) (R:=R)
      rw [ze0]
      simp only [scT]
      simp -implicitDefEqProofs [zdl,zau, -List.length_map,hlen,zaf,zae,fzA,zgK,zck,zaa.flat]
      generalize hF:run ctx _ (.loop _) _ _=R
      obtain ⟨e,fr',bs,rfl,⟨rfl,_,f1,f4⟩ | ⟨rfl,f2,hn⟩⟩:=hlo _ _ hF l hl (by simp) (by simp [-List.length_map,hlen]) (by simp) (by simp) (by simp)
      · simp at f1 f4
        by_cases h2:(12:Int) < (l.length:Int)
        · simp -implicitDefEqProofs [f1,f4, -List.length_map,hlen,zae,h2]
        · have h1 : (1000 : Int) < (p.length : Int) := by omega
          simp -implicitDefEqProofs [f1,f4, -List.length_map,hlen,zae,h1,h2]
      · simp -implicitDefEqProofs [f2]
  · refine ⟨true, ⟨fun hh => by simp at hh, fun hh => absurd hh.1 hs⟩, fun L h => ?_⟩
    have hlo:=fun fr R=>zqh (fr:=fr) (h:=h) (R:=R)
    rw [ze0]
    simp only [scT]
    simp -implicitDefEqProofs [zdl,zau, -List.length_map,hlen,zaf,zae,fzA,zgK,zck,zaa.flat]
    generalize hF:run ctx _ (.loop _) _ _=R
    obtain ⟨e,fr',bs,rfl,⟨rfl,h1,f1⟩ | ⟨rfl,f2,hn⟩⟩:=hlo _ _ hF l hl (by simp) (by simp [-List.length_map,hlen]) (by simp) (by simp) (by simp)
    · exact absurd h1 hs
    · simp -implicitDefEqProofs [f2]
end Go.Av
namespace Go.Av
def stB:List Int:=[1,16,0,1,1,1,0,0,0,0,0,2,3,1,0,0,0,0,0,0,1,1,0,7,2,1,0,4]
theorem zK6:zJE (stB.map Int.toNat)=.inr (1,ppT.map Int.toNat,[⟨0,1,0,[7]⟩,⟨2,0,1,[]⟩,⟨4,0,0,[]⟩]):=by rfl
def flT (c:Bool) (k:Int):List zaa:=[.int .i64 0,.int .i64 1,.int .i64 0,.vsl c (eI .u8 [k]),.int .i64 2,.int .i64 0,.int .i64 1,.vsl false [],.int .i64 4,.int .i64 0,.int .i64 0,.vsl false []]
theorem zK5 (L:Lim) (h:zab) (bs:List (List zaa)) (ts:List Nat):
    zag ctx L zih [.vsl true (eI .u8 stB)] (hx h bs ts)=some (.tup [.agg [.int .i64 1,.vsl false (eI .u8 ppT),sA h.blks.length bs.length 0 4 3 none],.int .i64 0],hx h (bs++[flT false 7]) ts):=by
  rw [zoW _ _ _ zpL]
  have h1:(eI .u8 stB).mapM zIQ=some (stB.map Int.toNat):=zAs stB (by decide)
  have h2:(stB.map Int.toNat).length≤100000:=by decide
  have h3:zeH 1 (eI .u8 stB)=true:=by simp
  simp only [zI5,zeo,zay,h3,if_true,Option.bind_some,h1,if_pos h2,zK6,zEe,Option.map_some]
  have h4:((([⟨0,1,0,[7]⟩,⟨2,0,1,[]⟩,⟨4,0,0,[]⟩]:List Cl).map clA).flatten)=flT false 7:=rfl
  have h5:eI .u8 (nI (ppT.map Int.toNat))=eI .u8 ppT:=rfl
  rw [h4,h5]
  simp [push,hx,sA]
theorem RdC.story (h:zab) (bs:List (List zaa)) (ts:List Nat) (i:Nat) (c:Bool) (k:Int) (hb:bs[i]?=some (flT c k)):RdC (hx h bs ts) (sA h.blks.length i 0 4 3 none) (zl3 k):=by
  refine ⟨rfl,fun j=>.ptr (h.blks.length+i) (0+j*4),fun j hj=>?_,fun j hj=>?_⟩
  · have hj3:j < 3:=hj
    simp [zbP,asI,sA];omega
  · have hj3:j < 3:=hj
    have hb2:(hx h bs ts).blks[h.blks.length+i]?=some (flT c k):=by
      simp only [hx];rw [List.getElem?_append_right (Nat.le_add_right _ _),Nat.add_sub_cancel_left];exact hb
    rcases (show j=0∨j=1∨j=2 by omega) with rfl | rfl | rfl
    · exact ⟨c,fun bs' ts'=>by rw [zhN (hx h bs ts) bs' ts' _ _ _ _ _ hb2];rfl⟩
    · exact ⟨false,fun bs' ts'=>by rw [zhN (hx h bs ts) bs' ts' _ _ _ _ _ hb2];rfl⟩
    · exact ⟨false,fun bs' ts'=>by rw [zhN (hx h bs ts) bs' ts' _ _ _ _ _ hb2];rfl⟩
theorem zAz (L:Lim) (h:zab) (bs:List (List zaa)) (ts:List Nat) (i:Nat) (c:Bool) (k:Int) (hb:bs[i]?=some (flT c k)) (hk:0≤k∧k < 256):
    zag ctx L zbp [.agg [.int .i64 1,.vsl false (eI .u8 ppT),sA h.blks.length i 0 4 3 none]] (hx h bs ts)=some (.tup [.vsl false ((zaL 1 ppT (zl3 k)).1.map An2),.int .i64 (zaL 1 ppT (zl3 k)).2.1,.int .i64 (zaL 1 ppT (zl3 k)).2.2],hx h bs ts):=
  zAK L (hx h bs ts) 1 (by decide) ppT (zqQ (by decide)) (by decide) (zl3 k) (by simp [zl3]) (by
    intro x hx
    simp only [zl3,List.mem_cons,List.not_mem_nil,or_false] at hx
    rcases hx with rfl | rfl | rfl
    · exact zqQ (by simpa using hk)
    · exact zi3
    · exact zi3) (by
    intro x hx
    simp only [zl3,List.mem_cons,List.not_mem_nil,or_false] at hx
    rcases hx with rfl | rfl | rfl <;> simp [zaw.few]) _ (RdC.story h bs ts i c k hb) rfl rfl
theorem zBZ (L:Lim) (h:zab):zag ctx L zcD [] h=some (.bool true,h):=by
  rw [zlA]
  have hsl:zaA (rep [zaa.int .u8 0] 28) [(0,1,.int .u8 1),(1,1,.int .u8 16),(2,1,.int .u8 0),(3,1,.int .u8 1),(4,1,.int .u8 1),(5,1,.int .u8 1),(6,1,.int .u8 0),(7,1,.int .u8 0),(8,1,.int .u8 0),(9,1,.int .u8 0),(10,1,.int .u8 0),(11,1,.int .u8 2),(12,1,.int .u8 3),(13,1,.int .u8 1),(14,1,.int .u8 0),(15,1,.int .u8 0),(16,1,.int .u8 0),(17,1,.int .u8 0),(18,1,.int .u8 0),(19,1,.int .u8 0),(20,1,.int .u8 1),(21,1,.int .u8 1),(22,1,.int .u8 0),(23,1,.int .u8 7),(24,1,.int .u8 2),(25,1,.int .u8 1),(26,1,.int .u8 0),(27,1,.int .u8 4)]=some (cI .u8 stB):=rfl
  have hch:chunks 1 28 (cI .u8 stB)=eI .u8 stB:=rfl
  have hsl1:zaA (rep [zaa.int .u8 0] 1) [(0,1,.int .u8 8)]=some (cI .u8 [8]):=rfl
  have hch1:chunks 1 1 (cI .u8 [8])=eI .u8 [8]:=rfl
  have hD:=fun L=>zK5 L h [] []
  have hP7:=fun L bs ts i hb=>zAz L h bs ts i false 7 hb (by decide)
  have hP8:=fun L bs ts i hb=>zAz L h bs ts i true 8 hb (by decide)
  rw [zxJ 7 zQL zKK] at hP7
  rw [zxJ 8 zQJ zKL] at hP8
  rw [zQM] at hP7
  have l7:=zxM 7 zKK
  have l8:=zxM 8 zKL
  have hne:=zH5
  have i7:inB (zoV (xsT (zgZ (zkJ ppT) 1 [7]).1 1)):=zvN _
  have i8:inB (zoV (xsT (zgZ (zkJ ppT) 1 [8]).1 1)):=zvN _
  generalize zoV (xsT (zgZ (zkJ ppT) 1 [7]).1 1)=d7 at*
  generalize zoV (xsT (zgZ (zkJ ppT) 1 [8]).1 1)=d8 at*
  generalize (zsZ (zgv (zgZ (zkJ ppT) 1 [8]).1 1).2.g).e=e8 at*
  have hby:(byA d7==byA d8)=false:=by
    cases hc:byA d7==byA d8 with
    | false=>rfl
    | true=>exact absurd (zEg i7 i8 ((Go.MapKept.bytes_beq _ _).1 hc)) hne
  have hs8:(flT false 7).set 3 (.vsl true (eI .u8 [8]))=flT true 8:=rfl
  have hf7:(flT false 7).length=12:=rfl
  have hst:=fun (L:Lim) (hL:L.rob≤h.blks.length) (hnb:L.nb≤h.blks.length) bs ts i off cs=>zmm L h bs ts i off cs (by simp only [Bool.and_eq_true,decide_eq_true_eq];exact ⟨hL,by omega⟩)
  have hia:zbP none 4 (sA h.blks.length 0 0 4 3 none) (.int .i64 0)=some (pA h.blks.length 0 0):=by simp [zbP,asI,sA,pA]
  simp only [List.length_nil,Nat.add_zero] at hD
  generalize stB=sb at*
  generalize ppT=pp at*
  have hi1:∀ (a c:List zaa) (x y:zaa),zbP none 2 (.vsl false [a,[x,y],c]) (.int .i64 1)=some (.vptr [x,y] 0):=fun a c x y=>by simp [zbP,asI]
  have hi2:∀ (a b:List zaa) (x y:zaa),zbP none 2 (.vsl false [a,b,[x,y]]) (.int .i64 2)=some (.vptr [x,y] 0):=fun a b x y=>by simp [zbP,asI]
  generalize flT false 7=f7 at*
  generalize flT true 8=f8 at*
  simp -implicitDefEqProofs [zfJ,zau,hsl,hch,hD,zbF,hst,setAt,zah,zaf,zae,hP7,hP8,hia,hsl1,hch1,hs8,hf7,An2,bne,l7,l8,hby,hi1,hi2]
end Go.Av
namespace Go.Av
theorem zAB {x:zaw} (h:x.tall):x.few:=⟨by have:=h.1;omega,fun _=>by have:=h.2;omega⟩
theorem zuN (t:Tc) (l:List zaw):∀ j,j≤l.length→∀ i,i < j→¬(gd (runT t (l.take j)).1 (0,[]) i).1=0→(runT t (l.take j)).2.g.e=(gd (runT t (l.take j)).1 (0,[]) i).1
  | 0,_,i,hi,_=>absurd hi (by omega)
  | j + 1, hj, i, hi, he => by
    have hlen:(runT t (l.take j)).1.length=j:=by rw [ziM,List.length_take];omega
    have hs:=zgM t l j (by omega)
    have h0:=zzb (runT t (l.take j)).2 (gd l zcz j)
    rw [hs] at he ⊢
    simp only at he ⊢
    by_cases h:i=j
    · subst h
      have e:gd ((runT t (l.take i)).1++[(stepT (runT t (l.take i)).2 (gd l zcz i)).1]) (0,[]) i=(stepT (runT t (l.take i)).2 (gd l zcz i)).1:=by simp [gd,List.getD,hlen]
      rw [e];exact h0
    · have e:gd ((runT t (l.take j)).1++[(stepT (runT t (l.take j)).2 (gd l zcz j)).1]) (0,[]) i=gd (runT t (l.take j)).1 (0,[]) i:=by
        simp [gd,List.getD,List.getElem?_append_left (show i < (runT t (l.take j)).1.length by omega)]
      rw [e] at he ⊢
      have ih:=zuN t l j (by omega) i (by omega) he
      have:¬(runT t (l.take j)).2.g.e=0:=by rw [ih];exact he
      rw [zsm this]
      exact ih
theorem zB1 (t:Tc) (l:List zaw) (i j:Nat) (hij:i < j) (hj:j < l.length) (he:¬(gd (runT t l).1 (0,[]) i).1=0):gd (runT t l).1 (0,[]) j=((gd (runT t l).1 (0,[]) i).1,[]):=by
  have h1:=zo4 t l l.length (Nat.le_refl _) j hj
  have h2:=zo4 t l l.length (Nat.le_refl _) i (by omega)
  have h3:=zo4 t l j (by omega) i hij
  rw [List.take_length] at h1 h2
  rw [h2] at he ⊢
  rw [h1]
  have h4:=zuN t l j (by omega) i hij (by rw [h3];exact he)
  rw [h3] at h4
  have:¬(runT t (l.take j)).2.g.e=0:=by rw [h4];exact he
  rw [zsm this,h4]
structure zQP (A:List (Int × List Int)):Prop where
  after:∀ i j,i < j→j < A.length→¬(gd A (0,[]) i).1=0→gd A (0,[]) j=((gd A (0,[]) i).1,[])
  none:∀ i,i < A.length→¬(gd A (0,[]) i).1=0→(gd A (0,[]) i).2=[]
theorem zzm (bk:Int) (p:List Int) (l:List zaw):zQP (zaL bk p l).1:=by
  refine ⟨fun i j hij hj he=>?_,fun i hi he=>?_⟩
  · unfold zaL at hj he ⊢
    by_cases h1:bk=1
    · rw [if_pos h1] at hj he ⊢
      by_cases h2:(zhX p).2.2=0
      · rw [if_pos h2] at hj he ⊢
        simp only [ziM] at hj he ⊢
        exact zB1 _ l i j hij hj he
      · rw [if_neg h2] at hj;simp at hj
    · rw [if_neg h1] at hj;simp at hj
  · have h0 : (zaL bk p l).2.2 = 0 := Classical.byContradiction fun h => by rw [zuD bk p l h] at hi; simp at hi
    obtain ⟨_,h2,h3⟩:=zst bk p l h0
    have:=(h3 i (by omega)).1
    unfold zEq at this
    rw [if_neg he] at this
    exact List.length_eq_zero_iff.1 (by omega)
theorem zxN {fr:Fr} {h:zab} {R:Option (AEx × Fr × zab)} (bk:Int) (hbk:bk≠2) (p:List Int) (hp:inB p) (hpl:p.length≤1000) (l:List zaw) (hl:l.length≤12) (hb:∀ x∈l,inB x.b) (hf:∀ x∈l,x.few) (h00:(zaL bk p l).2.2=0)
    (hF:run ctx (zau h) (.loop za9) fr (hx h [] [])=R)
    (h1:fr 1=.vptr (scT bk p l) 0) (h3:fr 3=.vsl false ((zaL bk p l).1.map An2)) (h6:fr 6=.int .i64 0) (h37:fr 37=.vsl false ((zaL bk p l).1.map An2)) (h38:fr 38=.int .i64 (((zaL bk p l).1.length:Nat):Int)) (h39:fr 39=.int .i64 0):
    ∃ fr' bs,R=some (.exit 0,fr',hx h bs []):=by
  obtain ⟨e,fr',h',rfl,⟨rfl,bs,rfl⟩,hk⟩:=zaj hF (zaL bk p l).1.length
    (fun k fr hh=>fr 39=.int .i64 (k:Int)∧(∃ bs,hh=hx h bs [])∧∃ c:Int,fr 6=.int .i64 c∧(c=0→∀ i,i < k→(gd (zaL bk p l).1 (0,[]) i).1=0)∧(¬c=0→∃ i,i < k∧(gd (zaL bk p l).1 (0,[]) i).1=c))
    (fun e fr hh=>e=.exit 0∧∃ bs,hh=hx h bs [])
    ⟨h39, ⟨[], rfl⟩, 0, h6, fun _ i hi => by omega, fun hh => absurd rfl hh⟩ (by
      rintro k fr1 hh hkN hkeep ⟨g39,⟨bs,rfl⟩,c,g6,hc0,hc1⟩
      have g1:=(hkeep 1 (by decide)).trans h1
      have g3:=(hkeep 3 (by decide)).trans h3
      have g37:=(hkeep 37 (by decide)).trans h37
      have g38:=(hkeep 38 (by decide)).trans h38
      have hst:=zzm bk p l
      have hlen:=(zst bk p l h00).2.1
      by_cases hlt:k < (zaL bk p l).1.length
      · have hltI : (k : Int) < ((zaL bk p l).1.length : Int) := by omega
        have w0:IntKind.i64.wrap ((k:Int)+1)=k+1:=wrap_i64 (by omega) (by omega)
        have ib:=zHJ .i64 false (zaL bk p l).1 k hlt
        have hsub:∀ x∈l.take k,x∈l:=fun x hx=>List.mem_of_mem_take hx
        have hO2:=fun L h=>zJo L h bk p (l.take k) (by rw [List.length_take];omega)
        have hP2:∀ L h,zag ctx L zbp [.agg (scT bk p (l.take k))] h=some (.tup [.vsl false ((zaL bk p (l.take k)).1.map An2),.int .i64 (zaL bk p (l.take k)).2.1,.int .i64 (zaL bk p (l.take k)).2.2],h):=fun L h=>zFg L h bk hbk p hp hpl (l.take k) (by rw [List.length_take];omega) (fun x hx=>hb x (hsub x hx)) (fun x hx=>hf x (hsub x hx))
        obtain ⟨t1,t2,t3⟩:=zBU bk p l k (by omega)
        rw [t1,t2,h00] at hP2
        have hans:=zEI bk p hp l hb hf
        have hT2:=fun L h c=>zEL L h c ((zaL bk p l).1.take k) (fun a ha=>hans a (List.mem_of_mem_take ha)) (by rw [List.length_take];omega)
        have hsA:zc0 .slc 2 (.vsl false ((zaL bk p l).1.map An2)) none (some (.int .i64 (k:Int))) none=some (.vsl false (((zaL bk p l).1.take k).map An2)):=by
          rw [zuE _ 2 _ k rfl (by simp;omega) (zv5 _),List.map_take]
        have hsC:zc0 .slc 4 (.vsl false (l.map zaw.cells)) none (some (.int .i64 (k:Int))) none=some (.vsl false ((l.take k).map zaw.cells)):=by
          rw [zuE _ 4 _ k rfl (by simp;omega) (zFk l),List.map_take]
        have heqs:∀ s:ByteArray,(s==s)=true:=fun s=>(Go.MapKept.bytes_beq _ _).2 rfl
        have hnone:=hst.none k hlt
        have hafter:=fun i hi he=>hst.after i k hi hlt he
        have hz:gd (zaL bk p l).1 (0,[]) k=gd (zaL bk p l).1 (0,[]) k:=rfl
        have hnext : (gd (zaL bk p l).1 (0, []) k).1 = 0 → c = 0 → ∀ i, i < k + 1 → (gd (zaL bk p l).1 (0, []) i).1 = 0 := fun h1 h2 i hi => by
          by_cases e:i=k
          · rw [e];exact h1
          · exact hc0 h2 i (by omega)
        have hex:∃ i,i < k+1∧(gd (zaL bk p l).1 (0,[]) i).1=(gd (zaL bk p l).1 (0,[]) k).1:=⟨k,by omega,rfl⟩
        simp only [scT] at g1 hO2 hP2
        generalize hak:gd (zaL bk p l).1 (0,[]) k=a at*
        obtain ⟨e,dr⟩:=a
        simp only at hnone hnext hex
        simp only [An2] at ib
        by_cases hcz:c=0
        · subst hcz
          by_cases he:e=0
          · subst he
            generalize (zaL bk p l).1.map An2=la at*
            simp -implicitDefEqProofs [za9,zau,g1,g3,g6,g37,g38,g39,hltI,ib,zaf,zae,zbF,zah,w0,bne]
            exact ⟨hlt,⟨_,rfl⟩,hnext rfl rfl⟩
          · have be : (e == 0) = false := by simp [he]
            have hd:=hnone he
            subst hd
            generalize (zaL bk p l).1.take k=tk at*
            generalize (zaL bk p l).1.map An2=la at*
            generalize (l.take k).map zaw.cells=lk at*
            generalize l.map zaw.cells=lc at*
            generalize tk.map An2=tm at*
            generalize (zmG (tk.map An3)).toArray=tx at*
            simp -implicitDefEqProofs [za9,zau,g1,g3,g6,g37,g38,g39,hltI,ib,zaf,zae,zbF,zah,setAt,zam,w0,bne,be,hsC,hsA,hO2,hP2,hT2,heqs]
            exact ⟨hlt,⟨_,rfl⟩,fun h=>absurd h he,fun _=>hex⟩
        · obtain ⟨i,hi,hie⟩:=hc1 hcz
          have:=hafter i hi (by rw [hie];exact hcz)
          rw [hie] at this
          obtain ⟨rfl,rfl⟩:=Prod.mk.inj this
          have be:(e==0)=false:=by simp [hcz]
          generalize (zaL bk p l).1.map An2=la at*
          simp -implicitDefEqProofs [za9,zau,g1,g3,g6,g37,g38,g39,hltI,ib,zaf,zae,zbF,zah,w0,bne,be]
          exact ⟨hlt,⟨_,rfl⟩,fun h=>absurd h hcz,fun _=>hex⟩
      · have : k = (zaL bk p l).1.length := by omega
        subst this
        simp [za9,g38,g39]
        exact ⟨_,rfl⟩)
  exact ⟨fr',bs,rfl⟩
theorem zxO (L:Lim) (h:zab) (bk:Int) (p:List Int) (hp:inB p) (hpl:p.length < 9223372036854775808) (l:List zaw) (hl:l.length < 9223372036854775808) (hb:∀ x∈l,inB x.b):
    zag ctx L zcC [.agg (scT bk p l)] h=some (.bool true,h):=by
  obtain ⟨q,hq1,hq2⟩:=zH6 bk p hpl l hl
  rw [zjf]
  have hSp:=zBZ
  have hfz:fzA h (.agg (scT bk p l))=some (.agg (scT bk p l),false):=by simp [scT,fzA,zgK,zck,zaa.flat]
  have hbox:znl (.agg (scT bk p l))=some (.vptr (scT bk p l) 0):=by simp [scT,znl,zaa.cells,zaa.okV]
  have hl3:(scT bk p l).length=3:=rfl
  have hp0:zeb false (scT bk p l) 0 1=some (.int .i64 bk):=rfl
  cases q with
  | true=>
    generalize scT bk p l=sc at*
    simp -implicitDefEqProofs [zbj,zau,hfz,hbox,hl3,hSp,hq2,zaf]
  | false=>
    obtain ⟨hs,h12,h1000⟩:=hq1.1 rfl
    by_cases hbk:bk=2
    · subst hbk
      generalize scT 2 p l=sc at*
      simp -implicitDefEqProofs [zbj,zau,hfz,hbox,hl3,hSp,hq2,hp0,zaf]
    · have bbk : (bk == 2) = false := by simp [hbk]
      have hO:=fun L h=>zJo L h bk p l (by omega)
      have hP2:∀ L h,zag ctx L zbp [.agg (scT bk p l)] h=some (.tup [.vsl false ((zaL bk p l).1.map An2),.int .i64 (zaL bk p l).2.1,.int .i64 (zaL bk p l).2.2],h):=fun L h=>zFg L h bk hbk p hp h1000 l (by omega) hb (fun x hx=>zAB (hs x hx))
      have hn:=zuD bk p l
      have hAl:((zaL bk p l).1.map An2).length=(zaL bk p l).1.length:=by simp
      by_cases he:(zaL bk p l).2.2=0
      · have hlo := fun fr R => zxN (fr := fr) (h := h) (R := R) bk hbk p hp h1000 l h12 hb (fun x hx => zAB (hs x hx)) he
        rw [he] at hP2
        generalize hsc:scT bk p l=sc at*
        generalize hla:(zaL bk p l).1.map An2=la at*
        simp -implicitDefEqProofs [zbj,zau,hfz,hbox,hl3,hSp,hq2,hp0,zaf,bbk,hO,hP2,bne,hAl]
        generalize hF:run ctx _ (.loop _) _ _=R
        obtain ⟨fr',bs,rfl⟩:=hlo _ _ hF (by simp) (by simp) (by simp) (by simp) (by simp [hAl]) (by simp)
        simp
      · have be : ((zaL bk p l).2.2 == 0) = false := by simp [he]
        rw [hn he] at hP2
        generalize hsc:scT bk p l=sc at*
        simp -implicitDefEqProofs [zbj,zau,hfz,hbox,hl3,hSp,hq2,hp0,zaf,bbk,hO,hP2,bne,be]
end Go.Av
