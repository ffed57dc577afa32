/- A script played: what its calls answer; the law's own functions, walked. -/
import Derived.Test.YtbookmjmhfoolaaGreatDoorC8
import Derived.Lib.ItoaLen
set_option linter.unusedSimpArgs false
set_option linter.unusedVariables false
set_option maxHeartbeats 2000000
set_option maxRecDepth 20000
namespace Go.Av
theorem zz3 {L:Lim} {H:zab} {sz:Nat} {ref:Bool} {x y:zaa} {ys:List (List zaa)} (hy:zaA H sz y=some ys) (hs:zfG sz y=true):zq1 L H sz ref x y=zq1 L H sz ref x (.vsl false ys):=by
  unfold zq1
  rw [hy,show zaA H sz (.vsl false ys)=some ys by simp only [zaA],hs,show zfG sz (.vsl false ys)=true by simp only [zfG]]
theorem zH7 (kd:IntKind) (c:Bool) (xs:List Nat) (i:Nat) (h:i < xs.length):zcG none 4 (.vsl c ((xs.map fe).map cW)) (.int kd (i:Int))=some (.vptr (cW (fe (gd xs 0 i))) 0):=by
  simp [zcG,asI,gd,List.getD,h]
def zvQ (xs:List Nat):List Int:=xs.flatMap feB
theorem zBU (xs:List Nat) (k:Nat) (h:k < xs.length):zvQ (xs.take (k+1))=zvQ (xs.take k)++feB (gd xs 0 k):=by
  have:xs.take (k+1)=xs.take k++[gd xs 0 k]:=by rw [List.take_add_one];simp [gd,List.getD,h]
  rw [this];simp [zvQ]
theorem zyQ (xs:List Nat):(zvQ xs).length=32*xs.length:=by
  induction xs with
  | nil=>rfl
  | cons x xs ih=>simp [zvQ] at ih ⊢;omega
structure zaF where
  d:Int
  ty:Int
  n:Int
  b:List Int
def zaF.cells (x:zaF):List zaa:=[.int .i64 x.d,.int .i64 x.ty,.int .i64 x.n,.vsl false (eI .u8 x.b)]
def zcE:zaF:=⟨0,0,0,[]⟩
def zaF.few (x:zaF):Prop:=x.b.length≤400∧(x.n≤1048576→x.n≤100)
theorem zox (kd:IntKind) (c:Bool) (l:List zaF) (i:Nat) (h:i < l.length):zcG none 4 (.vsl c (l.map zaF.cells)) (.int kd (i:Int))=some (.vptr (gd l zcE i).cells 0):=by
  simp [zcG,asI,gd,List.getD,h,zaF.cells]
noncomputable def stepT (t:Tc) (x:zaF):(Int × List Int) × Tc:=
  if x.d < 0∨x.d > 3 then (((zxs t.g).e,[]),{t with g:=zxs t.g}) else doT t x.d x.ty x.n x.b
theorem zFX {t:Tc} (h:t.ok) {x:zaF} (hb:inB x.b) (hx:x.few):(stepT t x).2.ok∧(stepT t x).2.s.c≤t.s.c+300000:=by
  unfold stepT
  split
  · exact ⟨zJC h,by simp only;omega⟩
  · exact zK1 h _ _ _ hb hx.1 hx.2
end Go.Av
namespace Go.Av
theorem zC9 (L:Lim) (h:zab) (p:zaa) (n i:Nat) (es:List (List zaa)):stK L h 1 p (gL .nsl n i es)=stM (zcu L h p [gL .nsl n i es]):=by
  unfold gL;split <;> simp [stK,zaa.cells,zaa.okV,gA]
theorem zFY {L:Lim} {fr:Fr} {h:zab} {R:Option (AEx × Fr × zab)} (B:List (List zaa)) (ts:List Nat) (e0:Int) (bi:Nat) (hbi:bi < B.length) (xs:List Nat) (hxs:xs.length < 100000) (hL:L.rob≤h.blks.length) (hnb:L.nb≤h.blks.length+bi) (hT:L.rot≤h.toks.length)
    (hF:run ctx L (.loop zcW) fr (hx h B ts)=R) (hB:B[bi]?=some [.int .i64 e0,.nsl])
    (h47:fr 47=.vsl false ((xs.map fe).map cW)) (h48:fr 48=.int .i64 (xs.length:Int)) (h9:fr 9=pA h.blks.length bi 0) (h49:fr 49=.int .i64 0):
    ∃ fr' jk us,R=some (.exit 1,fr',hx h (B.set bi [.int .i64 e0,gL .nsl h.toks.length ts.length (eI .u8 (zvQ xs))]++jk) (ts++us))∧∀ t,t∉wr zcW→fr' t=fr t:=by
  obtain ⟨e,fr',h',rfl,⟨rfl,jk,us,rfl⟩,hk⟩:=zaj hF xs.length
    (fun k fr hh=>fr 49=.int .i64 (k:Int)∧∃ jk,hh=hx h (B.set bi [.int .i64 e0,gL .nsl h.toks.length ts.length (eI .u8 (zvQ (xs.take k)))]++jk) (ts++gT (eI .u8 (zvQ (xs.take k)))))
    (fun e fr hh=>e=.exit 1∧∃ jk us,hh=hx h (B.set bi [.int .i64 e0,gL .nsl h.toks.length ts.length (eI .u8 (zvQ xs))]++jk) (ts++us))
    ⟨h49,[],by
      have:B.set bi [.int .i64 e0,.nsl]=B:=by
        obtain ⟨h1,h2⟩:=List.getElem?_eq_some_iff.1 hB
        rw [← h2,List.set_getElem_self]
      simp [zvQ,gL,gT,this]⟩ (by
      rintro k fr1 hh hkN hkeep ⟨g49,jk,rfl⟩
      have g9:=(hkeep 9 (by decide)).trans h9
      have g47:=(hkeep 47 (by decide)).trans h47
      have g48:=(hkeep 48 (by decide)).trans h48
      by_cases hlt:k < xs.length
      · have hltI : (k : Int) < (xs.length : Int) := by omega
        have w0:IntKind.i64.wrap ((k:Int)+1)=k+1:=wrap_i64 (by omega) (by omega)
        have ia:=zH7 .i64 false xs k hlt
        have hsu:=zBU xs k hlt
        have hfl:=zyQ (xs.take k)
        rw [List.length_take,Nat.min_eq_left (Nat.le_of_lt hlt)] at hfl
        have hBy:=fun L h=>zFb L h (gd xs 0 k)
        have hbl:=zCj (gd xs 0 k)
        have hcl:(cW (fe (gd xs 0 k))).length=4:=rfl
        have hfl4:(fe (gd xs 0 k)).length=4:=rfl
        generalize feB (gd xs 0 k)=b at*
        generalize fe (gd xs 0 k)=f4 at*
        generalize (xs.map fe).map cW=lw at*
        generalize zvQ (xs.take k)=acc at*
        have hroom:acc.length+b.length < zas:=by unfold zas;omega
        obtain ⟨B1,hB1⟩:∃ B1,B1=B.set bi [.int .i64 e0,gL .nsl h.toks.length ts.length (eI .u8 acc)]:=⟨_,rfl⟩
        have hB1l:B1.length=B.length:=by rw [hB1];simp
        have hB1g:B1[bi]?=some [.int .i64 e0,gL .nsl h.toks.length ts.length (eI .u8 acc)]:=by rw [hB1];simp [hbi]
        have hB1s:∀ v,B1.set bi v=B.set bi v:=fun v=>by rw [hB1,List.set_set]
        rw [← hB1]
        have hap : ∀ (B : List (List zaa)) i, B[i]? = some (cI .u8 b) → zq1 L (hx h B (ts ++ gT (eI .u8 acc))) 1 false (gL .nsl h.toks.length ts.length (eI .u8 acc)) (sA h.blks.length i 0 1 32 (some 32)) = some (gL .nsl h.toks.length ts.length (eI .u8 (acc ++ b)), hx h B (ts ++ gT (eI .u8 (acc ++ b)))) := fun B i hB => by
          rw [zz3 (ys:=eI .u8 b) (by rw [zuH h B _ i 32 (cI .u8 b) (some 32) hB (by simpa using hbl),zqS]) (by simp [zfG,sA])]
          have:=zyE L h B ts 1 false (eI .u8 acc) (eI .u8 b) (by simp [hT,hroom])
          simpa using this
        have gA:=fun x=>zoL B1 jk [x] B1.length 0 rfl
        have sA1:=fun x v=>zoM B1 jk [x] B1.length 0 v rfl
        have gB:=fun x y=>zoL B1 jk [x,y] B1.length 1 rfl
        have sB1:=fun x y v=>zoM B1 jk [x,y] B1.length 1 v rfl
        simp only [Nat.add_zero,List.getElem?_cons_zero,List.set_cons_zero,List.getElem?_cons_succ,List.set_cons_succ] at gA sA1 gB sB1
        have hsl:=fun i=>zln 32 1 h.blks.length i 0 (by decide)
        have hap1:=fun x=>hap (B1++(jk++[x,cI .u8 b])) (B1.length+(jk.length+1)) (gB _ _)
        have hz4:(cW (tab 4 fun _=>0#64)).length=4:=rfl
        have gI:∀ w:List (List zaa),(B1++w)[bi]?=some [.int .i64 e0,gL .nsl h.toks.length ts.length (eI .u8 acc)]:=fun w=>by rw [List.getElem?_append_left (by omega),hB1g]
        have sI:∀ (w:List (List zaa)) v,(B1++w).set bi v=B.set bi v++w:=fun w v=>by rw [List.set_append_left _ _ (by omega),hB1s]
        clear hB1 hB1g hB1s
        have hst:=fun w us off cs=>zpR L h (B1++w) us bi off cs (by simp only [Bool.and_eq_true,decide_eq_true_eq];exact ⟨hL,hnb⟩)
        simp -implicitDefEqProofs [zcW,g9,g47,g48,g49,hltI,zam,zak,ia,hBy,zgf,zbi,hL,hT,zan,zbB,zah,zaf,hcl,hfl4,hbl,hz4,hsl,gA,sA1,gB,sB1,hap1,gI,sI,w0,zC9,setAt,hst]
        exact ⟨hlt,_,by rw [hsu]⟩
      · have : k = xs.length := by omega
        subst this
        rw [List.take_length]
        simp [zcW,g48,g49]
        exact ⟨jk,_,rfl⟩)
  exact ⟨fr',jk,us,rfl,hk⟩
def An2 (a:Int × List Int):List zaa:=[.int .i64 a.1,.vsl false (eI .u8 a.2)]
theorem zC8 (h:zab) (nb nt n:Nat) (e:Int) (b:List Int) (v:zaa) (hv:frz h nb nt n v=some (.vsl false (eI .u8 b))) (hn:n≠0) (hf:zb4 [.int .i64 e,v]=false):frz h nb nt (n+1) (.agg [.int .i64 e,v])=some (.agg [.int .i64 e,.vsl false (eI .u8 b)]):=by
  obtain ⟨m,rfl⟩:∃ m,n=m+1:=⟨n - 1,by omega⟩
  rw [zjE _ _ _ _ _ hf]
  have:frz h nb nt (m+1) (.int .i64 e)=some (.int .i64 e):=by simp only [frz]
  simp [zBi,this,hv]
theorem zLX (L:Lim) (h:zab) (js:List (List zaa)) (ts:List Nat) (t:Tc) (ht:t.ok) (hc:t.s.c < 10000000) (x:zaF) (hb:inB x.b) (hfew:x.few) (hL:L.rob≤h.blks.length) (hT:L.rot≤h.toks.length):
    zag ctx L zeK [.agg x.cells,pA h.blks.length 1 0] (hx h (trB h.blks.length [] t js) ts)=some (.agg (An2 (stepT t x).1),hx h (trB h.blks.length [] (stepT t x).2 js) ts):=by
  rw [znt]
  have hk:t.g.k < 1000000000:=by have:=ht.k;have:=ht.l;omega
  obtain ⟨d,ty,N,b⟩:=x
  simp only [zaF.few] at hfew
  obtain ⟨hbl,hN⟩:=hfew
  simp only at hb
  have hA:=fun L hL js=>zAu L h [] js ts t ty false b hb (by omega) hk ht.s hc ht.tg hL
  have hS:=fun L hL hT js=>zx9 L h [] js ts t N hk ht.s hc ht.tg (fun h0=>by have:=hN (ht.count h0);omega) hL hT
  have hC:=fun L hL hT js=>zu3 L h [] js ts t N hk ht.s hc ht.tg (fun h0=>by have:=hN (ht.count h0);omega) hL hT
  have hR:=fun L hL js=>zyb L h [] js ts t hk ht.s hc ht.tg hL
  have hFi:=fun L hL js=>zAt L h [] js ts t hL
  have hle:=zHZ t N 100 (fun h0=>by have:=hN (ht.count h0);omega)
  rw [zyK] at hC
  have hgw:=fun t js y=>zxO h.blks.length [] t js [y] 0
  have hsw:=fun t js y v=>zof h.blks.length [] t js [y] 0 v
  have hgwG:=fun t js y hh=>ztU h.blks.length [] t js y hh
  have happ:=fun t js w=>znl h.blks.length [] t js w
  have hln:=fun t js=>zbE h.blks.length [] t js
  have htr:=fun t w us=>zCu h.blks.length [] t js h ts us w
  have htr0:=fun t=>zrO h.blks.length [] t js h ts
  have htr1:=fun t w=>zr7 h.blks.length [] t js h ts w
  simp only [List.length_nil,Nat.zero_add,Nat.add_zero,List.getElem?_cons_zero,List.set_cons_zero] at hA hS hC hR hFi hgw hsw hgwG hln htr htr0 htr1
  have hfz:=fun hh nb nt m e (l:List Int)=>zC8 hh nb nt (m+1) e l (.vsl false (eI .u8 l)) (zhO hh nb nt m false (by simp)) (by omega) rfl
  have hfz0:=fun hh nb nt m e=>zC8 hh nb nt (m+1) e [] .nsl (by simp [eI]) (by omega) rfl
  unfold An2
  simp only [zaF.cells]
  by_cases h0:d=0
  · have hd : stepT t ⟨d, ty, N, b⟩ = (((zBg t ty b).2, []), (zBg t ty b).1) := by unfold stepT; rw [if_neg (by simp only; omega)]; exact if_pos h0
    rw [hd]
    subst h0
    simp -implicitDefEqProofs [zbG,zmB,zam,zak,hln,happ,hgw,hsw,hgwG,zaf,zae,zbB,zah,zan,zap,zaa.under,zay,zaa.cells,zaa.okV,setAt,hA,hL,hfz0,htr0,htr1]
  · have b0 : (d == 0) = false := by simp [h0]
    by_cases h1:d=1
    · have hd : stepT t ⟨d, ty, N, b⟩ = (((zwv t N).1.2, (zwv t N).1.1), (zwv t N).2) := by unfold stepT; rw [if_neg (by simp only; omega)]; unfold doT; rw [if_neg h0, if_pos h1]
      rw [hd]
      subst h1
      simp -implicitDefEqProofs [zbG,zmB,zam,zak,hln,happ,hgw,hsw,hgwG,zaf,zae,zbB,zah,zan,zap,zaa.under,zay,zaa.cells,zaa.okV,setAt,hS,hL,hT,hfz,htr0,htr1]
    · have b1 : (d == 1) = false := by simp [h1]
      by_cases h2:d=2
      · have hd : stepT t ⟨d, ty, N, b⟩ = (((zmU t N).1.2, zvQ (xsT t N)), (zmU t N).2) := by unfold stepT; rw [if_neg (by simp only; omega)]; unfold doT; rw [if_neg h0, if_neg h1, if_pos h2]; rfl
        rw [hd]
        subst h2
        have hlen:(((xsT t N).map fe).map cW).length=(xsT t N).length:=by simp
        have hfg:=fun hh m=>zoI (h1:=hh) (nb:=h.blks.length+(4+js.length)) (nt:=h.toks.length+ts.length) (n:=m) (s:=.nsl) (es:=eI .u8 (zvQ (xsT t N))) (.inl rfl) (by simp)
        simp only [zIu] at hfg
        generalize xsT t N=xs at*
        generalize hlw:(xs.map fe).map cW=lw at*
        have hgw0:=fun t js y z=>zxO h.blks.length [] t js [y,z] 0
        have hgw1:=fun t js y z=>zxO h.blks.length [] t js [y,z] 1
        have hgwG0:∀ t js y z hh,(trB h.blks.length [] t (js++[y,z]))[4+js.length]'hh=y:=fun t js y z hh=>(List.getElem?_eq_some_iff.1 (by simpa using hgw0 t js y z)).2
        have hgwG1:∀ t js y z hh,(trB h.blks.length [] t (js++[y,z]))[4+(js.length+1)]'hh=z:=fun t js y z hh=>(List.getElem?_eq_some_iff.1 (by simpa [Nat.add_assoc] using hgw1 t js y z)).2
        have hsw0:=fun t js y z v=>zof h.blks.length [] t js [y,z] 0 v
        have hsw1:=fun t js y z v=>zof h.blks.length [] t js [y,z] 1 v
        simp only [List.length_nil,Nat.zero_add,Nat.add_zero,Nat.add_assoc,List.getElem?_cons_zero,List.set_cons_zero,List.getElem?_cons_succ,List.set_cons_succ] at hgw0 hgw1 hsw0 hsw1
        simp -implicitDefEqProofs [zbG,zmB,zam,zak,hln,happ,hgw,hsw,hgwG,hgw0,hgw1,hsw0,hsw1,hgwG0,hgwG1,zaf,zae,zbB,zah,zan,zap,zaa.under,zay,zaa.cells,zaa.okV,setAt,hC,hL,hT,hlen]
        generalize hF:run ctx _ (.loop _) _ _=R
        obtain ⟨fr',jk,us,rfl,hk'⟩:=zFY (trB h.blks.length [] (zmU t N).2 (js++[[.int .i64 0,.nsl],[.int .i64 (zmU t N).1.2,.nsl]])) ts (zmU t N).1.2 (4+(js.length+1)) (by rw [zbE];simp) xs (by omega) (by first | exact hL | simpa using hL) (by simp) (by first | exact hT | simpa using hT) hF (by rw [hgw1]) (by simp [hlw]) (by simp) (by simp) (by simp)
        have k9:=hk' 9 (by decide)
        have k4:=hk' 4 (by decide)
        have k2:=hk' 2 (by decide)
        simp at k9 k4 k2
        have hfa:=fun hh m=>zC8 hh (h.blks.length+(4+js.length)) (h.toks.length+ts.length) (m+1) (zmU t N).1.2 (zvQ xs) (gL .nsl h.toks.length ts.length (eI .u8 (zvQ xs))) (hfg hh m) (by omega) (by unfold gL;split <;> rfl)
        have hw0:=fun t js y z jk=>zxO h.blks.length [] t js (y :: z :: jk) 0
        have hw1:=fun t js y z jk=>zxO h.blks.length [] t js (y :: z :: jk) 1
        have ws0:=fun t js y z jk v=>zof h.blks.length [] t js (y :: z :: jk) 0 v
        simp only [List.length_nil,Nat.zero_add,Nat.add_zero,Nat.add_assoc,List.getElem?_cons_zero,List.set_cons_zero,List.getElem?_cons_succ,List.set_cons_succ] at hw0 hw1 ws0
        have hwG0:∀ t js y z jk hh,(trB h.blks.length [] t (js++y :: z :: jk))[4+js.length]'hh=y:=fun t js y z jk hh=>(List.getElem?_eq_some_iff.1 (hw0 t js y z jk)).2
        have hwG1:∀ t js y z jk hh,(trB h.blks.length [] t (js++y :: z :: jk))[4+(js.length+1)]'hh=z:=fun t js y z jk hh=>(List.getElem?_eq_some_iff.1 (hw1 t js y z jk)).2
        have hst:=fun (L:Lim) (hL:L.rob≤h.blks.length) (hnb:L.nb≤h.blks.length+(4+js.length)) js2 us off cs=>zpR L h (trB h.blks.length [] (zmU t N).2 js2) us (4+js.length) off cs (by simp only [Bool.and_eq_true,decide_eq_true_eq];exact ⟨hL,hnb⟩)
        rw [hsw1]
        simp -implicitDefEqProofs [k9,k4,k2,zam,zak,hln,happ,hw0,hw1,hwG0,hwG1,ws0,hst,hfa,zaf,zbB,zah,hL,htr]
      · have b2 : (d == 2) = false := by simp [h2]
        by_cases h3:d=3
        · have hd : stepT t ⟨d, ty, N, b⟩ = (((zBl t).2, []), (zBl t).1) := by unfold stepT; rw [if_neg (by simp only; omega)]; unfold doT; rw [if_neg h0, if_neg h1, if_neg h2]
          rw [hd]
          subst h3
          simp -implicitDefEqProofs [zbG,zmB,zam,zak,hln,happ,hgw,hsw,hgwG,zaf,zae,zbB,zah,zan,zap,zaa.under,zay,zaa.cells,zaa.okV,setAt,hR,hL,hfz0,htr0,htr1]
        · have b3 : (d == 3) = false := by simp [h3]
          have hd:stepT t ⟨d,ty,N,b⟩=(((zxs t.g).e,[]),{t with g:=zxs t.g}):=by unfold stepT;rw [if_pos (by simp only;omega)]
          rw [hd]
          simp -implicitDefEqProofs [zbG,zmB,zam,zak,hln,happ,hgw,hsw,hgwG,zaf,zae,zbB,zah,zan,zap,zaa.under,zay,zaa.cells,zaa.okV,setAt,b0,b1,b2,b3,hFi,hL,hfz0,htr0,htr1]
noncomputable def runT (t:Tc) (l:List zaF):List (Int × List Int) × Tc:=l.foldl (fun q x=>(q.1++[(stepT q.2 x).1],(stepT q.2 x).2)) ([],t)
theorem zwx (t:Tc) (l:List zaF) (x:zaF):runT t (l++[x])=((runT t l).1++[(stepT (runT t l).2 x).1],(stepT (runT t l).2 x).2):=by
  unfold runT;rw [List.foldl_append];rfl
theorem zoE (t:Tc) (l:List zaF) (k:Nat) (h:k < l.length):runT t (l.take (k+1))=((runT t (l.take k)).1++[(stepT (runT t (l.take k)).2 (gd l zcE k)).1],(stepT (runT t (l.take k)).2 (gd l zcE k)).2):=by
  have:l.take (k+1)=l.take k++[gd l zcE k]:=by rw [List.take_add_one];simp [gd,List.getD,h]
  rw [this,zwx]
theorem zu4 (t:Tc) (l:List zaF):(runT t l).1.length=l.length:=by
  obtain ⟨n,hn⟩:∃ n,n=l.length:=⟨_,rfl⟩
  induction n generalizing l with
  | zero => have : l = [] := by cases l with | nil => rfl | cons => simp at hn
            subst this;rfl
  | succ n ih=>
    have hl:l=l.take n++[gd l zcE n]:=by
      have:l.take (n+1)=l:=by rw [hn,List.take_length]
      rw [List.take_add_one] at this
      conv=>lhs;rw [← this]
      simp [gd,List.getD,show n < l.length by omega]
    rw [hl,zwx]
    have:=ih (l.take n) (by rw [List.length_take];omega)
    simp [this]
theorem zDa {t:Tc} (ht:t.ok) (l:List zaF) (hb:∀ x∈l,inB x.b) (hf:∀ x∈l,x.few):∀ k,k≤l.length→(runT t (l.take k)).2.ok∧(runT t (l.take k)).2.s.c≤t.s.c+300000*k
  | 0,_=>by rw [List.take_zero];exact ⟨ht,by simp [runT]⟩
  | k + 1, h => by
    have ih:=zDa ht l hb hf k (by omega)
    have hm:=zwV (d:=zcE) (show k < l.length by omega)
    have:=zFX ih.1 (hb _ hm) (hf _ hm)
    rw [zoE t l k (by omega)]
    exact ⟨this.1,by simp only;omega⟩
theorem zF3 (l:List (Int × List Int)):zfe 2 (l.map An2)=true:=by cases l <;> simp [zfe,An2]
theorem zwy (nb nt:Nat):∀ l:List (Int × List Int),zaw nb nt (l.map An2)=true
  | []=>by simp [zaw]
  | c :: cs => by
    have ih:=zwy nb nt cs
    simp [zaw,ih,An2,zap,zaa.under,zuX]
theorem zDd {fr:Fr} {h:zab} {R:Option (AEx × Fr × zab)} (l:List zaF) (hl:l.length≤20) (hb:∀ x∈l,inB x.b) (hf:∀ x∈l,x.few) (t0:Tc) (ht0:t0.ok) (hc0:t0.s.c=0)
    (hF:run ctx (zau h) (.loop zga) fr (hx h (trB h.blks.length [] t0 []) [])=R)
    (h5:fr 5=pA h.blks.length 1 0) (h8:fr 8=.nsl) (h25:fr 25=.vsl false (l.map zaF.cells)) (h26:fr 26=.int .i64 (l.length:Int)) (h27:fr 27=.int .i64 0):
    ∃ fr' bs ts,R=some (.exit 0,fr',hx h bs ts)∧fr' 8=gL .nsl h.toks.length 0 ((runT t0 l).1.map An2):=by
  obtain ⟨e,fr',h',rfl,⟨rfl,⟨bs,ts,rfl⟩,h8'⟩,hk⟩:=zaj hF l.length
    (fun k fr hh=>fr 27=.int .i64 (k:Int)∧fr 8=gL .nsl h.toks.length 0 ((runT t0 (l.take k)).1.map An2)∧∃ js,hh=hx h (trB h.blks.length [] (runT t0 (l.take k)).2 js) (gT ((runT t0 (l.take k)).1.map An2)))
    (fun e fr hh=>e=.exit 0∧(∃ bs ts,hh=hx h bs ts)∧fr 8=gL .nsl h.toks.length 0 ((runT t0 l).1.map An2))
    ⟨h27, by simpa [runT, gL] using h8, [], by simp [runT, gT]⟩ (by
      rintro k fr1 hh hkN hkeep ⟨g27,g8,js,rfl⟩
      have g5:=(hkeep 5 (by decide)).trans h5
      have g25:=(hkeep 25 (by decide)).trans h25
      have g26:=(hkeep 26 (by decide)).trans h26
      by_cases hlt:k < l.length
      · have hltI : (k : Int) < (l.length : Int) := by omega
        have w0:IntKind.i64.wrap ((k:Int)+1)=k+1:=wrap_i64 (by omega) (by omega)
        have ia:=zox .i64 false l k hlt
        have hm:=zwV (d:=zcE) hlt
        have hxb:=hb _ hm
        have hxf:=hf _ hm
        have hsu:=zoE t0 l k hlt
        have hok:=zDa ht0 l hb hf k (by omega)
        have hal:(runT t0 (l.take k)).1.length=k:=by rw [zu4,List.length_take];omega
        generalize runT t0 (l.take k)=q at*
        obtain ⟨acc,t⟩:=q
        simp only at hok hal hsu g8
        generalize gd l zcE k=x at*
        generalize l.map zaF.cells=lc at*
        have hDo:=fun L hL hT js ts=>zLX L h js ts t hok.1 (by omega) x hxb hxf hL hT
        have hcl:x.cells.length=4:=rfl
        have hca:x.cells=[.int .i64 x.d,.int .i64 x.ty,.int .i64 x.n,.vsl false (eI .u8 x.b)]:=rfl
        have hap := fun (L : Lim) (hT : L.rot ≤ h.toks.length) B => zpM L h B 2 true (acc.map An2) [An2 (stepT t x).1] (by
          simp only [zF3,List.length_map,hal,Bool.and_eq_true,decide_eq_true_eq]
          exact ⟨⟨⟨rfl,trivial⟩,hT⟩,by unfold zas;simp only [List.length_cons,List.length_nil];omega⟩)
        have hmm:acc.map An2++[An2 (stepT t x).1]=(acc++[(stepT t x).1]).map An2:=by simp
        rw [hmm] at hap
        have hfi:∀ a,zay (rep [zaa.int .i64 0,.nsl] 1) [(0,2,.agg (An2 a))]=some (An2 a):=fun a=>rfl
        have hch:∀ a,chunks 2 1 (An2 a)=[An2 a]:=fun a=>rfl
        have hgw:=fun t js y=>zxO h.blks.length [] t js [y] 0
        have hsw:=fun t js y v=>zof h.blks.length [] t js [y] 0 v
        have hgwG:=fun t js y hh=>ztU h.blks.length [] t js y hh
        have happ:=fun t js w=>znl h.blks.length [] t js w
        have hln:=fun t js=>zbE h.blks.length [] t js
        simp only [List.length_nil,Nat.zero_add,Nat.add_zero,List.getElem?_cons_zero,List.set_cons_zero] at hgw hsw hgwG hln
        generalize stepT t x=r at*
        obtain ⟨a,t2⟩:=r
        simp only at hDo hap hsu
        simp -implicitDefEqProofs [zga,zau,g5,g8,g25,g26,g27,hltI,ia,zam,zak,hln,happ,hgw,hsw,hgwG,zaf,zae,zbB,zah,zan,zap,zaa.under,hcl,hDo,hfi,hch,hap,w0]
        rw [hsu,List.map_append]
        exact ⟨hlt,rfl,_,rfl⟩
      · have : k = l.length := by omega
        subst this
        rw [List.take_length] at g8
        simp [zga,g26,g27]
        exact ⟨⟨_,_,rfl⟩,g8⟩)
  exact ⟨fr',bs,ts,rfl,h8'⟩
theorem zF5 (L:Lim) (h:zab) (c:Bool) (bk:Int) (h1:(bk==1)=false) (h2:(bk==2)=false) (y:zaa):
    zag ctx L zdc [.int .i64 bk,y] h=some (.tup [.nilp,.int .i64 (-1),.int .i64 15],h):=by
  rw [zhR]
  simp -implicitDefEqProofs [zdf,zau,bne,h1,h2,zxd]
noncomputable def zhV (bk:Int) (p:List Int) (l:List zaF):List (Int × List Int) × Int × Int:=
  if bk=1 then (if (ziv p).2.2=0 then ((runT (zBn p) l).1, -1,0) else ([],(ziv p).2.1,(ziv p).2.2)) else ([], -1,15)
theorem zIX (L:Lim) (h:zab) (bk:Int) (hbk:bk≠2) (p:List Int) (hp:inB p) (hpl:p.length≤1000) (l:List zaF) (hl:l.length≤20) (hb:∀ x∈l,inB x.b) (hf:∀ x∈l,x.few):
    zag ctx L zc5 [.agg [.int .i64 bk,.vsl false (eI .u8 p),.vsl false (l.map zaF.cells)]] h=some (.tup [.vsl false ((zhV bk p l).1.map An2),.int .i64 (zhV bk p l).2.1,.int .i64 (zhV bk p l).2.2],h):=by
  rw [zqA]
  have hlen:(l.map zaF.cells).length=l.length:=by simp
  have hfz:fzA h (.agg [.int .i64 bk,.vsl false (eI .u8 p),.vsl false (l.map zaF.cells)])=some (.agg [.int .i64 bk,.vsl false (eI .u8 p),.vsl false (l.map zaF.cells)],false):=by
    simp [fzA,zfJ,zb4,zaa.flat]
  by_cases h1:bk=1
  · subst h1
    have hN:=fun L hL hnb=>zJl L h [] [] false p hp (by omega) hL hnb
    by_cases he:(ziv p).2.2=0
    · have hd : zhV 1 p l = ((runT (zBn p) l).1, -1, 0) := by unfold zhV; rw [if_pos rfl, if_pos he]
      rw [hd]
      simp only [if_pos he] at hN
      have hlo:=fun fr R=>zDd (fr:=fr) (h:=h) (R:=R) l hl hb hf (zBn p) (zHS p hp) (zKW p)
      have hfa:=fun hh m=>zoI (h1:=hh) (nb:=h.blks.length) (nt:=h.toks.length) (n:=m) (s:=.nsl) (.inl rfl) (zwy h.blks.length h.toks.length (runT (zBn p) l).1)
      generalize zBn p=t0 at*
      simp only [List.length_nil,Nat.zero_add,Nat.add_zero] at hN
      generalize hlc:l.map zaF.cells=lc at*
      simp -implicitDefEqProofs [zfA,zau,hfz,zmB,zaf,zae,zaa.cells,zaa.okV,hN,bne]
      generalize hF:run ctx _ (.loop _) _ _=R
      obtain ⟨fr',bs,ts,rfl,f8⟩:=hlo _ _ hF (by simp) (by simp) (by simp [hlc]) (by simp [hlen]) (by simp)
      simp -implicitDefEqProofs [f8,hfa]
    · have hd : zhV 1 p l = ([], (ziv p).2.1, (ziv p).2.2) := by unfold zhV; rw [if_pos rfl, if_neg he]
      rw [hd]
      simp only [if_neg he] at hN
      have be:((ziv p).2.2==0)=false:=by simp [he]
      generalize l.map zaF.cells=lc at*
      simp -implicitDefEqProofs [zfA,zau,hfz,zmB,zaf,zae,zaa.cells,zaa.okV,hN,bne,be]
  · have hd : zhV bk p l = ([], -1, 15) := by unfold zhV; rw [if_neg h1]
    rw [hd]
    have hN:=fun L h y=>zF5 L h true bk (by simp [h1]) (by simp [hbk]) y
    generalize l.map zaF.cells=lc at*
    simp -implicitDefEqProofs [zfA,zau,hfz,zmB,zaf,zae,zaa.cells,zaa.okV,hN,bne]
end Go.Av
namespace Go.Av
theorem zO3 (n:Nat) (h:n < 10):Lib.itoa (n:Int)=[UInt8.ofNat (48+n)]:=by
  unfold Lib.itoa;rw [if_neg (by omega),Int.toNat_natCast,Lib.decDigits,dif_pos h]
theorem zDh:zmD [(0,[]),(10,[])]=[48,10,49,48,10]:=by
  have h10:Lib.itoa 10=[49,48]:=by
    unfold Lib.itoa
    rw [if_neg (by omega),show ((10:Int).toNat)=10 from rfl,Lib.decDigits,dif_neg (by omega),show 10 / 10=1 from rfl,Lib.decDigits,dif_pos (by omega)]
    rfl
  have h0:Lib.itoa 0=[48]:=zO3 0 (by omega)
  simp [zmD,zJm,h10,h0]
theorem zF6 (L:Lim) (h:zab) (x:zaa) (es:List (List zaa)) (m:List (Int × List Nat)) (hx:zaA h 2 x=some es) (hs:zfG 2 x=true) (hz:zfe 2 es=true) (hm:es.mapM (zN5 h)=some m) (hc:m.length≤1000∧∀ a∈m,a.2.length≤4000):
    zag ctx L zft [x] h=some (.str ⟨(zmD m).toArray⟩,h):=by
  rw [zss _ _ _ zrs]
  simp only [zwN,hs,hx,hz,if_true,Option.bind_some,hm,if_pos hc]
theorem zye (L:Lim) (h:zab):zag ctx L za3 [] h=some (.bool true,h):=by
  rw [zj1]
  have ht:=fun L h=>zF6 L h (.vsl true [[.int .i64 0,.nsl],[.int .i64 10,.nsl]]) _ [(0,[]),(10,[])] rfl rfl rfl rfl (by simp)
  simp [zen,zay,rep,zaa.cells,zaa.okV,chunks,ht,zDh,setAt]
  exact (Go.MapKept.bytes_beq _ _).2 rfl
def scT (bk:Int) (p:List Int) (l:List zaF):List zaa:=[.int .i64 bk,.vsl false (eI .u8 p),.vsl false (l.map zaF.cells)]
theorem zI2 (l:List zaF):zfe 4 (l.map zaF.cells)=true:=by cases l <;> simp [zfe,zaF.cells]
theorem zGf {fr:Fr} {h:zab} {bk:Int} {p:List Int} {z:List zaa} {R:Option (AEx × Fr × zab)} (hF:run ctx (zau h) (.loop zd6) fr (hx h [z,[.int .i64 bk,.vsl false (eI .u8 p),.nsl]] [])=R) (l:List zaF) (hl:l.length≤1000000)
    (h3:fr 3=pA h.blks.length 1 0) (h12:fr 12=.vsl false (l.map zaF.cells)) (h13:fr 13=.int .i64 l.length) (h14:fr 14=.int .i64 0):
    ∃ fr' bs,R=some (.exit 0,fr',hx h (z :: [.int .i64 bk,.vsl false (eI .u8 p),gL .nsl h.toks.length 0 (l.map zaF.cells)] :: bs) (gT (l.map zaF.cells)))∧fr' 2=fr 2∧fr' 3=fr 3:=by
  obtain ⟨e,fr',h',rfl,⟨bs,rfl,rfl⟩,hk⟩:=zaj hF l.length
    (fun k fr hh=>fr 14=.int .i64 k∧∃ bs,hh=hx h (z :: [.int .i64 bk,.vsl false (eI .u8 p),gL .nsl h.toks.length 0 ((l.take k).map zaF.cells)] :: bs) (gT ((l.take k).map zaF.cells)))
    (fun e fr hh=>∃ bs,hh=hx h (z :: [.int .i64 bk,.vsl false (eI .u8 p),gL .nsl h.toks.length 0 (l.map zaF.cells)] :: bs) (gT (l.map zaF.cells))∧e=.exit 0)
    ⟨h14, [], by simp [gT, gL]⟩ (by
      rintro k fr1 hh hkN hkeep ⟨g14,bs,rfl⟩
      have g3:=(hkeep 3 (by decide)).trans h3
      have g12:=(hkeep 12 (by decide)).trans h12
      have g13:=(hkeep 13 (by decide)).trans h13
      by_cases hlt:k < l.length
      · have hi:=zox .i64 false l k hlt
        have w2:IntKind.i64.wrap ((k:Int)+1)=k+1:=wrap_i64 (by omega) (by omega)
        have e:(l.take k).map zaF.cells++[(gd l zcE k).cells]=(l.take (k+1)).map zaF.cells:=by rw [List.take_add_one,zul (d:=zcE) hlt];simp
        generalize gd l zcE k=c at*
        simp only [zaF.cells] at hi
        simp [zd6,g14,g13,g12,g3,hlt,hi,w2,zaf,zbB,zau,zah,setAt,zay,rep,zaa.cells,zaa.okV,chunks,zpM,zC9, -List.map_take,zas,show k+1 < 274877906944 by omega,Nat.min_eq_left hkN,zI2]
        rw [show (l.take k).map zaF.cells++[[zaa.int .i64 c.d,.int .i64 c.ty,.int .i64 c.n,.vsl false (eI .u8 c.b)]]=(l.take (k+1)).map zaF.cells from e]
        exact ⟨_,rfl⟩
      · have : k = l.length := by omega
        subst this
        simp [zd6,g14,g13]
        exact ⟨_,rfl⟩)
  exact ⟨fr',bs,rfl,hk 2 (by decide),hk 3 (by decide)⟩
theorem zzg (nb nt:Nat):∀ l:List zaF,zaw nb nt (l.map zaF.cells)=true
  | []=>by simp [zaw]
  | c :: l => by
    have ih:=zzg nb nt l
    simp [zaw,ih,zaF.cells,zap,zaa.under,zuX]
theorem zMd (L:Lim) (h:zab) (bk:Int) (p:List Int) (l:List zaF) (hl:l.length≤1000000):zag ctx L zcl [.agg (scT bk p l)] h=some (.agg (scT bk p l),h):=by
  rw [zns]
  simp only [scT]
  simp [zgW,fzA,zfJ,zb4,zaa.flat,zay,rep,zaa.cells,zaa.okV,zaf,zbB,zau,zah,setAt]
  generalize hF:run ctx _ (.loop _) _ _=R
  obtain ⟨fr',bs,rfl,g2,g3⟩:=zGf hF l hl (by simp) (by simp) (by simp) (by simp)
  simp at g2 g3
  have hf1:=fun hh n=>zoI (h1:=hh) (nb:=h.blks.length) (nt:=h.toks.length) (n:=n) (s:=.nsl) (.inl rfl) (zzg h.blks.length h.toks.length l)
  simp [g2,g3,zaf,zbB,zau,zah,zjE,zBi,zb4,zaa.flat,hf1]
def zaF.short (x:zaF):Prop:=x.b.length≤300∧(x.n≤1048576→x.n≤60)
theorem znH {fr:Fr} {h:zab} {R:Option (AEx × Fr × zab)} (hF:run ctx (zau h) (.loop zbb) fr (hx h [] [])=R) (l:List zaF) (hl:l.length < 9223372036854775808)
    (h6:fr 6=.vsl false (l.map zaF.cells)) (h7:fr 7=.int .i64 (l.length:Int)) (h8:fr 8=.int .i64 0):
    ∃ e fr' bs,R=some (e,fr',hx h bs [])∧(e=.exit 0∧(∀ x∈l,x.short)∧fr' 1=fr 1∨e=.ret∧fr' 2=.bool true∧¬∀ x∈l,x.short):=by
  obtain ⟨e,fr',h',rfl,⟨bs,rfl,hp⟩,hk⟩:=zaj hF l.length
    (fun k fr hh=>fr 8=.int .i64 (k:Int)∧∃ bs,hh=hx h bs []∧∀ i,i < k→(gd l zcE i).short)
    (fun e fr hh=>∃ bs,hh=hx h bs []∧(e=.exit 0∧(∀ x∈l,x.short)∨e=.ret∧fr 2=.bool true∧¬∀ x∈l,x.short))
    ⟨h8, [], rfl, fun i hi => by omega⟩ (by
      rintro k fr1 hh hkN hkeep ⟨g8,bs,rfl,hall⟩
      have g6:=(hkeep 6 (by decide)).trans h6
      have g7:=(hkeep 7 (by decide)).trans h7
      by_cases hlt:k < l.length
      · have hltI : (k : Int) < (l.length : Int) := by omega
        have w0:IntKind.i64.wrap ((k:Int)+1)=k+1:=wrap_i64 (by omega) (by omega)
        have ia:=zox .i64 false l k hlt
        have hm:=zwV (d:=zcE) hlt
        have hstep : (gd l zcE k).short → ∀ i, i < k + 1 → (gd l zcE i).short := fun hf i hi => by
          by_cases e:i=k
          · rw [e];exact hf
          · exact hall i (by omega)
        have hno:¬(gd l zcE k).short→¬∀ x∈l,x.short:=fun hn ha=>hn (ha _ hm)
        generalize gd l zcE k=x at*
        obtain ⟨d,ty,n,b⟩:=x
        simp only [zaF.cells] at ia
        have hno2:=fun hn:¬zaF.short ⟨d,ty,n,b⟩=>hno hn
        simp only [zaF.short] at hstep
        generalize l.map zaF.cells=lc at*
        by_cases h1:300 < b.length
        · have h1' : (300 : Int) < (b.length : Int) := by omega
          simp -implicitDefEqProofs [zbb,zau,g6,g7,g8,hltI,ia,zaf,zae,zbB,zah,h1']
          refine ⟨⟨_,rfl⟩,?_⟩
          have:=hno2 (fun hf=>by have h5:=hf.1;have h6:=hf.2;simp only at h5 h6;omega)
          simpa using this
        · have h1' : ¬ (300 : Int) < (b.length : Int) := by omega
          by_cases h2:60 < n
          · by_cases h3:n≤1048576
            · simp -implicitDefEqProofs [zbb,zau,g6,g7,g8,hltI,ia,zaf,zae,zbB,zah,h1',h2,h3]
              refine ⟨⟨_,rfl⟩,?_⟩
              have:=hno2 (fun hf=>by have h5:=hf.1;have h6:=hf.2;simp only at h5 h6;omega)
              simpa using this
            · simp -implicitDefEqProofs [zbb,zau,g6,g7,g8,hltI,ia,zaf,zae,zbB,zah,h1',h2,h3,w0]
              exact ⟨hlt,⟨_,rfl⟩,hstep (by omega)⟩
          · simp -implicitDefEqProofs [zbb,zau,g6,g7,g8,hltI,ia,zaf,zae,zbB,zah,h1',h2,w0]
            exact ⟨hlt,⟨_,rfl⟩,hstep (by omega)⟩
      · have : k = l.length := by omega
        subst this
        simp [zbb,g7,g8]
        refine ⟨⟨_,rfl⟩,fun x hx=>?_⟩
        obtain ⟨i,hi,rfl⟩:=List.mem_iff_getElem.1 hx
        have:=hall i hi
        rwa [show gd l zcE i=l[i] by simp [gd,List.getD,hi]] at this)
  refine ⟨e,fr',bs,rfl,?_⟩
  rcases hp with ⟨rfl,h1⟩ | h2
  · exact .inl ⟨rfl,h1,hk 1 (by decide)⟩
  · exact .inr h2
def zMe (bk:Int) (p:List Int) (l:List zaF):Prop:=(∀ x∈l,x.short)∧p.length≤1000∧l.length≤12∧bk≠2
theorem zDq (L:Lim) (h:zab) (bk:Int) (p:List Int) (hpl:p.length < 9223372036854775808) (l:List zaF) (hl:l.length < 9223372036854775808):∃ q:Bool,(q=false↔zMe bk p l)∧∀ L h,zag ctx L zcv [.agg (scT bk p l)] h=some (.bool q,h):=by
  have hlen:(l.map zaF.cells).length=l.length:=by simp
  by_cases hs:∀ x∈l,x.short
  · by_cases hq:p.length≤1000∧l.length≤12∧bk≠2
    · refine ⟨false, ⟨fun _ => ⟨hs, hq⟩, fun _ => rfl⟩, fun L h => ?_⟩
      have hlo:=fun fr R=>znH (fr:=fr) (h:=h) (R:=R)
      have h1:¬(1000:Int) < (p.length:Int):=by omega
      have h2:¬(12:Int) < (l.length:Int):=by omega
      have h3:(bk==2)=false:=by simp [hq.2.2]
      rw [zdF]
      simp only [scT]
      simp -implicitDefEqProofs [zcy,zau, -List.length_map,hlen,zaf,zae,fzA,zfJ,zb4,zaa.flat]
      generalize hF:run ctx _ (.loop _) _ _=R
      obtain ⟨e,fr',bs,rfl,⟨rfl,_,f1⟩ | ⟨rfl,f2,hn⟩⟩:=hlo _ _ hF l hl (by simp) (by simp [-List.length_map,hlen]) (by simp)
      · simp at f1
        simp -implicitDefEqProofs [f1, -List.length_map,hlen,zae,h1,h2,h3]
      · exact absurd hs hn
    · refine ⟨true, ⟨fun hh => by simp at hh, fun hh => absurd hh.2 hq⟩, fun L h => ?_⟩
      have hlo:=fun fr R=>znH (fr:=fr) (h:=h) (R:=R)
      rw [zdF]
      simp only [scT]
      simp -implicitDefEqProofs [zcy,zau, -List.length_map,hlen,zaf,zae,fzA,zfJ,zb4,zaa.flat]
      generalize hF:run ctx _ (.loop _) _ _=R
      obtain ⟨e,fr',bs,rfl,⟨rfl,_,f1⟩ | ⟨rfl,f2,hn⟩⟩:=hlo _ _ hF l hl (by simp) (by simp [-List.length_map,hlen]) (by simp)
      · simp at f1
        by_cases h1:(1000:Int) < (p.length:Int)
        · simp -implicitDefEqProofs [f1, -List.length_map,hlen,zae,h1]
        · by_cases h2:(12:Int) < (l.length:Int)
          · simp -implicitDefEqProofs [f1, -List.length_map,hlen,zae,h1,h2]
          · have h3 : bk = 2 := Classical.byContradiction fun h3 => hq ⟨by omega, by omega, h3⟩
            subst h3
            simp -implicitDefEqProofs [f1, -List.length_map,hlen,zae,h1,h2]
      · simp -implicitDefEqProofs [f2]
  · refine ⟨true, ⟨fun hh => by simp at hh, fun hh => absurd hh.1 hs⟩, fun L h => ?_⟩
    have hlo:=fun fr R=>znH (fr:=fr) (h:=h) (R:=R)
    rw [zdF]
    simp only [scT]
    simp -implicitDefEqProofs [zcy,zau, -List.length_map,hlen,zaf,zae,fzA,zfJ,zb4,zaa.flat]
    generalize hF:run ctx _ (.loop _) _ _=R
    obtain ⟨e,fr',bs,rfl,⟨rfl,h1,f1⟩ | ⟨rfl,f2,hn⟩⟩:=hlo _ _ hF l hl (by simp) (by simp [-List.length_map,hlen]) (by simp)
    · exact absurd h1 hs
    · simp -implicitDefEqProofs [f2]
end Go.Av
namespace Go.Av
theorem zGt {b:List Int} (h:(zsQ b).2.2=0):chk (zsQ b).1=0:=by
  unfold zsQ at h ⊢
  split at h
  · simp at h
  · split at h
    · next h1 h2=>rw [if_neg h1,if_pos h2];exact h2
    · next h1 h2=>exact absurd h h2
theorem zzs:∀ (f:Nat) (b:List Int) (k:Nat) (acc:List It),(∀ x∈acc,chk x=0)→∀ x∈(zDj f b k acc).1,chk x=0
  | 0,b,k,acc,h=>h
  | f + 1, b, k, acc, h => by
    unfold zDj
    split
    · exact h
    · split
      · intro x hx;simp at hx
      · split
        · next he=>
          refine zzs f _ _ _ ?_
          intro x hx
          rcases List.mem_append.1 hx with h1 | h1
          · exact h x h1
          · rw [List.mem_singleton.1 h1];exact zGt he
        · intro x hx;simp at hx
def Tc.chk (t:Tc):Prop:=∀ x∈t.g.l,Av.chk x=0
theorem zzj (p:List Int):(zBn p).chk:=zzs _ _ _ _ (by simp)
theorem zMz (g:Gd):(zxs g).l=g.l:=(zhP _ _).1
theorem zMA (t:Tc) (ty:Int) (b:List Int):(zBg t ty b).1.g.l=t.g.l:=by
  unfold zBg
  split
  · split
    · split
      · split
        · exact zhQ _ _ _ _
        · exact (zhP _ _).1.trans (zhQ _ _ _ _)
      · exact zhQ _ _ _ _
    · exact (zhP _ _).1
  · rfl
theorem zMB (t:Tc) (N:Int):(zwv t N).2.g.l=t.g.l:=by
  unfold zwv;split <;> exact zhQ _ _ _ _
theorem zMC (t:Tc) (N:Int):(zmU t N).2.g.l=t.g.l:=by
  unfold zmU
  split
  · split
    · exact zhQ _ _ _ _
    · exact (zhP _ _).1.trans (zhQ _ _ _ _)
  · exact zhQ _ _ _ _
theorem zMD (t:Tc):(zBl t).1.g.l=t.g.l:=by
  unfold zBl;split <;> exact zhQ _ _ _ _
theorem zJE (t:Tc) (x:zaF):(stepT t x).2.g.l=t.g.l:=by
  unfold stepT
  split
  · exact zMz _
  · unfold doT
    split
    · exact zMA _ _ _
    · split
      · exact zMB _ _
      · split
        · exact zMC _ _
        · exact zMD _
theorem zDX {t:Tc} (h:t.chk) (x:zaF):(stepT t x).2.chk:=by unfold Tc.chk;rw [zJE];exact h
theorem Tc.chk.count {t:Tc} (h:t.chk) {k ty c:Int} (hn:(zbu t.g k ty c).e=0):1≤c∧c≤1048576:=by
  obtain ⟨h1,h2⟩:=zvg (zpU hn)
  rw [← h2]
  obtain ⟨_,_,_,_,h3,h4,_⟩:=zoX (h _ (zwV (d:=⟨0,0,0,⟨#[]⟩⟩) h1))
  exact ⟨h3,h4⟩
theorem zDY (n:Nat):∀ (s:Sp) (acc:List (List W64)) (t:Int),(zjR n s acc t).1.2.2=0→(zjR n s acc t).1.1.length=acc.length+n:=by
  induction n with
  | zero=>intro s acc t _;simp [zjR]
  | succ n ih=>
    intro s acc t h
    rw [zjR] at h ⊢
    split at h
    · next h0=>
      rw [if_pos h0]
      have:=ih (zbg s).2 (acc++[(zbg s).1.1]) (IntKind.i64.wrap (t+(zbg s).1.2.1)) h
      simp only [List.length_append,List.length_singleton] at this
      omega
    · next h0=>exact absurd h h0
theorem zzv {t:Tc} {N:Int} (h:(zmU t N).1.2=0):(zbu t.g 2 3 N).e=0∧(xsT t N).length=N.toNat:=by
  have h1:(xsT t N).length=(zmU t N).1.1.length:=by rw [zyK];simp
  rw [h1]
  unfold zmU at h ⊢
  by_cases h0:(zbu t.g 2 3 N).e=0
  · rw [if_pos h0] at h ⊢
    refine ⟨h0,?_⟩
    by_cases h2:(zaD (zbH t.s (opB 2 3 N [])) N.toNat).1.2.2=0
    · rw [if_pos h2]
      have:=zDY N.toNat (zbH t.s (opB 2 3 N [])) [] 0 h2
      simp only [List.length_nil,Nat.zero_add] at this
      exact this
    · rw [if_neg h2] at h
      simp only at h
      unfold zcg at h
      rw [if_pos h0] at h
      exact absurd h h2
  · rw [if_neg h0] at h;exact absurd h h0
def zDZ (x:zaF) (e:Int):Int:=if e=0 then (if x.d=1 then x.n else if x.d=2 then 32*x.n else 0) else 0
theorem zys {t:Tc} (hc:t.chk) (x:zaF):((stepT t x).1.2.length:Int)=zDZ x (stepT t x).1.1:=by
  unfold zDZ stepT
  by_cases hd:x.d < 0∨x.d > 3
  · rw [if_pos hd]
    simp only [List.length_nil]
    rw [if_neg (show ¬x.d=1 by omega),if_neg (show ¬x.d=2 by omega)]
    split <;> rfl
  · rw [if_neg hd]
    unfold doT
    by_cases h0:x.d=0
    · rw [if_pos h0, if_neg (show ¬ x.d = 1 by omega), if_neg (show ¬ x.d = 2 by omega)]
      simp
    · rw [if_neg h0]
      by_cases h1:x.d=1
      · rw [if_pos h1,if_pos h1]
        simp only
        unfold zwv
        by_cases hn:(zbu t.g 2 1 x.n).e=0
        · rw [if_pos hn]
          simp only [zo8,if_pos]
          have:=hc.count hn
          omega
        · rw [if_neg hn]
          simp only [List.length_nil,if_neg hn];rfl
      · rw [if_neg h1,if_neg h1]
        by_cases h2:x.d=2
        · rw [if_pos h2,if_pos h2]
          simp only
          by_cases he:(zmU t x.n).1.2=0
          · obtain ⟨hn,hl⟩:=zzv he
            rw [if_pos he]
            have:=hc.count hn
            have h3:(zvQ (xsT t x.n)).length=32*(xsT t x.n).length:=zyQ _
            show ((zvQ (xsT t x.n)).length:Int)=_
            rw [h3,hl]
            omega
          · rw [if_neg he,zH0 he];rfl
        · rw [if_neg h2,if_neg h2]
          simp
theorem zJF {t:Tc} (hc:t.chk) (x:zaF) (he:(stepT t x).1.1=0) (h2:x.d=2):1≤x.n∧x.n≤1048576:=by
  unfold stepT at he
  rw [if_neg (by omega)] at he
  unfold doT at he
  rw [if_neg (by omega),if_neg (by omega),if_pos h2] at he
  exact hc.count (zzv he).1
theorem zvl {t:Tc} (h:t.chk) (l:List zaF):∀ k,k≤l.length→(runT t (l.take k)).2.chk
  | 0,_=>h
  | k+1,hk=>by rw [zoE t l k (by omega)];exact zDX (zvl h l k (by omega)) _
theorem zzw (t:Tc) (l:List zaF):∀ k,k≤l.length→∀ i,i < k→gd (runT t (l.take k)).1 (0,[]) i=(stepT (runT t (l.take i)).2 (gd l zcE i)).1
  | 0,_,i,hi=>absurd hi (by omega)
  | k + 1, hk, i, hi => by
    rw [zoE t l k (by omega)]
    have hlen:(runT t (l.take k)).1.length=k:=by rw [zu4,List.length_take];omega
    by_cases h:i=k
    · subst h
      simp [gd,List.getD,hlen]
    · have := zzw t l k (by omega) i (by omega)
      rw [← this]
      simp [gd,List.getD,List.getElem?_append_left (show i < (runT t (l.take k)).1.length by omega)]
theorem zyu (bk:Int) (p:List Int) (l:List zaF) (h:(zhV bk p l).2.2=0):(zhV bk p l).2.1= -1∧(zhV bk p l).1.length=l.length∧∀ i,i < l.length→((gd (zhV bk p l).1 (0,[]) i).2.length:Int)=zDZ (gd l zcE i) (gd (zhV bk p l).1 (0,[]) i).1∧((gd (zhV bk p l).1 (0,[]) i).1=0→(gd l zcE i).d=2→1≤(gd l zcE i).n∧(gd l zcE i).n≤1048576):=by
  unfold zhV at h ⊢
  by_cases h1:bk=1
  · rw [if_pos h1] at h ⊢
    by_cases he:(ziv p).2.2=0
    · rw [if_pos he]
      refine ⟨rfl,zu4 _ _,fun i hi=>?_⟩
      have h2:=zzw (zBn p) l l.length (Nat.le_refl _) i hi
      rw [List.take_length] at h2
      simp only
      rw [h2]
      exact ⟨zys (zvl (zzj p) l i (by omega)) _,zJF (zvl (zzj p) l i (by omega)) _⟩
    · rw [if_neg he] at h;exact absurd h he
  · rw [if_neg h1] at h;simp at h
theorem zAV (bk:Int) (p:List Int) (l:List zaF) (h:¬(zhV bk p l).2.2=0):(zhV bk p l).1=[]:=by
  unfold zhV at h ⊢
  by_cases h1:bk=1
  · rw [if_pos h1] at h ⊢
    by_cases he:(ziv p).2.2=0
    · rw [if_pos he] at h;exact absurd rfl h
    · rw [if_neg he]
  · rw [if_neg h1]
end Go.Av
namespace Go.Av
theorem zGj (kd:IntKind) (c:Bool) (l:List (Int × List Int)) (i:Nat) (h:i < l.length):zcG none 2 (.vsl c (l.map An2)) (.int kd (i:Int))=some (.vptr (An2 (gd l (0,[]) i)) 0):=by
  simp [zcG,asI,gd,List.getD,h,An2]
theorem zyh {fr:Fr} {h:zab} {R:Option (AEx × Fr × zab)} (bk:Int) (p:List Int) (l:List zaF) (hl:l.length≤20) (A:List (Int × List Int)) (hAl:A.length=l.length)
    (hA:∀ i,i < l.length→((gd A (0,[]) i).2.length:Int)=zDZ (gd l zcE i) (gd A (0,[]) i).1∧((gd A (0,[]) i).1=0→(gd l zcE i).d=2→1≤(gd l zcE i).n∧(gd l zcE i).n≤1048576))
    (hF:run ctx (zau h) (.loop zaz) fr (hx h [] [])=R)
    (h1:fr 1=.vptr (scT bk p l) 0) (h38:fr 38=.vsl false (A.map An2)) (h39:fr 39=.int .i64 (l.length:Int)) (h40:fr 40=.int .i64 0):
    ∃ fr' bs,R=some (.exit 0,fr',hx h bs []):=by
  obtain ⟨e,fr',h',rfl,⟨rfl,bs,rfl⟩,hk⟩:=zaj hF l.length
    (fun k fr hh=>fr 40=.int .i64 (k:Int)∧∃ bs,hh=hx h bs [])
    (fun e fr hh=>e=.exit 0∧∃ bs,hh=hx h bs [])
    ⟨h40,[],rfl⟩ (by
      rintro k fr1 hh hkN hkeep ⟨g40,bs,rfl⟩
      have g1:=(hkeep 1 (by decide)).trans h1
      have g38:=(hkeep 38 (by decide)).trans h38
      have g39:=(hkeep 39 (by decide)).trans h39
      by_cases hlt:k < l.length
      · have hltI : (k : Int) < (l.length : Int) := by omega
        have w0:IntKind.i64.wrap ((k:Int)+1)=k+1:=wrap_i64 (by omega) (by omega)
        have ia:=zox .i64 false l k hlt
        have ib:=zGj .i64 false A k (by omega)
        obtain ⟨a1,a2⟩:=hA k hlt
        simp only [scT] at g1
        have hlen:(l.map zaF.cells).length=l.length:=by simp
        generalize gd A (0,[]) k=a at*
        generalize gd l zcE k=x at*
        obtain ⟨d,ty,n,b⟩:=x
        obtain ⟨e,dr⟩:=a
        simp only [zaF.cells,An2] at ia ib
        simp only [zDZ] at a1 a2
        generalize l.map zaF.cells=lc at*
        generalize A.map An2=la at*
        by_cases he:e=0
        · subst he
          rw [if_pos rfl] at a1
          by_cases hd1:d=1
          · subst hd1
            rw [if_pos rfl] at a1
            simp -implicitDefEqProofs [zaz,zau,g1,g38,g39,g40,hltI,ia,ib,zaf,zae,zbB,zah,w0,a1,bne]
            exact ⟨hlt,_,rfl⟩
          · rw [if_neg hd1] at a1
            have b1:(d==1)=false:=by simp [hd1]
            by_cases hd2:d=2
            · subst hd2
              rw [if_pos rfl] at a1
              obtain ⟨n1,n2⟩:=a2 rfl rfl
              have w1:IntKind.i64.wrap (32*n)=32*n:=wrap_i64 (by omega) (by omega)
              simp -implicitDefEqProofs [zaz,zau,g1,g38,g39,g40,hltI,ia,ib,zaf,zae,zbB,zah,w0,w1,a1,bne]
              exact ⟨hlt,_,rfl⟩
            · rw [if_neg hd2] at a1
              have b2:(d==2)=false:=by simp [hd2]
              simp -implicitDefEqProofs [zaz,zau,g1,g38,g39,g40,hltI,ia,ib,zaf,zae,zbB,zah,w0,b1,b2,a1,bne]
              exact ⟨hlt,_,rfl⟩
        · rw [if_neg he] at a1
          have be:(e==0)=false:=by simp [he]
          simp -implicitDefEqProofs [zaz,zau,g1,g38,g39,g40,hltI,ia,ib,zaf,zae,zbB,zah,w0,be,a1,bne]
          exact ⟨hlt,_,rfl⟩
      · have : k = l.length := by omega
        subst this
        simp [zaz,g39,g40]
        exact ⟨_,rfl⟩)
  exact ⟨fr',bs,rfl⟩
theorem zDv {x:zaF} (h:x.short):x.few:=⟨by have:=h.1;omega,fun hn=>by have:=h.2 hn;omega⟩
theorem ztk (L:Lim) (h:zab) (bk:Int) (p:List Int) (hp:inB p) (hpl:p.length < 9223372036854775808) (l:List zaF) (hl:l.length < 9223372036854775808) (hb:∀ x∈l,inB x.b):
    zag ctx L zby [.agg (scT bk p l)] h=some (.bool true,h):=by
  obtain ⟨q,hq1,hq2⟩:=zDq L h bk p hpl l hl
  rw [zhg]
  have hSp:=zye
  have hlen:(l.map zaF.cells).length=l.length:=by simp
  have hfz:fzA h (.agg (scT bk p l))=some (.agg (scT bk p l),false):=by simp [scT,fzA,zfJ,zb4,zaa.flat]
  have hbox:zmB (.agg (scT bk p l))=some (.vptr (scT bk p l) 0):=by simp [scT,zmB,zaa.cells,zaa.okV]
  have hl3:(scT bk p l).length=3:=rfl
  cases q with
  | true=>
    generalize scT bk p l=sc at*
    simp -implicitDefEqProofs [za9,zau,hfz,hbox,hl3,hSp,hq2,zaf]
  | false=>
    obtain ⟨hs,h1000,h12,hbk⟩:=hq1.1 rfl
    have hO:=fun L h=>zMd L h bk p l (by omega)
    have hP:=fun L h=>zIX L h bk hbk p hp h1000 l (by omega) hb (fun x hx=>zDv (hs x hx))
    have hd:=zyu bk p l
    have hn:=zAV bk p l
    have hP2:∀ L h,zag ctx L zc5 [.agg (scT bk p l)] h=some (.tup [.vsl false ((zhV bk p l).1.map An2),.int .i64 (zhV bk p l).2.1,.int .i64 (zhV bk p l).2.2],h):=hP
    generalize zhV bk p l=r at*
    obtain ⟨A,at0,e0⟩:=r
    simp only at hP2 hd hn
    by_cases he:e0=0
    · subst he
      obtain ⟨h1,h2,h3⟩:=hd rfl
      subst h1
      have hlo:=fun fr R=>zyh (fr:=fr) (h:=h) (R:=R) bk p l (by omega) A h2 h3
      have hp1:zdZ false (scT bk p l) 2 1=some (.vsl false (l.map zaF.cells)):=rfl
      have hAl:(A.map An2).length=l.length:=by simp [h2]
      generalize hsc:scT bk p l=sc at*
      generalize hla:A.map An2=la at*
      simp -implicitDefEqProofs [za9,zau,hfz,hbox,hl3,hSp,hq2,zaf,zae,hO,hP2,hp1,bne,hAl]
      generalize hF:run ctx _ (.loop _) _ _=R
      obtain ⟨fr',bs,rfl⟩:=hlo _ _ hF (by simp) (by simp [hla]) (by simp [hAl]) (by simp)
      simp
    · have be : (e0 == 0) = false := by simp [he]
      have hAn:=hn he
      subst hAn
      generalize hsc:scT bk p l=sc at*
      simp -implicitDefEqProofs [za9,zau,hfz,hbox,hl3,hSp,hq2,zaf,zae,hO,hP2,bne,be]
end Go.Av
