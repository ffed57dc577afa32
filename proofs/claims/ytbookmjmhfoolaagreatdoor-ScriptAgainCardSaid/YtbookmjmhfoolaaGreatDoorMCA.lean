/- A script played: what its calls answer; the law's own functions, walked. -/
import Derived.Test.YtbookmjmhfoolaaGreatDoorMC8
import Derived.Lib.ItoaLen
set_option linter.unusedSimpArgs false
set_option linter.unusedVariables false
set_option maxHeartbeats 2000000
set_option maxRecDepth 20000
namespace Go.Av
theorem zAa {L:Lim} {H:zab} {sz:Nat} {ref:Bool} {x y:zaa} {ys:List (List zaa)} (hy:zaz H sz y=some ys) (hs:zfe sz y=true):zq6 L H sz ref x y=zq6 L H sz ref x (.vsl false ys):=by
  unfold zq6
  rw [hy,show zaz H sz (.vsl false ys)=some ys by simp only [zaz],hs,show zfe sz (.vsl false ys)=true by simp only [zfe]]
theorem zIv (kd:IntKind) (c:Bool) (xs:List Nat) (i:Nat) (h:i < xs.length):zcZ none 4 (.vsl c ((xs.map fe).map cW)) (.int kd (i:Int))=some (.vptr (cW (fe (gd xs 0 i))) 0):=by
  simp [zcZ,asI,gd,List.getD,h]
def zvI (xs:List Nat):List Int:=xs.flatMap feB
theorem zB1 (xs:List Nat) (k:Nat) (h:k < xs.length):zvI (xs.take (k+1))=zvI (xs.take k)++feB (gd xs 0 k):=by
  have:xs.take (k+1)=xs.take k++[gd xs 0 k]:=by rw [List.take_add_one];simp [gd,List.getD,h]
  rw [this];simp [zvI]
theorem zyW (xs:List Nat):(zvI xs).length=32*xs.length:=by
  induction xs with
  | nil=>rfl
  | cons x xs ih=>simp [zvI] at ih ⊢;omega
structure zaA where
  d:Int
  ty:Int
  n:Int
  b:List Int
def zaA.cells (x:zaA):List zaa:=[.int .i64 x.d,.int .i64 x.ty,.int .i64 x.n,.vsl false (eI .u8 x.b)]
def zfL:zaA:=⟨0,0,0,[]⟩
def zaA.few (x:zaA):Prop:=x.b.length≤400∧(x.n≤1048576→x.n≤100)
theorem zsd (kd:IntKind) (c:Bool) (l:List zaA) (i:Nat) (h:i < l.length):zcZ none 4 (.vsl c (l.map zaA.cells)) (.int kd (i:Int))=some (.vptr (gd l zfL i).cells 0):=by
  simp [zcZ,asI,gd,List.getD,h,zaA.cells]
noncomputable def stepT (t:Tc) (x:zaA):(Int × List Int) × Tc:=
  if x.d < 0∨x.d > 3 then (((zxH t.g).e,[]),{t with g:=zxH t.g}) else doT t x.d x.ty x.n x.b
theorem zDf (t:Tc) (x:zaA):(stepT t x).2.g.e=(stepT t x).1.1:=by
  unfold stepT
  split
  · rfl
  · exact zOP _ _ _ _ _
theorem zF8 {t:Tc} (h:t.ok) {x:zaA} (hb:inB x.b) (hx:x.few):(stepT t x).2.ok∧(stepT t x).2.s.c≤t.s.c+300000:=by
  unfold stepT
  split
  · exact ⟨zIb h,by simp only;omega⟩
  · exact zLo h _ _ _ hb hx.1 hx.2
end Go.Av
namespace Go.Av
theorem zDk (L:Lim) (h:zab) (p:zaa) (n i:Nat) (es:List (List zaa)):stK L h 1 p (gL .nsl n i es)=stM (zcw L h p [gL .nsl n i es]):=by
  unfold gL;split <;> simp [stK,zaa.cells,zaa.okV,gA]
theorem zGe {L:Lim} {fr:Fr} {h:zab} {R:Option (AEx × Fr × zab)} (B:List (List zaa)) (ts:List Nat) (e0:Int) (bi:Nat) (hbi:bi < B.length) (xs:List Nat) (hxs:xs.length < 100000) (hL:L.rob≤h.blks.length) (hnb:L.nb≤h.blks.length+bi) (hT:L.rot≤h.toks.length)
    (hF:run ctx L (.loop zcV) fr (hx h B ts)=R) (hB:B[bi]?=some [.int .i64 e0,.nsl])
    (h47:fr 47=.vsl false ((xs.map fe).map cW)) (h48:fr 48=.int .i64 (xs.length:Int)) (h9:fr 9=pA h.blks.length bi 0) (h49:fr 49=.int .i64 0):
    ∃ fr' jk us,R=some (.exit 1,fr',hx h (B.set bi [.int .i64 e0,gL .nsl h.toks.length ts.length (eI .u8 (zvI xs))]++jk) (ts++us))∧∀ t,t∉wr zcV→fr' t=fr t:=by
  obtain ⟨e,fr',h',rfl,⟨rfl,jk,us,rfl⟩,hk⟩:=zaj hF xs.length
    (fun k fr hh=>fr 49=.int .i64 (k:Int)∧∃ jk,hh=hx h (B.set bi [.int .i64 e0,gL .nsl h.toks.length ts.length (eI .u8 (zvI (xs.take k)))]++jk) (ts++gT (eI .u8 (zvI (xs.take k)))))
    (fun e fr hh=>e=.exit 1∧∃ jk us,hh=hx h (B.set bi [.int .i64 e0,gL .nsl h.toks.length ts.length (eI .u8 (zvI xs))]++jk) (ts++us))
    ⟨h49,[],by
      have:B.set bi [.int .i64 e0,.nsl]=B:=by
        obtain ⟨h1,h2⟩:=List.getElem?_eq_some_iff.1 hB
        rw [← h2,List.set_getElem_self]
      simp [zvI,gL,gT,this]⟩ (by
      rintro k fr1 hh hkN hkeep ⟨g49,jk,rfl⟩
      have g9:=(hkeep 9 (by decide)).trans h9
      have g47:=(hkeep 47 (by decide)).trans h47
      have g48:=(hkeep 48 (by decide)).trans h48
      by_cases hlt:k < xs.length
      · have hltI : (k : Int) < (xs.length : Int) := by omega
        have w0:IntKind.i64.wrap ((k:Int)+1)=k+1:=wrap_i64 (by omega) (by omega)
        have ia:=zIv .i64 false xs k hlt
        have hsu:=zB1 xs k hlt
        have hfl:=zyW (xs.take k)
        rw [List.length_take,Nat.min_eq_left (Nat.le_of_lt hlt)] at hfl
        have hBy:=fun L h=>zFo L h (gd xs 0 k)
        have hbl:=zCf (gd xs 0 k)
        have hcl:(cW (fe (gd xs 0 k))).length=4:=rfl
        have hfl4:(fe (gd xs 0 k)).length=4:=rfl
        generalize feB (gd xs 0 k)=b at*
        generalize fe (gd xs 0 k)=f4 at*
        generalize (xs.map fe).map cW=lw at*
        generalize zvI (xs.take k)=acc at*
        have hroom:acc.length+b.length < zas:=by unfold zas;omega
        obtain ⟨B1,hB1⟩:∃ B1,B1=B.set bi [.int .i64 e0,gL .nsl h.toks.length ts.length (eI .u8 acc)]:=⟨_,rfl⟩
        have hB1l:B1.length=B.length:=by rw [hB1];simp
        have hB1g:B1[bi]?=some [.int .i64 e0,gL .nsl h.toks.length ts.length (eI .u8 acc)]:=by rw [hB1];simp [hbi]
        have hB1s:∀ v,B1.set bi v=B.set bi v:=fun v=>by rw [hB1,List.set_set]
        rw [← hB1]
        have hap : ∀ (B : List (List zaa)) i, B[i]? = some (cI .u8 b) → zq6 L (hx h B (ts ++ gT (eI .u8 acc))) 1 false (gL .nsl h.toks.length ts.length (eI .u8 acc)) (sA h.blks.length i 0 1 32 (some 32)) = some (gL .nsl h.toks.length ts.length (eI .u8 (acc ++ b)), hx h B (ts ++ gT (eI .u8 (acc ++ b)))) := fun B i hB => by
          rw [zAa (ys:=eI .u8 b) (by rw [zuD h B _ i 32 (cI .u8 b) (some 32) hB (by simpa using hbl),zqV]) (by simp [zfe,sA])]
          have:=zyE L h B ts 1 false (eI .u8 acc) (eI .u8 b) (by simp [hT,hroom])
          simpa using this
        have gA:=fun x=>zoQ B1 jk [x] B1.length 0 rfl
        have sA1:=fun x v=>zoR B1 jk [x] B1.length 0 v rfl
        have gB:=fun x y=>zoQ B1 jk [x,y] B1.length 1 rfl
        have sB1:=fun x y v=>zoR B1 jk [x,y] B1.length 1 v rfl
        simp only [Nat.add_zero,List.getElem?_cons_zero,List.set_cons_zero,List.getElem?_cons_succ,List.set_cons_succ] at gA sA1 gB sB1
        have hsl:=fun i=>zlf 32 1 h.blks.length i 0 (by decide)
        have hap1:=fun x=>hap (B1++(jk++[x,cI .u8 b])) (B1.length+(jk.length+1)) (gB _ _)
        have hz4:(cW (tab 4 fun _=>0#64)).length=4:=rfl
        have gI:∀ w:List (List zaa),(B1++w)[bi]?=some [.int .i64 e0,gL .nsl h.toks.length ts.length (eI .u8 acc)]:=fun w=>by rw [List.getElem?_append_left (by omega),hB1g]
        have sI:∀ (w:List (List zaa)) v,(B1++w).set bi v=B.set bi v++w:=fun w v=>by rw [List.set_append_left _ _ (by omega),hB1s]
        clear hB1 hB1g hB1s
        have hst:=fun w us off cs=>zpW L h (B1++w) us bi off cs (by simp only [Bool.and_eq_true,decide_eq_true_eq];exact ⟨hL,hnb⟩)
        simp -implicitDefEqProofs [zcV,g9,g47,g48,g49,hltI,zan,zal,ia,hBy,zgg,zbh,hL,hT,zak,zbG,zah,zaf,hcl,hfl4,hbl,hz4,hsl,gA,sA1,gB,sB1,hap1,gI,sI,w0,zDk,setAt,hst]
        exact ⟨hlt,_,by rw [hsu]⟩
      · have : k = xs.length := by omega
        subst this
        rw [List.take_length]
        simp [zcV,g48,g49]
        exact ⟨jk,_,rfl⟩)
  exact ⟨fr',jk,us,rfl,hk⟩
def An2 (a:Int × List Int):List zaa:=[.int .i64 a.1,.vsl false (eI .u8 a.2)]
theorem zDj (h:zab) (nb nt n:Nat) (e:Int) (b:List Int) (v:zaa) (hv:frz h nb nt n v=some (.vsl false (eI .u8 b))) (hn:n≠0) (hf:zb4 [.int .i64 e,v]=false):frz h nb nt (n+1) (.agg [.int .i64 e,v])=some (.agg [.int .i64 e,.vsl false (eI .u8 b)]):=by
  obtain ⟨m,rfl⟩:∃ m,n=m+1:=⟨n - 1,by omega⟩
  rw [zjG _ _ _ _ _ hf]
  have:frz h nb nt (m+1) (.int .i64 e)=some (.int .i64 e):=by simp only [frz]
  simp [zBu,this,hv]
theorem zL8 (L:Lim) (h:zab) (js:List (List zaa)) (ts:List Nat) (t:Tc) (ht:t.ok) (hc:t.s.c < 10000000) (x:zaA) (hb:inB x.b) (hfew:x.few) (hL:L.rob≤h.blks.length) (hT:L.rot≤h.toks.length):
    zag ctx L zeI [.agg x.cells,pA h.blks.length 1 0] (hx h (trB h.blks.length [] t js) ts)=some (.agg (An2 (stepT t x).1),hx h (trB h.blks.length [] (stepT t x).2 js) ts):=by
  rw [znv]
  have hk:t.g.k < 1000000000:=by have:=ht.k;have:=ht.l;omega
  obtain ⟨d,ty,N,b⟩:=x
  simp only [zaA.few] at hfew
  obtain ⟨hbl,hN⟩:=hfew
  simp only at hb
  have hA:=fun L hL js=>zAF L h [] js ts t ty false b hb (by omega) hk ht.s hc ht.tg hL
  have hS:=fun L hL hT js=>zyn L h [] js ts t N hk ht.s hc ht.tg (fun h0=>by have:=hN (ht.count h0);omega) hL hT
  have hC:=fun L hL hT js=>zvd L h [] js ts t N hk ht.s hc ht.tg (fun h0=>by have:=hN (ht.count h0);omega) hL hT
  have hR:=fun L hL js=>zyq L h [] js ts t hk ht.s hc ht.tg hL
  have hFi:=fun L hL js=>zAE L h [] js ts t hL
  have hle:=zIi t N 100 (fun h0=>by have:=hN (ht.count h0);omega)
  rw [zyS] at hC
  have hgw:=fun t js y=>zx7 h.blks.length [] t js [y] 0
  have hsw:=fun t js y v=>zoq h.blks.length [] t js [y] 0 v
  have hgwG:=fun t js y hh=>zt1 h.blks.length [] t js y hh
  have happ:=fun t js w=>zno h.blks.length [] t js w
  have hln:=fun t js=>zbD h.blks.length [] t js
  have htr:=fun t w us=>zDd h.blks.length [] t js h ts us w
  have htr0:=fun t=>zsa h.blks.length [] t js h ts
  have htr1:=fun t w=>zsb h.blks.length [] t js h ts w
  simp only [List.length_nil,Nat.zero_add,Nat.add_zero,List.getElem?_cons_zero,List.set_cons_zero] at hA hS hC hR hFi hgw hsw hgwG hln htr htr0 htr1
  have hfz:=fun hh nb nt m e (l:List Int)=>zDj hh nb nt (m+1) e l (.vsl false (eI .u8 l)) (zhO hh nb nt m false (by simp)) (by omega) rfl
  have hfz0:=fun hh nb nt m e=>zDj hh nb nt (m+1) e [] .nsl (by simp [eI]) (by omega) rfl
  unfold An2
  simp only [zaA.cells]
  by_cases h0:d=0
  · have hd : stepT t ⟨d, ty, N, b⟩ = (((zxA t ty b).2, []), (zxA t ty b).1) := by unfold stepT; rw [if_neg (by simp only; omega)]; exact if_pos h0
    rw [hd]
    subst h0
    simp -implicitDefEqProofs [zbE,zmH,zan,zal,hln,happ,hgw,hsw,hgwG,zaf,zae,zbG,zah,zak,zap,zaa.under,zay,zaa.cells,zaa.okV,setAt,hA,hL,hfz0,htr0,htr1]
  · have b0 : (d == 0) = false := by simp [h0]
    by_cases h1:d=1
    · have hd : stepT t ⟨d, ty, N, b⟩ = (((zq5 t N).1.2, (zq5 t N).1.1), (zq5 t N).2) := by unfold stepT; rw [if_neg (by simp only; omega)]; unfold doT; rw [if_neg h0, if_pos h1]
      rw [hd]
      subst h1
      simp -implicitDefEqProofs [zbE,zmH,zan,zal,hln,happ,hgw,hsw,hgwG,zaf,zae,zbG,zah,zak,zap,zaa.under,zay,zaa.cells,zaa.okV,setAt,hS,hL,hT,hfz,htr0,htr1]
    · have b1 : (d == 1) = false := by simp [h1]
      by_cases h2:d=2
      · have hd : stepT t ⟨d, ty, N, b⟩ = (((zk5 t N).1.2, zvI (xsT t N)), (zk5 t N).2) := by unfold stepT; rw [if_neg (by simp only; omega)]; unfold doT; rw [if_neg h0, if_neg h1, if_pos h2]; rfl
        rw [hd]
        subst h2
        have hlen:(((xsT t N).map fe).map cW).length=(xsT t N).length:=by simp
        have hfg:=fun hh m=>zoN (h1:=hh) (nb:=h.blks.length+(4+js.length)) (nt:=h.toks.length+ts.length) (n:=m) (s:=.nsl) (es:=eI .u8 (zvI (xsT t N))) (.inl rfl) (by simp)
        simp only [zIK] at hfg
        generalize xsT t N=xs at*
        generalize hlw:(xs.map fe).map cW=lw at*
        have hgw0:=fun t js y z=>zx7 h.blks.length [] t js [y,z] 0
        have hgw1:=fun t js y z=>zx7 h.blks.length [] t js [y,z] 1
        have hgwG0:∀ t js y z hh,(trB h.blks.length [] t (js++[y,z]))[4+js.length]'hh=y:=fun t js y z hh=>(List.getElem?_eq_some_iff.1 (by simpa using hgw0 t js y z)).2
        have hgwG1:∀ t js y z hh,(trB h.blks.length [] t (js++[y,z]))[4+(js.length+1)]'hh=z:=fun t js y z hh=>(List.getElem?_eq_some_iff.1 (by simpa [Nat.add_assoc] using hgw1 t js y z)).2
        have hsw0:=fun t js y z v=>zoq h.blks.length [] t js [y,z] 0 v
        have hsw1:=fun t js y z v=>zoq h.blks.length [] t js [y,z] 1 v
        simp only [List.length_nil,Nat.zero_add,Nat.add_zero,Nat.add_assoc,List.getElem?_cons_zero,List.set_cons_zero,List.getElem?_cons_succ,List.set_cons_succ] at hgw0 hgw1 hsw0 hsw1
        simp -implicitDefEqProofs [zbE,zmH,zan,zal,hln,happ,hgw,hsw,hgwG,hgw0,hgw1,hsw0,hsw1,hgwG0,hgwG1,zaf,zae,zbG,zah,zak,zap,zaa.under,zay,zaa.cells,zaa.okV,setAt,hC,hL,hT,hlen]
        generalize hF:run ctx _ (.loop _) _ _=R
        obtain ⟨fr',jk,us,rfl,hk'⟩:=zGe (trB h.blks.length [] (zk5 t N).2 (js++[[.int .i64 0,.nsl],[.int .i64 (zk5 t N).1.2,.nsl]])) ts (zk5 t N).1.2 (4+(js.length+1)) (by rw [zbD];simp) xs (by omega) (by first | exact hL | simpa using hL) (by simp) (by first | exact hT | simpa using hT) hF (by rw [hgw1]) (by simp [hlw]) (by simp) (by simp) (by simp)
        have k9:=hk' 9 (by decide)
        have k4:=hk' 4 (by decide)
        have k2:=hk' 2 (by decide)
        simp at k9 k4 k2
        have hfa:=fun hh m=>zDj hh (h.blks.length+(4+js.length)) (h.toks.length+ts.length) (m+1) (zk5 t N).1.2 (zvI xs) (gL .nsl h.toks.length ts.length (eI .u8 (zvI xs))) (hfg hh m) (by omega) (by unfold gL;split <;> rfl)
        have hw0:=fun t js y z jk=>zx7 h.blks.length [] t js (y :: z :: jk) 0
        have hw1:=fun t js y z jk=>zx7 h.blks.length [] t js (y :: z :: jk) 1
        have ws0:=fun t js y z jk v=>zoq h.blks.length [] t js (y :: z :: jk) 0 v
        simp only [List.length_nil,Nat.zero_add,Nat.add_zero,Nat.add_assoc,List.getElem?_cons_zero,List.set_cons_zero,List.getElem?_cons_succ,List.set_cons_succ] at hw0 hw1 ws0
        have hwG0:∀ t js y z jk hh,(trB h.blks.length [] t (js++y :: z :: jk))[4+js.length]'hh=y:=fun t js y z jk hh=>(List.getElem?_eq_some_iff.1 (hw0 t js y z jk)).2
        have hwG1:∀ t js y z jk hh,(trB h.blks.length [] t (js++y :: z :: jk))[4+(js.length+1)]'hh=z:=fun t js y z jk hh=>(List.getElem?_eq_some_iff.1 (hw1 t js y z jk)).2
        have hst:=fun (L:Lim) (hL:L.rob≤h.blks.length) (hnb:L.nb≤h.blks.length+(4+js.length)) js2 us off cs=>zpW L h (trB h.blks.length [] (zk5 t N).2 js2) us (4+js.length) off cs (by simp only [Bool.and_eq_true,decide_eq_true_eq];exact ⟨hL,hnb⟩)
        rw [hsw1]
        simp -implicitDefEqProofs [k9,k4,k2,zan,zal,hln,happ,hw0,hw1,hwG0,hwG1,ws0,hst,hfa,zaf,zbG,zah,hL,htr]
      · have b2 : (d == 2) = false := by simp [h2]
        by_cases h3:d=3
        · have hd : stepT t ⟨d, ty, N, b⟩ = (((zxG t).2, []), (zxG t).1) := by unfold stepT; rw [if_neg (by simp only; omega)]; unfold doT; rw [if_neg h0, if_neg h1, if_neg h2]
          rw [hd]
          subst h3
          simp -implicitDefEqProofs [zbE,zmH,zan,zal,hln,happ,hgw,hsw,hgwG,zaf,zae,zbG,zah,zak,zap,zaa.under,zay,zaa.cells,zaa.okV,setAt,hR,hL,hfz0,htr0,htr1]
        · have b3 : (d == 3) = false := by simp [h3]
          have hd:stepT t ⟨d,ty,N,b⟩=(((zxH t.g).e,[]),{t with g:=zxH t.g}):=by unfold stepT;rw [if_pos (by simp only;omega)]
          rw [hd]
          simp -implicitDefEqProofs [zbE,zmH,zan,zal,hln,happ,hgw,hsw,hgwG,zaf,zae,zbG,zah,zak,zap,zaa.under,zay,zaa.cells,zaa.okV,setAt,b0,b1,b2,b3,hFi,hL,hfz0,htr0,htr1]
noncomputable def runT (t:Tc) (l:List zaA):List (Int × List Int) × Tc:=l.foldl (fun q x=>(q.1++[(stepT q.2 x).1],(stepT q.2 x).2)) ([],t)
theorem zwD (t:Tc) (l:List zaA) (x:zaA):runT t (l++[x])=((runT t l).1++[(stepT (runT t l).2 x).1],(stepT (runT t l).2 x).2):=by
  unfold runT;rw [List.foldl_append];rfl
theorem zjp (t:Tc) (l:List zaA) (k:Nat) (h:k < l.length):runT t (l.take (k+1))=((runT t (l.take k)).1++[(stepT (runT t (l.take k)).2 (gd l zfL k)).1],(stepT (runT t (l.take k)).2 (gd l zfL k)).2):=by
  have:l.take (k+1)=l.take k++[gd l zfL k]:=by rw [List.take_add_one];simp [gd,List.getD,h]
  rw [this,zwD]
theorem zoM (t:Tc) (l:List zaA):(runT t l).1.length=l.length:=by
  obtain ⟨n,hn⟩:∃ n,n=l.length:=⟨_,rfl⟩
  induction n generalizing l with
  | zero => have : l = [] := by cases l with | nil => rfl | cons => simp at hn
            subst this;rfl
  | succ n ih=>
    have hl:l=l.take n++[gd l zfL n]:=by
      have:l.take (n+1)=l:=by rw [hn,List.take_length]
      rw [List.take_add_one] at this
      conv=>lhs;rw [← this]
      simp [gd,List.getD,show n < l.length by omega]
    rw [hl,zwD]
    have:=ih (l.take n) (by rw [List.length_take];omega)
    simp [this]
theorem zyr {t:Tc} (ht:t.ok) (l:List zaA) (hb:∀ x∈l,inB x.b) (hf:∀ x∈l,x.few):∀ k,k≤l.length→(runT t (l.take k)).2.ok∧(runT t (l.take k)).2.s.c≤t.s.c+300000*k
  | 0,_=>by rw [List.take_zero];exact ⟨ht,by simp [runT]⟩
  | k + 1, h => by
    have ih:=zyr ht l hb hf k (by omega)
    have hm:=zug (d:=zfL) (show k < l.length by omega)
    have:=zF8 ih.1 (hb _ hm) (hf _ hm)
    rw [zjp t l k (by omega)]
    exact ⟨this.1,by simp only;omega⟩
theorem zve (l:List (Int × List Int)):zeZ 2 (l.map An2)=true:=by cases l <;> simp [zeZ,An2]
theorem zwE (nb nt:Nat):∀ l:List (Int × List Int),zaw nb nt (l.map An2)=true
  | []=>by simp [zaw]
  | c :: cs => by
    have ih:=zwE nb nt cs
    simp [zaw,ih,An2,zap,zaa.under,zu8]
theorem zDm {fr:Fr} {h:zab} {R:Option (AEx × Fr × zab)} (l:List zaA) (hl:l.length≤20) (hb:∀ x∈l,inB x.b) (hf:∀ x∈l,x.few) (t0:Tc) (ht0:t0.ok) (hc0:t0.s.c=0)
    (hF:run ctx (zau h) (.loop zgb) fr (hx h (trB h.blks.length [] t0 []) [])=R)
    (h5:fr 5=pA h.blks.length 1 0) (h8:fr 8=.nsl) (h25:fr 25=.vsl false (l.map zaA.cells)) (h26:fr 26=.int .i64 (l.length:Int)) (h27:fr 27=.int .i64 0):
    ∃ fr' bs ts,R=some (.exit 0,fr',hx h bs ts)∧fr' 8=gL .nsl h.toks.length 0 ((runT t0 l).1.map An2):=by
  obtain ⟨e,fr',h',rfl,⟨rfl,⟨bs,ts,rfl⟩,h8'⟩,hk⟩:=zaj hF l.length
    (fun k fr hh=>fr 27=.int .i64 (k:Int)∧fr 8=gL .nsl h.toks.length 0 ((runT t0 (l.take k)).1.map An2)∧∃ js,hh=hx h (trB h.blks.length [] (runT t0 (l.take k)).2 js) (gT ((runT t0 (l.take k)).1.map An2)))
    (fun e fr hh=>e=.exit 0∧(∃ bs ts,hh=hx h bs ts)∧fr 8=gL .nsl h.toks.length 0 ((runT t0 l).1.map An2))
    ⟨h27, by simpa [runT, gL] using h8, [], by simp [runT, gT]⟩ (by
      rintro k fr1 hh hkN hkeep ⟨g27,g8,js,rfl⟩
      have g5:=(hkeep 5 (by decide)).trans h5
      have g25:=(hkeep 25 (by decide)).trans h25
      have g26:=(hkeep 26 (by decide)).trans h26
      by_cases hlt:k < l.length
      · have hltI : (k : Int) < (l.length : Int) := by omega
        have w0:IntKind.i64.wrap ((k:Int)+1)=k+1:=wrap_i64 (by omega) (by omega)
        have ia:=zsd .i64 false l k hlt
        have hm:=zug (d:=zfL) hlt
        have hxb:=hb _ hm
        have hxf:=hf _ hm
        have hsu:=zjp t0 l k hlt
        have hok:=zyr ht0 l hb hf k (by omega)
        have hal:(runT t0 (l.take k)).1.length=k:=by rw [zoM,List.length_take];omega
        generalize runT t0 (l.take k)=q at*
        obtain ⟨acc,t⟩:=q
        simp only at hok hal hsu g8
        generalize gd l zfL k=x at*
        generalize l.map zaA.cells=lc at*
        have hDo:=fun L hL hT js ts=>zL8 L h js ts t hok.1 (by omega) x hxb hxf hL hT
        have hcl:x.cells.length=4:=rfl
        have hca:x.cells=[.int .i64 x.d,.int .i64 x.ty,.int .i64 x.n,.vsl false (eI .u8 x.b)]:=rfl
        have hap := fun (L : Lim) (hT : L.rot ≤ h.toks.length) B => zpQ L h B 2 true (acc.map An2) [An2 (stepT t x).1] (by
          simp only [zve,List.length_map,hal,Bool.and_eq_true,decide_eq_true_eq]
          exact ⟨⟨⟨rfl,trivial⟩,hT⟩,by unfold zas;simp only [List.length_cons,List.length_nil];omega⟩)
        have hmm:acc.map An2++[An2 (stepT t x).1]=(acc++[(stepT t x).1]).map An2:=by simp
        rw [hmm] at hap
        have hfi:∀ a,zay (rep [zaa.int .i64 0,.nsl] 1) [(0,2,.agg (An2 a))]=some (An2 a):=fun a=>rfl
        have hch:∀ a,chunks 2 1 (An2 a)=[An2 a]:=fun a=>rfl
        have hgw:=fun t js y=>zx7 h.blks.length [] t js [y] 0
        have hsw:=fun t js y v=>zoq h.blks.length [] t js [y] 0 v
        have hgwG:=fun t js y hh=>zt1 h.blks.length [] t js y hh
        have happ:=fun t js w=>zno h.blks.length [] t js w
        have hln:=fun t js=>zbD h.blks.length [] t js
        simp only [List.length_nil,Nat.zero_add,Nat.add_zero,List.getElem?_cons_zero,List.set_cons_zero] at hgw hsw hgwG hln
        generalize stepT t x=r at*
        obtain ⟨a,t2⟩:=r
        simp only at hDo hap hsu
        simp -implicitDefEqProofs [zgb,zau,g5,g8,g25,g26,g27,hltI,ia,zan,zal,hln,happ,hgw,hsw,hgwG,zaf,zae,zbG,zah,zak,zap,zaa.under,hcl,hDo,hfi,hch,hap,w0]
        rw [hsu,List.map_append]
        exact ⟨hlt,rfl,_,rfl⟩
      · have : k = l.length := by omega
        subst this
        rw [List.take_length] at g8
        simp [zgb,g26,g27]
        exact ⟨⟨_,_,rfl⟩,g8⟩)
  exact ⟨fr',bs,ts,rfl,h8'⟩
theorem zGh (L:Lim) (h:zab) (c:Bool) (bk:Int) (h1:(bk==1)=false) (h2:(bk==2)=false) (y:zaa):
    zag ctx L zdb [.int .i64 bk,y] h=some (.tup [.nilp,.int .i64 (-1),.int .i64 15],h):=by
  rw [zhQ]
  simp -implicitDefEqProofs [zde,zau,bne,h1,h2,zxm]
noncomputable def zf1 (bk:Int) (p:List Int) (l:List zaA):List (Int × List Int) × Int × Int:=
  if bk=1 then (if (ziO p).2.2=0 then ((runT (zBz p) l).1, -1,0) else ([],(ziO p).2.1,(ziO p).2.2)) else ([], -1,15)
theorem zDq (L:Lim) (h:zab) (bk:Int) (hbk:bk≠2) (p:List Int) (hp:inB p) (hpl:p.length≤1000) (l:List zaA) (hl:l.length≤20) (hb:∀ x∈l,inB x.b) (hf:∀ x∈l,x.few):
    zag ctx L zct [.agg [.int .i64 bk,.vsl false (eI .u8 p),.vsl false (l.map zaA.cells)]] h=some (.tup [.vsl false ((zf1 bk p l).1.map An2),.int .i64 (zf1 bk p l).2.1,.int .i64 (zf1 bk p l).2.2],h):=by
  rw [zqE]
  have hlen:(l.map zaA.cells).length=l.length:=by simp
  have hfz:fzA h (.agg [.int .i64 bk,.vsl false (eI .u8 p),.vsl false (l.map zaA.cells)])=some (.agg [.int .i64 bk,.vsl false (eI .u8 p),.vsl false (l.map zaA.cells)],false):=by
    simp [fzA,zfJ,zb4,zaa.flat]
  by_cases h1:bk=1
  · subst h1
    have hN:=fun L hL hnb=>zJx L h [] [] false p hp (by omega) hL hnb
    by_cases he:(ziO p).2.2=0
    · have hd : zf1 1 p l = ((runT (zBz p) l).1, -1, 0) := by unfold zf1; rw [if_pos rfl, if_pos he]
      rw [hd]
      simp only [if_pos he] at hN
      have hlo:=fun fr R=>zDm (fr:=fr) (h:=h) (R:=R) l hl hb hf (zBz p) (zBL p hp) (zLh p)
      have hfa:=fun hh m=>zoN (h1:=hh) (nb:=h.blks.length) (nt:=h.toks.length) (n:=m) (s:=.nsl) (.inl rfl) (zwE h.blks.length h.toks.length (runT (zBz p) l).1)
      generalize zBz p=t0 at*
      simp only [List.length_nil,Nat.zero_add,Nat.add_zero] at hN
      generalize hlc:l.map zaA.cells=lc at*
      simp -implicitDefEqProofs [zfz,zau,hfz,zmH,zaf,zae,zaa.cells,zaa.okV,hN,bne]
      generalize hF:run ctx _ (.loop _) _ _=R
      obtain ⟨fr',bs,ts,rfl,f8⟩:=hlo _ _ hF (by simp) (by simp) (by simp [hlc]) (by simp [hlen]) (by simp)
      simp -implicitDefEqProofs [f8,hfa]
    · have hd : zf1 1 p l = ([], (ziO p).2.1, (ziO p).2.2) := by unfold zf1; rw [if_pos rfl, if_neg he]
      rw [hd]
      simp only [if_neg he] at hN
      have be:((ziO p).2.2==0)=false:=by simp [he]
      generalize l.map zaA.cells=lc at*
      simp -implicitDefEqProofs [zfz,zau,hfz,zmH,zaf,zae,zaa.cells,zaa.okV,hN,bne,be]
  · have hd : zf1 bk p l = ([], -1, 15) := by unfold zf1; rw [if_neg h1]
    rw [hd]
    have hN:=fun L h y=>zGh L h true bk (by simp [h1]) (by simp [hbk]) y
    generalize l.map zaA.cells=lc at*
    simp -implicitDefEqProofs [zfz,zau,hfz,zmH,zaf,zae,zaa.cells,zaa.okV,hN,bne]
end Go.Av
namespace Go.Av
theorem zPv (n:Nat) (h:n < 10):Lib.itoa (n:Int)=[UInt8.ofNat (48+n)]:=by
  unfold Lib.itoa;rw [if_neg (by omega),Int.toNat_natCast,Lib.decDigits,dif_pos h]
theorem zDu:zk1 [(0,[]),(10,[])]=[48,10,49,48,10]:=by
  have h10:Lib.itoa 10=[49,48]:=by
    unfold Lib.itoa
    rw [if_neg (by omega),show ((10:Int).toNat)=10 from rfl,Lib.decDigits,dif_neg (by omega),show 10 / 10=1 from rfl,Lib.decDigits,dif_pos (by omega)]
    rfl
  have h0:Lib.itoa 0=[48]:=zPv 0 (by omega)
  simp [zk1,zJz,h10,h0]
theorem zzr (L:Lim) (h:zab) (x:zaa) (es:List (List zaa)) (m:List (Int × List Nat)) (hx:zaz h 2 x=some es) (hs:zfe 2 x=true) (hz:zeZ 2 es=true) (hm:es.mapM (zJC h)=some m) (hc:m.length≤1000∧∀ a∈m,a.2.length≤4000):
    zag ctx L zdW [x] h=some (.str ⟨(zk1 m).toArray⟩,h):=by
  rw [zss _ _ _ zrt]
  simp only [zwX,hs,hx,hz,if_true,Option.bind_some,hm,if_pos hc]
theorem zyt (L:Lim) (h:zab):zag ctx L za2 [] h=some (.bool true,h):=by
  rw [zj2]
  have ht:=fun L h=>zzr L h (.vsl true [[.int .i64 0,.nsl],[.int .i64 10,.nsl]]) _ [(0,[]),(10,[])] rfl rfl rfl rfl (by simp)
  simp [zel,zay,rep,zaa.cells,zaa.okV,chunks,ht,zDu,setAt]
  exact (Go.MapKept.bytes_beq _ _).2 rfl
def scT (bk:Int) (p:List Int) (l:List zaA):List zaa:=[.int .i64 bk,.vsl false (eI .u8 p),.vsl false (l.map zaA.cells)]
theorem zDy (l:List zaA):zeZ 4 (l.map zaA.cells)=true:=by cases l <;> simp [zeZ,zaA.cells]
theorem zGq {fr:Fr} {h:zab} {bk:Int} {p:List Int} {z:List zaa} {R:Option (AEx × Fr × zab)} (hF:run ctx (zau h) (.loop zd4) fr (hx h [z,[.int .i64 bk,.vsl false (eI .u8 p),.nsl]] [])=R) (l:List zaA) (hl:l.length≤1000000)
    (h3:fr 3=pA h.blks.length 1 0) (h12:fr 12=.vsl false (l.map zaA.cells)) (h13:fr 13=.int .i64 l.length) (h14:fr 14=.int .i64 0):
    ∃ fr' bs,R=some (.exit 0,fr',hx h (z :: [.int .i64 bk,.vsl false (eI .u8 p),gL .nsl h.toks.length 0 (l.map zaA.cells)] :: bs) (gT (l.map zaA.cells)))∧fr' 2=fr 2∧fr' 3=fr 3:=by
  obtain ⟨e,fr',h',rfl,⟨bs,rfl,rfl⟩,hk⟩:=zaj hF l.length
    (fun k fr hh=>fr 14=.int .i64 k∧∃ bs,hh=hx h (z :: [.int .i64 bk,.vsl false (eI .u8 p),gL .nsl h.toks.length 0 ((l.take k).map zaA.cells)] :: bs) (gT ((l.take k).map zaA.cells)))
    (fun e fr hh=>∃ bs,hh=hx h (z :: [.int .i64 bk,.vsl false (eI .u8 p),gL .nsl h.toks.length 0 (l.map zaA.cells)] :: bs) (gT (l.map zaA.cells))∧e=.exit 0)
    ⟨h14, [], by simp [gT, gL]⟩ (by
      rintro k fr1 hh hkN hkeep ⟨g14,bs,rfl⟩
      have g3:=(hkeep 3 (by decide)).trans h3
      have g12:=(hkeep 12 (by decide)).trans h12
      have g13:=(hkeep 13 (by decide)).trans h13
      by_cases hlt:k < l.length
      · have hi:=zsd .i64 false l k hlt
        have w2:IntKind.i64.wrap ((k:Int)+1)=k+1:=wrap_i64 (by omega) (by omega)
        have e:(l.take k).map zaA.cells++[(gd l zfL k).cells]=(l.take (k+1)).map zaA.cells:=by rw [List.take_add_one,zut (d:=zfL) hlt];simp
        generalize gd l zfL k=c at*
        simp only [zaA.cells] at hi
        simp [zd4,g14,g13,g12,g3,hlt,hi,w2,zaf,zbG,zau,zah,setAt,zay,rep,zaa.cells,zaa.okV,chunks,zpQ,zDk, -List.map_take,zas,show k+1 < 274877906944 by omega,Nat.min_eq_left hkN,zDy]
        rw [show (l.take k).map zaA.cells++[[zaa.int .i64 c.d,.int .i64 c.ty,.int .i64 c.n,.vsl false (eI .u8 c.b)]]=(l.take (k+1)).map zaA.cells from e]
        exact ⟨_,rfl⟩
      · have : k = l.length := by omega
        subst this
        simp [zd4,g14,g13]
        exact ⟨_,rfl⟩)
  exact ⟨fr',bs,rfl,hk 2 (by decide),hk 3 (by decide)⟩
theorem zzs (nb nt:Nat):∀ l:List zaA,zaw nb nt (l.map zaA.cells)=true
  | []=>by simp [zaw]
  | c :: l => by
    have ih:=zzs nb nt l
    simp [zaw,ih,zaA.cells,zap,zaa.under,zu8]
theorem zHQ (L:Lim) (h:zab) (bk:Int) (p:List Int) (l:List zaA) (hl:l.length≤1000000):zag ctx L zck [.agg (scT bk p l)] h=some (.agg (scT bk p l),h):=by
  rw [znt]
  simp only [scT]
  simp [zgX,fzA,zfJ,zb4,zaa.flat,zay,rep,zaa.cells,zaa.okV,zaf,zbG,zau,zah,setAt]
  generalize hF:run ctx _ (.loop _) _ _=R
  obtain ⟨fr',bs,rfl,g2,g3⟩:=zGq hF l hl (by simp) (by simp) (by simp) (by simp)
  simp at g2 g3
  have hf1:=fun hh n=>zoN (h1:=hh) (nb:=h.blks.length) (nt:=h.toks.length) (n:=n) (s:=.nsl) (.inl rfl) (zzs h.blks.length h.toks.length l)
  simp [g2,g3,zaf,zbG,zau,zah,zjG,zBu,zb4,zaa.flat,hf1]
def zaA.short (x:zaA):Prop:=x.b.length≤300∧(x.n≤1048576→x.n≤60)
theorem znL {fr:Fr} {h:zab} {R:Option (AEx × Fr × zab)} (hF:run ctx (zau h) (.loop zbb) fr (hx h [] [])=R) (l:List zaA) (hl:l.length < 9223372036854775808)
    (h6:fr 6=.vsl false (l.map zaA.cells)) (h7:fr 7=.int .i64 (l.length:Int)) (h8:fr 8=.int .i64 0):
    ∃ e fr' bs,R=some (e,fr',hx h bs [])∧(e=.exit 0∧(∀ x∈l,x.short)∧fr' 1=fr 1∨e=.ret∧fr' 2=.bool true∧¬∀ x∈l,x.short):=by
  obtain ⟨e,fr',h',rfl,⟨bs,rfl,hp⟩,hk⟩:=zaj hF l.length
    (fun k fr hh=>fr 8=.int .i64 (k:Int)∧∃ bs,hh=hx h bs []∧∀ i,i < k→(gd l zfL i).short)
    (fun e fr hh=>∃ bs,hh=hx h bs []∧(e=.exit 0∧(∀ x∈l,x.short)∨e=.ret∧fr 2=.bool true∧¬∀ x∈l,x.short))
    ⟨h8, [], rfl, fun i hi => by omega⟩ (by
      rintro k fr1 hh hkN hkeep ⟨g8,bs,rfl,hall⟩
      have g6:=(hkeep 6 (by decide)).trans h6
      have g7:=(hkeep 7 (by decide)).trans h7
      by_cases hlt:k < l.length
      · have hltI : (k : Int) < (l.length : Int) := by omega
        have w0:IntKind.i64.wrap ((k:Int)+1)=k+1:=wrap_i64 (by omega) (by omega)
        have ia:=zsd .i64 false l k hlt
        have hm:=zug (d:=zfL) hlt
        have hstep : (gd l zfL k).short → ∀ i, i < k + 1 → (gd l zfL i).short := fun hf i hi => by
          by_cases e:i=k
          · rw [e];exact hf
          · exact hall i (by omega)
        have hno:¬(gd l zfL k).short→¬∀ x∈l,x.short:=fun hn ha=>hn (ha _ hm)
        generalize gd l zfL k=x at*
        obtain ⟨d,ty,n,b⟩:=x
        simp only [zaA.cells] at ia
        have hno2:=fun hn:¬zaA.short ⟨d,ty,n,b⟩=>hno hn
        simp only [zaA.short] at hstep
        generalize l.map zaA.cells=lc at*
        by_cases h1:300 < b.length
        · have h1' : (300 : Int) < (b.length : Int) := by omega
          simp -implicitDefEqProofs [zbb,zau,g6,g7,g8,hltI,ia,zaf,zae,zbG,zah,h1']
          refine ⟨⟨_,rfl⟩,?_⟩
          have:=hno2 (fun hf=>by have h5:=hf.1;have h6:=hf.2;simp only at h5 h6;omega)
          simpa using this
        · have h1' : ¬ (300 : Int) < (b.length : Int) := by omega
          by_cases h2:60 < n
          · by_cases h3:n≤1048576
            · simp -implicitDefEqProofs [zbb,zau,g6,g7,g8,hltI,ia,zaf,zae,zbG,zah,h1',h2,h3]
              refine ⟨⟨_,rfl⟩,?_⟩
              have:=hno2 (fun hf=>by have h5:=hf.1;have h6:=hf.2;simp only at h5 h6;omega)
              simpa using this
            · simp -implicitDefEqProofs [zbb,zau,g6,g7,g8,hltI,ia,zaf,zae,zbG,zah,h1',h2,h3,w0]
              exact ⟨hlt,⟨_,rfl⟩,hstep (by omega)⟩
          · simp -implicitDefEqProofs [zbb,zau,g6,g7,g8,hltI,ia,zaf,zae,zbG,zah,h1',h2,w0]
            exact ⟨hlt,⟨_,rfl⟩,hstep (by omega)⟩
      · have : k = l.length := by omega
        subst this
        simp [zbb,g7,g8]
        refine ⟨⟨_,rfl⟩,fun x hx=>?_⟩
        obtain ⟨i,hi,rfl⟩:=List.mem_iff_getElem.1 hx
        have:=hall i hi
        rwa [show gd l zfL i=l[i] by simp [gd,List.getD,hi]] at this)
  refine ⟨e,fr',bs,rfl,?_⟩
  rcases hp with ⟨rfl,h1⟩ | h2
  · exact .inl ⟨rfl,h1,hk 1 (by decide)⟩
  · exact .inr h2
def zMq (bk:Int) (p:List Int) (l:List zaA):Prop:=(∀ x∈l,x.short)∧p.length≤1000∧l.length≤12∧bk≠2
theorem zDA (L:Lim) (h:zab) (bk:Int) (p:List Int) (hpl:p.length < 9223372036854775808) (l:List zaA) (hl:l.length < 9223372036854775808):∃ q:Bool,(q=false↔zMq bk p l)∧∀ L h,zag ctx L zcu [.agg (scT bk p l)] h=some (.bool q,h):=by
  have hlen:(l.map zaA.cells).length=l.length:=by simp
  by_cases hs:∀ x∈l,x.short
  · by_cases hq:p.length≤1000∧l.length≤12∧bk≠2
    · refine ⟨false, ⟨fun _ => ⟨hs, hq⟩, fun _ => rfl⟩, fun L h => ?_⟩
      have hlo:=fun fr R=>znL (fr:=fr) (h:=h) (R:=R)
      have h1:¬(1000:Int) < (p.length:Int):=by omega
      have h2:¬(12:Int) < (l.length:Int):=by omega
      have h3:(bk==2)=false:=by simp [hq.2.2]
      rw [zdC]
      simp only [scT]
      simp -implicitDefEqProofs [zcy,zau, -List.length_map,hlen,zaf,zae,fzA,zfJ,zb4,zaa.flat]
      generalize hF:run ctx _ (.loop _) _ _=R
      obtain ⟨e,fr',bs,rfl,⟨rfl,_,f1⟩ | ⟨rfl,f2,hn⟩⟩:=hlo _ _ hF l hl (by simp) (by simp [-List.length_map,hlen]) (by simp)
      · simp at f1
        simp -implicitDefEqProofs [f1, -List.length_map,hlen,zae,h1,h2,h3]
      · exact absurd hs hn
    · refine ⟨true, ⟨fun hh => by simp at hh, fun hh => absurd hh.2 hq⟩, fun L h => ?_⟩
      have hlo:=fun fr R=>znL (fr:=fr) (h:=h) (R:=R)
      rw [zdC]
      simp only [scT]
      simp -implicitDefEqProofs [zcy,zau, -List.length_map,hlen,zaf,zae,fzA,zfJ,zb4,zaa.flat]
      generalize hF:run ctx _ (.loop _) _ _=R
      obtain ⟨e,fr',bs,rfl,⟨rfl,_,f1⟩ | ⟨rfl,f2,hn⟩⟩:=hlo _ _ hF l hl (by simp) (by simp [-List.length_map,hlen]) (by simp)
      · simp at f1
        by_cases h1:(1000:Int) < (p.length:Int)
        · simp -implicitDefEqProofs [f1, -List.length_map,hlen,zae,h1]
        · by_cases h2:(12:Int) < (l.length:Int)
          · simp -implicitDefEqProofs [f1, -List.length_map,hlen,zae,h1,h2]
          · have h3 : bk = 2 := Classical.byContradiction fun h3 => hq ⟨by omega, by omega, h3⟩
            subst h3
            simp -implicitDefEqProofs [f1, -List.length_map,hlen,zae,h1,h2]
      · simp -implicitDefEqProofs [f2]
  · refine ⟨true, ⟨fun hh => by simp at hh, fun hh => absurd hh.1 hs⟩, fun L h => ?_⟩
    have hlo:=fun fr R=>znL (fr:=fr) (h:=h) (R:=R)
    rw [zdC]
    simp only [scT]
    simp -implicitDefEqProofs [zcy,zau, -List.length_map,hlen,zaf,zae,fzA,zfJ,zb4,zaa.flat]
    generalize hF:run ctx _ (.loop _) _ _=R
    obtain ⟨e,fr',bs,rfl,⟨rfl,h1,f1⟩ | ⟨rfl,f2,hn⟩⟩:=hlo _ _ hF l hl (by simp) (by simp [-List.length_map,hlen]) (by simp)
    · exact absurd h1 hs
    · simp -implicitDefEqProofs [f2]
end Go.Av
namespace Go.Av
theorem zG7 {b:List Int} (h:(zsV b).2.2=0):chk (zsV b).1=0:=by
  unfold zsV at h ⊢
  split at h
  · simp at h
  · split at h
    · next h1 h2=>rw [if_neg h1,if_pos h2];exact h2
    · next h1 h2=>exact absurd h h2
theorem zzL:∀ (f:Nat) (b:List Int) (k:Nat) (acc:List It),(∀ x∈acc,chk x=0)→∀ x∈(zDv f b k acc).1,chk x=0
  | 0,b,k,acc,h=>h
  | f + 1, b, k, acc, h => by
    unfold zDv
    split
    · exact h
    · split
      · intro x hx;simp at hx
      · split
        · next he=>
          refine zzL f _ _ _ ?_
          intro x hx
          rcases List.mem_append.1 hx with h1 | h1
          · exact h x h1
          · rw [List.mem_singleton.1 h1];exact zG7 he
        · intro x hx;simp at hx
def Tc.chk (t:Tc):Prop:=∀ x∈t.g.l,Av.chk x=0
theorem zGF (p:List Int):(zBz p).chk:=zzL _ _ _ _ (by simp)
theorem zM5 (g:Gd):(zxH g).l=g.l:=(zhX _ _).1
theorem zM6 (t:Tc) (ty:Int) (b:List Int):(zxA t ty b).1.g.l=t.g.l:=by
  unfold zxA
  split
  · split
    · split
      · split
        · exact zhY _ _ _ _
        · exact (zhX _ _).1.trans (zhY _ _ _ _)
      · exact zhY _ _ _ _
    · exact (zhX _ _).1
  · rfl
theorem zM7 (t:Tc) (N:Int):(zq5 t N).2.g.l=t.g.l:=by
  unfold zq5;split <;> exact zhY _ _ _ _
theorem zM9 (t:Tc) (N:Int):(zk5 t N).2.g.l=t.g.l:=by
  unfold zk5
  split
  · split
    · exact zhY _ _ _ _
    · exact (zhX _ _).1.trans (zhY _ _ _ _)
  · exact zhY _ _ _ _
theorem zNa (t:Tc):(zxG t).1.g.l=t.g.l:=by
  unfold zxG;split <;> exact zhY _ _ _ _
theorem zJ0 (t:Tc) (x:zaA):(stepT t x).2.g.l=t.g.l:=by
  unfold stepT
  split
  · exact zM5 _
  · unfold doT
    split
    · exact zM6 _ _ _
    · split
      · exact zM7 _ _
      · split
        · exact zM9 _ _
        · exact zNa _
theorem zEg {t:Tc} (h:t.chk) (x:zaA):(stepT t x).2.chk:=by unfold Tc.chk;rw [zJ0];exact h
theorem Tc.chk.count {t:Tc} (h:t.chk) {k ty c:Int} (hn:(zbi t.g k ty c).e=0):1≤c∧c≤1048576:=by
  obtain ⟨h1,h2⟩:=zvt (zp0 hn)
  rw [← h2]
  obtain ⟨_,_,_,_,h3,h4,_⟩:=zo2 (h _ (zug (d:=⟨0,0,0,⟨#[]⟩⟩) h1))
  exact ⟨h3,h4⟩
theorem zEh (n:Nat):∀ (s:Sp) (acc:List (List W64)) (t:Int),(zig n s acc t).1.2.2=0→(zig n s acc t).1.1.length=acc.length+n:=by
  induction n with
  | zero=>intro s acc t _;simp [zig]
  | succ n ih=>
    intro s acc t h
    rw [zig] at h ⊢
    split at h
    · next h0=>
      rw [if_pos h0]
      have:=ih (za9 s).2 (acc++[(za9 s).1.1]) (IntKind.i64.wrap (t+(za9 s).1.2.1)) h
      simp only [List.length_append,List.length_singleton] at this
      omega
    · next h0=>exact absurd h h0
theorem zzM {t:Tc} {N:Int} (h:(zk5 t N).1.2=0):(zbi t.g 2 3 N).e=0∧(xsT t N).length=N.toNat:=by
  have h1:(xsT t N).length=(zk5 t N).1.1.length:=by rw [zyS];simp
  rw [h1]
  unfold zk5 at h ⊢
  by_cases h0:(zbi t.g 2 3 N).e=0
  · rw [if_pos h0] at h ⊢
    refine ⟨h0,?_⟩
    by_cases h2:(zaC (zbF t.s (opB 2 3 N [])) N.toNat).1.2.2=0
    · rw [if_pos h2]
      have:=zEh N.toNat (zbF t.s (opB 2 3 N [])) [] 0 h2
      simp only [List.length_nil,Nat.zero_add] at this
      exact this
    · rw [if_neg h2] at h
      simp only at h
      unfold zbY at h
      rw [if_pos h0] at h
      exact absurd h h2
  · rw [if_neg h0] at h;exact absurd h h0
def zJ2 (x:zaA) (e:Int):Int:=if e=0 then (if x.d=1 then x.n else if x.d=2 then 32*x.n else 0) else 0
theorem zyH {t:Tc} (hc:t.chk) (x:zaA):((stepT t x).1.2.length:Int)=zJ2 x (stepT t x).1.1:=by
  unfold zJ2 stepT
  by_cases hd:x.d < 0∨x.d > 3
  · rw [if_pos hd]
    simp only [List.length_nil]
    rw [if_neg (show ¬x.d=1 by omega),if_neg (show ¬x.d=2 by omega)]
    split <;> rfl
  · rw [if_neg hd]
    unfold doT
    by_cases h0:x.d=0
    · rw [if_pos h0, if_neg (show ¬ x.d = 1 by omega), if_neg (show ¬ x.d = 2 by omega)]
      simp
    · rw [if_neg h0]
      by_cases h1:x.d=1
      · rw [if_pos h1,if_pos h1]
        simp only
        unfold zq5
        by_cases hn:(zbi t.g 2 1 x.n).e=0
        · rw [if_pos hn]
          simp only [zpc,if_pos]
          have:=hc.count hn
          omega
        · rw [if_neg hn]
          simp only [List.length_nil,if_neg hn];rfl
      · rw [if_neg h1,if_neg h1]
        by_cases h2:x.d=2
        · rw [if_pos h2,if_pos h2]
          simp only
          by_cases he:(zk5 t x.n).1.2=0
          · obtain ⟨hn,hl⟩:=zzM he
            rw [if_pos he]
            have:=hc.count hn
            have h3:(zvI (xsT t x.n)).length=32*(xsT t x.n).length:=zyW _
            show ((zvI (xsT t x.n)).length:Int)=_
            rw [h3,hl]
            omega
          · rw [if_neg he,zIj he];rfl
        · rw [if_neg h2,if_neg h2]
          simp
theorem zJ3 {t:Tc} (hc:t.chk) (x:zaA) (he:(stepT t x).1.1=0) (h2:x.d=2):1≤x.n∧x.n≤1048576:=by
  unfold stepT at he
  rw [if_neg (by omega)] at he
  unfold doT at he
  rw [if_neg (by omega),if_neg (by omega),if_pos h2] at he
  exact hc.count (zzM he).1
theorem zzO {t:Tc} (h:t.chk) (l:List zaA):∀ k,k≤l.length→(runT t (l.take k)).2.chk
  | 0,_=>h
  | k+1,hk=>by rw [zjp t l k (by omega)];exact zEg (zzO h l k (by omega)) _
theorem zEi (t:Tc) (l:List zaA):∀ n k,n=l.length - k→k≤l.length→(runT t l).1.take k=(runT t (l.take k)).1:=by
  intro n
  induction n with
  | zero=>
    intro k hn hk
    have:k=l.length:=by omega
    subst this
    have:=zoM t l
    rw [List.take_length,← this,List.take_length]
  | succ n ih=>
    intro k hn hk
    have h1:=ih (k+1) (by omega) (by omega)
    have h2:=zjp t l k (by omega)
    have h3:(runT t (l.take k)).1.length=k:=by rw [zoM,List.length_take];omega
    rw [h2] at h1
    have h4:(runT t l).1.take k=((runT t l).1.take (k+1)).take k:=by rw [List.take_take,Nat.min_eq_left (by omega)]
    rw [h4,h1]
    simp only
    rw [List.take_left' h3]
end Go.Av
namespace Go.Av
def er (e:Int):Prop:=0≤e∧e≤15
theorem zsA {g:Gd} {e:Int} (hg:er g.e) (he:er e):er (zbY g e).e:=by
  unfold zbY;split
  · exact he
  · exact hg
theorem zlP {g:Gd} (hg:er g.e) (k t c:Int):er (zbi g k t c).e:=by
  rw [zvi]
  refine zsA hg ?_
  split <;> simp [er]
theorem zHU (t:Int) (n:Nat):er (zp6 t n).2:=by
  unfold zp6
  split
  · simp [er]
  · split
    · simp [er]
    · split <;> simp [er]
theorem zNh (t:Int) (b:List Int):er (zEN t b):=by
  unfold zEN
  split
  · exact zHU _ _
  · split
    · split <;> simp [er]
    · simp [er]
theorem zNi (f:Nat):∀ (s:Sp) (k:Nat),er (zvk f s k).1.2.2:=by
  induction f with
  | zero=>intro s k;rw [zvT];simp [er]
  | succ f ih=>
    intro s k
    rw [zvU]
    split
    · simp [er]
    · exact ih _ _
theorem zHc (s:Sp):er (za9 s).1.2.2:=by
  have h:=zNi 64 s 0
  rw [← zlG] at h
  exact h
theorem zJ5 (n:Nat):∀ (s:Sp) (acc:List (List W64)) (t:Int),er (zig n s acc t).1.2.2:=by
  induction n with
  | zero=>intro s acc t;simp [zig,er]
  | succ n ih=>
    intro s acc t
    rw [zig]
    split
    · exact ih _ _ _
    · exact zHc s
theorem zA5 (s:Sp) (n:Nat):er (zaC s n).1.2.2:=by unfold zaC;exact zJ5 n s [] 0
theorem zzP {t:Tc} (h:er t.g.e) (x:zaA):er (stepT t x).1.1:=by
  rw [← zDf]
  unfold stepT
  split
  · exact zsA h (by split <;> simp [er])
  · unfold doT
    split
    · simp only
      unfold zxA
      split
      · split
        · split
          · split
            · exact zlP h _ _ _
            · exact zsA (zlP h _ _ _) (zNh _ _)
          · exact zlP h _ _ _
        · exact zsA h (zHU _ _)
      · exact h
    · split
      · simp only;unfold zq5;split <;> exact zlP h _ _ _
      · split
        · simp only;unfold zk5
          split
          · split
            · exact zlP h _ _ _
            · exact zsA (zlP h _ _ _) (zA5 _ _)
          · exact zlP h _ _ _
        · simp only;unfold zxG;split <;> exact zlP h _ _ _
theorem zHd (xs : List Nat) : inB (zvI xs) := zuj fun z hz => by
  obtain ⟨x,_,hx⟩:=List.mem_flatMap.1 hz
  exact zui (zp3 _) z hx
theorem zHe {t:Tc} (h:t.ok) (x:zaA):inB (stepT t x).1.2:=by
  unfold stepT
  split
  · exact zlK
  · unfold doT
    split
    · exact zlK
    · split
      · exact zJV h _
      · split
        · exact zHd _
        · exact zlK
def zA6 (a:Int × List Int):Prop:=er a.1∧a.2.length≤4000∧inB a.2
theorem zEk {t:Tc} (h:t.ok) (hc:t.chk) (he:er t.g.e) {x:zaA} (hx:x.few):zA6 (stepT t x).1:=by
  refine ⟨zzP he x,?_,zHe h x⟩
  have hd:=zyH hc x
  unfold zJ2 at hd
  by_cases h0:(stepT t x).1.1=0
  · rw [if_pos h0] at hd
    by_cases h1:x.d=1
    · rw [if_pos h1] at hd
      have:1≤x.n∧x.n≤1048576:=by
        unfold stepT at h0
        rw [if_neg (by omega)] at h0
        unfold doT at h0
        rw [if_neg (by omega),if_pos h1] at h0
        simp only at h0
        refine hc.count (k:=2) (ty:=1) ?_
        unfold zq5 at h0
        split at h0
        · next hn=>exact hn
        · next hn=>exact absurd h0 hn
      have:=hx.2 this.2
      omega
    · rw [if_neg h1] at hd
      by_cases h2:x.d=2
      · rw [if_pos h2] at hd
        have:=hx.2 (zJ3 hc x h0 h2).2
        omega
      · rw [if_neg h2] at hd;omega
  · rw [if_neg h0] at hd;omega
theorem zEl {t:Tc} (h:er t.g.e) (l:List zaA):∀ k,k≤l.length→er (runT t (l.take k)).2.g.e
  | 0,_=>h
  | k + 1, hk => by
    rw [zjp t l k (by omega)]
    simp only
    rw [zDf]
    exact zzP (zEl h l k (by omega)) _
theorem zzQ {t:Tc} (h:t.ok) (hc:t.chk) (he:er t.g.e) (l:List zaA) (hb:∀ x∈l,inB x.b) (hf:∀ x∈l,x.few):∀ k,k≤l.length→∀ a∈(runT t (l.take k)).1,zA6 a
  | 0,_=>by simp [runT]
  | k + 1, hk => by
    rw [zjp t l k (by omega)]
    intro a ha
    rcases List.mem_append.1 ha with h1 | h1
    · exact zzQ h hc he l hb hf k (by omega) a h1
    · rw [List.mem_singleton.1 h1]
      exact zEk (zyr h l hb hf k (by omega)).1 (zzO hc l k (by omega)) (zEl he l k (by omega)) (hf _ (zug (show k < l.length by omega)))
theorem zEm (bk:Int) (p:List Int) (hp:inB p) (l:List zaA) (hb:∀ x∈l,inB x.b) (hf:∀ x∈l,x.few):∀ a∈(zf1 bk p l).1,zA6 a:=by
  unfold zf1
  split
  · split
    · have := zzQ (zBL p hp) (zGF p) (by simp [zBz, zHR, er]) l hb hf l.length (Nat.le_refl _)
      rwa [List.take_length] at this
    · simp
  · simp
theorem zEn (bk:Int) (p:List Int) (l:List zaA):(zf1 bk p l).1.length≤l.length:=by
  unfold zf1
  split
  · split
    · simp only [zoM];omega
    · simp
  · simp
theorem zA7 (bk:Int) (p:List Int) (l:List zaA) (k:Nat) (hk:k≤l.length):(zf1 bk p (l.take k)).2=(zf1 bk p l).2∧(zf1 bk p (l.take k)).1=(zf1 bk p l).1.take k∧((zf1 bk p l).2.2=0→(zf1 bk p (l.take k)).1.length=k):=by
  unfold zf1
  by_cases h1:bk=1
  · rw [if_pos h1,if_pos h1]
    by_cases he:(ziO p).2.2=0
    · rw [if_pos he,if_pos he]
      refine ⟨rfl,(zEi _ l _ k rfl hk).symm,fun _=>?_⟩
      simp only [zoM,List.length_take];omega
    · rw [if_neg he,if_neg he]
      exact ⟨rfl,by simp,fun h=>absurd h he⟩
  · rw [if_neg h1,if_neg h1]
    exact ⟨rfl,by simp,fun h=>by simp at h⟩
def An3 (a:Int × List Int):Int × List Nat:=(a.1,a.2.map Int.toNat)
theorem zHf (l:List Int) (h:∀ x∈l,0≤x∧x < 256):(eI .u8 l).mapM zMK=some (l.map Int.toNat):=by
  induction l with
  | nil=>rfl
  | cons x l ih=>
    have:=ih (fun y hy=>h y (by simp [hy]))
    have hx:=h x (by simp)
    simp only [eI,List.map_cons,List.mapM_cons] at*
    rw [this]
    simp [zMK,hx]
theorem zHg (h:zab) {a:Int × List Int} (hok:zA6 a):zJC h (An2 a)=some (An3 a):=by
  have hz:zeZ 1 (eI .u8 a.2)=true:=by simp
  have h1:=hok.1.1
  have h2:=hok.1.2
  simp [zJC,An2,show -9223372036854775808≤a.1 by omega,show a.1≤9223372036854775807 by omega,zfe,zaz,zHf a.2 (zui hok.2.2),An3,hz]
theorem zEp (h:zab) (l:List (Int × List Int)) (hok:∀ a∈l,zA6 a):(l.map An2).mapM (zJC h)=some (l.map An3):=by
  induction l with
  | nil=>rfl
  | cons a l ih=>
    simp only [List.map_cons,List.mapM_cons,zHg h (hok a (by simp)),ih (fun b hb=>hok b (by simp [hb]))]
    rfl
theorem zEr (L:Lim) (h:zab) (c:Bool) (l:List (Int × List Int)) (hok:∀ a∈l,zA6 a) (hl:l.length≤1000):zag ctx L zdW [.vsl c (l.map An2)] h=some (.str ⟨(zk1 (l.map An3)).toArray⟩,h):=
  zzr L h _ (l.map An2) (l.map An3) (by simp only [zaz]) (by simp only [zfe]) (zve l) (zEp h l hok) ⟨by simpa using hl, fun a ha => by
    obtain ⟨b,hb,rfl⟩:=List.mem_map.1 ha
    simpa [An3] using (hok b hb).2.1⟩
end Go.Av
namespace Go.Av
theorem zA4 {x:zaA} (h:x.short):x.few:=⟨by have:=h.1;omega,fun hn=>by have:=h.2 hn;omega⟩
theorem zuk (es:List (List zaa)) (sz:Nat) (hi:Int) (k:Nat) (hk:hi=(k:Int)) (hkl:k≤es.length) (hz:zeZ sz es=true):zcN .slc sz (.vsl false es) none (some (.int .i64 hi)) none=some (.vsl false (es.take k)):=by
  subst hk
  simp [zcN,zil,hz,zvM,hkl]
theorem ztv (L:Lim) (h:zab) (bk:Int) (p:List Int) (hp:inB p) (hpl:p.length < 9223372036854775808) (l:List zaA) (hl:l.length < 9223372036854775808) (hb:∀ x∈l,inB x.b) (cut:Int) (hcut:0≤cut∧cut < 256):
    zag ctx L zbx [.agg (scT bk p l),.int .u8 cut] h=some (.bool true,h):=by
  obtain ⟨q,hq1,hq2⟩:=zDA L h bk p hpl l hl
  rw [zhi]
  have hSp:=zyt
  have hfz:fzA h (.agg (scT bk p l))=some (.agg (scT bk p l),false):=by simp [scT,fzA,zfJ,zb4,zaa.flat]
  have hbox:zmH (.agg (scT bk p l))=some (.vptr (scT bk p l) 0):=by simp [scT,zmH,zaa.cells,zaa.okV]
  have hl3:(scT bk p l).length=3:=rfl
  cases q with
  | true=>
    generalize scT bk p l=sc at*
    simp -implicitDefEqProofs [za8,zau,hfz,hbox,hl3,hSp,hq2,zaf]
  | false=>
    obtain ⟨hs,h1000,h12,hbk⟩:=hq1.1 rfl
    obtain ⟨k,hk⟩:∃ k:Nat,(k:Int)=cut.tmod ((l.length:Int)+1):=⟨(cut % ((l.length:Int)+1)).toNat,by rw [Int.tmod_eq_emod_of_nonneg hcut.1];have:=Int.emod_nonneg cut (show (l.length:Int)+1≠0 by omega);omega⟩
    have hkl:k≤l.length:=by rw [Int.tmod_eq_emod_of_nonneg hcut.1] at hk;have:=Int.emod_lt_of_pos cut (show (0:Int) < (l.length:Int)+1 by omega);omega
    have hsub:∀ x∈l.take k,x∈l:=fun x hx=>List.mem_of_mem_take hx
    have hO1:=fun L h=>zHQ L h bk p l (by omega)
    have hO2:=fun L h=>zHQ L h bk p (l.take k) (by rw [List.length_take];omega)
    have hf:=fun x (hx:x∈l)=>zA4 (hs x hx)
    have hP1:∀ L h,zag ctx L zct [.agg (scT bk p l)] h=some (.tup [.vsl false ((zf1 bk p l).1.map An2),.int .i64 (zf1 bk p l).2.1,.int .i64 (zf1 bk p l).2.2],h):=fun L h=>zDq L h bk hbk p hp h1000 l (by omega) hb hf
    have hP2:∀ L h,zag ctx L zct [.agg (scT bk p (l.take k))] h=some (.tup [.vsl false ((zf1 bk p (l.take k)).1.map An2),.int .i64 (zf1 bk p (l.take k)).2.1,.int .i64 (zf1 bk p (l.take k)).2.2],h):=fun L h=>zDq L h bk hbk p hp h1000 (l.take k) (by rw [List.length_take];omega) (fun x hx=>hb x (hsub x hx)) (fun x hx=>hf x (hsub x hx))
    obtain ⟨t1,t2,t3⟩:=zA7 bk p l k hkl
    have hans:=zEm bk p hp l hb hf
    have hpl1:=zEn bk p l
    rw [t1,t2] at hP2
    rw [t2] at t3
    generalize zf1 bk p l=r at*
    obtain ⟨A,at0,e0⟩:=r
    simp only at hP1 hP2 hans hpl1 t3
    have hT2:=fun L h c=>zEr L h c (A.take k) (fun a ha=>hans a (List.mem_of_mem_take ha)) (by rw [List.length_take];omega)
    have hAk:(A.take k).length≤A.length:=by rw [List.length_take];omega
    have hsA:zcN .slc 2 (.vsl false (A.map An2)) none (some (.int .i64 ((A.take k).length:Int))) none=some (.vsl false ((A.take k).map An2)):=by
      rw [zuk (A.map An2) 2 _ (A.take k).length rfl (by simpa using hAk) (zve A),← List.map_take]
      congr 3
      rw [List.length_take]
      rcases Nat.le_total k A.length with h | h
      · rw [Nat.min_eq_left h]
      · rw [Nat.min_eq_right h,List.take_length,List.take_of_length_le h]
    have hmA:((A.take k).map An2).length=(A.take k).length:=by simp
    have hmB:(A.map An2).length=A.length:=by simp
    have hsC:zcN .slc 4 (.vsl false (l.map zaA.cells)) none (some (.int .i64 (cut.tmod ((l.length:Int)+1)))) none=some (.vsl false ((l.take k).map zaA.cells)):=by
      rw [zuk _ 4 _ k hk.symm (by simpa using hkl) (zDy l),List.map_take]
    have w0:IntKind.i64.wrap ((l.length:Int)+1)=l.length+1:=wrap_i64 (by omega) (by omega)
    have w1:IntKind.i64.wrap cut=cut:=wrap_i64 (by omega) (by omega)
    have hlen:(l.map zaA.cells).length=l.length:=by simp
    have hlk:((l.take k).map zaA.cells).length=k:=by simp;omega
    have heqs:∀ s:ByteArray,(s==s)=true:=fun s=>(Go.MapKept.bytes_beq _ _).2 rfl
    have ht3:e0=0→(A.take k).length=k:=t3
    generalize hB:A.take k=B at*
    have hlt:¬(A.length:Int) < (B.length:Int):=by omega
    generalize (zk1 (B.map An3)).toArray=tx at*
    simp only [scT] at*
    generalize (l.take k).map zaA.cells=lk at*
    generalize l.map zaA.cells=lc at*
    generalize B.map An2=Bm at*
    generalize A.map An2=Am at*
    by_cases he:e0=0
    · have hb3:=ht3 he
      rw [hb3] at hsA
      subst he
      simp -implicitDefEqProofs [za8,zau,hfz,hbox,hSp,hq2,zaf,zae,zbG,zah,zak,setAt,hO1,hO2,hP1,hP2,bne,w0,w1,zgY,show ¬((l.length:Int)+1)=0 by omega,hsC,hsA,hmA,hmB,hlen,hlk,hlt,hb3,show ¬A.length < k by omega,hT2,heqs]
    · have be : (e0 == 0) = false := by simp [he]
      simp -implicitDefEqProofs [za8,zau,hfz,hbox,hSp,hq2,zaf,zae,zbG,zah,zak,setAt,hO1,hO2,hP1,hP2,bne,w0,w1,zgY,show ¬((l.length:Int)+1)=0 by omega,hsC,hsA,hmA,hmB,hlen,hlk,hlt,be,hT2,heqs]
end Go.Av
