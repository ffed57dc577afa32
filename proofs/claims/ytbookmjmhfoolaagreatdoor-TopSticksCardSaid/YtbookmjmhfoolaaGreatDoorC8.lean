/- A transcript as it lies, its calls, and what they do. -/
import Derived.Test.YtbookmjmhfoolaaGreatDoorC5
import Derived.Test.YtbookmjmhfoolaaGreatDoorC6
import Derived.Test.YtbookmjmhfoolaaGreatDoorC3
import Derived.Test.YtbookmjmhfoolaaGreatDoorC1
set_option linter.unusedSimpArgs false
set_option linter.unusedVariables false
set_option maxHeartbeats 2000000
set_option maxRecDepth 100000
namespace Go.Av
theorem zwT (h:zab) (bs js:List (List zaa)) (ts us:List Nat) (n:Nat) (hn:n=bs.length):zdW (hx h (bs++js) (ts++us)) (h.blks.length+n) (h.toks.length+ts.length)=hx h bs ts:=by
  subst hn
  unfold zdW hx
  have e : ∀ {α : Type} (a b c : List α), (a ++ (b ++ c)).take (a.length + b.length) = a ++ b := fun a b c => by
    rw [← List.append_assoc,List.take_left' (by simp)]
  simp only [e]
theorem zoA (k t c:Int) {b:List Int} (hb:inB b):inB (opB k t c b):=by
  unfold opB
  split
  · rw [zn3]
    have hw:=fun n:Int=>show 0≤IntKind.u8.wrap n∧IntKind.u8.wrap n < 256 by unfold IntKind.wrap;simp [IntKind.signed,IntKind.bits];omega
    exact ziB.2 ⟨hw _,ziB.2 ⟨hw _,ziB.2 ⟨hw _,ziB.2 ⟨hw _,ziB.2 ⟨hw _,ziB.2 ⟨hw _,hb⟩⟩⟩⟩⟩⟩
  · intro i hi;simp at hi
theorem zIT (k t c:Int) {b:List Int} (hl:b.length < 10000000):(opB k t c b).length < 100000000:=by
  unfold opB
  split
  · rw [zn3];simp;omega
  · simp
theorem zC7 (L:Lim) (h:zab) (bs:List (List zaa)) (ts:List Nat) (i j:Nat) (s:Sp) (hs:s.ok) (N:Int) (n:Nat) (hN:n=N.toNat) (hn:n < 10000) (hc:s.c < 50000000)
    (hi:i < bs.length) (hj:j < bs.length) (hij:i≠j) (hL:L.rob≤h.blks.length) (hT:L.rot≤h.toks.length):
    zag ctx L zfB [.int .i64 N,fnB h.blks.length i] (hx h (spH bs i j h.blks.length s) ts)=some (.tup [.vsl false ((zaC s n).1.1.map cW),.int .i64 (zaC s n).1.2.1,.int .i64 (zaC s n).1.2.2],hx h (spH bs i j h.blks.length (zaC s n).2) ts):=by
  rw [zou]
  obtain ⟨M,hM⟩:∃ M:Int,M=max N 0:=⟨_,rfl⟩
  have hmx:zrh true (.int .i64 N) [.int .i64 0]=some (.int .i64 M):=by
    simp only [zrh,zOi,bind,Option.bind_some,if_true]
    rw [hM]
    by_cases h0:(0:Int) > N
    · rw [if_pos h0,show max N 0=0 by omega]
    · rw [if_neg h0,show max N 0=N by omega]
  have hlo:=fun fr R=>zyR (L:=⟨L.rob,L.rot,h.blks.length+bs.length,h.toks.length+ts.length⟩) (fr:=fr) (h:=h) (R:=R) bs ts i j s hs M n (by omega) hn hc hi hj hij hL hT
  have hl1:=zf5 bs i j h.blks.length s
  have hl2:=zf5 bs i j h.blks.length (zaC s n).2
  have hun:=zvo (h.blks.length+bs.length) (h.toks.length+ts.length) (zaC s n).1.1
  have hfz:=fun hh m=>zpo (h1:=hh) (nb:=h.blks.length+bs.length) (nt:=h.toks.length+ts.length) (n:=m) (s:=.nsl) (.inl rfl) hun
  simp only [zLw] at hfz
  generalize zaC s n=E at*
  obtain ⟨⟨l,t,e⟩,q⟩:=E
  simp only at*
  generalize spH bs i j h.blks.length s=B1 at*
  generalize spH bs i j h.blks.length q=B at*
  have htr:∀ jk us,zdW (hx h (B++jk) (ts++us)) (h.blks.length+bs.length) (h.toks.length+ts.length)=hx h B ts:=fun jk us=>zwT h B jk ts us bs.length hl2.symm
  simp -implicitDefEqProofs [zib,zan,zak,hl1,hmx]
  generalize hF:run ctx _ (.loop _) _ _=R
  obtain ⟨e,fr',jk,us,rfl,⟨rfl,rfl,f7,f8,he⟩ | ⟨rfl,hnil,f4,f5,f6⟩⟩:=hlo _ _ hF (by simp) (by simp) (by simp) (by simp) (by simp)
  · rw [he]
    simp -implicitDefEqProofs [f7,f8,hfz,htr,zan,zak,hl1]
  · rw [hnil]
    simp -implicitDefEqProofs [f4,f5,f6,htr,zan,zak,hl1]
theorem zvh (L:Lim) (h:zab) (bs:List (List zaa)) (ts:List Nat) (i j:Nat) (s:Sp) (hs:s.ok) (k t c:Int) (b:List Int) (d:zaa) (hd:∀ h,fzA h d=some (.vsl false (eI .u8 b),false)) (hf:d.flat=false) (hb:inB b) (hl:b.length < 10000000) (hc:s.c < 100000000)
    (hi:i < bs.length) (hj:j < bs.length) (hij:i≠j) (hL:L.rob≤h.blks.length):
    zag ctx L zba [.agg [pA h.blks.length i 0],.agg [.int .i64 k,.int .i64 t,.int .i64 c,d]] (hx h (spH bs i j h.blks.length s) ts)=some (.tup [],hx h (spH bs i j h.blks.length (zbH s (opB k t c b))) ts):=by
  rw [zht]
  have hT:=fun L h=>zOG L h k t c b d hd hf hb (by omega)
  have hA:=fun L hL=>zBb L h bs ts i j s hs false (opB k t c b) (zoA k t c hb) (zIT k t c hl) hc hi hj hij hL
  have htr:=fun q=>zqu h bs ts i j (spO h.blks.length j q) (cI .u8 q.S)
  have hl1:=zf5 bs i j h.blks.length s
  have htr2:zdW (hx h (spH bs i j h.blks.length (zbH s (opB k t c b))) ts) (h.blks.length+bs.length) (h.toks.length+ts.length)=hx h (spH bs i j h.blks.length (zbH s (opB k t c b))) ts:=htr _
  generalize opB k t c b=o at*
  generalize spH bs i j h.blks.length (zbH s o)=B2 at*
  generalize spH bs i j h.blks.length s=B1 at*
  simp -implicitDefEqProofs [zcH,zan,zak,hl1,znl,zaa.okV,zaa.cells,zae,zaf,hT,hA,hL,htr2]
theorem zGz (L:Lim) (h:zab) (bs:List (List zaa)) (ts:List Nat) (i j:Nat) (s:Sp) (hs:s.ok) (N:Int) (n:Nat) (hN:n=N.toNat) (hn:n < 1000000) (hc:s.c < 100000000)
    (hi:i < bs.length) (hj:j < bs.length) (hij:i≠j) (hL:L.rob≤h.blks.length) (hT:L.rot≤h.toks.length):
    zag ctx L za2 [.agg [pA h.blks.length i 0],.int .i64 N] (hx h (spH bs i j h.blks.length s) ts)=some (.vsl false (eI .u8 (zjq s n)),hx h (spH bs i j h.blks.length (zdr s n)) ts):=by
  rw [zgV]
  have hS:=fun L hL hT=>zth L h bs ts i j s hs N n hN hn hc hi hj hij hL hT
  have hl1:=zf5 bs i j h.blks.length s
  have htr2:zdW (hx h (spH bs i j h.blks.length (zdr s n)) ts) (h.blks.length+bs.length) (h.toks.length+ts.length)=hx h (spH bs i j h.blks.length (zdr s n)) ts:=zqu h bs ts i j _ _
  generalize zjq s n=l at*
  generalize spH bs i j h.blks.length (zdr s n)=B2 at*
  generalize spH bs i j h.blks.length s=B1 at*
  simp -implicitDefEqProofs [zcl,zan,zak,hl1,znl,zaa.okV,zaa.cells,zae,hS,hL,hT,htr2]
theorem zC9 (L:Lim) (h:zab) (bs:List (List zaa)) (ts:List Nat) (i j:Nat) (s:Sp) (hs:s.ok) (N:Int) (n:Nat) (hN:n=N.toNat) (hn:n < 10000) (hc:s.c < 50000000)
    (hi:i < bs.length) (hj:j < bs.length) (hij:i≠j) (hL:L.rob≤h.blks.length) (hT:L.rot≤h.toks.length):
    zag ctx L zaT [.agg [pA h.blks.length i 0],.int .i64 N] (hx h (spH bs i j h.blks.length s) ts)=some (.tup [.vsl false ((zaC s n).1.1.map cW),.int .i64 (zaC s n).1.2.2],hx h (spH bs i j h.blks.length (zaC s n).2) ts):=by
  rw [zgr]
  have hS:=fun L hL hT=>zC7 L h bs ts i j s hs N n hN hn hc hi hj hij hL hT
  have hl1:=zf5 bs i j h.blks.length s
  have htr2:zdW (hx h (spH bs i j h.blks.length (zaC s n).2) ts) (h.blks.length+bs.length) (h.toks.length+ts.length)=hx h (spH bs i j h.blks.length (zaC s n).2) ts:=zqu h bs ts i j _ _
  have hun:=zvo (h.blks.length+bs.length) (h.toks.length+ts.length) (zaC s n).1.1
  generalize zaC s n=E at*
  obtain ⟨⟨l,t,e⟩,q⟩:=E
  simp only at*
  generalize spH bs i j h.blks.length q=B2 at*
  generalize spH bs i j h.blks.length s=B1 at*
  have hfz:=fun hh m=>zhF hh (h.blks.length+bs.length) (h.toks.length+ts.length) m false hun
  generalize l.map cW=lw at*
  unfold fnB at hS
  simp -implicitDefEqProofs [zcc,zan,zak,hl1,znl,zaa.okV,zaa.cells,zae,zaf,hS,hL,hT,htr2,hfz]
end Go.Av
namespace Go.Av
structure Tc where
  g:Gd
  tg:List Int
  s:Sp
def tC (n B:Nat) (tg:List Int):List zaa:=pA n B 0 :: (cI .u8 tg++[.iface 109 (.agg [pA n (B+3) 0])])
def trW (n B:Nat) (t:Tc):List (List zaa):=[guC t.g,tC n B t.tg,cI .u8 t.s.S,spO n (B+2) t.s]
def trB (n:Nat) (bs:List (List zaa)) (t:Tc) (js:List (List zaa)):List (List zaa):=bs++(trW n bs.length t++js)
section
variable (n:Nat) (bs:List (List zaa)) (t:Tc) (js:List (List zaa))
theorem znF (w:List (List zaa)):trB n bs t js++w=trB n bs t (js++w):=by simp [trB]
theorem zbG:(trB n bs t js).length=bs.length+(4+js.length):=by simp [trB,trW];omega
theorem zA8:(trB n bs t js)[bs.length]?=some (guC t.g):=zdv bs _ bs.length 0 rfl
theorem zwV:(trB n bs t js)[bs.length+1]?=some (tC n bs.length t.tg):=zdv bs _ bs.length 1 rfl
theorem zyK (w:List (List zaa)) (k:Nat):(trB n bs t (js++w))[bs.length+(4+js.length+k)]?=w[k]?:=by
  unfold trB
  rw [zdv bs _ bs.length _ rfl,← List.append_assoc,List.getElem?_append_right (by simp [trW];omega)]
  congr 1
  simp [trW];omega
theorem zoE (w:List (List zaa)) (k:Nat) (v:List zaa):(trB n bs t (js++w)).set (bs.length+(4+js.length+k)) v=trB n bs t (js++w.set k v):=by
  unfold trB
  rw [zeQ bs _ bs.length _ v rfl,← List.append_assoc,List.set_append_right _ _ (by simp [trW];omega),List.append_assoc]
  congr 4
  simp [trW];omega
theorem zum (g:Gd):(trB n bs t js).set bs.length (guC g)=trB n bs {t with g:=g} js:=zeQ bs _ bs.length 0 _ rfl
theorem zr1 (q:Sp):spH (trB n bs t js) (bs.length+3) (bs.length+2) n q=trB n bs {t with s:=q} js:=by
  have e1:=zeQ bs (trW n bs.length t++js) bs.length 3 (spO n (bs.length+2) q) rfl
  have e2:=zeQ bs ((trW n bs.length t++js).set 3 (spO n (bs.length+2) q)) bs.length 2 (cI .u8 q.S) rfl
  unfold spH sp2 trB
  rw [e1,e2]
  rfl
theorem zDg (h:zab) (ts us:List Nat) (w:List (List zaa)):zdW (hx h (trB n bs t (js++w)) (ts++us)) (h.blks.length+(bs.length+(4+js.length))) (h.toks.length+ts.length)=hx h (trB n bs t js) ts:=by
  rw [← znF]
  exact zwT h _ w ts us _ (zbG n bs t js).symm
theorem zr3 (h:zab) (ts:List Nat):zdW (hx h (trB n bs t js) ts) (h.blks.length+(bs.length+(4+js.length))) (h.toks.length+ts.length)=hx h (trB n bs t js) ts:=by
  have:=zDg n bs t js h ts [] []
  simpa using this
theorem zr4 (h:zab) (ts:List Nat) (w:List (List zaa)):zdW (hx h (trB n bs t (js++w)) ts) (h.blks.length+(bs.length+(4+js.length))) (h.toks.length+ts.length)=hx h (trB n bs t js) ts:=by
  have:=zDg n bs t js h ts [] w
  simpa using this
end
theorem zMW (n B:Nat) (tg:List Int):zeb false (tC n B tg) 0 1=some (pA n B 0):=rfl
theorem zGK (n B:Nat) (tg:List Int) (h:tg.length=32):zeb false (tC n B tg) 33 1=some (.iface 109 (.agg [pA n (B+3) 0])):=by
  have:(tC n B tg)[33]?=some (.iface 109 (.agg [pA n (B+3) 0])):=by
    unfold tC
    rw [List.getElem?_cons_succ,List.getElem?_append_right (by simp [h])]
    simp [h]
  rw [zae]
  exact this
theorem zJS (L:Lim) (h:zab) (bs js:List (List zaa)) (ts:List Nat) (t:Tc) (hL:L.rob≤h.blks.length):
    zag ctx L zbr [pA h.blks.length (bs.length+1) 0] (hx h (trB h.blks.length bs t js) ts)=some (.int .i64 t.g.e,hx h (trB h.blks.length bs t js) ts):=by
  rw [zgu]
  have hF:=fun L hL=>zsY L h (trB h.blks.length bs t js) ts bs.length t.g 0 (zA8 _ _ _ _) hL
  have hf:zbV t.g 0=t.g:=by
    unfold zbV
    split
    · next h0=>obtain ⟨⟨l,k,e⟩,tg,s⟩:=t;simp only at h0 ⊢;rw [h0]
    · rfl
  rw [hf,zum] at hF
  have htr:=zr3 h.blks.length bs t js h ts
  have hl:=zbG h.blks.length bs t js
  have g1:=zwV h.blks.length bs t js
  have h0:=zMW h.blks.length bs.length t.tg
  obtain ⟨g,tg,s⟩:=t
  simp only at*
  generalize trB h.blks.length bs ⟨g,tg,s⟩ js=B at*
  generalize tC h.blks.length bs.length tg=tcs at*
  simp -implicitDefEqProofs [zb6,zan,zak,hl,g1,h0,hF,hL,htr]
theorem zBc (L:Lim) (h:zab) (bs js:List (List zaa)) (ts:List Nat) (t:Tc) (hL:L.rob≤h.blks.length):
    zag ctx L za6 [pA h.blks.length (bs.length+1) 0] (hx h (trB h.blks.length bs t js) ts)=some (.int .i64 (zsZ t.g).e,hx h (trB h.blks.length bs {t with g:=zsZ t.g} js) ts):=by
  rw [zfq]
  have hF:=fun L hL=>zB4 L h (trB h.blks.length bs t js) ts bs.length t.g (zA8 _ _ _ _) hL
  rw [zum] at hF
  have htr:=zr3 h.blks.length bs {t with g:=zsZ t.g} js h ts
  have hl:=zbG h.blks.length bs t js
  have g1:=zwV h.blks.length bs t js
  have h0:=zMW h.blks.length bs.length t.tg
  generalize trB h.blks.length bs {t with g:=zsZ t.g} js=B2 at*
  generalize trB h.blks.length bs t js=B at*
  generalize tC h.blks.length bs.length t.tg=tcs at*
  simp -implicitDefEqProofs [zbB,zan,zak,hl,g1,h0,hF,hL,htr]
theorem zrs (L:Lim) (h:zab) (bs js:List (List zaa)) (ts:List Nat) (t:Tc) (k ty c:Int) (d:zaa) (hk:t.g.k < 1000000000) (hd:d.okV=true) (hL:L.rob≤h.blks.length):
    zag ctx L zav [pA h.blks.length (bs.length+1) 0,.agg [.int .i64 k,.int .i64 ty,.int .i64 c,d]] (hx h (trB h.blks.length bs t js) ts)=some (.int .i64 (zbi t.g k ty c).e,hx h (trB h.blks.length bs {t with g:=zbi t.g k ty c} js) ts):=by
  rw [zfZ]
  have hF:=fun L hL=>zLc L h (trB h.blks.length bs t js) ts bs.length t.g k ty c hk (zA8 _ _ _ _) hL
  rw [zum] at hF
  have htr:=zr3 h.blks.length bs {t with g:=zbi t.g k ty c} js h ts
  have hl:=zbG h.blks.length bs t js
  have g1:=zwV h.blks.length bs t js
  have h0:=zMW h.blks.length bs.length t.tg
  generalize trB h.blks.length bs {t with g:=zbi t.g k ty c} js=B2 at*
  generalize trB h.blks.length bs t js=B at*
  generalize tC h.blks.length bs.length t.tg=tcs at*
  simp -implicitDefEqProofs [zbS,zan,zak,hl,g1,h0,znl,zaa.okV,zaa.cells,zae,hF,hL,htr]
end Go.Av
namespace Go.Av
theorem zzJ (n:Nat) (bs:List (List zaa)) (t:Tc) (js:List (List zaa)) (hh):(trB n bs t js)[bs.length+1]'hh=tC n bs.length t.tg:=(List.getElem?_eq_some_iff.1 (zwV n bs t js)).2
theorem zun (n:Nat) (bs:List (List zaa)) (t:Tc) (js:List (List zaa)) (x:List zaa) (hh):(trB n bs t (js++[x]))[bs.length+(4+js.length)]'hh=x:=(List.getElem?_eq_some_iff.1 (zyK n bs t js [x] 0)).2
theorem zMX {C:Ctx} {L:Lim} {h:zab} {f:FuncId} (v:zaa) (as:List zaa):zHb C L h (some ([(0,1,false)],f)) (.agg [v]) as=zag C L f (v :: as) h:=rfl
def zgZ (t:Tc) (ty:Int) (b:List Int):Tc × Int:=
  if t.g.e=0 then
    if (zqR ty b.length).2=0 then
      if (zbi t.g 1 ty (zqR ty b.length).1).e=0 then
        if zF9 ty b=0 then ({t with g:=zbi t.g 1 ty (zqR ty b.length).1,s:=zbH t.s (opB 1 ty (zqR ty b.length).1 b)},0)
        else ({t with g:=zbV (zbi t.g 1 ty (zqR ty b.length).1) (zF9 ty b)},(zbV (zbi t.g 1 ty (zqR ty b.length).1) (zF9 ty b)).e)
      else ({t with g:=zbi t.g 1 ty (zqR ty b.length).1},(zbi t.g 1 ty (zqR ty b.length).1).e)
    else ({t with g:=zbV t.g (zqR ty b.length).2},(zbV t.g (zqR ty b.length).2).e)
  else (t,t.g.e)
def zq6 (t:Tc) (N:Int):(List Int × Int) × Tc:=
  if (zbi t.g 2 1 N).e=0 then ((zjq (zbH t.s (opB 2 1 N [])) N.toNat,0),{t with g:=zbi t.g 2 1 N,s:=zdr (zbH t.s (opB 2 1 N [])) N.toNat})
  else (([],(zbi t.g 2 1 N).e),{t with g:=zbi t.g 2 1 N})
def zgv (t:Tc) (N:Int):(List (List W64) × Int) × Tc:=
  if (zbi t.g 2 3 N).e=0 then
    if (zaC (zbH t.s (opB 2 3 N [])) N.toNat).1.2.2=0 then (((zaC (zbH t.s (opB 2 3 N [])) N.toNat).1.1,0),{t with g:=zbi t.g 2 3 N,s:=(zaC (zbH t.s (opB 2 3 N [])) N.toNat).2})
    else (([],(zbV (zbi t.g 2 3 N) (zaC (zbH t.s (opB 2 3 N [])) N.toNat).1.2.2).e),{t with g:=zbV (zbi t.g 2 3 N) (zaC (zbH t.s (opB 2 3 N [])) N.toNat).1.2.2,s:=(zaC (zbH t.s (opB 2 3 N [])) N.toNat).2})
  else (([],(zbi t.g 2 3 N).e),{t with g:=zbi t.g 2 3 N})
def zwY (t:Tc):Tc × Int:=
  if (zbi t.g 3 0 1).e=0 then ({t with g:=zbi t.g 3 0 1,s:=zF5 (zbH t.s (opB 3 0 1 []))},0)
  else ({t with g:=zbi t.g 3 0 1},(zbi t.g 3 0 1).e)
theorem zyO (L:Lim) (h:zab) (bs js:List (List zaa)) (ts:List Nat) (t:Tc) (N:Int) (hk:t.g.k < 1000000000) (hs:t.s.ok) (hc:t.s.c < 10000000) (ht:t.tg.length=32) (hn:(zbi t.g 2 1 N).e=0→N.toNat < 1000000) (hL:L.rob≤h.blks.length) (hT:L.rot≤h.toks.length):
    zag ctx L za0 [pA h.blks.length (bs.length+1) 0,.int .i64 N] (hx h (trB h.blks.length bs t js) ts)=some (.tup [.vsl false (eI .u8 (zq6 t N).1.1),.int .i64 (zq6 t N).1.2],hx h (trB h.blks.length bs (zq6 t N).2 js) ts):=by
  rw [zfi]
  have hnx:=fun L hL x=>zrs L h bs (js++[x]) ts t 2 1 N .nsl hk rfl hL
  have hte:=fun L hL x g=>zvh L h (trB h.blks.length bs {t with g:=g} (js++[x])) ts (bs.length+3) (bs.length+2) t.s hs 2 1 N [] .nsl (fun h=>by simp) rfl (fun i hi=>by simp at hi) (by simp) (by omega) (by rw [zbG];omega) (by rw [zbG];omega) (by omega) hL
  simp only [zr1] at hte
  have hq1:=zge hs (zoA 2 1 N (b:=[]) (fun i hi=>by simp at hi))
  have hq2:=zr2 hs (opB 2 1 N [])
  have hq3:=zIT 2 1 N (b:=[]) (by simp)
  have hq4:(opB 2 1 N []).length≤6:=by unfold opB;split <;> simp [zn3]
  unfold zq6
  generalize zbH t.s (opB 2 1 N [])=q at*
  generalize zbi t.g 2 1 N=g1 at*
  have hby:=fun L hL hT x=>fun hn'=>zGz L h (trB h.blks.length bs {t with g:=g1} (js++[x])) ts (bs.length+3) (bs.length+2) q hq1 N N.toNat rfl hn' (by omega) (by rw [zbG];omega) (by rw [zbG];omega) (by omega) hL hT
  simp only [zr1] at hby
  have hl:=zbG h.blks.length bs
  have g1':=fun g q js=>zwV h.blks.length bs ⟨g,t.tg,q⟩ js
  have g2':=fun g q js hh=>zzJ h.blks.length bs ⟨g,t.tg,q⟩ js hh
  simp only at g1' g2'
  have h0:=zGK h.blks.length bs.length t.tg ht
  have gw:=fun t x hh=>zun h.blks.length bs t js x hh
  have sw:=fun t x v=>zoE h.blks.length bs t js [x] 0 v
  have htr:=fun t w=>zr4 h.blks.length bs t js h ts w
  have happ:=fun t js w=>znF h.blks.length bs t js w
  simp only [Nat.add_zero,List.getElem?_cons_zero,List.set_cons_zero] at sw
  generalize tC h.blks.length bs.length t.tg=tcs at*
  by_cases he:g1.e=0
  · rw [if_pos he]
    have be:(g1.e==0)=true:=by simp [he]
    have hby1:=fun L hL hT x=>hby L hL hT x (hn he)
    simp -implicitDefEqProofs [zaX,zan,zak,hl,happ,g1',g2',h0,gw,sw,zaA,setAt,zbF,zah,zam,zap,zaa.under,hL,hT,hnx,bne,be,hte,hby1,htr,zaf]
  · rw [if_neg he]
    have be:(g1.e==0)=false:=by simp [he]
    simp -implicitDefEqProofs [zaX,zan,zak,hl,happ,g1',g2',h0,gw,sw,zaA,setAt,zbF,zah,zam,zap,zaa.under,hL,hT,hnx,bne,be,htr,zaf]
end Go.Av
namespace Go.Av
theorem zvm (L:Lim) (h:zab) (bs js:List (List zaa)) (ts:List Nat) (t:Tc) (N:Int) (hk:t.g.k < 1000000000) (hs:t.s.ok) (hc:t.s.c < 10000000) (ht:t.tg.length=32) (hn:(zbi t.g 2 3 N).e=0→N.toNat < 10000) (hL:L.rob≤h.blks.length) (hT:L.rot≤h.toks.length):
    zag ctx L zaO [pA h.blks.length (bs.length+1) 0,.int .i64 N] (hx h (trB h.blks.length bs t js) ts)=some (.tup [.vsl false ((zgv t N).1.1.map cW),.int .i64 (zgv t N).1.2],hx h (trB h.blks.length bs (zgv t N).2 js) ts):=by
  rw [zeC]
  have hnx:=fun L hL x=>zrs L h bs (js++[x]) ts t 2 3 N .nsl hk rfl hL
  have hte:=fun L hL x g=>zvh L h (trB h.blks.length bs {t with g:=g} (js++[x])) ts (bs.length+3) (bs.length+2) t.s hs 2 3 N [] .nsl (fun h=>by simp) rfl (fun i hi=>by simp at hi) (by simp) (by omega) (by rw [zbG];omega) (by rw [zbG];omega) (by omega) hL
  simp only [zr1] at hte
  have hq1:=zge hs (zoA 2 3 N (b:=[]) (fun i hi=>by simp at hi))
  have hq2:=zr2 hs (opB 2 3 N [])
  have hq4:(opB 2 3 N []).length≤6:=by unfold opB;split <;> simp [zn3]
  unfold zgv
  generalize zbH t.s (opB 2 3 N [])=q at*
  generalize zbi t.g 2 3 N=g1 at*
  have hby:=fun L hL hT x=>fun hn'=>zC9 L h (trB h.blks.length bs {t with g:=g1} (js++[x])) ts (bs.length+3) (bs.length+2) q hq1 N N.toNat rfl hn' (by omega) (by rw [zbG];omega) (by rw [zbG];omega) (by omega) hL hT
  simp only [zr1] at hby
  have hun:=fun nb nt=>zvo nb nt (zaC q N.toNat).1.1
  generalize zaC q N.toNat=E at*
  obtain ⟨⟨l,tr,er⟩,q2⟩:=E
  simp only at*
  have hFa:=fun L hL x e=>zsY L h (trB h.blks.length bs ⟨g1,t.tg,q2⟩ (js++[x])) ts bs.length g1 e (zA8 _ _ _ _) hL
  simp only [zum] at hFa
  have hl:=zbG h.blks.length bs
  have g1':=fun g q js=>zwV h.blks.length bs ⟨g,t.tg,q⟩ js
  have g2':=fun g q js hh=>zzJ h.blks.length bs ⟨g,t.tg,q⟩ js hh
  simp only at g1' g2'
  have h0:=zGK h.blks.length bs.length t.tg ht
  have h00:=zMW h.blks.length bs.length t.tg
  have gw:=fun t x hh=>zun h.blks.length bs t js x hh
  have sw:=fun t x v=>zoE h.blks.length bs t js [x] 0 v
  have htr:=fun t w=>zr4 h.blks.length bs t js h ts w
  have happ:=fun t js w=>znF h.blks.length bs t js w
  simp only [Nat.add_zero,List.getElem?_cons_zero,List.set_cons_zero] at sw
  generalize tC h.blks.length bs.length t.tg=tcs at*
  by_cases he:g1.e=0
  · rw [if_pos he]
    have be:(g1.e==0)=true:=by simp [he]
    have hby1:=fun L hL hT x=>hby L hL hT x (hn he)
    clear hby
    by_cases her:er=0
    · rw [if_pos her]
      have ber:(er==0)=true:=by simp [her]
      have hfz:=fun hh nb nt m=>zhF hh nb nt m false (hun nb nt)
      simp only
      generalize l.map cW=lw at*
      simp -implicitDefEqProofs [zaB,zan,zak,hl,happ,g1',g2',h0,gw,sw,zaA,setAt,zbF,zah,zam,zap,zaa.under,hL,hT,hnx,bne,be,hte,hby1,ber,hfz,htr,zaf]
    · rw [if_neg her]
      have ber:(er==0)=false:=by simp [her]
      generalize l.map cW=lw at*
      simp -implicitDefEqProofs [zaB,zan,zak,hl,happ,g1',g2',h0,h00,gw,sw,zaA,setAt,zbF,zah,zam,zap,zaa.under,hL,hT,hnx,bne,be,hte,hby1,ber,hFa,htr,zaf]
  · rw [if_neg he]
    have be:(g1.e==0)=false:=by simp [he]
    simp -implicitDefEqProofs [zaB,zan,zak,hl,happ,g1',g2',h0,gw,sw,zaA,setAt,zbF,zah,zam,zap,zaa.under,hL,hT,hnx,bne,be,htr,zaf]
theorem zyP (L:Lim) (h:zab) (bs js:List (List zaa)) (ts:List Nat) (t:Tc) (hk:t.g.k < 1000000000) (hs:t.s.ok) (hc:t.s.c < 10000000) (ht:t.tg.length=32) (hL:L.rob≤h.blks.length):
    zag ctx L za1 [pA h.blks.length (bs.length+1) 0] (hx h (trB h.blks.length bs t js) ts)=some (.int .i64 (zwY t).2,hx h (trB h.blks.length bs (zwY t).1 js) ts):=by
  rw [zfj]
  have hnx:=fun L hL x=>zrs L h bs (js++[x]) ts t 3 0 1 .nsl hk rfl hL
  have hte:=fun L hL x g=>zvh L h (trB h.blks.length bs {t with g:=g} (js++[x])) ts (bs.length+3) (bs.length+2) t.s hs 3 0 1 [] .nsl (fun h=>by simp) rfl (fun i hi=>by simp at hi) (by simp) (by omega) (by rw [zbG];omega) (by rw [zbG];omega) (by omega) hL
  simp only [zr1] at hte
  have hq1:=zge hs (zoA 3 0 1 (b:=[]) (fun i hi=>by simp at hi))
  have hq2:=zr2 hs (opB 3 0 1 [])
  have hq4:(opB 3 0 1 []).length≤6:=by unfold opB;split <;> simp [zn3]
  unfold zwY
  generalize zbH t.s (opB 3 0 1 [])=q at*
  generalize zbi t.g 3 0 1=g1 at*
  have hby:=fun L hL x=>zyL L h (trB h.blks.length bs {t with g:=g1} (js++[x])) ts (bs.length+3) (bs.length+2) q hq1 (by omega) (by rw [zbG];omega) (by rw [zbG];omega) (by omega) hL
  simp only [zr1] at hby
  generalize zF5 q=q2 at*
  have hl:=zbG h.blks.length bs
  have g1':=fun g q js=>zwV h.blks.length bs ⟨g,t.tg,q⟩ js
  have g2':=fun g q js hh=>zzJ h.blks.length bs ⟨g,t.tg,q⟩ js hh
  simp only at g1' g2'
  have h0:=zGK h.blks.length bs.length t.tg ht
  have gw:=fun t x hh=>zun h.blks.length bs t js x hh
  have sw:=fun t x v=>zoE h.blks.length bs t js [x] 0 v
  have htr:=fun t w=>zr4 h.blks.length bs t js h ts w
  have happ:=fun t js w=>znF h.blks.length bs t js w
  simp only [Nat.add_zero,List.getElem?_cons_zero,List.set_cons_zero] at sw
  generalize tC h.blks.length bs.length t.tg=tcs at*
  by_cases he:g1.e=0
  · rw [if_pos he]
    have be:(g1.e==0)=true:=by simp [he]
    simp -implicitDefEqProofs [zaY,zan,zak,hl,happ,g1',g2',h0,gw,sw,zaA,setAt,zbF,zah,zam,zap,zaa.under,hL,hnx,bne,be,hte,hby,zMX,htr,zaf]
    try exact he
  · rw [if_neg he]
    have be:(g1.e==0)=false:=by simp [he]
    simp -implicitDefEqProofs [zaY,zan,zak,hl,happ,g1',g2',h0,gw,sw,zaA,setAt,zbF,zah,zam,zap,zaa.under,hL,hnx,bne,be,htr,zaf]
theorem zBe (L:Lim) (h:zab) (bs js:List (List zaa)) (ts:List Nat) (t:Tc) (ty:Int) (c:Bool) (b:List Int) (hb:inB b) (hbl:b.length < 10000000) (hk:t.g.k < 1000000000) (hs:t.s.ok) (hc:t.s.c < 10000000) (ht:t.tg.length=32) (hL:L.rob≤h.blks.length):
    zag ctx L za5 [pA h.blks.length (bs.length+1) 0,.int .i64 ty,.vsl c (eI .u8 b)] (hx h (trB h.blks.length bs t js) ts)=some (.int .i64 (zgZ t ty b).2,hx h (trB h.blks.length bs (zgZ t ty b).1 js) ts):=by
  rw [zfp]
  have hEr:=fun L hL=>zJS L h bs js ts t hL
  have hCn:=fun L h=>zta L h ty c b (by omega)
  have hCk:=fun L h=>zFl L h ty c b hb (by omega)
  have hF0:=fun L hL e=>zsY L h (trB h.blks.length bs t js) ts bs.length t.g e (zA8 _ _ _ _) hL
  simp only [zum] at hF0
  unfold zgZ
  generalize zqR ty b.length=cn at*
  obtain ⟨n,e1⟩:=cn
  simp only at*
  have hnx:=fun L hL x=>zrs L h bs (js++[x]) ts t 1 ty n (.vsl c (eI .u8 b)) hk rfl hL
  have hte:=fun L hL x g=>zvh L h (trB h.blks.length bs {t with g:=g} (js++[x])) ts (bs.length+3) (bs.length+2) t.s hs 1 ty n b (.vsl c (eI .u8 b)) (fun h=>by simp) rfl hb hbl (by omega) (by rw [zbG];omega) (by rw [zbG];omega) (by omega) hL
  simp only [zr1] at hte
  generalize zbH t.s (opB 1 ty n b)=q at*
  generalize zbi t.g 1 ty n=g1 at*
  have hF1:=fun L hL x e=>zsY L h (trB h.blks.length bs ⟨g1,t.tg,t.s⟩ (js++[x])) ts bs.length g1 e (zA8 _ _ _ _) hL
  simp only [zum] at hF1
  generalize zF9 ty b=e2 at*
  have hl:=zbG h.blks.length bs
  have g1':=fun g q js=>zwV h.blks.length bs ⟨g,t.tg,q⟩ js
  have g2':=fun g q js hh=>zzJ h.blks.length bs ⟨g,t.tg,q⟩ js hh
  simp only at g1' g2'
  have h0:=zGK h.blks.length bs.length t.tg ht
  have h00:=zMW h.blks.length bs.length t.tg
  have gw:=fun t x hh=>zun h.blks.length bs t js x hh
  have sw:=fun t x v=>zoE h.blks.length bs t js [x] 0 v
  have htr:=fun t w=>zr4 h.blks.length bs t js h ts w
  have htr0:=fun t=>zr3 h.blks.length bs t js h ts
  have happ:=fun t js w=>znF h.blks.length bs t js w
  simp only [Nat.add_zero,List.getElem?_cons_zero,List.set_cons_zero] at sw
  generalize tC h.blks.length bs.length t.tg=tcs at*
  obtain ⟨g0,tg,s0⟩:=t
  simp only at*
  by_cases hg0:g0.e=0
  · rw [if_pos hg0]
    have bg:(g0.e==0)=true:=by simp [hg0]
    by_cases h1:e1=0
    · rw [if_pos h1]
      have b1:(e1==0)=true:=by simp [h1]
      by_cases hg1:g1.e=0
      · rw [if_pos hg1]
        have bg1:(g1.e==0)=true:=by simp [hg1]
        by_cases h2:e2=0
        · rw [if_pos h2]
          have b2:(e2==0)=true:=by simp [h2]
          simp -implicitDefEqProofs [zas,zan,zak,hl,happ,hEr,hCn,hCk,g1',g2',h0,gw,sw,zaA,setAt,zbF,zah,zam,zap,zaa.under,hL,hnx,bne,bg,b1,bg1,b2,hte,htr,htr0,zaf]
        · rw [if_neg h2]
          have b2:(e2==0)=false:=by simp [h2]
          simp -implicitDefEqProofs [zas,zan,zak,hl,happ,hEr,hCn,hCk,g1',g2',h0,h00,gw,sw,zaA,setAt,zbF,zah,zam,zap,zaa.under,hL,hnx,bne,bg,b1,bg1,b2,hF1,htr,htr0,zaf]
      · rw [if_neg hg1]
        have bg1:(g1.e==0)=false:=by simp [hg1]
        simp -implicitDefEqProofs [zas,zan,zak,hl,happ,hEr,hCn,hCk,g1',g2',h0,gw,sw,zaA,setAt,zbF,zah,zam,zap,zaa.under,hL,hnx,bne,bg,b1,bg1,htr,htr0,zaf]
    · rw [if_neg h1]
      have b1:(e1==0)=false:=by simp [h1]
      simp -implicitDefEqProofs [zas,zan,zak,hl,happ,hEr,hCn,hCk,g1',g2',h0,h00,hL,bne,bg,b1,hF0,htr,htr0,zaf]
  · rw [if_neg hg0]
    have bg:(g0.e==0)=false:=by simp [hg0]
    simp -implicitDefEqProofs [zas,zan,zak,hl,happ,hEr,bne,bg,hL,htr,htr0]
end Go.Av
namespace Go.Av
def zCq:List Int:=[97,118,111,117,99,104,47,116,114,97,110,115,99,114,105,112,116,47,49]
def zvp:List Int:=tab 32 fun _=>0
def zyQ (b:Int) (l:List It):List Int × Int × Int:=
  if b≠1∧b≠2 then (zvp, -1,15)
  else if (znP l 0 []).2.2≠0 then (zvp,(znP l 0 []).2.1,(znP l 0 []).2.2)
  else (zJL (zCq++([IntKind.u8.wrap b]++(znP l 0 []).1)), -1,0)
theorem zuq:∀ (l:List It) (k:Nat) (out:List Int),(znP l k out).1.length≤out.length+l.length*1000008
  | [],k,out=>by simp [znP]
  | x :: l, k, out => by
    rw [znP]
    split
    · simp
    · split
      · rename_i hc
        have h1:=zuq l (k+1) (out++zJb x)
        have h2:=(zo9 hc).2.2.2.2.2.2
        simp only [List.length_append,zHW,List.length_cons] at h1 ⊢
        omega
      · simp
theorem zw1:[zaa.int .u8 97,zaa.int .u8 118,zaa.int .u8 111,zaa.int .u8 117,zaa.int .u8 99,zaa.int .u8 104,zaa.int .u8 47,zaa.int .u8 116,zaa.int .u8 114,zaa.int .u8 97,zaa.int .u8 110,zaa.int .u8 115,zaa.int .u8 99,zaa.int .u8 114,zaa.int .u8 105,zaa.int .u8 112,zaa.int .u8 116,zaa.int .u8 47,zaa.int .u8 49]=cI .u8 zCq:=rfl
theorem zw2 (L:Lim) (h:zab) (z:List zaa) (b:Int) (r:List Int) (hr:r.length < 200000000000):
    zag ctx L zgN [.vsl true [[sA h.blks.length 1 0 1 19 (some 19)],[.vsl true (eI .u8 [b])],[.vsl false (eI .u8 r)]]] (hx h [z,cI .u8 zCq] [])=some (.agg (cI .u8 (zJL (zCq++([b]++r)))),hx h [z,cI .u8 zCq] []):=by
  have h1 := zJM L (hx h [z, cI .u8 zCq] []) true [(sA h.blks.length 1 0 1 19 (some 19), zCq), (.vsl true (eI .u8 [b]), [b]), (.vsl false (eI .u8 r), r)] (by simp) (by
    intro p hp
    simp only [List.mem_cons,List.not_mem_nil,or_false] at hp
    rcases hp with rfl | rfl | rfl
    · exact ⟨RdI.sA [] .u8 1 19 _ zCq rfl (by simp),by simp [zCq]⟩
    · exact ⟨RdI.vsl _ .u8 true [b],by simp⟩
    · exact ⟨RdI.vsl _ .u8 false r,hr⟩)
  have h2:msg [(sA h.blks.length 1 0 1 19 (some 19),zCq),(.vsl true (eI .u8 [b]),[b]),(.vsl false (eI .u8 r),r)]=zCq++([b]++r):=by simp [msg]
  rw [h2] at h1
  exact h1
@[simp] theorem zPh (l:List Int):(zJL l).length=32:=by
  obtain ⟨c1,c2⟩:=zjO l (q:=(tab 25 fun _=>0#64,0)) (by simp) (by simp)
  simp [zJL,zJJ,zez,c1]
theorem zM6 (L:Lim) (h:zab) (b:Int) (l:List It) (hn:l.length≤2000):
    zag ctx L zpq [.int .i64 b,.vsl false (l.map It.cells)] h=some (.tup [.agg (cI .u8 (zyQ b l).1),.int .i64 (zyQ b l).2.1,.int .i64 (zyQ b l).2.2],h):=by
  rw [zwR]
  have hser:=fun L h=>zOb L h l hn
  by_cases hb:b≠1∧b≠2
  · have e1 : zyQ b l = (zvp, -1, 15) := by unfold zyQ; rw [if_pos hb]
    rw [e1]
    simp [zhD, -List.map_take,zau,zgL,bne,beq_false_of_ne hb.1,beq_false_of_ne hb.2,zaA,zbF,zah,zaf,zvp]
  · have hb' : b = 1 ∨ b = 2 := by omega
    by_cases h0:(znP l 0 []).2.2=0
    · have e1 : zyQ b l = (zJL (zCq ++ ([IntKind.u8.wrap b] ++ (znP l 0 []).1)), -1, 0) := by unfold zyQ; rw [if_neg hb, if_neg (by simpa using h0)]
      rw [e1]
      have hlen:(znP l 0 []).1.length < 200000000000:=by
        have:=zuq l 0 [];simp at this;omega
      rcases hb' with rfl | rfl
      · simp [zhD, -List.map_take,zau,zgL,hser,h0,zaA,rep,chunks,zii,zw1,zw2,hlen,zbF,zah,zaf]
      · simp [zhD, -List.map_take,zau,zgL,hser,h0,zaA,rep,chunks,zii,zw1,zw2,hlen,zbF,zah,zaf]
    · have e1 : zyQ b l = (zvp, (znP l 0 []).2.1, (znP l 0 []).2.2) := by unfold zyQ; rw [if_neg hb, if_pos h0]
      rw [e1]
      have b0:((znP l 0 []).2.2==0)=false:=beq_false_of_ne h0
      rcases hb' with rfl | rfl
      · simp [zhD, -List.map_take,zau,zgL,hser,bne,b0,zaA,zbF,zah,zaf,zvp]
      · simp [zhD, -List.map_take,zau,zgL,hser,bne,b0,zaA,zbF,zah,zaf,zvp]
end Go.Av
namespace Go.Av
@[irreducible] def zDr (p:List Int):List Int:=(zyQ 1 (zhX p).1).1
theorem zyT (p:List Int):zDr p=(zyQ 1 (zhX p).1).1:=by unfold zDr;exact rfl
def zkJ (p:List Int):Tc:=⟨zIU p,zDr p,zy0 (zDr p)⟩
theorem zw5 (l:List It):(zyQ 1 l).1.length=32:=by
  unfold zyQ
  split
  · simp [zvp]
  · split
    · simp [zvp]
    · simp
theorem zvt (p:List Int):(zDr p).length=32:=by rw [zyT];exact zw5 _
theorem zzU:∀ (f:Nat) (b:List Int) (k:Nat) (acc:List It),k≤1024→acc.length≤k→(zDb f b k acc).1.length≤1024
  | 0,b,k,acc,hk,ha=>by simp [zDb];omega
  | f + 1, b, k, acc, hk, ha => by
    unfold zDb
    split
    · simp only;omega
    · split
      · simp
      · split
        · exact zzU f _ (k+1) _ (by omega) (by simp;omega)
        · simp
theorem zzV (b:List Int):(zhX b).1.length≤1024:=zzU _ _ _ _ (by omega) (by simp)
theorem zmm (L:Lim) (h:zab) (bs:List (List zaa)) (ts:List Nat) (i off:Nat) (cs:List zaa) (h1:(decide (L.rob≤h.blks.length)&&decide (L.nb≤h.blks.length+i))=true):
    zcx L (hx h bs ts) (pA h.blks.length i off) cs=stO h bs ts i off cs bs[i]?:=by
  simp only [Bool.and_eq_true,decide_eq_true_eq] at h1
  unfold zcx pA stO stI hx
  simp only
  rw [List.getElem?_append_right (Nat.le_add_right _ _),Nat.add_sub_cancel_left]
  cases bs[i]? with
  | none=>rfl
  | some old=>
    simp only [Option.bind_some]
    by_cases hc:off+cs.length≤old.length
    · rw [if_pos ⟨by omega, hc, .inl (by omega)⟩, if_pos (by simpa using hc)]
      rw [List.set_append_right _ _ (Nat.le_add_right _ _),Nat.add_sub_cancel_left]
    · rw [if_neg (fun h=>hc h.2.1),if_neg (by simpa using hc)]
def z32:List Int:=tab 32 fun _=>0
def tC0 (n B:Nat) (tg:List Int):List zaa:=pA n B 0 :: (cI .u8 tg++[.nif])
theorem zDu (n B:Nat) {tg:List Int} (h:tg.length=32):(tC0 n B tg).length=34:=by simp [tC0,h]
theorem zJ4 (n B:Nat) {tg tg':List Int} (h:tg.length=32) (h':tg'.length=32):setAt (tC0 n B tg) 1 (cI .u8 tg')=tC0 n B tg':=by
  rw [zsc _ _ _ (by simp [tC0,h,h'])]
  unfold putAt tC0
  rw [List.take_succ_cons,List.take_zero]
  have:(pA n B 0 :: (cI .u8 tg++[zaa.nif])).drop (1+(cI .u8 tg').length)=[.nif]:=by
    rw [show 1+(cI .u8 tg').length=32+1 by simp [h'],List.drop_succ_cons,List.drop_left' (by simp [h])]
  rw [this]
  rfl
theorem zGV (n B:Nat) {tg:List Int} (h:tg.length=32):setAt (tC0 n B tg) 33 [.iface 109 (.agg [pA n (B+3) 0])]=tC n B tg:=by
  rw [zsc _ _ _ (by simp [tC0,h])]
  unfold putAt tC0 tC
  rw [show 33=32+1 from rfl,List.take_succ_cons,List.take_left' (by simp [h])]
  have:(pA n B 0 :: (cI .u8 tg++[zaa.nif])).drop (32+1 + [zaa.iface 109 (.agg [pA n (B+3) 0])].length)=[]:=by
    rw [List.drop_eq_nil_iff];simp [h]
  rw [this]
  simp
theorem zQu (n B:Nat) {tg:List Int} (h:tg.length=32):zeb true (tC0 n B tg) 1 32=some (.agg (cI .u8 tg)):=by
  have:((tC0 n B tg).drop 1).take 32=cI .u8 tg:=by
    unfold tC0
    rw [List.drop_one,List.tail_cons,List.take_left' (by simp [h])]
  unfold zeb
  rw [if_pos rfl,if_pos (by simp [tC0,h]),this]
theorem zNf (L:Lim) (h:zab) (p:zaa) (t:TypeId) (v:zaa):stK L h 1 p (.iface t v)=stM (zcx L h p [.iface t v]):=by simp [stK,zaa.cells,zaa.okV]
theorem zJ6 (L:Lim) (h:zab) (bs:List (List zaa)) (ts:List Nat) (c:Bool) (p:List Int) (hp:inB p) (hl:p.length < 1000000000) (hL:L.rob≤h.blks.length) (hnb:L.nb≤h.blks.length+bs.length):
    zag ctx L zdj [.int .i64 1,.vsl c (eI .u8 p)] (hx h bs ts)=
      if (zhX p).2.2=0 then some (.tup [pA h.blks.length (bs.length+1) 0,.int .i64 (-1),.int .i64 0],hx h (trB h.blks.length bs (zkJ p) []) ts)
      else some (.tup [.nilp,.int .i64 (zhX p).2.1,.int .i64 (zhX p).2.2],hx h bs ts):=by
  rw [zhU]
  have hG:=fun L=>zJP L h bs ts c p hp hl
  have hpl:=zzV p
  have hTg:=fun L h=>zM6 L h 1 (zhX p).1 (by omega)
  rw [← zyT] at hTg
  have htl:=zvt p
  have hIt:=fun L H b hb=>zDd L H (.ptr b 0) b (zIU p) rfl hb (by show (zhX p).1.length < _;omega)
  have hng:(zIU p).l=(zhX p).1:=rfl
  rw [hng] at hIt
  by_cases he:(zhX p).2.2=0
  · rw [if_pos he]
    simp only [if_pos he] at hG
    have hB:trB h.blks.length bs (zkJ p) []=bs++[guC (zIU p),tC h.blks.length bs.length (zDr p),cI .u8 (zy0 (zDr p)).S,spO h.blks.length (bs.length+2) (zy0 (zDr p))]:=by simp [trB,trW,zkJ]
    rw [hB]
    generalize zyQ 1 (zhX p).1=tgl at*
    have hOf:=fun L hL w=>zyJ L h (bs++w) ts (zDr p) htl hL
    generalize zDr p=tg at*
    generalize (zhX p).1.map It.cells=its at*
    generalize zIU p=g at*
    have hfill:zaA [zaa.nilp,.int .u8 0,.int .u8 0,.int .u8 0,.int .u8 0,.int .u8 0,.int .u8 0,.int .u8 0,.int .u8 0,.int .u8 0,.int .u8 0,.int .u8 0,.int .u8 0,.int .u8 0,.int .u8 0,.int .u8 0,.int .u8 0,.int .u8 0,.int .u8 0,.int .u8 0,.int .u8 0,.int .u8 0,.int .u8 0,.int .u8 0,.int .u8 0,.int .u8 0,.int .u8 0,.int .u8 0,.int .u8 0,.int .u8 0,.int .u8 0,.int .u8 0,.int .u8 0,.nif] [(0,1,pA h.blks.length bs.length 0)]=some (tC0 h.blks.length bs.length z32):=rfl
    have hzl:z32.length=32:=by simp [z32]
    have l1:=zDu h.blks.length bs.length hzl
    have l2:=zDu h.blks.length bs.length htl
    have s1:=zJ4 h.blks.length bs.length hzl htl
    have s2:=zGV h.blks.length bs.length htl
    have p1:=zQu h.blks.length bs.length htl
    have hfif:zaA [zaa.nilp] [(0,1,pA h.blks.length (bs.length+3) 0)]=some [pA h.blks.length (bs.length+3) 0]:=rfl
    have gb:∀ w:List (List zaa),(bs++w)[bs.length+1]?=w[1]?:=fun w=>zdv bs w bs.length 1 rfl
    have gb0:∀ w:List (List zaa),(bs++w)[bs.length]?=w[0]?:=fun w=>zdv bs w bs.length 0 rfl
    have sb:∀ (w:List (List zaa)) v,(bs++w).set (bs.length+1) v=bs++w.set 1 v:=fun w v=>zeQ bs w bs.length 1 v rfl
    have hst:=fun w off cs=>zmm L h (bs++w) ts (bs.length+1) off cs (by simp only [Bool.and_eq_true,decide_eq_true_eq];exact ⟨hL,by omega⟩)
    simp only [List.length_append,List.length_cons,List.length_nil] at hOf
    have hgi:∀ w:List (List zaa),w[0]?=some (guC g)→∀ L,zag ctx L zcf [pA h.blks.length bs.length 0] (hx h (bs++w) ts)=some (.vsl false its,hx h (bs++w) ts):=fun w hw L=>hIt L _ (h.blks.length+bs.length) (zzD ts (by rw [gb0,hw]))
    generalize tC0 h.blks.length bs.length z32=T0 at*
    generalize tC0 h.blks.length bs.length tg=T1 at*
    generalize tC h.blks.length bs.length tg=T2 at*
    simp -implicitDefEqProofs [zdm,hG,hTg,hgi,hfill,hfif,zee,zJG,zC4,gb,gb0,sb,hst,zbF,zah,zNf,l1,l2,s1,s2,p1,hOf,hL,htl]
  · rw [if_neg he]
    simp only [if_neg he] at hG
    have be:((zhX p).2.2==0)=false:=by simp [he]
    simp -implicitDefEqProofs [zdm,hG,bne,be]
end Go.Av
namespace Go.Av
def p0:List Int:=[1,1,1,0,0,0,0,0,2,1,32,0,0,0,0,0]
end Go.Av
namespace Go.Av
structure Tc.ok (t:Tc):Prop where
  s:t.s.ok
  tg:t.tg.length=32
  l:t.g.l.length≤1024
  k:t.g.k≤t.g.l.length
  cnt:∀ x∈t.g.l,x.count≤1048576
theorem zsT {g:Gd} (h:¬g.e=0) (e:Int):zbV g e=g:=if_neg h
theorem zsU {g:Gd} (h:¬g.e=0) (k t c:Int):zbi g k t c=g:=by
  unfold zbi;rw [zsT h,if_neg h]
theorem zB0 {g:Gd} (h:¬g.e=0):zsZ g=g:=zsT h _
theorem zqm {g:Gd} {k t c:Int} (h:(zbi g k t c).e=0):zdU g k t c=true:=by
  rw [zvZ] at h
  cases hn:zdU g k t c with
  | true=>rfl
  | false=>
    rw [hn] at h
    simp only [Bool.false_eq_true,if_false] at h
    unfold zbV at h
    split at h
    · simp at h
    · contradiction
theorem zvY {g:Gd} {k t c:Int} (h:zdU g k t c=true):g.k < g.l.length∧(gd g.l ⟨0,0,0,⟨#[]⟩⟩ g.k).count=c:=by
  unfold zdU zxQ at h
  simp only [Bool.and_eq_true,decide_eq_true_eq,beq_iff_eq] at h
  exact ⟨h.1,h.2.2.2⟩
theorem zK8 {g:Gd} (k t c:Int) (h:g.k≤g.l.length):(zbi g k t c).k≤(zbi g k t c).l.length:=by
  rw [zif]
  have hd:zbi g k t c=if (zbV g (if zdU g k t c then 0 else 10)).e=0 then {zbV g (if zdU g k t c then 0 else 10) with k:=g.k+1} else zbV g (if zdU g k t c then 0 else 10):=rfl
  by_cases h0:(zbV g (if zdU g k t c then 0 else 10)).e=0
  · have h1 : (zbi g k t c).e = 0 := by rw [zvZ]; exact h0
    have:=(zvY (zqm h1)).1
    rw [hd,if_pos h0]
    simp only;omega
  · rw [hd,if_neg h0,(zie _ _).2];exact h
theorem zuO {α:Type} {l:List α} {d:α} {i:Nat} (h:i < l.length):gd l d i∈l:=by
  have:gd l d i=l[i]:=by simp [gd,List.getD,h]
  rw [this];exact List.getElem_mem h
theorem Tc.ok.next {t:Tc} (h:t.ok) (k ty c:Int) (q:Sp) (hq:q.ok):Tc.ok {t with g:=zbi t.g k ty c,s:=q}:=
  ⟨hq,h.tg,by simp only [zif];exact h.l,zK8 k ty c h.k,by simp only [zif];exact h.cnt⟩
theorem Tc.ok.fail {t:Tc} (h:t.ok) (e:Int):Tc.ok {t with g:=zbV t.g e}:=
  ⟨h.s,h.tg,by simp only [(zie _ _).1];exact h.l,by simp only [(zie _ _).1,(zie _ _).2];exact h.k,by simp only [(zie _ _).1];exact h.cnt⟩
theorem Tc.ok.count {t:Tc} (h:t.ok) {k ty c:Int} (hn:(zbi t.g k ty c).e=0):c≤1048576:=by
  obtain ⟨h1,h2⟩:=zvY (zqm hn)
  rw [← h2]
  exact h.cnt _ (zuO h1)
theorem zrG {s:Sp} (hs:s.ok) (k t c:Int) (b:List Int):(zbH s (opB k t c b)).c≤s.c+b.length+7:=by
  have h1:=zr2 hs (opB k t c b)
  have h2:(opB k t c b).length≤6+b.length:=by unfold opB;split <;> simp [zn3];omega
  omega
theorem zLa {t:Tc} (h:t.ok) (ty:Int) {b:List Int} (hb:inB b):(zgZ t ty b).1.ok∧(zgZ t ty b).1.s.c≤t.s.c+b.length+7:=by
  unfold zgZ
  split
  · split
    · split
      · split
        · exact ⟨h.next _ _ _ _ (zge h.s (zoA _ _ _ hb)),zrG h.s _ _ _ _⟩
        · exact ⟨(h.next _ _ _ _ h.s).fail _,by simp only;omega⟩
      · exact ⟨h.next _ _ _ _ h.s,by simp only;omega⟩
    · exact ⟨h.fail _,by simp only;omega⟩
  · exact ⟨h,by simp only;omega⟩
theorem zi3:inB []:=fun i hi=>by simp at hi
theorem zEX {t:Tc} (h:t.ok) (N:Int):(zq6 t N).2.ok∧(zq6 t N).2.s.c≤t.s.c+N.toNat+7:=by
  unfold zq6
  have h1:=zge h.s (zoA 2 1 N zi3)
  have h2:=zrG h.s 2 1 N []
  have h3:=zr0 (zbH t.s (opB 2 1 N [])) N.toNat
  simp only [List.length_nil] at h2
  split
  · exact ⟨h.next _ _ _ _ (zmo h1 _),by simp only;omega⟩
  · exact ⟨h.next _ _ _ _ h.s,by simp only;omega⟩
theorem zLb {t:Tc} (h:t.ok) (N:Int):inB (zq6 t N).1.1:=by
  unfold zq6
  split
  · exact zAr (zge h.s (zoA 2 1 N zi3)) _
  · exact zi3
theorem zB3 {s:Sp} (h:s.ok) (n:Nat):(zaC s n).2.ok∧(zaC s n).2.c≤s.c+2048*n:=zzQ n [] 0 h
theorem zEZ {t:Tc} (h:t.ok) (N:Int):(zgv t N).2.ok∧(zgv t N).2.s.c≤t.s.c+2048*N.toNat+7:=by
  unfold zgv
  have h1:=zge h.s (zoA 2 3 N zi3)
  have h2:=zrG h.s 2 3 N []
  have h3:=zB3 h1 N.toNat
  simp only [List.length_nil] at h2
  split
  · split
    · exact ⟨h.next _ _ _ _ h3.1,by simp only;omega⟩
    · exact ⟨(h.next _ _ _ _ h3.1).fail _,by simp only;omega⟩
  · exact ⟨h.next _ _ _ _ h.s,by simp only;omega⟩
theorem zLd {t:Tc} (h:t.ok):(zwY t).1.ok∧(zwY t).1.s.c≤t.s.c+8:=by
  unfold zwY
  have h1:=zge h.s (zoA 3 0 1 zi3)
  have h2:=zrG h.s 3 0 1 []
  have h3:(zF5 (zbH t.s (opB 3 0 1 []))).c=(zbH t.s (opB 3 0 1 [])).c+1:=rfl
  simp only [List.length_nil] at h2
  split
  · exact ⟨h.next _ _ _ _ (zKo h1),by simp only;omega⟩
  · exact ⟨h.next _ _ _ _ h.s,by simp only;omega⟩
theorem zLe {t:Tc} (h:t.ok):Tc.ok {t with g:=zsZ t.g}:=h.fail _
theorem zIc {b:List Int} (h:(zts b).2.2=0):(zts b).1.count≤1048576:=by
  unfold zts at h ⊢
  split at h
  · simp at h
  · split at h
    · next h1 h2=>
      rw [if_neg h1,if_pos h2]
      exact (zo9 h2).2.2.2.2.2.1
    · next h1 h2=>exact absurd h h2
theorem zAD:∀ (f:Nat) (b:List Int) (k:Nat) (acc:List It),(∀ x∈acc,x.count≤1048576)→∀ x∈(zDb f b k acc).1,x.count≤1048576
  | 0,b,k,acc,h=>h
  | f + 1, b, k, acc, h => by
    unfold zDb
    split
    · exact h
    · split
      · intro x hx;simp at hx
      · split
        · next he=>
          refine zAD f _ _ _ ?_
          intro x hx
          rcases List.mem_append.1 hx with h1 | h1
          · exact h x h1
          · rw [List.mem_singleton.1 h1];exact zIc he
        · intro x hx;simp at hx
theorem zLf (p:List Int):inB (zDr p):=by
  rw [zyT]
  unfold zyQ
  split
  · exact zry 32
  · split
    · exact zry 32
    · exact zmu (zp0 _) 32
theorem zE3 (p:List Int) (hp:inB p):(zkJ p).ok:=
  ⟨zKq (by rw [zvt];decide) (zLf p),zvt p,zzV p,Nat.zero_le _,zAD _ _ _ _ (by simp)⟩
theorem zOj (p:List Int):(zkJ p).s.c=0:=rfl
theorem zxT (s:Sp) (k:Nat):zvS 0 s k=((zE,64,11),s):=by rw [zvS]
theorem zxU (f:Nat) (s:Sp) (k:Nat):zvS (f+1) s k=if leN (zBS (zjq s 32)) < pN then ((fe (leN (zBS (zjq s 32))),(k:Int)+1,0),zdr s 32) else zvS f (zdr s 32) (k+1):=by rw [zvS]
theorem zLg (f:Nat):∀ (s:Sp) (k:Nat),(zvS f s k).1.2.2=0→∃ x,(zvS f s k).1.1=fe x:=by
  induction f with
  | zero=>
    intro s k h
    rw [zxT] at h
    exact absurd h (by simp)
  | succ f ih=>
    intro s k h
    rw [zxU] at h ⊢
    by_cases h0:leN (zBS (zjq s 32)) < pN
    · rw [if_pos h0];exact ⟨leN (zBS (zjq s 32)),by simp only⟩
    · rw [if_neg h0] at h ⊢
      exact ih _ _ h
theorem zAE:∀ (n:Nat) (s:Sp) (acc:List (List W64)) (t:Int),(∀ f∈acc,∃ x,f=fe x)→∀ f∈(zin n s acc t).1.1,∃ x,f=fe x
  | 0,s,acc,t,h=>h
  | n + 1, s, acc, t, h => by
    unfold zin
    split
    · next h0=>
      refine zAE n _ _ _ ?_
      intro f hf
      rcases List.mem_append.1 hf with h1 | h1
      · exact h f h1
      · rw [List.mem_singleton.1 h1]
        rw [zl1] at h0 ⊢
        exact zLg 64 s 0 h0
    · intro f hf;simp at hf
theorem zLh (t:Tc) (N:Int):∀ f∈(zgv t N).1.1,∃ x,f=fe x:=by
  unfold zgv
  split
  · split
    · exact zAE _ _ _ _ (by simp)
    · intro f hf;simp at hf
  · intro f hf;simp at hf
theorem zE4:∀ l:List (List W64),(∀ f∈l,∃ x,f=fe x)→∃ xs:List Nat,l=xs.map fe
  | [],_=>⟨[],rfl⟩
  | f :: l, h => by
    obtain ⟨x,rfl⟩:=h f (by simp)
    obtain ⟨xs,rfl⟩:=zE4 l fun g hg=>h g (by simp [hg])
    exact ⟨x :: xs,rfl⟩
theorem zE5 (t:Tc) (N:Int):∃ xs:List Nat,(zgv t N).1.1=xs.map fe:=zE4 _ (zLh t N)
noncomputable def xsT (t:Tc) (N:Int):List Nat:=Classical.choose (zE5 t N)
theorem zuP (t:Tc) (N:Int):(zgv t N).1.1=(xsT t N).map fe:=Classical.choose_spec (zE5 t N)
theorem zAF:∀ (n:Nat) (s:Sp) (acc:List (List W64)) (t:Int),(zin n s acc t).1.1.length≤acc.length+n
  | 0,s,acc,t=>by simp [zin]
  | n + 1, s, acc, t => by
    unfold zin
    split
    · have:=zAF n (zbb s).2 (acc++[(zbb s).1.1]) (IntKind.i64.wrap (t+(zbb s).1.2.1))
      simp only [List.length_append,List.length_singleton] at this
      omega
    · simp
theorem zLi (t:Tc) (N:Int) (M:Nat) (h:(zbi t.g 2 3 N).e=0→N.toNat≤M):(xsT t N).length≤M:=by
  have h1:(xsT t N).length=(zgv t N).1.1.length:=by rw [zuP];simp
  rw [h1]
  unfold zgv
  by_cases h0:(zbi t.g 2 3 N).e=0
  · rw [if_pos h0]
    split
    · have:=zAF N.toNat (zbH t.s (opB 2 3 N [])) [] 0
      have h2:=h h0
      simp only [List.length_nil] at this
      show (zin N.toNat (zbH t.s (opB 2 3 N [])) [] 0).1.1.length≤M
      omega
    · simp
  · rw [if_neg h0];simp
theorem zE6 {t:Tc} {N:Int} (h:¬(zgv t N).1.2=0):xsT t N=[]:=by
  have h1:(zgv t N).1.1=[]:=by
    unfold zgv at h ⊢
    by_cases h0:(zbi t.g 2 3 N).e=0
    · rw [if_pos h0] at h ⊢
      split
      · next h2=>rw [if_pos h2] at h;exact absurd rfl h
      · rfl
    · rw [if_neg h0]
  rw [zuP] at h1
  simpa using h1
noncomputable def doT (t:Tc) (d ty N:Int) (b:List Int):(Int × List Int) × Tc:=
  if d=0 then (((zgZ t ty b).2,[]),(zgZ t ty b).1)
  else if d=1 then (((zq6 t N).1.2,(zq6 t N).1.1),(zq6 t N).2)
  else if d=2 then (((zgv t N).1.2,(xsT t N).flatMap feB),(zgv t N).2)
  else (((zwY t).2,[]),(zwY t).1)
theorem zOm (t:Tc) (ty:Int) (b:List Int):(zgZ t ty b).1.g.e=(zgZ t ty b).2:=by
  unfold zgZ
  by_cases h0:t.g.e=0
  · rw [if_pos h0]
    by_cases h1:(zqR ty b.length).2=0
    · rw [if_pos h1]
      by_cases h2:(zbi t.g 1 ty (zqR ty b.length).1).e=0
      · rw [if_pos h2]
        split
        · exact h2
        · rfl
      · rw [if_neg h2]
    · rw [if_neg h1]
  · rw [if_neg h0]
theorem zOn (t:Tc) (N:Int):(zq6 t N).2.g.e=(zq6 t N).1.2:=by
  unfold zq6
  by_cases h0:(zbi t.g 2 1 N).e=0
  · rw [if_pos h0];exact h0
  · rw [if_neg h0]
theorem zOo (t:Tc) (N:Int):(zgv t N).2.g.e=(zgv t N).1.2:=by
  unfold zgv
  by_cases h0:(zbi t.g 2 3 N).e=0
  · rw [if_pos h0]
    split
    · exact h0
    · rfl
  · rw [if_neg h0]
theorem zOp (t:Tc):(zwY t).1.g.e=(zwY t).2:=by
  unfold zwY
  by_cases h0:(zbi t.g 3 0 1).e=0
  · rw [if_pos h0];exact h0
  · rw [if_neg h0]
theorem zQ8 (t:Tc) (d ty N:Int) (b:List Int):(doT t d ty N b).2.g.e=(doT t d ty N b).1.1:=by
  unfold doT
  split
  · exact zOm _ _ _
  · split
    · exact zOn _ _
    · split
      · exact zOo _ _
      · exact zOp _
theorem zFr {t:Tc} (h:¬t.g.e=0) (d ty N:Int) (b:List Int):doT t d ty N b=((t.g.e,[]),t):=by
  have hc:zgv t N=(([],t.g.e),t):=by unfold zgv;simp only [zsU h,if_neg h]
  have hx:xsT t N=[]:=zE6 (by rw [hc];exact h)
  unfold doT
  rw [hx,hc]
  unfold zgZ zq6 zwY
  simp only [zsU h,if_neg h]
  split
  · rfl
  · split
    · rfl
    · split
      · rfl
      · rfl
theorem zOH {t:Tc} (h:t.ok) (d ty N:Int) {b:List Int} (hb:inB b) (hl:b.length≤400) (hN:N≤1048576→N≤100):
    (doT t d ty N b).2.ok∧(doT t d ty N b).2.s.c≤t.s.c+300000:=by
  unfold doT
  split
  · have:=zLa h ty hb
    exact ⟨this.1,by simp only;omega⟩
  · split
    · refine ⟨(zEX h N).1,?_⟩
      by_cases h0:(zbi t.g 2 1 N).e=0
      · have h1:=(zEX h N).2
        have h2:=h.count h0
        have:=hN h2
        simp only;omega
      · unfold zq6;rw [if_neg h0];simp only;omega
    · split
      · refine ⟨(zEZ h N).1,?_⟩
        by_cases h0:(zbi t.g 2 3 N).e=0
        · have h1:=(zEZ h N).2
          have h2:=h.count h0
          have:=hN h2
          simp only;omega
        · unfold zgv;rw [if_neg h0];simp only;omega
      · have:=zLd h
        exact ⟨this.1,by simp only;omega⟩
end Go.Av
