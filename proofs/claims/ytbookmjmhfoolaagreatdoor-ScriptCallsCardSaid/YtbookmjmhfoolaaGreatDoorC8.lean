/- A transcript as it lies, its calls, and what they do. -/
import Derived.Test.YtbookmjmhfoolaaGreatDoorC5
import Derived.Test.YtbookmjmhfoolaaGreatDoorC6
import Derived.Test.YtbookmjmhfoolaaGreatDoorC3
import Derived.Test.YtbookmjmhfoolaaGreatDoorC1
set_option linter.unusedSimpArgs false
set_option linter.unusedVariables false
set_option maxHeartbeats 2000000
set_option maxRecDepth 100000
namespace Go.Av
theorem zvY (h:zab) (bs js:List (List zaa)) (ts us:List Nat) (n:Nat) (hn:n=bs.length):zdK (hx h (bs++js) (ts++us)) (h.blks.length+n) (h.toks.length+ts.length)=hx h bs ts:=by
  subst hn
  unfold zdK hx
  have e : ∀ {α : Type} (a b c : List α), (a ++ (b ++ c)).take (a.length + b.length) = a ++ b := fun a b c => by
    rw [← List.append_assoc,List.take_left' (by simp)]
  simp only [e]
theorem zp4 (k t c:Int) {b:List Int} (hb:inB b):inB (opB k t c b):=by
  unfold opB
  split
  · rw [znf]
    have hw:=fun n:Int=>show 0≤IntKind.u8.wrap n∧IntKind.u8.wrap n < 256 by unfold IntKind.wrap;simp [IntKind.signed,IntKind.bits];omega
    exact ziA.2 ⟨hw _,ziA.2 ⟨hw _,ziA.2 ⟨hw _,ziA.2 ⟨hw _,ziA.2 ⟨hw _,ziA.2 ⟨hw _,hb⟩⟩⟩⟩⟩⟩
  · intro i hi;simp at hi
theorem zHp (k t c:Int) {b:List Int} (hl:b.length < 10000000):(opB k t c b).length < 100000000:=by
  unfold opB
  split
  · rw [znf];simp;omega
  · simp
theorem zCh (L:Lim) (h:zab) (bs:List (List zaa)) (ts:List Nat) (i j:Nat) (s:Sp) (hs:s.ok) (N:Int) (n:Nat) (hN:n=N.toNat) (hn:n < 10000) (hc:s.c < 50000000)
    (hi:i < bs.length) (hj:j < bs.length) (hij:i≠j) (hL:L.rob≤h.blks.length) (hT:L.rot≤h.toks.length):
    zag ctx L zfq [.int .i64 N,fnB h.blks.length i] (hx h (spH bs i j h.blks.length s) ts)=some (.tup [.vsl false ((zaD s n).1.1.map cW),.int .i64 (zaD s n).1.2.1,.int .i64 (zaD s n).1.2.2],hx h (spH bs i j h.blks.length (zaD s n).2) ts):=by
  rw [zoq]
  obtain ⟨M,hM⟩:∃ M:Int,M=max N 0:=⟨_,rfl⟩
  have hmx:zqt true (.int .i64 N) [.int .i64 0]=some (.int .i64 M):=by
    simp only [zqt,zLe,bind,Option.bind_some,if_true]
    rw [hM]
    by_cases h0:(0:Int) > N
    · rw [if_pos h0,show max N 0=0 by omega]
    · rw [if_neg h0,show max N 0=N by omega]
  have hlo:=fun fr R=>zyo (L:=⟨L.rob,L.rot,h.blks.length+bs.length,h.toks.length+ts.length⟩) (fr:=fr) (h:=h) (R:=R) bs ts i j s hs M n (by omega) hn hc hi hj hij hL hT
  have hl1:=zfU bs i j h.blks.length s
  have hl2:=zfU bs i j h.blks.length (zaD s n).2
  have hun:=zva (h.blks.length+bs.length) (h.toks.length+ts.length) (zaD s n).1.1
  have hfz:=fun hh m=>zoI (h1:=hh) (nb:=h.blks.length+bs.length) (nt:=h.toks.length+ts.length) (n:=m) (s:=.nsl) (.inl rfl) hun
  simp only [zIu] at hfz
  generalize zaD s n=E at*
  obtain ⟨⟨l,t,e⟩,q⟩:=E
  simp only at*
  generalize spH bs i j h.blks.length s=B1 at*
  generalize spH bs i j h.blks.length q=B at*
  have htr:∀ jk us,zdK (hx h (B++jk) (ts++us)) (h.blks.length+bs.length) (h.toks.length+ts.length)=hx h B ts:=fun jk us=>zvY h B jk ts us bs.length hl2.symm
  simp -implicitDefEqProofs [zhu,zam,zak,hl1,hmx]
  generalize hF:run ctx _ (.loop _) _ _=R
  obtain ⟨e,fr',jk,us,rfl,⟨rfl,rfl,f7,f8,he⟩ | ⟨rfl,hnil,f4,f5,f6⟩⟩:=hlo _ _ hF (by simp) (by simp) (by simp) (by simp) (by simp)
  · rw [he]
    simp -implicitDefEqProofs [f7,f8,hfz,htr,zam,zak,hl1]
  · rw [hnil]
    simp -implicitDefEqProofs [f4,f5,f6,htr,zam,zak,hl1]
theorem zuw (L:Lim) (h:zab) (bs:List (List zaa)) (ts:List Nat) (i j:Nat) (s:Sp) (hs:s.ok) (k t c:Int) (b:List Int) (d:zaa) (hd:∀ h,fzA h d=some (.vsl false (eI .u8 b),false)) (hf:d.flat=false) (hb:inB b) (hl:b.length < 10000000) (hc:s.c < 100000000)
    (hi:i < bs.length) (hj:j < bs.length) (hij:i≠j) (hL:L.rob≤h.blks.length):
    zag ctx L za8 [.agg [pA h.blks.length i 0],.agg [.int .i64 k,.int .i64 t,.int .i64 c,d]] (hx h (spH bs i j h.blks.length s) ts)=some (.tup [],hx h (spH bs i j h.blks.length (zbH s (opB k t c b))) ts):=by
  rw [zhh]
  have hT:=fun L h=>zLh L h k t c b d hd hf hb (by omega)
  have hA:=fun L hL=>zz5 L h bs ts i j s hs false (opB k t c b) (zp4 k t c hb) (zHp k t c hl) hc hi hj hij hL
  have htr:=fun q=>zpw h bs ts i j (spO h.blks.length j q) (cI .u8 q.S)
  have hl1:=zfU bs i j h.blks.length s
  have htr2:zdK (hx h (spH bs i j h.blks.length (zbH s (opB k t c b))) ts) (h.blks.length+bs.length) (h.toks.length+ts.length)=hx h (spH bs i j h.blks.length (zbH s (opB k t c b))) ts:=htr _
  generalize opB k t c b=o at*
  generalize spH bs i j h.blks.length (zbH s o)=B2 at*
  generalize spH bs i j h.blks.length s=B1 at*
  simp -implicitDefEqProofs [zcC,zam,zak,hl1,zmB,zaa.okV,zaa.cells,zae,zaf,hT,hA,hL,htr2]
theorem zE7 (L:Lim) (h:zab) (bs:List (List zaa)) (ts:List Nat) (i j:Nat) (s:Sp) (hs:s.ok) (N:Int) (n:Nat) (hN:n=N.toNat) (hn:n < 1000000) (hc:s.c < 100000000)
    (hi:i < bs.length) (hj:j < bs.length) (hij:i≠j) (hL:L.rob≤h.blks.length) (hT:L.rot≤h.toks.length):
    zag ctx L za0 [.agg [pA h.blks.length i 0],.int .i64 N] (hx h (spH bs i j h.blks.length s) ts)=some (.vsl false (eI .u8 (zjy s n)),hx h (spH bs i j h.blks.length (zdl s n)) ts):=by
  rw [zgN]
  have hS:=fun L hL hT=>zrT L h bs ts i j s hs N n hN hn hc hi hj hij hL hT
  have hl1:=zfU bs i j h.blks.length s
  have htr2:zdK (hx h (spH bs i j h.blks.length (zdl s n)) ts) (h.blks.length+bs.length) (h.toks.length+ts.length)=hx h (spH bs i j h.blks.length (zdl s n)) ts:=zpw h bs ts i j _ _
  generalize zjy s n=l at*
  generalize spH bs i j h.blks.length (zdl s n)=B2 at*
  generalize spH bs i j h.blks.length s=B1 at*
  simp -implicitDefEqProofs [zch,zam,zak,hl1,zmB,zaa.okV,zaa.cells,zae,hS,hL,hT,htr2]
theorem zCi (L:Lim) (h:zab) (bs:List (List zaa)) (ts:List Nat) (i j:Nat) (s:Sp) (hs:s.ok) (N:Int) (n:Nat) (hN:n=N.toNat) (hn:n < 10000) (hc:s.c < 50000000)
    (hi:i < bs.length) (hj:j < bs.length) (hij:i≠j) (hL:L.rob≤h.blks.length) (hT:L.rot≤h.toks.length):
    zag ctx L zaQ [.agg [pA h.blks.length i 0],.int .i64 N] (hx h (spH bs i j h.blks.length s) ts)=some (.tup [.vsl false ((zaD s n).1.1.map cW),.int .i64 (zaD s n).1.2.2],hx h (spH bs i j h.blks.length (zaD s n).2) ts):=by
  rw [zgp]
  have hS:=fun L hL hT=>zCh L h bs ts i j s hs N n hN hn hc hi hj hij hL hT
  have hl1:=zfU bs i j h.blks.length s
  have htr2:zdK (hx h (spH bs i j h.blks.length (zaD s n).2) ts) (h.blks.length+bs.length) (h.toks.length+ts.length)=hx h (spH bs i j h.blks.length (zaD s n).2) ts:=zpw h bs ts i j _ _
  have hun:=zva (h.blks.length+bs.length) (h.toks.length+ts.length) (zaD s n).1.1
  generalize zaD s n=E at*
  obtain ⟨⟨l,t,e⟩,q⟩:=E
  simp only at*
  generalize spH bs i j h.blks.length q=B2 at*
  generalize spH bs i j h.blks.length s=B1 at*
  have hfz:=fun hh m=>zhO hh (h.blks.length+bs.length) (h.toks.length+ts.length) m false hun
  generalize l.map cW=lw at*
  unfold fnB at hS
  simp -implicitDefEqProofs [zb2,zam,zak,hl1,zmB,zaa.okV,zaa.cells,zae,zaf,hS,hL,hT,htr2,hfz]
end Go.Av
namespace Go.Av
structure Tc where
  g:Gd
  tg:List Int
  s:Sp
def tC (n B:Nat) (tg:List Int):List zaa:=pA n B 0 :: (cI .u8 tg++[.iface 109 (.agg [pA n (B+3) 0])])
def trW (n B:Nat) (t:Tc):List (List zaa):=[guC t.g,tC n B t.tg,cI .u8 t.s.S,spO n (B+2) t.s]
def trB (n:Nat) (bs:List (List zaa)) (t:Tc) (js:List (List zaa)):List (List zaa):=bs++(trW n bs.length t++js)
section
variable (n:Nat) (bs:List (List zaa)) (t:Tc) (js:List (List zaa))
theorem znl (w:List (List zaa)):trB n bs t js++w=trB n bs t (js++w):=by simp [trB]
theorem zbE:(trB n bs t js).length=bs.length+(4+js.length):=by simp [trB,trW];omega
theorem zz7:(trB n bs t js)[bs.length]?=some (guC t.g):=zdm bs _ bs.length 0 rfl
theorem zv5:(trB n bs t js)[bs.length+1]?=some (tC n bs.length t.tg):=zdm bs _ bs.length 1 rfl
theorem zxO (w:List (List zaa)) (k:Nat):(trB n bs t (js++w))[bs.length+(4+js.length+k)]?=w[k]?:=by
  unfold trB
  rw [zdm bs _ bs.length _ rfl,← List.append_assoc,List.getElem?_append_right (by simp [trW];omega)]
  congr 1
  simp [trW];omega
theorem zof (w:List (List zaa)) (k:Nat) (v:List zaa):(trB n bs t (js++w)).set (bs.length+(4+js.length+k)) v=trB n bs t (js++w.set k v):=by
  unfold trB
  rw [zeI bs _ bs.length _ v rfl,← List.append_assoc,List.set_append_right _ _ (by simp [trW];omega),List.append_assoc]
  congr 4
  simp [trW];omega
theorem ztF (g:Gd):(trB n bs t js).set bs.length (guC g)=trB n bs {t with g:=g} js:=zeI bs _ bs.length 0 _ rfl
theorem zrN (q:Sp):spH (trB n bs t js) (bs.length+3) (bs.length+2) n q=trB n bs {t with s:=q} js:=by
  have e1:=zeI bs (trW n bs.length t++js) bs.length 3 (spO n (bs.length+2) q) rfl
  have e2:=zeI bs ((trW n bs.length t++js).set 3 (spO n (bs.length+2) q)) bs.length 2 (cI .u8 q.S) rfl
  unfold spH sp2 trB
  rw [e1,e2]
  rfl
theorem zCu (h:zab) (ts us:List Nat) (w:List (List zaa)):zdK (hx h (trB n bs t (js++w)) (ts++us)) (h.blks.length+(bs.length+(4+js.length))) (h.toks.length+ts.length)=hx h (trB n bs t js) ts:=by
  rw [← znl]
  exact zvY h _ w ts us _ (zbE n bs t js).symm
theorem zrO (h:zab) (ts:List Nat):zdK (hx h (trB n bs t js) ts) (h.blks.length+(bs.length+(4+js.length))) (h.toks.length+ts.length)=hx h (trB n bs t js) ts:=by
  have:=zCu n bs t js h ts [] []
  simpa using this
theorem zr7 (h:zab) (ts:List Nat) (w:List (List zaa)):zdK (hx h (trB n bs t (js++w)) ts) (h.blks.length+(bs.length+(4+js.length))) (h.toks.length+ts.length)=hx h (trB n bs t js) ts:=by
  have:=zCu n bs t js h ts [] w
  simpa using this
end
theorem zLQ (n B:Nat) (tg:List Int):zdZ false (tC n B tg) 0 1=some (pA n B 0):=rfl
theorem zFV (n B:Nat) (tg:List Int) (h:tg.length=32):zdZ false (tC n B tg) 33 1=some (.iface 109 (.agg [pA n (B+3) 0])):=by
  have:(tC n B tg)[33]?=some (.iface 109 (.agg [pA n (B+3) 0])):=by
    unfold tC
    rw [List.getElem?_cons_succ,List.getElem?_append_right (by simp [h])]
    simp [h]
  rw [zae]
  exact this
theorem zIJ (L:Lim) (h:zab) (bs js:List (List zaa)) (ts:List Nat) (t:Tc) (hL:L.rob≤h.blks.length):
    zag ctx L zbo [pA h.blks.length (bs.length+1) 0] (hx h (trB h.blks.length bs t js) ts)=some (.int .i64 t.g.e,hx h (trB h.blks.length bs t js) ts):=by
  rw [zgt]
  have hF:=fun L hL=>zrU L h (trB h.blks.length bs t js) ts bs.length t.g 0 (zz7 _ _ _ _) hL
  have hf:zcg t.g 0=t.g:=by
    unfold zcg
    split
    · next h0=>obtain ⟨⟨l,k,e⟩,tg,s⟩:=t;simp only at h0 ⊢;rw [h0]
    · rfl
  rw [hf,ztF] at hF
  have htr:=zrO h.blks.length bs t js h ts
  have hl:=zbE h.blks.length bs t js
  have g1:=zv5 h.blks.length bs t js
  have h0:=zLQ h.blks.length bs.length t.tg
  obtain ⟨g,tg,s⟩:=t
  simp only at*
  generalize trB h.blks.length bs ⟨g,tg,s⟩ js=B at*
  generalize tC h.blks.length bs.length tg=tcs at*
  simp -implicitDefEqProofs [zcb,zam,zak,hl,g1,h0,hF,hL,htr]
theorem zAt (L:Lim) (h:zab) (bs js:List (List zaa)) (ts:List Nat) (t:Tc) (hL:L.rob≤h.blks.length):
    zag ctx L za5 [pA h.blks.length (bs.length+1) 0] (hx h (trB h.blks.length bs t js) ts)=some (.int .i64 (zxs t.g).e,hx h (trB h.blks.length bs {t with g:=zxs t.g} js) ts):=by
  rw [zfs]
  have hF:=fun L hL=>zAe L h (trB h.blks.length bs t js) ts bs.length t.g (zz7 _ _ _ _) hL
  rw [ztF] at hF
  have htr:=zrO h.blks.length bs {t with g:=zxs t.g} js h ts
  have hl:=zbE h.blks.length bs t js
  have g1:=zv5 h.blks.length bs t js
  have h0:=zLQ h.blks.length bs.length t.tg
  generalize trB h.blks.length bs {t with g:=zxs t.g} js=B2 at*
  generalize trB h.blks.length bs t js=B at*
  generalize tC h.blks.length bs.length t.tg=tcs at*
  simp -implicitDefEqProofs [zbA,zam,zak,hl,g1,h0,hF,hL,htr]
theorem zq0 (L:Lim) (h:zab) (bs js:List (List zaa)) (ts:List Nat) (t:Tc) (k ty c:Int) (d:zaa) (hk:t.g.k < 1000000000) (hd:d.okV=true) (hL:L.rob≤h.blks.length):
    zag ctx L zav [pA h.blks.length (bs.length+1) 0,.agg [.int .i64 k,.int .i64 ty,.int .i64 c,d]] (hx h (trB h.blks.length bs t js) ts)=some (.int .i64 (zbu t.g k ty c).e,hx h (trB h.blks.length bs {t with g:=zbu t.g k ty c} js) ts):=by
  rw [zf0]
  have hF:=fun L hL=>zIv L h (trB h.blks.length bs t js) ts bs.length t.g k ty c hk (zz7 _ _ _ _) hL
  rw [ztF] at hF
  have htr:=zrO h.blks.length bs {t with g:=zbu t.g k ty c} js h ts
  have hl:=zbE h.blks.length bs t js
  have g1:=zv5 h.blks.length bs t js
  have h0:=zLQ h.blks.length bs.length t.tg
  generalize trB h.blks.length bs {t with g:=zbu t.g k ty c} js=B2 at*
  generalize trB h.blks.length bs t js=B at*
  generalize tC h.blks.length bs.length t.tg=tcs at*
  simp -implicitDefEqProofs [zbS,zam,zak,hl,g1,h0,zmB,zaa.okV,zaa.cells,zae,hF,hL,htr]
end Go.Av
namespace Go.Av
theorem zyX (n:Nat) (bs:List (List zaa)) (t:Tc) (js:List (List zaa)) (hh):(trB n bs t js)[bs.length+1]'hh=tC n bs.length t.tg:=(List.getElem?_eq_some_iff.1 (zv5 n bs t js)).2
theorem ztU (n:Nat) (bs:List (List zaa)) (t:Tc) (js:List (List zaa)) (x:List zaa) (hh):(trB n bs t (js++[x]))[bs.length+(4+js.length)]'hh=x:=(List.getElem?_eq_some_iff.1 (zxO n bs t js [x] 0)).2
theorem zLS {C:Ctx} {L:Lim} {h:zab} {f:FuncId} (v:zaa) (as:List zaa):zGV C L h (some ([(0,1,false)],f)) (.agg [v]) as=zag C L f (v :: as) h:=rfl
def zBg (t:Tc) (ty:Int) (b:List Int):Tc × Int:=
  if t.g.e=0 then
    if (zsK ty b.length).2=0 then
      if (zbu t.g 1 ty (zsK ty b.length).1).e=0 then
        if zHl ty b=0 then ({t with g:=zbu t.g 1 ty (zsK ty b.length).1,s:=zbH t.s (opB 1 ty (zsK ty b.length).1 b)},0)
        else ({t with g:=zcg (zbu t.g 1 ty (zsK ty b.length).1) (zHl ty b)},(zcg (zbu t.g 1 ty (zsK ty b.length).1) (zHl ty b)).e)
      else ({t with g:=zbu t.g 1 ty (zsK ty b.length).1},(zbu t.g 1 ty (zsK ty b.length).1).e)
    else ({t with g:=zcg t.g (zsK ty b.length).2},(zcg t.g (zsK ty b.length).2).e)
  else (t,t.g.e)
def zwv (t:Tc) (N:Int):(List Int × Int) × Tc:=
  if (zbu t.g 2 1 N).e=0 then ((zjy (zbH t.s (opB 2 1 N [])) N.toNat,0),{t with g:=zbu t.g 2 1 N,s:=zdl (zbH t.s (opB 2 1 N [])) N.toNat})
  else (([],(zbu t.g 2 1 N).e),{t with g:=zbu t.g 2 1 N})
def zmU (t:Tc) (N:Int):(List (List W64) × Int) × Tc:=
  if (zbu t.g 2 3 N).e=0 then
    if (zaD (zbH t.s (opB 2 3 N [])) N.toNat).1.2.2=0 then (((zaD (zbH t.s (opB 2 3 N [])) N.toNat).1.1,0),{t with g:=zbu t.g 2 3 N,s:=(zaD (zbH t.s (opB 2 3 N [])) N.toNat).2})
    else (([],(zcg (zbu t.g 2 3 N) (zaD (zbH t.s (opB 2 3 N [])) N.toNat).1.2.2).e),{t with g:=zcg (zbu t.g 2 3 N) (zaD (zbH t.s (opB 2 3 N [])) N.toNat).1.2.2,s:=(zaD (zbH t.s (opB 2 3 N [])) N.toNat).2})
  else (([],(zbu t.g 2 3 N).e),{t with g:=zbu t.g 2 3 N})
def zBl (t:Tc):Tc × Int:=
  if (zbu t.g 3 0 1).e=0 then ({t with g:=zbu t.g 3 0 1,s:=zEK (zbH t.s (opB 3 0 1 []))},0)
  else ({t with g:=zbu t.g 3 0 1},(zbu t.g 3 0 1).e)
theorem zx9 (L:Lim) (h:zab) (bs js:List (List zaa)) (ts:List Nat) (t:Tc) (N:Int) (hk:t.g.k < 1000000000) (hs:t.s.ok) (hc:t.s.c < 10000000) (ht:t.tg.length=32) (hn:(zbu t.g 2 1 N).e=0→N.toNat < 1000000) (hL:L.rob≤h.blks.length) (hT:L.rot≤h.toks.length):
    zag ctx L zaW [pA h.blks.length (bs.length+1) 0,.int .i64 N] (hx h (trB h.blks.length bs t js) ts)=some (.tup [.vsl false (eI .u8 (zwv t N).1.1),.int .i64 (zwv t N).1.2],hx h (trB h.blks.length bs (zwv t N).2 js) ts):=by
  rw [zfb]
  have hnx:=fun L hL x=>zq0 L h bs (js++[x]) ts t 2 1 N .nsl hk rfl hL
  have hte:=fun L hL x g=>zuw L h (trB h.blks.length bs {t with g:=g} (js++[x])) ts (bs.length+3) (bs.length+2) t.s hs 2 1 N [] .nsl (fun h=>by simp) rfl (fun i hi=>by simp at hi) (by simp) (by omega) (by rw [zbE];omega) (by rw [zbE];omega) (by omega) hL
  simp only [zrN] at hte
  have hq1:=zhr hs (zp4 2 1 N (b:=[]) (fun i hi=>by simp at hi))
  have hq2:=zsg hs (opB 2 1 N [])
  have hq3:=zHp 2 1 N (b:=[]) (by simp)
  have hq4:(opB 2 1 N []).length≤6:=by unfold opB;split <;> simp [znf]
  unfold zwv
  generalize zbH t.s (opB 2 1 N [])=q at*
  generalize zbu t.g 2 1 N=g1 at*
  have hby:=fun L hL hT x=>fun hn'=>zE7 L h (trB h.blks.length bs {t with g:=g1} (js++[x])) ts (bs.length+3) (bs.length+2) q hq1 N N.toNat rfl hn' (by omega) (by rw [zbE];omega) (by rw [zbE];omega) (by omega) hL hT
  simp only [zrN] at hby
  have hl:=zbE h.blks.length bs
  have g1':=fun g q js=>zv5 h.blks.length bs ⟨g,t.tg,q⟩ js
  have g2':=fun g q js hh=>zyX h.blks.length bs ⟨g,t.tg,q⟩ js hh
  simp only at g1' g2'
  have h0:=zFV h.blks.length bs.length t.tg ht
  have gw:=fun t x hh=>ztU h.blks.length bs t js x hh
  have sw:=fun t x v=>zof h.blks.length bs t js [x] 0 v
  have htr:=fun t w=>zr7 h.blks.length bs t js h ts w
  have happ:=fun t js w=>znl h.blks.length bs t js w
  simp only [Nat.add_zero,List.getElem?_cons_zero,List.set_cons_zero] at sw
  generalize tC h.blks.length bs.length t.tg=tcs at*
  by_cases he:g1.e=0
  · rw [if_pos he]
    have be:(g1.e==0)=true:=by simp [he]
    have hby1:=fun L hL hT x=>hby L hL hT x (hn he)
    simp -implicitDefEqProofs [zaY,zam,zak,hl,happ,g1',g2',h0,gw,sw,zay,setAt,zbB,zah,zan,zap,zaa.under,hL,hT,hnx,bne,be,hte,hby1,htr,zaf]
  · rw [if_neg he]
    have be:(g1.e==0)=false:=by simp [he]
    simp -implicitDefEqProofs [zaY,zam,zak,hl,happ,g1',g2',h0,gw,sw,zay,setAt,zbB,zah,zan,zap,zaa.under,hL,hT,hnx,bne,be,htr,zaf]
end Go.Av
namespace Go.Av
theorem zu3 (L:Lim) (h:zab) (bs js:List (List zaa)) (ts:List Nat) (t:Tc) (N:Int) (hk:t.g.k < 1000000000) (hs:t.s.ok) (hc:t.s.c < 10000000) (ht:t.tg.length=32) (hn:(zbu t.g 2 3 N).e=0→N.toNat < 10000) (hL:L.rob≤h.blks.length) (hT:L.rot≤h.toks.length):
    zag ctx L zaM [pA h.blks.length (bs.length+1) 0,.int .i64 N] (hx h (trB h.blks.length bs t js) ts)=some (.tup [.vsl false ((zmU t N).1.1.map cW),.int .i64 (zmU t N).1.2],hx h (trB h.blks.length bs (zmU t N).2 js) ts):=by
  rw [zeu]
  have hnx:=fun L hL x=>zq0 L h bs (js++[x]) ts t 2 3 N .nsl hk rfl hL
  have hte:=fun L hL x g=>zuw L h (trB h.blks.length bs {t with g:=g} (js++[x])) ts (bs.length+3) (bs.length+2) t.s hs 2 3 N [] .nsl (fun h=>by simp) rfl (fun i hi=>by simp at hi) (by simp) (by omega) (by rw [zbE];omega) (by rw [zbE];omega) (by omega) hL
  simp only [zrN] at hte
  have hq1:=zhr hs (zp4 2 3 N (b:=[]) (fun i hi=>by simp at hi))
  have hq2:=zsg hs (opB 2 3 N [])
  have hq4:(opB 2 3 N []).length≤6:=by unfold opB;split <;> simp [znf]
  unfold zmU
  generalize zbH t.s (opB 2 3 N [])=q at*
  generalize zbu t.g 2 3 N=g1 at*
  have hby:=fun L hL hT x=>fun hn'=>zCi L h (trB h.blks.length bs {t with g:=g1} (js++[x])) ts (bs.length+3) (bs.length+2) q hq1 N N.toNat rfl hn' (by omega) (by rw [zbE];omega) (by rw [zbE];omega) (by omega) hL hT
  simp only [zrN] at hby
  have hun:=fun nb nt=>zva nb nt (zaD q N.toNat).1.1
  generalize zaD q N.toNat=E at*
  obtain ⟨⟨l,tr,er⟩,q2⟩:=E
  simp only at*
  have hFa:=fun L hL x e=>zrU L h (trB h.blks.length bs ⟨g1,t.tg,q2⟩ (js++[x])) ts bs.length g1 e (zz7 _ _ _ _) hL
  simp only [ztF] at hFa
  have hl:=zbE h.blks.length bs
  have g1':=fun g q js=>zv5 h.blks.length bs ⟨g,t.tg,q⟩ js
  have g2':=fun g q js hh=>zyX h.blks.length bs ⟨g,t.tg,q⟩ js hh
  simp only at g1' g2'
  have h0:=zFV h.blks.length bs.length t.tg ht
  have h00:=zLQ h.blks.length bs.length t.tg
  have gw:=fun t x hh=>ztU h.blks.length bs t js x hh
  have sw:=fun t x v=>zof h.blks.length bs t js [x] 0 v
  have htr:=fun t w=>zr7 h.blks.length bs t js h ts w
  have happ:=fun t js w=>znl h.blks.length bs t js w
  simp only [Nat.add_zero,List.getElem?_cons_zero,List.set_cons_zero] at sw
  generalize tC h.blks.length bs.length t.tg=tcs at*
  by_cases he:g1.e=0
  · rw [if_pos he]
    have be:(g1.e==0)=true:=by simp [he]
    have hby1:=fun L hL hT x=>hby L hL hT x (hn he)
    clear hby
    by_cases her:er=0
    · rw [if_pos her]
      have ber:(er==0)=true:=by simp [her]
      have hfz:=fun hh nb nt m=>zhO hh nb nt m false (hun nb nt)
      simp only
      generalize l.map cW=lw at*
      simp -implicitDefEqProofs [zaC,zam,zak,hl,happ,g1',g2',h0,gw,sw,zay,setAt,zbB,zah,zan,zap,zaa.under,hL,hT,hnx,bne,be,hte,hby1,ber,hfz,htr,zaf]
    · rw [if_neg her]
      have ber:(er==0)=false:=by simp [her]
      generalize l.map cW=lw at*
      simp -implicitDefEqProofs [zaC,zam,zak,hl,happ,g1',g2',h0,h00,gw,sw,zay,setAt,zbB,zah,zan,zap,zaa.under,hL,hT,hnx,bne,be,hte,hby1,ber,hFa,htr,zaf]
  · rw [if_neg he]
    have be:(g1.e==0)=false:=by simp [he]
    simp -implicitDefEqProofs [zaC,zam,zak,hl,happ,g1',g2',h0,gw,sw,zay,setAt,zbB,zah,zan,zap,zaa.under,hL,hT,hnx,bne,be,htr,zaf]
theorem zyb (L:Lim) (h:zab) (bs js:List (List zaa)) (ts:List Nat) (t:Tc) (hk:t.g.k < 1000000000) (hs:t.s.ok) (hc:t.s.c < 10000000) (ht:t.tg.length=32) (hL:L.rob≤h.blks.length):
    zag ctx L zaX [pA h.blks.length (bs.length+1) 0] (hx h (trB h.blks.length bs t js) ts)=some (.int .i64 (zBl t).2,hx h (trB h.blks.length bs (zBl t).1 js) ts):=by
  rw [zfc]
  have hnx:=fun L hL x=>zq0 L h bs (js++[x]) ts t 3 0 1 .nsl hk rfl hL
  have hte:=fun L hL x g=>zuw L h (trB h.blks.length bs {t with g:=g} (js++[x])) ts (bs.length+3) (bs.length+2) t.s hs 3 0 1 [] .nsl (fun h=>by simp) rfl (fun i hi=>by simp at hi) (by simp) (by omega) (by rw [zbE];omega) (by rw [zbE];omega) (by omega) hL
  simp only [zrN] at hte
  have hq1:=zhr hs (zp4 3 0 1 (b:=[]) (fun i hi=>by simp at hi))
  have hq2:=zsg hs (opB 3 0 1 [])
  have hq4:(opB 3 0 1 []).length≤6:=by unfold opB;split <;> simp [znf]
  unfold zBl
  generalize zbH t.s (opB 3 0 1 [])=q at*
  generalize zbu t.g 3 0 1=g1 at*
  have hby:=fun L hL x=>zxI L h (trB h.blks.length bs {t with g:=g1} (js++[x])) ts (bs.length+3) (bs.length+2) q hq1 (by omega) (by rw [zbE];omega) (by rw [zbE];omega) (by omega) hL
  simp only [zrN] at hby
  generalize zEK q=q2 at*
  have hl:=zbE h.blks.length bs
  have g1':=fun g q js=>zv5 h.blks.length bs ⟨g,t.tg,q⟩ js
  have g2':=fun g q js hh=>zyX h.blks.length bs ⟨g,t.tg,q⟩ js hh
  simp only at g1' g2'
  have h0:=zFV h.blks.length bs.length t.tg ht
  have gw:=fun t x hh=>ztU h.blks.length bs t js x hh
  have sw:=fun t x v=>zof h.blks.length bs t js [x] 0 v
  have htr:=fun t w=>zr7 h.blks.length bs t js h ts w
  have happ:=fun t js w=>znl h.blks.length bs t js w
  simp only [Nat.add_zero,List.getElem?_cons_zero,List.set_cons_zero] at sw
  generalize tC h.blks.length bs.length t.tg=tcs at*
  by_cases he:g1.e=0
  · rw [if_pos he]
    have be:(g1.e==0)=true:=by simp [he]
    simp -implicitDefEqProofs [zaZ,zam,zak,hl,happ,g1',g2',h0,gw,sw,zay,setAt,zbB,zah,zan,zap,zaa.under,hL,hnx,bne,be,hte,hby,zLS,htr,zaf]
    try exact he
  · rw [if_neg he]
    have be:(g1.e==0)=false:=by simp [he]
    simp -implicitDefEqProofs [zaZ,zam,zak,hl,happ,g1',g2',h0,gw,sw,zay,setAt,zbB,zah,zan,zap,zaa.under,hL,hnx,bne,be,htr,zaf]
theorem zAu (L:Lim) (h:zab) (bs js:List (List zaa)) (ts:List Nat) (t:Tc) (ty:Int) (c:Bool) (b:List Int) (hb:inB b) (hbl:b.length < 10000000) (hk:t.g.k < 1000000000) (hs:t.s.ok) (hc:t.s.c < 10000000) (ht:t.tg.length=32) (hL:L.rob≤h.blks.length):
    zag ctx L za4 [pA h.blks.length (bs.length+1) 0,.int .i64 ty,.vsl c (eI .u8 b)] (hx h (trB h.blks.length bs t js) ts)=some (.int .i64 (zBg t ty b).2,hx h (trB h.blks.length bs (zBg t ty b).1 js) ts):=by
  rw [zfr]
  have hEr:=fun L hL=>zIJ L h bs js ts t hL
  have hCn:=fun L h=>zrq L h ty c b (by omega)
  have hCk:=fun L h=>zBZ L h ty c b hb (by omega)
  have hF0:=fun L hL e=>zrU L h (trB h.blks.length bs t js) ts bs.length t.g e (zz7 _ _ _ _) hL
  simp only [ztF] at hF0
  unfold zBg
  generalize zsK ty b.length=cn at*
  obtain ⟨n,e1⟩:=cn
  simp only at*
  have hnx:=fun L hL x=>zq0 L h bs (js++[x]) ts t 1 ty n (.vsl c (eI .u8 b)) hk rfl hL
  have hte:=fun L hL x g=>zuw L h (trB h.blks.length bs {t with g:=g} (js++[x])) ts (bs.length+3) (bs.length+2) t.s hs 1 ty n b (.vsl c (eI .u8 b)) (fun h=>by simp) rfl hb hbl (by omega) (by rw [zbE];omega) (by rw [zbE];omega) (by omega) hL
  simp only [zrN] at hte
  generalize zbH t.s (opB 1 ty n b)=q at*
  generalize zbu t.g 1 ty n=g1 at*
  have hF1:=fun L hL x e=>zrU L h (trB h.blks.length bs ⟨g1,t.tg,t.s⟩ (js++[x])) ts bs.length g1 e (zz7 _ _ _ _) hL
  simp only [ztF] at hF1
  generalize zHl ty b=e2 at*
  have hl:=zbE h.blks.length bs
  have g1':=fun g q js=>zv5 h.blks.length bs ⟨g,t.tg,q⟩ js
  have g2':=fun g q js hh=>zyX h.blks.length bs ⟨g,t.tg,q⟩ js hh
  simp only at g1' g2'
  have h0:=zFV h.blks.length bs.length t.tg ht
  have h00:=zLQ h.blks.length bs.length t.tg
  have gw:=fun t x hh=>ztU h.blks.length bs t js x hh
  have sw:=fun t x v=>zof h.blks.length bs t js [x] 0 v
  have htr:=fun t w=>zr7 h.blks.length bs t js h ts w
  have htr0:=fun t=>zrO h.blks.length bs t js h ts
  have happ:=fun t js w=>znl h.blks.length bs t js w
  simp only [Nat.add_zero,List.getElem?_cons_zero,List.set_cons_zero] at sw
  generalize tC h.blks.length bs.length t.tg=tcs at*
  obtain ⟨g0,tg,s0⟩:=t
  simp only at*
  by_cases hg0:g0.e=0
  · rw [if_pos hg0]
    have bg:(g0.e==0)=true:=by simp [hg0]
    by_cases h1:e1=0
    · rw [if_pos h1]
      have b1:(e1==0)=true:=by simp [h1]
      by_cases hg1:g1.e=0
      · rw [if_pos hg1]
        have bg1:(g1.e==0)=true:=by simp [hg1]
        by_cases h2:e2=0
        · rw [if_pos h2]
          have b2:(e2==0)=true:=by simp [h2]
          simp -implicitDefEqProofs [zat,zam,zak,hl,happ,hEr,hCn,hCk,g1',g2',h0,gw,sw,zay,setAt,zbB,zah,zan,zap,zaa.under,hL,hnx,bne,bg,b1,bg1,b2,hte,htr,htr0,zaf]
        · rw [if_neg h2]
          have b2:(e2==0)=false:=by simp [h2]
          simp -implicitDefEqProofs [zat,zam,zak,hl,happ,hEr,hCn,hCk,g1',g2',h0,h00,gw,sw,zay,setAt,zbB,zah,zan,zap,zaa.under,hL,hnx,bne,bg,b1,bg1,b2,hF1,htr,htr0,zaf]
      · rw [if_neg hg1]
        have bg1:(g1.e==0)=false:=by simp [hg1]
        simp -implicitDefEqProofs [zat,zam,zak,hl,happ,hEr,hCn,hCk,g1',g2',h0,gw,sw,zay,setAt,zbB,zah,zan,zap,zaa.under,hL,hnx,bne,bg,b1,bg1,htr,htr0,zaf]
    · rw [if_neg h1]
      have b1:(e1==0)=false:=by simp [h1]
      simp -implicitDefEqProofs [zat,zam,zak,hl,happ,hEr,hCn,hCk,g1',g2',h0,h00,hL,bne,bg,b1,hF0,htr,htr0,zaf]
  · rw [if_neg hg0]
    have bg:(g0.e==0)=false:=by simp [hg0]
    simp -implicitDefEqProofs [zat,zam,zak,hl,happ,hEr,bne,bg,hL,htr,htr0]
end Go.Av
namespace Go.Av
def zBm:List Int:=[97,118,111,117,99,104,47,116,114,97,110,115,99,114,105,112,116,47,49]
def zu5:List Int:=tab 32 fun _=>0
def zyd (b:Int) (l:List It):List Int × Int × Int:=
  if b≠1∧b≠2 then (zu5, -1,15)
  else if (znL l 0 []).2.2≠0 then (zu5,(znL l 0 []).2.1,(znL l 0 []).2.2)
  else (zIC (zBm++([IntKind.u8.wrap b]++(znL l 0 []).1)), -1,0)
theorem ztV:∀ (l:List It) (k:Nat) (out:List Int),(znL l k out).1.length≤out.length+l.length*1000008
  | [],k,out=>by simp [znL]
  | x :: l, k, out => by
    rw [znL]
    split
    · simp
    · split
      · rename_i hc
        have h1:=ztV l (k+1) (out++zHG x)
        have h2:=(zoX hc).2.2.2.2.2.2
        simp only [List.length_append,zGO,List.length_cons] at h1 ⊢
        omega
      · simp
theorem zwB:[zaa.int .u8 97,zaa.int .u8 118,zaa.int .u8 111,zaa.int .u8 117,zaa.int .u8 99,zaa.int .u8 104,zaa.int .u8 47,zaa.int .u8 116,zaa.int .u8 114,zaa.int .u8 97,zaa.int .u8 110,zaa.int .u8 115,zaa.int .u8 99,zaa.int .u8 114,zaa.int .u8 105,zaa.int .u8 112,zaa.int .u8 116,zaa.int .u8 47,zaa.int .u8 49]=cI .u8 zBm:=rfl
theorem zwD (L:Lim) (h:zab) (z:List zaa) (b:Int) (r:List Int) (hr:r.length < 200000000000):
    zag ctx L zgA [.vsl true [[sA h.blks.length 1 0 1 19 (some 19)],[.vsl true (eI .u8 [b])],[.vsl false (eI .u8 r)]]] (hx h [z,cI .u8 zBm] [])=some (.agg (cI .u8 (zIC (zBm++([b]++r)))),hx h [z,cI .u8 zBm] []):=by
  have h1 := zID L (hx h [z, cI .u8 zBm] []) true [(sA h.blks.length 1 0 1 19 (some 19), zBm), (.vsl true (eI .u8 [b]), [b]), (.vsl false (eI .u8 r), r)] (by simp) (by
    intro p hp
    simp only [List.mem_cons,List.not_mem_nil,or_false] at hp
    rcases hp with rfl | rfl | rfl
    · exact ⟨RdI.sA [] .u8 1 19 _ zBm rfl (by simp),by simp [zBm]⟩
    · exact ⟨RdI.vsl _ .u8 true [b],by simp⟩
    · exact ⟨RdI.vsl _ .u8 false r,hr⟩)
  have h2:msg [(sA h.blks.length 1 0 1 19 (some 19),zBm),(.vsl true (eI .u8 [b]),[b]),(.vsl false (eI .u8 r),r)]=zBm++([b]++r):=by simp [msg]
  rw [h2] at h1
  exact h1
@[simp] theorem zNM (l:List Int):(zIC l).length=32:=by
  obtain ⟨c1,c2⟩:=zjh l (q:=(tab 25 fun _=>0#64,0)) (by simp) (by simp)
  simp [zIC,zIA,zes,c1]
theorem zMb (L:Lim) (h:zab) (b:Int) (l:List It) (hn:l.length≤2000):
    zag ctx L zov [.int .i64 b,.vsl false (l.map It.cells)] h=some (.tup [.agg (cI .u8 (zyd b l).1),.int .i64 (zyd b l).2.1,.int .i64 (zyd b l).2.2],h):=by
  rw [zwg]
  have hser:=fun L h=>zLE L h l hn
  by_cases hb:b≠1∧b≠2
  · have e1 : zyd b l = (zu5, -1, 15) := by unfold zyd; rw [if_pos hb]
    rw [e1]
    simp [zh6, -List.map_take,zau,zgf,bne,beq_false_of_ne hb.1,beq_false_of_ne hb.2,zay,zbB,zah,zaf,zu5]
  · have hb' : b = 1 ∨ b = 2 := by omega
    by_cases h0:(znL l 0 []).2.2=0
    · have e1 : zyd b l = (zIC (zBm ++ ([IntKind.u8.wrap b] ++ (znL l 0 []).1)), -1, 0) := by unfold zyd; rw [if_neg hb, if_neg (by simpa using h0)]
      rw [e1]
      have hlen:(znL l 0 []).1.length < 200000000000:=by
        have:=ztV l 0 [];simp at this;omega
      rcases hb' with rfl | rfl
      · simp [zh6, -List.map_take,zau,zgf,hser,h0,zay,rep,chunks,zhS,zwB,zwD,hlen,zbB,zah,zaf]
      · simp [zh6, -List.map_take,zau,zgf,hser,h0,zay,rep,chunks,zhS,zwB,zwD,hlen,zbB,zah,zaf]
    · have e1 : zyd b l = (zu5, (znL l 0 []).2.1, (znL l 0 []).2.2) := by unfold zyd; rw [if_neg hb, if_pos h0]
      rw [e1]
      have b0:((znL l 0 []).2.2==0)=false:=beq_false_of_ne h0
      rcases hb' with rfl | rfl
      · simp [zh6, -List.map_take,zau,zgf,hser,bne,b0,zay,zbB,zah,zaf,zu5]
      · simp [zh6, -List.map_take,zau,zgf,hser,bne,b0,zay,zbB,zah,zaf,zu5]
end Go.Av
namespace Go.Av
@[irreducible] def zDs (p:List Int):List Int:=(zyd 1 (ziv p).1).1
theorem zyg (p:List Int):zDs p=(zyd 1 (ziv p).1).1:=by unfold zDs;exact rfl
def zBn (p:List Int):Tc:=⟨zI7 p,zDs p,zyF (zDs p)⟩
theorem zwJ (l:List It):(zyd 1 l).1.length=32:=by
  unfold zyd
  split
  · simp [zu5]
  · split
    · simp [zu5]
    · simp
theorem zu6 (p:List Int):(zDs p).length=32:=by rw [zyg];exact zwJ _
theorem zzh:∀ (f:Nat) (b:List Int) (k:Nat) (acc:List It),k≤1024→acc.length≤k→(zDj f b k acc).1.length≤1024
  | 0,b,k,acc,hk,ha=>by simp [zDj];omega
  | f + 1, b, k, acc, hk, ha => by
    unfold zDj
    split
    · simp only;omega
    · split
      · simp
      · split
        · exact zzh f _ (k+1) _ (by omega) (by simp;omega)
        · simp
theorem zzi (b:List Int):(ziv b).1.length≤1024:=zzh _ _ _ _ (by omega) (by simp)
theorem zpR (L:Lim) (h:zab) (bs:List (List zaa)) (ts:List Nat) (i off:Nat) (cs:List zaa) (h1:(decide (L.rob≤h.blks.length)&&decide (L.nb≤h.blks.length+i))=true):
    zcu L (hx h bs ts) (pA h.blks.length i off) cs=stO h bs ts i off cs bs[i]?:=by
  simp only [Bool.and_eq_true,decide_eq_true_eq] at h1
  unfold zcu pA stO stI hx
  simp only
  rw [List.getElem?_append_right (Nat.le_add_right _ _),Nat.add_sub_cancel_left]
  cases bs[i]? with
  | none=>rfl
  | some old=>
    simp only [Option.bind_some]
    by_cases hc:off+cs.length≤old.length
    · rw [if_pos ⟨by omega, hc, .inl (by omega)⟩, if_pos (by simpa using hc)]
      rw [List.set_append_right _ _ (Nat.le_add_right _ _),Nat.add_sub_cancel_left]
    · rw [if_neg (fun h=>hc h.2.1),if_neg (by simpa using hc)]
def z32:List Int:=tab 32 fun _=>0
def tC0 (n B:Nat) (tg:List Int):List zaa:=pA n B 0 :: (cI .u8 tg++[.nif])
theorem zDx (n B:Nat) {tg:List Int} (h:tg.length=32):(tC0 n B tg).length=34:=by simp [tC0,h]
theorem zJi (n B:Nat) {tg tg':List Int} (h:tg.length=32) (h':tg'.length=32):setAt (tC0 n B tg) 1 (cI .u8 tg')=tC0 n B tg':=by
  rw [zsz _ _ _ (by simp [tC0,h,h'])]
  unfold putAt tC0
  rw [List.take_succ_cons,List.take_zero]
  have:(pA n B 0 :: (cI .u8 tg++[zaa.nif])).drop (1+(cI .u8 tg').length)=[.nif]:=by
    rw [show 1+(cI .u8 tg').length=32+1 by simp [h'],List.drop_succ_cons,List.drop_left' (by simp [h])]
  rw [this]
  rfl
theorem zGr (n B:Nat) {tg:List Int} (h:tg.length=32):setAt (tC0 n B tg) 33 [.iface 109 (.agg [pA n (B+3) 0])]=tC n B tg:=by
  rw [zsz _ _ _ (by simp [tC0,h])]
  unfold putAt tC0 tC
  rw [show 33=32+1 from rfl,List.take_succ_cons,List.take_left' (by simp [h])]
  have:(pA n B 0 :: (cI .u8 tg++[zaa.nif])).drop (32+1 + [zaa.iface 109 (.agg [pA n (B+3) 0])].length)=[]:=by
    rw [List.drop_eq_nil_iff];simp [h]
  rw [this]
  simp
theorem zO7 (n B:Nat) {tg:List Int} (h:tg.length=32):zdZ true (tC0 n B tg) 1 32=some (.agg (cI .u8 tg)):=by
  have:((tC0 n B tg).drop 1).take 32=cI .u8 tg:=by
    unfold tC0
    rw [List.drop_one,List.tail_cons,List.take_left' (by simp [h])]
  unfold zdZ
  rw [if_pos rfl,if_pos (by simp [tC0,h]),this]
theorem zMr (L:Lim) (h:zab) (p:zaa) (t:TypeId) (v:zaa):stK L h 1 p (.iface t v)=stM (zcu L h p [.iface t v]):=by simp [stK,zaa.cells,zaa.okV]
theorem zJl (L:Lim) (h:zab) (bs:List (List zaa)) (ts:List Nat) (c:Bool) (p:List Int) (hp:inB p) (hl:p.length < 1000000000) (hL:L.rob≤h.blks.length) (hnb:L.nb≤h.blks.length+bs.length):
    zag ctx L zdc [.int .i64 1,.vsl c (eI .u8 p)] (hx h bs ts)=
      if (ziv p).2.2=0 then some (.tup [pA h.blks.length (bs.length+1) 0,.int .i64 (-1),.int .i64 0],hx h (trB h.blks.length bs (zBn p) []) ts)
      else some (.tup [.nilp,.int .i64 (ziv p).2.1,.int .i64 (ziv p).2.2],hx h bs ts):=by
  rw [zhR]
  have hG:=fun L=>zI8 L h bs ts c p hp hl
  have hpl:=zzi p
  have hTg:=fun L h=>zMb L h 1 (ziv p).1 (by omega)
  rw [← zyg] at hTg
  have htl:=zu6 p
  have hIt:=fun L H b hb=>zDr L H (.ptr b 0) b (zI7 p) rfl hb (by show (ziv p).1.length < _;omega)
  have hng:(zI7 p).l=(ziv p).1:=rfl
  rw [hng] at hIt
  by_cases he:(ziv p).2.2=0
  · rw [if_pos he]
    simp only [if_pos he] at hG
    have hB:trB h.blks.length bs (zBn p) []=bs++[guC (zI7 p),tC h.blks.length bs.length (zDs p),cI .u8 (zyF (zDs p)).S,spO h.blks.length (bs.length+2) (zyF (zDs p))]:=by simp [trB,trW,zBn]
    rw [hB]
    generalize zyd 1 (ziv p).1=tgl at*
    have hOf:=fun L hL w=>zyi L h (bs++w) ts (zDs p) htl hL
    generalize zDs p=tg at*
    generalize (ziv p).1.map It.cells=its at*
    generalize zI7 p=g at*
    have hfill:zay [zaa.nilp,.int .u8 0,.int .u8 0,.int .u8 0,.int .u8 0,.int .u8 0,.int .u8 0,.int .u8 0,.int .u8 0,.int .u8 0,.int .u8 0,.int .u8 0,.int .u8 0,.int .u8 0,.int .u8 0,.int .u8 0,.int .u8 0,.int .u8 0,.int .u8 0,.int .u8 0,.int .u8 0,.int .u8 0,.int .u8 0,.int .u8 0,.int .u8 0,.int .u8 0,.int .u8 0,.int .u8 0,.int .u8 0,.int .u8 0,.int .u8 0,.int .u8 0,.int .u8 0,.nif] [(0,1,pA h.blks.length bs.length 0)]=some (tC0 h.blks.length bs.length z32):=rfl
    have hzl:z32.length=32:=by simp [z32]
    have l1:=zDx h.blks.length bs.length hzl
    have l2:=zDx h.blks.length bs.length htl
    have s1:=zJi h.blks.length bs.length hzl htl
    have s2:=zGr h.blks.length bs.length htl
    have p1:=zO7 h.blks.length bs.length htl
    have hfif:zay [zaa.nilp] [(0,1,pA h.blks.length (bs.length+3) 0)]=some [pA h.blks.length (bs.length+3) 0]:=rfl
    have gb:∀ w:List (List zaa),(bs++w)[bs.length+1]?=w[1]?:=fun w=>zdm bs w bs.length 1 rfl
    have gb0:∀ w:List (List zaa),(bs++w)[bs.length]?=w[0]?:=fun w=>zdm bs w bs.length 0 rfl
    have sb:∀ (w:List (List zaa)) v,(bs++w).set (bs.length+1) v=bs++w.set 1 v:=fun w v=>zeI bs w bs.length 1 v rfl
    have hst:=fun w off cs=>zpR L h (bs++w) ts (bs.length+1) off cs (by simp only [Bool.and_eq_true,decide_eq_true_eq];exact ⟨hL,by omega⟩)
    simp only [List.length_append,List.length_cons,List.length_nil] at hOf
    have hgi:∀ w:List (List zaa),w[0]?=some (guC g)→∀ L,zag ctx L zb6 [pA h.blks.length bs.length 0] (hx h (bs++w) ts)=some (.vsl false its,hx h (bs++w) ts):=fun w hw L=>hIt L _ (h.blks.length+bs.length) (zy5 ts (by rw [gb0,hw]))
    generalize tC0 h.blks.length bs.length z32=T0 at*
    generalize tC0 h.blks.length bs.length tg=T1 at*
    generalize tC h.blks.length bs.length tg=T2 at*
    simp -implicitDefEqProofs [zdf,hG,hTg,hgi,hfill,hfif,zd9,zI5,zDo,gb,gb0,sb,hst,zbB,zah,zMr,l1,l2,s1,s2,p1,hOf,hL,htl]
  · rw [if_neg he]
    simp only [if_neg he] at hG
    have be:((ziv p).2.2==0)=false:=by simp [he]
    simp -implicitDefEqProofs [zdf,hG,bne,be]
end Go.Av
namespace Go.Av
def p0:List Int:=[1,1,1,0,0,0,0,0,2,1,32,0,0,0,0,0]
end Go.Av
namespace Go.Av
structure Tc.ok (t:Tc):Prop where
  s:t.s.ok
  tg:t.tg.length=32
  l:t.g.l.length≤1024
  k:t.g.k≤t.g.l.length
  cnt:∀ x∈t.g.l,x.count≤1048576
theorem zpU {g:Gd} {k t c:Int} (h:(zbu g k t c).e=0):zdE g k t c=true:=by
  rw [zxW] at h
  cases hn:zdE g k t c with
  | true=>rfl
  | false=>
    rw [hn] at h
    simp only [Bool.false_eq_true,if_false] at h
    unfold zcg at h
    split at h
    · simp at h
    · contradiction
theorem zvg {g:Gd} {k t c:Int} (h:zdE g k t c=true):g.k < g.l.length∧(gd g.l ⟨0,0,0,⟨#[]⟩⟩ g.k).count=c:=by
  unfold zdE zwc at h
  simp only [Bool.and_eq_true,decide_eq_true_eq,beq_iff_eq] at h
  exact ⟨h.1,h.2.2.2⟩
theorem zJv {g:Gd} (k t c:Int) (h:g.k≤g.l.length):(zbu g k t c).k≤(zbu g k t c).l.length:=by
  rw [zhQ]
  have hd:zbu g k t c=if (zcg g (if zdE g k t c then 0 else 10)).e=0 then {zcg g (if zdE g k t c then 0 else 10) with k:=g.k+1} else zcg g (if zdE g k t c then 0 else 10):=rfl
  by_cases h0:(zcg g (if zdE g k t c then 0 else 10)).e=0
  · have h1 : (zbu g k t c).e = 0 := by rw [zxW]; exact h0
    have:=(zvg (zpU h1)).1
    rw [hd,if_pos h0]
    simp only;omega
  · rw [hd,if_neg h0,(zhP _ _).2];exact h
theorem zwV {α:Type} {l:List α} {d:α} {i:Nat} (h:i < l.length):gd l d i∈l:=by
  have:gd l d i=l[i]:=by simp [gd,List.getD,h]
  rw [this];exact List.getElem_mem h
theorem Tc.ok.next {t:Tc} (h:t.ok) (k ty c:Int) (q:Sp) (hq:q.ok):Tc.ok {t with g:=zbu t.g k ty c,s:=q}:=
  ⟨hq,h.tg,by simp only [zhQ];exact h.l,zJv k ty c h.k,by simp only [zhQ];exact h.cnt⟩
theorem Tc.ok.fail {t:Tc} (h:t.ok) (e:Int):Tc.ok {t with g:=zcg t.g e}:=
  ⟨h.s,h.tg,by simp only [(zhP _ _).1];exact h.l,by simp only [(zhP _ _).1,(zhP _ _).2];exact h.k,by simp only [(zhP _ _).1];exact h.cnt⟩
theorem Tc.ok.count {t:Tc} (h:t.ok) {k ty c:Int} (hn:(zbu t.g k ty c).e=0):c≤1048576:=by
  obtain ⟨h1,h2⟩:=zvg (zpU hn)
  rw [← h2]
  exact h.cnt _ (zwV h1)
theorem zq6 {s:Sp} (hs:s.ok) (k t c:Int) (b:List Int):(zbH s (opB k t c b)).c≤s.c+b.length+7:=by
  have h1:=zsg hs (opB k t c b)
  have h2:(opB k t c b).length≤6+b.length:=by unfold opB;split <;> simp [znf];omega
  omega
theorem zJy {t:Tc} (h:t.ok) (ty:Int) {b:List Int} (hb:inB b):(zBg t ty b).1.ok∧(zBg t ty b).1.s.c≤t.s.c+b.length+7:=by
  unfold zBg
  split
  · split
    · split
      · split
        · exact ⟨h.next _ _ _ _ (zhr h.s (zp4 _ _ _ hb)),zq6 h.s _ _ _ _⟩
        · exact ⟨(h.next _ _ _ _ h.s).fail _,by simp only;omega⟩
      · exact ⟨h.next _ _ _ _ h.s,by simp only;omega⟩
    · exact ⟨h.fail _,by simp only;omega⟩
  · exact ⟨h,by simp only;omega⟩
theorem zyr:inB []:=fun i hi=>by simp at hi
theorem zDQ {t:Tc} (h:t.ok) (N:Int):(zwv t N).2.ok∧(zwv t N).2.s.c≤t.s.c+N.toNat+7:=by
  unfold zwv
  have h1:=zhr h.s (zp4 2 1 N zyr)
  have h2:=zq6 h.s 2 1 N []
  have h3:=zr6 (zbH t.s (opB 2 1 N [])) N.toNat
  simp only [List.length_nil] at h2
  split
  · exact ⟨h.next _ _ _ _ (zmc h1 _),by simp only;omega⟩
  · exact ⟨h.next _ _ _ _ h.s,by simp only;omega⟩
theorem zAS {s:Sp} (h:s.ok) (n:Nat):(zaD s n).2.ok∧(zaD s n).2.c≤s.c+2048*n:=zzm n [] 0 h
theorem zDT {t:Tc} (h:t.ok) (N:Int):(zmU t N).2.ok∧(zmU t N).2.s.c≤t.s.c+2048*N.toNat+7:=by
  unfold zmU
  have h1:=zhr h.s (zp4 2 3 N zyr)
  have h2:=zq6 h.s 2 3 N []
  have h3:=zAS h1 N.toNat
  simp only [List.length_nil] at h2
  split
  · split
    · exact ⟨h.next _ _ _ _ h3.1,by simp only;omega⟩
    · exact ⟨(h.next _ _ _ _ h3.1).fail _,by simp only;omega⟩
  · exact ⟨h.next _ _ _ _ h.s,by simp only;omega⟩
theorem zJB {t:Tc} (h:t.ok):(zBl t).1.ok∧(zBl t).1.s.c≤t.s.c+8:=by
  unfold zBl
  have h1:=zhr h.s (zp4 3 0 1 zyr)
  have h2:=zq6 h.s 3 0 1 []
  have h3:(zEK (zbH t.s (opB 3 0 1 []))).c=(zbH t.s (opB 3 0 1 [])).c+1:=rfl
  simp only [List.length_nil] at h2
  split
  · exact ⟨h.next _ _ _ _ (zJ5 h1),by simp only;omega⟩
  · exact ⟨h.next _ _ _ _ h.s,by simp only;omega⟩
theorem zJC {t:Tc} (h:t.ok):Tc.ok {t with g:=zxs t.g}:=h.fail _
theorem zGP {b:List Int} (h:(zsQ b).2.2=0):(zsQ b).1.count≤1048576:=by
  unfold zsQ at h ⊢
  split at h
  · simp at h
  · split at h
    · next h1 h2=>
      rw [if_neg h1,if_pos h2]
      exact (zoX h2).2.2.2.2.2.1
    · next h1 h2=>exact absurd h h2
theorem zyG:∀ (f:Nat) (b:List Int) (k:Nat) (acc:List It),(∀ x∈acc,x.count≤1048576)→∀ x∈(zDj f b k acc).1,x.count≤1048576
  | 0,b,k,acc,h=>h
  | f + 1, b, k, acc, h => by
    unfold zDj
    split
    · exact h
    · split
      · intro x hx;simp at hx
      · split
        · next he=>
          refine zyG f _ _ _ ?_
          intro x hx
          rcases List.mem_append.1 hx with h1 | h1
          · exact h x h1
          · rw [List.mem_singleton.1 h1];exact zGP he
        · intro x hx;simp at hx
theorem zHR (p:List Int):inB (zDs p):=by
  rw [zyg]
  unfold zyd
  split
  · exact zrd 32
  · split
    · exact zrd 32
    · exact zl8 (zud _) 32
theorem zHS (p:List Int) (hp:inB p):(zBn p).ok:=
  ⟨zJ8 (by rw [zu6];decide) (zHR p),zu6 p,zzi p,Nat.zero_le _,zyG _ _ _ _ (by simp)⟩
theorem zKW (p:List Int):(zBn p).s.c=0:=rfl
theorem zBz (s:Sp) (k:Nat):zvE 0 s k=((zE,64,11),s):=by rw [zvE]
theorem zBA (f:Nat) (s:Sp) (k:Nat):zvE (f+1) s k=if leN (zz8 (zjy s 32)) < pN then ((fe (leN (zz8 (zjy s 32))),(k:Int)+1,0),zdl s 32) else zvE f (zdl s 32) (k+1):=by rw [zvE]
theorem zHV (f:Nat):∀ (s:Sp) (k:Nat),(zvE f s k).1.2.2=0→∃ x,(zvE f s k).1.1=fe x:=by
  induction f with
  | zero=>
    intro s k h
    rw [zBz] at h
    exact absurd h (by simp)
  | succ f ih=>
    intro s k h
    rw [zBA] at h ⊢
    by_cases h0:leN (zz8 (zjy s 32)) < pN
    · rw [if_pos h0];exact ⟨leN (zz8 (zjy s 32)),by simp only⟩
    · rw [if_neg h0] at h ⊢
      exact ih _ _ h
theorem zyI:∀ (n:Nat) (s:Sp) (acc:List (List W64)) (t:Int),(∀ f∈acc,∃ x,f=fe x)→∀ f∈(zjR n s acc t).1.1,∃ x,f=fe x
  | 0,s,acc,t,h=>h
  | n + 1, s, acc, t, h => by
    unfold zjR
    split
    · next h0=>
      refine zyI n _ _ _ ?_
      intro f hf
      rcases List.mem_append.1 hf with h1 | h1
      · exact h f h1
      · rw [List.mem_singleton.1 h1]
        rw [zoO] at h0 ⊢
        exact zHV 64 s 0 h0
    · intro f hf;simp at hf
theorem zHW (t:Tc) (N:Int):∀ f∈(zmU t N).1.1,∃ x,f=fe x:=by
  unfold zmU
  split
  · split
    · exact zyI _ _ _ _ (by simp)
    · intro f hf;simp at hf
  · intro f hf;simp at hf
theorem zBF:∀ l:List (List W64),(∀ f∈l,∃ x,f=fe x)→∃ xs:List Nat,l=xs.map fe
  | [],_=>⟨[],rfl⟩
  | f :: l, h => by
    obtain ⟨x,rfl⟩:=h f (by simp)
    obtain ⟨xs,rfl⟩:=zBF l fun g hg=>h g (by simp [hg])
    exact ⟨x :: xs,rfl⟩
theorem zBG (t:Tc) (N:Int):∃ xs:List Nat,(zmU t N).1.1=xs.map fe:=zBF _ (zHW t N)
noncomputable def xsT (t:Tc) (N:Int):List Nat:=Classical.choose (zBG t N)
theorem zyK (t:Tc) (N:Int):(zmU t N).1.1=(xsT t N).map fe:=Classical.choose_spec (zBG t N)
theorem zyL:∀ (n:Nat) (s:Sp) (acc:List (List W64)) (t:Int),(zjR n s acc t).1.1.length≤acc.length+n
  | 0,s,acc,t=>by simp [zjR]
  | n + 1, s, acc, t => by
    unfold zjR
    split
    · have:=zyL n (zbg s).2 (acc++[(zbg s).1.1]) (IntKind.i64.wrap (t+(zbg s).1.2.1))
      simp only [List.length_append,List.length_singleton] at this
      omega
    · simp
theorem zHZ (t:Tc) (N:Int) (M:Nat) (h:(zbu t.g 2 3 N).e=0→N.toNat≤M):(xsT t N).length≤M:=by
  have h1:(xsT t N).length=(zmU t N).1.1.length:=by rw [zyK];simp
  rw [h1]
  unfold zmU
  by_cases h0:(zbu t.g 2 3 N).e=0
  · rw [if_pos h0]
    split
    · have:=zyL N.toNat (zbH t.s (opB 2 3 N [])) [] 0
      have h2:=h h0
      simp only [List.length_nil] at this
      show (zjR N.toNat (zbH t.s (opB 2 3 N [])) [] 0).1.1.length≤M
      omega
    · simp
  · rw [if_neg h0];simp
theorem zH0 {t:Tc} {N:Int} (h:¬(zmU t N).1.2=0):xsT t N=[]:=by
  have h1:(zmU t N).1.1=[]:=by
    unfold zmU at h ⊢
    by_cases h0:(zbu t.g 2 3 N).e=0
    · rw [if_pos h0] at h ⊢
      split
      · next h2=>rw [if_pos h2] at h;exact absurd rfl h
      · rfl
    · rw [if_neg h0]
  rw [zyK] at h1
  simpa using h1
noncomputable def doT (t:Tc) (d ty N:Int) (b:List Int):(Int × List Int) × Tc:=
  if d=0 then (((zBg t ty b).2,[]),(zBg t ty b).1)
  else if d=1 then (((zwv t N).1.2,(zwv t N).1.1),(zwv t N).2)
  else if d=2 then (((zmU t N).1.2,(xsT t N).flatMap feB),(zmU t N).2)
  else (((zBl t).2,[]),(zBl t).1)
theorem zK1 {t:Tc} (h:t.ok) (d ty N:Int) {b:List Int} (hb:inB b) (hl:b.length≤400) (hN:N≤1048576→N≤100):
    (doT t d ty N b).2.ok∧(doT t d ty N b).2.s.c≤t.s.c+300000:=by
  unfold doT
  split
  · have:=zJy h ty hb
    exact ⟨this.1,by simp only;omega⟩
  · split
    · refine ⟨(zDQ h N).1,?_⟩
      by_cases h0:(zbu t.g 2 1 N).e=0
      · have h1:=(zDQ h N).2
        have h2:=h.count h0
        have:=hN h2
        simp only;omega
      · unfold zwv;rw [if_neg h0];simp only;omega
    · split
      · refine ⟨(zDT h N).1,?_⟩
        by_cases h0:(zbu t.g 2 3 N).e=0
        · have h1:=(zDT h N).2
          have h2:=h.count h0
          have:=hN h2
          simp only;omega
        · unfold zmU;rw [if_neg h0];simp only;omega
      · have:=zJB h
        exact ⟨this.1,by simp only;omega⟩
end Go.Av
