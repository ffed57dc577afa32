/- A transcript as it lies, its calls, and what they do. -/
import Derived.Test.YtafkceblllhheaaGreatDoorC5
import Derived.Test.YtafkceblllhheaaGreatDoorC6
import Derived.Test.YtafkceblllhheaaGreatDoorC3
import Derived.Test.YtafkceblllhheaaGreatDoorC1
set_option linter.unusedSimpArgs false
set_option linter.unusedVariables false
set_option maxHeartbeats 2000000
set_option maxRecDepth 100000
namespace Go.Av
theorem zvZ (h:zab) (bs js:List (List zaa)) (ts us:List Nat) (n:Nat) (hn:n=bs.length):zdw (hx h (bs++js) (ts++us)) (h.blks.length+n) (h.toks.length+ts.length)=hx h bs ts:=by
  subst hn
  unfold zdw hx
  have e : ∀ {α : Type} (a b c : List α), (a ++ (b ++ c)).take (a.length + b.length) = a ++ b := fun a b c => by
    rw [← List.append_assoc,List.take_left' (by simp)]
  simp only [e]
theorem zn5 (k t c:Int) {b:List Int} (hb:inB b):inB (opB k t c b):=by
  unfold opB
  split
  · rw [zm1]
    have hw:=fun n:Int=>show 0≤IntKind.u8.wrap n∧IntKind.u8.wrap n < 256 by unfold IntKind.wrap;simp [IntKind.signed,IntKind.bits];omega
    exact zim.2 ⟨hw _,zim.2 ⟨hw _,zim.2 ⟨hw _,zim.2 ⟨hw _,zim.2 ⟨hw _,zim.2 ⟨hw _,hb⟩⟩⟩⟩⟩⟩
  · intro i hi;simp at hi
theorem zGW (k t c:Int) {b:List Int} (hl:b.length < 10000000):(opB k t c b).length < 100000000:=by
  unfold opB
  split
  · rw [zm1];simp;omega
  · simp
theorem zBN (L:Lim) (h:zab) (bs:List (List zaa)) (ts:List Nat) (i j:Nat) (s:Sp) (hs:s.ok) (N:Int) (n:Nat) (hN:n=N.toNat) (hn:n < 10000) (hc:s.c < 50000000)
    (hi:i < bs.length) (hj:j < bs.length) (hij:i≠j) (hL:L.rob≤h.blks.length) (hT:L.rot≤h.toks.length):
    zae ctx L zfm [.int .i64 N,fnB h.blks.length i] (hx h (spH bs i j h.blks.length s) ts)=some (.tup [.vsl false ((zaJ s n).1.1.map cW),.int .i64 (zaJ s n).1.2.1,.int .i64 (zaJ s n).1.2.2],hx h (spH bs i j h.blks.length (zaJ s n).2) ts):=by
  rw [zo4]
  obtain ⟨M,hM⟩:∃ M:Int,M=max N 0:=⟨_,rfl⟩
  have hmx:zqI true (.int .i64 N) [.int .i64 0]=some (.int .i64 M):=by
    simp only [zqI,zLP,bind,Option.bind_some,if_true]
    rw [hM]
    by_cases h0:(0:Int) > N
    · rw [if_pos h0,show max N 0=0 by omega]
    · rw [if_neg h0,show max N 0=N by omega]
  have hlo:=fun fr R=>zyb (L:=⟨L.rob,L.rot,h.blks.length+bs.length,h.toks.length+ts.length⟩) (fr:=fr) (h:=h) (R:=R) bs ts i j s hs M n (by omega) hn hc hi hj hij hL hT
  have hl1:=zf5 bs i j h.blks.length s
  have hl2:=zf5 bs i j h.blks.length (zaJ s n).2
  have hun:=zu2 (h.blks.length+bs.length) (h.toks.length+ts.length) (zaJ s n).1.1
  have hfz:=fun hh m=>zsL (h1:=hh) (nb:=h.blks.length+bs.length) (nt:=h.toks.length+ts.length) (n:=m) (s:=.nsl) (.inl rfl) hun
  simp only [zIf] at hfz
  generalize zaJ s n=E at*
  obtain ⟨⟨l,t,e⟩,q⟩:=E
  simp only at*
  generalize spH bs i j h.blks.length s=B1 at*
  generalize spH bs i j h.blks.length q=B at*
  have htr:∀ jk us,zdw (hx h (B++jk) (ts++us)) (h.blks.length+bs.length) (h.toks.length+ts.length)=hx h B ts:=fun jk us=>zvZ h B jk ts us bs.length hl2.symm
  simp -implicitDefEqProofs [zhY,zal,zaj,hl1,hmx]
  generalize hF:run ctx _ (.loop _) _ _=R
  obtain ⟨e,fr',jk,us,rfl,⟨rfl,rfl,f7,f8,he⟩ | ⟨rfl,hnil,f4,f5,f6⟩⟩:=hlo _ _ hF (by simp) (by simp) (by simp) (by simp) (by simp)
  · rw [he]
    simp -implicitDefEqProofs [f7,f8,hfz,htr,zal,zaj,hl1]
  · rw [hnil]
    simp -implicitDefEqProofs [f4,f5,f6,htr,zal,zaj,hl1]
theorem zuv (L:Lim) (h:zab) (bs:List (List zaa)) (ts:List Nat) (i j:Nat) (s:Sp) (hs:s.ok) (k t c:Int) (b:List Int) (d:zaa) (hd:∀ h,fzA h d=some (.vsl false (eI .u8 b),false)) (hf:d.flat=false) (hb:inB b) (hl:b.length < 10000000) (hc:s.c < 100000000)
    (hi:i < bs.length) (hj:j < bs.length) (hij:i≠j) (hL:L.rob≤h.blks.length):
    zae ctx L zbb [.agg [pA h.blks.length i 0],.agg [.int .i64 k,.int .i64 t,.int .i64 c,d]] (hx h (spH bs i j h.blks.length s) ts)=some (.tup [],hx h (spH bs i j h.blks.length (zbQ s (opB k t c b))) ts):=by
  rw [zhv]
  have hT:=fun L h=>zKG L h k t c b d hd hf hb (by omega)
  have hA:=fun L hL=>zAZ L h bs ts i j s hs false (opB k t c b) (zn5 k t c hb) (zGW k t c hl) hc hi hj hij hL
  have htr:=fun q=>zpr h bs ts i j (spO h.blks.length j q) (cI .u8 q.S)
  have hl1:=zf5 bs i j h.blks.length s
  have htr2:zdw (hx h (spH bs i j h.blks.length (zbQ s (opB k t c b))) ts) (h.blks.length+bs.length) (h.toks.length+ts.length)=hx h (spH bs i j h.blks.length (zbQ s (opB k t c b))) ts:=htr _
  generalize opB k t c b=o at*
  generalize spH bs i j h.blks.length (zbQ s o)=B2 at*
  generalize spH bs i j h.blks.length s=B1 at*
  simp -implicitDefEqProofs [zcC,zal,zaj,hl1,zpP,zaa.okV,zaa.cells,zaf,zag,hT,hA,hL,htr2]
theorem zEW (L:Lim) (h:zab) (bs:List (List zaa)) (ts:List Nat) (i j:Nat) (s:Sp) (hs:s.ok) (N:Int) (n:Nat) (hN:n=N.toNat) (hn:n < 1000000) (hc:s.c < 100000000)
    (hi:i < bs.length) (hj:j < bs.length) (hij:i≠j) (hL:L.rob≤h.blks.length) (hT:L.rot≤h.toks.length):
    zae ctx L za4 [.agg [pA h.blks.length i 0],.int .i64 N] (hx h (spH bs i j h.blks.length s) ts)=some (.vsl false (eI .u8 (zi0 s n)),hx h (spH bs i j h.blks.length (zdl s n)) ts):=by
  rw [zgY]
  have hS:=fun L hL hT=>zrW L h bs ts i j s hs N n hN hn hc hi hj hij hL hT
  have hl1:=zf5 bs i j h.blks.length s
  have htr2:zdw (hx h (spH bs i j h.blks.length (zdl s n)) ts) (h.blks.length+bs.length) (h.toks.length+ts.length)=hx h (spH bs i j h.blks.length (zdl s n)) ts:=zpr h bs ts i j _ _
  generalize zi0 s n=l at*
  generalize spH bs i j h.blks.length (zdl s n)=B2 at*
  generalize spH bs i j h.blks.length s=B1 at*
  simp -implicitDefEqProofs [zci,zal,zaj,hl1,zpP,zaa.okV,zaa.cells,zaf,hS,hL,hT,htr2]
theorem zBP (L:Lim) (h:zab) (bs:List (List zaa)) (ts:List Nat) (i j:Nat) (s:Sp) (hs:s.ok) (N:Int) (n:Nat) (hN:n=N.toNat) (hn:n < 10000) (hc:s.c < 50000000)
    (hi:i < bs.length) (hj:j < bs.length) (hij:i≠j) (hL:L.rob≤h.blks.length) (hT:L.rot≤h.toks.length):
    zae ctx L zaU [.agg [pA h.blks.length i 0],.int .i64 N] (hx h (spH bs i j h.blks.length s) ts)=some (.tup [.vsl false ((zaJ s n).1.1.map cW),.int .i64 (zaJ s n).1.2.2],hx h (spH bs i j h.blks.length (zaJ s n).2) ts):=by
  rw [zgE]
  have hS:=fun L hL hT=>zBN L h bs ts i j s hs N n hN hn hc hi hj hij hL hT
  have hl1:=zf5 bs i j h.blks.length s
  have htr2:zdw (hx h (spH bs i j h.blks.length (zaJ s n).2) ts) (h.blks.length+bs.length) (h.toks.length+ts.length)=hx h (spH bs i j h.blks.length (zaJ s n).2) ts:=zpr h bs ts i j _ _
  have hun:=zu2 (h.blks.length+bs.length) (h.toks.length+ts.length) (zaJ s n).1.1
  generalize zaJ s n=E at*
  obtain ⟨⟨l,t,e⟩,q⟩:=E
  simp only at*
  generalize spH bs i j h.blks.length q=B2 at*
  generalize spH bs i j h.blks.length s=B1 at*
  have hfz:=fun hh m=>ziF hh (h.blks.length+bs.length) (h.toks.length+ts.length) m false hun
  generalize l.map cW=lw at*
  unfold fnB at hS
  simp -implicitDefEqProofs [zb5,zal,zaj,hl1,zpP,zaa.okV,zaa.cells,zaf,zag,hS,hL,hT,htr2,hfz]
end Go.Av
namespace Go.Av
structure Tc where
  g:Gd
  tg:List Int
  s:Sp
def tC (n B:Nat) (tg:List Int):List zaa:=pA n B 0 :: (cI .u8 tg++[.iface 84 (.agg [pA n (B+3) 0])])
def trW (n B:Nat) (t:Tc):List (List zaa):=[guC t.g,tC n B t.tg,cI .u8 t.s.S,spO n (B+2) t.s]
def trB (n:Nat) (bs:List (List zaa)) (t:Tc) (js:List (List zaa)):List (List zaa):=bs++(trW n bs.length t++js)
section
variable (n:Nat) (bs:List (List zaa)) (t:Tc) (js:List (List zaa))
theorem zm4 (w:List (List zaa)):trB n bs t js++w=trB n bs t (js++w):=by simp [trB]
theorem zbP:(trB n bs t js).length=bs.length+(4+js.length):=by simp [trB,trW];omega
theorem zxO:(trB n bs t js)[bs.length]?=some (guC t.g):=zc6 bs _ bs.length 0 rfl
theorem zsZ:(trB n bs t js)[bs.length+1]?=some (tC n bs.length t.tg):=zc6 bs _ bs.length 1 rfl
theorem zKY (w:List (List zaa)) (k:Nat):(trB n bs t (js++w))[bs.length+(4+js.length+k)]?=w[k]?:=by
  unfold trB
  rw [zc6 bs _ bs.length _ rfl,← List.append_assoc,List.getElem?_append_right (by simp [trW];omega)]
  congr 1
  simp [trW];omega
theorem zwa (w:List (List zaa)) (k:Nat) (v:List zaa):(trB n bs t (js++w)).set (bs.length+(4+js.length+k)) v=trB n bs t (js++w.set k v):=by
  unfold trB
  rw [zeJ bs _ bs.length _ v rfl,← List.append_assoc,List.set_append_right _ _ (by simp [trW];omega),List.append_assoc]
  congr 4
  simp [trW];omega
theorem ztI (g:Gd):(trB n bs t js).set bs.length (guC g)=trB n bs {t with g:=g} js:=zeJ bs _ bs.length 0 _ rfl
theorem zrE (q:Sp):spH (trB n bs t js) (bs.length+3) (bs.length+2) n q=trB n bs {t with s:=q} js:=by
  have e1:=zeJ bs (trW n bs.length t++js) bs.length 3 (spO n (bs.length+2) q) rfl
  have e2:=zeJ bs ((trW n bs.length t++js).set 3 (spO n (bs.length+2) q)) bs.length 2 (cI .u8 q.S) rfl
  unfold spH sp2 trB
  rw [e1,e2]
  rfl
theorem zBW (h:zab) (ts us:List Nat) (w:List (List zaa)):zdw (hx h (trB n bs t (js++w)) (ts++us)) (h.blks.length+(bs.length+(4+js.length))) (h.toks.length+ts.length)=hx h (trB n bs t js) ts:=by
  rw [← zm4]
  exact zvZ h _ w ts us _ (zbP n bs t js).symm
theorem zrF (h:zab) (ts:List Nat):zdw (hx h (trB n bs t js) ts) (h.blks.length+(bs.length+(4+js.length))) (h.toks.length+ts.length)=hx h (trB n bs t js) ts:=by
  have:=zBW n bs t js h ts [] []
  simpa using this
theorem zuE (h:zab) (ts:List Nat) (w:List (List zaa)):zdw (hx h (trB n bs t (js++w)) ts) (h.blks.length+(bs.length+(4+js.length))) (h.toks.length+ts.length)=hx h (trB n bs t js) ts:=by
  have:=zBW n bs t js h ts [] w
  simpa using this
end
theorem zJO (n B:Nat) (tg:List Int):zd2 false (tC n B tg) 0 1=some (pA n B 0):=rfl
theorem zBX (n B:Nat) (tg:List Int) (h:tg.length=32):zd2 false (tC n B tg) 33 1=some (.iface 84 (.agg [pA n (B+3) 0])):=by
  have:(tC n B tg)[33]?=some (.iface 84 (.agg [pA n (B+3) 0])):=by
    unfold tC
    rw [List.getElem?_cons_succ,List.getElem?_append_right (by simp [h])]
    simp [h]
  rw [zaf]
  exact this
theorem zBY (L:Lim) (h:zab) (bs js:List (List zaa)) (ts:List Nat) (t:Tc) (hL:L.rob≤h.blks.length):
    zae ctx L zaH [pA h.blks.length (bs.length+1) 0] (hx h (trB h.blks.length bs t js) ts)=some (.int .i64 t.g.e,hx h (trB h.blks.length bs t js) ts):=by
  rw [zgB]
  have hF:=fun L hL=>zrn L h (trB h.blks.length bs t js) ts bs.length t.g 0 (zxO _ _ _ _) hL
  have hf:zcg t.g 0=t.g:=by
    unfold zcg
    split
    · next h0=>obtain ⟨⟨l,k,e⟩,tg,s⟩:=t;simp only at h0 ⊢;rw [h0]
    · rfl
  rw [hf,ztI] at hF
  have htr:=zrF h.blks.length bs t js h ts
  have hl:=zbP h.blks.length bs t js
  have g1:=zsZ h.blks.length bs t js
  have h0:=zJO h.blks.length bs.length t.tg
  obtain ⟨g,tg,s⟩:=t
  simp only at*
  generalize trB h.blks.length bs ⟨g,tg,s⟩ js=B at*
  generalize tC h.blks.length bs.length tg=tcs at*
  simp -implicitDefEqProofs [zb6,zal,zaj,hl,g1,h0,hF,hL,htr]
theorem zAn (L:Lim) (h:zab) (bs js:List (List zaa)) (ts:List Nat) (t:Tc) (hL:L.rob≤h.blks.length):
    zae ctx L za8 [pA h.blks.length (bs.length+1) 0] (hx h (trB h.blks.length bs t js) ts)=some (.int .i64 (zvA t.g).e,hx h (trB h.blks.length bs {t with g:=zvA t.g} js) ts):=by
  rw [zfx]
  have hF:=fun L hL=>zz6 L h (trB h.blks.length bs t js) ts bs.length t.g (zxO _ _ _ _) hL
  rw [ztI] at hF
  have htr:=zrF h.blks.length bs {t with g:=zvA t.g} js h ts
  have hl:=zbP h.blks.length bs t js
  have g1:=zsZ h.blks.length bs t js
  have h0:=zJO h.blks.length bs.length t.tg
  generalize trB h.blks.length bs {t with g:=zvA t.g} js=B2 at*
  generalize trB h.blks.length bs t js=B at*
  generalize tC h.blks.length bs.length t.tg=tcs at*
  simp -implicitDefEqProofs [zbA,zal,zaj,hl,g1,h0,hF,hL,htr]
theorem zqY (L:Lim) (h:zab) (bs js:List (List zaa)) (ts:List Nat) (t:Tc) (k ty c:Int) (d:zaa) (hk:t.g.k < 1000000000) (hd:d.okV=true) (hL:L.rob≤h.blks.length):
    zae ctx L zaw [pA h.blks.length (bs.length+1) 0,.agg [.int .i64 k,.int .i64 ty,.int .i64 c,d]] (hx h (trB h.blks.length bs t js) ts)=some (.int .i64 (zbt t.g k ty c).e,hx h (trB h.blks.length bs {t with g:=zbt t.g k ty c} js) ts):=by
  rw [zfX]
  have hF:=fun L hL=>zHE L h (trB h.blks.length bs t js) ts bs.length t.g k ty c hk (zxO _ _ _ _) hL
  rw [ztI] at hF
  have htr:=zrF h.blks.length bs {t with g:=zbt t.g k ty c} js h ts
  have hl:=zbP h.blks.length bs t js
  have g1:=zsZ h.blks.length bs t js
  have h0:=zJO h.blks.length bs.length t.tg
  generalize trB h.blks.length bs {t with g:=zbt t.g k ty c} js=B2 at*
  generalize trB h.blks.length bs t js=B at*
  generalize tC h.blks.length bs.length t.tg=tcs at*
  simp -implicitDefEqProofs [zbT,zal,zaj,hl,g1,h0,zpP,zaa.okV,zaa.cells,zaf,hF,hL,htr]
end Go.Av
namespace Go.Av
theorem zyS (n:Nat) (bs:List (List zaa)) (t:Tc) (js:List (List zaa)) (hh):(trB n bs t js)[bs.length+1]'hh=tC n bs.length t.tg:=(List.getElem?_eq_some_iff.1 (zsZ n bs t js)).2
theorem zwd (n:Nat) (bs:List (List zaa)) (t:Tc) (js:List (List zaa)) (x:List zaa) (hh):(trB n bs t (js++[x]))[bs.length+(4+js.length)]'hh=x:=(List.getElem?_eq_some_iff.1 (zKY n bs t js [x] 0)).2
theorem zK5 {C:Ctx} {L:Lim} {h:zab} {f:FuncId} (v:zaa) (as:List zaa):zBq C L h (some ([(0,1,false)],f)) (.agg [v]) as=zIL (zac C f) (zae C L f (v :: as) h):=rfl
theorem zKN {C:Ctx} {L:Lim} {h:zab} {f:FuncId} (v:zaa) (as:List zaa):zFE C L h (some ([(0,1,false)],f)) (.agg [v]) as=zae C L f (v :: as) h:=rfl
theorem zK6 (L:Lim) (H:zab) (b n B:Nat) (g:Gd) (tg:List Int) (hb:H.blks[b]?=some (tC n B tg)) (hg:H.blks[n+B]?=some (guC g)):
    zae ctx L zaM [.ptr b 0] H=some (.int .i64 g.k,H):=by
  rw [zgX]
  have h0:=zJO n B tg
  have h1:=fun bs ts=>zgm H bs ts b 0 1 false _ hb
  simp only [h0] at h1
  have hA:=fun L=>zMu L (hx H [] []) (pA n B 0) (n+B) g rfl (by simp [hx,hg])
  have hf:fzA H (.ptr b 0)=some (.ptr b 0,false):=by simp only [fzA]
  simp -implicitDefEqProofs [zck,zav,hf,h1,hA]
theorem zB0 (L:Lim) (H:zab) (b n B:Nat) (s:Sp) (tg:List Int) (ht:tg.length=32) (hb:H.blks[b]?=some (tC n B tg)) (hg:H.blks[n+(B+3)]?=some (spO n (B+2) s)):
    zae ctx L zaB [.ptr b 0] H=some (.int .i64 s.c,H):=by
  rw [zfI]
  have h0:=zBX n B tg ht
  have h1:=fun bs ts=>zgm H bs ts b 33 1 false _ hb
  simp only [h0] at h1
  have hA:=fun L=>zCm L (hx H [] []) (pA n (B+3) 0) s (B+2) n (n+(B+3)) rfl (by simp [hx,hg])
  have hf:fzA H (.ptr b 0)=some (.ptr b 0,false):=by simp only [fzA]
  simp -implicitDefEqProofs [zbE,zav,hf,h1,hA,zaf,zK5]
def zmi (t:Tc) (ty:Int) (b:List Int):Tc × Int:=
  if t.g.e=0 then
    if (zqT ty b.length).2=0 then
      if (zbt t.g 1 ty (zqT ty b.length).1).e=0 then
        if zGR ty b=0 then ({t with g:=zbt t.g 1 ty (zqT ty b.length).1,s:=zbQ t.s (opB 1 ty (zqT ty b.length).1 b)},0)
        else ({t with g:=zcg (zbt t.g 1 ty (zqT ty b.length).1) (zGR ty b)},(zcg (zbt t.g 1 ty (zqT ty b.length).1) (zGR ty b)).e)
      else ({t with g:=zbt t.g 1 ty (zqT ty b.length).1},(zbt t.g 1 ty (zqT ty b.length).1).e)
    else ({t with g:=zcg t.g (zqT ty b.length).2},(zcg t.g (zqT ty b.length).2).e)
  else (t,t.g.e)
def zm7 (t:Tc) (N:Int):(List Int × Int) × Tc:=
  if (zbt t.g 2 1 N).e=0 then ((zi0 (zbQ t.s (opB 2 1 N [])) N.toNat,0),{t with g:=zbt t.g 2 1 N,s:=zdl (zbQ t.s (opB 2 1 N [])) N.toNat})
  else (([],(zbt t.g 2 1 N).e),{t with g:=zbt t.g 2 1 N})
def zpo (t:Tc) (N:Int):(List (List W64) × Int) × Tc:=
  if (zbt t.g 2 3 N).e=0 then
    if (zaJ (zbQ t.s (opB 2 3 N [])) N.toNat).1.2.2=0 then (((zaJ (zbQ t.s (opB 2 3 N [])) N.toNat).1.1,0),{t with g:=zbt t.g 2 3 N,s:=(zaJ (zbQ t.s (opB 2 3 N [])) N.toNat).2})
    else (([],(zcg (zbt t.g 2 3 N) (zaJ (zbQ t.s (opB 2 3 N [])) N.toNat).1.2.2).e),{t with g:=zcg (zbt t.g 2 3 N) (zaJ (zbQ t.s (opB 2 3 N [])) N.toNat).1.2.2,s:=(zaJ (zbQ t.s (opB 2 3 N [])) N.toNat).2})
  else (([],(zbt t.g 2 3 N).e),{t with g:=zbt t.g 2 3 N})
def zy0 (t:Tc):Tc × Int:=
  if (zbt t.g 3 0 1).e=0 then ({t with g:=zbt t.g 3 0 1,s:=zEg (zbQ t.s (opB 3 0 1 []))},0)
  else ({t with g:=zbt t.g 3 0 1},(zbt t.g 3 0 1).e)
theorem zm8 (L:Lim) (h:zab) (bs js:List (List zaa)) (ts:List Nat) (t:Tc) (N:Int) (hk:t.g.k < 1000000000) (hs:t.s.ok) (hc:t.s.c < 10000000) (ht:t.tg.length=32) (hn:(zbt t.g 2 1 N).e=0→N.toNat < 1000000) (hL:L.rob≤h.blks.length) (hT:L.rot≤h.toks.length):
    zae ctx L zax [pA h.blks.length (bs.length+1) 0,.int .i64 N] (hx h (trB h.blks.length bs t js) ts)=some (.tup [.vsl false (eI .u8 (zm7 t N).1.1),.int .i64 (zm7 t N).1.2],hx h (trB h.blks.length bs (zm7 t N).2 js) ts):=by
  rw [zfe]
  have hnx:=fun L hL x=>zqY L h bs (js++[x]) ts t 2 1 N .nsl hk rfl hL
  have hte:=fun L hL x g=>zuv L h (trB h.blks.length bs {t with g:=g} (js++[x])) ts (bs.length+3) (bs.length+2) t.s hs 2 1 N [] .nsl (fun h=>by simp) rfl (fun i hi=>by simp at hi) (by simp) (by omega) (by rw [zbP];omega) (by rw [zbP];omega) (by omega) hL
  simp only [zrE] at hte
  have hq1:=zgb hs (zn5 2 1 N (b:=[]) (fun i hi=>by simp at hi))
  have hq2:=zsH hs (opB 2 1 N [])
  have hq3:=zGW 2 1 N (b:=[]) (by simp)
  have hq4:(opB 2 1 N []).length≤6:=by unfold opB;split <;> simp [zm1]
  unfold zm7
  generalize zbQ t.s (opB 2 1 N [])=q at*
  generalize zbt t.g 2 1 N=g1 at*
  have hby:=fun L hL hT x=>fun hn'=>zEW L h (trB h.blks.length bs {t with g:=g1} (js++[x])) ts (bs.length+3) (bs.length+2) q hq1 N N.toNat rfl hn' (by omega) (by rw [zbP];omega) (by rw [zbP];omega) (by omega) hL hT
  simp only [zrE] at hby
  have hl:=zbP h.blks.length bs
  have g1':=fun g q js=>zsZ h.blks.length bs ⟨g,t.tg,q⟩ js
  have g2':=fun g q js hh=>zyS h.blks.length bs ⟨g,t.tg,q⟩ js hh
  simp only at g1' g2'
  have h0:=zBX h.blks.length bs.length t.tg ht
  have gw:=fun t x hh=>zwd h.blks.length bs t js x hh
  have sw:=fun t x v=>zwa h.blks.length bs t js [x] 0 v
  have htr:=fun t w=>zuE h.blks.length bs t js h ts w
  have happ:=fun t js w=>zm4 h.blks.length bs t js w
  simp only [Nat.add_zero,List.getElem?_cons_zero,List.set_cons_zero] at sw
  generalize tC h.blks.length bs.length t.tg=tcs at*
  by_cases he:g1.e=0
  · rw [if_pos he]
    have be:(g1.e==0)=true:=by simp [he]
    have hby1:=fun L hL hT x=>hby L hL hT x (hn he)
    simp -implicitDefEqProofs [za2,zal,zaj,hl,happ,g1',g2',h0,gw,sw,zaE,setAt,zbV,zai,zao,zas,zaa.under,hL,hT,hnx,bne,be,hte,hby1,htr,zag]
  · rw [if_neg he]
    have be:(g1.e==0)=false:=by simp [he]
    simp -implicitDefEqProofs [za2,zal,zaj,hl,happ,g1',g2',h0,gw,sw,zaE,setAt,zbV,zai,zao,zas,zaa.under,hL,hT,hnx,bne,be,htr,zag]
end Go.Av
namespace Go.Av
theorem zuJ (L:Lim) (h:zab) (bs js:List (List zaa)) (ts:List Nat) (t:Tc) (N:Int) (hk:t.g.k < 1000000000) (hs:t.s.ok) (hc:t.s.c < 10000000) (ht:t.tg.length=32) (hn:(zbt t.g 2 3 N).e=0→N.toNat < 10000) (hL:L.rob≤h.blks.length) (hT:L.rot≤h.toks.length):
    zae ctx L zaQ [pA h.blks.length (bs.length+1) 0,.int .i64 N] (hx h (trB h.blks.length bs t js) ts)=some (.tup [.vsl false ((zpo t N).1.1.map cW),.int .i64 (zpo t N).1.2],hx h (trB h.blks.length bs (zpo t N).2 js) ts):=by
  rw [zeC]
  have hnx:=fun L hL x=>zqY L h bs (js++[x]) ts t 2 3 N .nsl hk rfl hL
  have hte:=fun L hL x g=>zuv L h (trB h.blks.length bs {t with g:=g} (js++[x])) ts (bs.length+3) (bs.length+2) t.s hs 2 3 N [] .nsl (fun h=>by simp) rfl (fun i hi=>by simp at hi) (by simp) (by omega) (by rw [zbP];omega) (by rw [zbP];omega) (by omega) hL
  simp only [zrE] at hte
  have hq1:=zgb hs (zn5 2 3 N (b:=[]) (fun i hi=>by simp at hi))
  have hq2:=zsH hs (opB 2 3 N [])
  have hq4:(opB 2 3 N []).length≤6:=by unfold opB;split <;> simp [zm1]
  unfold zpo
  generalize zbQ t.s (opB 2 3 N [])=q at*
  generalize zbt t.g 2 3 N=g1 at*
  have hby:=fun L hL hT x=>fun hn'=>zBP L h (trB h.blks.length bs {t with g:=g1} (js++[x])) ts (bs.length+3) (bs.length+2) q hq1 N N.toNat rfl hn' (by omega) (by rw [zbP];omega) (by rw [zbP];omega) (by omega) hL hT
  simp only [zrE] at hby
  have hun:=fun nb nt=>zu2 nb nt (zaJ q N.toNat).1.1
  generalize zaJ q N.toNat=E at*
  obtain ⟨⟨l,tr,er⟩,q2⟩:=E
  simp only at*
  have hFa:=fun L hL x e=>zrn L h (trB h.blks.length bs ⟨g1,t.tg,q2⟩ (js++[x])) ts bs.length g1 e (zxO _ _ _ _) hL
  simp only [ztI] at hFa
  have hl:=zbP h.blks.length bs
  have g1':=fun g q js=>zsZ h.blks.length bs ⟨g,t.tg,q⟩ js
  have g2':=fun g q js hh=>zyS h.blks.length bs ⟨g,t.tg,q⟩ js hh
  simp only at g1' g2'
  have h0:=zBX h.blks.length bs.length t.tg ht
  have h00:=zJO h.blks.length bs.length t.tg
  have gw:=fun t x hh=>zwd h.blks.length bs t js x hh
  have sw:=fun t x v=>zwa h.blks.length bs t js [x] 0 v
  have htr:=fun t w=>zuE h.blks.length bs t js h ts w
  have happ:=fun t js w=>zm4 h.blks.length bs t js w
  simp only [Nat.add_zero,List.getElem?_cons_zero,List.set_cons_zero] at sw
  generalize tC h.blks.length bs.length t.tg=tcs at*
  by_cases he:g1.e=0
  · rw [if_pos he]
    have be:(g1.e==0)=true:=by simp [he]
    have hby1:=fun L hL hT x=>hby L hL hT x (hn he)
    clear hby
    by_cases her:er=0
    · rw [if_pos her]
      have ber:(er==0)=true:=by simp [her]
      have hfz:=fun hh nb nt m=>ziF hh nb nt m false (hun nb nt)
      simp only
      generalize l.map cW=lw at*
      simp -implicitDefEqProofs [zaC,zal,zaj,hl,happ,g1',g2',h0,gw,sw,zaE,setAt,zbV,zai,zao,zas,zaa.under,hL,hT,hnx,bne,be,hte,hby1,ber,hfz,htr,zag]
    · rw [if_neg her]
      have ber:(er==0)=false:=by simp [her]
      generalize l.map cW=lw at*
      simp -implicitDefEqProofs [zaC,zal,zaj,hl,happ,g1',g2',h0,h00,gw,sw,zaE,setAt,zbV,zai,zao,zas,zaa.under,hL,hT,hnx,bne,be,hte,hby1,ber,hFa,htr,zag]
  · rw [if_neg he]
    have be:(g1.e==0)=false:=by simp [he]
    simp -implicitDefEqProofs [zaC,zal,zaj,hl,happ,g1',g2',h0,gw,sw,zaE,setAt,zbV,zai,zao,zas,zaa.under,hL,hT,hnx,bne,be,htr,zag]
theorem zxV (L:Lim) (h:zab) (bs js:List (List zaa)) (ts:List Nat) (t:Tc) (hk:t.g.k < 1000000000) (hs:t.s.ok) (hc:t.s.c < 10000000) (ht:t.tg.length=32) (hL:L.rob≤h.blks.length):
    zae ctx L za0 [pA h.blks.length (bs.length+1) 0] (hx h (trB h.blks.length bs t js) ts)=some (.int .i64 (zy0 t).2,hx h (trB h.blks.length bs (zy0 t).1 js) ts):=by
  rw [zff]
  have hnx:=fun L hL x=>zqY L h bs (js++[x]) ts t 3 0 1 .nsl hk rfl hL
  have hte:=fun L hL x g=>zuv L h (trB h.blks.length bs {t with g:=g} (js++[x])) ts (bs.length+3) (bs.length+2) t.s hs 3 0 1 [] .nsl (fun h=>by simp) rfl (fun i hi=>by simp at hi) (by simp) (by omega) (by rw [zbP];omega) (by rw [zbP];omega) (by omega) hL
  simp only [zrE] at hte
  have hq1:=zgb hs (zn5 3 0 1 (b:=[]) (fun i hi=>by simp at hi))
  have hq2:=zsH hs (opB 3 0 1 [])
  have hq4:(opB 3 0 1 []).length≤6:=by unfold opB;split <;> simp [zm1]
  unfold zy0
  generalize zbQ t.s (opB 3 0 1 [])=q at*
  generalize zbt t.g 3 0 1=g1 at*
  have hby:=fun L hL x=>zyC L h (trB h.blks.length bs {t with g:=g1} (js++[x])) ts (bs.length+3) (bs.length+2) q hq1 (by omega) (by rw [zbP];omega) (by rw [zbP];omega) (by omega) hL
  simp only [zrE] at hby
  generalize zEg q=q2 at*
  have hl:=zbP h.blks.length bs
  have g1':=fun g q js=>zsZ h.blks.length bs ⟨g,t.tg,q⟩ js
  have g2':=fun g q js hh=>zyS h.blks.length bs ⟨g,t.tg,q⟩ js hh
  simp only at g1' g2'
  have h0:=zBX h.blks.length bs.length t.tg ht
  have gw:=fun t x hh=>zwd h.blks.length bs t js x hh
  have sw:=fun t x v=>zwa h.blks.length bs t js [x] 0 v
  have htr:=fun t w=>zuE h.blks.length bs t js h ts w
  have happ:=fun t js w=>zm4 h.blks.length bs t js w
  simp only [Nat.add_zero,List.getElem?_cons_zero,List.set_cons_zero] at sw
  generalize tC h.blks.length bs.length t.tg=tcs at*
  by_cases he:g1.e=0
  · rw [if_pos he]
    have be:(g1.e==0)=true:=by simp [he]
    simp -implicitDefEqProofs [za3,zal,zaj,hl,happ,g1',g2',h0,gw,sw,zaE,setAt,zbV,zai,zao,zas,zaa.under,hL,hnx,bne,be,hte,hby,zKN,htr,zag]
    try exact he
  · rw [if_neg he]
    have be:(g1.e==0)=false:=by simp [he]
    simp -implicitDefEqProofs [za3,zal,zaj,hl,happ,g1',g2',h0,gw,sw,zaE,setAt,zbV,zai,zao,zas,zaa.under,hL,hnx,bne,be,htr,zag]
theorem zpq (L:Lim) (h:zab) (bs js:List (List zaa)) (ts:List Nat) (t:Tc) (ty:Int) (c:Bool) (b:List Int) (hb:inB b) (hbl:b.length < 10000000) (hk:t.g.k < 1000000000) (hs:t.s.ok) (hc:t.s.c < 10000000) (ht:t.tg.length=32) (hL:L.rob≤h.blks.length):
    zae ctx L zaz [pA h.blks.length (bs.length+1) 0,.int .i64 ty,.vsl c (eI .u8 b)] (hx h (trB h.blks.length bs t js) ts)=some (.int .i64 (zmi t ty b).2,hx h (trB h.blks.length bs (zmi t ty b).1 js) ts):=by
  rw [zfy]
  have hEr:=fun L hL=>zBY L h bs js ts t hL
  have hCn:=fun L h=>zrm L h ty c b (by omega)
  have hCk:=fun L h=>zBy L h ty c b hb (by omega)
  have hF0:=fun L hL e=>zrn L h (trB h.blks.length bs t js) ts bs.length t.g e (zxO _ _ _ _) hL
  simp only [ztI] at hF0
  unfold zmi
  generalize zqT ty b.length=cn at*
  obtain ⟨n,e1⟩:=cn
  simp only at*
  have hnx:=fun L hL x=>zqY L h bs (js++[x]) ts t 1 ty n (.vsl c (eI .u8 b)) hk rfl hL
  have hte:=fun L hL x g=>zuv L h (trB h.blks.length bs {t with g:=g} (js++[x])) ts (bs.length+3) (bs.length+2) t.s hs 1 ty n b (.vsl c (eI .u8 b)) (fun h=>by simp) rfl hb hbl (by omega) (by rw [zbP];omega) (by rw [zbP];omega) (by omega) hL
  simp only [zrE] at hte
  generalize zbQ t.s (opB 1 ty n b)=q at*
  generalize zbt t.g 1 ty n=g1 at*
  have hF1:=fun L hL x e=>zrn L h (trB h.blks.length bs ⟨g1,t.tg,t.s⟩ (js++[x])) ts bs.length g1 e (zxO _ _ _ _) hL
  simp only [ztI] at hF1
  generalize zGR ty b=e2 at*
  have hl:=zbP h.blks.length bs
  have g1':=fun g q js=>zsZ h.blks.length bs ⟨g,t.tg,q⟩ js
  have g2':=fun g q js hh=>zyS h.blks.length bs ⟨g,t.tg,q⟩ js hh
  simp only at g1' g2'
  have h0:=zBX h.blks.length bs.length t.tg ht
  have h00:=zJO h.blks.length bs.length t.tg
  have gw:=fun t x hh=>zwd h.blks.length bs t js x hh
  have sw:=fun t x v=>zwa h.blks.length bs t js [x] 0 v
  have htr:=fun t w=>zuE h.blks.length bs t js h ts w
  have htr0:=fun t=>zrF h.blks.length bs t js h ts
  have happ:=fun t js w=>zm4 h.blks.length bs t js w
  simp only [Nat.add_zero,List.getElem?_cons_zero,List.set_cons_zero] at sw
  generalize tC h.blks.length bs.length t.tg=tcs at*
  obtain ⟨g0,tg,s0⟩:=t
  simp only at*
  by_cases hg0:g0.e=0
  · rw [if_pos hg0]
    have bg:(g0.e==0)=true:=by simp [hg0]
    by_cases h1:e1=0
    · rw [if_pos h1]
      have b1:(e1==0)=true:=by simp [h1]
      by_cases hg1:g1.e=0
      · rw [if_pos hg1]
        have bg1:(g1.e==0)=true:=by simp [hg1]
        by_cases h2:e2=0
        · rw [if_pos h2]
          have b2:(e2==0)=true:=by simp [h2]
          simp -implicitDefEqProofs [zat,zal,zaj,hl,happ,hEr,hCn,hCk,g1',g2',h0,gw,sw,zaE,setAt,zbV,zai,zao,zas,zaa.under,hL,hnx,bne,bg,b1,bg1,b2,hte,htr,htr0,zag]
        · rw [if_neg h2]
          have b2:(e2==0)=false:=by simp [h2]
          simp -implicitDefEqProofs [zat,zal,zaj,hl,happ,hEr,hCn,hCk,g1',g2',h0,h00,gw,sw,zaE,setAt,zbV,zai,zao,zas,zaa.under,hL,hnx,bne,bg,b1,bg1,b2,hF1,htr,htr0,zag]
      · rw [if_neg hg1]
        have bg1:(g1.e==0)=false:=by simp [hg1]
        simp -implicitDefEqProofs [zat,zal,zaj,hl,happ,hEr,hCn,hCk,g1',g2',h0,gw,sw,zaE,setAt,zbV,zai,zao,zas,zaa.under,hL,hnx,bne,bg,b1,bg1,htr,htr0,zag]
    · rw [if_neg h1]
      have b1:(e1==0)=false:=by simp [h1]
      simp -implicitDefEqProofs [zat,zal,zaj,hl,happ,hEr,hCn,hCk,g1',g2',h0,h00,hL,bne,bg,b1,hF0,htr,htr0,zag]
  · rw [if_neg hg0]
    have bg:(g0.e==0)=false:=by simp [hg0]
    simp -implicitDefEqProofs [zat,zal,zaj,hl,happ,hEr,bne,bg,hL,htr,htr0]
end Go.Av
namespace Go.Av
def zBa:List Int:=[97,118,111,117,99,104,47,116,114,97,110,115,99,114,105,112,116,47,49]
def zuM:List Int:=tab 32 fun _=>0
def zx0 (b:Int) (l:List It):List Int × Int × Int:=
  if b≠1∧b≠2 then (zuM, -1,15)
  else if (zm0 l 0 []).2.2≠0 then (zuM,(zm0 l 0 []).2.1,(zm0 l 0 []).2.2)
  else (zHN (zBa++([IntKind.u8.wrap b]++(zm0 l 0 []).1)), -1,0)
theorem ztN:∀ (l:List It) (k:Nat) (out:List Int),(zm0 l k out).1.length≤out.length+l.length*1000008
  | [],k,out=>by simp [zm0]
  | x :: l, k, out => by
    rw [zm0]
    split
    · simp
    · split
      · rename_i hc
        have h1:=ztN l (k+1) (out++zGS x)
        have h2:=(zqU hc).2.2.2.2.2.2
        simp only [List.length_append,zEK,List.length_cons] at h1 ⊢
        omega
      · simp
theorem zwp:[zaa.int .u8 97,zaa.int .u8 118,zaa.int .u8 111,zaa.int .u8 117,zaa.int .u8 99,zaa.int .u8 104,zaa.int .u8 47,zaa.int .u8 116,zaa.int .u8 114,zaa.int .u8 97,zaa.int .u8 110,zaa.int .u8 115,zaa.int .u8 99,zaa.int .u8 114,zaa.int .u8 105,zaa.int .u8 112,zaa.int .u8 116,zaa.int .u8 47,zaa.int .u8 49]=cI .u8 zBa:=rfl
theorem zwq (L:Lim) (h:zab) (z:List zaa) (b:Int) (r:List Int) (hr:r.length < 200000000000):
    zae ctx L zgq [.vsl true [[sA h.blks.length 1 0 1 19 (some 19)],[.vsl true (eI .u8 [b])],[.vsl false (eI .u8 r)]]] (hx h [z,cI .u8 zBa] [])=some (.agg (cI .u8 (zHN (zBa++([b]++r)))),hx h [z,cI .u8 zBa] []):=by
  have h1 := zIp L (hx h [z, cI .u8 zBa] []) true [(sA h.blks.length 1 0 1 19 (some 19), zBa), (.vsl true (eI .u8 [b]), [b]), (.vsl false (eI .u8 r), r)] (by simp) (by
    intro p hp
    simp only [List.mem_cons,List.not_mem_nil,or_false] at hp
    rcases hp with rfl | rfl | rfl
    · exact ⟨RdI.sA [] .u8 1 19 _ zBa rfl (by simp),by simp [zBa]⟩
    · exact ⟨RdI.vsl _ .u8 true [b],by simp⟩
    · exact ⟨RdI.vsl _ .u8 false r,hr⟩)
  have h2:msg [(sA h.blks.length 1 0 1 19 (some 19),zBa),(.vsl true (eI .u8 [b]),[b]),(.vsl false (eI .u8 r),r)]=zBa++([b]++r):=by simp [msg]
  rw [h2] at h1
  exact h1
@[simp] theorem zM6 (l:List Int):(zHN l).length=32:=by
  obtain ⟨c1,c2⟩:=ziV l (q:=(tab 25 fun _=>0#64,0)) (by simp) (by simp)
  simp [zHN,zHL,zex,c1]
theorem zLu (L:Lim) (h:zab) (b:Int) (l:List It) (hn:l.length≤2000):
    zae ctx L zom [.int .i64 b,.vsl false (l.map It.cells)] h=some (.tup [.agg (cI .u8 (zx0 b l).1),.int .i64 (zx0 b l).2.1,.int .i64 (zx0 b l).2.2],h):=by
  rw [zw6]
  have hser:=fun L h=>zKF L h l hn
  by_cases hb:b≠1∧b≠2
  · have e1 : zx0 b l = (zuM, -1, 15) := by unfold zx0; rw [if_pos hb]
    rw [e1]
    simp [zhZ, -List.map_take,zav,zgl,bne,beq_false_of_ne hb.1,beq_false_of_ne hb.2,zaE,zbV,zai,zag,zuM]
  · have hb' : b = 1 ∨ b = 2 := by omega
    by_cases h0:(zm0 l 0 []).2.2=0
    · have e1 : zx0 b l = (zHN (zBa ++ ([IntKind.u8.wrap b] ++ (zm0 l 0 []).1)), -1, 0) := by unfold zx0; rw [if_neg hb, if_neg (by simpa using h0)]
      rw [e1]
      have hlen:(zm0 l 0 []).1.length < 200000000000:=by
        have:=ztN l 0 [];simp at this;omega
      rcases hb' with rfl | rfl
      · simp [zhZ, -List.map_take,zav,zgl,hser,h0,zaE,rep,chunks,zhL,zwp,zwq,hlen,zbV,zai,zag]
      · simp [zhZ, -List.map_take,zav,zgl,hser,h0,zaE,rep,chunks,zhL,zwp,zwq,hlen,zbV,zai,zag]
    · have e1 : zx0 b l = (zuM, (zm0 l 0 []).2.1, (zm0 l 0 []).2.2) := by unfold zx0; rw [if_neg hb, if_pos h0]
      rw [e1]
      have b0:((zm0 l 0 []).2.2==0)=false:=beq_false_of_ne h0
      rcases hb' with rfl | rfl
      · simp [zhZ, -List.map_take,zav,zgl,hser,bne,b0,zaE,zbV,zai,zag,zuM]
      · simp [zhZ, -List.map_take,zav,zgl,hser,bne,b0,zaE,zbV,zai,zag,zuM]
end Go.Av
namespace Go.Av
@[irreducible] def zCq (p:List Int):List Int:=(zx0 1 (zkC p).1).1
theorem zx6 (p:List Int):zCq p=(zx0 1 (zkC p).1).1:=by unfold zCq;exact rfl
def zna (p:List Int):Tc:=⟨zJx p,zCq p,zxX (zCq p)⟩
theorem zwu (l:List It):(zx0 1 l).1.length=32:=by
  unfold zx0
  split
  · simp [zuM]
  · split
    · simp [zuM]
    · simp
theorem zuS (p:List Int):(zCq p).length=32:=by rw [zx6];exact zwu _
theorem zzd:∀ (f:Nat) (b:List Int) (k:Nat) (acc:List It),k≤1024→acc.length≤k→(zGr f b k acc).1.length≤1024
  | 0,b,k,acc,hk,ha=>by simp [zGr];omega
  | f + 1, b, k, acc, hk, ha => by
    unfold zGr
    split
    · simp only;omega
    · split
      · simp
      · split
        · exact zzd f _ (k+1) _ (by omega) (by simp;omega)
        · simp
theorem zze (b:List Int):(zkC b).1.length≤1024:=zzd _ _ _ _ (by omega) (by simp)
theorem zAA (L:Lim) (h:zab) (bs:List (List zaa)) (ts:List Nat) (i off:Nat) (cs:List zaa) (h1:(decide (L.rob≤h.blks.length)&&decide (L.nb≤h.blks.length+i))=true):
    zcF L (hx h bs ts) (pA h.blks.length i off) cs=stO h bs ts i off cs bs[i]?:=by
  simp only [Bool.and_eq_true,decide_eq_true_eq] at h1
  unfold zcF pA stO stI hx
  simp only
  rw [List.getElem?_append_right (Nat.le_add_right _ _),Nat.add_sub_cancel_left]
  cases bs[i]? with
  | none=>rfl
  | some old=>
    simp only [Option.bind_some]
    by_cases hc:off+cs.length≤old.length
    · rw [if_pos ⟨by omega, hc, .inl (by omega)⟩, if_pos (by simpa using hc)]
      rw [List.set_append_right _ _ (Nat.le_add_right _ _),Nat.add_sub_cancel_left]
    · rw [if_neg (fun h=>hc h.2.1),if_neg (by simpa using hc)]
def z32:List Int:=tab 32 fun _=>0
def tC0 (n B:Nat) (tg:List Int):List zaa:=pA n B 0 :: (cI .u8 tg++[.nif])
theorem zCw (n B:Nat) {tg:List Int} (h:tg.length=32):(tC0 n B tg).length=34:=by simp [tC0,h]
theorem zIj (n B:Nat) {tg tg':List Int} (h:tg.length=32) (h':tg'.length=32):setAt (tC0 n B tg) 1 (cI .u8 tg')=tC0 n B tg':=by
  rw [zsF _ _ _ (by simp [tC0,h,h'])]
  unfold putAt tC0
  rw [List.take_succ_cons,List.take_zero]
  have:(pA n B 0 :: (cI .u8 tg++[zaa.nif])).drop (1+(cI .u8 tg').length)=[.nif]:=by
    rw [show 1+(cI .u8 tg').length=32+1 by simp [h'],List.drop_succ_cons,List.drop_left' (by simp [h])]
  rw [this]
  rfl
theorem zFj (n B:Nat) {tg:List Int} (h:tg.length=32):setAt (tC0 n B tg) 33 [.iface 84 (.agg [pA n (B+3) 0])]=tC n B tg:=by
  rw [zsF _ _ _ (by simp [tC0,h])]
  unfold putAt tC0 tC
  rw [show 33=32+1 from rfl,List.take_succ_cons,List.take_left' (by simp [h])]
  have:(pA n B 0 :: (cI .u8 tg++[zaa.nif])).drop (32+1 + [zaa.iface 84 (.agg [pA n (B+3) 0])].length)=[]:=by
    rw [List.drop_eq_nil_iff];simp [h]
  rw [this]
  simp
theorem zOu (n B:Nat) {tg:List Int} (h:tg.length=32):zd2 true (tC0 n B tg) 1 32=some (.agg (cI .u8 tg)):=by
  have:((tC0 n B tg).drop 1).take 32=cI .u8 tg:=by
    unfold tC0
    rw [List.drop_one,List.tail_cons,List.take_left' (by simp [h])]
  unfold zd2
  rw [if_pos rfl,if_pos (by simp [tC0,h]),this]
theorem zLx (L:Lim) (h:zab) (p:zaa) (t:TypeId) (v:zaa):stK L h 1 p (.iface t v)=stM (zcF L h p [.iface t v]):=by simp [stK,zaa.cells,zaa.okV]
theorem zx8 (L:Lim) (h:zab) (bs:List (List zaa)) (ts:List Nat) (c:Bool) (p:List Int) (hp:inB p) (hl:p.length < 1000000000) (hL:L.rob≤h.blks.length) (hnb:L.nb≤h.blks.length+bs.length):
    zae ctx L zcn [.int .i64 1,.vsl c (eI .u8 p)] (hx h bs ts)=
      if (zkC p).2.2=0 then some (.tup [pA h.blks.length (bs.length+1) 0,.int .i64 (-1),.int .i64 0],hx h (trB h.blks.length bs (zna p) []) ts)
      else some (.tup [.nilp,.int .i64 (zkC p).2.1,.int .i64 (zkC p).2.2],hx h bs ts):=by
  rw [znD]
  have hG:=fun L=>zJy L h bs ts c p hp hl
  have hpl:=zze p
  have hTg:=fun L h=>zLu L h 1 (zkC p).1 (by omega)
  rw [← zx6] at hTg
  have htl:=zuS p
  have hIt:=fun L H b hb=>zD0 L H (.ptr b 0) b (zJx p) rfl hb (by show (zkC p).1.length < _;omega)
  have hng:(zJx p).l=(zkC p).1:=rfl
  rw [hng] at hIt
  by_cases he:(zkC p).2.2=0
  · rw [if_pos he]
    simp only [if_pos he] at hG
    have hB:trB h.blks.length bs (zna p) []=bs++[guC (zJx p),tC h.blks.length bs.length (zCq p),cI .u8 (zxX (zCq p)).S,spO h.blks.length (bs.length+2) (zxX (zCq p))]:=by simp [trB,trW,zna]
    rw [hB]
    generalize zx0 1 (zkC p).1=tgl at*
    have hOf:=fun L hL w=>zyA L h (bs++w) ts (zCq p) htl hL
    generalize zCq p=tg at*
    generalize (zkC p).1.map It.cells=its at*
    generalize zJx p=g at*
    have hfill:zaE [zaa.nilp,.int .u8 0,.int .u8 0,.int .u8 0,.int .u8 0,.int .u8 0,.int .u8 0,.int .u8 0,.int .u8 0,.int .u8 0,.int .u8 0,.int .u8 0,.int .u8 0,.int .u8 0,.int .u8 0,.int .u8 0,.int .u8 0,.int .u8 0,.int .u8 0,.int .u8 0,.int .u8 0,.int .u8 0,.int .u8 0,.int .u8 0,.int .u8 0,.int .u8 0,.int .u8 0,.int .u8 0,.int .u8 0,.int .u8 0,.int .u8 0,.int .u8 0,.int .u8 0,.nif] [(0,1,pA h.blks.length bs.length 0)]=some (tC0 h.blks.length bs.length z32):=rfl
    have hzl:z32.length=32:=by simp [z32]
    have l1:=zCw h.blks.length bs.length hzl
    have l2:=zCw h.blks.length bs.length htl
    have s1:=zIj h.blks.length bs.length hzl htl
    have s2:=zFj h.blks.length bs.length htl
    have p1:=zOu h.blks.length bs.length htl
    have hfif:zaE [zaa.nilp] [(0,1,pA h.blks.length (bs.length+3) 0)]=some [pA h.blks.length (bs.length+3) 0]:=rfl
    have gb:∀ w:List (List zaa),(bs++w)[bs.length+1]?=w[1]?:=fun w=>zc6 bs w bs.length 1 rfl
    have gb0:∀ w:List (List zaa),(bs++w)[bs.length]?=w[0]?:=fun w=>zc6 bs w bs.length 0 rfl
    have sb:∀ (w:List (List zaa)) v,(bs++w).set (bs.length+1) v=bs++w.set 1 v:=fun w v=>zeJ bs w bs.length 1 v rfl
    have hst:=fun w off cs=>zAA L h (bs++w) ts (bs.length+1) off cs (by simp only [Bool.and_eq_true,decide_eq_true_eq];exact ⟨hL,by omega⟩)
    simp only [List.length_append,List.length_cons,List.length_nil] at hOf
    have hgi:∀ w:List (List zaa),w[0]?=some (guC g)→∀ L,zae ctx L zb3 [pA h.blks.length bs.length 0] (hx h (bs++w) ts)=some (.vsl false its,hx h (bs++w) ts):=fun w hw L=>hIt L _ (h.blks.length+bs.length) (zqb ts (by rw [gb0,hw]))
    generalize tC0 h.blks.length bs.length z32=T0 at*
    generalize tC0 h.blks.length bs.length tg=T1 at*
    generalize tC h.blks.length bs.length tg=T2 at*
    simp -implicitDefEqProofs [zeP,hG,hTg,hgi,hfill,hfif,zdV,zIw,zCT,gb,gb0,sb,hst,zbV,zai,zLx,l1,l2,s1,s2,p1,hOf,hL,htl]
  · rw [if_neg he]
    simp only [if_neg he] at hG
    have be:((zkC p).2.2==0)=false:=by simp [he]
    simp -implicitDefEqProofs [zeP,hG,bne,be]
end Go.Av
namespace Go.Av
def p0:List Int:=[1,1,1,0,0,0,0,0,2,1,32,0,0,0,0,0]
theorem zPI:(zkC p0).2.2=0:=by decide +kernel
theorem zOs:(zmi (zna p0) 1 [1]).2=0:=by decide +kernel
theorem zOw:(zmi (zna p0) 1 [2]).2=0:=by decide +kernel
theorem zOx:(zm7 (zmi (zna p0) 1 [1]).1 32).1.2=0:=by decide +kernel
theorem zOy:(zm7 (zmi (zna p0) 1 [2]).1 32).1.2=0:=by decide +kernel
theorem zOr:(zm7 (zmi (zna p0) 1 [1]).1 32).1.1.length=32:=by decide +kernel
theorem zOz:(zm7 (zmi (zna p0) 1 [2]).1 32).1.1.length=32:=by decide +kernel
theorem zOA:(zm7 (zmi (zna p0) 1 [1]).1 32).1.1≠(zm7 (zmi (zna p0) 1 [2]).1 32).1.1:=by decide +kernel
end Go.Av
namespace Go.Av
structure Tc.ok (t:Tc):Prop where
  s:t.s.ok
  tg:t.tg.length=32
  l:t.g.l.length≤1024
  k:t.g.k≤t.g.l.length
  cnt:∀ x∈t.g.l,x.count≤1048576
theorem zsu {g:Gd} (h:¬g.e=0) (e:Int):zcg g e=g:=if_neg h
theorem zsv {g:Gd} (h:¬g.e=0) (k t c:Int):zbt g k t c=g:=by
  unfold zbt;rw [zsu h,if_neg h]
theorem zua {g:Gd} (h:¬g.e=0):zvA g=g:=zsu h _
theorem zud {g:Gd} {k t c:Int} (h:(zbt g k t c).e=0):zdx g k t c=true:=by
  rw [zxA] at h
  cases hn:zdx g k t c with
  | true=>rfl
  | false=>
    rw [hn] at h
    simp only [Bool.false_eq_true,if_false] at h
    unfold zcg at h
    split at h
    · simp at h
    · contradiction
theorem zzx {g:Gd} {k t c:Int} (h:zdx g k t c=true):g.k < g.l.length∧(gd g.l ⟨0,0,0,⟨#[]⟩⟩ g.k).count=c:=by
  unfold zdx zvO at h
  simp only [Bool.and_eq_true,decide_eq_true_eq,beq_iff_eq] at h
  exact ⟨h.1,h.2.2.2⟩
theorem zI3 {g:Gd} (k t c:Int) (h:g.k≤g.l.length):(zbt g k t c).k≤(zbt g k t c).l.length:=by
  rw [zxz]
  have hd:zbt g k t c=if (zcg g (if zdx g k t c then 0 else 10)).e=0 then {zcg g (if zdx g k t c then 0 else 10) with k:=g.k+1} else zcg g (if zdx g k t c then 0 else 10):=rfl
  by_cases h0:(zcg g (if zdx g k t c then 0 else 10)).e=0
  · have h1 : (zbt g k t c).e = 0 := by rw [zxA]; exact h0
    have:=(zzx (zud h1)).1
    rw [hd,if_pos h0]
    simp only;omega
  · rw [hd,if_neg h0,(zmZ _ _).2];exact h
theorem zDr {α:Type} {l:List α} {d:α} {i:Nat} (h:i < l.length):gd l d i∈l:=by
  have:gd l d i=l[i]:=by simp [gd,List.getD,h]
  rw [this];exact List.getElem_mem h
theorem Tc.ok.next {t:Tc} (h:t.ok) (k ty c:Int) (q:Sp) (hq:q.ok):Tc.ok {t with g:=zbt t.g k ty c,s:=q}:=
  ⟨hq,h.tg,by simp only [zxz];exact h.l,zI3 k ty c h.k,by simp only [zxz];exact h.cnt⟩
theorem Tc.ok.fail {t:Tc} (h:t.ok) (e:Int):Tc.ok {t with g:=zcg t.g e}:=
  ⟨h.s,h.tg,by simp only [(zmZ _ _).1];exact h.l,by simp only [(zmZ _ _).1,(zmZ _ _).2];exact h.k,by simp only [(zmZ _ _).1];exact h.cnt⟩
theorem Tc.ok.count {t:Tc} (h:t.ok) {k ty c:Int} (hn:(zbt t.g k ty c).e=0):c≤1048576:=by
  obtain ⟨h1,h2⟩:=zzx (zud hn)
  rw [← h2]
  exact h.cnt _ (zDr h1)
theorem zrd {s:Sp} (hs:s.ok) (k t c:Int) (b:List Int):(zbQ s (opB k t c b)).c≤s.c+b.length+7:=by
  have h1:=zsH hs (opB k t c b)
  have h2:(opB k t c b).length≤6+b.length:=by unfold opB;split <;> simp [zm1];omega
  omega
theorem zyp {t:Tc} (h:t.ok) (ty:Int) {b:List Int} (hb:inB b):(zmi t ty b).1.ok∧(zmi t ty b).1.s.c≤t.s.c+b.length+7:=by
  unfold zmi
  split
  · split
    · split
      · split
        · exact ⟨h.next _ _ _ _ (zgb h.s (zn5 _ _ _ hb)),zrd h.s _ _ _ _⟩
        · exact ⟨(h.next _ _ _ _ h.s).fail _,by simp only;omega⟩
      · exact ⟨h.next _ _ _ _ h.s,by simp only;omega⟩
    · exact ⟨h.fail _,by simp only;omega⟩
  · exact ⟨h,by simp only;omega⟩
theorem zsz:inB []:=fun i hi=>by simp at hi
theorem zDv {t:Tc} (h:t.ok) (N:Int):(zm7 t N).2.ok∧(zm7 t N).2.s.c≤t.s.c+N.toNat+7:=by
  unfold zm7
  have h1:=zgb h.s (zn5 2 1 N zsz)
  have h2:=zrd h.s 2 1 N []
  have h3:=zsb (zbQ t.s (opB 2 1 N [])) N.toNat
  simp only [List.length_nil] at h2
  split
  · exact ⟨h.next _ _ _ _ (zl6 h1 _),by simp only;omega⟩
  · exact ⟨h.next _ _ _ _ h.s,by simp only;omega⟩
theorem zDx {t:Tc} (h:t.ok) (N:Int):inB (zm7 t N).1.1:=by
  unfold zm7
  split
  · exact zzm (zgb h.s (zn5 2 1 N zsz)) _
  · exact zsz
theorem zAK {s:Sp} (h:s.ok) (n:Nat):(zaJ s n).2.ok∧(zaJ s n).2.c≤s.c+2048*n:=zzp n [] 0 h
theorem zDz {t:Tc} (h:t.ok) (N:Int):(zpo t N).2.ok∧(zpo t N).2.s.c≤t.s.c+2048*N.toNat+7:=by
  unfold zpo
  have h1:=zgb h.s (zn5 2 3 N zsz)
  have h2:=zrd h.s 2 3 N []
  have h3:=zAK h1 N.toNat
  simp only [List.length_nil] at h2
  split
  · split
    · exact ⟨h.next _ _ _ _ h3.1,by simp only;omega⟩
    · exact ⟨(h.next _ _ _ _ h3.1).fail _,by simp only;omega⟩
  · exact ⟨h.next _ _ _ _ h.s,by simp only;omega⟩
theorem zI9 {t:Tc} (h:t.ok):(zy0 t).1.ok∧(zy0 t).1.s.c≤t.s.c+8:=by
  unfold zy0
  have h1:=zgb h.s (zn5 3 0 1 zsz)
  have h2:=zrd h.s 3 0 1 []
  have h3:(zEg (zbQ t.s (opB 3 0 1 []))).c=(zbQ t.s (opB 3 0 1 [])).c+1:=rfl
  simp only [List.length_nil] at h2
  split
  · exact ⟨h.next _ _ _ _ (zH4 h1),by simp only;omega⟩
  · exact ⟨h.next _ _ _ _ h.s,by simp only;omega⟩
theorem zJa {t:Tc} (h:t.ok):Tc.ok {t with g:=zvA t.g}:=h.fail _
theorem zGf {b:List Int} (h:(zu1 b).2.2=0):(zu1 b).1.count≤1048576:=by
  unfold zu1 at h ⊢
  split at h
  · simp at h
  · split at h
    · next h1 h2=>
      rw [if_neg h1,if_pos h2]
      exact (zqU h2).2.2.2.2.2.1
    · next h1 h2=>exact absurd h h2
theorem zzy:∀ (f:Nat) (b:List Int) (k:Nat) (acc:List It),(∀ x∈acc,x.count≤1048576)→∀ x∈(zGr f b k acc).1,x.count≤1048576
  | 0,b,k,acc,h=>h
  | f + 1, b, k, acc, h => by
    unfold zGr
    split
    · exact h
    · split
      · intro x hx;simp at hx
      · split
        · next he=>
          refine zzy f _ _ _ ?_
          intro x hx
          rcases List.mem_append.1 hx with h1 | h1
          · exact h x h1
          · rw [List.mem_singleton.1 h1];exact zGf he
        · intro x hx;simp at hx
theorem zJe (p:List Int):inB (zCq p):=by
  rw [zx6]
  unfold zx0
  split
  · exact zq2 32
  · split
    · exact zq2 32
    · exact zl9 (zt4 _) 32
theorem zDC (p:List Int) (hp:inB p):(zna p).ok:=
  ⟨zH7 (by rw [zuS];decide) (zJe p),zuS p,zze p,Nat.zero_le _,zzy _ _ _ _ (by simp)⟩
theorem zHj (p:List Int):(zna p).s.c=0:=rfl
theorem zDD (s:Sp) (k:Nat):zvE 0 s k=((zE,64,11),s):=by rw [zvE]
theorem zDE (f:Nat) (s:Sp) (k:Nat):zvE (f+1) s k=if leN (zAE (zi0 s 32)) < pN then ((fe (leN (zAE (zi0 s 32))),(k:Int)+1,0),zdl s 32) else zvE f (zdl s 32) (k+1):=by rw [zvE]
theorem zJh (f:Nat):∀ (s:Sp) (k:Nat),(zvE f s k).1.2.2=0→∃ x,(zvE f s k).1.1=fe x:=by
  induction f with
  | zero=>
    intro s k h
    rw [zDD] at h
    exact absurd h (by simp)
  | succ f ih=>
    intro s k h
    rw [zDE] at h ⊢
    by_cases h0:leN (zAE (zi0 s 32)) < pN
    · rw [if_pos h0];exact ⟨leN (zAE (zi0 s 32)),by simp only⟩
    · rw [if_neg h0] at h ⊢
      exact ih _ _ h
theorem zzA:∀ (n:Nat) (s:Sp) (acc:List (List W64)) (t:Int),(∀ f∈acc,∃ x,f=fe x)→∀ f∈(znh n s acc t).1.1,∃ x,f=fe x
  | 0,s,acc,t,h=>h
  | n + 1, s, acc, t, h => by
    unfold znh
    split
    · next h0=>
      refine zzA n _ _ _ ?_
      intro f hf
      rcases List.mem_append.1 hf with h1 | h1
      · exact h f h1
      · rw [List.mem_singleton.1 h1]
        rw [zoL] at h0 ⊢
        exact zJh 64 s 0 h0
    · intro f hf;simp at hf
theorem zJi (t:Tc) (N:Int):∀ f∈(zpo t N).1.1,∃ x,f=fe x:=by
  unfold zpo
  split
  · split
    · exact zzA _ _ _ _ (by simp)
    · intro f hf;simp at hf
  · intro f hf;simp at hf
theorem zDG:∀ l:List (List W64),(∀ f∈l,∃ x,f=fe x)→∃ xs:List Nat,l=xs.map fe
  | [],_=>⟨[],rfl⟩
  | f :: l, h => by
    obtain ⟨x,rfl⟩:=h f (by simp)
    obtain ⟨xs,rfl⟩:=zDG l fun g hg=>h g (by simp [hg])
    exact ⟨x :: xs,rfl⟩
theorem zDI (t:Tc) (N:Int):∃ xs:List Nat,(zpo t N).1.1=xs.map fe:=zDG _ (zJi t N)
noncomputable def xsT (t:Tc) (N:Int):List Nat:=Classical.choose (zDI t N)
theorem zDJ (t:Tc) (N:Int):(zpo t N).1.1=(xsT t N).map fe:=Classical.choose_spec (zDI t N)
theorem zzB:∀ (n:Nat) (s:Sp) (acc:List (List W64)) (t:Int),(znh n s acc t).1.1.length≤acc.length+n
  | 0,s,acc,t=>by simp [znh]
  | n + 1, s, acc, t => by
    unfold znh
    split
    · have:=zzB n (zbs s).2 (acc++[(zbs s).1.1]) (IntKind.i64.wrap (t+(zbs s).1.2.1))
      simp only [List.length_append,List.length_singleton] at this
      omega
    · simp
theorem zJl (t:Tc) (N:Int) (M:Nat) (h:(zbt t.g 2 3 N).e=0→N.toNat≤M):(xsT t N).length≤M:=by
  have h1:(xsT t N).length=(zpo t N).1.1.length:=by rw [zDJ];simp
  rw [h1]
  unfold zpo
  by_cases h0:(zbt t.g 2 3 N).e=0
  · rw [if_pos h0]
    split
    · have:=zzB N.toNat (zbQ t.s (opB 2 3 N [])) [] 0
      have h2:=h h0
      simp only [List.length_nil] at this
      show (znh N.toNat (zbQ t.s (opB 2 3 N [])) [] 0).1.1.length≤M
      omega
    · simp
  · rw [if_neg h0];simp
theorem zJm {t:Tc} {N:Int} (h:¬(zpo t N).1.2=0):xsT t N=[]:=by
  have h1:(zpo t N).1.1=[]:=by
    unfold zpo at h ⊢
    by_cases h0:(zbt t.g 2 3 N).e=0
    · rw [if_pos h0] at h ⊢
      split
      · next h2=>rw [if_pos h2] at h;exact absurd rfl h
      · rfl
    · rw [if_neg h0]
  rw [zDJ] at h1
  simpa using h1
noncomputable def doT (t:Tc) (d ty N:Int) (b:List Int):(Int × List Int) × Tc:=
  if d=0 then (((zmi t ty b).2,[]),(zmi t ty b).1)
  else if d=1 then (((zm7 t N).1.2,(zm7 t N).1.1),(zm7 t N).2)
  else if d=2 then (((zpo t N).1.2,(xsT t N).flatMap feB),(zpo t N).2)
  else (((zy0 t).2,[]),(zy0 t).1)
theorem zMj (t:Tc) (ty:Int) (b:List Int):(zmi t ty b).1.g.e=(zmi t ty b).2:=by
  unfold zmi
  by_cases h0:t.g.e=0
  · rw [if_pos h0]
    by_cases h1:(zqT ty b.length).2=0
    · rw [if_pos h1]
      by_cases h2:(zbt t.g 1 ty (zqT ty b.length).1).e=0
      · rw [if_pos h2]
        split
        · exact h2
        · rfl
      · rw [if_neg h2]
    · rw [if_neg h1]
  · rw [if_neg h0]
theorem zMl (t:Tc) (N:Int):(zm7 t N).2.g.e=(zm7 t N).1.2:=by
  unfold zm7
  by_cases h0:(zbt t.g 2 1 N).e=0
  · rw [if_pos h0];exact h0
  · rw [if_neg h0]
theorem zMm (t:Tc) (N:Int):(zpo t N).2.g.e=(zpo t N).1.2:=by
  unfold zpo
  by_cases h0:(zbt t.g 2 3 N).e=0
  · rw [if_pos h0]
    split
    · exact h0
    · rfl
  · rw [if_neg h0]
theorem zMn (t:Tc):(zy0 t).1.g.e=(zy0 t).2:=by
  unfold zy0
  by_cases h0:(zbt t.g 3 0 1).e=0
  · rw [if_pos h0];exact h0
  · rw [if_neg h0]
theorem zOU (t:Tc) (d ty N:Int) (b:List Int):(doT t d ty N b).2.g.e=(doT t d ty N b).1.1:=by
  unfold doT
  split
  · exact zMj _ _ _
  · split
    · exact zMl _ _
    · split
      · exact zMm _ _
      · exact zMn _
theorem zDM {t:Tc} (h:¬t.g.e=0) (d ty N:Int) (b:List Int):doT t d ty N b=((t.g.e,[]),t):=by
  have hc:zpo t N=(([],t.g.e),t):=by unfold zpo;simp only [zsv h,if_neg h]
  have hx:xsT t N=[]:=zJm (by rw [hc];exact h)
  unfold doT
  rw [hx,hc]
  unfold zmi zm7 zy0
  simp only [zsv h,if_neg h]
  split
  · rfl
  · split
    · rfl
    · split
      · rfl
      · rfl
theorem zKK {t:Tc} (h:t.ok) (d ty N:Int) {b:List Int} (hb:inB b) (hl:b.length≤400) (hN:N≤1048576→N≤100):
    (doT t d ty N b).2.ok∧(doT t d ty N b).2.s.c≤t.s.c+300000:=by
  unfold doT
  split
  · have:=zyp h ty hb
    exact ⟨this.1,by simp only;omega⟩
  · split
    · refine ⟨(zDv h N).1,?_⟩
      by_cases h0:(zbt t.g 2 1 N).e=0
      · have h1:=(zDv h N).2
        have h2:=h.count h0
        have:=hN h2
        simp only;omega
      · unfold zm7;rw [if_neg h0];simp only;omega
    · split
      · refine ⟨(zDz h N).1,?_⟩
        by_cases h0:(zbt t.g 2 3 N).e=0
        · have h1:=(zDz h N).2
          have h2:=h.count h0
          have:=hN h2
          simp only;omega
        · unfold zpo;rw [if_neg h0];simp only;omega
      · have:=zI9 h
        exact ⟨this.1,by simp only;omega⟩
end Go.Av
