/- A transcript as it lies, its calls, and what they do. -/
import Derived.Test.YtbookmjmhfoolaaGreatDoorMC5
import Derived.Test.YtbookmjmhfoolaaGreatDoorMC6
import Derived.Test.YtbookmjmhfoolaaGreatDoorMC3
import Derived.Test.YtbookmjmhfoolaaGreatDoorMC1
set_option linter.unusedSimpArgs false
set_option linter.unusedVariables false
set_option maxHeartbeats 2000000
set_option maxRecDepth 100000
namespace Go.Av
theorem zwi (h:zab) (bs js:List (List zaa)) (ts us:List Nat) (n:Nat) (hn:n=bs.length):zdN (hx h (bs++js) (ts++us)) (h.blks.length+n) (h.toks.length+ts.length)=hx h bs ts:=by
  subst hn
  unfold zdN hx
  have e : ∀ {α : Type} (a b c : List α), (a ++ (b ++ c)).take (a.length + b.length) = a ++ b := fun a b c => by
    rw [← List.append_assoc,List.take_left' (by simp)]
  simp only [e]
theorem zok (k t c:Int) {b:List Int} (hb:inB b):inB (opB k t c b):=by
  unfold opB
  split
  · rw [znl]
    have hw:=fun n:Int=>show 0≤IntKind.u8.wrap n∧IntKind.u8.wrap n < 256 by unfold IntKind.wrap;simp [IntKind.signed,IntKind.bits];omega
    exact ziB.2 ⟨hw _,ziB.2 ⟨hw _,ziB.2 ⟨hw _,ziB.2 ⟨hw _,ziB.2 ⟨hw _,ziB.2 ⟨hw _,hb⟩⟩⟩⟩⟩⟩
  · intro i hi;simp at hi
theorem zHL (k t c:Int) {b:List Int} (hl:b.length < 10000000):(opB k t c b).length < 100000000:=by
  unfold opB
  split
  · rw [znl];simp;omega
  · simp
theorem zCL (L:Lim) (h:zab) (bs:List (List zaa)) (ts:List Nat) (i j:Nat) (s:Sp) (hs:s.ok) (N:Int) (n:Nat) (hN:n=N.toNat) (hn:n < 10000) (hc:s.c < 50000000)
    (hi:i < bs.length) (hj:j < bs.length) (hij:i≠j) (hL:L.rob≤h.blks.length) (hT:L.rot≤h.toks.length):
    zag ctx L zfq [.int .i64 N,fnB h.blks.length i] (hx h (spH bs i j h.blks.length s) ts)=some (.tup [.vsl false ((zaC s n).1.1.map cW),.int .i64 (zaC s n).1.2.1,.int .i64 (zaC s n).1.2.2],hx h (spH bs i j h.blks.length (zaC s n).2) ts):=by
  rw [zot]
  obtain ⟨M,hM⟩:∃ M:Int,M=max N 0:=⟨_,rfl⟩
  have hmx:zqB true (.int .i64 N) [.int .i64 0]=some (.int .i64 M):=by
    simp only [zqB,zLF,bind,Option.bind_some,if_true]
    rw [hM]
    by_cases h0:(0:Int) > N
    · rw [if_pos h0,show max N 0=0 by omega]
    · rw [if_neg h0,show max N 0=N by omega]
  have hlo:=fun fr R=>zyD (L:=⟨L.rob,L.rot,h.blks.length+bs.length,h.toks.length+ts.length⟩) (fr:=fr) (h:=h) (R:=R) bs ts i j s hs M n (by omega) hn hc hi hj hij hL hT
  have hl1:=zfV bs i j h.blks.length s
  have hl2:=zfV bs i j h.blks.length (zaC s n).2
  have hun:=zvn (h.blks.length+bs.length) (h.toks.length+ts.length) (zaC s n).1.1
  have hfz:=fun hh m=>zoN (h1:=hh) (nb:=h.blks.length+bs.length) (nt:=h.toks.length+ts.length) (n:=m) (s:=.nsl) (.inl rfl) hun
  simp only [zIK] at hfz
  generalize zaC s n=E at*
  obtain ⟨⟨l,t,e⟩,q⟩:=E
  simp only at*
  generalize spH bs i j h.blks.length s=B1 at*
  generalize spH bs i j h.blks.length q=B at*
  have htr:∀ jk us,zdN (hx h (B++jk) (ts++us)) (h.blks.length+bs.length) (h.toks.length+ts.length)=hx h B ts:=fun jk us=>zwi h B jk ts us bs.length hl2.symm
  simp -implicitDefEqProofs [zhv,zan,zal,hl1,hmx]
  generalize hF:run ctx _ (.loop _) _ _=R
  obtain ⟨e,fr',jk,us,rfl,⟨rfl,rfl,f7,f8,he⟩ | ⟨rfl,hnil,f4,f5,f6⟩⟩:=hlo _ _ hF (by simp) (by simp) (by simp) (by simp) (by simp)
  · rw [he]
    simp -implicitDefEqProofs [f7,f8,hfz,htr,zan,zal,hl1]
  · rw [hnil]
    simp -implicitDefEqProofs [f4,f5,f6,htr,zan,zal,hl1]
theorem zuQ (L:Lim) (h:zab) (bs:List (List zaa)) (ts:List Nat) (i j:Nat) (s:Sp) (hs:s.ok) (k t c:Int) (b:List Int) (d:zaa) (hd:∀ h,fzA h d=some (.vsl false (eI .u8 b),false)) (hf:d.flat=false) (hb:inB b) (hl:b.length < 10000000) (hc:s.c < 100000000)
    (hi:i < bs.length) (hj:j < bs.length) (hij:i≠j) (hL:L.rob≤h.blks.length):
    zag ctx L za7 [.agg [pA h.blks.length i 0],.agg [.int .i64 k,.int .i64 t,.int .i64 c,d]] (hx h (spH bs i j h.blks.length s) ts)=some (.tup [],hx h (spH bs i j h.blks.length (zbF s (opB k t c b))) ts):=by
  rw [zhj]
  have hT:=fun L h=>zLG L h k t c b d hd hf hb (by omega)
  have hA:=fun L hL=>zAb L h bs ts i j s hs false (opB k t c b) (zok k t c hb) (zHL k t c hl) hc hi hj hij hL
  have htr:=fun q=>zpx h bs ts i j (spO h.blks.length j q) (cI .u8 q.S)
  have hl1:=zfV bs i j h.blks.length s
  have htr2:zdN (hx h (spH bs i j h.blks.length (zbF s (opB k t c b))) ts) (h.blks.length+bs.length) (h.toks.length+ts.length)=hx h (spH bs i j h.blks.length (zbF s (opB k t c b))) ts:=htr _
  generalize opB k t c b=o at*
  generalize spH bs i j h.blks.length (zbF s o)=B2 at*
  generalize spH bs i j h.blks.length s=B1 at*
  simp -implicitDefEqProofs [zcC,zan,zal,hl1,zmH,zaa.okV,zaa.cells,zae,zaf,hT,hA,hL,htr2]
theorem zFK (L:Lim) (h:zab) (bs:List (List zaa)) (ts:List Nat) (i j:Nat) (s:Sp) (hs:s.ok) (N:Int) (n:Nat) (hN:n=N.toNat) (hn:n < 1000000) (hc:s.c < 100000000)
    (hi:i < bs.length) (hj:j < bs.length) (hij:i≠j) (hL:L.rob≤h.blks.length) (hT:L.rot≤h.toks.length):
    zag ctx L zaZ [.agg [pA h.blks.length i 0],.int .i64 N] (hx h (spH bs i j h.blks.length s) ts)=some (.vsl false (eI .u8 (zjz s n)),hx h (spH bs i j h.blks.length (zdj s n)) ts):=by
  rw [zgN]
  have hS:=fun L hL hT=>zrY L h bs ts i j s hs N n hN hn hc hi hj hij hL hT
  have hl1:=zfV bs i j h.blks.length s
  have htr2:zdN (hx h (spH bs i j h.blks.length (zdj s n)) ts) (h.blks.length+bs.length) (h.toks.length+ts.length)=hx h (spH bs i j h.blks.length (zdj s n)) ts:=zpx h bs ts i j _ _
  generalize zjz s n=l at*
  generalize spH bs i j h.blks.length (zdj s n)=B2 at*
  generalize spH bs i j h.blks.length s=B1 at*
  simp -implicitDefEqProofs [zcg,zan,zal,hl1,zmH,zaa.okV,zaa.cells,zae,hS,hL,hT,htr2]
theorem zCN (L:Lim) (h:zab) (bs:List (List zaa)) (ts:List Nat) (i j:Nat) (s:Sp) (hs:s.ok) (N:Int) (n:Nat) (hN:n=N.toNat) (hn:n < 10000) (hc:s.c < 50000000)
    (hi:i < bs.length) (hj:j < bs.length) (hij:i≠j) (hL:L.rob≤h.blks.length) (hT:L.rot≤h.toks.length):
    zag ctx L zaP [.agg [pA h.blks.length i 0],.int .i64 N] (hx h (spH bs i j h.blks.length s) ts)=some (.tup [.vsl false ((zaC s n).1.1.map cW),.int .i64 (zaC s n).1.2.2],hx h (spH bs i j h.blks.length (zaC s n).2) ts):=by
  rw [zgs]
  have hS:=fun L hL hT=>zCL L h bs ts i j s hs N n hN hn hc hi hj hij hL hT
  have hl1:=zfV bs i j h.blks.length s
  have htr2:zdN (hx h (spH bs i j h.blks.length (zaC s n).2) ts) (h.blks.length+bs.length) (h.toks.length+ts.length)=hx h (spH bs i j h.blks.length (zaC s n).2) ts:=zpx h bs ts i j _ _
  have hun:=zvn (h.blks.length+bs.length) (h.toks.length+ts.length) (zaC s n).1.1
  generalize zaC s n=E at*
  obtain ⟨⟨l,t,e⟩,q⟩:=E
  simp only at*
  generalize spH bs i j h.blks.length q=B2 at*
  generalize spH bs i j h.blks.length s=B1 at*
  have hfz:=fun hh m=>zhO hh (h.blks.length+bs.length) (h.toks.length+ts.length) m false hun
  generalize l.map cW=lw at*
  unfold fnB at hS
  simp -implicitDefEqProofs [zb2,zan,zal,hl1,zmH,zaa.okV,zaa.cells,zae,zaf,hS,hL,hT,htr2,hfz]
end Go.Av
namespace Go.Av
structure Tc where
  g:Gd
  tg:List Int
  s:Sp
def tC (n B:Nat) (tg:List Int):List zaa:=pA n B 0 :: (cI .u8 tg++[.iface 109 (.agg [pA n (B+3) 0])])
def trW (n B:Nat) (t:Tc):List (List zaa):=[guC t.g,tC n B t.tg,cI .u8 t.s.S,spO n (B+2) t.s]
def trB (n:Nat) (bs:List (List zaa)) (t:Tc) (js:List (List zaa)):List (List zaa):=bs++(trW n bs.length t++js)
section
variable (n:Nat) (bs:List (List zaa)) (t:Tc) (js:List (List zaa))
theorem zno (w:List (List zaa)):trB n bs t js++w=trB n bs t (js++w):=by simp [trB]
theorem zbD:(trB n bs t js).length=bs.length+(4+js.length):=by simp [trB,trW];omega
theorem zAn:(trB n bs t js)[bs.length]?=some (guC t.g):=zdo bs _ bs.length 0 rfl
theorem zwo:(trB n bs t js)[bs.length+1]?=some (tC n bs.length t.tg):=zdo bs _ bs.length 1 rfl
theorem zx7 (w:List (List zaa)) (k:Nat):(trB n bs t (js++w))[bs.length+(4+js.length+k)]?=w[k]?:=by
  unfold trB
  rw [zdo bs _ bs.length _ rfl,← List.append_assoc,List.getElem?_append_right (by simp [trW];omega)]
  congr 1
  simp [trW];omega
theorem zoq (w:List (List zaa)) (k:Nat) (v:List zaa):(trB n bs t (js++w)).set (bs.length+(4+js.length+k)) v=trB n bs t (js++w.set k v):=by
  unfold trB
  rw [zeJ bs _ bs.length _ v rfl,← List.append_assoc,List.set_append_right _ _ (by simp [trW];omega),List.append_assoc]
  congr 4
  simp [trW];omega
theorem ztU (g:Gd):(trB n bs t js).set bs.length (guC g)=trB n bs {t with g:=g} js:=zeJ bs _ bs.length 0 _ rfl
theorem zrZ (q:Sp):spH (trB n bs t js) (bs.length+3) (bs.length+2) n q=trB n bs {t with s:=q} js:=by
  have e1:=zeJ bs (trW n bs.length t++js) bs.length 3 (spO n (bs.length+2) q) rfl
  have e2:=zeJ bs ((trW n bs.length t++js).set 3 (spO n (bs.length+2) q)) bs.length 2 (cI .u8 q.S) rfl
  unfold spH sp2 trB
  rw [e1,e2]
  rfl
theorem zDd (h:zab) (ts us:List Nat) (w:List (List zaa)):zdN (hx h (trB n bs t (js++w)) (ts++us)) (h.blks.length+(bs.length+(4+js.length))) (h.toks.length+ts.length)=hx h (trB n bs t js) ts:=by
  rw [← zno]
  exact zwi h _ w ts us _ (zbD n bs t js).symm
theorem zsa (h:zab) (ts:List Nat):zdN (hx h (trB n bs t js) ts) (h.blks.length+(bs.length+(4+js.length))) (h.toks.length+ts.length)=hx h (trB n bs t js) ts:=by
  have:=zDd n bs t js h ts [] []
  simpa using this
theorem zsb (h:zab) (ts:List Nat) (w:List (List zaa)):zdN (hx h (trB n bs t (js++w)) ts) (h.blks.length+(bs.length+(4+js.length))) (h.toks.length+ts.length)=hx h (trB n bs t js) ts:=by
  have:=zDd n bs t js h ts [] w
  simpa using this
end
theorem zL3 (n B:Nat) (tg:List Int):zei false (tC n B tg) 0 1=some (pA n B 0):=rfl
theorem zF5 (n B:Nat) (tg:List Int) (h:tg.length=32):zei false (tC n B tg) 33 1=some (.iface 109 (.agg [pA n (B+3) 0])):=by
  have:(tC n B tg)[33]?=some (.iface 109 (.agg [pA n (B+3) 0])):=by
    unfold tC
    rw [List.getElem?_cons_succ,List.getElem?_append_right (by simp [h])]
    simp [h]
  rw [zae]
  exact this
theorem zI0 (L:Lim) (h:zab) (bs js:List (List zaa)) (ts:List Nat) (t:Tc) (hL:L.rob≤h.blks.length):
    zag ctx L zbo [pA h.blks.length (bs.length+1) 0] (hx h (trB h.blks.length bs t js) ts)=some (.int .i64 t.g.e,hx h (trB h.blks.length bs t js) ts):=by
  rw [zgw]
  have hF:=fun L hL=>zsi L h (trB h.blks.length bs t js) ts bs.length t.g 0 (zAn _ _ _ _) hL
  have hf:zbY t.g 0=t.g:=by
    unfold zbY
    split
    · next h0=>obtain ⟨⟨l,k,e⟩,tg,s⟩:=t;simp only at h0 ⊢;rw [h0]
    · rfl
  rw [hf,ztU] at hF
  have htr:=zsa h.blks.length bs t js h ts
  have hl:=zbD h.blks.length bs t js
  have g1:=zwo h.blks.length bs t js
  have h0:=zL3 h.blks.length bs.length t.tg
  obtain ⟨g,tg,s⟩:=t
  simp only at*
  generalize trB h.blks.length bs ⟨g,tg,s⟩ js=B at*
  generalize tC h.blks.length bs.length tg=tcs at*
  simp -implicitDefEqProofs [zcb,zan,zal,hl,g1,h0,hF,hL,htr]
theorem zAE (L:Lim) (h:zab) (bs js:List (List zaa)) (ts:List Nat) (t:Tc) (hL:L.rob≤h.blks.length):
    zag ctx L za4 [pA h.blks.length (bs.length+1) 0] (hx h (trB h.blks.length bs t js) ts)=some (.int .i64 (zxH t.g).e,hx h (trB h.blks.length bs {t with g:=zxH t.g} js) ts):=by
  rw [zfs]
  have hF:=fun L hL=>zAh L h (trB h.blks.length bs t js) ts bs.length t.g (zAn _ _ _ _) hL
  rw [ztU] at hF
  have htr:=zsa h.blks.length bs {t with g:=zxH t.g} js h ts
  have hl:=zbD h.blks.length bs t js
  have g1:=zwo h.blks.length bs t js
  have h0:=zL3 h.blks.length bs.length t.tg
  generalize trB h.blks.length bs {t with g:=zxH t.g} js=B2 at*
  generalize trB h.blks.length bs t js=B at*
  generalize tC h.blks.length bs.length t.tg=tcs at*
  simp -implicitDefEqProofs [zbz,zan,zal,hl,g1,h0,hF,hL,htr]
theorem zq4 (L:Lim) (h:zab) (bs js:List (List zaa)) (ts:List Nat) (t:Tc) (k ty c:Int) (d:zaa) (hk:t.g.k < 1000000000) (hd:d.okV=true) (hL:L.rob≤h.blks.length):
    zag ctx L zav [pA h.blks.length (bs.length+1) 0,.agg [.int .i64 k,.int .i64 ty,.int .i64 c,d]] (hx h (trB h.blks.length bs t js) ts)=some (.int .i64 (zbi t.g k ty c).e,hx h (trB h.blks.length bs {t with g:=zbi t.g k ty c} js) ts):=by
  rw [zfZ]
  have hF:=fun L hL=>zJu L h (trB h.blks.length bs t js) ts bs.length t.g k ty c hk (zAn _ _ _ _) hL
  rw [ztU] at hF
  have htr:=zsa h.blks.length bs {t with g:=zbi t.g k ty c} js h ts
  have hl:=zbD h.blks.length bs t js
  have g1:=zwo h.blks.length bs t js
  have h0:=zL3 h.blks.length bs.length t.tg
  generalize trB h.blks.length bs {t with g:=zbi t.g k ty c} js=B2 at*
  generalize trB h.blks.length bs t js=B at*
  generalize tC h.blks.length bs.length t.tg=tcs at*
  simp -implicitDefEqProofs [zbR,zan,zal,hl,g1,h0,zmH,zaa.okV,zaa.cells,zae,hF,hL,htr]
end Go.Av
namespace Go.Av
theorem zzc (n:Nat) (bs:List (List zaa)) (t:Tc) (js:List (List zaa)) (hh):(trB n bs t js)[bs.length+1]'hh=tC n bs.length t.tg:=(List.getElem?_eq_some_iff.1 (zwo n bs t js)).2
theorem zt1 (n:Nat) (bs:List (List zaa)) (t:Tc) (js:List (List zaa)) (x:List zaa) (hh):(trB n bs t (js++[x]))[bs.length+(4+js.length)]'hh=x:=(List.getElem?_eq_some_iff.1 (zx7 n bs t js [x] 0)).2
theorem zL6 {C:Ctx} {L:Lim} {h:zab} {f:FuncId} (v:zaa) (as:List zaa):zGJ C L h (some ([(0,1,false)],f)) (.agg [v]) as=zag C L f (v :: as) h:=rfl
def zxA (t:Tc) (ty:Int) (b:List Int):Tc × Int:=
  if t.g.e=0 then
    if (zp6 ty b.length).2=0 then
      if (zbi t.g 1 ty (zp6 ty b.length).1).e=0 then
        if zEN ty b=0 then ({t with g:=zbi t.g 1 ty (zp6 ty b.length).1,s:=zbF t.s (opB 1 ty (zp6 ty b.length).1 b)},0)
        else ({t with g:=zbY (zbi t.g 1 ty (zp6 ty b.length).1) (zEN ty b)},(zbY (zbi t.g 1 ty (zp6 ty b.length).1) (zEN ty b)).e)
      else ({t with g:=zbi t.g 1 ty (zp6 ty b.length).1},(zbi t.g 1 ty (zp6 ty b.length).1).e)
    else ({t with g:=zbY t.g (zp6 ty b.length).2},(zbY t.g (zp6 ty b.length).2).e)
  else (t,t.g.e)
def zq5 (t:Tc) (N:Int):(List Int × Int) × Tc:=
  if (zbi t.g 2 1 N).e=0 then ((zjz (zbF t.s (opB 2 1 N [])) N.toNat,0),{t with g:=zbi t.g 2 1 N,s:=zdj (zbF t.s (opB 2 1 N [])) N.toNat})
  else (([],(zbi t.g 2 1 N).e),{t with g:=zbi t.g 2 1 N})
def zk5 (t:Tc) (N:Int):(List (List W64) × Int) × Tc:=
  if (zbi t.g 2 3 N).e=0 then
    if (zaC (zbF t.s (opB 2 3 N [])) N.toNat).1.2.2=0 then (((zaC (zbF t.s (opB 2 3 N [])) N.toNat).1.1,0),{t with g:=zbi t.g 2 3 N,s:=(zaC (zbF t.s (opB 2 3 N [])) N.toNat).2})
    else (([],(zbY (zbi t.g 2 3 N) (zaC (zbF t.s (opB 2 3 N [])) N.toNat).1.2.2).e),{t with g:=zbY (zbi t.g 2 3 N) (zaC (zbF t.s (opB 2 3 N [])) N.toNat).1.2.2,s:=(zaC (zbF t.s (opB 2 3 N [])) N.toNat).2})
  else (([],(zbi t.g 2 3 N).e),{t with g:=zbi t.g 2 3 N})
def zxG (t:Tc):Tc × Int:=
  if (zbi t.g 3 0 1).e=0 then ({t with g:=zbi t.g 3 0 1,s:=zE2 (zbF t.s (opB 3 0 1 []))},0)
  else ({t with g:=zbi t.g 3 0 1},(zbi t.g 3 0 1).e)
theorem zyn (L:Lim) (h:zab) (bs js:List (List zaa)) (ts:List Nat) (t:Tc) (N:Int) (hk:t.g.k < 1000000000) (hs:t.s.ok) (hc:t.s.c < 10000000) (ht:t.tg.length=32) (hn:(zbi t.g 2 1 N).e=0→N.toNat < 1000000) (hL:L.rob≤h.blks.length) (hT:L.rot≤h.toks.length):
    zag ctx L zaV [pA h.blks.length (bs.length+1) 0,.int .i64 N] (hx h (trB h.blks.length bs t js) ts)=some (.tup [.vsl false (eI .u8 (zq5 t N).1.1),.int .i64 (zq5 t N).1.2],hx h (trB h.blks.length bs (zq5 t N).2 js) ts):=by
  rw [zfb]
  have hnx:=fun L hL x=>zq4 L h bs (js++[x]) ts t 2 1 N .nsl hk rfl hL
  have hte:=fun L hL x g=>zuQ L h (trB h.blks.length bs {t with g:=g} (js++[x])) ts (bs.length+3) (bs.length+2) t.s hs 2 1 N [] .nsl (fun h=>by simp) rfl (fun i hi=>by simp at hi) (by simp) (by omega) (by rw [zbD];omega) (by rw [zbD];omega) (by omega) hL
  simp only [zrZ] at hte
  have hq1:=zgc hs (zok 2 1 N (b:=[]) (fun i hi=>by simp at hi))
  have hq2:=zru hs (opB 2 1 N [])
  have hq3:=zHL 2 1 N (b:=[]) (by simp)
  have hq4:(opB 2 1 N []).length≤6:=by unfold opB;split <;> simp [znl]
  unfold zq5
  generalize zbF t.s (opB 2 1 N [])=q at*
  generalize zbi t.g 2 1 N=g1 at*
  have hby:=fun L hL hT x=>fun hn'=>zFK L h (trB h.blks.length bs {t with g:=g1} (js++[x])) ts (bs.length+3) (bs.length+2) q hq1 N N.toNat rfl hn' (by omega) (by rw [zbD];omega) (by rw [zbD];omega) (by omega) hL hT
  simp only [zrZ] at hby
  have hl:=zbD h.blks.length bs
  have g1':=fun g q js=>zwo h.blks.length bs ⟨g,t.tg,q⟩ js
  have g2':=fun g q js hh=>zzc h.blks.length bs ⟨g,t.tg,q⟩ js hh
  simp only at g1' g2'
  have h0:=zF5 h.blks.length bs.length t.tg ht
  have gw:=fun t x hh=>zt1 h.blks.length bs t js x hh
  have sw:=fun t x v=>zoq h.blks.length bs t js [x] 0 v
  have htr:=fun t w=>zsb h.blks.length bs t js h ts w
  have happ:=fun t js w=>zno h.blks.length bs t js w
  simp only [Nat.add_zero,List.getElem?_cons_zero,List.set_cons_zero] at sw
  generalize tC h.blks.length bs.length t.tg=tcs at*
  by_cases he:g1.e=0
  · rw [if_pos he]
    have be:(g1.e==0)=true:=by simp [he]
    have hby1:=fun L hL hT x=>hby L hL hT x (hn he)
    simp -implicitDefEqProofs [zaX,zan,zal,hl,happ,g1',g2',h0,gw,sw,zay,setAt,zbG,zah,zak,zap,zaa.under,hL,hT,hnx,bne,be,hte,hby1,htr,zaf]
  · rw [if_neg he]
    have be:(g1.e==0)=false:=by simp [he]
    simp -implicitDefEqProofs [zaX,zan,zal,hl,happ,g1',g2',h0,gw,sw,zay,setAt,zbG,zah,zak,zap,zaa.under,hL,hT,hnx,bne,be,htr,zaf]
end Go.Av
namespace Go.Av
theorem zvd (L:Lim) (h:zab) (bs js:List (List zaa)) (ts:List Nat) (t:Tc) (N:Int) (hk:t.g.k < 1000000000) (hs:t.s.ok) (hc:t.s.c < 10000000) (ht:t.tg.length=32) (hn:(zbi t.g 2 3 N).e=0→N.toNat < 10000) (hL:L.rob≤h.blks.length) (hT:L.rot≤h.toks.length):
    zag ctx L zaL [pA h.blks.length (bs.length+1) 0,.int .i64 N] (hx h (trB h.blks.length bs t js) ts)=some (.tup [.vsl false ((zk5 t N).1.1.map cW),.int .i64 (zk5 t N).1.2],hx h (trB h.blks.length bs (zk5 t N).2 js) ts):=by
  rw [zeu]
  have hnx:=fun L hL x=>zq4 L h bs (js++[x]) ts t 2 3 N .nsl hk rfl hL
  have hte:=fun L hL x g=>zuQ L h (trB h.blks.length bs {t with g:=g} (js++[x])) ts (bs.length+3) (bs.length+2) t.s hs 2 3 N [] .nsl (fun h=>by simp) rfl (fun i hi=>by simp at hi) (by simp) (by omega) (by rw [zbD];omega) (by rw [zbD];omega) (by omega) hL
  simp only [zrZ] at hte
  have hq1:=zgc hs (zok 2 3 N (b:=[]) (fun i hi=>by simp at hi))
  have hq2:=zru hs (opB 2 3 N [])
  have hq4:(opB 2 3 N []).length≤6:=by unfold opB;split <;> simp [znl]
  unfold zk5
  generalize zbF t.s (opB 2 3 N [])=q at*
  generalize zbi t.g 2 3 N=g1 at*
  have hby:=fun L hL hT x=>fun hn'=>zCN L h (trB h.blks.length bs {t with g:=g1} (js++[x])) ts (bs.length+3) (bs.length+2) q hq1 N N.toNat rfl hn' (by omega) (by rw [zbD];omega) (by rw [zbD];omega) (by omega) hL hT
  simp only [zrZ] at hby
  have hun:=fun nb nt=>zvn nb nt (zaC q N.toNat).1.1
  generalize zaC q N.toNat=E at*
  obtain ⟨⟨l,tr,er⟩,q2⟩:=E
  simp only at*
  have hFa:=fun L hL x e=>zsi L h (trB h.blks.length bs ⟨g1,t.tg,q2⟩ (js++[x])) ts bs.length g1 e (zAn _ _ _ _) hL
  simp only [ztU] at hFa
  have hl:=zbD h.blks.length bs
  have g1':=fun g q js=>zwo h.blks.length bs ⟨g,t.tg,q⟩ js
  have g2':=fun g q js hh=>zzc h.blks.length bs ⟨g,t.tg,q⟩ js hh
  simp only at g1' g2'
  have h0:=zF5 h.blks.length bs.length t.tg ht
  have h00:=zL3 h.blks.length bs.length t.tg
  have gw:=fun t x hh=>zt1 h.blks.length bs t js x hh
  have sw:=fun t x v=>zoq h.blks.length bs t js [x] 0 v
  have htr:=fun t w=>zsb h.blks.length bs t js h ts w
  have happ:=fun t js w=>zno h.blks.length bs t js w
  simp only [Nat.add_zero,List.getElem?_cons_zero,List.set_cons_zero] at sw
  generalize tC h.blks.length bs.length t.tg=tcs at*
  by_cases he:g1.e=0
  · rw [if_pos he]
    have be:(g1.e==0)=true:=by simp [he]
    have hby1:=fun L hL hT x=>hby L hL hT x (hn he)
    clear hby
    by_cases her:er=0
    · rw [if_pos her]
      have ber:(er==0)=true:=by simp [her]
      have hfz:=fun hh nb nt m=>zhO hh nb nt m false (hun nb nt)
      simp only
      generalize l.map cW=lw at*
      simp -implicitDefEqProofs [zaD,zan,zal,hl,happ,g1',g2',h0,gw,sw,zay,setAt,zbG,zah,zak,zap,zaa.under,hL,hT,hnx,bne,be,hte,hby1,ber,hfz,htr,zaf]
    · rw [if_neg her]
      have ber:(er==0)=false:=by simp [her]
      generalize l.map cW=lw at*
      simp -implicitDefEqProofs [zaD,zan,zal,hl,happ,g1',g2',h0,h00,gw,sw,zay,setAt,zbG,zah,zak,zap,zaa.under,hL,hT,hnx,bne,be,hte,hby1,ber,hFa,htr,zaf]
  · rw [if_neg he]
    have be:(g1.e==0)=false:=by simp [he]
    simp -implicitDefEqProofs [zaD,zan,zal,hl,happ,g1',g2',h0,gw,sw,zay,setAt,zbG,zah,zak,zap,zaa.under,hL,hT,hnx,bne,be,htr,zaf]
theorem zyq (L:Lim) (h:zab) (bs js:List (List zaa)) (ts:List Nat) (t:Tc) (hk:t.g.k < 1000000000) (hs:t.s.ok) (hc:t.s.c < 10000000) (ht:t.tg.length=32) (hL:L.rob≤h.blks.length):
    zag ctx L zaW [pA h.blks.length (bs.length+1) 0] (hx h (trB h.blks.length bs t js) ts)=some (.int .i64 (zxG t).2,hx h (trB h.blks.length bs (zxG t).1 js) ts):=by
  rw [zfc]
  have hnx:=fun L hL x=>zq4 L h bs (js++[x]) ts t 3 0 1 .nsl hk rfl hL
  have hte:=fun L hL x g=>zuQ L h (trB h.blks.length bs {t with g:=g} (js++[x])) ts (bs.length+3) (bs.length+2) t.s hs 3 0 1 [] .nsl (fun h=>by simp) rfl (fun i hi=>by simp at hi) (by simp) (by omega) (by rw [zbD];omega) (by rw [zbD];omega) (by omega) hL
  simp only [zrZ] at hte
  have hq1:=zgc hs (zok 3 0 1 (b:=[]) (fun i hi=>by simp at hi))
  have hq2:=zru hs (opB 3 0 1 [])
  have hq4:(opB 3 0 1 []).length≤6:=by unfold opB;split <;> simp [znl]
  unfold zxG
  generalize zbF t.s (opB 3 0 1 [])=q at*
  generalize zbi t.g 3 0 1=g1 at*
  have hby:=fun L hL x=>zxP L h (trB h.blks.length bs {t with g:=g1} (js++[x])) ts (bs.length+3) (bs.length+2) q hq1 (by omega) (by rw [zbD];omega) (by rw [zbD];omega) (by omega) hL
  simp only [zrZ] at hby
  generalize zE2 q=q2 at*
  have hl:=zbD h.blks.length bs
  have g1':=fun g q js=>zwo h.blks.length bs ⟨g,t.tg,q⟩ js
  have g2':=fun g q js hh=>zzc h.blks.length bs ⟨g,t.tg,q⟩ js hh
  simp only at g1' g2'
  have h0:=zF5 h.blks.length bs.length t.tg ht
  have gw:=fun t x hh=>zt1 h.blks.length bs t js x hh
  have sw:=fun t x v=>zoq h.blks.length bs t js [x] 0 v
  have htr:=fun t w=>zsb h.blks.length bs t js h ts w
  have happ:=fun t js w=>zno h.blks.length bs t js w
  simp only [Nat.add_zero,List.getElem?_cons_zero,List.set_cons_zero] at sw
  generalize tC h.blks.length bs.length t.tg=tcs at*
  by_cases he:g1.e=0
  · rw [if_pos he]
    have be:(g1.e==0)=true:=by simp [he]
    simp -implicitDefEqProofs [zaY,zan,zal,hl,happ,g1',g2',h0,gw,sw,zay,setAt,zbG,zah,zak,zap,zaa.under,hL,hnx,bne,be,hte,hby,zL6,htr,zaf]
    try exact he
  · rw [if_neg he]
    have be:(g1.e==0)=false:=by simp [he]
    simp -implicitDefEqProofs [zaY,zan,zal,hl,happ,g1',g2',h0,gw,sw,zay,setAt,zbG,zah,zak,zap,zaa.under,hL,hnx,bne,be,htr,zaf]
theorem zAF (L:Lim) (h:zab) (bs js:List (List zaa)) (ts:List Nat) (t:Tc) (ty:Int) (c:Bool) (b:List Int) (hb:inB b) (hbl:b.length < 10000000) (hk:t.g.k < 1000000000) (hs:t.s.ok) (hc:t.s.c < 10000000) (ht:t.tg.length=32) (hL:L.rob≤h.blks.length):
    zag ctx L za3 [pA h.blks.length (bs.length+1) 0,.int .i64 ty,.vsl c (eI .u8 b)] (hx h (trB h.blks.length bs t js) ts)=some (.int .i64 (zxA t ty b).2,hx h (trB h.blks.length bs (zxA t ty b).1 js) ts):=by
  rw [zfr]
  have hEr:=fun L hL=>zI0 L h bs js ts t hL
  have hCn:=fun L h=>zrs L h ty c b (by omega)
  have hCk:=fun L h=>zCw L h ty c b hb (by omega)
  have hF0:=fun L hL e=>zsi L h (trB h.blks.length bs t js) ts bs.length t.g e (zAn _ _ _ _) hL
  simp only [ztU] at hF0
  unfold zxA
  generalize zp6 ty b.length=cn at*
  obtain ⟨n,e1⟩:=cn
  simp only at*
  have hnx:=fun L hL x=>zq4 L h bs (js++[x]) ts t 1 ty n (.vsl c (eI .u8 b)) hk rfl hL
  have hte:=fun L hL x g=>zuQ L h (trB h.blks.length bs {t with g:=g} (js++[x])) ts (bs.length+3) (bs.length+2) t.s hs 1 ty n b (.vsl c (eI .u8 b)) (fun h=>by simp) rfl hb hbl (by omega) (by rw [zbD];omega) (by rw [zbD];omega) (by omega) hL
  simp only [zrZ] at hte
  generalize zbF t.s (opB 1 ty n b)=q at*
  generalize zbi t.g 1 ty n=g1 at*
  have hF1:=fun L hL x e=>zsi L h (trB h.blks.length bs ⟨g1,t.tg,t.s⟩ (js++[x])) ts bs.length g1 e (zAn _ _ _ _) hL
  simp only [ztU] at hF1
  generalize zEN ty b=e2 at*
  have hl:=zbD h.blks.length bs
  have g1':=fun g q js=>zwo h.blks.length bs ⟨g,t.tg,q⟩ js
  have g2':=fun g q js hh=>zzc h.blks.length bs ⟨g,t.tg,q⟩ js hh
  simp only at g1' g2'
  have h0:=zF5 h.blks.length bs.length t.tg ht
  have h00:=zL3 h.blks.length bs.length t.tg
  have gw:=fun t x hh=>zt1 h.blks.length bs t js x hh
  have sw:=fun t x v=>zoq h.blks.length bs t js [x] 0 v
  have htr:=fun t w=>zsb h.blks.length bs t js h ts w
  have htr0:=fun t=>zsa h.blks.length bs t js h ts
  have happ:=fun t js w=>zno h.blks.length bs t js w
  simp only [Nat.add_zero,List.getElem?_cons_zero,List.set_cons_zero] at sw
  generalize tC h.blks.length bs.length t.tg=tcs at*
  obtain ⟨g0,tg,s0⟩:=t
  simp only at*
  by_cases hg0:g0.e=0
  · rw [if_pos hg0]
    have bg:(g0.e==0)=true:=by simp [hg0]
    by_cases h1:e1=0
    · rw [if_pos h1]
      have b1:(e1==0)=true:=by simp [h1]
      by_cases hg1:g1.e=0
      · rw [if_pos hg1]
        have bg1:(g1.e==0)=true:=by simp [hg1]
        by_cases h2:e2=0
        · rw [if_pos h2]
          have b2:(e2==0)=true:=by simp [h2]
          simp -implicitDefEqProofs [zat,zan,zal,hl,happ,hEr,hCn,hCk,g1',g2',h0,gw,sw,zay,setAt,zbG,zah,zak,zap,zaa.under,hL,hnx,bne,bg,b1,bg1,b2,hte,htr,htr0,zaf]
        · rw [if_neg h2]
          have b2:(e2==0)=false:=by simp [h2]
          simp -implicitDefEqProofs [zat,zan,zal,hl,happ,hEr,hCn,hCk,g1',g2',h0,h00,gw,sw,zay,setAt,zbG,zah,zak,zap,zaa.under,hL,hnx,bne,bg,b1,bg1,b2,hF1,htr,htr0,zaf]
      · rw [if_neg hg1]
        have bg1:(g1.e==0)=false:=by simp [hg1]
        simp -implicitDefEqProofs [zat,zan,zal,hl,happ,hEr,hCn,hCk,g1',g2',h0,gw,sw,zay,setAt,zbG,zah,zak,zap,zaa.under,hL,hnx,bne,bg,b1,bg1,htr,htr0,zaf]
    · rw [if_neg h1]
      have b1:(e1==0)=false:=by simp [h1]
      simp -implicitDefEqProofs [zat,zan,zal,hl,happ,hEr,hCn,hCk,g1',g2',h0,h00,hL,bne,bg,b1,hF0,htr,htr0,zaf]
  · rw [if_neg hg0]
    have bg:(g0.e==0)=false:=by simp [hg0]
    simp -implicitDefEqProofs [zat,zan,zal,hl,happ,hEr,bne,bg,hL,htr,htr0]
end Go.Av
namespace Go.Av
def zBy:List Int:=[97,118,111,117,99,104,47,116,114,97,110,115,99,114,105,112,116,47,49]
def zvf:List Int:=tab 32 fun _=>0
def zys (b:Int) (l:List It):List Int × Int × Int:=
  if b≠1∧b≠2 then (zvf, -1,15)
  else if (znp l 0 []).2.2≠0 then (zvf,(znp l 0 []).2.1,(znp l 0 []).2.2)
  else (zIP (zBy++([IntKind.u8.wrap b]++(znp l 0 []).1)), -1,0)
theorem zt2:∀ (l:List It) (k:Nat) (out:List Int),(znp l k out).1.length≤out.length+l.length*1000008
  | [],k,out=>by simp [znp]
  | x :: l, k, out => by
    rw [znp]
    split
    · simp
    · split
      · rename_i hc
        have h1:=zt2 l (k+1) (out++zH1 x)
        have h2:=(zo2 hc).2.2.2.2.2.2
        simp only [List.length_append,zFN,List.length_cons] at h1 ⊢
        omega
      · simp
theorem zwG:[zaa.int .u8 97,zaa.int .u8 118,zaa.int .u8 111,zaa.int .u8 117,zaa.int .u8 99,zaa.int .u8 104,zaa.int .u8 47,zaa.int .u8 116,zaa.int .u8 114,zaa.int .u8 97,zaa.int .u8 110,zaa.int .u8 115,zaa.int .u8 99,zaa.int .u8 114,zaa.int .u8 105,zaa.int .u8 112,zaa.int .u8 116,zaa.int .u8 47,zaa.int .u8 49]=cI .u8 zBy:=rfl
theorem zwH (L:Lim) (h:zab) (z:List zaa) (b:Int) (r:List Int) (hr:r.length < 200000000000):
    zag ctx L zgA [.vsl true [[sA h.blks.length 1 0 1 19 (some 19)],[.vsl true (eI .u8 [b])],[.vsl false (eI .u8 r)]]] (hx h [z,cI .u8 zBy] [])=some (.agg (cI .u8 (zIP (zBy++([b]++r)))),hx h [z,cI .u8 zBy] []):=by
  have h1 := zIQ L (hx h [z, cI .u8 zBy] []) true [(sA h.blks.length 1 0 1 19 (some 19), zBy), (.vsl true (eI .u8 [b]), [b]), (.vsl false (eI .u8 r), r)] (by simp) (by
    intro p hp
    simp only [List.mem_cons,List.not_mem_nil,or_false] at hp
    rcases hp with rfl | rfl | rfl
    · exact ⟨RdI.sA [] .u8 1 19 _ zBy rfl (by simp),by simp [zBy]⟩
    · exact ⟨RdI.vsl _ .u8 true [b],by simp⟩
    · exact ⟨RdI.vsl _ .u8 false r,hr⟩)
  have h2:msg [(sA h.blks.length 1 0 1 19 (some 19),zBy),(.vsl true (eI .u8 [b]),[b]),(.vsl false (eI .u8 r),r)]=zBy++([b]++r):=by simp [msg]
  rw [h2] at h1
  exact h1
@[simp] theorem zN4 (l:List Int):(zIP l).length=32:=by
  obtain ⟨c1,c2⟩:=zjg l (q:=(tab 25 fun _=>0#64,0)) (by simp) (by simp)
  simp [zIP,zIN,zes,c1]
theorem zMm (L:Lim) (h:zab) (b:Int) (l:List It) (hn:l.length≤2000):
    zag ctx L zoD [.int .i64 b,.vsl false (l.map It.cells)] h=some (.tup [.agg (cI .u8 (zys b l).1),.int .i64 (zys b l).2.1,.int .i64 (zys b l).2.2],h):=by
  rw [zws]
  have hser:=fun L h=>zLT L h l hn
  by_cases hb:b≠1∧b≠2
  · have e1 : zys b l = (zvf, -1, 15) := by unfold zys; rw [if_pos hb]
    rw [e1]
    simp [zh6, -List.map_take,zau,zgg,bne,beq_false_of_ne hb.1,beq_false_of_ne hb.2,zay,zbG,zah,zaf,zvf]
  · have hb' : b = 1 ∨ b = 2 := by omega
    by_cases h0:(znp l 0 []).2.2=0
    · have e1 : zys b l = (zIP (zBy ++ ([IntKind.u8.wrap b] ++ (znp l 0 []).1)), -1, 0) := by unfold zys; rw [if_neg hb, if_neg (by simpa using h0)]
      rw [e1]
      have hlen:(znp l 0 []).1.length < 200000000000:=by
        have:=zt2 l 0 [];simp at this;omega
      rcases hb' with rfl | rfl
      · simp [zh6, -List.map_take,zau,zgg,hser,h0,zay,rep,chunks,zhT,zwG,zwH,hlen,zbG,zah,zaf]
      · simp [zh6, -List.map_take,zau,zgg,hser,h0,zay,rep,chunks,zhT,zwG,zwH,hlen,zbG,zah,zaf]
    · have e1 : zys b l = (zvf, (znp l 0 []).2.1, (znp l 0 []).2.2) := by unfold zys; rw [if_neg hb, if_pos h0]
      rw [e1]
      have b0:((znp l 0 []).2.2==0)=false:=beq_false_of_ne h0
      rcases hb' with rfl | rfl
      · simp [zh6, -List.map_take,zau,zgg,hser,bne,b0,zay,zbG,zah,zaf,zvf]
      · simp [zh6, -List.map_take,zau,zgg,hser,bne,b0,zay,zbG,zah,zaf,zvf]
end Go.Av
namespace Go.Av
@[irreducible] def zDC (p:List Int):List Int:=(zys 1 (ziO p).1).1
theorem zyv (p:List Int):zDC p=(zys 1 (ziO p).1).1:=by unfold zDC;exact rfl
def zBz (p:List Int):Tc:=⟨zHR p,zDC p,zyM (zDC p)⟩
theorem zwM (l:List It):(zys 1 l).1.length=32:=by
  unfold zys
  split
  · simp [zvf]
  · split
    · simp [zvf]
    · simp
theorem zvh (p:List Int):(zDC p).length=32:=by rw [zyv];exact zwM _
theorem zzu:∀ (f:Nat) (b:List Int) (k:Nat) (acc:List It),k≤1024→acc.length≤k→(zDv f b k acc).1.length≤1024
  | 0,b,k,acc,hk,ha=>by simp [zDv];omega
  | f + 1, b, k, acc, hk, ha => by
    unfold zDv
    split
    · simp only;omega
    · split
      · simp
      · split
        · exact zzu f _ (k+1) _ (by omega) (by simp;omega)
        · simp
theorem zzv (b:List Int):(ziO b).1.length≤1024:=zzu _ _ _ _ (by omega) (by simp)
theorem zpW (L:Lim) (h:zab) (bs:List (List zaa)) (ts:List Nat) (i off:Nat) (cs:List zaa) (h1:(decide (L.rob≤h.blks.length)&&decide (L.nb≤h.blks.length+i))=true):
    zcw L (hx h bs ts) (pA h.blks.length i off) cs=stO h bs ts i off cs bs[i]?:=by
  simp only [Bool.and_eq_true,decide_eq_true_eq] at h1
  unfold zcw pA stO stI hx
  simp only
  rw [List.getElem?_append_right (Nat.le_add_right _ _),Nat.add_sub_cancel_left]
  cases bs[i]? with
  | none=>rfl
  | some old=>
    simp only [Option.bind_some]
    by_cases hc:off+cs.length≤old.length
    · rw [if_pos ⟨by omega, hc, .inl (by omega)⟩, if_pos (by simpa using hc)]
      rw [List.set_append_right _ _ (Nat.le_add_right _ _),Nat.add_sub_cancel_left]
    · rw [if_neg (fun h=>hc h.2.1),if_neg (by simpa using hc)]
def z32:List Int:=tab 32 fun _=>0
def tC0 (n B:Nat) (tg:List Int):List zaa:=pA n B 0 :: (cI .u8 tg++[.nif])
theorem zDH (n B:Nat) {tg:List Int} (h:tg.length=32):(tC0 n B tg).length=34:=by simp [tC0,h]
theorem zJt (n B:Nat) {tg tg':List Int} (h:tg.length=32) (h':tg'.length=32):setAt (tC0 n B tg) 1 (cI .u8 tg')=tC0 n B tg':=by
  rw [zsk _ _ _ (by simp [tC0,h,h'])]
  unfold putAt tC0
  rw [List.take_succ_cons,List.take_zero]
  have:(pA n B 0 :: (cI .u8 tg++[zaa.nif])).drop (1+(cI .u8 tg').length)=[.nif]:=by
    rw [show 1+(cI .u8 tg').length=32+1 by simp [h'],List.drop_succ_cons,List.drop_left' (by simp [h])]
  rw [this]
  rfl
theorem zGD (n B:Nat) {tg:List Int} (h:tg.length=32):setAt (tC0 n B tg) 33 [.iface 109 (.agg [pA n (B+3) 0])]=tC n B tg:=by
  rw [zsk _ _ _ (by simp [tC0,h])]
  unfold putAt tC0 tC
  rw [show 33=32+1 from rfl,List.take_succ_cons,List.take_left' (by simp [h])]
  have:(pA n B 0 :: (cI .u8 tg++[zaa.nif])).drop (32+1 + [zaa.iface 109 (.agg [pA n (B+3) 0])].length)=[]:=by
    rw [List.drop_eq_nil_iff];simp [h]
  rw [this]
  simp
theorem zPA (n B:Nat) {tg:List Int} (h:tg.length=32):zei true (tC0 n B tg) 1 32=some (.agg (cI .u8 tg)):=by
  have:((tC0 n B tg).drop 1).take 32=cI .u8 tg:=by
    unfold tC0
    rw [List.drop_one,List.tail_cons,List.take_left' (by simp [h])]
  unfold zei
  rw [if_pos rfl,if_pos (by simp [tC0,h]),this]
theorem zMD (L:Lim) (h:zab) (p:zaa) (t:TypeId) (v:zaa):stK L h 1 p (.iface t v)=stM (zcw L h p [.iface t v]):=by simp [stK,zaa.cells,zaa.okV]
theorem zJx (L:Lim) (h:zab) (bs:List (List zaa)) (ts:List Nat) (c:Bool) (p:List Int) (hp:inB p) (hl:p.length < 1000000000) (hL:L.rob≤h.blks.length) (hnb:L.nb≤h.blks.length+bs.length):
    zag ctx L zdb [.int .i64 1,.vsl c (eI .u8 p)] (hx h bs ts)=
      if (ziO p).2.2=0 then some (.tup [pA h.blks.length (bs.length+1) 0,.int .i64 (-1),.int .i64 0],hx h (trB h.blks.length bs (zBz p) []) ts)
      else some (.tup [.nilp,.int .i64 (ziO p).2.1,.int .i64 (ziO p).2.2],hx h bs ts):=by
  rw [zhQ]
  have hG:=fun L=>zJm L h bs ts c p hp hl
  have hpl:=zzv p
  have hTg:=fun L h=>zMm L h 1 (ziO p).1 (by omega)
  rw [← zyv] at hTg
  have htl:=zvh p
  have hIt:=fun L H b hb=>zDB L H (.ptr b 0) b (zHR p) rfl hb (by show (ziO p).1.length < _;omega)
  have hng:(zHR p).l=(ziO p).1:=rfl
  rw [hng] at hIt
  by_cases he:(ziO p).2.2=0
  · rw [if_pos he]
    simp only [if_pos he] at hG
    have hB:trB h.blks.length bs (zBz p) []=bs++[guC (zHR p),tC h.blks.length bs.length (zDC p),cI .u8 (zyM (zDC p)).S,spO h.blks.length (bs.length+2) (zyM (zDC p))]:=by simp [trB,trW,zBz]
    rw [hB]
    generalize zys 1 (ziO p).1=tgl at*
    have hOf:=fun L hL w=>zyw L h (bs++w) ts (zDC p) htl hL
    generalize zDC p=tg at*
    generalize (ziO p).1.map It.cells=its at*
    generalize zHR p=g at*
    have hfill:zay [zaa.nilp,.int .u8 0,.int .u8 0,.int .u8 0,.int .u8 0,.int .u8 0,.int .u8 0,.int .u8 0,.int .u8 0,.int .u8 0,.int .u8 0,.int .u8 0,.int .u8 0,.int .u8 0,.int .u8 0,.int .u8 0,.int .u8 0,.int .u8 0,.int .u8 0,.int .u8 0,.int .u8 0,.int .u8 0,.int .u8 0,.int .u8 0,.int .u8 0,.int .u8 0,.int .u8 0,.int .u8 0,.int .u8 0,.int .u8 0,.int .u8 0,.int .u8 0,.int .u8 0,.nif] [(0,1,pA h.blks.length bs.length 0)]=some (tC0 h.blks.length bs.length z32):=rfl
    have hzl:z32.length=32:=by simp [z32]
    have l1:=zDH h.blks.length bs.length hzl
    have l2:=zDH h.blks.length bs.length htl
    have s1:=zJt h.blks.length bs.length hzl htl
    have s2:=zGD h.blks.length bs.length htl
    have p1:=zPA h.blks.length bs.length htl
    have hfif:zay [zaa.nilp] [(0,1,pA h.blks.length (bs.length+3) 0)]=some [pA h.blks.length (bs.length+3) 0]:=rfl
    have gb:∀ w:List (List zaa),(bs++w)[bs.length+1]?=w[1]?:=fun w=>zdo bs w bs.length 1 rfl
    have gb0:∀ w:List (List zaa),(bs++w)[bs.length]?=w[0]?:=fun w=>zdo bs w bs.length 0 rfl
    have sb:∀ (w:List (List zaa)) v,(bs++w).set (bs.length+1) v=bs++w.set 1 v:=fun w v=>zeJ bs w bs.length 1 v rfl
    have hst:=fun w off cs=>zpW L h (bs++w) ts (bs.length+1) off cs (by simp only [Bool.and_eq_true,decide_eq_true_eq];exact ⟨hL,by omega⟩)
    simp only [List.length_append,List.length_cons,List.length_nil] at hOf
    have hgi:∀ w:List (List zaa),w[0]?=some (guC g)→∀ L,zag ctx L zb6 [pA h.blks.length bs.length 0] (hx h (bs++w) ts)=some (.vsl false its,hx h (bs++w) ts):=fun w hw L=>hIt L _ (h.blks.length+bs.length) (zy3 ts (by rw [gb0,hw]))
    generalize tC0 h.blks.length bs.length z32=T0 at*
    generalize tC0 h.blks.length bs.length tg=T1 at*
    generalize tC h.blks.length bs.length tg=T2 at*
    simp -implicitDefEqProofs [zde,hG,hTg,hgi,hfill,hfif,zd7,zJk,zDz,gb,gb0,sb,hst,zbG,zah,zMD,l1,l2,s1,s2,p1,hOf,hL,htl]
  · rw [if_neg he]
    simp only [if_neg he] at hG
    have be:((ziO p).2.2==0)=false:=by simp [he]
    simp -implicitDefEqProofs [zde,hG,bne,be]
end Go.Av
namespace Go.Av
def p0:List Int:=[1,1,1,0,0,0,0,0,2,1,32,0,0,0,0,0]
end Go.Av
namespace Go.Av
structure Tc.ok (t:Tc):Prop where
  s:t.s.ok
  tg:t.tg.length=32
  l:t.g.l.length≤1024
  k:t.g.k≤t.g.l.length
  cnt:∀ x∈t.g.l,x.count≤1048576
theorem zp0 {g:Gd} {k t c:Int} (h:(zbi g k t c).e=0):zdF g k t c=true:=by
  rw [zvi] at h
  cases hn:zdF g k t c with
  | true=>rfl
  | false=>
    rw [hn] at h
    simp only [Bool.false_eq_true,if_false] at h
    unfold zbY at h
    split at h
    · simp at h
    · contradiction
theorem zvt {g:Gd} {k t c:Int} (h:zdF g k t c=true):g.k < g.l.length∧(gd g.l ⟨0,0,0,⟨#[]⟩⟩ g.k).count=c:=by
  unfold zdF zwP at h
  simp only [Bool.and_eq_true,decide_eq_true_eq,beq_iff_eq] at h
  exact ⟨h.1,h.2.2.2⟩
theorem zJO {g:Gd} (k t c:Int) (h:g.k≤g.l.length):(zbi g k t c).k≤(zbi g k t c).l.length:=by
  rw [zhY]
  have hd:zbi g k t c=if (zbY g (if zdF g k t c then 0 else 10)).e=0 then {zbY g (if zdF g k t c then 0 else 10) with k:=g.k+1} else zbY g (if zdF g k t c then 0 else 10):=rfl
  by_cases h0:(zbY g (if zdF g k t c then 0 else 10)).e=0
  · have h1 : (zbi g k t c).e = 0 := by rw [zvi]; exact h0
    have:=(zvt (zp0 h1)).1
    rw [hd,if_pos h0]
    simp only;omega
  · rw [hd,if_neg h0,(zhX _ _).2];exact h
theorem zug {α:Type} {l:List α} {d:α} {i:Nat} (h:i < l.length):gd l d i∈l:=by
  have:gd l d i=l[i]:=by simp [gd,List.getD,h]
  rw [this];exact List.getElem_mem h
theorem Tc.ok.next {t:Tc} (h:t.ok) (k ty c:Int) (q:Sp) (hq:q.ok):Tc.ok {t with g:=zbi t.g k ty c,s:=q}:=
  ⟨hq,h.tg,by simp only [zhY];exact h.l,zJO k ty c h.k,by simp only [zhY];exact h.cnt⟩
theorem Tc.ok.fail {t:Tc} (h:t.ok) (e:Int):Tc.ok {t with g:=zbY t.g e}:=
  ⟨h.s,h.tg,by simp only [(zhX _ _).1];exact h.l,by simp only [(zhX _ _).1,(zhX _ _).2];exact h.k,by simp only [(zhX _ _).1];exact h.cnt⟩
theorem Tc.ok.count {t:Tc} (h:t.ok) {k ty c:Int} (hn:(zbi t.g k ty c).e=0):c≤1048576:=by
  obtain ⟨h1,h2⟩:=zvt (zp0 hn)
  rw [← h2]
  exact h.cnt _ (zug h1)
theorem zrb {s:Sp} (hs:s.ok) (k t c:Int) (b:List Int):(zbF s (opB k t c b)).c≤s.c+b.length+7:=by
  have h1:=zru hs (opB k t c b)
  have h2:(opB k t c b).length≤6+b.length:=by unfold opB;split <;> simp [znl];omega
  omega
theorem zJR {t:Tc} (h:t.ok) (ty:Int) {b:List Int} (hb:inB b):(zxA t ty b).1.ok∧(zxA t ty b).1.s.c≤t.s.c+b.length+7:=by
  unfold zxA
  split
  · split
    · split
      · split
        · exact ⟨h.next _ _ _ _ (zgc h.s (zok _ _ _ hb)),zrb h.s _ _ _ _⟩
        · exact ⟨(h.next _ _ _ _ h.s).fail _,by simp only;omega⟩
      · exact ⟨h.next _ _ _ _ h.s,by simp only;omega⟩
    · exact ⟨h.fail _,by simp only;omega⟩
  · exact ⟨h,by simp only;omega⟩
theorem zlK:inB []:=fun i hi=>by simp at hi
theorem zD8 {t:Tc} (h:t.ok) (N:Int):(zq5 t N).2.ok∧(zq5 t N).2.s.c≤t.s.c+N.toNat+7:=by
  unfold zq5
  have h1:=zgc h.s (zok 2 1 N zlK)
  have h2:=zrb h.s 2 1 N []
  have h3:=zr9 (zbF t.s (opB 2 1 N [])) N.toNat
  simp only [List.length_nil] at h2
  split
  · exact ⟨h.next _ _ _ _ (zmi h1 _),by simp only;omega⟩
  · exact ⟨h.next _ _ _ _ h.s,by simp only;omega⟩
theorem zJV {t:Tc} (h:t.ok) (N:Int):inB (zq5 t N).1.1:=by
  unfold zq5
  split
  · exact zzx (zgc h.s (zok 2 1 N zlK)) _
  · exact zlK
theorem zA1 {s:Sp} (h:s.ok) (n:Nat):(zaC s n).2.ok∧(zaC s n).2.c≤s.c+2048*n:=zzC n [] 0 h
theorem zEa {t:Tc} (h:t.ok) (N:Int):(zk5 t N).2.ok∧(zk5 t N).2.s.c≤t.s.c+2048*N.toNat+7:=by
  unfold zk5
  have h1:=zgc h.s (zok 2 3 N zlK)
  have h2:=zrb h.s 2 3 N []
  have h3:=zA1 h1 N.toNat
  simp only [List.length_nil] at h2
  split
  · split
    · exact ⟨h.next _ _ _ _ h3.1,by simp only;omega⟩
    · exact ⟨(h.next _ _ _ _ h3.1).fail _,by simp only;omega⟩
  · exact ⟨h.next _ _ _ _ h.s,by simp only;omega⟩
theorem zJW {t:Tc} (h:t.ok):(zxG t).1.ok∧(zxG t).1.s.c≤t.s.c+8:=by
  unfold zxG
  have h1:=zgc h.s (zok 3 0 1 zlK)
  have h2:=zrb h.s 3 0 1 []
  have h3:(zE2 (zbF t.s (opB 3 0 1 []))).c=(zbF t.s (opB 3 0 1 [])).c+1:=rfl
  simp only [List.length_nil] at h2
  split
  · exact ⟨h.next _ _ _ _ (zKs h1),by simp only;omega⟩
  · exact ⟨h.next _ _ _ _ h.s,by simp only;omega⟩
theorem zIb {t:Tc} (h:t.ok):Tc.ok {t with g:=zxH t.g}:=h.fail _
theorem zE3 {b:List Int} (h:(zsV b).2.2=0):(zsV b).1.count≤1048576:=by
  unfold zsV at h ⊢
  split at h
  · simp at h
  · split at h
    · next h1 h2=>
      rw [if_neg h1,if_pos h2]
      exact (zo2 h2).2.2.2.2.2.1
    · next h1 h2=>exact absurd h h2
theorem zyO:∀ (f:Nat) (b:List Int) (k:Nat) (acc:List It),(∀ x∈acc,x.count≤1048576)→∀ x∈(zDv f b k acc).1,x.count≤1048576
  | 0,b,k,acc,h=>h
  | f + 1, b, k, acc, h => by
    unfold zDv
    split
    · exact h
    · split
      · intro x hx;simp at hx
      · split
        · next he=>
          refine zyO f _ _ _ ?_
          intro x hx
          rcases List.mem_append.1 hx with h1 | h1
          · exact h x h1
          · rw [List.mem_singleton.1 h1];exact zE3 he
        · intro x hx;simp at hx
theorem zIc (p:List Int):inB (zDC p):=by
  rw [zyv]
  unfold zys
  split
  · exact zrj 32
  · split
    · exact zrj 32
    · exact zmh (zp3 _) 32
theorem zBL (p:List Int) (hp:inB p):(zBz p).ok:=
  ⟨zKu (by rw [zvh];decide) (zIc p),zvh p,zzv p,Nat.zero_le _,zyO _ _ _ _ (by simp)⟩
theorem zLh (p:List Int):(zBz p).s.c=0:=rfl
theorem zvT (s:Sp) (k:Nat):zvk 0 s k=((zE,64,11),s):=by rw [zvk]
theorem zvU (f:Nat) (s:Sp) (k:Nat):zvk (f+1) s k=if leN (zAf (zjz s 32)) < pN then ((fe (leN (zAf (zjz s 32))),(k:Int)+1,0),zdj s 32) else zvk f (zdj s 32) (k+1):=by rw [zvk]
theorem zIf (f:Nat):∀ (s:Sp) (k:Nat),(zvk f s k).1.2.2=0→∃ x,(zvk f s k).1.1=fe x:=by
  induction f with
  | zero=>
    intro s k h
    rw [zvT] at h
    exact absurd h (by simp)
  | succ f ih=>
    intro s k h
    rw [zvU] at h ⊢
    by_cases h0:leN (zAf (zjz s 32)) < pN
    · rw [if_pos h0];exact ⟨leN (zAf (zjz s 32)),by simp only⟩
    · rw [if_neg h0] at h ⊢
      exact ih _ _ h
theorem zyR:∀ (n:Nat) (s:Sp) (acc:List (List W64)) (t:Int),(∀ f∈acc,∃ x,f=fe x)→∀ f∈(zig n s acc t).1.1,∃ x,f=fe x
  | 0,s,acc,t,h=>h
  | n + 1, s, acc, t, h => by
    unfold zig
    split
    · next h0=>
      refine zyR n _ _ _ ?_
      intro f hf
      rcases List.mem_append.1 hf with h1 | h1
      · exact h f h1
      · rw [List.mem_singleton.1 h1]
        rw [zlG] at h0 ⊢
        exact zIf 64 s 0 h0
    · intro f hf;simp at hf
theorem zIg (t:Tc) (N:Int):∀ f∈(zk5 t N).1.1,∃ x,f=fe x:=by
  unfold zk5
  split
  · split
    · exact zyR _ _ _ _ (by simp)
    · intro f hf;simp at hf
  · intro f hf;simp at hf
theorem zBR:∀ l:List (List W64),(∀ f∈l,∃ x,f=fe x)→∃ xs:List Nat,l=xs.map fe
  | [],_=>⟨[],rfl⟩
  | f :: l, h => by
    obtain ⟨x,rfl⟩:=h f (by simp)
    obtain ⟨xs,rfl⟩:=zBR l fun g hg=>h g (by simp [hg])
    exact ⟨x :: xs,rfl⟩
theorem zBS (t:Tc) (N:Int):∃ xs:List Nat,(zk5 t N).1.1=xs.map fe:=zBR _ (zIg t N)
noncomputable def xsT (t:Tc) (N:Int):List Nat:=Classical.choose (zBS t N)
theorem zyS (t:Tc) (N:Int):(zk5 t N).1.1=(xsT t N).map fe:=Classical.choose_spec (zBS t N)
theorem zyT:∀ (n:Nat) (s:Sp) (acc:List (List W64)) (t:Int),(zig n s acc t).1.1.length≤acc.length+n
  | 0,s,acc,t=>by simp [zig]
  | n + 1, s, acc, t => by
    unfold zig
    split
    · have:=zyT n (za9 s).2 (acc++[(za9 s).1.1]) (IntKind.i64.wrap (t+(za9 s).1.2.1))
      simp only [List.length_append,List.length_singleton] at this
      omega
    · simp
theorem zIi (t:Tc) (N:Int) (M:Nat) (h:(zbi t.g 2 3 N).e=0→N.toNat≤M):(xsT t N).length≤M:=by
  have h1:(xsT t N).length=(zk5 t N).1.1.length:=by rw [zyS];simp
  rw [h1]
  unfold zk5
  by_cases h0:(zbi t.g 2 3 N).e=0
  · rw [if_pos h0]
    split
    · have:=zyT N.toNat (zbF t.s (opB 2 3 N [])) [] 0
      have h2:=h h0
      simp only [List.length_nil] at this
      show (zig N.toNat (zbF t.s (opB 2 3 N [])) [] 0).1.1.length≤M
      omega
    · simp
  · rw [if_neg h0];simp
theorem zIj {t:Tc} {N:Int} (h:¬(zk5 t N).1.2=0):xsT t N=[]:=by
  have h1:(zk5 t N).1.1=[]:=by
    unfold zk5 at h ⊢
    by_cases h0:(zbi t.g 2 3 N).e=0
    · rw [if_pos h0] at h ⊢
      split
      · next h2=>rw [if_pos h2] at h;exact absurd rfl h
      · rfl
    · rw [if_neg h0]
  rw [zyS] at h1
  simpa using h1
noncomputable def doT (t:Tc) (d ty N:Int) (b:List Int):(Int × List Int) × Tc:=
  if d=0 then (((zxA t ty b).2,[]),(zxA t ty b).1)
  else if d=1 then (((zq5 t N).1.2,(zq5 t N).1.1),(zq5 t N).2)
  else if d=2 then (((zk5 t N).1.2,(xsT t N).flatMap feB),(zk5 t N).2)
  else (((zxG t).2,[]),(zxG t).1)
theorem zLj (t:Tc) (ty:Int) (b:List Int):(zxA t ty b).1.g.e=(zxA t ty b).2:=by
  unfold zxA
  by_cases h0:t.g.e=0
  · rw [if_pos h0]
    by_cases h1:(zp6 ty b.length).2=0
    · rw [if_pos h1]
      by_cases h2:(zbi t.g 1 ty (zp6 ty b.length).1).e=0
      · rw [if_pos h2]
        split
        · exact h2
        · rfl
      · rw [if_neg h2]
    · rw [if_neg h1]
  · rw [if_neg h0]
theorem zLk (t:Tc) (N:Int):(zq5 t N).2.g.e=(zq5 t N).1.2:=by
  unfold zq5
  by_cases h0:(zbi t.g 2 1 N).e=0
  · rw [if_pos h0];exact h0
  · rw [if_neg h0]
theorem zLl (t:Tc) (N:Int):(zk5 t N).2.g.e=(zk5 t N).1.2:=by
  unfold zk5
  by_cases h0:(zbi t.g 2 3 N).e=0
  · rw [if_pos h0]
    split
    · exact h0
    · rfl
  · rw [if_neg h0]
theorem zLm (t:Tc):(zxG t).1.g.e=(zxG t).2:=by
  unfold zxG
  by_cases h0:(zbi t.g 3 0 1).e=0
  · rw [if_pos h0];exact h0
  · rw [if_neg h0]
theorem zOP (t:Tc) (d ty N:Int) (b:List Int):(doT t d ty N b).2.g.e=(doT t d ty N b).1.1:=by
  unfold doT
  split
  · exact zLj _ _ _
  · split
    · exact zLk _ _
    · split
      · exact zLl _ _
      · exact zLm _
theorem zLo {t:Tc} (h:t.ok) (d ty N:Int) {b:List Int} (hb:inB b) (hl:b.length≤400) (hN:N≤1048576→N≤100):
    (doT t d ty N b).2.ok∧(doT t d ty N b).2.s.c≤t.s.c+300000:=by
  unfold doT
  split
  · have:=zJR h ty hb
    exact ⟨this.1,by simp only;omega⟩
  · split
    · refine ⟨(zD8 h N).1,?_⟩
      by_cases h0:(zbi t.g 2 1 N).e=0
      · have h1:=(zD8 h N).2
        have h2:=h.count h0
        have:=hN h2
        simp only;omega
      · unfold zq5;rw [if_neg h0];simp only;omega
    · split
      · refine ⟨(zEa h N).1,?_⟩
        by_cases h0:(zbi t.g 2 3 N).e=0
        · have h1:=(zEa h N).2
          have h2:=h.count h0
          have:=hN h2
          simp only;omega
        · unfold zk5;rw [if_neg h0];simp only;omega
      · have:=zJW h
        exact ⟨this.1,by simp only;omega⟩
end Go.Av
