/- A transcript as it lies, its calls, and what they do. -/
import Derived.Test.YtbookmjmhfoolaaGreatDoorC5
import Derived.Test.YtbookmjmhfoolaaGreatDoorC6
import Derived.Test.YtbookmjmhfoolaaGreatDoorC3
import Derived.Test.YtbookmjmhfoolaaGreatDoorC1
set_option linter.unusedSimpArgs false
set_option linter.unusedVariables false
set_option maxHeartbeats 2000000
set_option maxRecDepth 100000
namespace Go.Av
theorem QF (h:O)(bs js:List (List J))(ts us:List Nat)(n:Nat)(hn:n=bs.length):gq (hx h (bs++js) (ts++us)) (h.blks.length+n) (h.toks.length+ts.length)=hx h bs ts:=by
 subst hn;unfold gq hx;have e : ∀ {α : Type} (a b c : List α), (a ++ (b ++ c)).take (a.length + b.length) = a ++ b := fun a b c => by
  rw [<- List.append_assoc,List.take_left' (by simp)]
 simp only [e]
theorem sJ (k t c:Int){b:List Int}(hb:ce b):ce (im k t c b):=by
 unfold im;split
 ·rw [AX];have hw:=fun n:Int=>show 0<=IntKind.u8.wrap n/\IntKind.u8.wrap n < 256 by unfold IntKind.wrap;simp [IntKind.signed,IntKind.bits];omega
  exact uu.2 ⟨hw _,uu.2 ⟨hw _,uu.2 ⟨hw _,uu.2 ⟨hw _,uu.2 ⟨hw _,uu.2 ⟨hw _,hb⟩⟩⟩⟩⟩⟩
 ·intro i hi;simp at hi
theorem Xt (k t c:Int){b:List Int}(hl:b.length < 10000000):(im k t c b).length < 100000000:=by
 unfold im;split
 ·rw [AX];simp;omega
 ·simp
theorem zbO (L:az)(h:O)(bs:List (List J))(ts:List Nat)(i j:Nat)(s:Sp)(hs:s.ok)(N:Int)(n:Nat)(hN:n=N.toNat)(hn:n < 10000)(hc:s.c < 50000000)
  (hi:i < bs.length) (hj:j < bs.length) (hij:i≠j) (hL:L.rob<=h.blks.length) (hT:L.rot<=h.toks.length):
  aa ah L pL [Ii N,fnB h.blks.length i] (hx h (lY bs i j h.blks.length s) ts)=some (.tup [.vsl false ((aU s n).1.1.map cW),Ii (aU s n).1.2.1,Ii (aU s n).1.2.2],hx h (lY bs i j h.blks.length (aU s n).2) ts):=by
 rw [Ha];obtain ⟨M,hM⟩:∃ M:Int,M=max N 0:=⟨_,rfl⟩;have hmx:CJ true (Ii N) [Ii 0]=some (Ii M):=by
  simp only [CJ,zic,bind,Option.bind_some,if_true];rw [hM];by_cases h0:(0:Int) > N
  ·rw [if_pos h0,show max N 0=0 by omega]
  ·rw [if_neg h0,show max N 0=N by omega]
 have hlo:=fun fr R=>UB (L:=⟨L.rob,L.rot,h.blks.length+bs.length,h.toks.length+ts.length⟩) (fr:=fr) (h:=h) (R:=R) bs ts i j s hs M n (by omega) hn hc hi hj hij hL hT;have hl1:=oE bs i j h.blks.length s;have hl2:=oE bs i j h.blks.length (aU s n).2;have hun:=Mi (h.blks.length+bs.length) (h.toks.length+ts.length) (aU s n).1.1;have hfz:=fun hh m=>pe (h1:=hh) (nb:=h.blks.length+bs.length) (nt:=h.toks.length+ts.length) (n:=m) (s:=.nsl) (.inl rfl) hun;simp only [ziB] at hfz;generalize aU s n=E at*;obtain ⟨⟨l,t,e⟩,q⟩:=E;simp only at*;generalize lY bs i j h.blks.length q=B,lY bs i j h.blks.length s=B1 at*;have htr:∀ jk us,gq (hx h (B++jk) (ts++us)) (h.blks.length+bs.length) (h.toks.length+ts.length)=hx h B ts:=fun jk us=>QF h B jk ts us bs.length hl2.symm;simp -implicitDefEqProofs [uJ,aC,aB,hl1,hmx];generalize hF:run ah _ (.loop _) _ _=R;obtain ⟨e,fr',jk,us,rfl,⟨rfl,rfl,f7,f8,he⟩ | ⟨rfl,hnil,f4,f5,f6⟩⟩:=hlo _ _ hF (by simp) (by simp) (by simp) (by simp) (by simp)
 ·rw [he];simp -implicitDefEqProofs [f7,f8,hfz,htr,aC,aB,hl1]
 ·rw [hnil];simp -implicitDefEqProofs [f4,f5,f6,htr,aC,aB,hl1]
theorem Mj (L:az)(h:O)(bs:List (List J))(ts:List Nat)(i j:Nat)(s:Sp)(hs:s.ok)(k t c:Int)(b:List Int)(d:J)(hd:∀ h,oL h d=some (.vsl false (eI .u8 b),false))(hf:d.flat=false)(hb:ce b)(hl:b.length < 10000000)(hc:s.c < 100000000)
  (hi:i < bs.length) (hj:j < bs.length) (hij:i≠j) (hL:L.rob<=h.blks.length):
  aa ah L dI [.agg [pA h.blks.length i 0],.agg [Ii k,Ii t,Ii c,d]] (hx h (lY bs i j h.blks.length s) ts)=some (.tup [],hx h (lY bs i j h.blks.length (aA s (im k t c b))) ts):=by
 rw [uz];have hT:=fun L h=>zmP L h k t c b d hd hf hb (by omega);have hA:=fun L hL=>XN L h bs ts i j s hs false (im k t c b) (sJ k t c hb) (Xt k t c hl) hc hi hj hij hL;have htr:=fun q=>FK h bs ts i j (Pu h.blks.length j q) (cI .u8 q.S);have hl1:=oE bs i j h.blks.length s;have htr2:gq (hx h (lY bs i j h.blks.length (aA s (im k t c b))) ts) (h.blks.length+bs.length) (h.toks.length+ts.length)=hx h (lY bs i j h.blks.length (aA s (im k t c b))) ts:=htr _;generalize im k t c b=o at*;generalize lY bs i j h.blks.length s=B1,lY bs i j h.blks.length (aA s o)=B2 at*;simp -implicitDefEqProofs [jI,aC,aB,hl1,lx,J.okV,J.cells,ao,Z,hT,hA,hL,htr2]
theorem ze2 (L:az)(h:O)(bs:List (List J))(ts:List Nat)(i j:Nat)(s:Sp)(hs:s.ok)(N:Int)(n:Nat)(hN:n=N.toNat)(hn:n < 1000000)(hc:s.c < 100000000)
  (hi:i < bs.length) (hj:j < bs.length) (hij:i≠j) (hL:L.rob<=h.blks.length) (hT:L.rot<=h.toks.length):
  aa ah L dr [.agg [pA h.blks.length i 0],Ii N] (hx h (lY bs i j h.blks.length s) ts)=some (.vsl false (eI .u8 (fu s n)),hx h (lY bs i j h.blks.length (bD s n)) ts):=by
 rw [tJ];have hS:=fun L hL hT=>Ly L h bs ts i j s hs N n hN hn hc hi hj hij hL hT;have hl1:=oE bs i j h.blks.length s;have htr2:gq (hx h (lY bs i j h.blks.length (bD s n)) ts) (h.blks.length+bs.length) (h.toks.length+ts.length)=hx h (lY bs i j h.blks.length (bD s n)) ts:=FK h bs ts i j _ _;generalize lY bs i j h.blks.length s=B1,lY bs i j h.blks.length (bD s n)=B2,fu s n=l at*;simp -implicitDefEqProofs [jb,aC,aB,hl1,lx,J.okV,J.cells,ao,hS,hL,hT,htr2]
theorem zbP (L:az)(h:O)(bs:List (List J))(ts:List Nat)(i j:Nat)(s:Sp)(hs:s.ok)(N:Int)(n:Nat)(hN:n=N.toNat)(hn:n < 10000)(hc:s.c < 50000000)
  (hi:i < bs.length) (hj:j < bs.length) (hij:i≠j) (hL:L.rob<=h.blks.length) (hT:L.rot<=h.toks.length):
  aa ah L cP [.agg [pA h.blks.length i 0],Ii N] (hx h (lY bs i j h.blks.length s) ts)=some (.tup [.vsl false ((aU s n).1.1.map cW),Ii (aU s n).1.2.2],hx h (lY bs i j h.blks.length (aU s n).2) ts):=by
 rw [sG];have hS:=fun L hL hT=>zbO L h bs ts i j s hs N n hN hn hc hi hj hij hL hT;have hl1:=oE bs i j h.blks.length s;have htr2:gq (hx h (lY bs i j h.blks.length (aU s n).2) ts) (h.blks.length+bs.length) (h.toks.length+ts.length)=hx h (lY bs i j h.blks.length (aU s n).2) ts:=FK h bs ts i j _ _;have hun:=Mi (h.blks.length+bs.length) (h.toks.length+ts.length) (aU s n).1.1;generalize aU s n=E at*;obtain ⟨⟨l,t,e⟩,q⟩:=E;simp only at*;generalize lY bs i j h.blks.length s=B1,lY bs i j h.blks.length q=B2 at*;have hfz:=fun hh m=>ix hh (h.blks.length+bs.length) (h.toks.length+ts.length) m false hun;generalize l.map cW=lw at*;unfold fnB at hS;simp -implicitDefEqProofs [iC,aC,aB,hl1,lx,J.okV,J.cells,ao,Z,hS,hL,hT,htr2,hfz]
structure Tc where
 g:Gd
 tg:List Int
 s:Sp
def tC (n B:Nat)(tg:List Int):List J:=pA n B 0 :: (cI .u8 tg++[.iface 109 (.agg [pA n (B+3) 0])])
def trW (n B:Nat)(t:Tc):List (List J):=[Ki t.g,tC n B t.tg,cI .u8 t.s.S,Pu n (B+2) t.s]
def oe (n:Nat)(bs:List (List J))(t:Tc)(js:List (List J)):List (List J):=bs++(trW n bs.length t++js)
section
variable (n:Nat) (bs:List (List J)) (t:Tc) (js:List (List J))
theorem Bd (w:List (List J)):oe n bs t js++w=oe n bs t (js++w):=by simp [oe]
theorem d5:(oe n bs t js).length=bs.length+(4+js.length):=by simp [oe,trW];omega
theorem QJ:(oe n bs t js)[bs.length]?=some (Ki t.g):=jY bs _ bs.length 0 rfl
theorem K5:(oe n bs t js)[bs.length+1]?=some (tC n bs.length t.tg):=jY bs _ bs.length 1 rfl
theorem Nm (w:List (List J))(k:Nat):(oe n bs t (js++w))[bs.length+(4+js.length+k)]?=w[k]?:=by
 unfold oe;rw [jY bs _ bs.length _ rfl,<- List.append_assoc,List.getElem?_append_right (by simp [trW];omega)]
 congr 1
 simp [trW];omega
theorem Be (w:List (List J))(k:Nat)(v:List J):(oe n bs t (js++w)).set (bs.length+(4+js.length+k)) v=oe n bs t (js++w.set k v):=by
 unfold oe;rw [l9 bs _ bs.length _ v rfl,<- List.append_assoc,List.set_append_right _ _ (by simp [trW];omega),List.append_assoc]
 congr 4
 simp [trW];omega
theorem J9 (g:Gd):(oe n bs t js).set bs.length (Ki g)=oe n bs {t with g:=g} js:=l9 bs _ bs.length 0 _ rfl
theorem Hm (q:Sp):lY (oe n bs t js) (bs.length+3) (bs.length+2) n q=oe n bs {t with s:=q} js:=by
 have e1:=l9 bs (trW n bs.length t++js) bs.length 3 (Pu n (bs.length+2) q) rfl;have e2:=l9 bs ((trW n bs.length t++js).set 3 (Pu n (bs.length+2) q)) bs.length 2 (cI .u8 q.S) rfl;unfold lY JR oe;rw [e1,e2];rfl
theorem XL (h:O)(ts us:List Nat)(w:List (List J)):gq (hx h (oe n bs t (js++w)) (ts++us)) (h.blks.length+(bs.length+(4+js.length))) (h.toks.length+ts.length)=hx h (oe n bs t js) ts:=by
 rw [<- Bd];exact QF h _ w ts us _ (d5 n bs t js).symm
theorem Is (h:O)(ts:List Nat):gq (hx h (oe n bs t js) ts) (h.blks.length+(bs.length+(4+js.length))) (h.toks.length+ts.length)=hx h (oe n bs t js) ts:=by
 have:=XL n bs t js h ts [] [];simpa using this
theorem Iu (h:O)(ts:List Nat)(w:List (List J)):gq (hx h (oe n bs t (js++w)) ts) (h.blks.length+(bs.length+(4+js.length))) (h.toks.length+ts.length)=hx h (oe n bs t js) ts:=by
 have:=XL n bs t js h ts [] w;simpa using this
end
theorem zfo (n B:Nat)(tg:List Int):eL false (tC n B tg) 0 1=some (pA n B 0):=rfl
theorem Z0 (n B:Nat)(tg:List Int)(h:tg.length=32):eL false (tC n B tg) 33 1=some (.iface 109 (.agg [pA n (B+3) 0])):=by
 have:(tC n B tg)[33]?=some (.iface 109 (.agg [pA n (B+3) 0])):=by
  unfold tC;rw [List.getElem?_cons_succ,List.getElem?_append_right (by simp [h])];simp [h]
 rw [ao];exact this
theorem zjI (L:az)(h:O)(bs js:List (List J))(ts:List Nat)(t:Tc)(hL:L.rob<=h.blks.length):
  aa ah L eN [pA h.blks.length (bs.length+1) 0] (hx h (oe h.blks.length bs t js) ts)=some (Ii t.g.e,hx h (oe h.blks.length bs t js) ts):=by
 rw [sB];have hF:=fun L hL=>IU L h (oe h.blks.length bs t js) ts bs.length t.g 0 (QJ _ _ _ _) hL;have hf:aK t.g 0=t.g:=by
  unfold aK;split
  ·next h0=>obtain ⟨⟨l,k,e⟩,tg,s⟩:=t;simp only at h0 |-;rw [h0]
  ·rfl
 rw [hf,J9] at hF;have htr:=Is h.blks.length bs t js h ts;have hl:=d5 h.blks.length bs t js;have g1:=K5 h.blks.length bs t js;have h0:=zfo h.blks.length bs.length t.tg;obtain ⟨g,tg,s⟩:=t;simp only at*;generalize tC h.blks.length bs.length tg=tcs,oe h.blks.length bs ⟨g,tg,s⟩ js=B at*;simp -implicitDefEqProofs [iw,aC,aB,hl,g1,h0,hF,hL,htr]
theorem XQ (L:az)(h:O)(bs js:List (List J))(ts:List Nat)(t:Tc)(hL:L.rob<=h.blks.length):
  aa ah L dH [pA h.blks.length (bs.length+1) 0] (hx h (oe h.blks.length bs t js) ts)=some (Ii (me t.g).e,hx h (oe h.blks.length bs {t with g:=me t.g} js) ts):=by
 rw [qE];have hF:=fun L hL=>Yv L h (oe h.blks.length bs t js) ts bs.length t.g (QJ _ _ _ _) hL;rw [J9] at hF;have htr:=Is h.blks.length bs {t with g:=me t.g} js h ts;have hl:=d5 h.blks.length bs t js;have g1:=K5 h.blks.length bs t js;have h0:=zfo h.blks.length bs.length t.tg;generalize tC h.blks.length bs.length t.tg=tcs,oe h.blks.length bs t js=B,oe h.blks.length bs {t with g:=me t.g} js=B2 at*;simp -implicitDefEqProofs [fH,aC,aB,hl,g1,h0,hF,hL,htr]
theorem Ix (L:az)(h:O)(bs js:List (List J))(ts:List Nat)(t:Tc)(k ty c:Int)(d:J)(hk:t.g.k < 1000000000)(hd:d.okV=true)(hL:L.rob<=h.blks.length):
  aa ah L bd [pA h.blks.length (bs.length+1) 0,.agg [Ii k,Ii ty,Ii c,d]] (hx h (oe h.blks.length bs t js) ts)=some (Ii (al t.g k ty c).e,hx h (oe h.blks.length bs {t with g:=al t.g k ty c} js) ts):=by
 rw [rR];have hF:=fun L hL=>zki L h (oe h.blks.length bs t js) ts bs.length t.g k ty c hk (QJ _ _ _ _) hL;rw [J9] at hF;have htr:=Is h.blks.length bs {t with g:=al t.g k ty c} js h ts;have hl:=d5 h.blks.length bs t js;have g1:=K5 h.blks.length bs t js;have h0:=zfo h.blks.length bs.length t.tg;generalize tC h.blks.length bs.length t.tg=tcs,oe h.blks.length bs t js=B,oe h.blks.length bs {t with g:=al t.g k ty c} js=B2 at*;simp -implicitDefEqProofs [gR,aC,aB,hl,g1,h0,lx,J.okV,J.cells,ao,hF,hL,htr]
end Go.Av
namespace Go.Av
theorem Sg (n:Nat)(bs:List (List J))(t:Tc)(js:List (List J))(hh):(oe n bs t js)[bs.length+1]'hh=tC n bs.length t.tg:=(List.getElem?_eq_some_iff.1 (K5 n bs t js)).2
theorem Ke (n:Nat)(bs:List (List J))(t:Tc)(js:List (List J))(x:List J)(hh):(oe n bs t (js++[x]))[bs.length+(4+js.length)]'hh=x:=(List.getElem?_eq_some_iff.1 (Nm n bs t js [x] 0)).2
theorem zni {C:eh}{L:az}{h:O}{f:FuncId}(v:J)(as:List J):zbp C L h (some ([(0,1,false)],f)) (.agg [v]) as=aa C L f (v :: as) h:=rfl
def oh (t:Tc)(ty:Int)(b:List Int):Tc × Int:=
 if t.g.e=0 then
  if (iT ty b.length).2=0 then
   if (al t.g 1 ty (iT ty b.length).1).e=0 then
    if uP ty b=0 then ({t with g:=al t.g 1 ty (iT ty b.length).1,s:=aA t.s (im 1 ty (iT ty b.length).1 b)},0)
    else ({t with g:=aK (al t.g 1 ty (iT ty b.length).1) (uP ty b)},(aK (al t.g 1 ty (iT ty b.length).1) (uP ty b)).e)
   else ({t with g:=al t.g 1 ty (iT ty b.length).1},(al t.g 1 ty (iT ty b.length).1).e)
  else ({t with g:=aK t.g (iT ty b.length).2},(aK t.g (iT ty b.length).2).e)
 else (t,t.g.e)
def kV (t:Tc)(N:Int):(List Int × Int) × Tc:=
 if (al t.g 2 1 N).e=0 then ((fu (aA t.s (im 2 1 N [])) N.toNat,0),{t with g:=al t.g 2 1 N,s:=bD (aA t.s (im 2 1 N [])) N.toNat})
 else (([],(al t.g 2 1 N).e),{t with g:=al t.g 2 1 N})
def ga (t:Tc)(N:Int):(List (List ac) × Int) × Tc:=
 if (al t.g 2 3 N).e=0 then
  if (aU (aA t.s (im 2 3 N [])) N.toNat).1.2.2=0 then (((aU (aA t.s (im 2 3 N [])) N.toNat).1.1,0),{t with g:=al t.g 2 3 N,s:=(aU (aA t.s (im 2 3 N [])) N.toNat).2})
  else (([],(aK (al t.g 2 3 N) (aU (aA t.s (im 2 3 N [])) N.toNat).1.2.2).e),{t with g:=aK (al t.g 2 3 N) (aU (aA t.s (im 2 3 N [])) N.toNat).1.2.2,s:=(aU (aA t.s (im 2 3 N [])) N.toNat).2})
 else (([],(al t.g 2 3 N).e),{t with g:=al t.g 2 3 N})
def rU (t:Tc):Tc × Int:=
 if (al t.g 3 0 1).e=0 then ({t with g:=al t.g 3 0 1,s:=BR (aA t.s (im 3 0 1 []))},0)
 else ({t with g:=al t.g 3 0 1},(al t.g 3 0 1).e)
theorem VU (L:az)(h:O)(bs js:List (List J))(ts:List Nat)(t:Tc)(N:Int)(hk:t.g.k < 1000000000)(hs:t.s.ok)(hc:t.s.c < 10000000)(ht:t.tg.length=32)(hn:(al t.g 2 1 N).e=0->N.toNat < 1000000)(hL:L.rob<=h.blks.length)(hT:L.rot<=h.toks.length):
  aa ah L dc [pA h.blks.length (bs.length+1) 0,Ii N] (hx h (oe h.blks.length bs t js) ts)=some (.tup [.vsl false (eI .u8 (kV t N).1.1),Ii (kV t N).1.2],hx h (oe h.blks.length bs (kV t N).2 js) ts):=by
 rw [qj];have hnx:=fun L hL x=>Ix L h bs (js++[x]) ts t 2 1 N .nsl hk rfl hL;have hte:=fun L hL x g=>Mj L h (oe h.blks.length bs {t with g:=g} (js++[x])) ts (bs.length+3) (bs.length+2) t.s hs 2 1 N [] .nsl (fun h=>by simp) rfl (fun i hi=>by simp at hi) (by simp) (by omega) (by rw [d5];omega) (by rw [d5];omega) (by omega) hL;simp only [Hm] at hte;have hq1:=jh hs (sJ 2 1 N (b:=[]) (fun i hi=>by simp at hi));have hq2:=Fk hs (im 2 1 N []);have hq3:=Xt 2 1 N (b:=[]) (by simp)
 have hq4:(im 2 1 N []).length<=6:=by unfold im;split <;> simp [AX]
 unfold kV;generalize al t.g 2 1 N=g1,aA t.s (im 2 1 N [])=q at*;have hby:=fun L hL hT x=>fun hn'=>ze2 L h (oe h.blks.length bs {t with g:=g1} (js++[x])) ts (bs.length+3) (bs.length+2) q hq1 N N.toNat rfl hn' (by omega) (by rw [d5];omega) (by rw [d5];omega) (by omega) hL hT;simp only [Hm] at hby;have hl:=d5 h.blks.length bs;have g1':=fun g q js=>K5 h.blks.length bs ⟨g,t.tg,q⟩ js;have g2':=fun g q js hh=>Sg h.blks.length bs ⟨g,t.tg,q⟩ js hh;simp only at g1' g2';have h0:=Z0 h.blks.length bs.length t.tg ht;have gw:=fun t x hh=>Ke h.blks.length bs t js x hh;have sw:=fun t x v=>Be h.blks.length bs t js [x] 0 v;have htr:=fun t w=>Iu h.blks.length bs t js h ts w;have happ:=fun t js w=>Bd h.blks.length bs t js w;simp only [Nat.add_zero,List.getElem?_cons_zero,List.set_cons_zero] at sw;generalize tC h.blks.length bs.length t.tg=tcs at*;by_cases he:g1.e=0
 ·rw [if_pos he];have be:(g1.e==0)=true:=by simp [he]
  have hby1:=fun L hL hT x=>hby L hL hT x (hn he);simp -implicitDefEqProofs [cZ,aC,aB,hl,happ,g1',g2',h0,gw,sw,ak,setAt,aq,ab,ap,ay,J.under,hL,hT,hnx,bne,be,hte,hby1,htr,Z]
 ·rw [if_neg he];have be:(g1.e==0)=false:=by simp [he]
  simp -implicitDefEqProofs [cZ,aC,aB,hl,happ,g1',g2',h0,gw,sw,ak,setAt,aq,ab,ap,ay,J.under,hL,hT,hnx,bne,be,htr,Z]
theorem Qa (L:az)(h:O)(bs js:List (List J))(ts:List Nat)(t:Tc)(N:Int)(hk:t.g.k < 1000000000)(hs:t.s.ok)(hc:t.s.c < 10000000)(ht:t.tg.length=32)(hn:(al t.g 2 3 N).e=0->N.toNat < 10000)(hL:L.rob<=h.blks.length)(hT:L.rot<=h.toks.length):
  aa ah L cu [pA h.blks.length (bs.length+1) 0,Ii N] (hx h (oe h.blks.length bs t js) ts)=some (.tup [.vsl false ((ga t N).1.1.map cW),Ii (ga t N).1.2],hx h (oe h.blks.length bs (ga t N).2 js) ts):=by
 rw [o9];have hnx:=fun L hL x=>Ix L h bs (js++[x]) ts t 2 3 N .nsl hk rfl hL;have hte:=fun L hL x g=>Mj L h (oe h.blks.length bs {t with g:=g} (js++[x])) ts (bs.length+3) (bs.length+2) t.s hs 2 3 N [] .nsl (fun h=>by simp) rfl (fun i hi=>by simp at hi) (by simp) (by omega) (by rw [d5];omega) (by rw [d5];omega) (by omega) hL;simp only [Hm] at hte;have hq1:=jh hs (sJ 2 3 N (b:=[]) (fun i hi=>by simp at hi));have hq2:=Fk hs (im 2 3 N [])
 have hq4:(im 2 3 N []).length<=6:=by unfold im;split <;> simp [AX]
 unfold ga;generalize al t.g 2 3 N=g1,aA t.s (im 2 3 N [])=q at*;have hby:=fun L hL hT x=>fun hn'=>zbP L h (oe h.blks.length bs {t with g:=g1} (js++[x])) ts (bs.length+3) (bs.length+2) q hq1 N N.toNat rfl hn' (by omega) (by rw [d5];omega) (by rw [d5];omega) (by omega) hL hT;simp only [Hm] at hby;have hun:=fun nb nt=>Mi nb nt (aU q N.toNat).1.1;generalize aU q N.toNat=E at*;obtain ⟨⟨l,tr,er⟩,q2⟩:=E;simp only at*;have hFa:=fun L hL x e=>IU L h (oe h.blks.length bs ⟨g1,t.tg,q2⟩ (js++[x])) ts bs.length g1 e (QJ _ _ _ _) hL;simp only [J9] at hFa;have hl:=d5 h.blks.length bs;have g1':=fun g q js=>K5 h.blks.length bs ⟨g,t.tg,q⟩ js;have g2':=fun g q js hh=>Sg h.blks.length bs ⟨g,t.tg,q⟩ js hh;simp only at g1' g2';have h0:=Z0 h.blks.length bs.length t.tg ht;have h00:=zfo h.blks.length bs.length t.tg;have gw:=fun t x hh=>Ke h.blks.length bs t js x hh;have sw:=fun t x v=>Be h.blks.length bs t js [x] 0 v;have htr:=fun t w=>Iu h.blks.length bs t js h ts w;have happ:=fun t js w=>Bd h.blks.length bs t js w;simp only [Nat.add_zero,List.getElem?_cons_zero,List.set_cons_zero] at sw;generalize tC h.blks.length bs.length t.tg=tcs at*;by_cases he:g1.e=0
 ·rw [if_pos he];have be:(g1.e==0)=true:=by simp [he]
  have hby1:=fun L hL hT x=>hby L hL hT x (hn he);clear hby;by_cases her:er=0
  ·rw [if_pos her];have ber:(er==0)=true:=by simp [her]
   have hfz:=fun hh nb nt m=>ix hh nb nt m false (hun nb nt);simp only;generalize l.map cW=lw at*;simp -implicitDefEqProofs [bF,aC,aB,hl,happ,g1',g2',h0,gw,sw,ak,setAt,aq,ab,ap,ay,J.under,hL,hT,hnx,bne,be,hte,hby1,ber,hfz,htr,Z]
  ·rw [if_neg her];have ber:(er==0)=false:=by simp [her]
   generalize l.map cW=lw at*;simp -implicitDefEqProofs [bF,aC,aB,hl,happ,g1',g2',h0,h00,gw,sw,ak,setAt,aq,ab,ap,ay,J.under,hL,hT,hnx,bne,be,hte,hby1,ber,hFa,htr,Z]
 ·rw [if_neg he];have be:(g1.e==0)=false:=by simp [he]
  simp -implicitDefEqProofs [bF,aC,aB,hl,happ,g1',g2',h0,gw,sw,ak,setAt,aq,ab,ap,ay,J.under,hL,hT,hnx,bne,be,htr,Z]
theorem VY (L:az)(h:O)(bs js:List (List J))(ts:List Nat)(t:Tc)(hk:t.g.k < 1000000000)(hs:t.s.ok)(hc:t.s.c < 10000000)(ht:t.tg.length=32)(hL:L.rob<=h.blks.length):
  aa ah L de [pA h.blks.length (bs.length+1) 0] (hx h (oe h.blks.length bs t js) ts)=some (Ii (rU t).2,hx h (oe h.blks.length bs (rU t).1 js) ts):=by
 rw [pQ];have hnx:=fun L hL x=>Ix L h bs (js++[x]) ts t 3 0 1 .nsl hk rfl hL;have hte:=fun L hL x g=>Mj L h (oe h.blks.length bs {t with g:=g} (js++[x])) ts (bs.length+3) (bs.length+2) t.s hs 3 0 1 [] .nsl (fun h=>by simp) rfl (fun i hi=>by simp at hi) (by simp) (by omega) (by rw [d5];omega) (by rw [d5];omega) (by omega) hL;simp only [Hm] at hte;have hq1:=jh hs (sJ 3 0 1 (b:=[]) (fun i hi=>by simp at hi));have hq2:=Fk hs (im 3 0 1 [])
 have hq4:(im 3 0 1 []).length<=6:=by unfold im;split <;> simp [AX]
 unfold rU;generalize al t.g 3 0 1=g1,aA t.s (im 3 0 1 [])=q at*;have hby:=fun L hL x=>UV L h (oe h.blks.length bs {t with g:=g1} (js++[x])) ts (bs.length+3) (bs.length+2) q hq1 (by omega) (by rw [d5];omega) (by rw [d5];omega) (by omega) hL;simp only [Hm] at hby;generalize BR q=q2 at*;have hl:=d5 h.blks.length bs;have g1':=fun g q js=>K5 h.blks.length bs ⟨g,t.tg,q⟩ js;have g2':=fun g q js hh=>Sg h.blks.length bs ⟨g,t.tg,q⟩ js hh;simp only at g1' g2';have h0:=Z0 h.blks.length bs.length t.tg ht;have gw:=fun t x hh=>Ke h.blks.length bs t js x hh;have sw:=fun t x v=>Be h.blks.length bs t js [x] 0 v;have htr:=fun t w=>Iu h.blks.length bs t js h ts w;have happ:=fun t js w=>Bd h.blks.length bs t js w;simp only [Nat.add_zero,List.getElem?_cons_zero,List.set_cons_zero] at sw;generalize tC h.blks.length bs.length t.tg=tcs at*;by_cases he:g1.e=0
 ·rw [if_pos he];have be:(g1.e==0)=true:=by simp [he]
  simp -implicitDefEqProofs [c9,aC,aB,hl,happ,g1',g2',h0,gw,sw,ak,setAt,aq,ab,ap,ay,J.under,hL,hnx,bne,be,hte,hby,zni,htr,Z]
  try exact he
 ·rw [if_neg he];have be:(g1.e==0)=false:=by simp [he]
  simp -implicitDefEqProofs [c9,aC,aB,hl,happ,g1',g2',h0,gw,sw,ak,setAt,aq,ab,ap,ay,J.under,hL,hnx,bne,be,htr,Z]
theorem YS (L:az)(h:O)(bs js:List (List J))(ts:List Nat)(t:Tc)(ty:Int)(c:Bool)(b:List Int)(hb:ce b)(hbl:b.length < 10000000)(hk:t.g.k < 1000000000)(hs:t.s.ok)(hc:t.s.c < 10000000)(ht:t.tg.length=32)(hL:L.rob<=h.blks.length):
  aa ah L dF [pA h.blks.length (bs.length+1) 0,Ii ty,.vsl c (eI .u8 b)] (hx h (oe h.blks.length bs t js) ts)=some (Ii (oh t ty b).2,hx h (oe h.blks.length bs (oh t ty b).1 js) ts):=by
 rw [qK];have hEr:=fun L hL=>zjI L h bs js ts t hL;have hCn:=fun L h=>KU L h ty c b (by omega);have hCk:=fun L h=>zbv L h ty c b hb (by omega);have hF0:=fun L hL e=>IU L h (oe h.blks.length bs t js) ts bs.length t.g e (QJ _ _ _ _) hL;simp only [J9] at hF0;unfold oh;generalize iT ty b.length=cn at*;obtain ⟨n,e1⟩:=cn;simp only at*;have hnx:=fun L hL x=>Ix L h bs (js++[x]) ts t 1 ty n (.vsl c (eI .u8 b)) hk rfl hL;have hte:=fun L hL x g=>Mj L h (oe h.blks.length bs {t with g:=g} (js++[x])) ts (bs.length+3) (bs.length+2) t.s hs 1 ty n b (.vsl c (eI .u8 b)) (fun h=>by simp) rfl hb hbl (by omega) (by rw [d5];omega) (by rw [d5];omega) (by omega) hL;simp only [Hm] at hte;generalize al t.g 1 ty n=g1,aA t.s (im 1 ty n b)=q at*;have hF1:=fun L hL x e=>IU L h (oe h.blks.length bs ⟨g1,t.tg,t.s⟩ (js++[x])) ts bs.length g1 e (QJ _ _ _ _) hL;simp only [J9] at hF1;generalize uP ty b=e2 at*;have hl:=d5 h.blks.length bs;have g1':=fun g q js=>K5 h.blks.length bs ⟨g,t.tg,q⟩ js;have g2':=fun g q js hh=>Sg h.blks.length bs ⟨g,t.tg,q⟩ js hh;simp only at g1' g2';have h0:=Z0 h.blks.length bs.length t.tg ht;have h00:=zfo h.blks.length bs.length t.tg;have gw:=fun t x hh=>Ke h.blks.length bs t js x hh;have sw:=fun t x v=>Be h.blks.length bs t js [x] 0 v;have htr:=fun t w=>Iu h.blks.length bs t js h ts w;have htr0:=fun t=>Is h.blks.length bs t js h ts;have happ:=fun t js w=>Bd h.blks.length bs t js w;simp only [Nat.add_zero,List.getElem?_cons_zero,List.set_cons_zero] at sw;generalize tC h.blks.length bs.length t.tg=tcs at*;obtain ⟨g0,tg,s0⟩:=t;simp only at*;by_cases hg0:g0.e=0
 ·rw [if_pos hg0];have bg:(g0.e==0)=true:=by simp [hg0]
  by_cases h1:e1=0
  ·rw [if_pos h1];have b1:(e1==0)=true:=by simp [h1]
   by_cases hg1:g1.e=0
   ·rw [if_pos hg1];have bg1:(g1.e==0)=true:=by simp [hg1]
    by_cases h2:e2=0
    ·rw [if_pos h2];have b2:(e2==0)=true:=by simp [h2]
     simp -implicitDefEqProofs [aV,aC,aB,hl,happ,hEr,hCn,hCk,g1',g2',h0,gw,sw,ak,setAt,aq,ab,ap,ay,J.under,hL,hnx,bne,bg,b1,bg1,b2,hte,htr,htr0,Z]
    ·rw [if_neg h2];have b2:(e2==0)=false:=by simp [h2]
     simp -implicitDefEqProofs [aV,aC,aB,hl,happ,hEr,hCn,hCk,g1',g2',h0,h00,gw,sw,ak,setAt,aq,ab,ap,ay,J.under,hL,hnx,bne,bg,b1,bg1,b2,hF1,htr,htr0,Z]
   ·rw [if_neg hg1];have bg1:(g1.e==0)=false:=by simp [hg1]
    simp -implicitDefEqProofs [aV,aC,aB,hl,happ,hEr,hCn,hCk,g1',g2',h0,gw,sw,ak,setAt,aq,ab,ap,ay,J.under,hL,hnx,bne,bg,b1,bg1,htr,htr0,Z]
  ·rw [if_neg h1];have b1:(e1==0)=false:=by simp [h1]
   simp -implicitDefEqProofs [aV,aC,aB,hl,happ,hEr,hCn,hCk,g1',g2',h0,h00,hL,bne,bg,b1,hF0,htr,htr0,Z]
 ·rw [if_neg hg0];have bg:(g0.e==0)=false:=by simp [hg0]
  simp -implicitDefEqProofs [aV,aC,aB,hl,happ,hEr,bne,bg,hL,htr,htr0]
def uL:List Int:=[97,118,111,117,99,104,47,116,114,97,110,115,99,114,105,112,116,47,49]
def su:List Int:=tab 32 fun _=>0
def uo (b:Int)(l:List It):List Int × Int × Int:=
 if b≠1/\b≠2 then (su, -1,15)
 else if (fw l 0 []).2.2≠0 then (su,(fw l 0 []).2.1,(fw l 0 []).2.2)
 else (P4 (uL++([IntKind.u8.wrap b]++(fw l 0 []).1)), -1,0)
theorem HS:∀ (l:List It) (k:Nat) (out:List Int),(fw l k out).1.length<=out.length+l.length*1000008
 | [],k,out=>by simp [fw]
 | x :: l, k, out => by
  rw [fw];split
  ·simp
  ·split
   ·rename_i hc;have h1:=HS l (k+1) (out++KG x);have h2:=(uw hc).2.2.2.2.2.2;simp only [List.length_append,zii,List.length_cons] at h1 |-;omega
   ·simp
theorem FE:[J.int .u8 97,J.int .u8 118,J.int .u8 111,J.int .u8 117,J.int .u8 99,J.int .u8 104,J.int .u8 47,J.int .u8 116,J.int .u8 114,J.int .u8 97,J.int .u8 110,J.int .u8 115,J.int .u8 99,J.int .u8 114,J.int .u8 105,J.int .u8 112,J.int .u8 116,J.int .u8 47,J.int .u8 49]=cI .u8 uL:=rfl
theorem Rp (L:az)(h:O)(z:List J)(b:Int)(r:List Int)(hr:r.length < 200000000000):
  aa ah L rO [.vsl true [[sA h.blks.length 1 0 1 19 (some 19)],[.vsl true (eI .u8 [b])],[.vsl false (eI .u8 r)]]] (hx h [z,cI .u8 uL] [])=some (.agg (cI .u8 (P4 (uL++([b]++r)))),hx h [z,cI .u8 uL] []):=by
 have h1 := zkr L (hx h [z, cI .u8 uL] []) true [(sA h.blks.length 1 0 1 19 (some 19), uL), (.vsl true (eI .u8 [b]), [b]), (.vsl false (eI .u8 r), r)] (by simp) (by
  intro p hp;simp only [List.mem_cons,List.not_mem_nil,or_false] at hp;rcases hp with rfl | rfl | rfl
  ·exact ⟨JM.sA [] .u8 1 19 _ uL rfl (by simp),by simp [uL]⟩
  ·exact ⟨JM.vsl _ .u8 true [b],by simp⟩
  ·exact ⟨JM.vsl _ .u8 false r,hr⟩)
 have h2:W9 [(sA h.blks.length 1 0 1 19 (some 19),uL),(.vsl true (eI .u8 [b]),[b]),(.vsl false (eI .u8 r),r)]=uL++([b]++r):=by simp [W9]
 rw [h2] at h1;exact h1
@[simp] theorem zrE (l:List Int):(P4 l).length=32:=by
 obtain ⟨c1,c2⟩:=sU l (q:=(tab 25 fun _=>0#64,0)) (by simp) (by simp);simp [P4,VE,fN,c1]
theorem zoo (L:az)(h:O)(b:Int)(l:List It)(hn:l.length<=2000):
  aa ah L FC [Ii b,.vsl false (l.map It.cells)] h=some (.tup [.agg (cI .u8 (uo b l).1),Ii (uo b l).2.1,Ii (uo b l).2.2],h):=by
 rw [TB];have hser:=fun L h=>zor L h l hn;by_cases hb:b≠1/\b≠2
 ·have e1:uo b l=(su, -1,15):=by unfold uo;rw [if_pos hb]
  rw [e1];simp [sM, -List.map_take,V,gQ,bne,beq_false_of_ne hb.1,beq_false_of_ne hb.2,ak,aq,ab,Z,su]
 ·have hb':b=1\/b=2:=by omega
  by_cases h0:(fw l 0 []).2.2=0
  ·have e1:uo b l=(P4 (uL++([IntKind.u8.wrap b]++(fw l 0 []).1)), -1,0):=by unfold uo;rw [if_neg hb,if_neg (by simpa using h0)]
   rw [e1];have hlen:(fw l 0 []).1.length < 200000000000:=by
    have:=HS l 0 [];simp at this;omega
   rcases hb' with rfl | rfl
   ·simp [sM, -List.map_take,V,gQ,hser,h0,ak,rep,chunks,fx,FE,Rp,hlen,aq,ab,Z]
   ·simp [sM, -List.map_take,V,gQ,hser,h0,ak,rep,chunks,fx,FE,Rp,hlen,aq,ab,Z]
  ·have e1:uo b l=(su,(fw l 0 []).2.1,(fw l 0 []).2.2):=by unfold uo;rw [if_neg hb,if_pos h0]
   rw [e1];have b0:((fw l 0 []).2.2==0)=false:=beq_false_of_ne h0;rcases hb' with rfl | rfl
   ·simp [sM, -List.map_take,V,gQ,hser,bne,b0,ak,aq,ab,Z,su]
   ·simp [sM, -List.map_take,V,gQ,hser,bne,b0,ak,aq,ab,Z,su]
@[irreducible] def Du (p:List Int):List Int:=(uo 1 (bp p).1).1
theorem Mw (p:List Int):Du p=(uo 1 (bp p).1).1:=by unfold Du;exact rfl
def xw (p:List Int):Tc:=⟨Sh p,Du p,rK (Du p)⟩
theorem Tq (l:List It):(uo 1 l).1.length=32:=by
 unfold uo;split
 ·simp [su]
 ·split
  ·simp [su]
  ·simp
theorem Jo (p:List Int):(Du p).length=32:=by rw [Mw];exact Tq _
theorem V9:∀ (f:Nat) (b:List Int) (k:Nat) (acc:List It),k<=1024->acc.length<=k->(DN f b k acc).1.length<=1024
 | 0,b,k,acc,hk,ha=>by simp [DN];omega
 | f + 1, b, k, acc, hk, ha => by
  unfold DN;split
  ·simp only;omega
  ·split
   ·simp
   ·split
    ·exact V9 f _ (k+1) _ (by omega) (by simp;omega)
    ·simp
theorem Ov (b:List Int):(bp b).1.length<=1024:=V9 _ _ _ _ (by omega) (by simp)
theorem HU (L:az)(h:O)(bs:List (List J))(ts:List Nat)(i off:Nat)(cs:List J)(h1:(decide (L.rob<=h.blks.length)&&decide (L.nb<=h.blks.length+i))=true):
  dR L (hx h bs ts) (pA h.blks.length i off) cs=stO h bs ts i off cs bs[i]?:=by
 simp only [Bool.and_eq_true,decide_eq_true_eq] at h1;unfold dR pA stO stI hx;simp only;rw [List.getElem?_append_right (Nat.le_add_right _ _),Nat.add_sub_cancel_left]
 cases bs[i]? with
 | none=>rfl
 | some old=>
  simp only [Option.bind_some];by_cases hc:off+cs.length<=old.length
  ·rw [if_pos ⟨by omega,hc,.inl (by omega)⟩,if_pos (by simpa using hc)];rw [List.set_append_right _ _ (Nat.le_add_right _ _),Nat.add_sub_cancel_left]
  ·rw [if_neg (fun h=>hc h.2.1),if_neg (by simpa using hc)]
def z32:List Int:=tab 32 fun _=>0
def Xb (n B:Nat)(tg:List Int):List J:=pA n B 0 :: (cI .u8 tg++[.nif])
theorem zaY (n B:Nat){tg:List Int}(h:tg.length=32):(Xb n B tg).length=34:=by simp [Xb,h]
theorem zkO (n B:Nat){tg tg':List Int}(h:tg.length=32)(h':tg'.length=32):setAt (Xb n B tg) 1 (cI .u8 tg')=Xb n B tg':=by
 rw [KX _ _ _ (by simp [Xb,h,h'])];unfold putAt Xb;rw [List.take_succ_cons,List.take_zero];have:(pA n B 0 :: (cI .u8 tg++[J.nif])).drop (1+(cI .u8 tg').length)=[.nif]:=by
  rw [show 1+(cI .u8 tg').length=32+1 by simp [h'],List.drop_succ_cons,List.drop_left' (by simp [h])]
 rw [this];rfl
theorem zhF (n B:Nat){tg:List Int}(h:tg.length=32):setAt (Xb n B tg) 33 [.iface 109 (.agg [pA n (B+3) 0])]=tC n B tg:=by
 rw [KX _ _ _ (by simp [Xb,h])];unfold putAt Xb tC;rw [show 33=32+1 from rfl,List.take_succ_cons,List.take_left' (by simp [h])];have:(pA n B 0 :: (cI .u8 tg++[J.nif])).drop (32+1 + [J.iface 109 (.agg [pA n (B+3) 0])].length)=[]:=by
  rw [List.drop_eq_nil_iff];simp [h]
 rw [this];simp
theorem zrI (n B:Nat){tg:List Int}(h:tg.length=32):eL true (Xb n B tg) 1 32=some (.agg (cI .u8 tg)):=by
 have:((Xb n B tg).drop 1).take 32=cI .u8 tg:=by
  unfold Xb;rw [List.drop_one,List.tail_cons,List.take_left' (by simp [h])]
 unfold eL;rw [if_pos rfl,if_pos (by simp [Xb,h]),this]
theorem zot (L:az)(h:O)(p:J)(t:TypeId)(v:J):J4 L h 1 p (.iface t v)=UG (dR L h p [.iface t v]):=by simp [J4,J.cells,J.okV]
theorem zkS (L:az)(h:O)(bs:List (List J))(ts:List Nat)(c:Bool)(p:List Int)(hp:ce p)(hl:p.length < 1000000000)(hL:L.rob<=h.blks.length)(hnb:L.nb<=h.blks.length+bs.length):
  aa ah L lk [Ii 1,.vsl c (eI .u8 p)] (hx h bs ts)=
   if (bp p).2.2=0 then some (.tup [pA h.blks.length (bs.length+1) 0,Ii (-1),Ii 0],hx h (oe h.blks.length bs (xw p) []) ts)
   else some (.tup [.nilp,Ii (bp p).2.1,Ii (bp p).2.2],hx h bs ts):=by
 rw [vk];have hG:=fun L=>zjn L h bs ts c p hp hl;have hpl:=Ov p;have hTg:=fun L h=>zoo L h 1 (bp p).1 (by omega);rw [<- Mw] at hTg;have htl:=Jo p;have hIt:=fun L H b hb=>zbZ L H (.ptr b 0) b (Sh p) rfl hb (by show (bp p).1.length < _;omega);have hng:(Sh p).l=(bp p).1:=rfl;rw [hng] at hIt;by_cases he:(bp p).2.2=0
 ·rw [if_pos he];simp only [if_pos he] at hG;have hB:oe h.blks.length bs (xw p) []=bs++[Ki (Sh p),tC h.blks.length bs.length (Du p),cI .u8 (rK (Du p)).S,Pu h.blks.length (bs.length+2) (rK (Du p))]:=by simp [oe,trW,xw]
  rw [hB];generalize uo 1 (bp p).1=tgl at*;have hOf:=fun L hL w=>UN L h (bs++w) ts (Du p) htl hL;generalize Sh p=g,(bp p).1.map It.cells=its,Du p=tg at*;have hfill:ak [J.nilp,.int .u8 0,.int .u8 0,.int .u8 0,.int .u8 0,.int .u8 0,.int .u8 0,.int .u8 0,.int .u8 0,.int .u8 0,.int .u8 0,.int .u8 0,.int .u8 0,.int .u8 0,.int .u8 0,.int .u8 0,.int .u8 0,.int .u8 0,.int .u8 0,.int .u8 0,.int .u8 0,.int .u8 0,.int .u8 0,.int .u8 0,.int .u8 0,.int .u8 0,.int .u8 0,.int .u8 0,.int .u8 0,.int .u8 0,.int .u8 0,.int .u8 0,.int .u8 0,.nif] [(0,1,pA h.blks.length bs.length 0)]=some (Xb h.blks.length bs.length z32):=rfl;have hzl:z32.length=32:=by simp [z32]
  have l1:=zaY h.blks.length bs.length hzl;have l2:=zaY h.blks.length bs.length htl;have s1:=zkO h.blks.length bs.length hzl htl;have s2:=zhF h.blks.length bs.length htl;have p1:=zrI h.blks.length bs.length htl;have hfif:ak [J.nilp] [(0,1,pA h.blks.length (bs.length+3) 0)]=some [pA h.blks.length (bs.length+3) 0]:=rfl;have gb:∀ w:List (List J),(bs++w)[bs.length+1]?=w[1]?:=fun w=>jY bs w bs.length 1 rfl;have gb0:∀ w:List (List J),(bs++w)[bs.length]?=w[0]?:=fun w=>jY bs w bs.length 0 rfl;have sb:∀ (w:List (List J)) v,(bs++w).set (bs.length+1) v=bs++w.set 1 v:=fun w v=>l9 bs w bs.length 1 v rfl;have hst:=fun w off cs=>HU L h (bs++w) ts (bs.length+1) off cs (by simp only [Bool.and_eq_true,decide_eq_true_eq];exact ⟨hL,by omega⟩);simp only [List.length_append,List.length_cons,List.length_nil] at hOf;have hgi:∀ w:List (List J),w[0]?=some (Ki g)->∀ L,aa ah L ib [pA h.blks.length bs.length 0] (hx h (bs++w) ts)=some (.vsl false its,hx h (bs++w) ts):=fun w hw L=>hIt L _ (h.blks.length+bs.length) (SQ ts (by rw [gb0,hw]));generalize tC h.blks.length bs.length tg=T2,Xb h.blks.length bs.length tg=T1,Xb h.blks.length bs.length z32=T0 at*;simp -implicitDefEqProofs [kW,hG,hTg,hgi,hfill,hfif,aE,MH,zd6,gb,gb0,sb,hst,aq,ab,zot,l1,l2,s1,s2,p1,hOf,hL,htl]
 ·rw [if_neg he];simp only [if_neg he] at hG;have be:((bp p).2.2==0)=false:=by simp [he]
  simp -implicitDefEqProofs [kW,hG,bne,be]
def p0:List Int:=[1,1,1,0,0,0,0,0,2,1,32,0,0,0,0,0]
structure Tc.ok (t:Tc):Prop where
 s:t.s.ok
 tg:t.tg.length=32
 l:t.g.l.length<=1024
 k:t.g.k<=t.g.l.length
 cnt:∀ x∈t.g.l,x.count<=1048576
theorem Hh {g:Gd}{k t c:Int}(h:(al g k t c).e=0):eU g k t c=true:=by
 rw [Mo] at h
 cases hn:eU g k t c with
 | true=>rfl
 | false=>
  rw [hn] at h;simp only [Bool.false_eq_true,if_false] at h;unfold aK at h;split at h
  ·simp at h
  ·contradiction
theorem Nh {g:Gd}{k t c:Int}(h:eU g k t c=true):g.k < g.l.length/\(gd g.l ⟨0,0,0,⟨#[]⟩⟩ g.k).count=c:=by
 unfold eU Hz at h;simp only [Bool.and_eq_true,decide_eq_true_eq,beq_iff_eq] at h;exact ⟨h.1,h.2.2.2⟩
theorem zjp {g:Gd}(k t c:Int)(h:g.k<=g.l.length):(al g k t c).k<=(al g k t c).l.length:=by
 rw [rg];have hd:al g k t c=if (aK g (if eU g k t c then 0 else 10)).e=0 then {aK g (if eU g k t c then 0 else 10) with k:=g.k+1} else aK g (if eU g k t c then 0 else 10):=rfl
 by_cases h0:(aK g (if eU g k t c then 0 else 10)).e=0
 ·have h1:(al g k t c).e=0:=by rw [Mo];exact h0
  have:=(Nh (Hh h1)).1;rw [hd,if_pos h0];simp only;omega
 ·rw [hd,if_neg h0,(rf _ _).2];exact h
theorem Hi {α:Type}{l:List α}{d:α}{i:Nat}(h:i < l.length):gd l d i∈l:=by
 have:gd l d i=l[i]:=by simp [gd,List.getD,h]
 rw [this];exact List.getElem_mem h
theorem Tc.ok.next {t:Tc}(h:t.ok)(k ty c:Int)(q:Sp)(hq:q.ok):Tc.ok {t with g:=al t.g k ty c,s:=q}:=
 ⟨hq,h.tg,by simp only [rg];exact h.l,zjp k ty c h.k,by simp only [rg];exact h.cnt⟩
theorem Tc.ok.fail {t:Tc}(h:t.ok)(e:Int):Tc.ok {t with g:=aK t.g e}:=
 ⟨h.s,h.tg,by simp only [(rf _ _).1];exact h.l,by simp only [(rf _ _).1,(rf _ _).2];exact h.k,by simp only [(rf _ _).1];exact h.cnt⟩
theorem Tc.ok.count {t:Tc}(h:t.ok){k ty c:Int}(hn:(al t.g k ty c).e=0):c<=1048576:=by
 obtain ⟨h1,h2⟩:=Nh (Hh hn);rw [<- h2];exact h.cnt _ (Hi h1)
theorem wc {s:Sp}(hs:s.ok)(k t c:Int)(b:List Int):(aA s (im k t c b)).c<=s.c+b.length+7:=by
 have h1:=Fk hs (im k t c b)
 have h2:(im k t c b).length<=6+b.length:=by unfold im;split <;> simp [AX];omega
 omega
theorem zjx {t:Tc}(h:t.ok)(ty:Int){b:List Int}(hb:ce b):(oh t ty b).1.ok/\(oh t ty b).1.s.c<=t.s.c+b.length+7:=by
 unfold oh;split
 ·split
  ·split
   ·split
    ·exact ⟨h.next _ _ _ _ (jh h.s (sJ _ _ _ hb)),wc h.s _ _ _ _⟩
    ·exact ⟨(h.next _ _ _ _ h.s).fail _,by simp only;omega⟩
   ·exact ⟨h.next _ _ _ _ h.s,by simp only;omega⟩
  ·exact ⟨h.fail _,by simp only;omega⟩
 ·exact ⟨h,by simp only;omega⟩
theorem mT:ce []:=fun i hi=>by simp at hi
theorem ZY {t:Tc}(h:t.ok)(N:Int):(kV t N).2.ok/\(kV t N).2.s.c<=t.s.c+N.toNat+7:=by
 unfold kV;have h1:=jh h.s (sJ 2 1 N mT);have h2:=wc h.s 2 1 N [];have h3:=BM (aA t.s (im 2 1 N [])) N.toNat;simp only [List.length_nil] at h2;split
 ·exact ⟨h.next _ _ _ _ (rJ h1 _),by simp only;omega⟩
 ·exact ⟨h.next _ _ _ _ h.s,by simp only;omega⟩
theorem zjz {t:Tc}(h:t.ok)(N:Int):ce (kV t N).1.1:=by
 unfold kV;split
 ·exact OC (jh h.s (sJ 2 1 N mT)) _
 ·exact mT
theorem XJ {s:Sp}(h:s.ok)(n:Nat):(aU s n).2.ok/\(aU s n).2.c<=s.c+2048*n:=UA n [] 0 h
theorem ZZ {t:Tc}(h:t.ok)(N:Int):(ga t N).2.ok/\(ga t N).2.s.c<=t.s.c+2048*N.toNat+7:=by
 unfold ga;have h1:=jh h.s (sJ 2 3 N mT);have h2:=wc h.s 2 3 N [];have h3:=XJ h1 N.toNat;simp only [List.length_nil] at h2;split
 ·split
  ·exact ⟨h.next _ _ _ _ h3.1,by simp only;omega⟩
  ·exact ⟨(h.next _ _ _ _ h3.1).fail _,by simp only;omega⟩
 ·exact ⟨h.next _ _ _ _ h.s,by simp only;omega⟩
theorem zjB {t:Tc}(h:t.ok):(rU t).1.ok/\(rU t).1.s.c<=t.s.c+8:=by
 unfold rU;have h1:=jh h.s (sJ 3 0 1 mT);have h2:=wc h.s 3 0 1 [];have h3:(BR (aA t.s (im 3 0 1 []))).c=(aA t.s (im 3 0 1 [])).c+1:=rfl;simp only [List.length_nil] at h2;split
 ·exact ⟨h.next _ _ _ _ (zkL h1),by simp only;omega⟩
 ·exact ⟨h.next _ _ _ _ h.s,by simp only;omega⟩
theorem zjD {t:Tc}(h:t.ok):Tc.ok {t with g:=me t.g}:=h.fail _
theorem zfm {b:List Int}(h:(rS b).2.2=0):(rS b).1.count<=1048576:=by
 unfold rS at h |-;split at h
 ·simp at h
 ·split at h
  ·next h1 h2=>
   rw [if_neg h1,if_pos h2];exact (uw h2).2.2.2.2.2.1
  ·next h1 h2=>exact absurd h h2
theorem UT:∀ (f:Nat) (b:List Int) (k:Nat) (acc:List It),(∀ x∈acc,x.count<=1048576)->∀ x∈(DN f b k acc).1,x.count<=1048576
 | 0,b,k,acc,h=>h
 | f + 1, b, k, acc, h => by
  unfold DN;split
  ·exact h
  ·split
   ·intro x hx;simp at hx
   ·split
    ·next he=>
     refine UT f _ _ _ ?_;intro x hx;rcases List.mem_append.1 hx with h1 | h1
     ·exact h x h1
     ·rw [List.mem_singleton.1 h1];exact zfm he
    ·intro x hx;simp at hx
theorem zjG (p:List Int):ce (Du p):=by
 rw [Mw];unfold uo;split
 ·exact Jk 32
 ·split
  ·exact Jk 32
  ·exact mg (HP _) 32
theorem Ss (p:List Int)(hp:ce p):(xw p).ok:=
 ⟨zkQ (by rw [Jo];decide) (zjG p),Jo p,Ov p,Nat.zero_le _,UT _ _ _ _ (by simp)⟩
theorem zfq (p:List Int):(xw p).s.c=0:=rfl
theorem Kb (s:Sp)(k:Nat):o7 0 s k=((zE,64,11),s):=by rw [o7]
theorem Kc (f:Nat)(s:Sp)(k:Nat):o7 (f+1) s k=if bx (kq (fu s 32)) < pN then ((fe (bx (kq (fu s 32))),(k:Int)+1,0),bD s 32) else o7 f (bD s 32) (k+1):=by rw [o7]
theorem zjK (f:Nat):∀ (s:Sp) (k:Nat),(o7 f s k).1.2.2=0->∃ x,(o7 f s k).1.1=fe x:=by
 induction f with
 | zero=>
  intro s k h;rw [Kb] at h;exact absurd h (by simp)
 | succ f ih=>
  intro s k h;rw [Kc] at h |-;by_cases h0:bx (kq (fu s 32)) < pN
  ·rw [if_pos h0];exact ⟨bx (kq (fu s 32)),by simp only⟩
  ·rw [if_neg h0] at h |-;exact ih _ _ h
theorem UW:∀ (n:Nat) (s:Sp) (acc:List (List ac)) (t:Int),(∀ f∈acc,∃ x,f=fe x)->∀ f∈(d6 n s acc t).1.1,∃ x,f=fe x
 | 0,s,acc,t,h=>h
 | n + 1, s, acc, t, h => by
  unfold d6;split
  ·next h0=>
   refine UW n _ _ _ ?_;intro f hf;rcases List.mem_append.1 hf with h1 | h1
   ·exact h f h1
   ·rw [List.mem_singleton.1 h1];rw [qx] at h0 |-;exact zjK 64 s 0 h0
  ·intro f hf;simp at hf
theorem zjL (t:Tc)(N:Int):∀ f∈(ga t N).1.1,∃ x,f=fe x:=by
 unfold ga;split
 ·split
  ·exact UW _ _ _ _ (by simp)
  ·intro f hf;simp at hf
 ·intro f hf;simp at hf
theorem Z3:∀ l:List (List ac),(∀ f∈l,∃ x,f=fe x)->∃ xs:List Nat,l=xs.map fe
 | [],_=>⟨[],rfl⟩
 | f :: l, h => by
  obtain ⟨x,rfl⟩:=h f (by simp);obtain ⟨xs,rfl⟩:=Z3 l fun g hg=>h g (by simp [hg]);exact ⟨x :: xs,rfl⟩
theorem Z4 (t:Tc)(N:Int):∃ xs:List Nat,(ga t N).1.1=xs.map fe:=Z3 _ (zjL t N)
noncomputable def T7 (t:Tc)(N:Int):List Nat:=Classical.choose (Z4 t N)
theorem Kf (t:Tc)(N:Int):(ga t N).1.1=(T7 t N).map fe:=Classical.choose_spec (Z4 t N)
theorem VT:∀ (n:Nat) (s:Sp) (acc:List (List ac)) (t:Int),(d6 n s acc t).1.1.length<=acc.length+n
 | 0,s,acc,t=>by simp [d6]
 | n + 1, s, acc, t => by
  unfold d6;split
  ·have:=VT n (bM s).2 (acc++[(bM s).1.1]) (IntKind.i64.wrap (t+(bM s).1.2.1));simp only [List.length_append,List.length_singleton] at this;omega
  ·simp
theorem zaG (t:Tc)(N:Int)(M:Nat)(h:(al t.g 2 3 N).e=0->N.toNat<=M):(T7 t N).length<=M:=by
 have h1:(T7 t N).length=(ga t N).1.1.length:=by rw [Kf];simp
 rw [h1];unfold ga;by_cases h0:(al t.g 2 3 N).e=0
 ·rw [if_pos h0];split
  ·have:=VT N.toNat (aA t.s (im 2 3 N [])) [] 0;have h2:=h h0;simp only [List.length_nil] at this;show (d6 N.toNat (aA t.s (im 2 3 N [])) [] 0).1.1.length<=M;omega
  ·simp
 ·rw [if_neg h0];simp
theorem zkE {t:Tc}{N:Int}(h:¬(ga t N).1.2=0):T7 t N=[]:=by
 have h1:(ga t N).1.1=[]:=by
  unfold ga at h |-;by_cases h0:(al t.g 2 3 N).e=0
  ·rw [if_pos h0] at h |-;split
   ·next h2=>rw [if_pos h2] at h;exact absurd rfl h
   ·rfl
  ·rw [if_neg h0]
 rw [Kf] at h1;simpa using h1
noncomputable def Mr (t:Tc)(d ty N:Int)(b:List Int):(Int × List Int) × Tc:=
 if d=0 then (((oh t ty b).2,[]),(oh t ty b).1)
 else if d=1 then (((kV t N).1.2,(kV t N).1.1),(kV t N).2)
 else if d=2 then (((ga t N).1.2,(T7 t N).flatMap Tj),(ga t N).2)
 else (((rU t).2,[]),(rU t).1)
theorem zoe (t:Tc)(ty:Int)(b:List Int):(oh t ty b).1.g.e=(oh t ty b).2:=by
 unfold oh;by_cases h0:t.g.e=0
 ·rw [if_pos h0];by_cases h1:(iT ty b.length).2=0
  ·rw [if_pos h1];by_cases h2:(al t.g 1 ty (iT ty b.length).1).e=0
   ·rw [if_pos h2];split
    ·exact h2
    ·rfl
   ·rw [if_neg h2]
  ·rw [if_neg h1]
 ·rw [if_neg h0]
theorem zof (t:Tc)(N:Int):(kV t N).2.g.e=(kV t N).1.2:=by
 unfold kV;by_cases h0:(al t.g 2 1 N).e=0
 ·rw [if_pos h0];exact h0
 ·rw [if_neg h0]
theorem zog (t:Tc)(N:Int):(ga t N).2.g.e=(ga t N).1.2:=by
 unfold ga;by_cases h0:(al t.g 2 3 N).e=0
 ·rw [if_pos h0];split
  ·exact h0
  ·rfl
 ·rw [if_neg h0]
theorem zoi (t:Tc):(rU t).1.g.e=(rU t).2:=by
 unfold rU;by_cases h0:(al t.g 3 0 1).e=0
 ·rw [if_pos h0];exact h0
 ·rw [if_neg h0]
theorem zrz (t:Tc)(d ty N:Int)(b:List Int):(Mr t d ty N b).2.g.e=(Mr t d ty N b).1.1:=by
 unfold Mr;split
 ·exact zoe _ _ _
 ·split
  ·exact zof _ _
  ·split
   ·exact zog _ _
   ·exact zoi _
theorem zoj {t:Tc}(h:t.ok)(d ty N:Int){b:List Int}(hb:ce b)(hl:b.length<=400)(hN:N<=1048576->N<=100):
  (Mr t d ty N b).2.ok/\(Mr t d ty N b).2.s.c<=t.s.c+300000:=by
 unfold Mr;split
 ·have:=zjx h ty hb;exact ⟨this.1,by simp only;omega⟩
 ·split
  ·refine ⟨(ZY h N).1,?_⟩;by_cases h0:(al t.g 2 1 N).e=0
   ·have h1:=(ZY h N).2;have h2:=h.count h0;have:=hN h2;simp only;omega
   ·unfold kV;rw [if_neg h0];simp only;omega
  ·split
   ·refine ⟨(ZZ h N).1,?_⟩;by_cases h0:(al t.g 2 3 N).e=0
    ·have h1:=(ZZ h N).2;have h2:=h.count h0;have:=hN h2;simp only;omega
    ·unfold ga;rw [if_neg h0];simp only;omega
   ·have:=zjB h;exact ⟨this.1,by simp only;omega⟩
end Go.Av
