/- A transcript as it lies, its calls, and what they do. -/
import Derived.Test.YtafkceblllhheaaGreatDoorC5
import Derived.Test.YtafkceblllhheaaGreatDoorC6
import Derived.Test.YtafkceblllhheaaGreatDoorC3
import Derived.Test.YtafkceblllhheaaGreatDoorC1
import Derived.Test.YtafkceblllhheaaGreatDoorC4
set_option linter.unusedSimpArgs false
set_option linter.unusedVariables false
set_option maxHeartbeats 2000000
set_option maxRecDepth 100000
namespace Go.Av
theorem Px (h:O)(bs js:List (List J))(ts us:List Nat)(n:Nat)(hn:n=bs.length):fY (hx h (bs++js) (ts++us)) (h.blks.length+n) (h.toks.length+ts.length)=hx h bs ts:=by
 subst hn;unfold fY hx;have e : ∀ {α : Type} (a b c : List α), (a ++ (b ++ c)).take (a.length + b.length) = a ++ b := fun a b c => by
  rw [<- List.append_assoc,List.take_left' (by simp)]
 simp only [e]
theorem rU (k t c:Int){b:List Int}(hb:cw b):cw (ig k t c b):=by
 unfold ig;split
 ·rw [Aa];have hw:=fun n:Int=>show 0<=IntKind.u8.wrap n/\IntKind.u8.wrap n < 256 by unfold IntKind.wrap;simp [IntKind.signed,IntKind.bits];omega
  exact s7.2 ⟨hw _,s7.2 ⟨hw _,s7.2 ⟨hw _,s7.2 ⟨hw _,s7.2 ⟨hw _,s7.2 ⟨hw _,hb⟩⟩⟩⟩⟩⟩
 ·intro i hi;simp at hi
theorem V4 (k t c:Int){b:List Int}(hl:b.length < 10000000):(ig k t c b).length < 100000000:=by
 unfold ig;split
 ·rw [Aa];simp;omega
 ·simp
theorem zat (L:az)(h:O)(bs:List (List J))(ts:List Nat)(i j:Nat)(s:Sp)(hs:s.ok)(N:Int)(n:Nat)(hN:n=N.toNat)(hn:n < 10000)(hc:s.c < 50000000)
  (hi:i < bs.length) (hj:j < bs.length) (hij:i≠j) (hL:L.rob<=h.blks.length) (hT:L.rot<=h.toks.length):
  Z ah L pl [Ii N,fnB h.blks.length i] (hx h (kY bs i j h.blks.length s) ts)=some (.tup [.vsl false ((aY s n).1.1.map cW),Ii (aY s n).1.2.1,Ii (aY s n).1.2.2],hx h (kY bs i j h.blks.length (aY s n).2) ts):=by
 rw [GN];obtain ⟨M,hM⟩:∃ M:Int,M=max N 0:=⟨_,rfl⟩;have hmx:BI true (Ii N) [Ii 0]=some (Ii M):=by
  simp only [BI,zc4,bind,Option.bind_some,if_true];rw [hM];by_cases h0:(0:Int) > N
  ·rw [if_pos h0,show max N 0=0 by omega]
  ·rw [if_neg h0,show max N 0=N by omega]
 have hlo:=fun fr R=>Vk (L:=⟨L.rob,L.rot,h.blks.length+bs.length,h.toks.length+ts.length⟩) (fr:=fr) (h:=h) (R:=R) bs ts i j s hs M n (by omega) hn hc hi hj hij hL hT;have hl1:=oa bs i j h.blks.length s;have hl2:=oa bs i j h.blks.length (aY s n).2;have hun:=LJ (h.blks.length+bs.length) (h.toks.length+ts.length) (aY s n).1.1;have hfz:=fun hh m=>v6 (h1:=hh) (nb:=h.blks.length+bs.length) (nt:=h.toks.length+ts.length) (n:=m) (s:=.nsl) (.inl rfl) hun;simp only [zjA] at hfz;generalize aY s n=E at*;obtain ⟨⟨l,t,e⟩,q⟩:=E;simp only at*;generalize kY bs i j h.blks.length q=B,kY bs i j h.blks.length s=B1 at*;have htr:∀ jk us,fY (hx h (B++jk) (ts++us)) (h.blks.length+bs.length) (h.toks.length+ts.length)=hx h B ts:=fun jk us=>Px h B jk ts us bs.length hl2.symm;simp -implicitDefEqProofs [tY,aB,aA,hl1,hmx];generalize hF:run ah _ (.loop _) _ _=R;obtain ⟨e,fr',jk,us,rfl,⟨rfl,rfl,f7,f8,he⟩ | ⟨rfl,hnil,f4,f5,f6⟩⟩:=hlo _ _ hF (by simp) (by simp) (by simp) (by simp) (by simp)
 ·rw [he];simp -implicitDefEqProofs [f7,f8,hfz,htr,aB,aA,hl1]
 ·rw [hnil];simp -implicitDefEqProofs [f4,f5,f6,htr,aB,aA,hl1]
theorem Lj (L:az)(h:O)(bs:List (List J))(ts:List Nat)(i j:Nat)(s:Sp)(hs:s.ok)(k t c:Int)(b:List Int)(d:J)(hd:∀ h,nT h d=some (.vsl false (eI .u8 b),false))(hf:d.flat=false)(hb:cw b)(hl:b.length < 10000000)(hc:s.c < 100000000)
  (hi:i < bs.length) (hj:j < bs.length) (hij:i≠j) (hL:L.rob<=h.blks.length):
  Z ah L dF [.agg [pA h.blks.length i 0],.agg [Ii k,Ii t,Ii c,d]] (hx h (kY bs i j h.blks.length s) ts)=some (.tup [],hx h (kY bs i j h.blks.length (ay s (ig k t c b))) ts):=by
 rw [uo];have hT:=fun L h=>zkz L h k t c b d hd hf hb (by omega);have hA:=fun L hL=>W0 L h bs ts i j s hs false (ig k t c b) (rU k t c hb) (V4 k t c hl) hc hi hj hij hL;have htr:=fun q=>Es h bs ts i j (J5 h.blks.length j q) (cI .u8 q.S);have hl1:=oa bs i j h.blks.length s;have htr2:fY (hx h (kY bs i j h.blks.length (ay s (ig k t c b))) ts) (h.blks.length+bs.length) (h.toks.length+ts.length)=hx h (kY bs i j h.blks.length (ay s (ig k t c b))) ts:=htr _;generalize ig k t c b=o at*;generalize kY bs i j h.blks.length s=B1,kY bs i j h.blks.length (ay s o)=B2 at*;simp -implicitDefEqProofs [jv,aB,aA,hl1,pe,J.okV,J.cells,ap,aa,hT,hA,hL,htr2]
theorem zc9 (L:az)(h:O)(bs:List (List J))(ts:List Nat)(i j:Nat)(s:Sp)(hs:s.ok)(N:Int)(n:Nat)(hN:n=N.toNat)(hn:n < 1000000)(hc:s.c < 100000000)
  (hi:i < bs.length) (hj:j < bs.length) (hij:i≠j) (hL:L.rob<=h.blks.length) (hT:L.rot<=h.toks.length):
  Z ah L dk [.agg [pA h.blks.length i 0],Ii N] (hx h (kY bs i j h.blks.length s) ts)=some (.vsl false (eI .u8 (fm s n)),hx h (kY bs i j h.blks.length (bz s n)) ts):=by
 rw [tR];have hS:=fun L hL hT=>J6 L h bs ts i j s hs N n hN hn hc hi hj hij hL hT;have hl1:=oa bs i j h.blks.length s;have htr2:fY (hx h (kY bs i j h.blks.length (bz s n)) ts) (h.blks.length+bs.length) (h.toks.length+ts.length)=hx h (kY bs i j h.blks.length (bz s n)) ts:=Es h bs ts i j _ _;generalize kY bs i j h.blks.length s=B1,kY bs i j h.blks.length (bz s n)=B2,fm s n=l at*;simp -implicitDefEqProofs [iW,aB,aA,hl1,pe,J.okV,J.cells,ap,hS,hL,hT,htr2]
theorem zav (L:az)(h:O)(bs:List (List J))(ts:List Nat)(i j:Nat)(s:Sp)(hs:s.ok)(N:Int)(n:Nat)(hN:n=N.toNat)(hn:n < 10000)(hc:s.c < 50000000)
  (hi:i < bs.length) (hj:j < bs.length) (hij:i≠j) (hL:L.rob<=h.blks.length) (hT:L.rot<=h.toks.length):
  Z ah L cP [.agg [pA h.blks.length i 0],Ii N] (hx h (kY bs i j h.blks.length s) ts)=some (.tup [.vsl false ((aY s n).1.1.map cW),Ii (aY s n).1.2.2],hx h (kY bs i j h.blks.length (aY s n).2) ts):=by
 rw [sE];have hS:=fun L hL hT=>zat L h bs ts i j s hs N n hN hn hc hi hj hij hL hT;have hl1:=oa bs i j h.blks.length s;have htr2:fY (hx h (kY bs i j h.blks.length (aY s n).2) ts) (h.blks.length+bs.length) (h.toks.length+ts.length)=hx h (kY bs i j h.blks.length (aY s n).2) ts:=Es h bs ts i j _ _;have hun:=LJ (h.blks.length+bs.length) (h.toks.length+ts.length) (aY s n).1.1;generalize aY s n=E at*;obtain ⟨⟨l,t,e⟩,q⟩:=E;simp only at*;generalize kY bs i j h.blks.length s=B1,kY bs i j h.blks.length q=B2 at*;have hfz:=fun hh m=>lq hh (h.blks.length+bs.length) (h.toks.length+ts.length) m false hun;generalize l.map cW=lw at*;unfold fnB at hS;simp -implicitDefEqProofs [iw,aB,aA,hl1,pe,J.okV,J.cells,ap,aa,hS,hL,hT,htr2,hfz]
structure Tc where
 g:Gd
 tg:List Int
 s:Sp
def tC (n B:Nat)(tg:List Int):List J:=pA n B 0 :: (cI .u8 tg++[.iface 84 (.agg [pA n (B+3) 0])])
def Ow (n B:Nat)(t:Tc):List (List J):=[Hh t.g,tC n B t.tg,cI .u8 t.s.S,J5 n (B+2) t.s]
def fj (n:Nat)(bs:List (List J))(t:Tc)(js:List (List J)):List (List J):=bs++(Ow n bs.length t++js)
section
variable (n:Nat) (bs:List (List J)) (t:Tc) (js:List (List J))
theorem uZ (w:List (List J)):fj n bs t js++w=fj n bs t (js++w):=by simp [fj]
theorem dz:(fj n bs t js).length=bs.length+(4+js.length):=by simp [fj,Ow];omega
theorem Mi:(fj n bs t js)[bs.length]?=some (Hh t.g):=iQ bs _ bs.length 0 rfl
theorem C5:(fj n bs t js)[bs.length+1]?=some (tC n bs.length t.tg):=iQ bs _ bs.length 1 rfl
theorem Kc (w:List (List J))(k:Nat):(fj n bs t (js++w))[bs.length+(4+js.length+k)]?=w[k]?:=by
 unfold fj;rw [iQ bs _ bs.length _ rfl,<- List.append_assoc,List.getElem?_append_right (by simp [Ow];omega)]
 congr 1
 simp [Ow];omega
theorem vx (w:List (List J))(k:Nat)(v:List J):(fj n bs t (js++w)).set (bs.length+(4+js.length+k)) v=fj n bs t (js++w.set k v):=by
 unfold fj;rw [lL bs _ bs.length _ v rfl,<- List.append_assoc,List.set_append_right _ _ (by simp [Ow];omega),List.append_assoc]
 congr 4
 simp [Ow];omega
theorem Jk (g:Gd):(fj n bs t js).set bs.length (Hh g)=fj n bs {t with g:=g} js:=lL bs _ bs.length 0 _ rfl
theorem GQ (q:Sp):kY (fj n bs t js) (bs.length+3) (bs.length+2) n q=fj n bs {t with s:=q} js:=by
 have e1:=lL bs (Ow n bs.length t++js) bs.length 3 (J5 n (bs.length+2) q) rfl;have e2:=lL bs ((Ow n bs.length t++js).set 3 (J5 n (bs.length+2) q)) bs.length 2 (cI .u8 q.S) rfl;unfold kY IM fj;rw [e1,e2];rfl
theorem WM (h:O)(ts us:List Nat)(w:List (List J)):fY (hx h (fj n bs t (js++w)) (ts++us)) (h.blks.length+(bs.length+(4+js.length))) (h.toks.length+ts.length)=hx h (fj n bs t js) ts:=by
 rw [<- uZ];exact Px h _ w ts us _ (dz n bs t js).symm
theorem Lw (h:O)(ts:List Nat):fY (hx h (fj n bs t js) ts) (h.blks.length+(bs.length+(4+js.length))) (h.toks.length+ts.length)=hx h (fj n bs t js) ts:=by
 have:=WM n bs t js h ts [] [];simpa using this
theorem H3 (h:O)(ts:List Nat)(w:List (List J)):fY (hx h (fj n bs t (js++w)) ts) (h.blks.length+(bs.length+(4+js.length))) (h.toks.length+ts.length)=hx h (fj n bs t js) ts:=by
 have:=WM n bs t js h ts [] w;simpa using this
end
theorem zbt (n B:Nat)(tg:List Int):cL false (tC n B tg) 0 1=some (pA n B 0):=rfl
theorem Ur (n B:Nat)(tg:List Int)(h:tg.length=32):cL false (tC n B tg) 33 1=some (.iface 84 (.agg [pA n (B+3) 0])):=by
 have:(tC n B tg)[33]?=some (.iface 84 (.agg [pA n (B+3) 0])):=by
  unfold tC;rw [List.getElem?_cons_succ,List.getElem?_append_right (by simp [h])];simp [h]
 rw [ap];exact this
theorem zqL (n B:Nat)(tg:List Int)(h:tg.length=32):cL true (tC n B tg) 1 32=some (.agg (cI .u8 tg)):=by
 have:((tC n B tg).drop 1).take 32=cI .u8 tg:=by
  unfold tC;rw [List.drop_one,List.tail_cons,List.take_left' (by simp [h])]
 unfold cL;rw [if_pos rfl,if_pos (by simp [tC,h]),this]
theorem YY (L:az)(h:O)(bs js:List (List J))(ts:List Nat)(t:Tc)(hL:L.rob<=h.blks.length):
  Z ah L cN [pA h.blks.length (bs.length+1) 0] (hx h (fj h.blks.length bs t js) ts)=some (Ii t.g.e,hx h (fj h.blks.length bs t js) ts):=by
 rw [rY];have hF:=fun L hL=>HK L h (fj h.blks.length bs t js) ts bs.length t.g 0 (Mi _ _ _ _) hL;have hf:aG t.g 0=t.g:=by
  unfold aG;split
  ·next h0=>obtain ⟨⟨l,k,e⟩,tg,s⟩:=t;simp only at h0 |-;rw [h0]
  ·rfl
 rw [hf,Jk] at hF;have htr:=Lw h.blks.length bs t js h ts;have hl:=dz h.blks.length bs t js;have g1:=C5 h.blks.length bs t js;have h0:=zbt h.blks.length bs.length t.tg;obtain ⟨g,tg,s⟩:=t;simp only at*;generalize tC h.blks.length bs.length tg=tcs,fj h.blks.length bs ⟨g,tg,s⟩ js=B at*;simp -implicitDefEqProofs [gZ,aB,aA,hl,g1,h0,hF,hL,htr]
theorem WQ (L:az)(h:O)(bs js:List (List J))(ts:List Nat)(t:Tc)(hL:L.rob<=h.blks.length):
  Z ah L dE [pA h.blks.length (bs.length+1) 0] (hx h (fj h.blks.length bs t js) ts)=some (Ii (mg t.g).e,hx h (fj h.blks.length bs {t with g:=mg t.g} js) ts):=by
 rw [qa];have hF:=fun L hL=>WO L h (fj h.blks.length bs t js) ts bs.length t.g (Mi _ _ _ _) hL;rw [Jk] at hF;have htr:=Lw h.blks.length bs {t with g:=mg t.g} js h ts;have hl:=dz h.blks.length bs t js;have g1:=C5 h.blks.length bs t js;have h0:=zbt h.blks.length bs.length t.tg;generalize tC h.blks.length bs.length t.tg=tcs,fj h.blks.length bs t js=B,fj h.blks.length bs {t with g:=mg t.g} js=B2 at*;simp -implicitDefEqProofs [fA,aB,aA,hl,g1,h0,hF,hL,htr]
theorem H4 (L:az)(h:O)(bs js:List (List J))(ts:List Nat)(t:Tc)(k ty c:Int)(d:J)(hk:t.g.k < 1000000000)(hd:d.okV=true)(hL:L.rob<=h.blks.length):
  Z ah L a9 [pA h.blks.length (bs.length+1) 0,.agg [Ii k,Ii ty,Ii c,d]] (hx h (fj h.blks.length bs t js) ts)=some (Ii (ak t.g k ty c).e,hx h (fj h.blks.length bs {t with g:=ak t.g k ty c} js) ts):=by
 rw [rh];have hF:=fun L hL=>zh4 L h (fj h.blks.length bs t js) ts bs.length t.g k ty c hk (Mi _ _ _ _) hL;rw [Jk] at hF;have htr:=Lw h.blks.length bs {t with g:=ak t.g k ty c} js h ts;have hl:=dz h.blks.length bs t js;have g1:=C5 h.blks.length bs t js;have h0:=zbt h.blks.length bs.length t.tg;generalize tC h.blks.length bs.length t.tg=tcs,fj h.blks.length bs t js=B,fj h.blks.length bs {t with g:=ak t.g k ty c} js=B2 at*;simp -implicitDefEqProofs [gI,aB,aA,hl,g1,h0,pe,J.okV,J.cells,ap,hF,hL,htr]
end Go.Av
namespace Go.Av
theorem Q6 (n:Nat)(bs:List (List J))(t:Tc)(js:List (List J))(hh):(fj n bs t js)[bs.length+1]'hh=tC n bs.length t.tg:=(List.getElem?_eq_some_iff.1 (C5 n bs t js)).2
theorem RH (n:Nat)(bs:List (List J))(t:Tc)(js:List (List J))(x:List J)(hh):(fj n bs t (js++[x]))[bs.length+(4+js.length)]'hh=x:=(List.getElem?_eq_some_iff.1 (Kc n bs t js [x] 0)).2
theorem zll {C:eD}{L:az}{h:O}{f:FuncId}(v:J)(as:List J):YM C L h (some ([(0,1,false)],f)) (.agg [v]) as=Z C L f (v :: as) h:=rfl
def iR (t:Tc)(ty:Int)(b:List Int):Tc × Int:=
 if t.g.e=0 then
  if (j3 ty b.length).2=0 then
   if (ak t.g 1 ty (j3 ty b.length).1).e=0 then
    if ww ty b=0 then ({t with g:=ak t.g 1 ty (j3 ty b.length).1,s:=ay t.s (ig 1 ty (j3 ty b.length).1 b)},0)
    else ({t with g:=aG (ak t.g 1 ty (j3 ty b.length).1) (ww ty b)},(aG (ak t.g 1 ty (j3 ty b.length).1) (ww ty b)).e)
   else ({t with g:=ak t.g 1 ty (j3 ty b.length).1},(ak t.g 1 ty (j3 ty b.length).1).e)
  else ({t with g:=aG t.g (j3 ty b.length).2},(aG t.g (j3 ty b.length).2).e)
 else (t,t.g.e)
def j8 (t:Tc)(N:Int):(List Int × Int) × Tc:=
 if (ak t.g 2 1 N).e=0 then ((fm (ay t.s (ig 2 1 N [])) N.toNat,0),{t with g:=ak t.g 2 1 N,s:=bz (ay t.s (ig 2 1 N [])) N.toNat})
 else (([],(ak t.g 2 1 N).e),{t with g:=ak t.g 2 1 N})
def nC (t:Tc)(N:Int):(List (List ac) × Int) × Tc:=
 if (ak t.g 2 3 N).e=0 then
  if (aY (ay t.s (ig 2 3 N [])) N.toNat).1.2.2=0 then (((aY (ay t.s (ig 2 3 N [])) N.toNat).1.1,0),{t with g:=ak t.g 2 3 N,s:=(aY (ay t.s (ig 2 3 N [])) N.toNat).2})
  else (([],(aG (ak t.g 2 3 N) (aY (ay t.s (ig 2 3 N [])) N.toNat).1.2.2).e),{t with g:=aG (ak t.g 2 3 N) (aY (ay t.s (ig 2 3 N [])) N.toNat).1.2.2,s:=(aY (ay t.s (ig 2 3 N [])) N.toNat).2})
 else (([],(ak t.g 2 3 N).e),{t with g:=ak t.g 2 3 N})
def wJ (t:Tc):Tc × Int:=
 if (ak t.g 3 0 1).e=0 then ({t with g:=ak t.g 3 0 1,s:=zX (ay t.s (ig 3 0 1 []))},0)
 else ({t with g:=ak t.g 3 0 1},(ak t.g 3 0 1).e)
theorem Dz (L:az)(h:O)(bs js:List (List J))(ts:List Nat)(t:Tc)(N:Int)(hk:t.g.k < 1000000000)(hs:t.s.ok)(hc:t.s.c < 10000000)(ht:t.tg.length=32)(hn:(ak t.g 2 1 N).e=0->N.toNat < 1000000)(hL:L.rob<=h.blks.length)(hT:L.rot<=h.toks.length):
  Z ah L bd [pA h.blks.length (bs.length+1) 0,Ii N] (hx h (fj h.blks.length bs t js) ts)=some (.tup [.vsl false (eI .u8 (j8 t N).1.1),Ii (j8 t N).1.2],hx h (fj h.blks.length bs (j8 t N).2 js) ts):=by
 rw [pw];have hnx:=fun L hL x=>H4 L h bs (js++[x]) ts t 2 1 N .nsl hk rfl hL;have hte:=fun L hL x g=>Lj L h (fj h.blks.length bs {t with g:=g} (js++[x])) ts (bs.length+3) (bs.length+2) t.s hs 2 1 N [] .nsl (fun h=>by simp) rfl (fun i hi=>by simp at hi) (by simp) (by omega) (by rw [dz];omega) (by rw [dz];omega) (by omega) hL;simp only [GQ] at hte;have hq1:=iO hs (rU 2 1 N (b:=[]) (fun i hi=>by simp at hi));have hq2:=EM hs (ig 2 1 N []);have hq3:=V4 2 1 N (b:=[]) (by simp)
 have hq4:(ig 2 1 N []).length<=6:=by unfold ig;split <;> simp [Aa]
 unfold j8;generalize ak t.g 2 1 N=g1,ay t.s (ig 2 1 N [])=q at*;have hby:=fun L hL hT x=>fun hn'=>zc9 L h (fj h.blks.length bs {t with g:=g1} (js++[x])) ts (bs.length+3) (bs.length+2) q hq1 N N.toNat rfl hn' (by omega) (by rw [dz];omega) (by rw [dz];omega) (by omega) hL hT;simp only [GQ] at hby;have hl:=dz h.blks.length bs;have g1':=fun g q js=>C5 h.blks.length bs ⟨g,t.tg,q⟩ js;have g2':=fun g q js hh=>Q6 h.blks.length bs ⟨g,t.tg,q⟩ js hh;simp only at g1' g2';have h0:=Ur h.blks.length bs.length t.tg ht;have gw:=fun t x hh=>RH h.blks.length bs t js x hh;have sw:=fun t x v=>vx h.blks.length bs t js [x] 0 v;have htr:=fun t w=>H3 h.blks.length bs t js h ts w;have happ:=fun t js w=>uZ h.blks.length bs t js w;simp only [Nat.add_zero,List.getElem?_cons_zero,List.set_cons_zero] at sw;generalize tC h.blks.length bs.length t.tg=tcs at*;by_cases he:g1.e=0
 ·rw [if_pos he];have be:(g1.e==0)=true:=by simp [he]
  have hby1:=fun L hL hT x=>hby L hL hT x (hn he);simp -implicitDefEqProofs [cX,aB,aA,hl,happ,g1',g2',h0,gw,sw,al,setAt,au,ae,am,aE,J.under,hL,hT,hnx,bne,be,hte,hby1,htr,aa]
 ·rw [if_neg he];have be:(g1.e==0)=false:=by simp [he]
  simp -implicitDefEqProofs [cX,aB,aA,hl,happ,g1',g2',h0,gw,sw,al,setAt,au,ae,am,aE,J.under,hL,hT,hnx,bne,be,htr,aa]
theorem OQ (L:az)(h:O)(bs js:List (List J))(ts:List Nat)(t:Tc)(N:Int)(hk:t.g.k < 1000000000)(hs:t.s.ok)(hc:t.s.c < 10000000)(ht:t.tg.length=32)(hn:(ak t.g 2 3 N).e=0->N.toNat < 10000)(hL:L.rob<=h.blks.length)(hT:L.rot<=h.toks.length):
  Z ah L cf [pA h.blks.length (bs.length+1) 0,Ii N] (hx h (fj h.blks.length bs t js) ts)=some (.tup [.vsl false ((nC t N).1.1.map cW),Ii (nC t N).1.2],hx h (fj h.blks.length bs (nC t N).2 js) ts):=by
 rw [oK];have hnx:=fun L hL x=>H4 L h bs (js++[x]) ts t 2 3 N .nsl hk rfl hL;have hte:=fun L hL x g=>Lj L h (fj h.blks.length bs {t with g:=g} (js++[x])) ts (bs.length+3) (bs.length+2) t.s hs 2 3 N [] .nsl (fun h=>by simp) rfl (fun i hi=>by simp at hi) (by simp) (by omega) (by rw [dz];omega) (by rw [dz];omega) (by omega) hL;simp only [GQ] at hte;have hq1:=iO hs (rU 2 3 N (b:=[]) (fun i hi=>by simp at hi));have hq2:=EM hs (ig 2 3 N [])
 have hq4:(ig 2 3 N []).length<=6:=by unfold ig;split <;> simp [Aa]
 unfold nC;generalize ak t.g 2 3 N=g1,ay t.s (ig 2 3 N [])=q at*;have hby:=fun L hL hT x=>fun hn'=>zav L h (fj h.blks.length bs {t with g:=g1} (js++[x])) ts (bs.length+3) (bs.length+2) q hq1 N N.toNat rfl hn' (by omega) (by rw [dz];omega) (by rw [dz];omega) (by omega) hL hT;simp only [GQ] at hby;have hun:=fun nb nt=>LJ nb nt (aY q N.toNat).1.1;generalize aY q N.toNat=E at*;obtain ⟨⟨l,tr,er⟩,q2⟩:=E;simp only at*;have hFa:=fun L hL x e=>HK L h (fj h.blks.length bs ⟨g1,t.tg,q2⟩ (js++[x])) ts bs.length g1 e (Mi _ _ _ _) hL;simp only [Jk] at hFa;have hl:=dz h.blks.length bs;have g1':=fun g q js=>C5 h.blks.length bs ⟨g,t.tg,q⟩ js;have g2':=fun g q js hh=>Q6 h.blks.length bs ⟨g,t.tg,q⟩ js hh;simp only at g1' g2';have h0:=Ur h.blks.length bs.length t.tg ht;have h00:=zbt h.blks.length bs.length t.tg;have gw:=fun t x hh=>RH h.blks.length bs t js x hh;have sw:=fun t x v=>vx h.blks.length bs t js [x] 0 v;have htr:=fun t w=>H3 h.blks.length bs t js h ts w;have happ:=fun t js w=>uZ h.blks.length bs t js w;simp only [Nat.add_zero,List.getElem?_cons_zero,List.set_cons_zero] at sw;generalize tC h.blks.length bs.length t.tg=tcs at*;by_cases he:g1.e=0
 ·rw [if_pos he];have be:(g1.e==0)=true:=by simp [he]
  have hby1:=fun L hL hT x=>hby L hL hT x (hn he);clear hby;by_cases her:er=0
  ·rw [if_pos her];have ber:(er==0)=true:=by simp [her]
   have hfz:=fun hh nb nt m=>lq hh nb nt m false (hun nb nt);simp only;generalize l.map cW=lw at*;simp -implicitDefEqProofs [bB,aB,aA,hl,happ,g1',g2',h0,gw,sw,al,setAt,au,ae,am,aE,J.under,hL,hT,hnx,bne,be,hte,hby1,ber,hfz,htr,aa]
  ·rw [if_neg her];have ber:(er==0)=false:=by simp [her]
   generalize l.map cW=lw at*;simp -implicitDefEqProofs [bB,aB,aA,hl,happ,g1',g2',h0,h00,gw,sw,al,setAt,au,ae,am,aE,J.under,hL,hT,hnx,bne,be,hte,hby1,ber,hFa,htr,aa]
 ·rw [if_neg he];have be:(g1.e==0)=false:=by simp [he]
  simp -implicitDefEqProofs [bB,aB,aA,hl,happ,g1',g2',h0,gw,sw,al,setAt,au,ae,am,aE,J.under,hL,hT,hnx,bne,be,htr,aa]
theorem Uw (L:az)(h:O)(bs js:List (List J))(ts:List Nat)(t:Tc)(hk:t.g.k < 1000000000)(hs:t.s.ok)(hc:t.s.c < 10000000)(ht:t.tg.length=32)(hL:L.rob<=h.blks.length):
  Z ah L cZ [pA h.blks.length (bs.length+1) 0] (hx h (fj h.blks.length bs t js) ts)=some (Ii (wJ t).2,hx h (fj h.blks.length bs (wJ t).1 js) ts):=by
 rw [pC];have hnx:=fun L hL x=>H4 L h bs (js++[x]) ts t 3 0 1 .nsl hk rfl hL;have hte:=fun L hL x g=>Lj L h (fj h.blks.length bs {t with g:=g} (js++[x])) ts (bs.length+3) (bs.length+2) t.s hs 3 0 1 [] .nsl (fun h=>by simp) rfl (fun i hi=>by simp at hi) (by simp) (by omega) (by rw [dz];omega) (by rw [dz];omega) (by omega) hL;simp only [GQ] at hte;have hq1:=iO hs (rU 3 0 1 (b:=[]) (fun i hi=>by simp at hi));have hq2:=EM hs (ig 3 0 1 [])
 have hq4:(ig 3 0 1 []).length<=6:=by unfold ig;split <;> simp [Aa]
 unfold wJ;generalize ak t.g 3 0 1=g1,ay t.s (ig 3 0 1 [])=q at*;have hby:=fun L hL x=>UH L h (fj h.blks.length bs {t with g:=g1} (js++[x])) ts (bs.length+3) (bs.length+2) q hq1 (by omega) (by rw [dz];omega) (by rw [dz];omega) (by omega) hL;simp only [GQ] at hby;generalize zX q=q2 at*;have hl:=dz h.blks.length bs;have g1':=fun g q js=>C5 h.blks.length bs ⟨g,t.tg,q⟩ js;have g2':=fun g q js hh=>Q6 h.blks.length bs ⟨g,t.tg,q⟩ js hh;simp only at g1' g2';have h0:=Ur h.blks.length bs.length t.tg ht;have gw:=fun t x hh=>RH h.blks.length bs t js x hh;have sw:=fun t x v=>vx h.blks.length bs t js [x] 0 v;have htr:=fun t w=>H3 h.blks.length bs t js h ts w;have happ:=fun t js w=>uZ h.blks.length bs t js w;simp only [Nat.add_zero,List.getElem?_cons_zero,List.set_cons_zero] at sw;generalize tC h.blks.length bs.length t.tg=tcs at*;by_cases he:g1.e=0
 ·rw [if_pos he];have be:(g1.e==0)=true:=by simp [he]
  simp -implicitDefEqProofs [cY,aB,aA,hl,happ,g1',g2',h0,gw,sw,al,setAt,au,ae,am,aE,J.under,hL,hnx,bne,be,hte,hby,zll,htr,aa]
  try exact he
 ·rw [if_neg he];have be:(g1.e==0)=false:=by simp [he]
  simp -implicitDefEqProofs [cY,aB,aA,hl,happ,g1',g2',h0,gw,sw,al,setAt,au,ae,am,aE,J.under,hL,hnx,bne,be,htr,aa]
theorem GS (L:az)(h:O)(bs js:List (List J))(ts:List Nat)(t:Tc)(ty:Int)(c:Bool)(b:List Int)(hb:cw b)(hbl:b.length < 10000000)(hk:t.g.k < 1000000000)(hs:t.s.ok)(hc:t.s.c < 10000000)(ht:t.tg.length=32)(hL:L.rob<=h.blks.length):
  Z ah L bm [pA h.blks.length (bs.length+1) 0,Ii ty,.vsl c (eI .u8 b)] (hx h (fj h.blks.length bs t js) ts)=some (Ii (iR t ty b).2,hx h (fj h.blks.length bs (iR t ty b).1 js) ts):=by
 rw [qd];have hEr:=fun L hL=>YY L h bs js ts t hL;have hCn:=fun L h=>J4 L h ty c b (by omega);have hCk:=fun L h=>Yt L h ty c b hb (by omega);have hF0:=fun L hL e=>HK L h (fj h.blks.length bs t js) ts bs.length t.g e (Mi _ _ _ _) hL;simp only [Jk] at hF0;unfold iR;generalize j3 ty b.length=cn at*;obtain ⟨n,e1⟩:=cn;simp only at*;have hnx:=fun L hL x=>H4 L h bs (js++[x]) ts t 1 ty n (.vsl c (eI .u8 b)) hk rfl hL;have hte:=fun L hL x g=>Lj L h (fj h.blks.length bs {t with g:=g} (js++[x])) ts (bs.length+3) (bs.length+2) t.s hs 1 ty n b (.vsl c (eI .u8 b)) (fun h=>by simp) rfl hb hbl (by omega) (by rw [dz];omega) (by rw [dz];omega) (by omega) hL;simp only [GQ] at hte;generalize ak t.g 1 ty n=g1,ay t.s (ig 1 ty n b)=q at*;have hF1:=fun L hL x e=>HK L h (fj h.blks.length bs ⟨g1,t.tg,t.s⟩ (js++[x])) ts bs.length g1 e (Mi _ _ _ _) hL;simp only [Jk] at hF1;generalize ww ty b=e2 at*;have hl:=dz h.blks.length bs;have g1':=fun g q js=>C5 h.blks.length bs ⟨g,t.tg,q⟩ js;have g2':=fun g q js hh=>Q6 h.blks.length bs ⟨g,t.tg,q⟩ js hh;simp only at g1' g2';have h0:=Ur h.blks.length bs.length t.tg ht;have h00:=zbt h.blks.length bs.length t.tg;have gw:=fun t x hh=>RH h.blks.length bs t js x hh;have sw:=fun t x v=>vx h.blks.length bs t js [x] 0 v;have htr:=fun t w=>H3 h.blks.length bs t js h ts w;have htr0:=fun t=>Lw h.blks.length bs t js h ts;have happ:=fun t js w=>uZ h.blks.length bs t js w;simp only [Nat.add_zero,List.getElem?_cons_zero,List.set_cons_zero] at sw;generalize tC h.blks.length bs.length t.tg=tcs at*;obtain ⟨g0,tg,s0⟩:=t;simp only at*;by_cases hg0:g0.e=0
 ·rw [if_pos hg0];have bg:(g0.e==0)=true:=by simp [hg0]
  by_cases h1:e1=0
  ·rw [if_pos h1];have b1:(e1==0)=true:=by simp [h1]
   by_cases hg1:g1.e=0
   ·rw [if_pos hg1];have bg1:(g1.e==0)=true:=by simp [hg1]
    by_cases h2:e2=0
    ·rw [if_pos h2];have b2:(e2==0)=true:=by simp [h2]
     simp -implicitDefEqProofs [aT,aB,aA,hl,happ,hEr,hCn,hCk,g1',g2',h0,gw,sw,al,setAt,au,ae,am,aE,J.under,hL,hnx,bne,bg,b1,bg1,b2,hte,htr,htr0,aa]
    ·rw [if_neg h2];have b2:(e2==0)=false:=by simp [h2]
     simp -implicitDefEqProofs [aT,aB,aA,hl,happ,hEr,hCn,hCk,g1',g2',h0,h00,gw,sw,al,setAt,au,ae,am,aE,J.under,hL,hnx,bne,bg,b1,bg1,b2,hF1,htr,htr0,aa]
   ·rw [if_neg hg1];have bg1:(g1.e==0)=false:=by simp [hg1]
    simp -implicitDefEqProofs [aT,aB,aA,hl,happ,hEr,hCn,hCk,g1',g2',h0,gw,sw,al,setAt,au,ae,am,aE,J.under,hL,hnx,bne,bg,b1,bg1,htr,htr0,aa]
  ·rw [if_neg h1];have b1:(e1==0)=false:=by simp [h1]
   simp -implicitDefEqProofs [aT,aB,aA,hl,happ,hEr,hCn,hCk,g1',g2',h0,h00,hL,bne,bg,b1,hF0,htr,htr0,aa]
 ·rw [if_neg hg0];have bg:(g0.e==0)=false:=by simp [hg0]
  simp -implicitDefEqProofs [aT,aB,aA,hl,happ,hEr,bne,bg,hL,htr,htr0]
def uk:List Int:=[97,118,111,117,99,104,47,116,114,97,110,115,99,114,105,112,116,47,49]
def rC:List Int:=tab 32 fun _=>0
def tH (b:Int)(l:List It):List Int × Int × Int:=
 if b≠1/\b≠2 then (rC, -1,15)
 else if (fu l 0 []).2.2≠0 then (rC,(fu l 0 []).2.1,(fu l 0 []).2.2)
 else (O8 (uk++([IntKind.u8.wrap b]++(fu l 0 []).1)), -1,0)
theorem GV:∀ (l:List It) (k:Nat) (out:List Int),(fu l k out).1.length<=out.length+l.length*1000008
 | [],k,out=>by simp [fu]
 | x :: l, k, out => by
  rw [fu];split
  ·simp
  ·split
   ·rename_i hc;have h1:=GV l (k+1) (out++JS x);have h2:=(we hc).2.2.2.2.2.2;simp only [List.length_append,zfP,List.length_cons] at h1 |-;omega
   ·simp
theorem EK:[J.int .u8 97,J.int .u8 118,J.int .u8 111,J.int .u8 117,J.int .u8 99,J.int .u8 104,J.int .u8 47,J.int .u8 116,J.int .u8 114,J.int .u8 97,J.int .u8 110,J.int .u8 115,J.int .u8 99,J.int .u8 114,J.int .u8 105,J.int .u8 112,J.int .u8 116,J.int .u8 47,J.int .u8 49]=cI .u8 uk:=rfl
theorem P7 (L:az)(h:O)(z:List J)(b:Int)(r:List Int)(hr:r.length < 200000000000):
  Z ah L qQ [.vsl true [[sA h.blks.length 1 0 1 19 (some 19)],[.vsl true (eI .u8 [b])],[.vsl false (eI .u8 r)]]] (hx h [z,cI .u8 uk] [])=some (.agg (cI .u8 (O8 (uk++([b]++r)))),hx h [z,cI .u8 uk] []):=by
 have h1 := zjm L (hx h [z, cI .u8 uk] []) true [(sA h.blks.length 1 0 1 19 (some 19), uk), (.vsl true (eI .u8 [b]), [b]), (.vsl false (eI .u8 r), r)] (by simp) (by
  intro p hp;simp only [List.mem_cons,List.not_mem_nil,or_false] at hp;rcases hp with rfl | rfl | rfl
  ·exact ⟨IY.sA [] .u8 1 19 _ uk rfl (by simp),by simp [uk]⟩
  ·exact ⟨IY.vsl _ .u8 true [b],by simp⟩
  ·exact ⟨IY.vsl _ .u8 false r,hr⟩)
 have h2:VG [(sA h.blks.length 1 0 1 19 (some 19),uk),(.vsl true (eI .u8 [b]),[b]),(.vsl false (eI .u8 r),r)]=uk++([b]++r):=by simp [VG]
 rw [h2] at h1;exact h1
@[simp] theorem zoG (l:List Int):(O8 l).length=32:=by
 obtain ⟨c1,c2⟩:=sI l (q:=(tab 25 fun _=>0#64,0)) (by simp) (by simp);simp [O8,Vj,fH,c1]
theorem zlq (L:az)(h:O)(b:Int)(l:List It)(hn:l.length<=2000):
  Z ah L ET [Ii b,.vsl false (l.map It.cells)] h=some (.tup [.agg (cI .u8 (tH b l).1),Ii (tH b l).2.1,Ii (tH b l).2.2],h):=by
 rw [RN];have hser:=fun L h=>zma L h l hn;by_cases hb:b≠1/\b≠2
 ·have e1:tH b l=(rC, -1,15):=by unfold tH;rw [if_pos hb]
  rw [e1];simp [rM, -List.map_take,V,fJ,bne,beq_false_of_ne hb.1,beq_false_of_ne hb.2,al,au,ae,aa,rC]
 ·have hb':b=1\/b=2:=by omega
  by_cases h0:(fu l 0 []).2.2=0
  ·have e1:tH b l=(O8 (uk++([IntKind.u8.wrap b]++(fu l 0 []).1)), -1,0):=by unfold tH;rw [if_neg hb,if_neg (by simpa using h0)]
   rw [e1];have hlen:(fu l 0 []).1.length < 200000000000:=by
    have:=GV l 0 [];simp at this;omega
   rcases hb' with rfl | rfl
   ·simp [rM, -List.map_take,V,fJ,hser,h0,al,rep,chunks,fq,EK,P7,hlen,au,ae,aa]
   ·simp [rM, -List.map_take,V,fJ,hser,h0,al,rep,chunks,fq,EK,P7,hlen,au,ae,aa]
  ·have e1:tH b l=(rC,(fu l 0 []).2.1,(fu l 0 []).2.2):=by unfold tH;rw [if_neg hb,if_pos h0]
   rw [e1];have b0:((fu l 0 []).2.2==0)=false:=beq_false_of_ne h0;rcases hb' with rfl | rfl
   ·simp [rM, -List.map_take,V,fJ,hser,bne,b0,al,au,ae,aa,rC]
   ·simp [rM, -List.map_take,V,fJ,hser,bne,b0,al,au,ae,aa,rC]
@[irreducible] def Cz (p:List Int):List Int:=(tH 1 (bJ p).1).1
theorem Ly (p:List Int):Cz p=(tH 1 (bJ p).1).1:=by unfold Cz;exact rfl
def gp (p:List Int):Tc:=⟨Uh p,Cz p,qg (Cz p)⟩
theorem RM (l:List It):(tH 1 l).1.length=32:=by
 unfold tH;split
 ·simp [rC]
 ·split
  ·simp [rC]
  ·simp
theorem Ib (p:List Int):(Cz p).length=32:=by rw [Ly];exact RM _
theorem UD:∀ (f:Nat) (b:List Int) (k:Nat) (acc:List It),k<=1024->acc.length<=k->(GL f b k acc).1.length<=1024
 | 0,b,k,acc,hk,ha=>by simp [GL];omega
 | f + 1, b, k, acc, hk, ha => by
  unfold GL;split
  ·simp only;omega
  ·split
   ·simp
   ·split
    ·exact UD f _ (k+1) _ (by omega) (by simp;omega)
    ·simp
theorem MS (b:List Int):(bJ b).1.length<=1024:=UD _ _ _ _ (by omega) (by simp)
theorem WZ (L:az)(h:O)(bs:List (List J))(ts:List Nat)(i off:Nat)(cs:List J)(h1:(decide (L.rob<=h.blks.length)&&decide (L.nb<=h.blks.length+i))=true):
  dX L (hx h bs ts) (pA h.blks.length i off) cs=stO h bs ts i off cs bs[i]?:=by
 simp only [Bool.and_eq_true,decide_eq_true_eq] at h1;unfold dX pA stO stI hx;simp only;rw [List.getElem?_append_right (Nat.le_add_right _ _),Nat.add_sub_cancel_left]
 cases bs[i]? with
 | none=>rfl
 | some old=>
  simp only [Option.bind_some];by_cases hc:off+cs.length<=old.length
  ·rw [if_pos ⟨by omega,hc,.inl (by omega)⟩,if_pos (by simpa using hc)];rw [List.set_append_right _ _ (Nat.le_add_right _ _),Nat.add_sub_cancel_left]
  ·rw [if_neg (fun h=>hc h.2.1),if_neg (by simpa using hc)]
def z32:List Int:=tab 32 fun _=>0
def VB (n B:Nat)(tg:List Int):List J:=pA n B 0 :: (cI .u8 tg++[.nif])
theorem Y1 (n B:Nat){tg:List Int}(h:tg.length=32):(VB n B tg).length=34:=by simp [VB,h]
theorem zie (n B:Nat){tg tg':List Int}(h:tg.length=32)(h':tg'.length=32):setAt (VB n B tg) 1 (cI .u8 tg')=VB n B tg':=by
 rw [Ju _ _ _ (by simp [VB,h,h'])];unfold putAt VB;rw [List.take_succ_cons,List.take_zero];have:(pA n B 0 :: (cI .u8 tg++[J.nif])).drop (1+(cI .u8 tg').length)=[.nif]:=by
  rw [show 1+(cI .u8 tg').length=32+1 by simp [h'],List.drop_succ_cons,List.drop_left' (by simp [h])]
 rw [this];rfl
theorem zeB (n B:Nat){tg:List Int}(h:tg.length=32):setAt (VB n B tg) 33 [.iface 84 (.agg [pA n (B+3) 0])]=tC n B tg:=by
 rw [Ju _ _ _ (by simp [VB,h])];unfold putAt VB tC;rw [show 33=32+1 from rfl,List.take_succ_cons,List.take_left' (by simp [h])];have:(pA n B 0 :: (cI .u8 tg++[J.nif])).drop (32+1 + [J.iface 84 (.agg [pA n (B+3) 0])].length)=[]:=by
  rw [List.drop_eq_nil_iff];simp [h]
 rw [this];simp
theorem zoK (n B:Nat){tg:List Int}(h:tg.length=32):cL true (VB n B tg) 1 32=some (.agg (cI .u8 tg)):=by
 have:((VB n B tg).drop 1).take 32=cI .u8 tg:=by
  unfold VB;rw [List.drop_one,List.tail_cons,List.take_left' (by simp [h])]
 unfold cL;rw [if_pos rfl,if_pos (by simp [VB,h]),this]
theorem zlv (L:az)(h:O)(p:J)(t:TypeId)(v:J):KL L h 1 p (.iface t v)=Vv (dX L h p [.iface t v]):=by simp [KL,J.cells,J.okV]
theorem RO (L:az)(h:O)(bs:List (List J))(ts:List Nat)(c:Bool)(p:List Int)(hp:cw p)(hl:p.length < 1000000000)(hL:L.rob<=h.blks.length)(hnb:L.nb<=h.blks.length+bs.length):
  Z ah L fI [Ii 1,.vsl c (eI .u8 p)] (hx h bs ts)=
   if (bJ p).2.2=0 then some (.tup [pA h.blks.length (bs.length+1) 0,Ii (-1),Ii 0],hx h (fj h.blks.length bs (gp p) []) ts)
   else some (.tup [.nilp,Ii (bJ p).2.1,Ii (bJ p).2.2],hx h bs ts):=by
 rw [uG];have hG:=fun L=>zhR L h bs ts c p hp hl;have hpl:=MS p;have hTg:=fun L h=>zlq L h 1 (bJ p).1 (by omega);rw [<- Ly] at hTg;have htl:=Ib p;have hIt:=fun L H b hb=>zbj L H (.ptr b 0) b (Uh p) rfl hb (by show (bJ p).1.length < _;omega);have hng:(Uh p).l=(bJ p).1:=rfl;rw [hng] at hIt;by_cases he:(bJ p).2.2=0
 ·rw [if_pos he];simp only [if_pos he] at hG;have hB:fj h.blks.length bs (gp p) []=bs++[Hh (Uh p),tC h.blks.length bs.length (Cz p),cI .u8 (qg (Cz p)).S,J5 h.blks.length (bs.length+2) (qg (Cz p))]:=by simp [fj,Ow,gp]
  rw [hB];generalize tH 1 (bJ p).1=tgl at*;have hOf:=fun L hL w=>Un L h (bs++w) ts (Cz p) htl hL;generalize Uh p=g,(bJ p).1.map It.cells=its,Cz p=tg at*;have hfill:al [J.nilp,.int .u8 0,.int .u8 0,.int .u8 0,.int .u8 0,.int .u8 0,.int .u8 0,.int .u8 0,.int .u8 0,.int .u8 0,.int .u8 0,.int .u8 0,.int .u8 0,.int .u8 0,.int .u8 0,.int .u8 0,.int .u8 0,.int .u8 0,.int .u8 0,.int .u8 0,.int .u8 0,.int .u8 0,.int .u8 0,.int .u8 0,.int .u8 0,.int .u8 0,.int .u8 0,.int .u8 0,.int .u8 0,.int .u8 0,.int .u8 0,.int .u8 0,.int .u8 0,.nif] [(0,1,pA h.blks.length bs.length 0)]=some (VB h.blks.length bs.length z32):=rfl;have hzl:z32.length=32:=by simp [z32]
  have l1:=Y1 h.blks.length bs.length hzl;have l2:=Y1 h.blks.length bs.length htl;have s1:=zie h.blks.length bs.length hzl htl;have s2:=zeB h.blks.length bs.length htl;have p1:=zoK h.blks.length bs.length htl;have hfif:al [J.nilp] [(0,1,pA h.blks.length (bs.length+3) 0)]=some [pA h.blks.length (bs.length+3) 0]:=rfl;have gb:∀ w:List (List J),(bs++w)[bs.length+1]?=w[1]?:=fun w=>iQ bs w bs.length 1 rfl;have gb0:∀ w:List (List J),(bs++w)[bs.length]?=w[0]?:=fun w=>iQ bs w bs.length 0 rfl;have sb:∀ (w:List (List J)) v,(bs++w).set (bs.length+1) v=bs++w.set 1 v:=fun w v=>lL bs w bs.length 1 v rfl;have hst:=fun w off cs=>WZ L h (bs++w) ts (bs.length+1) off cs (by simp only [Bool.and_eq_true,decide_eq_true_eq];exact ⟨hL,by omega⟩);simp only [List.length_append,List.length_cons,List.length_nil] at hOf;have hgi:∀ w:List (List J),w[0]?=some (Hh g)->∀ L,Z ah L gV [pA h.blks.length bs.length 0] (hx h (bs++w) ts)=some (.vsl false its,hx h (bs++w) ts):=fun w hw L=>hIt L _ (h.blks.length+bs.length) (BG ts (by rw [gb0,hw]));generalize tC h.blks.length bs.length tg=T2,VB h.blks.length bs.length tg=T1,VB h.blks.length bs.length z32=T0 at*;simp -implicitDefEqProofs [kJ,hG,hTg,hgi,hfill,hfif,aF,Lh,zaa,gb,gb0,sb,hst,au,ae,zlv,l1,l2,s1,s2,p1,hOf,hL,htl]
 ·rw [if_neg he];simp only [if_neg he] at hG;have be:((bJ p).2.2==0)=false:=by simp [he]
  simp -implicitDefEqProofs [kJ,hG,bne,be]
def p0:List Int:=[1,1,1,0,0,0,0,0,2,1,32,0,0,0,0,0]
theorem zqM:(bJ p0).2.2=0:=by decide +kernel
theorem zoJ:(iR (gp p0) 1 [1]).2=0:=by decide +kernel
theorem zoN:(iR (gp p0) 1 [2]).2=0:=by decide +kernel
theorem zoO:(j8 (iR (gp p0) 1 [1]).1 32).1.2=0:=by decide +kernel
theorem zoP:(j8 (iR (gp p0) 1 [2]).1 32).1.2=0:=by decide +kernel
theorem zoI:(j8 (iR (gp p0) 1 [1]).1 32).1.1.length=32:=by decide +kernel
theorem zoQ:(j8 (iR (gp p0) 1 [2]).1 32).1.1.length=32:=by decide +kernel
theorem zoR:(j8 (iR (gp p0) 1 [1]).1 32).1.1≠(j8 (iR (gp p0) 1 [2]).1 32).1.1:=by decide +kernel
structure Tc.ok (t:Tc):Prop where
 s:t.s.ok
 tg:t.tg.length=32
 l:t.g.l.length<=1024
 k:t.g.k<=t.g.l.length
 cnt:∀ x∈t.g.l,x.count<=1048576
theorem M9 {g:Gd}{k t c:Int}(h:(ak g k t c).e=0):eT g k t c=true:=by
 rw [RE] at h
 cases hn:eT g k t c with
 | true=>rfl
 | false=>
  rw [hn] at h;simp only [Bool.false_eq_true,if_false] at h;unfold aG at h;split at h
  ·simp at h
  ·contradiction
theorem UP {g:Gd}{k t c:Int}(h:eT g k t c=true):g.k < g.l.length/\(gd g.l ⟨0,0,0,⟨#[]⟩⟩ g.k).count=c:=by
 unfold eT Gu at h;simp only [Bool.and_eq_true,decide_eq_true_eq,beq_iff_eq] at h;exact ⟨h.1,h.2.2.2⟩
theorem ziz {g:Gd}(k t c:Int)(h:g.k<=g.l.length):(ak g k t c).k<=(ak g k t c).l.length:=by
 rw [Ra];have hd:ak g k t c=if (aG g (if eT g k t c then 0 else 10)).e=0 then {aG g (if eT g k t c then 0 else 10) with k:=g.k+1} else aG g (if eT g k t c then 0 else 10):=rfl
 by_cases h0:(aG g (if eT g k t c then 0 else 10)).e=0
 ·have h1:(ak g k t c).e=0:=by rw [RE];exact h0
  have:=(UP (M9 h1)).1;rw [hd,if_pos h0];simp only;omega
 ·rw [hd,if_neg h0,(Ak _ _).2];exact h
theorem Xb {α:Type}{l:List α}{d:α}{i:Nat}(h:i < l.length):gd l d i∈l:=by
 have:gd l d i=l[i]:=by simp [gd,List.getD,h]
 rw [this];exact List.getElem_mem h
theorem Tc.ok.next {t:Tc}(h:t.ok)(k ty c:Int)(q:Sp)(hq:q.ok):Tc.ok {t with g:=ak t.g k ty c,s:=q}:=
 ⟨hq,h.tg,by simp only [Ra];exact h.l,ziz k ty c h.k,by simp only [Ra];exact h.cnt⟩
theorem Tc.ok.fail {t:Tc}(h:t.ok)(e:Int):Tc.ok {t with g:=aG t.g e}:=
 ⟨h.s,h.tg,by simp only [(Ak _ _).1];exact h.l,by simp only [(Ak _ _).1,(Ak _ _).2];exact h.k,by simp only [(Ak _ _).1];exact h.cnt⟩
theorem Tc.ok.count {t:Tc}(h:t.ok){k ty c:Int}(hn:(ak t.g k ty c).e=0):c<=1048576:=by
 obtain ⟨h1,h2⟩:=UP (M9 hn);rw [<- h2];exact h.cnt _ (Xb h1)
theorem wa {s:Sp}(hs:s.ok)(k t c:Int)(b:List Int):(ay s (ig k t c b)).c<=s.c+b.length+7:=by
 have h1:=EM hs (ig k t c b)
 have h2:(ig k t c b).length<=6+b.length:=by unfold ig;split <;> simp [Aa];omega
 omega
theorem R4 {t:Tc}(h:t.ok)(ty:Int){b:List Int}(hb:cw b):(iR t ty b).1.ok/\(iR t ty b).1.s.c<=t.s.c+b.length+7:=by
 unfold iR;split
 ·split
  ·split
   ·split
    ·exact ⟨h.next _ _ _ _ (iO h.s (rU _ _ _ hb)),wa h.s _ _ _ _⟩
    ·exact ⟨(h.next _ _ _ _ h.s).fail _,by simp only;omega⟩
   ·exact ⟨h.next _ _ _ _ h.s,by simp only;omega⟩
  ·exact ⟨h.fail _,by simp only;omega⟩
 ·exact ⟨h,by simp only;omega⟩
theorem qJ:cw []:=fun i hi=>by simp at hi
theorem Zg {t:Tc}(h:t.ok)(N:Int):(j8 t N).2.ok/\(j8 t N).2.s.c<=t.s.c+N.toNat+7:=by
 unfold j8;have h1:=iO h.s (rU 2 1 N qJ);have h2:=wa h.s 2 1 N [];have h3:=zW (ay t.s (ig 2 1 N [])) N.toNat;simp only [List.length_nil] at h2;split
 ·exact ⟨h.next _ _ _ _ (qj h1 _),by simp only;omega⟩
 ·exact ⟨h.next _ _ _ _ h.s,by simp only;omega⟩
theorem Zh {t:Tc}(h:t.ok)(N:Int):cw (j8 t N).1.1:=by
 unfold j8;split
 ·exact NA (iO h.s (rU 2 1 N qJ)) _
 ·exact qJ
theorem Xg {s:Sp}(h:s.ok)(n:Nat):(aY s n).2.ok/\(aY s n).2.c<=s.c+2048*n:=Vi n [] 0 h
theorem Zi {t:Tc}(h:t.ok)(N:Int):(nC t N).2.ok/\(nC t N).2.s.c<=t.s.c+2048*N.toNat+7:=by
 unfold nC;have h1:=iO h.s (rU 2 3 N qJ);have h2:=wa h.s 2 3 N [];have h3:=Xg h1 N.toNat;simp only [List.length_nil] at h2;split
 ·split
  ·exact ⟨h.next _ _ _ _ h3.1,by simp only;omega⟩
  ·exact ⟨(h.next _ _ _ _ h3.1).fail _,by simp only;omega⟩
 ·exact ⟨h.next _ _ _ _ h.s,by simp only;omega⟩
theorem zif {t:Tc}(h:t.ok):(wJ t).1.ok/\(wJ t).1.s.c<=t.s.c+8:=by
 unfold wJ;have h1:=iO h.s (rU 3 0 1 qJ);have h2:=wa h.s 3 0 1 [];have h3:(zX (ay t.s (ig 3 0 1 []))).c=(ay t.s (ig 3 0 1 [])).c+1:=rfl;simp only [List.length_nil] at h2;split
 ·exact ⟨h.next _ _ _ _ (zg3 h1),by simp only;omega⟩
 ·exact ⟨h.next _ _ _ _ h.s,by simp only;omega⟩
theorem zig {t:Tc}(h:t.ok):Tc.ok {t with g:=mg t.g}:=h.fail _
theorem zeD {b:List Int}(h:(ue b).2.2=0):(ue b).1.count<=1048576:=by
 unfold ue at h |-;split at h
 ·simp at h
 ·split at h
  ·next h1 h2=>
   rw [if_neg h1,if_pos h2];exact (we h2).2.2.2.2.2.1
  ·next h1 h2=>exact absurd h h2
theorem UG:∀ (f:Nat) (b:List Int) (k:Nat) (acc:List It),(∀ x∈acc,x.count<=1048576)->∀ x∈(GL f b k acc).1,x.count<=1048576
 | 0,b,k,acc,h=>h
 | f + 1, b, k, acc, h => by
  unfold GL;split
  ·exact h
  ·split
   ·intro x hx;simp at hx
   ·split
    ·next he=>
     refine UG f _ _ _ ?_;intro x hx;rcases List.mem_append.1 hx with h1 | h1
     ·exact h x h1
     ·rw [List.mem_singleton.1 h1];exact zeD he
    ·intro x hx;simp at hx
theorem zii (p:List Int):cw (Cz p):=by
 rw [Ly];unfold tH;split
 ·exact Hu 32
 ·split
  ·exact Hu 32
  ·exact lS (LQ _) 32
theorem RR (p:List Int)(hp:cw p):(gp p).ok:=
 ⟨zgN (by rw [Ib];decide) (zii p),Ib p,MS p,Nat.zero_le _,UG _ _ _ _ (by simp)⟩
theorem zeH (p:List Int):(gp p).s.c=0:=rfl
theorem Qf (s:Sp)(k:Nat):pg 0 s k=((zE,64,11),s):=by rw [pg]
theorem Qh (f:Nat)(s:Sp)(k:Nat):pg (f+1) s k=if bi (kc (fm s 32)) < pN then ((fe (bi (kc (fm s 32))),(k:Int)+1,0),bz s 32) else pg f (bz s 32) (k+1):=by rw [pg]
theorem zil (f:Nat):∀ (s:Sp) (k:Nat),(pg f s k).1.2.2=0->∃ x,(pg f s k).1.1=fe x:=by
 induction f with
 | zero=>
  intro s k h;rw [Qf] at h;exact absurd h (by simp)
 | succ f ih=>
  intro s k h;rw [Qh] at h |-;by_cases h0:bi (kc (fm s 32)) < pN
  ·rw [if_pos h0];exact ⟨bi (kc (fm s 32)),by simp only⟩
  ·rw [if_neg h0] at h |-;exact ih _ _ h
theorem UJ:∀ (n:Nat) (s:Sp) (acc:List (List ac)) (t:Int),(∀ f∈acc,∃ x,f=fe x)->∀ f∈(ge n s acc t).1.1,∃ x,f=fe x
 | 0,s,acc,t,h=>h
 | n + 1, s, acc, t, h => by
  unfold ge;split
  ·next h0=>
   refine UJ n _ _ _ ?_;intro f hf;rcases List.mem_append.1 hf with h1 | h1
   ·exact h f h1
   ·rw [List.mem_singleton.1 h1];rw [sG] at h0 |-;exact zil 64 s 0 h0
  ·intro f hf;simp at hf
theorem zim (t:Tc)(N:Int):∀ f∈(nC t N).1.1,∃ x,f=fe x:=by
 unfold nC;split
 ·split
  ·exact UJ _ _ _ _ (by simp)
  ·intro f hf;simp at hf
 ·intro f hf;simp at hf
theorem Y5:∀ l:List (List ac),(∀ f∈l,∃ x,f=fe x)->∃ xs:List Nat,l=xs.map fe
 | [],_=>⟨[],rfl⟩
 | f :: l, h => by
  obtain ⟨x,rfl⟩:=h f (by simp);obtain ⟨xs,rfl⟩:=Y5 l fun g hg=>h g (by simp [hg]);exact ⟨x :: xs,rfl⟩
theorem Y6 (t:Tc)(N:Int):∃ xs:List Nat,(nC t N).1.1=xs.map fe:=Y5 _ (zim t N)
noncomputable def xsT (t:Tc)(N:Int):List Nat:=Classical.choose (Y6 t N)
theorem zeJ (t:Tc)(N:Int):(nC t N).1.1=(xsT t N).map fe:=Classical.choose_spec (Y6 t N)
theorem UM:∀ (n:Nat) (s:Sp) (acc:List (List ac)) (t:Int),(ge n s acc t).1.1.length<=acc.length+n
 | 0,s,acc,t=>by simp [ge]
 | n + 1, s, acc, t => by
  unfold ge;split
  ·have:=UM n (bV s).2 (acc++[(bV s).1.1]) (IntKind.i64.wrap (t+(bV s).1.2.1));simp only [List.length_append,List.length_singleton] at this;omega
  ·simp
theorem zip (t:Tc)(N:Int)(M:Nat)(h:(ak t.g 2 3 N).e=0->N.toNat<=M):(xsT t N).length<=M:=by
 have h1:(xsT t N).length=(nC t N).1.1.length:=by rw [zeJ];simp
 rw [h1];unfold nC;by_cases h0:(ak t.g 2 3 N).e=0
 ·rw [if_pos h0];split
  ·have:=UM N.toNat (ay t.s (ig 2 3 N [])) [] 0;have h2:=h h0;simp only [List.length_nil] at this;show (ge N.toNat (ay t.s (ig 2 3 N [])) [] 0).1.1.length<=M;omega
  ·simp
 ·rw [if_neg h0];simp
noncomputable def doT (t:Tc)(d ty N:Int)(b:List Int):(Int × List Int) × Tc:=
 if d=0 then (((iR t ty b).2,[]),(iR t ty b).1)
 else if d=1 then (((j8 t N).1.2,(j8 t N).1.1),(j8 t N).2)
 else if d=2 then (((nC t N).1.2,(xsT t N).flatMap feB),(nC t N).2)
 else (((wJ t).2,[]),(wJ t).1)
theorem zlB {t:Tc}(h:t.ok)(d ty N:Int){b:List Int}(hb:cw b)(hl:b.length<=400)(hN:N<=1048576->N<=100):
  (doT t d ty N b).2.ok/\(doT t d ty N b).2.s.c<=t.s.c+300000:=by
 unfold doT;split
 ·have:=R4 h ty hb;exact ⟨this.1,by simp only;omega⟩
 ·split
  ·refine ⟨(Zg h N).1,?_⟩;by_cases h0:(ak t.g 2 1 N).e=0
   ·have h1:=(Zg h N).2;have h2:=h.count h0;have:=hN h2;simp only;omega
   ·unfold j8;rw [if_neg h0];simp only;omega
  ·split
   ·refine ⟨(Zi h N).1,?_⟩;by_cases h0:(ak t.g 2 3 N).e=0
    ·have h1:=(Zi h N).2;have h2:=h.count h0;have:=hN h2;simp only;omega
    ·unfold nC;rw [if_neg h0];simp only;omega
   ·have:=zif h;exact ⟨this.1,by simp only;omega⟩
theorem zbP (L:az)(h:O)(p:J)(s:Sp)(j n:Nat)(b:Nat)(hp:p=.ptr b 0)(hb:h.blks[b]?=some (J5 n j s)):Z ah L dG [p] h=some (Ii s.c,h):=by
 rw [ug];subst hp;have hl:=fun bs ts=>n8 h bs ts b 4 1 false _ hb;have h1:cL false (J5 n j s) 4 1=some (Ii s.c):=rfl;simp only [h1] at hl;have hf:nT h (.ptr b 0)=some (.ptr b 0,false):=by simp only [nT]
 simp -implicitDefEqProofs [ju,hf,hl]
theorem zlz (L:az)(h:O)(p:J)(b:Nat)(g:Gd)(hp:p=.ptr b 0)(hb:h.blks[b]?=some (Hh g)):
  Z ah L oh [p] h=some (Ii g.k,h):=by
 subst hp;rw [Fh];simp only [Hh] at hb;have h1:=fun bs ts=>n8 h bs ts b 1 1 false _ hb;have hf:nT h (.ptr b 0)=some (.ptr b 0,false):=by simp only [nT]
 simp -implicitDefEqProofs [rX,V,hf,h1,ap]
theorem zlA {C:eD}{L:az}{h:O}{f:FuncId}(v:J)(as:List J):U3 C L h (some ([(0,1,false)],f)) (.agg [v]) as=XY (U C f) (Z C L f (v :: as) h):=rfl
theorem zly (L:az)(H:O)(b n B:Nat)(g:Gd)(tg:List Int)(hb:H.blks[b]?=some (tC n B tg))(hg:H.blks[n+B]?=some (Hh g)):
  Z ah L dj [.ptr b 0] H=some (Ii g.k,H):=by
 rw [tw];have h0:=zbt n B tg;have h1:=fun bs ts=>n8 H bs ts b 0 1 false _ hb;simp only [h0] at h1;have hA:=fun L=>zlz L (hx H [] []) (pA n B 0) (n+B) g rfl (by simp [hx,hg]);have hf:nT H (.ptr b 0)=some (.ptr b 0,false):=by simp only [nT]
 simp -implicitDefEqProofs [iM,V,hf,h1,hA]
theorem zbJ (L:az)(H:O)(b n B:Nat)(s:Sp)(tg:List Int)(ht:tg.length=32)(hb:H.blks[b]?=some (tC n B tg))(hg:H.blks[n+(B+3)]?=some (J5 n (B+2) s)):
  Z ah L bZ [.ptr b 0] H=some (Ii s.c,H):=by
 rw [qr];have h0:=Ur n B tg ht;have h1:=fun bs ts=>n8 H bs ts b 33 1 false _ hb;simp only [h0] at h1;have hA:=fun L=>zbP L (hx H [] []) (pA n (B+3) 0) s (B+2) n (n+(B+3)) rfl (by simp [hx,hg]);have hf:nT H (.ptr b 0)=some (.ptr b 0,false):=by simp only [nT]
 simp -implicitDefEqProofs [fS,V,hf,h1,hA,ap,zlA]
theorem ziq (L:az)(H:O)(b n B:Nat)(tg:List Int)(ht:tg.length=32)(hb:H.blks[b]?=some (tC n B tg)):
  Z ah L cO [.ptr b 0] H=some (.agg (cI .u8 tg),H):=by
 rw [rZ];have h0:=zqL n B tg ht;have h1:=fun bs ts=>n8 H bs ts b 1 32 true _ hb;simp only [h0] at h1;have hf:nT H (.ptr b 0)=some (.ptr b 0,false):=by simp only [nT]
 simp -implicitDefEqProofs [hJ,V,hf,h1,fJ,au,ae,aa,ht]
end Go.Av
