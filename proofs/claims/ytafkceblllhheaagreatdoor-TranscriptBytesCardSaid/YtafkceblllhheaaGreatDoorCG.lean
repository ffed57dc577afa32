/- A call, done by both; the law's walk. -/
import Derived.Test.YtafkceblllhheaaGreatDoorCF
import Derived.Test.YtafkceblllhheaaGreatDoorCB
import Derived.Test.YtafkceblllhheaaGreatDoorCA
import Derived.Test.YtafkceblllhheaaGreatDoorC8
set_option linter.unusedSimpArgs false
set_option linter.unusedVariables false
set_option maxHeartbeats 4000000
set_option maxRecDepth 20000
namespace Go.Av
theorem zbV (L:az)(h:O)(t:Tc)(hc:t.s.c < 1000000000):Z ah L kG [.agg (d6 t)] h=some (Ii t.s.c,h):=by
 rw [A8];have hf:=u4 h t;have hbo:pe (.agg (d6 t))=some (.vptr (d6 t) 0):=rfl;have p8:cL false (d6 t) 8 1=some (Ii t.s.c):=rfl;have p14:cL false (d6 t) 14 1=some (Ii 0):=rfl;have w0:Wr (t.s.c:Int)=t.s.c:=wz;generalize d6 t=D at*;simp -implicitDefEqProofs [oG,hf,hbo,aa,p8,p14,w0]
theorem zfh {fr:Fr}{h:O}{R:Option (dt × Fr × O)}(vs:List Nat)(hv:∀ v∈vs,v < pN)(hl:vs.length < 100000)
  (hF:run ah (V h) (.loop lx) fr (hx h [] [])=R)
  (h0:fr 0=.vsl false ((vs.map fe).map cW)) (h1:fr 1=.vsl false (Jx vs)) (h12:fr 12=Ii (vs.length:Int)) (h13:fr 13=Ii 0):
  ∃ fr',R=some (.exit 0,fr',hx h [] []):=by
 obtain ⟨e,fr',h',rfl,⟨rfl,rfl⟩,hk⟩:=af hF vs.length
  (fun k fr hh=>fr 13=Ii (k:Int)/\hh=hx h [] [])
  (fun e fr hh=>e=.exit 0/\hh=hx h [] [])
  ⟨h13,rfl⟩ (by
   rintro k fr1 hh hkN hkeep ⟨g13,rfl⟩;have g0:=kp hkeep h0;have g1:=kp hkeep h1;have g12:=kp hkeep h12;by_cases hlt:k < vs.length
   ·have hltI:(k:Int) < (vs.length:Int):=by omega
    have w0:Wr ((k:Int)+1)=k+1:=wz;have ia:=ziw .i64 false vs k hlt;have ib:=ziE .i64 false vs k hlt;have hvk:gd vs 0 k < pN:=hv _ (by
     have:gd vs 0 k=vs[k]:=by simp [gd,List.getD,hlt]
     rw [this];exact List.getElem_mem hlt)
    have hI:=fun L h=>zpd L h (gd vs 0 k) (.vsl false (eW (dg (gd vs 0 k)))) (by rw [Nat.mod_eq_of_lt hvk];exact LV.vsl _ _);have hcl:(cW (fe (gd vs 0 k))).length=4:=rfl;generalize Jx vs=dl,(vs.map fe).map cW=lw,dg (gd vs 0 k)=D,cW (fe (gd vs 0 k))=f4 at*;simp -implicitDefEqProofs [lx,V,g0,g1,g12,g13,hlt,hltI,w0,ia,ib,hI,hcl,aa]
   ·have:k=vs.length:=by omega
    subst this;simp -implicitDefEqProofs [lx,g12,g13])
 exact ⟨fr',rfl⟩
theorem zlV (L:az)(h:O)(vs:List Nat)(hv:∀ v∈vs,v < pN)(hl:vs.length < 100000):
  Z ah L mX [.vsl false ((vs.map fe).map cW),.vsl false (Jx vs)] h=some (.bool true,h):=by
 rw [CO];have hf:=fw h false ((vs.map fe).map cW);have hf2:=fw h false (Jx vs);have hlo:=fun fr R=>zfh (fr:=fr) (h:=h) (R:=R) vs hv hl;have l1:((vs.map fe).map cW).length=vs.length:=by simp
 have l2:(Jx vs).length=vs.length:=by simp
 generalize (vs.map fe).map cW=lw at*;generalize Jx vs=dl at*;simp -implicitDefEqProofs [qF,hf,hf2,l1,l2,bne];generalize hF:run ah _ (.loop _) _ _=R;obtain ⟨fr',rfl⟩:=hlo _ _ hF (by simp) (by simp) (by simp) (by simp);simp
theorem pY (nb nt:Nat)(t:Tc):aE nb nt (d6 t)=true:=by
 have:=nM nb nt t.g.l;have h0:aO nb nt ([]:List (List J))=true:=rfl;simp [d6,aE,J.under,this,h0]
theorem ziN (L:az)(h:O)(bs js:List (List J))(ts:List Nat)(t:Tc)(ht:t.ok)(hc:t.s.c < 10000000)(x:d5)(hb:cw x.b)(hfew:x.few)(hL:L.rob<=h.blks.length)(hT:L.rot<=h.toks.length):
  Z ah L lC [pA h.blks.length (bs.length+1) 0,.agg (d6 t),.agg x.cells] (hx h (fj h.blks.length bs t js) ts)=some (.tup [.agg (d6 (stepT t x).2),.bool true],hx h (fj h.blks.length bs (stepT t x).2 js) ts):=by
 rw [CD];have hk:t.g.k < 1000000000:=by have:=ht.k;have:=ht.l;omega
 obtain ⟨d,ty,N,b⟩:=x;obtain ⟨hfb,hfn⟩:=hfew;simp only at hfb hfn hb;have hbx:pe (.agg (⟨d,ty,N,b⟩:d5).cells)=some (.vptr [Ii d,Ii ty,Ii N,.vsl false (eI .u8 b)] 0):=rfl;have hbo:pe (.agg (d6 t))=some (.vptr (d6 t) 0):=rfl;have l0:=bn t;have hln:=fun t js=>dz h.blks.length bs t js;have hfr:=fun hh nb nt m t=>kz hh nb nt m t;have happ:=fun t js w=>uZ h.blks.length bs t js w;have hg1:=fun t js y=>Kc h.blks.length bs t js [y] 0;have hs1:=fun t js y v=>vx h.blks.length bs t js [y] 0 v;have hg20:=fun t js y z=>Kc h.blks.length bs t js [y,z] 0;have hg21:=fun t js y z=>Kc h.blks.length bs t js [y,z] 1;have hs20:=fun t js y z v=>vx h.blks.length bs t js [y,z] 0 v;have hs21:=fun t js y z v=>vx h.blks.length bs t js [y,z] 1 v;simp only [Nat.add_zero,Nat.add_assoc,List.getElem?_cons_zero,List.set_cons_zero,List.getElem?_cons_succ,List.set_cons_succ] at hg1 hs1 hg20 hg21 hs20 hs21;have hgG1:∀ t js y hh,(fj h.blks.length bs t (js++[y]))[bs.length+(4+js.length)]'hh=y:=fun t js y hh=>(List.getElem?_eq_some_iff.1 (hg1 t js y)).2;have hgG20:∀ t js y z hh,(fj h.blks.length bs t (js++[y,z]))[bs.length+(4+js.length)]'hh=y:=fun t js y z hh=>(List.getElem?_eq_some_iff.1 (hg20 t js y z)).2;have hgG21:∀ t js y z hh,(fj h.blks.length bs t (js++[y,z]))[bs.length+(4+(js.length+1))]'hh=z:=fun t js y z hh=>(List.getElem?_eq_some_iff.1 (hg21 t js y z)).2;have htr:=fun t w us=>WM h.blks.length bs t js h ts us w;have htr1:=fun t w=>H3 h.blks.length bs t js h ts w;unfold stepT;simp only;by_cases h0:d=0
 ·subst h0;rw [if_neg (by omega)];have hd:doT t 0 ty N b=(((iR t ty b).2,[]),(iR t ty b).1):=by unfold doT;rw [if_pos rfl]
  rw [hd];have hA:=fun L h=>WA L h t ty false b hb (by omega) hk ht.s hc;have hP:=fun L hL js=>GS L h bs js ts t ty false b hb (by omega) hk ht.s hc ht.tg hL;have l1:=bn (iR t ty b).1;have hu:=fun nb nt=>pY nb nt (iR t ty b).1;have hfr:=fun hh nb nt m=>hfr hh nb nt m (iR t ty b).1;generalize eI .u8 b=eb,d6 t=D0,(iR t ty b).1=t1,(iR t ty b).2=e1,d6 (iR t ty b).1=D1 at*;simp -implicitDefEqProofs [ee,aB,aA,hln,happ,hg1,hs1,hg20,hg21,hs20,hs21,hgG1,hgG20,hgG21,hbx,hbo,aa,ap,au,ae,am,hu,hA,hP,l0,l1,hL,hfr,htr1]
  done
 ·have b0:(d==0)=false:=beq_false_of_ne h0;by_cases h1:d=1
  ·subst h1;rw [if_neg (by omega)];have hd:doT t 1 ty N b=(((j8 t N).1.2,(j8 t N).1.1),(j8 t N).2):=by unfold doT;rw [if_neg (by decide),if_pos rfl]
   rw [hd];have hA:=fun L h=>T3 L h t N hk ht.s hc (fun he=>by have:=ht.count he;have:=hfn this;omega);have hP:=fun L hL hT js=>Dz L h bs js ts t N hk ht.s hc ht.tg (fun h0=>by have:=hfn (ht.count h0);omega) hL hT;have l1:=bn (j8 t N).2;have hu:=fun nb nt=>pY nb nt (j8 t N).2;have hfr:=fun hh nb nt m=>hfr hh nb nt m (j8 t N).2;generalize (j8 t N).1.2=e1,d6 (j8 t N).2=D1 at*;have hbq:(Ok (j8 t N).1.1==Ok (j8 t N).1.1)=true:=(Go.MapKept.bytes_beq _ _).2 rfl;generalize eI .u8 b=eb,d6 t=D0,(j8 t N).2=t1,(j8 t N).1.1=q1 at*;simp -implicitDefEqProofs [ee,aB,aA,hln,happ,hg1,hs1,hg20,hg21,hs20,hs21,hgG1,hgG20,hgG21,hbx,hbo,aa,ap,au,ae,am,hu,hA,hP,l0,l1,hL,hT,hfr,htr1,hbq]
   done
  ·have b1:(d==1)=false:=beq_false_of_ne h1;by_cases h2:d=2
   ·subst h2;rw [if_neg (by omega)];have hd:doT t 2 ty N b=(((nC t N).1.2,(xsT t N).flatMap feB),(nC t N).2):=by unfold doT;rw [if_neg (by decide),if_neg (by decide),if_pos rfl]
    rw [hd];obtain ⟨vs,v1,v2,hA⟩:=Ng t N hk ht.s hc (fun he=>by have:=ht.count he;have:=hfn this;omega);have hP:=fun L hL hT js=>OQ L h bs js ts t N hk ht.s hc ht.tg (fun h0=>by have:=hfn (ht.count h0);omega) hL hT;have hle:=zip t N 1000 (fun he=>by have:=ht.count he;have:=hfn this;omega);have hvl:vs.length < 100000:=by
     have e:(xsT t N).map fe=vs.map fe:=(zeJ t N).symm.trans v2;have:=congrArg List.length e;simp only [List.length_map] at this;omega
    rw [v2] at hP;have hR:=fun L h=>zlV L h vs v1 hvl;have l1:=bn (nC t N).2;have hu:=fun nb nt=>pY nb nt (nC t N).2;have hfr:=fun hh nb nt m=>hfr hh nb nt m (nC t N).2;generalize Jx vs=dl,(vs.map fe).map cW=lw,eI .u8 b=eb,d6 t=D0,(nC t N).2=t1,(nC t N).1.2=e1,d6 (nC t N).2=D1 at*;simp -implicitDefEqProofs [ee,aB,aA,hln,happ,hg1,hs1,hg20,hg21,hs20,hs21,hgG1,hgG20,hgG21,hbx,hbo,aa,ap,au,ae,am,hu,hA,hP,hR,l0,l1,hL,hT,hfr,htr1]
    done
   ·have b2:(d==2)=false:=beq_false_of_ne h2;by_cases h3:d=3
    ·subst h3;rw [if_neg (by omega)];have hd:doT t 3 ty N b=(((wJ t).2,[]),(wJ t).1):=by unfold doT;rw [if_neg (by decide),if_neg (by decide),if_neg (by decide)]
     rw [hd];have hA:=fun L h=>Rn L h t hk ht.s hc;have hP:=fun L hL js=>Uw L h bs js ts t hk ht.s hc ht.tg hL;have l1:=bn (wJ t).1;have hu:=fun nb nt=>pY nb nt (wJ t).1;have hfr:=fun hh nb nt m=>hfr hh nb nt m (wJ t).1;generalize eI .u8 b=eb,d6 t=D0,(wJ t).1=t1,(wJ t).2=e1,d6 (wJ t).1=D1 at*;simp -implicitDefEqProofs [ee,aB,aA,hln,happ,hg1,hs1,hg20,hg21,hs20,hs21,hgG1,hgG20,hgG21,hbx,hbo,aa,ap,au,ae,am,hu,hA,hP,l0,l1,hL,hfr,htr1]
     done
    ·have b3:(d==3)=false:=beq_false_of_ne h3;rw [if_pos (by omega)];have hA:=fun L h=>Ww L h t ht.k;have hP:=fun L hL js=>WQ L h bs js ts t hL;have l1:=bn {t with g:=mg t.g};have hu:=fun nb nt=>pY nb nt {t with g:=mg t.g};have hfr:=fun hh nb nt m=>hfr hh nb nt m {t with g:=mg t.g};simp only;generalize eI .u8 b=eb,d6 t=D0,({t with g:=mg t.g}:Tc)=t1,(mg t.g).e=e1,d6 {t with g:=mg t.g}=D1 at*;simp -implicitDefEqProofs [ee,aB,aA,hln,happ,hg1,hs1,hg20,hg21,hs20,hs21,hgG1,hgG20,hgG21,hbx,hbo,aa,ap,au,ae,am,hu,hA,hP,l0,l1,hL,hfr,htr1,b0,b1,b2,b3]
     done
theorem zjZ (n:Nat)(tb:List J)(t:Tc)(D:List J)(js:List (List J)):(fj n [tb] t (D :: js))[5]?=some D:=by
 have:=Kc n [tb] t [] (D :: js) 0;simpa using this
theorem zfu (n:Nat)(tb:List J)(t:Tc)(D v:List J)(js:List (List J)):(fj n [tb] t (D :: js)).set 5 v=fj n [tb] t (v :: js):=by
 have:=vx n [tb] t [] (D :: js) 0 v;simpa using this
theorem zbZ (nb nt:Nat)(x:d5):aE nb nt x.cells=true:=by simp [d5.cells,aE,J.under]
theorem Xz {fr:Fr}{h:O}{R:Option (dt × Fr × O)}(tb:List J)(js0:List (List J))(l:List d5)(hl:l.length<=20)(hb:∀ x∈l,cw x.b)(hf:∀ x∈l,x.few)(t0:Tc)(ht0:t0.ok)(hc0:t0.s.c=0)
  (hF:run ah (V h) (.loop jA) fr (hx h (fj h.blks.length [tb] t0 (d6 t0 :: js0)) [])=R)
  (h8:fr 8=pA h.blks.length 2 0) (h11:fr 11=pA h.blks.length 5 0) (h63:fr 63=.vsl false (l.map d5.cells)) (h64:fr 64=Ii (l.length:Int)) (h65:fr 65=Ii 0):
  ∃ fr' bs ts,R=some (.exit 0,fr',hx h bs ts):=by
 obtain ⟨e,fr',h',rfl,⟨rfl,bs,ts,rfl⟩,hk⟩:=af hF l.length
  (fun k fr hh=>fr 65=Ii (k:Int)/\∃ t js,hh=hx h (fj h.blks.length [tb] t (d6 t :: js)) []/\t.ok/\t.s.c<=300000*k)
  (fun e fr hh=>e=.exit 0/\∃ bs ts,hh=hx h bs ts)
  ⟨h65, t0, js0, rfl, ht0, by omega⟩ (by
   rintro k fr1 hh hkN hkeep ⟨g65,t,js,rfl,ht,hc⟩;have g8:=kp hkeep h8;have g11:=kp hkeep h11;have g63:=kp hkeep h63;have g64:=kp hkeep h64;by_cases hlt:k < l.length
   ·have hltI:(k:Int) < (l.length:Int):=by omega
    have w0:Wr ((k:Int)+1)=k+1:=wz;have ia:=Qk .i64 false l k hlt;have hm:=Xb (d:=sx) hlt;have hxb:=hb _ hm;have hxf:=hf _ hm;have hx4:(gd l sx k).cells.length=4:=rfl;have hux:=fun nb nt=>zbZ nb nt (gd l sx k);have hS:=fun L hL hT js=>ziN L h [tb] js [] t ht (by omega) (gd l sx k) hxb hxf hL hT;generalize l.map d5.cells=lc,gd l sx k=x at*;have hs1:=zeX ht hxb hxf;generalize x.cells=xc,(stepT t x).1=an,(stepT t x).2=t1 at*;have hEr:=fun L hL js=>YY L h [tb] js [] t1 hL;have hCa:∀ L js,Z ah L bZ [pA h.blks.length 2 0] (hx h (fj h.blks.length [tb] t1 js) [])=some (Ii t1.s.c,hx h (fj h.blks.length [tb] t1 js) []):=fun L js=>zbJ L (hx h (fj h.blks.length [tb] t1 js) []) (h.blks.length+2) h.blks.length 1 t1.s t1.tg hs1.1.tg (BG [] (C5 h.blks.length [tb] t1 js)) (BG [] (zoW h.blks.length [tb] t1 js));have hAt:∀ L js,Z ah L dj [pA h.blks.length 2 0] (hx h (fj h.blks.length [tb] t1 js) [])=some (Ii t1.g.k,hx h (fj h.blks.length [tb] t1 js) []):=fun L js=>zly L (hx h (fj h.blks.length [tb] t1 js) []) (h.blks.length+2) h.blks.length 1 t1.g t1.tg (BG [] (C5 h.blks.length [tb] t1 js)) (BG [] (Mi h.blks.length [tb] t1 js));have hDC:=fun L h=>zbV L h t1 (by have:=hs1.2;omega);have p2:cL false (d6 t1) 2 1=some (Ii t1.g.k):=rfl;have p3:cL false (d6 t1) 3 1=some (Ii t1.g.e):=rfl;have l0:=bn t;have l1:=bn t1;have hu0:=fun nb nt=>pY nb nt t;have hu:=fun nb nt=>pY nb nt t1;obtain ⟨M,hM⟩:∃ M,M=1+(4+(js.length+1)):=⟨_,rfl⟩;have hln:∀ t D,(fj h.blks.length [tb] t (D :: js)).length=M:=fun t D=>by rw [dz,hM];rfl
    have hln1:∀ t D c,(fj h.blks.length [tb] t (D :: (js++[c]))).length=M+1:=fun t D c=>by rw [dz,hM];simp;omega
    have happ:∀ t D js c,fj h.blks.length [tb] t (D :: js)++[c]=fj h.blks.length [tb] t (D :: (js++[c])):=fun t D js c=>uZ h.blks.length [tb] t (D :: js) [c];have gc : ∀ t D c w, (fj h.blks.length [tb] t (D :: (js ++ c :: w)))[M]? = some c := fun t D c w => by
     have:=Kc h.blks.length [tb] t (D :: js) (c :: w) 0;rw [hM];exact this
    have gcG:∀ t D c w hh,(fj h.blks.length [tb] t (D :: (js++c :: w)))[M]'hh=c:=fun t D c w hh=>(List.getElem?_eq_some_iff.1 (gc t D c w)).2;have sc : ∀ t D c w v, (fj h.blks.length [tb] t (D :: (js ++ c :: w))).set M v = fj h.blks.length [tb] t (D :: (js ++ v :: w)) := fun t D c w v => by
     have:=vx h.blks.length [tb] t (D :: js) (c :: w) 0 v;rw [hM];exact this
    have gd : ∀ t D c d, (fj h.blks.length [tb] t (D :: (js ++ [c, d])))[M + 1]? = some d := fun t D c d => by
     have:=Kc h.blks.length [tb] t (D :: js) [c,d] 1;rw [hM];exact this
    have gdG:∀ t D c d hh,(fj h.blks.length [tb] t (D :: (js++[c,d])))[M+1]'hh=d:=fun t D c d hh=>(List.getElem?_eq_some_iff.1 (gd t D c d)).2;have sd : ∀ t D c d v, (fj h.blks.length [tb] t (D :: (js ++ [c, d]))).set (M + 1) v = fj h.blks.length [tb] t (D :: (js ++ [c, v])) := fun t D c d v => by
     have:=vx h.blks.length [tb] t (D :: js) [c,d] 1 v;rw [hM];exact this
    have g5:=fun t D js=>zjZ h.blks.length tb t D js;have g5G:∀ t D js hh,(fj h.blks.length [tb] t (D :: js))[5]'hh=D:=fun t D js hh=>(List.getElem?_eq_some_iff.1 (g5 t D js)).2;have s5:=fun t D v js=>zfu h.blks.length tb t D v js;simp only [List.length_cons,List.length_nil,Nat.zero_add] at hS hEr;have hfin:∃ js',fj h.blks.length [tb] t1 (d6 t1 :: (js++[xc,d6 t1]))=fj h.blks.length [tb] t1 (d6 t1 :: js'):=⟨_,rfl⟩;obtain ⟨js',hfin⟩:=hfin;clear hM;generalize d6 t=D0 at*;generalize hD1:d6 t1=D1 at*;simp -implicitDefEqProofs [jA,V,g8,g11,g63,g64,g65,hltI,ia,aB,aA,hln,hln1,happ,gc,gcG,sc,gd,gdG,sd,g5,g5G,s5,aa,ap,au,ae,am,hux,hu,hu0,hx4,l0,l1,hS,hEr,hCa,hAt,hDC,p2,p3,w0,bne];exact ⟨hlt,t1,⟨_,by rw [hD1]⟩,hs1.1,by have:=hs1.2;omega⟩
   ·have:k=l.length:=by omega
    subst this;simp [jA,g64,g65];exact ⟨_,_,rfl⟩)
 exact ⟨fr',bs,ts,rfl⟩
theorem zfA (L:az)(h:O)(bs:List (List J))(ts:List Nat)(bk:Int)(h1:(bk==1)=false)(h2:(bk==2)=false)(y:J):
  Z ah L fI [Ii bk,y] (hx h bs ts)=some (.tup [.nilp,Ii (-1),Ii 15],hx h bs ts):=by
 rw [uG];simp -implicitDefEqProofs [kJ,V,bne,h1,h2,LY]
theorem zfD (L:az)(h:O)(bk:Int)(hbk:bk≠2)(p:List Int)(hp:cw p)(hpl:p.length<=1000)(l:List d5)(hl:l.length<=20)(hb:∀ x∈l,cw x.b)(hf:∀ x∈l,x.few):
  Z ah L kE [Ii bk,.vsl false (eI .u8 p),.vsl false (l.map d5.cells)] h=some (.bool true,h):=by
 rw [AF];have b2:(bk==2)=false:=beq_false_of_ne hbk;have hlen:(l.map d5.cells).length=l.length:=by simp
 have hN:=fun L hL hnb=>RO L h [[.nsl,.nsl]] [] false p hp (by omega) hL hnb;have hD:=fun L h=>zem L h bk hbk false p hp (by omega);have hN9:=fun L bs=>zfA L h bs [] bk;have hz:zhX.length=15:=rfl;have hnn:GF .ptr .nilp .nilp=some true:=rfl;by_cases h1:bk=1
 ·subst h1;simp only [if_true] at hD;by_cases he:(bJ p).2.2=0
  ·simp only [if_pos he] at hN hD;have hlo:=fun fr R js0=>Xz (fr:=fr) (h:=h) (R:=R) [.nsl,.nsl] js0 l hl hb hf (gp p) (RR p hp) (zeH p);have heq:GF .ptr (pA h.blks.length 2 0) .nilp=some false:=rfl;have htl:=(RR p hp).tg;have hTg:∀ L js,Z ah L cO [pA h.blks.length 2 0] (hx h (fj h.blks.length [[.nsl,.nsl]] (gp p) js) [])=some (.agg (cI .u8 (gp p).tg),hx h (fj h.blks.length [[.nsl,.nsl]] (gp p) js) []):=fun L js=>ziq L (hx h (fj h.blks.length [[.nsl,.nsl]] (gp p) js) []) (h.blks.length+2) h.blks.length 1 (gp p).tg htl (BG [] (C5 h.blks.length [[.nsl,.nsl]] (gp p) js));have p4:cL false (d6 (gp p)) 4 1=some (.vsl false (eI .u8 (gp p).tg)):=rfl;have l1:=bn (gp p);have hu:=fun nb nt=>pY nb nt (gp p);have g5:=fun t D js=>zjZ h.blks.length [.nsl,.nsl] t D js;have g5G:∀ t D js hh,(fj h.blks.length [[.nsl,.nsl]] t (D :: js))[5]'hh=D:=fun t D js hh=>(List.getElem?_eq_some_iff.1 (g5 t D js)).2;have s5:=fun t D v js=>zfu h.blks.length [.nsl,.nsl] t D v js;have hl5:∀ t,(fj h.blks.length [[.nsl,.nsl]] t []).length=5:=fun t=>by rw [dz];rfl
   have hl6:∀ t D,(fj h.blks.length [[.nsl,.nsl]] t [D]).length=6:=fun t D=>by rw [dz];rfl
   have hap:∀ t D,fj h.blks.length [[.nsl,.nsl]] t []++[D]=fj h.blks.length [[.nsl,.nsl]] t [D]:=fun t D=>uZ h.blks.length [[.nsl,.nsl]] t [] [D];have hap6:∀ t D E,fj h.blks.length [[.nsl,.nsl]] t [D]++[E]=fj h.blks.length [[.nsl,.nsl]] t [D,E]:=fun t D E=>uZ h.blks.length [[.nsl,.nsl]] t [D] [E];have g6 : ∀ t D E, (fj h.blks.length [[.nsl, .nsl]] t [D, E])[6]? = some E := fun t D E => by
    have:=Kc h.blks.length [[.nsl,.nsl]] t [D] [E] 0;simpa using this
   have g6G:∀ t D E hh,(fj h.blks.length [[.nsl,.nsl]] t [D,E])[6]'hh=E:=fun t D E hh=>(List.getElem?_eq_some_iff.1 (g6 t D E)).2;have s6 : ∀ t D E v, (fj h.blks.length [[.nsl, .nsl]] t [D, E]).set 6 v = fj h.blks.length [[.nsl, .nsl]] t [D, v] := fun t D E v => by
    have:=vx h.blks.length [[.nsl,.nsl]] t [D] [E] 0 v;simpa using this
   have g0:∀ t js,(fj h.blks.length [[J.nsl,.nsl]] t js)[0]?=some [J.nsl,.nsl]:=fun t js=>by simp [fj]
   have g0G:∀ t js hh,(fj h.blks.length [[J.nsl,.nsl]] t js)[0]'hh=[J.nsl,.nsl]:=fun t js hh=>(List.getElem?_eq_some_iff.1 (g0 t js)).2;simp only [List.length_cons,List.length_nil,Nat.zero_add] at hN;have hsl:=vn 32 1 h.blks.length 6 0 (by decide);have hb6:=fun D=>Yq h (fj h.blks.length [[.nsl,.nsl]] (gp p) [D,cI .u8 (gp p).tg]) [] 6 32 (some 32) (gp p).tg (g6 (gp p) D (cI .u8 (gp p).tg)) htl;have hbq:(Ok (gp p).tg==Ok (gp p).tg)=true:=(Go.MapKept.bytes_beq _ _).2 rfl;generalize gp p=t0 at*;generalize hlc:l.map d5.cells=lc at*;generalize hD1:d6 t0=D1 at*;simp -implicitDefEqProofs [gP,V,b2,hN,hD,bne,heq,al,setAt,J.cells,J.okV,am,au,ae,aa,hTg,p4,l1,hu,g5,g5G,s5,hl5,hl6,hap,hap6,g0,g0G,g6,g6G,s6,htl,fJ,hsl,hb6,hbq];generalize hF:run ah _ (.loop _) _ _=R;obtain ⟨fr',bs,ts,rfl⟩:=hlo _ _ _ hF (by simp) (by simp) (by simp [hlc]) (by simp [hlen]) (by simp);simp
  ·simp only [if_neg he] at hN hD;have be:((bJ p).2.2==0)=false:=beq_false_of_ne he;generalize l.map d5.cells=lc at*;simp -implicitDefEqProofs [gP,V,b2,hN,hD,bne,be,hnn,hz,al,setAt,J.cells,J.okV,am,au,ae,aa]
   done
 ·have b1:(bk==1)=false:=beq_false_of_ne h1;simp only [if_neg h1] at hD;generalize l.map d5.cells=lc at*;simp -implicitDefEqProofs [gP,V,b1,b2,hN9,hD,bne,hnn,hz,al,setAt,J.cells,J.okV,am,au,ae,aa]
  done
theorem zb2 (L:az)(h:O)(bk:Int)(p:List Int)(hp:cw p)(l:List d5)(hl:l.length < 9223372036854775808)(hb:∀ x∈l,cw x.b):
  Z ah L dR [Ii bk,.vsl false (eI .u8 p),.vsl false (l.map d5.cells)] h=some (.bool true,h):=by
 obtain ⟨q,hq1,hq2⟩:∃ q:Bool,(q=true↔(∀ x∈l,x.few)/\(l.length:Int)<=20)/\∀ L h,Z ah L jV [.vsl false (l.map d5.cells),Ii 20] h=some (.bool q,h):=by
  by_cases hc:(∀ x∈l,x.few)/\(l.length:Int)<=20
  ·refine ⟨true,⟨fun _=>hc,fun _=>rfl⟩,fun L h=>?_⟩;obtain ⟨q,h1,h2⟩:=ze7 L h l hl 20;rw [h2,h1.2 hc]
  ·refine ⟨false,⟨fun hh=>by simp at hh,fun hh=>absurd hh hc⟩,fun L h=>?_⟩;obtain ⟨q,h1,h2⟩:=ze7 L h l hl 20
   cases q with
   | false=>exact h2
   | true=>exact absurd (h1.1 rfl) hc
 rw [qp];have hSp:=UQ;by_cases h2:bk=2
 ·have b2:(bk==2)=true:=by simp [h2]
  generalize l.map d5.cells=lc at*;simp -implicitDefEqProofs [bx,V,hSp,b2]
 ·have b2:(bk==2)=false:=beq_false_of_ne h2;by_cases hpl:p.length<=1000
  ·have hpI:¬(1000:Int) < (p.length:Int):=by omega
   cases q with
   | false=>
    generalize l.map d5.cells=lc at*;simp -implicitDefEqProofs [bx,V,hSp,b2,hpI,hq2]
   | true=>
    obtain ⟨hf,hl20⟩:=hq1.1 rfl;have hP:=fun L h=>zfD L h bk h2 p hp hpl l (by omega) hb hf;generalize l.map d5.cells=lc at*;simp -implicitDefEqProofs [bx,V,hSp,b2,hpI,hq2,hP]
  ·have hpI:(1000:Int) < (p.length:Int):=by omega
   generalize l.map d5.cells=lc at*;simp -implicitDefEqProofs [bx,V,hSp,b2,hpI]
end Go.Av
