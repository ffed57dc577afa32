/- A script played: what its calls answer; the law's own functions, walked. -/
import Derived.Test.YtbookmjmhfoolaaGreatDoorC8
import Derived.Lib.ItoaLen
set_option linter.unusedSimpArgs false
set_option linter.unusedVariables false
set_option maxHeartbeats 2000000
set_option maxRecDepth 20000
namespace Go.Av
theorem Y5 {L:az}{H:O}{sz:Nat}{ref:Bool}{x y:J}{ys:List (List J)}(hy:aH H sz y=some ys)(hs:fc sz y=true):jm L H sz ref x y=jm L H sz ref x (.vsl false ys):=by
 unfold jm;rw [hy,show aH H sz (.vsl false ys)=some ys by simp only [aH],hs,show fc sz (.vsl false ys)=true by simp only [fc]]
theorem zkN (kd:IntKind)(c:Bool)(xs:List Nat)(i:Nat)(h:i < xs.length):bA none 4 (.vsl c ((xs.map fe).map cW)) (.int kd (i:Int))=some (.vptr (cW (fe (gd xs 0 i))) 0):=by
 simp [bA,JP,gd,List.getD,h]
def lW (xs:List Nat):List Int:=xs.flatMap Tj
theorem Rz (xs:List Nat)(k:Nat)(h:k < xs.length):lW (xs.take (k+1))=lW (xs.take k)++Tj (gd xs 0 k):=by
 have:xs.take (k+1)=xs.take k++[gd xs 0 k]:=by rw [List.take_add_one];simp [gd,List.getD,h]
 rw [this];simp [lW]
theorem Ox (xs:List Nat):(lW xs).length=32*xs.length:=by
 induction xs with
 | nil=>rfl
 | cons x xs ih=>simp [lW] at ih |-;omega
structure aF where
 d:Int
 ty:Int
 n:Int
 b:List Int
def aF.cells (x:aF):List J:=[Ii x.d,Ii x.ty,Ii x.n,.vsl false (eI .u8 x.b)]
def fM:aF:=⟨0,0,0,[]⟩
def aF.few (x:aF):Prop:=x.b.length<=400/\(x.n<=1048576->x.n<=100)
theorem FH (kd:IntKind)(c:Bool)(l:List aF)(i:Nat)(h:i < l.length):bA none 4 (.vsl c (l.map aF.cells)) (.int kd (i:Int))=some (.vptr (gd l fM i).cells 0):=by
 simp [bA,JP,gd,List.getD,h,aF.cells]
noncomputable def stepT (t:Tc)(x:aF):(Int × List Int) × Tc:=
 if x.d < 0\/x.d > 3 then (((me t.g).e,[]),{t with g:=me t.g}) else Mr t x.d x.ty x.n x.b
theorem za1 (t:Tc)(x:aF):(stepT t x).2.g.e=(stepT t x).1.1:=by
 unfold stepT;split
 ·rfl
 ·exact zrz _ _ _ _ _
theorem zhI {t:Tc}(h:t.ok){x:aF}(hb:ce x.b)(hx:x.few):(stepT t x).2.ok/\(stepT t x).2.s.c<=t.s.c+300000:=by
 unfold stepT;split
 ·exact ⟨zjD h,by simp only;omega⟩
 ·exact zoj h _ _ _ hb hx.1 hx.2
theorem Z5 (L:az)(h:O)(p:J)(n i:Nat)(es:List (List J)):J4 L h 1 p (gL .nsl n i es)=UG (dR L h p [gL .nsl n i es]):=by
 unfold gL;split <;> simp [J4,J.cells,J.okV,gA]
theorem zfA {L:az}{fr:Fr}{h:O}{R:Option (cL × Fr × O)}(B:List (List J))(ts:List Nat)(e0:Int)(bi:Nat)(hbi:bi < B.length)(xs:List Nat)(hxs:xs.length < 100000)(hL:L.rob<=h.blks.length)(hnb:L.nb<=h.blks.length+bi)(hT:L.rot<=h.toks.length)
  (hF:run ah L (.loop jW) fr (hx h B ts)=R) (hB:B[bi]?=some [Ii e0,.nsl])
  (h47:fr 47=.vsl false ((xs.map fe).map cW)) (h48:fr 48=Ii (xs.length:Int)) (h9:fr 9=pA h.blks.length bi 0) (h49:fr 49=Ii 0):
  ∃ fr' jk us,R=some (.exit 1,fr',hx h (B.set bi [Ii e0,gL .nsl h.toks.length ts.length (eI .u8 (lW xs))]++jk) (ts++us))/\∀ t,t∉wr jW->fr' t=fr t:=by
 obtain ⟨e,fr',h',rfl,⟨rfl,jk,us,rfl⟩,hk⟩:=af hF xs.length
  (fun k fr hh=>fr 49=Ii (k:Int)/\∃ jk,hh=hx h (B.set bi [Ii e0,gL .nsl h.toks.length ts.length (eI .u8 (lW (xs.take k)))]++jk) (ts++gT (eI .u8 (lW (xs.take k)))))
  (fun e fr hh=>e=.exit 1/\∃ jk us,hh=hx h (B.set bi [Ii e0,gL .nsl h.toks.length ts.length (eI .u8 (lW xs))]++jk) (ts++us))
  ⟨h49,[],by
   have:B.set bi [Ii e0,.nsl]=B:=by
    obtain ⟨h1,h2⟩:=List.getElem?_eq_some_iff.1 hB;rw [<- h2,List.set_getElem_self]
   simp [lW,gL,gT,this]⟩ (by
   rintro k fr1 hh hkN hkeep ⟨g49,jk,rfl⟩;have g9:=kp hkeep h9;have g47:=kp hkeep h47;have g48:=kp hkeep h48;by_cases hlt:k < xs.length
   ·have hltI:(k:Int) < (xs.length:Int):=by omega
    have w0:Wr ((k:Int)+1)=k+1:=wz;have ia:=zkN .i64 false xs k hlt;have hsu:=Rz xs k hlt;have hfl:=Ox (xs.take k);rw [List.length_take,Nat.min_eq_left (Nat.le_of_lt hlt)] at hfl;have hBy:=fun L h=>zhk L h (gd xs 0 k);have hbl:=Tk (gd xs 0 k);have hcl:(cW (fe (gd xs 0 k))).length=4:=rfl;have hfl4:(fe (gd xs 0 k)).length=4:=rfl;generalize lW (xs.take k)=acc,(xs.map fe).map cW=lw,fe (gd xs 0 k)=f4,Tj (gd xs 0 k)=b at*;have hroom:acc.length+b.length < am:=by unfold am;omega
    obtain ⟨B1,hB1⟩:∃ B1,B1=B.set bi [Ii e0,gL .nsl h.toks.length ts.length (eI .u8 acc)]:=⟨_,rfl⟩;have hB1l:B1.length=B.length:=by rw [hB1];simp
    have hB1g:B1[bi]?=some [Ii e0,gL .nsl h.toks.length ts.length (eI .u8 acc)]:=by rw [hB1];simp [hbi]
    have hB1s:∀ v,B1.set bi v=B.set bi v:=fun v=>by rw [hB1,List.set_set]
    rw [<- hB1];have hap : ∀ (B : List (List J)) i, B[i]? = some (cI .u8 b) -> jm L (hx h B (ts ++ gT (eI .u8 acc))) 1 false (gL .nsl h.toks.length ts.length (eI .u8 acc)) (sA h.blks.length i 0 1 32 (some 32)) = some (gL .nsl h.toks.length ts.length (eI .u8 (acc ++ b)), hx h B (ts ++ gT (eI .u8 (acc ++ b)))) := fun B i hB => by
     rw [Y5 (ys:=eI .u8 b) (by rw [DX h B _ i 32 (cI .u8 b) (some 32) hB (by simpa using hbl),zI]) (by simp [fc,sA])];have:=RV L h B ts 1 false (eI .u8 acc) (eI .u8 b) (by simp [hT,hroom]);simpa using this
    have gA:=fun x=>EZ B1 jk [x] B1.length 0 rfl;have sA1:=fun x v=>E1 B1 jk [x] B1.length 0 v rfl;have gB:=fun x y=>EZ B1 jk [x,y] B1.length 1 rfl;have sB1:=fun x y v=>E1 B1 jk [x,y] B1.length 1 v rfl;simp only [Nat.add_zero,List.getElem?_cons_zero,List.set_cons_zero,List.getElem?_cons_succ,List.set_cons_succ] at gA sA1 gB sB1;have hsl:=fun i=>zN 32 1 h.blks.length i 0 (by decide);have hap1:=fun x=>hap (B1++(jk++[x,cI .u8 b])) (B1.length+(jk.length+1)) (gB _ _);have hz4:(cW (tab 4 fun _=>0#64)).length=4:=rfl;have gI:∀ w:List (List J),(B1++w)[bi]?=some [Ii e0,gL .nsl h.toks.length ts.length (eI .u8 acc)]:=fun w=>by rw [List.getElem?_append_left (by omega),hB1g]
    have sI:∀ (w:List (List J)) v,(B1++w).set bi v=B.set bi v++w:=fun w v=>by rw [List.set_append_left _ _ (by omega),hB1s]
    clear hB1 hB1g hB1s;have hst:=fun w us off cs=>HU L h (B1++w) us bi off cs (by simp only [Bool.and_eq_true,decide_eq_true_eq];exact ⟨hL,hnb⟩);simp -implicitDefEqProofs [jW,g9,g47,g48,g49,hltI,aC,aB,ia,hBy,gQ,bH,hL,hT,ap,aq,ab,Z,hcl,hfl4,hbl,hz4,hsl,gA,sA1,gB,sB1,hap1,gI,sI,w0,Z5,setAt,hst];exact ⟨hlt,_,by rw [hsu]⟩
   ·have:k=xs.length:=by omega
    subst this;rw [List.take_length];simp [jW,g48,g49];exact ⟨jk,_,rfl⟩)
 exact ⟨fr',jk,us,rfl,hk⟩
def lu (a:Int × List Int):List J:=[Ii a.1,.vsl false (eI .u8 a.2)]
theorem Bh (h:O)(nb nt n:Nat)(e:Int)(b:List Int)(v:J)(hv:frz h nb nt n v=some (.vsl false (eI .u8 b)))(hn:n≠0)(hf:aZ [Ii e,v]=false):frz h nb nt (n+1) (.agg [Ii e,v])=some (.agg [Ii e,.vsl false (eI .u8 b)]):=by
 obtain ⟨m,rfl⟩:∃ m,n=m+1:=⟨n - 1,by omega⟩;rw [xj _ _ _ _ _ hf];have:frz h nb nt (m+1) (Ii e)=some (Ii e):=by simp only [frz]
 simp [LL,this,hv]
def aF.cellsC (c:Bool)(x:aF):List J:=[Ii x.d,Ii x.ty,Ii x.n,.vsl c (eI .u8 x.b)]
theorem znk (cl:Bool)(L:az)(h:O)(js:List (List J))(ts:List Nat)(t:Tc)(ht:t.ok)(hc:t.s.c < 10000000)(x:aF)(hb:ce x.b)(hfew:x.few)(hL:L.rob<=h.blks.length)(hT:L.rot<=h.toks.length):
  aa ah L ow [.agg (x.cellsC cl),pA h.blks.length 1 0] (hx h (oe h.blks.length [] t js) ts)=some (.agg (lu (stepT t x).1),hx h (oe h.blks.length [] (stepT t x).2 js) ts):=by
 rw [Gq];have hk:t.g.k < 1000000000:=by have:=ht.k;have:=ht.l;omega
 obtain ⟨d,ty,N,b⟩:=x;simp only [aF.few] at hfew;obtain ⟨hbl,hN⟩:=hfew;simp only at hb;have hA:=fun L hL js=>YS L h [] js ts t ty cl b hb (by omega) hk ht.s hc ht.tg hL;have hS:=fun L hL hT js=>VU L h [] js ts t N hk ht.s hc ht.tg (fun h0=>by have:=hN (ht.count h0);omega) hL hT;have hC:=fun L hL hT js=>Qa L h [] js ts t N hk ht.s hc ht.tg (fun h0=>by have:=hN (ht.count h0);omega) hL hT;have hR:=fun L hL js=>VY L h [] js ts t hk ht.s hc ht.tg hL;have hFi:=fun L hL js=>XQ L h [] js ts t hL;have hle:=zaG t N 100 (fun h0=>by have:=hN (ht.count h0);omega);rw [Kf] at hC;have hgw:=fun t js y=>Nm h.blks.length [] t js [y] 0;have hsw:=fun t js y v=>Be h.blks.length [] t js [y] 0 v;have hgwG:=fun t js y hh=>Ke h.blks.length [] t js y hh;have happ:=fun t js w=>Bd h.blks.length [] t js w;have hln:=fun t js=>d5 h.blks.length [] t js;have htr:=fun t w us=>XL h.blks.length [] t js h ts us w;have htr0:=fun t=>Is h.blks.length [] t js h ts;have htr1:=fun t w=>Iu h.blks.length [] t js h ts w;simp only [List.length_nil,Nat.zero_add,Nat.add_zero,List.getElem?_cons_zero,List.set_cons_zero] at hA hS hC hR hFi hgw hsw hgwG hln htr htr0 htr1;have hfz:=fun hh nb nt m e (l:List Int)=>Bh hh nb nt (m+1) e l (.vsl false (eI .u8 l)) (ix hh nb nt m false (by simp)) (by omega) rfl;have hfz0:=fun hh nb nt m e=>Bh hh nb nt (m+1) e [] .nsl (by simp [eI]) (by omega) rfl;unfold lu;simp only [aF.cellsC];by_cases h0:d=0
 ·have hd:stepT t ⟨d,ty,N,b⟩=(((oh t ty b).2,[]),(oh t ty b).1):=by unfold stepT;rw [if_neg (by simp only;omega)];exact if_pos h0
  rw [hd];subst h0;simp -implicitDefEqProofs [fF,lx,aC,aB,hln,happ,hgw,hsw,hgwG,Z,ao,aq,ab,ap,ay,J.under,ak,J.cells,J.okV,setAt,hA,hL,hfz0,htr0,htr1]
 ·have b0:(d==0)=false:=by simp [h0]
  by_cases h1:d=1
  ·have hd:stepT t ⟨d,ty,N,b⟩=(((kV t N).1.2,(kV t N).1.1),(kV t N).2):=by unfold stepT;rw [if_neg (by simp only;omega)];unfold Mr;rw [if_neg h0,if_pos h1]
   rw [hd];subst h1;simp -implicitDefEqProofs [fF,lx,aC,aB,hln,happ,hgw,hsw,hgwG,Z,ao,aq,ab,ap,ay,J.under,ak,J.cells,J.okV,setAt,hS,hL,hT,hfz,htr0,htr1]
  ·have b1:(d==1)=false:=by simp [h1]
   by_cases h2:d=2
   ·have hd:stepT t ⟨d,ty,N,b⟩=(((ga t N).1.2,lW (T7 t N)),(ga t N).2):=by unfold stepT;rw [if_neg (by simp only;omega)];unfold Mr;rw [if_neg h0,if_neg h1,if_pos h2];rfl
    rw [hd];subst h2;have hlen:(((T7 t N).map fe).map cW).length=(T7 t N).length:=by simp
    have hfg:=fun hh m=>pe (h1:=hh) (nb:=h.blks.length+(4+js.length)) (nt:=h.toks.length+ts.length) (n:=m) (s:=.nsl) (es:=eI .u8 (lW (T7 t N))) (.inl rfl) (by simp);simp only [ziB] at hfg;generalize T7 t N=xs at*;generalize hlw:(xs.map fe).map cW=lw at*;have hgw0:=fun t js y z=>Nm h.blks.length [] t js [y,z] 0;have hgw1:=fun t js y z=>Nm h.blks.length [] t js [y,z] 1;have hgwG0:∀ t js y z hh,(oe h.blks.length [] t (js++[y,z]))[4+js.length]'hh=y:=fun t js y z hh=>(List.getElem?_eq_some_iff.1 (by simpa using hgw0 t js y z)).2;have hgwG1:∀ t js y z hh,(oe h.blks.length [] t (js++[y,z]))[4+(js.length+1)]'hh=z:=fun t js y z hh=>(List.getElem?_eq_some_iff.1 (by simpa [Nat.add_assoc] using hgw1 t js y z)).2;have hsw0:=fun t js y z v=>Be h.blks.length [] t js [y,z] 0 v;have hsw1:=fun t js y z v=>Be h.blks.length [] t js [y,z] 1 v;simp only [List.length_nil,Nat.zero_add,Nat.add_zero,Nat.add_assoc,List.getElem?_cons_zero,List.set_cons_zero,List.getElem?_cons_succ,List.set_cons_succ] at hgw0 hgw1 hsw0 hsw1;simp -implicitDefEqProofs [fF,lx,aC,aB,hln,happ,hgw,hsw,hgwG,hgw0,hgw1,hsw0,hsw1,hgwG0,hgwG1,Z,ao,aq,ab,ap,ay,J.under,ak,J.cells,J.okV,setAt,hC,hL,hT,hlen];generalize hF:run ah _ (.loop _) _ _=R;obtain ⟨fr',jk,us,rfl,hk'⟩:=zfA (oe h.blks.length [] (ga t N).2 (js++[[Ii 0,.nsl],[Ii (ga t N).1.2,.nsl]])) ts (ga t N).1.2 (4+(js.length+1)) (by rw [d5];simp) xs (by omega) (by first | exact hL | simpa using hL) (by simp) (by first | exact hT | simpa using hT) hF (by rw [hgw1]) (by simp [hlw]) (by simp) (by simp) (by simp);have k9:=hk' 9 (by decide);have k4:=hk' 4 (by decide);have k2:=hk' 2 (by decide);simp at k9 k4 k2
    have hfa:=fun hh m=>Bh hh (h.blks.length+(4+js.length)) (h.toks.length+ts.length) (m+1) (ga t N).1.2 (lW xs) (gL .nsl h.toks.length ts.length (eI .u8 (lW xs))) (hfg hh m) (by omega) (by unfold gL;split <;> rfl);have hw0:=fun t js y z jk=>Nm h.blks.length [] t js (y :: z :: jk) 0;have hw1:=fun t js y z jk=>Nm h.blks.length [] t js (y :: z :: jk) 1;have ws0:=fun t js y z jk v=>Be h.blks.length [] t js (y :: z :: jk) 0 v;simp only [List.length_nil,Nat.zero_add,Nat.add_zero,Nat.add_assoc,List.getElem?_cons_zero,List.set_cons_zero,List.getElem?_cons_succ,List.set_cons_succ] at hw0 hw1 ws0;have hwG0:∀ t js y z jk hh,(oe h.blks.length [] t (js++y :: z :: jk))[4+js.length]'hh=y:=fun t js y z jk hh=>(List.getElem?_eq_some_iff.1 (hw0 t js y z jk)).2;have hwG1:∀ t js y z jk hh,(oe h.blks.length [] t (js++y :: z :: jk))[4+(js.length+1)]'hh=z:=fun t js y z jk hh=>(List.getElem?_eq_some_iff.1 (hw1 t js y z jk)).2;have hst:=fun (L:az) (hL:L.rob<=h.blks.length) (hnb:L.nb<=h.blks.length+(4+js.length)) js2 us off cs=>HU L h (oe h.blks.length [] (ga t N).2 js2) us (4+js.length) off cs (by simp only [Bool.and_eq_true,decide_eq_true_eq];exact ⟨hL,hnb⟩);rw [hsw1];simp -implicitDefEqProofs [k9,k4,k2,aC,aB,hln,happ,hw0,hw1,hwG0,hwG1,ws0,hst,hfa,Z,aq,ab,hL,htr]
   ·have b2:(d==2)=false:=by simp [h2]
    by_cases h3:d=3
    ·have hd:stepT t ⟨d,ty,N,b⟩=(((rU t).2,[]),(rU t).1):=by unfold stepT;rw [if_neg (by simp only;omega)];unfold Mr;rw [if_neg h0,if_neg h1,if_neg h2]
     rw [hd];subst h3;simp -implicitDefEqProofs [fF,lx,aC,aB,hln,happ,hgw,hsw,hgwG,Z,ao,aq,ab,ap,ay,J.under,ak,J.cells,J.okV,setAt,hR,hL,hfz0,htr0,htr1]
    ·have b3:(d==3)=false:=by simp [h3]
     have hd:stepT t ⟨d,ty,N,b⟩=(((me t.g).e,[]),{t with g:=me t.g}):=by unfold stepT;rw [if_pos (by simp only;omega)]
     rw [hd];simp -implicitDefEqProofs [fF,lx,aC,aB,hln,happ,hgw,hsw,hgwG,Z,ao,aq,ab,ap,ay,J.under,ak,J.cells,J.okV,setAt,b0,b1,b2,b3,hFi,hL,hfz0,htr0,htr1]
noncomputable def runT (t:Tc)(l:List aF):List (Int × List Int) × Tc:=l.foldl (fun q x=>(q.1++[(stepT q.2 x).1],(stepT q.2 x).2)) ([],t)
theorem QN (t:Tc)(l:List aF)(x:aF):runT t (l++[x])=((runT t l).1++[(stepT (runT t l).2 x).1],(stepT (runT t l).2 x).2):=by
 unfold runT;rw [List.foldl_append];rfl
theorem vP (t:Tc)(l:List aF)(k:Nat)(h:k < l.length):runT t (l.take (k+1))=((runT t (l.take k)).1++[(stepT (runT t (l.take k)).2 (gd l fM k)).1],(stepT (runT t (l.take k)).2 (gd l fM k)).2):=by
 have:l.take (k+1)=l.take k++[gd l fM k]:=by rw [List.take_add_one];simp [gd,List.getD,h]
 rw [this,QN]
theorem Ns (t:Tc)(l:List aF):(runT t l).1.length=l.length:=by
  obtain ⟨n,hn⟩:∃ n,n=l.length:=⟨_,rfl⟩
  induction n generalizing l with
  | zero => have : l = [] := by cases l with | nil => rfl | cons => simp at hn
            subst this;rfl
  | succ n ih=>
    have hl:l=l.take n++[gd l fM n]:=by
      have:l.take (n+1)=l:=by rw [hn,List.take_length]
      rw [List.take_add_one] at this
      conv=>lhs;rw [<- this]
      simp [gd,List.getD,show n < l.length by omega]
    rw [hl,QN]
    have:=ih (l.take n) (by rw [List.length_take];omega)
    simp [this]
theorem Mm {t:Tc}(ht:t.ok)(l:List aF)(hb:∀ x∈l,ce x.b)(hf:∀ x∈l,x.few):∀ k,k<=l.length->(runT t (l.take k)).2.ok/\(runT t (l.take k)).2.s.c<=t.s.c+300000*k
 | 0,_=>by rw [List.take_zero];exact ⟨ht,by simp [runT]⟩
 | k + 1, h => by
  have ih:=Mm ht l hb hf k (by omega);have hm:=Hi (d:=fM) (show k < l.length by omega);have:=zhI ih.1 (hb _ hm) (hf _ hm);rw [vP t l k (by omega)];exact ⟨this.1,by simp only;omega⟩
theorem Nt (l:List (Int × List Int)):cS 2 (l.map lu)=true:=by cases l <;> simp [cS,lu]
theorem Kh (nb nt:Nat):∀ l:List (Int × List Int),aJ nb nt (l.map lu)=true
 | []=>by simp [aJ]
 | c :: cs => by
  have ih:=Kh nb nt cs;simp [aJ,ih,lu,ay,J.under,OY]
def RdC (h:O)(y:J)(l:List aF):Prop:=
 Cg y=some l.length/\∃ p:Nat->J,(∀ i,i < l.length->bA none 4 y (Ii (i:Int))=some (p i))/\∀ i,i < l.length->∃ c,∀ bs ts,qC (hx h bs ts) (p i) 4 true=some (.agg ((gd l fM i).cellsC c))
theorem RdC.vsl (h:O)(l:List aF):RdC h (.vsl false (l.map aF.cells)) l:=
 ⟨by simp,fun i=>.vptr (gd l fM i).cells 0,fun i hi=>FH .i64 false l i hi,fun i hi=>⟨false,fun bs ts=>by simp [Z,aF.cells,aF.cellsC]⟩⟩
theorem zco {fr:Fr}{h:O}{R:Option (cL × Fr × O)}(l:List aF)(hl:l.length<=20)(hb:∀ x∈l,ce x.b)(hf:∀ x∈l,x.few)(t0:Tc)(ht0:t0.ok)(hc0:t0.s.c=0)
  (hF:run ah (V h) (.loop qT) fr (hx h (oe h.blks.length [] t0 []) [])=R)
  (y:J) (hy:RdC h y l) (h5:fr 5=pA h.blks.length 1 0) (h8:fr 8=.nsl) (h25:fr 25=y) (h26:fr 26=Ii (l.length:Int)) (h27:fr 27=Ii 0):
  ∃ fr' bs ts,R=some (.exit 0,fr',hx h bs ts)/\fr' 8=gL .nsl h.toks.length 0 ((runT t0 l).1.map lu):=by
 obtain ⟨y1,yp,y2,y3⟩:=hy;obtain ⟨e,fr',h',rfl,⟨rfl,⟨bs,ts,rfl⟩,h8'⟩,hk⟩:=af hF l.length
  (fun k fr hh=>fr 27=Ii (k:Int)/\fr 8=gL .nsl h.toks.length 0 ((runT t0 (l.take k)).1.map lu)/\∃ js,hh=hx h (oe h.blks.length [] (runT t0 (l.take k)).2 js) (gT ((runT t0 (l.take k)).1.map lu)))
  (fun e fr hh=>e=.exit 0/\(∃ bs ts,hh=hx h bs ts)/\fr 8=gL .nsl h.toks.length 0 ((runT t0 l).1.map lu))
  ⟨h27, by simpa [runT, gL] using h8, [], by simp [runT, gT]⟩ (by
   rintro k fr1 hh hkN hkeep ⟨g27,g8,js,rfl⟩;have g5:=kp hkeep h5;have g25:=kp hkeep h25;have g26:=kp hkeep h26;by_cases hlt:k < l.length
   ·have hltI:(k:Int) < (l.length:Int):=by omega
    have w0:Wr ((k:Int)+1)=k+1:=wz;have ia:=y2 k hlt;obtain ⟨cl,ld⟩:=y3 k hlt;have hm:=Hi (d:=fM) hlt;have hxb:=hb _ hm;have hxf:=hf _ hm;have hsu:=vP t0 l k hlt;have hok:=Mm ht0 l hb hf k (by omega);have hal:(runT t0 (l.take k)).1.length=k:=by rw [Ns,List.length_take];omega
    generalize runT t0 (l.take k)=q at*;obtain ⟨acc,t⟩:=q;simp only at hok hal hsu g8;generalize gd l fM k=x at*;have hDo:=fun L hL hT js ts=>znk cl L h js ts t hok.1 (by omega) x hxb hxf hL hT;have hcl:(x.cellsC cl).length=4:=rfl;have hap := fun (L : az) (hT : L.rot <= h.toks.length) B => FL L h B 2 true (acc.map lu) [lu (stepT t x).1] (by
     simp only [Nt,List.length_map,hal,Bool.and_eq_true,decide_eq_true_eq];exact ⟨⟨⟨rfl,trivial⟩,hT⟩,by unfold am;simp only [List.length_cons,List.length_nil];omega⟩)
    have hmm:acc.map lu++[lu (stepT t x).1]=(acc++[(stepT t x).1]).map lu:=by simp
    rw [hmm] at hap;have hfi:∀ a,ak (rep [J.int .i64 0,.nsl] 1) [(0,2,.agg (lu a))]=some (lu a):=fun a=>rfl;have hch:∀ a,chunks 2 1 (lu a)=[lu a]:=fun a=>rfl;have hgw:=fun t js y=>Nm h.blks.length [] t js [y] 0;have hsw:=fun t js y v=>Be h.blks.length [] t js [y] 0 v;have hgwG:=fun t js y hh=>Ke h.blks.length [] t js y hh;have happ:=fun t js w=>Bd h.blks.length [] t js w;have hln:=fun t js=>d5 h.blks.length [] t js;simp only [List.length_nil,Nat.zero_add,Nat.add_zero,List.getElem?_cons_zero,List.set_cons_zero] at hgw hsw hgwG hln;generalize stepT t x=r at*;obtain ⟨a,t2⟩:=r;simp only at hDo hap hsu;simp -implicitDefEqProofs [qT,V,g5,g8,g25,g26,g27,hltI,ia,ld,aC,aB,hln,happ,hgw,hsw,hgwG,Z,ao,aq,ab,ap,ay,J.under,hcl,hDo,hfi,hch,hap,w0];rw [hsu,List.map_append];exact ⟨hlt,rfl,_,rfl⟩
   ·have:k=l.length:=by omega
    subst this;rw [List.take_length] at g8;simp [qT,g26,g27];exact ⟨⟨_,_,rfl⟩,g8⟩)
 exact ⟨fr',bs,ts,rfl,h8'⟩
theorem zfC (L:az)(h:O)(c:Bool)(bk:Int)(h1:(bk==1)=false)(h2:(bk==2)=false)(y:J):
  aa ah L lk [Ii bk,y] h=some (.tup [.nilp,Ii (-1),Ii 15],h):=by
 rw [vk];simp -implicitDefEqProofs [kW,V,bne,h1,h2,M5]
noncomputable def iJ (bk:Int)(p:List Int)(l:List aF):List (Int × List Int) × Int × Int:=
 if bk=1 then (if (bp p).2.2=0 then ((runT (xw p) l).1, -1,0) else ([],(bp p).2.1,(bp p).2.2)) else ([], -1,15)
theorem zfD (L:az)(h:O)(bk:Int)(hbk:bk≠2)(p:List Int)(hp:ce p)(hpl:p.length<=1000)(l:List aF)(hl:l.length<=20)(hb:∀ x∈l,ce x.b)(hf:∀ x∈l,x.few)(y:J)(hy:RdC h y l)(hyc:y.isCell=true)(hyo:y.okV=true):
  aa ah L mw [.agg [Ii bk,.vsl false (eI .u8 p),y]] h=some (.tup [.vsl false ((iJ bk p l).1.map lu),Ii (iJ bk p l).2.1,Ii (iJ bk p l).2.2],h):=by
 rw [KH];have hlen:=hy.1;have hbox:lx (.agg [Ii bk,.vsl false (eI .u8 p),y])=some (.vptr [Ii bk,.vsl false (eI .u8 p),y] 0):=by simp [lx,J.cells,J.okV]
 by_cases h1:bk=1
 ·subst h1;have hN:=fun L hL hnb=>zkS L h [] [] false p hp (by omega) hL hnb;by_cases he:(bp p).2.2=0
  ·have hd:iJ 1 p l=((runT (xw p) l).1, -1,0):=by unfold iJ;rw [if_pos rfl,if_pos he]
   rw [hd];simp only [if_pos he] at hN;have hlo:=fun fr R hF h5 h8 h25=>zco (fr:=fr) (h:=h) (R:=R) l hl hb hf (xw p) (Ss p hp) (zfq p) hF y hy h5 h8 h25;have hfa:=fun hh m=>pe (h1:=hh) (nb:=h.blks.length) (nt:=h.toks.length) (n:=m) (s:=.nsl) (.inl rfl) (Kh h.blks.length h.toks.length (runT (xw p) l).1);generalize xw p=t0 at*;simp only [List.length_nil,Nat.zero_add,Nat.add_zero] at hN;simp -implicitDefEqProofs [po,V,nw,hbox,Z,ao,hN,bne,hlen];generalize hF:run ah _ (.loop _) _ _=R;obtain ⟨fr',bs,ts,rfl,f8⟩:=hlo _ _ hF (by simp) (by simp) (by simp) (by simp) (by simp);simp -implicitDefEqProofs [f8,hfa]
  ·have hd:iJ 1 p l=([],(bp p).2.1,(bp p).2.2):=by unfold iJ;rw [if_pos rfl,if_neg he]
   rw [hd];simp only [if_neg he] at hN;have be:((bp p).2.2==0)=false:=by simp [he]
   simp -implicitDefEqProofs [po,V,nw,hbox,Z,ao,hN,bne,be]
 ·have hd:iJ bk p l=([], -1,15):=by unfold iJ;rw [if_neg h1]
  rw [hd];have hN:=fun L h y=>zfC L h true bk (by simp [h1]) (by simp [hbk]) y;simp -implicitDefEqProofs [po,V,nw,hbox,Z,ao,hN,bne]
theorem zjX (L:az)(h:O)(bk:Int)(hbk:bk≠2)(p:List Int)(hp:ce p)(hpl:p.length<=1000)(l:List aF)(hl:l.length<=20)(hb:∀ x∈l,ce x.b)(hf:∀ x∈l,x.few):
  aa ah L mw [.agg [Ii bk,.vsl false (eI .u8 p),.vsl false (l.map aF.cells)]] h=some (.tup [.vsl false ((iJ bk p l).1.map lu),Ii (iJ bk p l).2.1,Ii (iJ bk p l).2.2],h):=
 zfD L h bk hbk p hp hpl l hl hb hf _ (RdC.vsl h l) rfl rfl
theorem zq4 (n:Nat)(h:n < 10):Lib.itoa (n:Int)=[UInt8.ofNat (48+n)]:=by
 unfold Lib.itoa;rw [if_neg (by omega),Int.toNat_natCast,Lib.decDigits,dif_pos h]
theorem zcp:iL [(0,[]),(10,[])]=[48,10,49,48,10]:=by
 have h10:Lib.itoa 10=[49,48]:=by
  unfold Lib.itoa;rw [if_neg (by omega),show ((10:Int).toNat)=10 from rfl,Lib.decDigits,dif_neg (by omega),show 10 / 10=1 from rfl,Lib.decDigits,dif_pos (by omega)];rfl
 have h0:Lib.itoa 0=[48]:=zq4 0 (by omega);simp [iL,L5,h10,h0]
theorem U2 (L:az)(h:O)(x:J)(es:List (List J))(m:List (Int × List Nat))(hx:aH h 2 x=some es)(hs:fc 2 x=true)(hz:cS 2 es=true)(hm:es.mapM (Y6 h)=some m)(hc:m.length<=1000/\∀ a∈m,a.2.length<=4000):
  aa ah L px [x] h=some (.str ⟨(iL m).toArray⟩,h):=by
 rw [J0 _ _ _ LX];simp only [Lp,hs,hx,hz,if_true,Option.bind_some,hm,if_pos hc]
theorem U3 (L:az)(h:O):aa ah L gj [] h=some (.bool true,h):=by
 rw [As];have ht:=fun L h=>U2 L h (.vsl true [[Ii 0,.nsl],[Ii 10,.nsl]]) _ [(0,[]),(10,[])] rfl rfl rfl rfl (by simp);simp [nF,ak,rep,J.cells,J.okV,chunks,ht,zcp,setAt];exact (Go.MapKept.bytes_beq _ _).2 rfl
def QQ (bk:Int)(p:List Int)(l:List aF):List J:=[Ii bk,.vsl false (eI .u8 p),.vsl false (l.map aF.cells)]
theorem zjZ (l:List aF):cS 4 (l.map aF.cells)=true:=by cases l <;> simp [cS,aF.cells]
theorem zfF {fr:Fr}{h:O}{bk:Int}{p:List Int}{z:List J}{R:Option (cL × Fr × O)}(hF:run ah (V h) (.loop mU) fr (hx h [z,[Ii bk,.vsl false (eI .u8 p),.nsl]] [])=R)(l:List aF)(hl:l.length<=1000000)
  (h3:fr 3=pA h.blks.length 1 0) (h12:fr 12=.vsl false (l.map aF.cells)) (h13:fr 13=Ii l.length) (h14:fr 14=Ii 0):
  ∃ fr' bs,R=some (.exit 0,fr',hx h (z :: [Ii bk,.vsl false (eI .u8 p),gL .nsl h.toks.length 0 (l.map aF.cells)] :: bs) (gT (l.map aF.cells)))/\fr' 2=fr 2/\fr' 3=fr 3:=by
 obtain ⟨e,fr',h',rfl,⟨bs,rfl,rfl⟩,hk⟩:=af hF l.length
  (fun k fr hh=>fr 14=Ii k/\∃ bs,hh=hx h (z :: [Ii bk,.vsl false (eI .u8 p),gL .nsl h.toks.length 0 ((l.take k).map aF.cells)] :: bs) (gT ((l.take k).map aF.cells)))
  (fun e fr hh=>∃ bs,hh=hx h (z :: [Ii bk,.vsl false (eI .u8 p),gL .nsl h.toks.length 0 (l.map aF.cells)] :: bs) (gT (l.map aF.cells))/\e=.exit 0)
  ⟨h14, [], by simp [gT, gL]⟩ (by
   rintro k fr1 hh hkN hkeep ⟨g14,bs,rfl⟩;have g3:=kp hkeep h3;have g12:=kp hkeep h12;have g13:=kp hkeep h13;by_cases hlt:k < l.length
   ·have hi:=FH .i64 false l k hlt;have w2:Wr ((k:Int)+1)=k+1:=wz;have e:(l.take k).map aF.cells++[(gd l fM k).cells]=(l.take (k+1)).map aF.cells:=by rw [List.take_add_one,Fh (d:=fM) hlt];simp
    generalize gd l fM k=c at*;simp only [aF.cells] at hi;simp [mU,g14,g13,g12,g3,hlt,hi,w2,Z,aq,V,ab,setAt,ak,rep,J.cells,J.okV,chunks,FL,Z5, -List.map_take,am,show k+1 < 274877906944 by omega,Nat.min_eq_left hkN,zjZ];rw [show (l.take k).map aF.cells++[[J.int .i64 c.d,Ii c.ty,Ii c.n,.vsl false (eI .u8 c.b)]]=(l.take (k+1)).map aF.cells from e];exact ⟨_,rfl⟩
   ·have:k=l.length:=by omega
    subst this;simp [mU,g14,g13];exact ⟨_,rfl⟩)
 exact ⟨fr',bs,rfl,hk 2 (by decide),hk 3 (by decide)⟩
theorem Ny (nb nt:Nat):∀ l:List aF,aJ nb nt (l.map aF.cells)=true
 | []=>by simp [aJ]
 | c :: l => by
  have ih:=Ny nb nt l;simp [aJ,ih,aF.cells,ay,J.under,OY]
theorem znr (L:az)(h:O)(bk:Int)(p:List Int)(l:List aF)(hl:l.length<=1000000):aa ah L ou [.agg (QQ bk p l)] h=some (.agg (QQ bk p l),h):=by
 rw [Gg];simp only [QQ];simp [sL,oL,mL,aZ,J.flat,ak,rep,J.cells,J.okV,Z,aq,V,ab,setAt];generalize hF:run ah _ (.loop _) _ _=R;obtain ⟨fr',bs,rfl,g2,g3⟩:=zfF hF l hl (by simp) (by simp) (by simp) (by simp);simp at g2 g3;have hf1:=fun hh n=>pe (h1:=hh) (nb:=h.blks.length) (nt:=h.toks.length) (n:=n) (s:=.nsl) (.inl rfl) (Ny h.blks.length h.toks.length l);simp [g2,g3,Z,aq,V,ab,xj,LL,aZ,J.flat,hf1]
def aF.short (x:aF):Prop:=x.b.length<=300/\(x.n<=1048576->x.n<=60)
theorem D7 {fr:Fr}{h:O}{R:Option (cL × Fr × O)}(hF:run ah (V h) (.loop dK) fr (hx h [] [])=R)(l:List aF)(hl:l.length < 9223372036854775808)
  (h6:fr 6=.vsl false (l.map aF.cells)) (h7:fr 7=Ii (l.length:Int)) (h8:fr 8=Ii 0):
  ∃ e fr' bs,R=some (e,fr',hx h bs [])/\(e=.exit 0/\(∀ x∈l,x.short)/\fr' 1=fr 1\/e=.ret/\fr' 2=.bool true/\¬∀ x∈l,x.short):=by
 obtain ⟨e,fr',h',rfl,⟨bs,rfl,hp⟩,hk⟩:=af hF l.length
  (fun k fr hh=>fr 8=Ii (k:Int)/\∃ bs,hh=hx h bs []/\∀ i,i < k->(gd l fM i).short)
  (fun e fr hh=>∃ bs,hh=hx h bs []/\(e=.exit 0/\(∀ x∈l,x.short)\/e=.ret/\fr 2=.bool true/\¬∀ x∈l,x.short))
  ⟨h8, [], rfl, fun i hi => by omega⟩ (by
   rintro k fr1 hh hkN hkeep ⟨g8,bs,rfl,hall⟩;have g6:=kp hkeep h6;have g7:=kp hkeep h7;by_cases hlt:k < l.length
   ·have hltI:(k:Int) < (l.length:Int):=by omega
    have w0:Wr ((k:Int)+1)=k+1:=wz;have ia:=FH .i64 false l k hlt;have hm:=Hi (d:=fM) hlt;have hstep : (gd l fM k).short -> ∀ i, i < k + 1 -> (gd l fM i).short := fun hf i hi => by
     by_cases e:i=k
     ·rw [e];exact hf
     ·exact hall i (by omega)
    have hno:¬(gd l fM k).short->¬∀ x∈l,x.short:=fun hn ha=>hn (ha _ hm);generalize gd l fM k=x at*;obtain ⟨d,ty,n,b⟩:=x;simp only [aF.cells] at ia;have hno2:=fun hn:¬aF.short ⟨d,ty,n,b⟩=>hno hn;simp only [aF.short] at hstep;generalize l.map aF.cells=lc at*;by_cases h1:300 < b.length
    ·have h1':(300:Int) < (b.length:Int):=by omega
     simp -implicitDefEqProofs [dK,V,g6,g7,g8,hltI,ia,Z,ao,aq,ab,h1'];refine ⟨⟨_,rfl⟩,?_⟩;have:=hno2 (fun hf=>by have h5:=hf.1;have h6:=hf.2;simp only at h5 h6;omega);simpa using this
    ·have h1':¬(300:Int) < (b.length:Int):=by omega
     by_cases h2:60 < n
     ·by_cases h3:n<=1048576
      ·simp -implicitDefEqProofs [dK,V,g6,g7,g8,hltI,ia,Z,ao,aq,ab,h1',h2,h3];refine ⟨⟨_,rfl⟩,?_⟩;have:=hno2 (fun hf=>by have h5:=hf.1;have h6:=hf.2;simp only at h5 h6;omega);simpa using this
      ·simp -implicitDefEqProofs [dK,V,g6,g7,g8,hltI,ia,Z,ao,aq,ab,h1',h2,h3,w0];exact ⟨hlt,⟨_,rfl⟩,hstep (by omega)⟩
     ·simp -implicitDefEqProofs [dK,V,g6,g7,g8,hltI,ia,Z,ao,aq,ab,h1',h2,w0];exact ⟨hlt,⟨_,rfl⟩,hstep (by omega)⟩
   ·have:k=l.length:=by omega
    subst this;simp [dK,g7,g8];refine ⟨⟨_,rfl⟩,fun x hx=>?_⟩;obtain ⟨i,hi,rfl⟩:=List.mem_iff_getElem.1 hx;have:=hall i hi
    rwa [show gd l fM i=l[i] by simp [gd,List.getD,hi]] at this)
 refine ⟨e,fr',bs,rfl,?_⟩;rcases hp with ⟨rfl,h1⟩ | h2
 ·exact .inl ⟨rfl,h1,hk 1 (by decide)⟩
 ·exact .inr h2
def zns (bk:Int)(p:List Int)(l:List aF):Prop:=(∀ x∈l,x.short)/\p.length<=1000/\l.length<=12/\bk≠2
theorem zcq (L:az)(h:O)(bk:Int)(p:List Int)(hpl:p.length < 9223372036854775808)(l:List aF)(hl:l.length < 9223372036854775808):∃ q:Bool,(q=false↔zns bk p l)/\∀ L h,aa ah L lO [.agg (QQ bk p l)] h=some (.bool q,h):=by
 have hlen:(l.map aF.cells).length=l.length:=by simp
 by_cases hs:∀ x∈l,x.short
 ·by_cases hq:p.length<=1000/\l.length<=12/\bk≠2
  ·refine ⟨false,⟨fun _=>⟨hs,hq⟩,fun _=>rfl⟩,fun L h=>?_⟩;have hlo:=fun fr R=>D7 (fr:=fr) (h:=h) (R:=R);have h1:¬(1000:Int) < (p.length:Int):=by omega
   have h2:¬(12:Int) < (l.length:Int):=by omega
   have h3:(bk==2)=false:=by simp [hq.2.2]
   rw [mJ];simp only [QQ];simp -implicitDefEqProofs [iY,V, -List.length_map,hlen,Z,ao,oL,mL,aZ,J.flat];generalize hF:run ah _ (.loop _) _ _=R;obtain ⟨e,fr',bs,rfl,⟨rfl,_,f1⟩ | ⟨rfl,f2,hn⟩⟩:=hlo _ _ hF l hl (by simp) (by simp [-List.length_map,hlen]) (by simp)
   ·simp at f1;simp -implicitDefEqProofs [f1, -List.length_map,hlen,ao,h1,h2,h3]
   ·exact absurd hs hn
  ·refine ⟨true,⟨fun hh=>by simp at hh,fun hh=>absurd hh.2 hq⟩,fun L h=>?_⟩;have hlo:=fun fr R=>D7 (fr:=fr) (h:=h) (R:=R);rw [mJ];simp only [QQ];simp -implicitDefEqProofs [iY,V, -List.length_map,hlen,Z,ao,oL,mL,aZ,J.flat];generalize hF:run ah _ (.loop _) _ _=R;obtain ⟨e,fr',bs,rfl,⟨rfl,_,f1⟩ | ⟨rfl,f2,hn⟩⟩:=hlo _ _ hF l hl (by simp) (by simp [-List.length_map,hlen]) (by simp)
   ·simp at f1;by_cases h1:(1000:Int) < (p.length:Int)
    ·simp -implicitDefEqProofs [f1, -List.length_map,hlen,ao,h1]
    ·by_cases h2:(12:Int) < (l.length:Int)
     ·simp -implicitDefEqProofs [f1, -List.length_map,hlen,ao,h1,h2]
     ·have h3:bk=2:=Classical.byContradiction fun h3=>hq ⟨by omega,by omega,h3⟩;subst h3;simp -implicitDefEqProofs [f1, -List.length_map,hlen,ao,h1,h2]
   ·simp -implicitDefEqProofs [f2]
 ·refine ⟨true,⟨fun hh=>by simp at hh,fun hh=>absurd hh.1 hs⟩,fun L h=>?_⟩;have hlo:=fun fr R=>D7 (fr:=fr) (h:=h) (R:=R);rw [mJ];simp only [QQ];simp -implicitDefEqProofs [iY,V, -List.length_map,hlen,Z,ao,oL,mL,aZ,J.flat];generalize hF:run ah _ (.loop _) _ _=R;obtain ⟨e,fr',bs,rfl,⟨rfl,h1,f1⟩ | ⟨rfl,f2,hn⟩⟩:=hlo _ _ hF l hl (by simp) (by simp [-List.length_map,hlen]) (by simp)
  ·exact absurd h1 hs
  ·simp -implicitDefEqProofs [f2]
theorem zfN {b:List Int}(h:(rS b).2.2=0):chk (rS b).1=0:=by
 unfold rS at h |-;split at h
 ·simp at h
 ·split at h
  ·next h1 h2=>rw [if_neg h1,if_pos h2];exact h2
  ·next h1 h2=>exact absurd h h2
theorem U8:∀ (f:Nat) (b:List Int) (k:Nat) (acc:List It),(∀ x∈acc,chk x=0)->∀ x∈(DN f b k acc).1,chk x=0
 | 0,b,k,acc,h=>h
 | f + 1, b, k, acc, h => by
  unfold DN;split
  ·exact h
  ·split
   ·intro x hx;simp at hx
   ·split
    ·next he=>
     refine U8 f _ _ _ ?_;intro x hx;rcases List.mem_append.1 hx with h1 | h1
     ·exact h x h1
     ·rw [List.mem_singleton.1 h1];exact zfN he
    ·intro x hx;simp at hx
def Tc.chk (t:Tc):Prop:=∀ x∈t.g.l,Av.chk x=0
theorem zfM (p:List Int):(xw p).chk:=U8 _ _ _ _ (by simp)
theorem zny (g:Gd):(me g).l=g.l:=(rf _ _).1
theorem znz (t:Tc)(ty:Int)(b:List Int):(oh t ty b).1.g.l=t.g.l:=by
 unfold oh;split
 ·split
  ·split
   ·split
    ·exact rg _ _ _ _
    ·exact (rf _ _).1.trans (rg _ _ _ _)
   ·exact rg _ _ _ _
  ·exact (rf _ _).1
 ·rfl
theorem znA (t:Tc)(N:Int):(kV t N).2.g.l=t.g.l:=by
 unfold kV;split <;> exact rg _ _ _ _
theorem znB (t:Tc)(N:Int):(ga t N).2.g.l=t.g.l:=by
 unfold ga;split
 ·split
  ·exact rg _ _ _ _
  ·exact (rf _ _).1.trans (rg _ _ _ _)
 ·exact rg _ _ _ _
theorem znC (t:Tc):(rU t).1.g.l=t.g.l:=by
 unfold rU;split <;> exact rg _ _ _ _
theorem zj5 (t:Tc)(x:aF):(stepT t x).2.g.l=t.g.l:=by
 unfold stepT;split
 ·exact zny _
 ·unfold Mr;split
  ·exact znz _ _ _
  ·split
   ·exact znA _ _
   ·split
    ·exact znB _ _
    ·exact znC _
theorem zcw {t:Tc}(h:t.chk)(x:aF):(stepT t x).2.chk:=by unfold Tc.chk;rw [zj5];exact h
theorem Tc.chk.count {t:Tc}(h:t.chk){k ty c:Int}(hn:(al t.g k ty c).e=0):1<=c/\c<=1048576:=by
 obtain ⟨h1,h2⟩:=Nh (Hh hn);rw [<- h2];obtain ⟨_,_,_,_,h3,h4,_⟩:=uw (h _ (Hi (d:=⟨0,0,0,⟨#[]⟩⟩) h1));exact ⟨h3,h4⟩
theorem zcz (n:Nat):∀ (s:Sp) (acc:List (List ac)) (t:Int),(d6 n s acc t).1.2.2=0->(d6 n s acc t).1.1.length=acc.length+n:=by
 induction n with
 | zero=>intro s acc t _;simp [d6]
 | succ n ih=>
  intro s acc t h;rw [d6] at h |-;split at h
  ·next h0=>
   rw [if_pos h0];have:=ih (bM s).2 (acc++[(bM s).1.1]) (IntKind.i64.wrap (t+(bM s).1.2.1)) h;simp only [List.length_append,List.length_singleton] at this;omega
  ·next h0=>exact absurd h h0
theorem Vc {t:Tc}{N:Int}(h:(ga t N).1.2=0):(al t.g 2 3 N).e=0/\(T7 t N).length=N.toNat:=by
 have h1:(T7 t N).length=(ga t N).1.1.length:=by rw [Kf];simp
 rw [h1];unfold ga at h |-;by_cases h0:(al t.g 2 3 N).e=0
 ·rw [if_pos h0] at h |-;refine ⟨h0,?_⟩;by_cases h2:(aU (aA t.s (im 2 3 N [])) N.toNat).1.2.2=0
  ·rw [if_pos h2];have:=zcz N.toNat (aA t.s (im 2 3 N [])) [] 0 h2;simp only [List.length_nil,Nat.zero_add] at this;exact this
  ·rw [if_neg h2] at h;simp only at h;unfold aK at h;rw [if_pos h0] at h;exact absurd h h2
 ·rw [if_neg h0] at h;exact absurd h h0
def zfV (x:aF)(e:Int):Int:=if e=0 then (if x.d=1 then x.n else if x.d=2 then 32*x.n else 0) else 0
theorem Vd {t:Tc}(hc:t.chk)(x:aF):((stepT t x).1.2.length:Int)=zfV x (stepT t x).1.1:=by
 unfold zfV stepT;by_cases hd:x.d < 0\/x.d > 3
 ·rw [if_pos hd];simp only [List.length_nil];rw [if_neg (show ¬x.d=1 by omega),if_neg (show ¬x.d=2 by omega)]
  split <;> rfl
 ·rw [if_neg hd];unfold Mr;by_cases h0:x.d=0
  ·rw [if_pos h0,if_neg (show ¬x.d=1 by omega),if_neg (show ¬x.d=2 by omega)];simp
  ·rw [if_neg h0];by_cases h1:x.d=1
   ·rw [if_pos h1,if_pos h1];simp only;unfold kV;by_cases hn:(al t.g 2 1 x.n).e=0
    ·rw [if_pos hn];simp only [wZ,if_pos];have:=hc.count hn;omega
    ·rw [if_neg hn];simp only [List.length_nil,if_neg hn];rfl
   ·rw [if_neg h1,if_neg h1];by_cases h2:x.d=2
    ·rw [if_pos h2,if_pos h2];simp only;by_cases he:(ga t x.n).1.2=0
     ·obtain ⟨hn,hl⟩:=Vc he;rw [if_pos he];have:=hc.count hn;have h3:(lW (T7 t x.n)).length=32*(T7 t x.n).length:=Ox _;show ((lW (T7 t x.n)).length:Int)=_;rw [h3,hl];omega
     ·rw [if_neg he,zkE he];rfl
    ·rw [if_neg h2,if_neg h2];simp
theorem zj8 {t:Tc}(hc:t.chk)(x:aF)(he:(stepT t x).1.1=0)(h2:x.d=2):1<=x.n/\x.n<=1048576:=by
 unfold stepT at he;rw [if_neg (by omega)] at he;unfold Mr at he;rw [if_neg (by omega),if_neg (by omega),if_pos h2] at he;exact hc.count (Vc he).1
theorem Vf {t:Tc}(h:t.chk)(l:List aF):∀ k,k<=l.length->(runT t (l.take k)).2.chk
 | 0,_=>h
 | k+1,hk=>by rw [vP t l k (by omega)];exact zcw (Vf h l k (by omega)) _
theorem zfZ (kd:IntKind)(c:Bool)(l:List (Int × List Int))(i:Nat)(h:i < l.length):bA none 2 (.vsl c (l.map lu)) (.int kd (i:Int))=some (.vptr (lu (gd l (0,[]) i)) 0):=by
 simp [bA,JP,gd,List.getD,h,lu]
def er (e:Int):Prop:=0<=e/\e<=15
theorem ID {g:Gd}{e:Int}(hg:er g.e)(he:er e):er (aK g e).e:=by
 unfold aK;split
 ·exact he
 ·exact hg
theorem xQ {g:Gd}(hg:er g.e)(k t c:Int):er (al g k t c).e:=by
 rw [Mo];refine ID hg ?_
 split <;> simp [er]
theorem zfJ (t:Int)(n:Nat):er (iT t n).2:=by
 unfold iT;split
 ·simp [er]
 ·split
  ·simp [er]
  ·split <;> simp [er]
theorem znM (t:Int)(b:List Int):er (uP t b):=by
 unfold uP;split
 ·exact zfJ _ _
 ·split
  ·split <;> simp [er]
  ·simp [er]
theorem znN (f:Nat):∀ (s:Sp) (k:Nat),er (o7 f s k).1.2.2:=by
 induction f with
 | zero=>intro s k;rw [Kb];simp [er]
 | succ f ih=>
  intro s k;rw [Kc];split
  ·simp [er]
  ·exact ih _ _
theorem zge (s:Sp):er (bM s).1.2.2:=by
 have h:=znN 64 s 0;rw [<- qx] at h;exact h
theorem zke (n:Nat):∀ (s:Sp) (acc:List (List ac)) (t:Int),er (d6 n s acc t).1.2.2:=by
 induction n with
 | zero=>intro s acc t;simp [d6,er]
 | succ n ih=>
  intro s acc t;rw [d6];split
  ·exact ih _ _ _
  ·exact zge s
theorem Yo (s:Sp)(n:Nat):er (aU s n).1.2.2:=by unfold aU;exact zke n s [] 0
theorem Vo {t:Tc}(h:er t.g.e)(x:aF):er (stepT t x).1.1:=by
 rw [<- za1];unfold stepT;split
 ·exact ID h (by split <;> simp [er])
 ·unfold Mr;split
  ·simp only;unfold oh;split
   ·split
    ·split
     ·split
      ·exact xQ h _ _ _
      ·exact ID (xQ h _ _ _) (znM _ _)
     ·exact xQ h _ _ _
    ·exact ID h (zfJ _ _)
   ·exact h
  ·split
   ·simp only;unfold kV;split <;> exact xQ h _ _ _
   ·split
    ·simp only;unfold ga;split
     ·split
      ·exact xQ h _ _ _
      ·exact ID (xQ h _ _ _) (Yo _ _)
     ·exact xQ h _ _ _
    ·simp only;unfold rU;split <;> exact xQ h _ _ _
theorem zgg (xs : List Nat) : ce (lW xs) := KB fun z hz => by
 obtain ⟨x,_,hx⟩:=List.mem_flatMap.1 hz;exact HQ (HP _) z hx
theorem zgi {t:Tc}(h:t.ok)(x:aF):ce (stepT t x).1.2:=by
 unfold stepT;split
 ·exact mT
 ·unfold Mr;split
  ·exact mT
  ·split
   ·exact zjz h _
   ·split
    ·exact zgg _
    ·exact mT
def Q2 (a:Int × List Int):Prop:=er a.1/\a.2.length<=4000/\ce a.2
theorem zcG {t:Tc}(h:t.ok)(hc:t.chk)(he:er t.g.e){x:aF}(hx:x.few):Q2 (stepT t x).1:=by
 refine ⟨Vo he x,?_,zgi h x⟩;have hd:=Vd hc x;unfold zfV at hd;by_cases h0:(stepT t x).1.1=0
 ·rw [if_pos h0] at hd;by_cases h1:x.d=1
  ·rw [if_pos h1] at hd;have:1<=x.n/\x.n<=1048576:=by
    unfold stepT at h0;rw [if_neg (by omega)] at h0;unfold Mr at h0;rw [if_neg (by omega),if_pos h1] at h0;simp only at h0;refine hc.count (k:=2) (ty:=1) ?_;unfold kV at h0;split at h0
    ·next hn=>exact hn
    ·next hn=>exact absurd h0 hn
   have:=hx.2 this.2;omega
  ·rw [if_neg h1] at hd;by_cases h2:x.d=2
   ·rw [if_pos h2] at hd;have:=hx.2 (zj8 hc x h0 h2).2;omega
   ·rw [if_neg h2] at hd;omega
 ·rw [if_neg h0] at hd;omega
theorem zar {t:Tc}(h:er t.g.e)(l:List aF):∀ k,k<=l.length->er (runT t (l.take k)).2.g.e
 | 0,_=>h
 | k + 1, hk => by
  rw [vP t l k (by omega)];simp only;rw [za1];exact Vo (zar h l k (by omega)) _
theorem Vq {t:Tc}(h:t.ok)(hc:t.chk)(he:er t.g.e)(l:List aF)(hb:∀ x∈l,ce x.b)(hf:∀ x∈l,x.few):∀ k,k<=l.length->∀ a∈(runT t (l.take k)).1,Q2 a
 | 0,_=>by simp [runT]
 | k + 1, hk => by
  rw [vP t l k (by omega)];intro a ha;rcases List.mem_append.1 ha with h1 | h1
  ·exact Vq h hc he l hb hf k (by omega) a h1
  ·rw [List.mem_singleton.1 h1];exact zcG (Mm h l hb hf k (by omega)).1 (Vf hc l k (by omega)) (zar he l k (by omega)) (hf _ (Hi (show k < l.length by omega)))
theorem zcI (bk:Int)(p:List Int)(hp:ce p)(l:List aF)(hb:∀ x∈l,ce x.b)(hf:∀ x∈l,x.few):∀ a∈(iJ bk p l).1,Q2 a:=by
 unfold iJ;split
 ·split
  ·have:=Vq (Ss p hp) (zfM p) (by simp [xw,Sh,er]) l hb hf l.length (Nat.le_refl _)
   rwa [List.take_length] at this
  ·simp
 ·simp
theorem zcJ (bk:Int)(p:List Int)(l:List aF):(iJ bk p l).1.length<=l.length:=by
 unfold iJ;split
 ·split
  ·simp only [Ns];omega
  ·simp
 ·simp
def An3 (a:Int × List Int):Int × List Nat:=(a.1,a.2.map Int.toNat)
theorem zgm (l:List Int)(h:∀ x∈l,0<=x/\x < 256):(eI .u8 l).mapM zdE=some (l.map Int.toNat):=by
 induction l with
 | nil=>rfl
 | cons x l ih=>
  have:=ih (fun y hy=>h y (by simp [hy]));have hx:=h x (by simp);simp only [eI,List.map_cons,List.mapM_cons] at*;rw [this];simp [zdE,hx]
theorem zgp (h:O){a:Int × List Int}(hok:Q2 a):Y6 h (lu a)=some (An3 a):=by
 have hz:cS 1 (eI .u8 a.2)=true:=by simp
 have h1:=hok.1.1;have h2:=hok.1.2;simp [Y6,lu,show -9223372036854775808<=a.1 by omega,show a.1<=9223372036854775807 by omega,fc,aH,zgm a.2 (HQ hok.2.2),An3,hz]
theorem zcK (h:O)(l:List (Int × List Int))(hok:∀ a∈l,Q2 a):(l.map lu).mapM (Y6 h)=some (l.map An3):=by
 induction l with
 | nil=>rfl
 | cons a l ih=>
  simp only [List.map_cons,List.mapM_cons,zgp h (hok a (by simp)),ih (fun b hb=>hok b (by simp [hb]))];rfl
theorem zcL (L:az)(h:O)(c:Bool)(l:List (Int × List Int))(hok:∀ a∈l,Q2 a)(hl:l.length<=1000):aa ah L px [.vsl c (l.map lu)] h=some (.str ⟨(iL (l.map An3)).toArray⟩,h):=
 U2 L h _ (l.map lu) (l.map An3) (by simp only [aH]) (by simp only [fc]) (Nt l) (zcK h l hok) ⟨by simpa using hl, fun a ha => by
  obtain ⟨b,hb,rfl⟩:=List.mem_map.1 ha;simpa [An3] using (hok b hb).2.1⟩
end Go.Av
