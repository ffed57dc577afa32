/- A call is done; the example speaks; few calls. -/
import Derived.Test.YtafkceblllhheaaGreatDoorC8
set_option linter.unusedSimpArgs false
set_option linter.unusedVariables false
set_option maxHeartbeats 2000000
set_option maxRecDepth 20000
namespace Go.Av
theorem ziw (kd:IntKind)(c:Bool)(xs:List Nat)(i:Nat)(h:i < xs.length):bO none 4 (.vsl c ((xs.map fe).map cW)) (.int kd (i:Int))=some (.vptr (cW (fe (gd xs 0 i))) 0):=by
 simp [bO,Ke,gd,List.getD,h]
theorem zbN {l m:List Int}(hl:cw l)(hm:cw m)(h:Ok l=Ok m):l=m:=by
 unfold Ok at h;have h1 : l.map (fun n => UInt8.ofNat n.toNat) = m.map fun n => UInt8.ofNat n.toNat := by
  have:=congrArg (fun s:ByteArray=>s.data.toList) h;simpa using this
 have hlen:l.length=m.length:=by simpa using congrArg List.length h1
 rw [<- RT l 0,<- RT m 0,<- hlen];refine a8 fun i hi=>?_;have h2:(l.map (fun n=>UInt8.ofNat n.toNat))[i]?=(m.map fun n=>UInt8.ofNat n.toNat)[i]?:=by rw [h1]
 rw [List.getElem?_map,List.getElem?_map,A5 (d:=0) hi,A5 (d:=0) (by omega)] at h2;simp only [Option.map_some,Option.some.injEq] at h2;have r1:=hl i hi;have r2:=hm i (by omega);have h3:=congrArg UInt8.toNat h2;simp only [UInt8.toNat_ofNat'] at h3;omega
structure d5 where
 d:Int
 ty:Int
 n:Int
 b:List Int
def d5.cells (x:d5):List J:=[Ii x.d,Ii x.ty,Ii x.n,.vsl false (eI .u8 x.b)]
def sx:d5:=⟨0,0,0,[]⟩
def d5.few (x:d5):Prop:=x.b.length<=400/\(x.n<=1048576->x.n<=100)
theorem Qk (kd:IntKind)(c:Bool)(l:List d5)(i:Nat)(h:i < l.length):bO none 4 (.vsl c (l.map d5.cells)) (.int kd (i:Int))=some (.vptr (gd l sx i).cells 0):=by
 simp [bO,Ke,gd,List.getD,h,d5.cells]
theorem zoW (n:Nat)(bs:List (List J))(t:Tc)(js:List (List J)):(fj n bs t js)[bs.length+3]?=some (J5 n (bs.length+2) t.s):=iQ bs _ bs.length 3 rfl
noncomputable def stepT (t:Tc)(x:d5):(Int × List Int) × Tc:=
 if x.d < 0\/x.d > 3 then (((mg t.g).e,[]),{t with g:=mg t.g}) else doT t x.d x.ty x.n x.b
theorem zeX {t:Tc}(h:t.ok){x:d5}(hb:cw x.b)(hx:x.few):(stepT t x).2.ok/\(stepT t x).2.s.c<=t.s.c+300000:=by
 unfold stepT;split
 ·exact ⟨zig h,by simp only;omega⟩
 ·exact zlB h _ _ _ hb hx.1 hx.2
def W2 (n:Nat)(a b:Tc):List (List J):=Ow n 0 a++Ow n 4 b
theorem zo0 (n:Nat)(a:Tc):fj n [] a []=Ow n 0 a:=by simp [fj]
theorem zlL (n:Nat)(a b:Tc):fj n [] a (Ow n 4 b)=W2 n a b:=by simp [fj,W2]
theorem zlK (n:Nat)(a b:Tc):fj n (Ow n 0 a) b []=W2 n a b:=by simp [fj,W2,Ow]
theorem ziA (n B:Nat)(a:Tc):(Ow n B a).length=4:=rfl
theorem UQ (L:az)(h:O):Z ah L fZ [] h=some (.bool true,h):=by
 rw [y6];have hb1:cw [1]:=fun i hi=>by simp at hi;subst hi;decide
 have hb2:cw [2]:=fun i hi=>by simp at hi;subst hi;decide
 have hp0:cw p0:=JF (by decide);have heq:∀ i,GF .ptr (pA h.blks.length i 0) .nilp=some false:=fun i=>rfl;have k0:=RR p0 hp0;have a1:=R4 k0 1 hb1;have a2:=R4 k0 1 hb2;have c0:=zeH p0;have e1:=zoJ;have e2:=zoN;have s1:=zoO;have s2:=zoP;have l1:=zoI;have l2:=zoQ;have ne:=zoR;have hN1:=fun L hL hnb=>RO L h [] [] true p0 hp0 (by decide) hL hnb;have hN2:=fun L hL hnb=>RO L h (Ow h.blks.length 0 (gp p0)) [] true p0 hp0 (by decide) hL hnb;simp only [if_pos zqM] at hN1 hN2;have hA1:=fun L hL=>GS L h [] (Ow h.blks.length 4 (gp p0)) [] (gp p0) 1 true [1] hb1 (by decide) (by decide) k0.s (by omega) k0.tg hL;have hA2:=fun L hL=>GS L h (Ow h.blks.length 0 (iR (gp p0) 1 [1]).1) [] [] (gp p0) 1 true [2] hb2 (by decide) (by decide) k0.s (by omega) k0.tg hL;have hS1:=fun L hL hT=>Dz L h [] (Ow h.blks.length 4 (iR (gp p0) 1 [2]).1) [] (iR (gp p0) 1 [1]).1 32 (by have:=a1.1.k;have:=a1.1.l;omega) a1.1.s (by have:=a1.2;simp at this;omega) a1.1.tg (fun _=>by decide) hL hT;have hS2:=fun L hL hT=>Dz L h (Ow h.blks.length 0 (j8 (iR (gp p0) 1 [1]).1 32).2) [] [] (iR (gp p0) 1 [2]).1 32 (by have:=a2.1.k;have:=a2.1.l;omega) a2.1.s (by have:=a2.2;simp at this;omega) a2.1.tg (fun _=>by decide) hL hT;have q1:cw (j8 (iR (gp p0) 1 [1]).1 32).1.1:=Zh a1.1 32;have q2:cw (j8 (iR (gp p0) 1 [2]).1 32).1.1:=Zh a2.1 32;rw [e1] at hA1;rw [e2] at hA2;rw [s1] at hS1;rw [s2] at hS2;generalize gp p0=t0,iR (gp p0) 1 [2]=u2,iR (gp p0) 1 [1]=u1,j8 (iR (gp p0) 1 [2]).1 32=r2,j8 (iR (gp p0) 1 [1]).1 32=r1 at*;have hby:(Ok r1.1.1==Ok r2.1.1)=false:=by
  cases hc:Ok r1.1.1==Ok r2.1.1 with
  | false=>rfl
  | true=>exact absurd (zbN q1 q2 ((Go.MapKept.bytes_beq _ _).1 hc)) ne
 simp only [zo0,zlL,zlK,ziA,List.length_nil] at hN1 hN2 hA1 hA2 hS1 hS2;have hslP:al (rep [J.int .u8 0] 16) [(0,1,.int .u8 1),(1,1,.int .u8 1),(2,1,.int .u8 1),(3,1,.int .u8 0),(4,1,.int .u8 0),(5,1,.int .u8 0),(6,1,.int .u8 0),(7,1,.int .u8 0),(8,1,.int .u8 2),(9,1,.int .u8 1),(10,1,.int .u8 32),(11,1,.int .u8 0),(12,1,.int .u8 0),(13,1,.int .u8 0),(14,1,.int .u8 0),(15,1,.int .u8 0)]=some (cI .u8 p0):=rfl;have hch:chunks 1 16 (cI .u8 p0)=eI .u8 p0:=rfl;have hsl1:al (rep [J.int .u8 0] 1) [(0,1,.int .u8 1)]=some (cI .u8 [1]):=rfl;have hsl2:al (rep [J.int .u8 0] 1) [(0,1,.int .u8 2)]=some (cI .u8 [2]):=rfl;have hch1:∀ x,chunks 1 1 (cI .u8 [x])=eI .u8 [x]:=fun x=>rfl;generalize p0=p at*;simp -implicitDefEqProofs [m6,V,hslP,hch,hsl1,hsl2,hch1,hN1,hN2,hA1,hA2,hS1,hS2,bne,heq,l1,l2,hby]
theorem ze5 {fr:Fr}{h:O}{R:Option (dt × Fr × O)}(hF:run ah (V h) (.loop d7) fr (hx h [] [])=R)(l:List d5)(hl:l.length < 9223372036854775808)
  (h7:fr 7=.vsl false (l.map d5.cells)) (h8:fr 8=Ii (l.length:Int)) (h9:fr 9=Ii 0):
  ∃ e fr' bs,R=some (e,fr',hx h bs [])/\(e=.exit 0/\(∀ x∈l,x.few)/\fr' 0=fr 0/\fr' 1=fr 1\/e=.ret/\fr' 4=.bool false/\¬∀ x∈l,x.few):=by
 obtain ⟨e,fr',h',rfl,⟨bs,rfl,hp⟩,hk⟩:=af hF l.length
  (fun k fr hh=>fr 9=Ii (k:Int)/\∃ bs,hh=hx h bs []/\∀ i,i < k->(gd l sx i).few)
  (fun e fr hh=>∃ bs,hh=hx h bs []/\(e=.exit 0/\(∀ x∈l,x.few)\/e=.ret/\fr 4=.bool false/\¬∀ x∈l,x.few))
  ⟨h9, [], rfl, fun i hi => by omega⟩ (by
   rintro k fr1 hh hkN hkeep ⟨g9,bs,rfl,hall⟩;have g7:=kp hkeep h7;have g8:=kp hkeep h8;by_cases hlt:k < l.length
   ·have hltI:(k:Int) < (l.length:Int):=by omega
    have w0:Wr ((k:Int)+1)=k+1:=wz;have ia:=Qk .i64 false l k hlt;have hm:=Xb (d:=sx) hlt;have hstep : (gd l sx k).few -> ∀ i, i < k + 1 -> (gd l sx i).few := fun hf i hi => by
     by_cases e:i=k
     ·rw [e];exact hf
     ·exact hall i (by omega)
    have hno:¬(gd l sx k).few->¬∀ x∈l,x.few:=fun hn ha=>hn (ha _ hm);generalize gd l sx k=x at*;obtain ⟨d,ty,n,b⟩:=x;simp only [d5.cells] at ia;have hno2:=fun hn:¬d5.few ⟨d,ty,n,b⟩=>hno hn;simp only [d5.few] at hstep;generalize l.map d5.cells=lc at*;by_cases h1:400 < b.length
    ·have h1':(400:Int) < (b.length:Int):=by omega
     simp -implicitDefEqProofs [d7,V,g7,g8,g9,hltI,ia,aa,ap,au,ae,h1'];refine ⟨⟨_,rfl⟩,?_⟩;have:=hno2 (fun hf=>by have h5:=hf.1;have h6:=hf.2;simp only at h5 h6;omega);simpa using this
    ·have h1':¬(400:Int) < (b.length:Int):=by omega
     by_cases h2:100 < n
     ·by_cases h3:n<=1048576
      ·simp -implicitDefEqProofs [d7,V,g7,g8,g9,hltI,ia,aa,ap,au,ae,h1',h2,h3];refine ⟨⟨_,rfl⟩,?_⟩;have:=hno2 (fun hf=>by have h5:=hf.1;have h6:=hf.2;simp only at h5 h6;omega);simpa using this
      ·simp -implicitDefEqProofs [d7,V,g7,g8,g9,hltI,ia,aa,ap,au,ae,h1',h2,h3,w0];exact ⟨hlt,⟨_,rfl⟩,hstep (by omega)⟩
     ·simp -implicitDefEqProofs [d7,V,g7,g8,g9,hltI,ia,aa,ap,au,ae,h1',h2,w0];exact ⟨hlt,⟨_,rfl⟩,hstep (by omega)⟩
   ·have:k=l.length:=by omega
    subst this;simp [d7,g8,g9];refine ⟨⟨_,rfl⟩,fun x hx=>?_⟩;obtain ⟨i,hi,rfl⟩:=List.mem_iff_getElem.1 hx;have:=hall i hi
    rwa [show gd l sx i=l[i] by simp [gd,List.getD,hi]] at this)
 refine ⟨e,fr',bs,rfl,?_⟩;rcases hp with ⟨rfl,h1⟩ | h2
 ·exact .inl ⟨rfl,h1,hk 0 (by decide),hk 1 (by decide)⟩
 ·exact .inr h2
theorem ze7 (L:az)(h:O)(l:List d5)(hl:l.length < 9223372036854775808)(m:Int):∃ q:Bool,(q=true↔(∀ x∈l,x.few)/\(l.length:Int)<=m)/\Z ah L jV [.vsl false (l.map d5.cells),Ii m] h=some (.bool q,h):=by
 have hlen:(l.map d5.cells).length=l.length:=by simp
 have hlo:=fun fr R=>ze5 (fr:=fr) (h:=h) (R:=R);by_cases hq:(∀ x∈l,x.few)/\(l.length:Int)<=m
 ·refine ⟨true,⟨fun _=>hq,fun _=>rfl⟩,?_⟩;rw [tA];simp -implicitDefEqProofs [mD,V, -List.length_map,hlen];generalize hF:run ah _ (.loop _) _ _=R;obtain ⟨e,fr',bs,rfl,⟨rfl,h1,f0,f1⟩ | ⟨rfl,f4,h1⟩⟩:=hlo _ _ hF l hl (by simp) (by simp [-List.length_map,hlen]) (by simp)
  ·have hm:=hq.2;simp at f0 f1;simp -implicitDefEqProofs [f0,f1, -List.length_map,hlen,hm]
  ·exact absurd hq.1 h1
 ·refine ⟨false,⟨fun hh=>by simp at hh,fun hh=>absurd hh hq⟩,?_⟩;rw [tA];simp -implicitDefEqProofs [mD,V, -List.length_map,hlen];generalize hF:run ah _ (.loop _) _ _=R;obtain ⟨e,fr',bs,rfl,⟨rfl,h1,f0,f1⟩ | ⟨rfl,f4,h1⟩⟩:=hlo _ _ hF l hl (by simp) (by simp [-List.length_map,hlen]) (by simp)
  ·have hm:¬(l.length:Int)<=m:=fun hm=>hq ⟨h1,hm⟩;simp at f0 f1;simp -implicitDefEqProofs [f0,f1, -List.length_map,hlen,hm]
  ·simp -implicitDefEqProofs [f4]
end Go.Av
