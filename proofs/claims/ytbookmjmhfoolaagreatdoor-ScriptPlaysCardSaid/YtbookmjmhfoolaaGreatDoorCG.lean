/- The document's text of answers; the law's walk. -/
import Derived.Test.YtbookmjmhfoolaaGreatDoorC0
import Derived.Lib.ItoaLen
import Derived.Test.YtbookmjmhfoolaaGreatDoorCF
import Derived.Test.YtbookmjmhfoolaaGreatDoorCA
set_option linter.unusedSimpArgs false
set_option linter.unusedVariables false
set_option maxHeartbeats 2000000
set_option maxRecDepth 20000
namespace Go.Av
def qI (l:List UInt8):ByteArray:=⟨l.toArray⟩
theorem zg4 (a b:List UInt8):qI a++qI b=qI (a++b):=by
 apply ByteArray.ext;simp [qI]
theorem VW (L:az)(h:O)(n:Nat)(hn:n < 16):aa ah L hZ [Ii n] h=some (.int .u8 ((Qi.getD n 0).toNat:Int),h):=by
 rw [B6]
 rcases (show n=0\/n=1\/n=2\/n=3\/n=4\/n=5\/n=6\/n=7\/n=8\/n=9\/n=10\/n=11\/n=12\/n=13\/n=14\/n=15 by omega) with rfl | rfl | rfl | rfl | rfl | rfl | rfl | rfl | rfl | rfl | rfl | rfl | rfl | rfl | rfl | rfl <;> simp [oS,Qi] <;> decide
theorem VX (n:Nat)(h:n < 10):Lib.itoa (n:Int)=[UInt8.ofNat (48+n)]:=by
 unfold Lib.itoa;rw [if_neg (by omega),Int.toNat_natCast,Lib.decDigits,dif_pos h]
theorem VZ (n:Nat)(h:¬n < 10):Lib.itoa (n:Int)=Lib.itoa ((n / 10:Nat):Int)++Lib.itoa ((n % 10:Nat):Int):=by
 rw [VX (n % 10) (by omega)];unfold Lib.itoa;rw [if_neg (by omega),if_neg (by omega),Int.toNat_natCast,Int.toNat_natCast,Lib.decDigits,dif_neg h]
theorem KC (n:Nat)(h:0 < n):Lib.itoa (-(n:Int))=45 :: Lib.itoa (n:Int):=by
 unfold Lib.itoa;rw [if_pos (by omega),if_neg (by omega)];simp
@[simp] theorem zp0 (n:Int):unA .neg (Ii n)=some (Ii (IntKind.i64.wrap (-n))):=by simp [unA]
theorem cat (a b:List UInt8)(h:a.length+b.length<=9223372036854775807):aW .add (.str (qI a)) (.str (qI b))=some (.str (qI (a++b))):=by
 have h':¬(((qI a).size+(qI b).size:Nat):Int) > IntKind.i64.max:=by
  have e1:(qI a).size=a.length:=by simp [qI,ByteArray.size]
  have e2:(qI b).size=b.length:=by simp [qI,ByteArray.size]
  rw [e1,e2,show IntKind.i64.max=9223372036854775807 from by decide];omega
 simp only [aW];rw [if_neg h',zg4]
@[simp] theorem zt3:(⟨#[45]⟩:ByteArray)=qI [45]:=rfl
@[simp] theorem ztP (h:O)(c:Bool)(n:Int):Zv h (.vsl c [[.int .u8 n]])=some (.str (qI [UInt8.ofNat n.toNat])):=rfl
@[simp] theorem zhe (h:O)(c:Bool)(n m:Int):Zv h (.vsl c [[.int .u8 n],[.int .u8 m]])=some (.str (qI [UInt8.ofNat n.toNat,UInt8.ofNat m.toNat])):=rfl
theorem Ti (L:az)(h:O)(k:Nat)(hk:k < 10):aa ah L bR [Ii (k:Int)] h=some (.str (qI (Lib.itoa k)),h):=by
 rw [VX k (by omega),kw]
 rcases (show k=0\/k=1\/k=2\/k=3\/k=4\/k=5\/k=6\/k=7\/k=8\/k=9 by omega) with rfl | rfl | rfl | rfl | rfl | rfl | rfl | rfl | rfl | rfl <;> simp [cJ,ak,rep,J.cells,J.okV,chunks] <;> rfl
theorem YV (L:az)(h:O)(n:Int)(h0: -9223372036854775808<=n)(h1:n<=9223372036854775807):aa ah L bR [Ii n] h=some (.str (qI (Lib.itoa n)),h):=by
 obtain ⟨m,hm⟩:∃ m,m=n.natAbs:=⟨_,rfl⟩
 induction m using Nat.strongRecOn generalizing n L h with
 | _ m ih=>
  by_cases hd:0<=n/\n < 10
  ·obtain ⟨k,rfl⟩:∃ k:Nat,n=k:=⟨n.toNat,by omega⟩;exact Ti L h k (by omega)
  ·have hil:=Lib.itoa_length_le;by_cases hs: -10 < n/\n < 0
   ·obtain ⟨k,rfl⟩:∃ k:Nat,n= -(k:Int):=⟨n.natAbs,by omega⟩;have hk:=fun L h=>Ti L h k (by omega);rw [KC k (by omega),kw];have w1:Wr (k:Int)=k:=wz;have c1:=cat [45] (Lib.itoa k) (by have:=hil k (by omega) (by omega);simp;omega);simp [cJ,show (-10:Int) < -(k:Int) by omega,show 0 < k by omega,w1,hk,c1]
   ·obtain ⟨u,hu⟩:∃ u,u=n.natAbs:=⟨_,rfl⟩;have hk2:=fun L h=>Ti L h (u % 10) (by omega);rw [kw];by_cases hn:0<=n
    ·obtain rfl:n=(u:Int):=by omega
     have hk:=fun L h=>ih (u / 10) (by omega) L h ((u / 10:Nat):Int) (by omega) (by omega) (by omega);have w1:Wr (((u / 10:Nat):Int))=((u / 10:Nat):Int):=wz;have t1:(u:Int).tdiv 10=((u / 10:Nat):Int):=rfl;have t2:(u:Int).tmod 10=((u % 10:Nat):Int):=rfl;have c1:=cat (Lib.itoa ((u / 10:Nat):Int)) (Lib.itoa ((u % 10:Nat):Int)) (by have:=hil ((u / 10:Nat):Int) (by omega) (by omega);have:=hil ((u % 10:Nat):Int) (by omega) (by omega);omega);rw [VZ u (by omega)];simp [cJ, -Int.natCast_ediv, -Int.natCast_emod,show ¬(u:Int) < 0 by omega,show (0:Int)<=u by omega,show (-10:Int) < u by omega,show ¬(u:Int) < 10 by omega,show ¬((u % 10:Nat):Int) < 0 by omega,t1,t2,w1,hk,hk2,c1,da,bC]
    ·obtain rfl:n= -(u:Int):=by omega
     have hk:=fun L h=>ih (u / 10) (by omega) L h (-((u / 10:Nat):Int)) (by omega) (by omega) (by omega);have w1:Wr (-((u / 10:Nat):Int))= -((u / 10:Nat):Int):=wz;have w2:Wr (((u % 10:Nat):Int))=((u % 10:Nat):Int):=wz;have t1:(-(u:Int)).tdiv 10= -((u / 10:Nat):Int):=by rw [Int.neg_tdiv];rfl
     have t2:(-(u:Int)).tmod 10= -((u % 10:Nat):Int):=by rw [Int.neg_tmod];rfl
     have c1:=cat (Lib.itoa (-((u / 10:Nat):Int))) (Lib.itoa ((u % 10:Nat):Int)) (by have:=hil (-((u / 10:Nat):Int)) (by omega) (by omega);have:=hil ((u % 10:Nat):Int) (by omega) (by omega);omega);rw [KC u (by omega),VZ u (by omega),show 45 :: (Lib.itoa ((u / 10:Nat):Int)++Lib.itoa ((u % 10:Nat):Int))=Lib.itoa (-((u / 10:Nat):Int))++Lib.itoa ((u % 10:Nat):Int) from by rw [KC (u / 10) (by omega)];rfl];have c2:((u:Int)<=10)=False\/True:=.inr trivial;generalize hr:u % 10=r at*;generalize hq:u / 10=q at*;by_cases hz:r=0
     ·subst hz;simp [cJ,show ¬(-10:Int) < -(u:Int) by omega,show ¬u=0 by omega,show ¬(0:Int)<= -(u:Int) by omega,t1,t2,w1,hk,da,bC];have hk3:=fun L h=>hk2 L h;simp at hk3 c1;simp [hk3,c1]
     ·simp [cJ,show ¬(-10:Int) < -(u:Int) by omega,show ¬u=0 by omega,show ¬(0:Int)<= -(u:Int) by omega,show 0 < r by omega,t1,t2,w1,w2,hk,hk2,c1,da,bC]
abbrev An:=Int × List Int
def anC (a:An):List J:=[Ii a.1,.vsl false (eI .u8 a.2)]
def anN (a:An):Int × List Nat:=(a.1,a.2.map Int.toNat)
def zdq (a:An):Prop:= -9223372036854775808<=a.1/\a.1<=9223372036854775807/\a.2.length<=4000/\∀ x∈a.2,0<=x/\x < 256
theorem Oo (l:List Nat):(l.flatMap uv).length=2*l.length:=by
 induction l with
 | nil=>rfl
 | cons x l ih=>simp only [List.flatMap_cons,List.length_append,ih,uv,List.length_cons,List.length_nil];omega
theorem zdv (l:List Nat)(k:Nat)(x:Nat)(h:l[k]?=some x):(l.take (k+1)).flatMap uv=(l.take k).flatMap uv++uv x:=by
 rw [List.take_add_one,h];simp
theorem zdw (l:List (Int × List Nat))(k:Nat)(x:Int × List Nat)(h:l[k]?=some x):iL (l.take (k+1))=iL (l.take k)++L5 x:=by
 rw [List.take_add_one,h];simp [iL]
theorem zhr (a:An)(h:zdq a):(L5 (anN a)).length<=9000:=by
 have:=Lib.itoa_length_le a.1 h.1 h.2.1;have:=h.2.2.1;unfold L5 anN;simp only [List.length_append,Oo,List.length_cons,List.length_nil,List.length_map]
 split <;> simp <;> omega
theorem Ru:∀ l:List An,(∀ a∈l,zdq a)->(iL (l.map anN)).length<=9000*l.length
 | [],_=>by simp [iL]
 | a :: l, h => by
  have h1:=zhr a (h a (by simp));have h2:=Ru l (fun b hb=>h b (by simp [hb]));simp only [iL,List.map_cons,List.flatMap_cons,List.length_append,List.length_cons] at*;omega
theorem To (l:List An)(i:Nat)(a:An)(ha:l[i]?=some a):bA none 2 (.vsl false (l.map anC)) (Ii (i:Int))=some (.vptr (anC a) 0):=by
 have hlt:=(List.getElem?_eq_some_iff.1 ha).1;have hm:(l.map anC)[i]?=some (anC a):=by rw [List.getElem?_map,ha];rfl
 simp only [bA,JP,bind,Option.bind_some,Int.toNat_natCast,hm];rfl
theorem zaU {fr:Fr}{h:O}{R:Option (cL × Fr × O)}(hF:run ah (V h) (.loop kH) fr (hx h [] [])=R)(l:List An)(i:Nat)(a:An)(ha:l[i]?=some a)(hok:zdq a)(acc:List UInt8)(hacc:acc.length<=1000000000)(hl:l.length<=1000)
  (h0:fr 0=.vsl false (l.map anC)) (h4:fr 4=Ii i) (h3:fr 3=.str (qI acc)) (h5:fr 5=Ii 0):
  ∃ fr',R=some (.exit 2,fr',hx h [] [])/\fr' 3=.str (qI (acc++(a.2.map Int.toNat).flatMap uv))/\fr' 0=.vsl false (l.map anC)/\fr' 4=Ii i:=by
 obtain ⟨e,fr',h',rfl,⟨rfl,rfl,h3'⟩,hk⟩:=af hF a.2.length
  (fun k fr hh=>fr 5=Ii k/\fr 3=.str (qI (acc++((a.2.map Int.toNat).take k).flatMap uv))/\hh=hx h [] [])
  (fun e fr hh=>e=.exit 2/\hh=hx h [] []/\fr 3=.str (qI (acc++(a.2.map Int.toNat).flatMap uv)))
  ⟨h5, by simpa using h3, rfl⟩ (by
   rintro k fr1 hh hkN hkeep ⟨g5,g3,rfl⟩;have g0:=kp hkeep h0;have g4:=kp hkeep h4;have hil:=(List.getElem?_eq_some_iff.1 ha).1;have hal:=hok.2.2.1;by_cases hlt:k < a.2.length
   ·obtain ⟨y,hy⟩:∃ y,a.2[k]?=some y:=⟨a.2[k],List.getElem?_eq_getElem hlt⟩;have hyr:=hok.2.2.2 y (List.mem_of_getElem? hy);obtain ⟨z,rfl⟩:∃ z:Nat,y=z:=⟨y.toNat,by omega⟩;have w2:Wr ((k:Int)+1)=k+1:=wz;have hi0:=To l i a ha;have hi1:=pI .u8 .i64 false a.2 k (by simpa using hlt);have hgd:gd a.2 0 k=(z:Int):=by simp [gd,List.getD,hy]
    rw [hgd] at hi1;have w3:Wr (z:Int)=z:=wz;have t1:(z:Int).tdiv 16=((z / 16:Nat):Int):=rfl;have t2:(z:Int).tmod 16=((z % 16:Nat):Int):=rfl;have w4:Wr ((z / 16:Nat):Int)=((z / 16:Nat):Int):=wz;have d1:=fun L h=>VW L h (z / 16) (by omega);have d2:=fun L h=>VW L h (z % 16) (by omega);have hc:=cat (acc++((a.2.map Int.toNat).take k).flatMap uv) (uv z) (by simp only [List.length_append,Oo,List.length_take,List.length_map,uv,List.length_cons,List.length_nil];omega);have hsn:=zdv (a.2.map Int.toNat) k z (by rw [List.getElem?_map,hy];rfl);have hx2:∀ h,Zv h (.vsl true [[.int .u8 ((Qi.getD (z / 16) 0).toNat:Int)],[.int .u8 ((Qi.getD (z % 16) 0).toNat:Int)]])=some (.str (qI (uv z))):=fun h=>by rw [zhe];simp [uv]
    generalize uv z=H at*;simp [kH, -Int.natCast_ediv, -Int.natCast_emod, -zhe, -List.getD_eq_getElem?_getD,g5,g3,g0,g4,hlt,w2,hi0,anC,hi1,w3,da,bC,t1,t2,w4,d1,d2,ak,rep,J.cells,J.okV,chunks,hx2,hc,hsn]
   ·have:k=a.2.length:=by omega
    subst this;have hi0:=To l i a ha;simp [kH,g5,g0,g4,hi0,anC];rw [g3,List.take_of_length_le (by simp)])
 exact ⟨fr',rfl,h3',(hk 0 (by decide)).trans h0,(hk 4 (by decide)).trans h4⟩
theorem zkM {fr:Fr}{h:O}{R:Option (cL × Fr × O)}(hF:run ah (V h) (.loop gY) fr (hx h [] [])=R)(l:List An)(hok:∀ a∈l,zdq a)(hl:l.length<=1000)
  (h0:fr 0=.vsl false (l.map anC)) (h4:fr 4=Ii 0) (h3:fr 3=.str (qI [])):
  ∃ fr',R=some (.exit 0,fr',hx h [] [])/\fr' 3=.str (qI (iL (l.map anN))):=by
 obtain ⟨e,fr',h',rfl,⟨rfl,rfl,h3'⟩,hk⟩:=af hF l.length
  (fun k fr hh=>fr 4=Ii k/\fr 3=.str (qI (iL ((l.map anN).take k)))/\hh=hx h [] [])
  (fun e fr hh=>e=.exit 0/\hh=hx h [] []/\fr 3=.str (qI (iL (l.map anN))))
  ⟨h4, by simpa [iL] using h3, rfl⟩ (by
   rintro k fr1 hh hkN hkeep ⟨g4,g3,rfl⟩;have g0:=kp hkeep h0;by_cases hlt:k < l.length
   ·obtain ⟨a,ha⟩:∃ a,l[k]?=some a:=⟨l[k],List.getElem?_eq_getElem hlt⟩;have hak:=hok a (List.mem_of_getElem? ha);have hi0:=To l k a ha;have w2:Wr ((k:Int)+1)=k+1:=wz;have hdc:=fun L h=>YV L h a.1 hak.1 hak.2.1;have hsn:=zdw (l.map anN) k (anN a) (by rw [List.getElem?_map,ha];rfl);have hlen:(iL ((l.map anN).take k)).length<=9000*1000:=by
     have:=Ru (l.take k) (fun b hb=>hok b (List.mem_of_mem_take hb));rw [List.map_take] at this;have h2:(l.take k).length<=1000:=by simp;omega
     omega
    have hil:=Lib.itoa_length_le a.1 hak.1 hak.2.1;generalize iL ((l.map anN).take k)=T at*;have c1:=cat T (Lib.itoa a.1) (by omega);have c2:=cat (T++Lib.itoa a.1) [32] (by simp;omega);have hal:=hak.2.2.1;have hx32:(⟨#[32]⟩:ByteArray)=qI [32]:=rfl;have hx10:(⟨#[10]⟩:ByteArray)=qI [10]:=rfl;by_cases hd:a.2=[]
    ·have c3:=cat (T++Lib.itoa a.1) [10] (by simp;omega);simp [gY,g4,g3,g0,hlt,w2,hi0,anC,hdc,c1,hd];generalize hG:run ah _ (.loop _) _ _=R;obtain ⟨fr2,rfl,k3,k0,k4⟩:=zaU hG l k a ha hak (T++Lib.itoa a.1) (by simp;omega) hl (by simp [g0]) (by simp [g4]) (by simp) (by simp);simp [k3,k4,hd,hx10,c3,w2];rw [hsn];simp [L5,anN,hd];omega
    ·have hd':0 < a.2.length:=List.length_pos_iff.2 hd;have c3:=cat (T++Lib.itoa a.1++[32]++(a.2.map Int.toNat).flatMap uv) [10] (by simp only [List.length_append,Oo,List.length_map,List.length_cons,List.length_nil];omega);simp [gY,g4,g3,g0,hlt,w2,hi0,anC,hdc,c1,hd',hx32,c2, -List.append_assoc];generalize hG:run ah _ (.loop _) _ _=R;obtain ⟨fr2,rfl,k3,k0,k4⟩:=zaU hG l k a ha hak (T++Lib.itoa a.1++[32]) (by simp;omega) hl (by simp [g0]) (by simp [g4]) (by simp) (by simp);simp [k3,k4,hx10,c3,w2, -List.append_assoc];rw [hsn];simp [L5,anN,hd];omega
   ·have:k=l.length:=by omega
    subst this;simp [gY,g4,g0];rw [g3,List.take_of_length_le (by simp)])
 exact ⟨fr',rfl,h3'⟩
theorem zhx (L:az)(h:O)(l:List An)(hok:∀ a∈l,zdq a)(hl:l.length<=1000):aa ah L je [.vsl false (l.map anC)] h=some (.str (qI (iL (l.map anN))),h):=by
 rw [Dz];simp [pT];generalize hF:run ah _ (.loop _) _ _=R;obtain ⟨fr',rfl,h3⟩:=zkM hF l hok hl (by simp) (by simp) (by simp;rfl);simp [h3]
theorem Wk {fr:Fr}{h:O}{R:Option (cL × Fr × O)}(A:List (Int × List Int))(hA:A.length<=1000)
  (hF:run ah (V h) (.loop kG) fr (hx h [] [])=R)
  (h0:fr 0=.vsl false (A.map lu)) (h1:fr 1=.vsl false (A.map lu)) (h12:fr 12=Ii (A.length:Int)) (h13:fr 13=Ii 0):
  ∃ fr',R=some (.exit 0,fr',hx h [] []):=by
 obtain ⟨e,fr',h',rfl,⟨rfl,rfl⟩,hk⟩:=af hF A.length
  (fun k fr hh=>fr 13=Ii (k:Int)/\hh=hx h [] [])
  (fun e fr hh=>e=.exit 0/\hh=hx h [] [])
  ⟨h13,rfl⟩ (by
   rintro k fr1 hh hkN hkeep ⟨g13,rfl⟩;have g0:=kp hkeep h0;have g1:=kp hkeep h1;have g12:=kp hkeep h12;by_cases hlt:k < A.length
   ·have hltI:(k:Int) < (A.length:Int):=by omega
    have w0:Wr ((k:Int)+1)=k+1:=wz;have ia:=zfZ .i64 false A k hlt;have heqs:∀ s:ByteArray,(s==s)=true:=fun s=>(Go.MapKept.bytes_beq _ _).2 rfl;obtain ⟨a,ha⟩:∃ a,a=gd A (0,[]) k:=⟨_,rfl⟩;rw [<- ha] at ia;unfold lu at ia;obtain ⟨a1,a2⟩:=a;simp only at ia;have hb2:=fun h=>WK h false a2;generalize eI .u8 a2=e2,byA a2=s2 at*;have ia':bA none 2 (.vsl false (A.map lu)) (Ii (k:Int))=some (.vptr [Ii a1,.vsl false e2] 0):=ia;generalize A.map lu=Am at*;simp -implicitDefEqProofs [kG,V,g0,g1,g12,g13,hlt,hltI,w0,ia',hb2,bne,heqs,ao]
   ·have:k=A.length:=by omega
    subst this;simp -implicitDefEqProofs [kG,g12,g13])
 exact ⟨fr',rfl⟩
theorem zdJ (L:az)(h:O)(A:List (Int × List Int))(hA:A.length<=1000):
  aa ah L lP [.vsl false (A.map lu),.vsl false (A.map lu)] h=some (.bool true,h):=by
 rw [Dx];have hf:=fR h false (A.map lu);have hlen:(A.map lu).length=A.length:=by simp
 have hlo:=fun fr R=>Wk (fr:=fr) (h:=h) (R:=R) A hA;generalize A.map lu=Am at*;simp -implicitDefEqProofs [pS,hf,hlen,bne];generalize hF:run ah _ (.loop _) _ _=R;obtain ⟨fr',rfl⟩:=hlo _ _ hF (by simp) (by simp) (by simp) (by simp);simp
theorem Y7 {x:aF}(h:x.short):x.few:=⟨by have:=h.1;omega,fun hn=>by have:=h.2 hn;omega⟩
theorem OG (L:az)(h:O)(bk:Int)(p:List Int)(hp:ce p)(hpl:p.length < 9223372036854775808)(l:List aF)(hl:l.length < 9223372036854775808)(hb:∀ x∈l,ce x.b):
  aa ah L fA [.agg (QQ bk p l)] h=some (.bool true,h):=by
 obtain ⟨q,hq1,hq2⟩:=zcq L h bk p hpl l hl;rw [uM];have hSp:=U3;have hfz:oL h (.agg (QQ bk p l))=some (.agg (QQ bk p l),false):=by simp [QQ,oL,mL,aZ,J.flat]
 have hbox:lx (.agg (QQ bk p l))=some (.vptr (QQ bk p l) 0):=by simp [QQ,lx,J.cells,J.okV]
 have hl3:(QQ bk p l).length=3:=rfl
 cases q with
 | true=>
  generalize QQ bk p l=sc at*;simp -implicitDefEqProofs [fy,V,hfz,hbox,hl3,hSp,hq2,Z]
 | false=>
  obtain ⟨hs,h1000,h12,hbk⟩:=hq1.1 rfl;have hO:=fun L h=>znr L h bk p l (by omega);have hf:=fun x (hx:x∈l)=>Y7 (hs x hx);have hP:∀ L h,aa ah L mw [.agg (QQ bk p l)] h=some (.tup [.vsl false ((iJ bk p l).1.map lu),Ii (iJ bk p l).2.1,Ii (iJ bk p l).2.2],h):=fun L h=>zjX L h bk hbk p hp h1000 l (by omega) hb hf;have hD:∀ L h,aa ah L jd [.agg (QQ bk p l)] h=some (.tup [.vsl false ((iJ bk p l).1.map lu),Ii (iJ bk p l).2.1,Ii (iJ bk p l).2.2],h):=fun L h=>zil L h bk hbk p hp h1000 l (by omega) hb hf;have hans:=zcI bk p hp l hb hf;have hpl1:=zcJ bk p l;generalize iJ bk p l=r at*;obtain ⟨A,at0,e0⟩:=r;simp only at hP hD hans hpl1;have hS:=fun L h=>zdJ L h A (by omega);have hT1:=fun L h=>zcL L h false A hans (by omega);have hok : ∀ a ∈ A, zdq a := fun a ha => by
   obtain ⟨⟨x1,x2⟩,x3,x4⟩:=hans a ha;refine ⟨by omega,by omega,x3,fun x hx=>?_⟩;have:=HQ x4 x hx;exact this
  have hT2:∀ L h,aa ah L je [.vsl false (A.map lu)] h=some (.str ⟨(iL (A.map An3)).toArray⟩,h):=fun L h=>zhx L h A hok (by omega);have heqs:∀ s:ByteArray,(s==s)=true:=fun s=>(Go.MapKept.bytes_beq _ _).2 rfl;generalize A.map lu=Am,(iL (A.map An3)).toArray=tx at*;generalize hsc:QQ bk p l=sc at*;simp -implicitDefEqProofs [fy,V,hfz,hbox,hl3,hSp,hq2,Z,ao,hO,hP,hD,hS,hT1,hT2,heqs]
end Go.Av
