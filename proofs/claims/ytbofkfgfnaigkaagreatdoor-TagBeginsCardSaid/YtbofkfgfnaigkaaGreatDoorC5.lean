/- The permutation of the program is that of the numbers. -/
import Derived.Test.YtbofkfgfnaigkaaGreatDoorC4
set_option linter.unusedSimpArgs false
set_option linter.unusedVariables false
set_option maxHeartbeats 2000000
set_option maxRecDepth 20000
namespace Go.Av
def zcJ (s:Nat):Nat→Option (Nat × List Nat)
  | 0=>some (s,[])
  | k + 1 => match zcJ s k with
    | none=>none
    | some q => match zsp 40 q.1 with
      | none=>none
      | some r=>some (r.1,q.2++[r.2])
theorem zk7 {s k:Nat} {q:Nat × List Nat} (h:zcJ s (k+1)=some q):∃ p r,zcJ s k=some p∧zsp 40 p.1=some r∧q=(r.1,p.2++[r.2]):=by
  simp only [zcJ] at h
  cases hp:zcJ s k with
  | none=>rw [hp] at h;cases h
  | some p=>
    rw [hp] at h
    simp only at h
    cases hr:zsp 40 p.1 with
    | none=>rw [hr] at h;cases h
    | some r=>
      rw [hr] at h
      exact ⟨p,r,rfl,hr,(Option.some.inj h).symm⟩
theorem zuj {s:Nat}:∀ {k:Nat} {q:Nat × List Nat},zcJ s k=some q→∀ j,j≤k→∃ p,zcJ s j=some p
  | 0,q,h,j,hj=>⟨q,by rw [show j=0 by omega];exact h⟩
  | k + 1, q, h, j, hj => by
    obtain ⟨p,r,h1,h2,h3⟩:=zk7 h
    by_cases e:j=k+1
    · subst e;exact ⟨q,h⟩
    · exact zuj h1 j (by omega)
theorem zih {s:Nat} (hs:s < 2 ^ 80):∀ {k:Nat} {q:Nat × List Nat},zcJ s k=some q→q.1 < 2 ^ 80∧q.2.length=k
  | 0, q, h => by
    obtain rfl:=Option.some.inj h
    exact ⟨hs,rfl⟩
  | k + 1, q, h => by
    obtain ⟨p,r,h1,h2,rfl⟩:=zk7 h
    obtain ⟨a,b⟩:=zih hs h1
    exact ⟨(zzC 40 _ r h2 a).1,by simp [b]⟩
def poH (d m u:Int):List zaa:=[.int .u32 d,.int .i32 m,.int .u32 u]
def poC (d m u:Int) (l:List Nat):List zaa:=poH d m u++cW (feL l)
@[simp] theorem zDY (d m u:Int) (l:List Nat):(poC d m u l).length=3+4*l.length:=by simp [poC,poH];omega
theorem zBP (d m u:Int) (l:List Nat) (o i k:Nat) (ho:o=3+4*i) (h:i+k≤l.length):zb2 true (poC d m u l) o (4*k)=some (.agg (cW (feL ((l.drop i).take k)))):=zyW (poH d m u) l o i k ho h
theorem zQV (d m u:Int) (l:List Nat) (x o i:Nat) (ho:o=3+4*i) (h:i < l.length):setAt (poC d m u l) o (cW (fe x))=poC d m u (l.set i x):=zOK (poH d m u) l x o i ho h
theorem zNu (d m u:Int) (l n:List Nat) (o i:Nat) (ho:o=3+4*i) (h:i+n.length≤l.length):setAt (poC d m u l) o (cW (feL n))=poC d m u (putAt l i n):=zIe (poH d m u) l n o i ho h
theorem zKa (p l:List Nat) (k x:Nat) (hp:p.length=k) (hk:k < l.length):(p++l.drop k).set k x=(p++[x])++l.drop (k+1):=by
  subst hp
  rw [List.set_append_right _ _ (Nat.le_refl _),Nat.sub_self,List.drop_eq_getElem_cons hk,List.append_assoc]
  rfl
section
variable (d m u:Int) (l:List Nat)
theorem zGP {L:Lim} {fr:Fr} {h:zab} {R:Option (AEx × Fr × zab)} (bs:List (List zaa)) (ts:List Nat) (b i:Nat) (hl:l.length=204) (hi:i < 65) (hb:b < bs.length) (Q:Nat × List Nat) (hQ:zcJ zlY 195=some Q) (y z:List zaa) (hL:L.rob≤h.blks.length)
    (p0:Nat × List Nat) (hp0:zcJ zlY (3*i)=some p0) (a0:Nat) (ha0:a0 < 80)
    (hF:run ctx L (.loop zaU) fr (hx h (bs.set b (poC d m u (p0.2++l.drop (3*i)))++[zd2 p0.1 a0,y,z]) ts)=R)
    (h0:fr 0=pA h.blks.length b 0) (h2:fr 2=pA h.blks.length bs.length 0) (h4:fr 4=.int .i64 (i:Int)) (h17:fr 17=.int .i64 0):
    ∃ fr' p1 a1,a1 < 80∧zcJ zlY (3*(i+1))=some p1∧R=some (.exit 2,fr',hx h (bs.set b (poC d m u (p1.2++l.drop (3*(i+1))))++[zd2 p1.1 a1,y,z]) ts)∧∀ t,t∉wr zaU→fr' t=fr t:=by
  obtain ⟨e',fr',h',rfl,⟨rfl,p1,a1,ha1,hp1,rfl⟩,hk⟩:=zaf hF 3
    (fun k fr hh=>fr 17=.int .i64 (k:Int)∧∃ p1 a1,a1 < 80∧zcJ zlY (3*i+k)=some p1∧hh=hx h (bs.set b (poC d m u (p1.2++l.drop (3*i+k)))++[zd2 p1.1 a1,y,z]) ts)
    (fun e' fr hh=>e'=.exit 2∧∃ p1 a1,a1 < 80∧zcJ zlY (3*(i+1))=some p1∧hh=hx h (bs.set b (poC d m u (p1.2++l.drop (3*(i+1))))++[zd2 p1.1 a1,y,z]) ts)
    ⟨h17,p0,a0,ha0,hp0,rfl⟩ (by
      rintro k fr1 hh hkN hkeep ⟨g17,p1,a1,ha1,hp1,rfl⟩
      have g0:=(hkeep 0 (by decide)).trans h0
      have g2:=(hkeep 2 (by decide)).trans h2
      have g4:=(hkeep 4 (by decide)).trans h4
      by_cases hlt:k < 3
      · have w1 : IntKind.i64.wrap ((k : Int) + 1) = k + 1 := wrap_i64 (by omega) (by omega)
        obtain ⟨q1,hq1⟩:=zuj hQ (3*i+k+1) (by omega)
        obtain ⟨p',r,e1,e2,rfl⟩:=zk7 hq1
        rw [hp1] at e1
        obtain rfl:=Option.some.inj e1
        obtain ⟨hs1,hlen1⟩:=zih zp8 hp1
        have hdl:(bs.set b (poC d m u (p1.2++l.drop (3*i+k)))).length=bs.length:=by simp
        have hr0:=zaO (bs.set b (poC d m u (p1.2++l.drop (3*i+k)))) [zd2 p1.1 a1,y,z] bs.length 0 hdl.symm
        have hs0:=fun v=>zbY (bs.set b (poC d m u (p1.2++l.drop (3*i+k)))) [zd2 p1.1 a1,y,z] bs.length 0 v hdl.symm
        simp only [Nat.add_zero,List.getElem?_cons_zero,List.set_cons_zero] at hr0 hs0
        obtain ⟨a2,ha2,hE⟩:=zDJ L h (bs.set b (poC d m u (p1.2++l.drop (3*i+k)))++[zd2 p1.1 a1,y,z]) ts bs.length p1.1 a1 40 r e2 hs1 ha1 hr0 hL
        rw [hs0] at hE
        have i1:=zaP 65 12 h.blks.length b 3 i .i64 (by simpa using hi)
        have i2:=zaP 3 4 h.blks.length b (3+i*12) k .i64 (by simpa using hlt)
        have hget:=zf0 [zd2 r.1 a2,y,z] (show (bs.set b (poC d m u (p1.2++l.drop (3*i+k))))[b]?=some (poC d m u (p1.2++l.drop (3*i+k))) by simp [hb])
        have hset:=fun v=>zom [zd2 r.1 a2,y,z] v (show b < (bs.set b (poC d m u (p1.2++l.drop (3*i+k)))).length by simpa using hb)
        simp only [List.set_set] at hset
        have hll:(p1.2++l.drop (3*i+k)).length=204:=by simp [hlen1,hl];omega
        have hsx:=zQV d m u (p1.2++l.drop (3*i+k)) r.2 (3+i*12+k*4) (3*i+k) (by omega) (by omega)
        rw [zKa p1.2 l (3*i+k) r.2 hlen1 (by omega)] at hsx
        have hob:3+i*12+k*4+4≤(poC d m u (p1.2++l.drop (3*i+k))).length:=by rw [zDY,hll];omega
        have hfin:∃ p1 a1,a1 < 80∧zcJ zlY (3*i+(k+1))=some p1∧hx h (bs.set b (poC d m u ((p1.2++l.drop (3*i+(k+1)))))++[zd2 p1.1 a1,y,z]) ts=hx h (bs.set b (poC d m u ((p1.2++l.drop (3*i+(k+1)))))++[zd2 p1.1 a1,y,z]) ts:=⟨_,a2,ha2,hq1,rfl⟩
        clear hfin
        have hfin:∃ p3 a3,a3 < 80∧zcJ zlY (3*i+(k+1))=some p3∧hx h (bs.set b (poC d m u ((p1.2++[r.2])++l.drop (3*i+k+1)))++[zd2 r.1 a2,y,z]) ts=hx h (bs.set b (poC d m u ((p3.2++l.drop (3*i+(k+1)))))++[zd2 p3.1 a3,y,z]) ts:=⟨_,a2,ha2,hq1,rfl⟩
        have l3:=zaV r.2
        generalize poC d m u ((p1.2++[r.2])++l.drop (3*i+k+1))=c2 at*
        generalize poC d m u (p1.2++l.drop (3*i+k))=c1 at*
        generalize fe r.2=rr at*
        generalize zd2 p1.1 a1=s1 at*
        generalize zd2 r.1 a2=s2 at*
        generalize 3+i*12+k*4=o at*
        generalize 3+i*12=o1 at*
        simp -implicitDefEqProofs [zaU,g0,g2,g4,g17,show (k:Int) < 3 by omega,w1,hE,i1,i2,zbp,l3,hget,hset,hsx,hob,zah,hL]
        obtain ⟨p3,a3,f1,f2,f3⟩:=hfin
        exact ⟨hlt,p3.1,p3.2,a3,f1,f2,f3⟩
      · have : k = 3 := by omega
        subst this
        rw [show 3*i+3=3*(i+1) by omega] at*
        simp [zaU,g17]
        exact ⟨p1.1,p1.2,a1,ha1,hp1,rfl⟩)
  exact ⟨fr',p1,a1,ha1,hp1,rfl,hk⟩
theorem zKb {L:Lim} {fr:Fr} {h:zab} {R:Option (AEx × Fr × zab)} (bs:List (List zaa)) (ts:List Nat) (b:Nat) (hl:l.length=204) (hb:b < bs.length) (Q:Nat × List Nat) (hQ:zcJ zlY 195=some Q) (y z:List zaa) (hL:L.rob≤h.blks.length)
    (a0:Nat) (ha0:a0 < 80)
    (hF:run ctx L (.loop zbd) fr (hx h (bs.set b (poC d m u l)++[zd2 zlY a0,y,z]) ts)=R)
    (h0:fr 0=pA h.blks.length b 0) (h2:fr 2=pA h.blks.length bs.length 0) (h14:fr 14=.int .i64 0):
    ∃ fr' a1,R=some (.exit 0,fr',hx h (bs.set b (poC d m u (Q.2++l.drop 195))++[zd2 Q.1 a1,y,z]) ts)∧∀ t,t∉wr zbd→fr' t=fr t:=by
  obtain ⟨e',fr',h',rfl,⟨rfl,p1,a1,ha1,hp1,rfl⟩,hk⟩:=zaf hF 65
    (fun k fr hh=>fr 14=.int .i64 (k:Int)∧∃ p1 a1,a1 < 80∧zcJ zlY (3*k)=some p1∧hh=hx h (bs.set b (poC d m u (p1.2++l.drop (3*k)))++[zd2 p1.1 a1,y,z]) ts)
    (fun e' fr hh=>e'=.exit 0∧∃ p1 a1,a1 < 80∧zcJ zlY 195=some p1∧hh=hx h (bs.set b (poC d m u (p1.2++l.drop 195))++[zd2 p1.1 a1,y,z]) ts)
    ⟨h14, (zlY, []), a0, ha0, rfl, by simp⟩ (by
      rintro k fr1 hh hkN hkeep ⟨g14,p1,a1,ha1,hp1,rfl⟩
      have g0:=(hkeep 0 (by decide)).trans h0
      have g2:=(hkeep 2 (by decide)).trans h2
      by_cases hlt:k < 65
      · have w1 : IntKind.i64.wrap ((k : Int) + 1) = k + 1 := wrap_i64 (by omega) (by omega)
        have hlo:=fun fr R=>zGP d m u l (L:=L) (fr:=fr) (h:=h) (R:=R) bs ts b k hl hlt hb Q hQ y z hL p1 hp1 a1 ha1
        generalize hx h (bs.set b (poC d m u (p1.2++l.drop (3*k)))++[zd2 p1.1 a1,y,z]) ts=H1 at*
        simp -implicitDefEqProofs [zbd,g0,g2,g14,show (k:Int) < 65 by omega]
        generalize hF:run ctx _ (.loop _) _ _=R
        obtain ⟨fr2,p2,a2,ha2,hp2,rfl,hk2⟩:=hlo _ _ hF (by simp [g0]) (by simp [g2]) (by simp) (by simp)
        simp -implicitDefEqProofs [hk2,wr,zaU,zbM,g14,w1]
        exact ⟨hlt,p2.1,p2.2,a2,ha2,hp2,rfl⟩
      · have : k = 65 := by omega
        subst this
        rw [show 3*65=195 from rfl] at*
        generalize hH:hx h (bs.set b (poC d m u (p1.2++l.drop 195))++[zd2 p1.1 a1,y,z]) ts=H1 at*
        simp -implicitDefEqProofs [zbd,g14]
        exact ⟨p1.1,p1.2,a1,ha1,hp1,hH.symm⟩)
  rw [hQ] at hp1
  obtain rfl:=Option.some.inj hp1
  exact ⟨fr',a1,rfl,hk⟩
theorem zQW (L:Lim) (h:zab) (bs:List (List zaa)) (ts:List Nat) (b:Nat) (hl:l.length=204) (hb:bs[b]?=some (poC d m u l)) (Q:Nat × List Nat) (hQ:zcJ zlY 195=some Q) (hL:L.rob≤h.blks.length):
    zag ctx L zaZ [pA h.blks.length b 0] (hx h bs ts)=some (.tup [],hx h (bs.set b (poC d m u (Q.2++zae))) ts):=by
  obtain ⟨hbl,hbe⟩:=List.getElem?_eq_some_iff.1 hb
  rw [zjG]
  have hcl:(feL zae).length=36:=by simp [zae]
  have hset:=zNu d m u l zae 783 195 rfl (by simp [zae,hl])
  have hput:putAt l 195 zae=l.take 195++zae:=by
    unfold putAt
    rw [List.drop_of_length_le (by simp [zae,hl]),List.append_nil]
  rw [hput] at hset
  have hl2:(l.take 195++zae).length=204:=by simp [zae,hl]
  have hdrop:(l.take 195++zae).drop 195=zae:=by
    rw [List.drop_append,List.drop_of_length_le (by simp;omega),List.length_take,hl];rfl
  have hlo:=fun L hL a0 ha0 fr R y z=>zKb d m u (l.take 195++zae) (L:=L) (fr:=fr) (h:=h) (R:=R) bs ts b hl2 hbl Q hQ y z hL a0 ha0
  simp only [hdrop] at hlo
  have hob:783+36≤(poC d m u l).length:=by rw [zDY,hl];decide
  have hN:=fun L hL hnb=>zQP L h (bs.set b (poC d m u (l.take 195++zae))) ts hL hnb
  simp only [List.length_set] at hN
  have hN1:=hN ⟨L.rob,L.rot,h.blks.length+bs.length,h.toks.length+ts.length⟩ hL (Nat.le_refl _)
  obtain ⟨a0,ha0,hN2⟩:=hN1
  have htr:=fun js=>zjH h (bs.set b (poC d m u (Q.2++zae))) js ts bs.length (by simp)
  have hC:=zIv
  generalize poC d m u (l.take 195++zae)=c2 at*
  generalize poC d m u (Q.2++zae)=c3 at*
  generalize poC d m u l=c1 at*
  generalize feL zae=cc at*
  simp -implicitDefEqProofs [zdJ,za5,zaQ,hC,zbp,hcl,hb,hbe,hbl,hob,hset,zah,hL,hN2,show 819≤c1.length by omega]
  generalize hF:run ctx _ (.loop _) _ _=R
  obtain ⟨fr1,a1,rfl,hk1⟩:=hlo ⟨L.rob,L.rot,h.blks.length+bs.length,h.toks.length+ts.length⟩ hL a0 ha0 _ _ _ _ hF (by simp) (by simp) (by simp)
  simp -implicitDefEqProofs [htr,za5,zaQ]
end
def zxd (K:List Nat) (r:Int):List Nat:=if 0≤r∧r < 65 then (K.drop (3*r.toNat)).take 3 else [0,0,0]
theorem zFk (K:List Nat) (hK:K.length=204) (r:Int):(zxd K r).length=3:=by
  unfold zxd;split
  · simp [hK];omega
  · rfl
def poF (K:List Nat):List zaa:=poC 1 0 0 K
def zCW (K:List Nat) (cs:List zaa):Prop:=cs=poF K∨∃ l:List Nat,l.length=204∧cs=poC 0 0 0 l
theorem zXh (L:Lim) (h:zab) (bs:List (List zaa)) (ts:List Nat) (b:Nat) (cs:List zaa) (hb:bs[b]?=some cs) (Q:Nat × List Nat) (hQ:zcJ zlY 195=some Q) (hp:zCW (Q.2++zae) cs) (hL:L.rob≤h.blks.length):
    zag ctx L zjq [pA h.blks.length b 0,.fn (.func zaZ) [pA h.blks.length b 0] []] (hx h bs ts)=some (.tup [],hx h (bs.set b (poF (Q.2++zae))) ts):=by
  obtain ⟨hbl,hbe⟩:=List.getElem?_eq_some_iff.1 hb
  have hX:ctx.ext zjq=some zvN:=rfl
  rcases hp with rfl | ⟨l,hl,rfl⟩
  · have e:bs.set b (poF (Q.2++zae))=bs:=by
      refine List.ext_getElem? fun j=>?_
      by_cases e:b=j
      · subst e;rw [List.getElem?_set_self hbl,hb]
      · rw [List.getElem?_set_ne e]
    rw [e]
    exact zxz hX hb (d:=1) (m:=0) rfl rfl (by decide)
  · have hg := zQW 0 1 0 l L h (bs.set b (poC 0 1 0 l)) ts b hl (by simp [hbl]) Q hQ hL
    rw [List.set_set] at hg
    have:=zwh (L:=L) (f:=zjq) (g:=zaZ) (h:=h) (bs:=bs) (ts:=ts) (i:=b) (off:=0) (first:=[pA h.blks.length b 0]) (cap:=[]) hX hb rfl rfl hL (bs2:=bs.set b (poC 0 1 0 (Q.2++zae))) (ts2:=ts) (v:=.tup []) hg (by simp [hbl]:_=some (poC 0 1 0 (Q.2++zae))) rfl rfl
    rw [this,List.set_set]
    rfl
theorem zBR (L:Lim) (h:zab) (bs:List (List zaa)) (ts:List Nat) (b:Nat) (cs:List zaa) (r:Int) (hb:bs[b]?=some cs) (Q:Nat × List Nat) (hQ:zcJ zlY 195=some Q) (hp:zCW (Q.2++zae) cs) (hL:L.rob≤h.blks.length):
    zag ctx L zbf [pA h.blks.length b 0,.int .i64 r] (hx h bs ts)=some (.agg (cW (feL (zxd (Q.2++zae) r))),hx h (bs.set b (poF (Q.2++zae))) ts):=by
  obtain ⟨hbl,hbe⟩:=List.getElem?_eq_some_iff.1 hb
  have hK:(Q.2++zae).length=204:=by simp [zae,(zih zp8 hQ).2]
  rw [zhv]
  have hD:=fun L hL js=>zXh L h (bs++js) ts b cs (zf0 _ hb) Q hQ hp hL
  generalize Q.2++zae=K at*
  have hD1:=fun js=>hD ⟨L.rob,L.rot,h.blks.length+bs.length,h.toks.length+ts.length⟩ hL js
  simp only [zom _ _ hbl] at hD1
  have hdl:(bs.set b (poF K)).length=bs.length:=by simp
  have hget:(bs.set b (poF K))[b]?=some (poF K):=by simp [hbl]
  have htr:=fun js=>zjH h (bs.set b (poF K)) js ts bs.length hdl.symm
  generalize bs.set b (poF K)=ds at*
  have hg0:=fun x=>zaO ds [x] bs.length 0 hdl.symm
  have hs0:=fun x v=>zbY ds [x] bs.length 0 v hdl.symm
  have hgb:=fun x=>zf0 [x] hget
  simp only [Nat.add_zero,List.getElem?_cons_zero,List.set_cons_zero] at hg0 hs0
  have hrl:=zFk K hK r
  by_cases hr:0≤r∧r < 65
  · obtain ⟨n,rfl⟩:=Int.eq_ofNat_of_zero_le hr.1
    have hn:n < 65:=by omega
    have i1:=zaP 65 12 h.blks.length b 3 n .i64 (by simpa using hn)
    have hpt:=zBP 1 0 0 K (3+n*12) (3*n) 3 (by omega) (by omega)
    have hrow:(K.drop (3*n)).take 3=zxd K (n:Int):=by unfold zxd;rw [if_pos hr];rfl
    rw [hrow,show 4*3=12 from rfl] at hpt
    have hl3:(feL (zxd K (n:Int))).length=12:=by simp [hrl]
    have hpF:poF K=poC 1 0 0 K:=rfl
    generalize poC 1 0 0 K=cF at*
    generalize poF K=cF2 at*
    subst hpF
    generalize feL (zxd K (n:Int))=rr at*
    generalize 3+n*12=o at*
    simp -implicitDefEqProofs [zaW,za5,zaQ,zaI,zB1,hD1,show ¬((n:Int) < 0) by omega,show ¬(65:Int)≤n by omega,hg0,hs0,hgb,i1,hpt,zbp,zai,hl3,zah,hL,zaj,htr]
  · have hrow : zxd K r = [0, 0, 0] := by unfold zxd; rw [if_neg hr]
    have hz:(tab 12 fun _=>(0#64:W64))=feL [0,0,0]:=zps 3
    rw [hrow]
    have hl3:(feL [0,0,0]).length=12:=by simp
    generalize feL [0,0,0]=rr at*
    have hfl:zaA (cW rr) []=some (cW rr):=by simp only [zaA]
    by_cases hneg:r < 0
    · simp -implicitDefEqProofs [zaW,za5,zaQ,zaI,zB1,hD1,hneg,hg0,hs0,hz,hfl,zbp,zai,hl3,zah,hL,zaj,htr]
    · have h65 : 65 ≤ r := by omega
      simp -implicitDefEqProofs [zaW,za5,zaQ,zaI,zB1,hD1,hneg,h65,hg0,hs0,hz,hfl,zbp,zai,hl3,zah,hL,zaj,htr]
end Go.Av
namespace Go.Av
def zhr (v c:List Nat) (full:Bool) (j:Nat):Nat:=match full||j==0 with
  | true=>(gd v 0 j+gd c 0 j) ^ 5
  | false=>gd v 0 j+gd c 0 j
def zqd (r:Int):Bool:=decide (r < 4)||decide (61≤r)
def zkm (K v:List Nat) (r:Int):List Nat:=applyN zae (tab 3 (zhr v (zxd K r) (zqd r)))
@[simp] theorem zyr (K v:List Nat) (r:Int):(zkm K v r).length=3:=by simp [zkm]
theorem zGQ {L:Lim} {fr:Fr} {h:zab} {R:Option (AEx × Fr × zab)} (ds:List (List zaa)) (ts:List Nat) (v c:List Nat) (hv:v.length=3) (hc:c.length=3) (full:Bool) (z:List zaa) (hL:L.rob≤h.blks.length)
    (hF:run ctx L (.loop zar) fr (hx h (ds++[cW (feL v),z,cW (feL c)]) ts)=R)
    (h4:fr 4=pA h.blks.length ds.length 0) (h7:fr 7=pA h.blks.length (ds.length+2) 0) (h8:fr 8=.bool full) (h19:fr 19=.int .i64 0):
    ∃ fr',R=some (.exit 0,fr',hx h (ds++[cW (feL (tab 3 (zhr v c full))),z,cW (feL c)]) ts)∧∀ t,t∉wr zar→fr' t=fr t:=by
  have hvt:v=tab 3 (gd v 0):=zot 0 hv
  obtain ⟨e',fr',h',rfl,⟨rfl,rfl⟩,hk⟩:=zaf hF 3
    (fun k fr hh=>fr 19=.int .i64 (k:Int)∧hh=hx h (ds++[cW (feL (za6 3 (zhr v c full) (gd v 0) k)),z,cW (feL c)]) ts)
    (fun e' fr hh=>e'=.exit 0∧hh=hx h (ds++[cW (feL (tab 3 (zhr v c full))),z,cW (feL c)]) ts)
    ⟨h19, by rw [zcc, ← hvt]⟩ (by
      rintro k fr1 hh hkN hkeep ⟨g19,rfl⟩
      have g4:=(hkeep 4 (by decide)).trans h4
      have g7:=(hkeep 7 (by decide)).trans h7
      have g8:=(hkeep 8 (by decide)).trans h8
      by_cases hlt:k < 3
      · have w1 : IntKind.i64.wrap ((k : Int) + 1) = k + 1 := wrap_i64 (by omega) (by omega)
        have i1:=zaP 3 4 h.blks.length ds.length 0 k .i64 (by simpa using hlt)
        have i2:=zaP 3 4 h.blks.length (ds.length+2) 0 k .i64 (by simpa using hlt)
        have hml:(za6 3 (zhr v c full) (gd v 0) k).length=3:=by simp
        have p1:=zh9 (za6 3 (zhr v c full) (gd v 0) k) (0+k*4) k (by omega) (by omega)
        rw [zwU hlt] at p1
        have p2:=zh9 c (0+k*4) k (by omega) (by omega)
        have hA:=fun L h=>zPm L h (gd v 0 k) (gd c 0 k)
        have hP:=fun L h=>zLI L h (gd v 0 k+gd c 0 k)
        have s1:=zDb (za6 3 (zhr v c full) (gd v 0) k) (gd v 0 k+gd c 0 k) (0+k*4) k (by omega) (by omega)
        have p3:=zh9 ((za6 3 (zhr v c full) (gd v 0) k).set k (gd v 0 k+gd c 0 k)) (0+k*4) k (by omega) (by simpa using hlt)
        rw [zlA _ _ _ _ _ (by omega),if_pos rfl] at p3
        have s2:=zDb ((za6 3 (zhr v c full) (gd v 0) k).set k (gd v 0 k+gd c 0 k)) ((gd v 0 k+gd c 0 k) ^ 5) (0+k*4) k (by omega) (by simpa using hlt)
        rw [List.set_set] at s2
        have hmx:=zdn 3 (zhr v c full) (gd v 0) k
        have hb1:0+k*4+4≤(cW (feL (za6 3 (zhr v c full) (gd v 0) k))).length:=by simp;omega
        have hb2:0+k*4+4≤(cW (feL ((za6 3 (zhr v c full) (gd v 0) k).set k (gd v 0 k+gd c 0 k)))).length:=by simp;omega
        have hr0:=fun x y=>zaO ds [x,z,y] ds.length 0 rfl
        have hr2:=fun x y=>zaO ds [x,z,y] ds.length 2 rfl
        have hs0:=fun x y v=>zbY ds [x,z,y] ds.length 0 v rfl
        simp only [Nat.add_zero,List.getElem?_cons_zero,List.getElem?_cons_succ,List.set_cons_zero] at hr0 hr2 hs0
        have l1:=zaV (gd v 0 k+gd c 0 k)
        have l2:=zaV ((gd v 0 k+gd c 0 k) ^ 5)
        have hk0:((k:Int)==0)=(k==0):=by
          by_cases e:k=0
          · subst e;rfl
          · rw [beq_false_of_ne e];exact beq_false_of_ne (by omega)
        cases hfu:(full||k==0) with
        | true=>
          have hst:zhr v c full k=(gd v 0 k+gd c 0 k) ^ 5:=by unfold zhr;rw [hfu]
          rw [← hst,hmx] at s2
          rw [← hst] at hP l2
          generalize fe (zhr v c full k)=f2 at*
          generalize fe (gd v 0 k+gd c 0 k)=f1 at*
          generalize cW (feL ((za6 3 (zhr v c full) (gd v 0) k).set k (gd v 0 k+gd c 0 k)))=m1 at*
          generalize hm2:cW (feL (za6 3 (zhr v c full) (gd v 0) (k+1)))=m2 at*
          generalize cW (feL (za6 3 (zhr v c full) (gd v 0) k))=m0 at*
          generalize 0+k*4=o at*
          simp -implicitDefEqProofs [zar,g4,g7,g8,g19,show (k:Int) < 3 by omega,w1,i1,i2,p1,p2,p3,hA,hP,s1,s2,hb1,hb2,hr0,hr2,hs0,l1,l2,zbp,zah,hL,hk0,hm2]
          cases full with
          | true=>simp -implicitDefEqProofs [zbp,zah,hL,l1,l2,p1,p2,p3,hA,hP,s1,s2,hb1,hb2,hr0,hr2,hs0,i1,i2,hm2,g4,w1,g19];exact hlt
          | false=>
            have hk1:(k==0)=true:=by simpa using hfu
            simp -implicitDefEqProofs [hk0.trans hk1,hk1,zbp,zah,hL,l1,l2,p1,p2,p3,hA,hP,s1,s2,hb1,hb2,hr0,hr2,hs0,i1,i2,hm2,g4,w1,g19]
            exact hlt
        | false=>
          have hst:zhr v c full k=gd v 0 k+gd c 0 k:=by unfold zhr;rw [hfu]
          rw [← hst] at s1 l1 hA
          rw [hmx] at s1
          have hff:full=false:=by cases full;rfl;simp at hfu
          subst hff
          have hkk:(k==0)=false:=by simpa using hfu
          generalize fe (zhr v c false k)=f2 at*
          generalize hm2:cW (feL (za6 3 (zhr v c false) (gd v 0) (k+1)))=m2 at*
          generalize cW (feL (za6 3 (zhr v c false) (gd v 0) k))=m0 at*
          generalize 0+k*4=o at*
          simp -implicitDefEqProofs [zar,g4,g7,g8,g19,show (k:Int) < 3 by omega,w1,i1,i2,p1,p2,hA,s1,hb1,hr0,hr2,hs0,l1,zbp,zah,hL,hk0.trans hkk,hk0,hkk,hm2]
          exact hlt
      · have : k = 3 := by omega
        subst this
        rw [zft]
        simp [zar,g19])
  exact ⟨fr',rfl,hk⟩
theorem zNA (L:Lim) (h:zab) (bs:List (List zaa)) (ts:List Nat) (b:Nat) (cs:List zaa) (v:List Nat) (r:Int) (hv:v.length=3) (hb:bs[b]?=some cs) (Q:Nat × List Nat) (hQ:zcJ zlY 195=some Q) (hp:zCW (Q.2++zae) cs) (hL:L.rob≤h.blks.length):
    zag ctx L zbZ [pA h.blks.length b 0,.agg (cW (feL v)),.int .i64 r] (hx h bs ts)=some (.agg (cW (feL (zkm (Q.2++zae) v r))),hx h (bs.set b (poF (Q.2++zae))) ts):=by
  obtain ⟨hbl,hbe⟩:=List.getElem?_eq_some_iff.1 hb
  have hK:(Q.2++zae).length=204:=by simp [zae,(zih zp8 hQ).2]
  have hmat:((Q.2++zae).drop 195).take 9=zae:=by
    have e:=(zih zp8 hQ).2
    rw [List.drop_append,List.drop_of_length_le (by omega),e]
    rfl
  have hpm:=zBP 1 0 0 (Q.2++zae) 783 195 9 rfl (by omega)
  rw [hmat] at hpm
  rw [zi8]
  have hC:=fun L hL js=>zBR L h (bs++js) ts b cs r (zf0 _ hb) Q hQ hp hL
  have hrl:=zFk (Q.2++zae) hK r
  have hlo:=fun L hL fr R ds z=>zGQ (L:=L) (fr:=fr) (h:=h) (R:=R) ds ts v (zxd (Q.2++zae) r) hv hrl (zqd r) z hL
  have hAp:=fun L h=>zL9 L h zae (tab 3 (zhr v (zxd (Q.2++zae) r) (zqd r))) (by simp [zae]) (by simp)
  have hrn:applyN zae (tab 3 (zhr v (zxd (Q.2++zae) r) (zqd r)))=zkm (Q.2++zae) v r:=rfl
  rw [hrn] at hAp
  have hpF:poF (Q.2++zae)=poC 1 0 0 (Q.2++zae):=rfl
  have hfl:=zDY 1 0 0 (Q.2++zae)
  rw [hK] at hfl
  have l1:(feL v).length=12:=by simp [hv]
  have l2:(feL (zxd (Q.2++zae) r)).length=12:=by simp [hrl]
  have l3:(feL (zkm (Q.2++zae) v r)).length=12:=by simp
  have l4:(feL (tab 3 (zhr v (zxd (Q.2++zae) r) (zqd r)))).length=12:=by simp
  rw [← hpF] at hpm hfl
  generalize feL (zxd (Q.2++zae) r)=cr at*
  generalize feL (tab 3 (zhr v (zxd (Q.2++zae) r) (zqd r)))=vr at*
  generalize feL (zkm (Q.2++zae) v r)=rr at*
  generalize feL v=v0 at*
  generalize feL zae=cm at*
  generalize poF (Q.2++zae)=cF at*
  have hC1:=fun js=>hC ⟨L.rob,L.rot,h.blks.length+bs.length,h.toks.length+ts.length⟩ hL js
  simp only [zom _ _ hbl] at hC1
  have hdl:(bs.set b cF).length=bs.length:=by simp
  have hget:(bs.set b cF)[b]?=some cF:=by simp [hbl]
  have htr:=fun js=>zjH h (bs.set b cF) js ts bs.length hdl.symm
  generalize bs.set b cF=ds at*
  have hs2:=fun x y z v=>zbY ds [x,y,z] bs.length 2 v hdl.symm
  have hg2:=fun x y z=>zaO ds [x,y,z] bs.length 2 hdl.symm
  have hs1:=fun x y z v=>zbY ds [x,y,z] bs.length 1 v hdl.symm
  have hg1:=fun x y z=>zaO ds [x,y,z] bs.length 1 hdl.symm
  have hg0:=fun x y z=>zaO ds [x,y,z] bs.length 0 hdl.symm
  have hgb:=fun x y z=>zf0 [x,y,z] hget
  simp only [Nat.add_zero,List.getElem?_cons_zero,List.getElem?_cons_succ,List.set_cons_zero,List.set_cons_succ] at hg0 hg1 hg2 hs1 hs2
  have hf:zqd r=(decide (r < 4)||decide (61≤r)):=rfl
  have hokv:(zaa.agg (cW v0)).okV=true:=zii _
  have hcel:(zaa.agg (cW v0)).cells=cW v0:=by simp only [zaa.cells]
  have hlo1:=fun fr R z=>hlo ⟨L.rob,L.rot,h.blks.length+bs.length,h.toks.length+ts.length⟩ hL fr R ds z
  rw [hdl] at hlo1
  generalize zqd r=fu at*
  by_cases hr4:r < 4
  · obtain rfl : fu = true := by rw [hf]; simp [hr4]
    simp -implicitDefEqProofs [zbe,za5,zaQ,zaI,zB1,zbX,hokv,hcel,hC1,hr4,hg2,hs2,hdl,zbp,zai,l1,l2,zah,hL]
    generalize hF:run ctx _ (.loop _) _ _=R
    obtain ⟨fr1,rfl,hk1⟩:=hlo1 _ _ _ hF (by simp) (by simp) (by simp) (by simp)
    simp -implicitDefEqProofs [hk1,wr,zar,zbM,hg0,hg1,hs1,hgb,hpm,zaj,l4,l3,hAp,zbp,zai,zah,hL,htr,za5,zaQ]
  · by_cases hr61:61≤r
    · obtain rfl : fu = true := by rw [hf]; simp [hr61]
      simp -implicitDefEqProofs [zbe,za5,zaQ,zaI,zB1,zbX,hokv,hcel,hC1,hr4,hr61,hg2,hs2,hdl,zbp,zai,l1,l2,zah,hL]
      generalize hF:run ctx _ (.loop _) _ _=R
      obtain ⟨fr1,rfl,hk1⟩:=hlo1 _ _ _ hF (by simp) (by simp) (by simp) (by simp)
      simp -implicitDefEqProofs [hk1,wr,zar,zbM,hg0,hg1,hs1,hgb,hpm,zaj,l4,l3,hAp,zbp,zai,zah,hL,htr,za5,zaQ]
    · obtain rfl : fu = false := by rw [hf]; simp [hr4, hr61]
      simp -implicitDefEqProofs [zbe,za5,zaQ,zaI,zB1,zbX,hokv,hcel,hC1,hr4,hr61,hg2,hs2,hdl,zbp,zai,l1,l2,zah,hL]
      generalize hF:run ctx _ (.loop _) _ _=R
      obtain ⟨fr1,rfl,hk1⟩:=hlo1 _ _ _ hF (by simp) (by simp) (by simp) (by simp)
      simp -implicitDefEqProofs [hk1,wr,zar,zbM,hg0,hg1,hs1,hgb,hpm,zaj,l4,l3,hAp,zbp,zai,zah,hL,htr,za5,zaQ]
end Go.Av
namespace Go.Av
def zfi (K v:List Nat):Nat→List Nat
  | 0=>v
  | k+1=>zkm K (zfi K v k) (k:Int)
theorem zna (K v:List Nat) (hv:v.length=3):∀ k,(zfi K v k).length=3
  | 0=>hv
  | k+1=>zyr _ _ _
theorem zNC {α:Type} {bs:List α} {b:Nat} {cs:α} (hb:bs[b]?=some cs):bs.set b cs=bs:=by
  refine List.ext_getElem? fun j=>?_
  by_cases e:b=j
  · subst e;rw [List.getElem?_set_self (List.getElem?_eq_some_iff.1 hb).1,hb]
  · rw [List.getElem?_set_ne e]
theorem zKi {L:Lim} {fr:Fr} {h:zab} {R:Option (AEx × Fr × zab)} (bs:List (List zaa)) (ts:List Nat) (b:Nat) (cs:List zaa) (v:List Nat) (hv:v.length=3) (hb:bs[b]?=some cs) (Q:Nat × List Nat) (hQ:zcJ zlY 195=some Q) (hp:zCW (Q.2++zae) cs) (z:List zaa) (hL:L.rob≤h.blks.length)
    (hF:run ctx L (.loop zaG) fr (hx h (bs++[cW (feL v),z]) ts)=R)
    (h0:fr 0=pA h.blks.length b 0) (h3:fr 3=pA h.blks.length bs.length 0) (h6:fr 6=.int .i64 0):
    ∃ fr',R=some (.exit 0,fr',hx h (bs.set b (poF (Q.2++zae))++[cW (feL (zfi (Q.2++zae) v 65)),z]) ts)∧∀ t,t∉wr zaG→fr' t=fr t:=by
  obtain ⟨hbl,hbe⟩:=List.getElem?_eq_some_iff.1 hb
  obtain ⟨e',fr',h',rfl,⟨rfl,rfl⟩,hk⟩:=zaf hF 65
    (fun k fr hh=>fr 6=.int .i64 (k:Int)∧∃ c',zCW (Q.2++zae) c'∧(k=0∨c'=poF (Q.2++zae))∧hh=hx h (bs.set b c'++[cW (feL (zfi (Q.2++zae) v k)),z]) ts)
    (fun e' fr hh=>e'=.exit 0∧hh=hx h (bs.set b (poF (Q.2++zae))++[cW (feL (zfi (Q.2++zae) v 65)),z]) ts)
    ⟨h6, cs, hp, .inl rfl, by rw [zNC hb]; rfl⟩ (by
      rintro k fr1 hh hkN hkeep ⟨g6,c',hp',hor,rfl⟩
      have g0:=(hkeep 0 (by decide)).trans h0
      have g3:=(hkeep 3 (by decide)).trans h3
      by_cases hlt:k < 65
      · have w1 : IntKind.i64.wrap ((k : Int) + 1) = k + 1 := wrap_i64 (by omega) (by omega)
        have hdl:(bs.set b c').length=bs.length:=by simp
        have hdl2:(bs.set b (poF (Q.2++zae))).length=bs.length:=by simp
        have hR:=zNA L h (bs.set b c'++[cW (feL (zfi (Q.2++zae) v k)),z]) ts b c' (zfi (Q.2++zae) v k) (k:Int) (zna _ _ hv k) (zf0 _ (by simp [hbl])) Q hQ hp' hL
        rw [zom _ _ (by simpa using hbl),List.set_set] at hR
        have hn:zkm (Q.2++zae) (zfi (Q.2++zae) v k) (k:Int)=zfi (Q.2++zae) v (k+1):=rfl
        rw [hn] at hR
        have l1:(feL (zfi (Q.2++zae) v k)).length=12:=by simp [zna _ _ hv]
        have l2:(feL (zfi (Q.2++zae) v (k+1))).length=12:=by simp [zna _ _ hv]
        generalize feL (zfi (Q.2++zae) v k)=v1 at*
        generalize hv2:feL (zfi (Q.2++zae) v (k+1))=v2 at*
        have hg0:=fun x=>zaO (bs.set b c') [x,z] bs.length 0 hdl.symm
        have hs0:=fun x v=>zbY (bs.set b (poF (Q.2++zae))) [x,z] bs.length 0 v hdl2.symm
        have hg1:=fun x=>zaO (bs.set b (poF (Q.2++zae))) [x,z] bs.length 0 hdl2.symm
        simp only [Nat.add_zero,List.getElem?_cons_zero,List.set_cons_zero] at hg0 hs0 hg1
        generalize bs.set b c'=d1 at*
        generalize hd2:bs.set b (poF (Q.2++zae))=d2 at*
        simp -implicitDefEqProofs [zaG,g0,g3,g6,show (k:Int) < 65 by omega,w1,hR,hg0,hs0,hg1,zaj,zbp,zai,l1,l2,zah,hL]
        exact ⟨hlt,poF (Q.2++zae),.inl rfl,rfl,by rw [hd2,hv2]⟩
      · have : k = 65 := by omega
        subst this
        obtain rfl:c'=poF (Q.2++zae):=by
          rcases hor with h | h
          · omega
          · exact h
        generalize zfi (Q.2++zae) v 65=pv at*
        simp [zaG,g6])
  exact ⟨fr',rfl,hk⟩
theorem zKk (L:Lim) (h:zab) (bs:List (List zaa)) (ts:List Nat) (b:Nat) (cs:List zaa) (v:List Nat) (hv:v.length=3) (hb:bs[b]?=some cs) (Q:Nat × List Nat) (hQ:zcJ zlY 195=some Q) (hp:zCW (Q.2++zae) cs) (hL:L.rob≤h.blks.length):
    zag ctx L zaB [pA h.blks.length b 0,.agg (cW (feL v))] (hx h bs ts)=some (.agg (cW (feL (zfi (Q.2++zae) v 65))),hx h (bs.set b (poF (Q.2++zae))) ts):=by
  obtain ⟨hbl,hbe⟩:=List.getElem?_eq_some_iff.1 hb
  rw [zil]
  have hlo:=fun L hL fr R z=>zKi (L:=L) (fr:=fr) (h:=h) (R:=R) bs ts b cs v hv hb Q hQ hp z hL
  have hlo1:=fun fr R z=>hlo ⟨L.rob,L.rot,h.blks.length+bs.length,h.toks.length+ts.length⟩ hL fr R z
  have l1:(feL v).length=12:=by simp [hv]
  have l2:(feL (zfi (Q.2++zae) v 65)).length=12:=by simp [zna _ _ hv]
  generalize feL (zfi (Q.2++zae) v 65)=v2 at*
  generalize feL v=v1 at*
  have hdl:(bs.set b (poF (Q.2++zae))).length=bs.length:=by simp
  generalize bs.set b (poF (Q.2++zae))=ds at*
  have htr:=fun js=>zjH h ds js ts bs.length hdl.symm
  have hg0:=fun x y=>zaO ds [x,y] bs.length 0 hdl.symm
  have hg1:=fun x y=>zaO ds [x,y] bs.length 1 hdl.symm
  have hs1:=fun x y v=>zbY ds [x,y] bs.length 1 v hdl.symm
  simp only [Nat.add_zero,List.getElem?_cons_zero,List.getElem?_cons_succ,List.set_cons_zero,List.set_cons_succ] at hg0 hg1 hs1
  have hokv:(zaa.agg (cW v1)).okV=true:=zii _
  have hcel:(zaa.agg (cW v1)).cells=cW v1:=by simp only [zaa.cells]
  simp -implicitDefEqProofs [zcO,za5,zaQ,zaI,zB1,zbX,hokv,hcel]
  generalize hF:run ctx _ (.loop _) _ _=R
  obtain ⟨fr1,rfl,hk1⟩:=hlo1 _ _ _ hF (by simp) (by simp) (by simp)
  simp -implicitDefEqProofs [hk1,wr,zaG,zbM,hg0,hg1,hs1,zaj,l2,zbp,zai,zah,hL,htr,za5,zaQ]
theorem zNF : poC 0 0 0 (tab 204 fun _ => 0) = poH 0 0 0 ++ zaS (.int .u64 0) 816 := by
  unfold poC
  rw [zaI,← zps 204]
def pnG:AC:=.seq (.reg [iv 0 (.mv (.k (.nilp)))])
 (.seq (.reg [iv 1 (.build (poH 0 0 0++zaS (.int .u64 0) 816) []),
   ic 2 (.box (.t 1)),iv 0 (.mv (.t 2))])
 (.ret))
theorem zUp:zmu=pnG:=rfl
theorem zQ3 (L : Lim) (h : zab) (bs : List (List zaa)) (ts : List Nat) : zag ctx L zjp [] (hx h bs ts) = some (pA h.blks.length bs.length 0, hx h (bs ++ [poC 0 0 0 (tab 204 fun _ => 0)]) ts) := by
  rw [zuk,zUp]
  unfold pnG
  rw [← zNF]
  generalize poC 0 0 0 (tab 204 fun _=>0)=c at*
  have hok:(zaa.agg c).okV=true:=zii _
  have hcl:(zaa.agg c).cells=c:=by simp only [zaa.cells]
  have hfl:zaA c []=some c:=by simp only [zaA]
  simp -implicitDefEqProofs [hfl,zbX,hok,hcl]
theorem zNG (K:List Nat):zCW K (poC 0 0 0 (tab 204 fun _=>0)):=.inr ⟨_,by simp,rfl⟩
end Go.Av
namespace Go.Av
end Go.Av
namespace Go.Av
theorem zGT:∃ Q,zcJ zlY 195=some Q:=Option.isSome_iff_exists.1 (by decide +kernel:(zcJ zlY 195).isSome=true)
end Go.Av
