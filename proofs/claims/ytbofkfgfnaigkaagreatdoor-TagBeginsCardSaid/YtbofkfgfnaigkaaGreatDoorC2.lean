/- The field's arithmetic of the program is that of the numbers modulo the prime. -/
import Derived.Test.YtbofkfgfnaigkaaGreatDoorC0
set_option linter.unusedSimpArgs false
set_option linter.unusedVariables false
set_option maxHeartbeats 2000000
set_option maxRecDepth 20000
namespace Go.Av
theorem zoA (k m:Nat):(k:Int).tmod (m:Int)=((k % m:Nat):Int):=by rw [Int.tmod_eq_emod_of_nonneg (by omega)];omega
theorem zuB (k m:Nat):(k:Int).tdiv (m:Int)=((k / m:Nat):Int):=by rw [Int.tdiv_eq_ediv_of_nonneg (by omega)];omega
theorem zRT (k:Nat):(k:Int).tdiv 2=((k / 2:Nat):Int):=zuB k 2
theorem zfQ (n:Nat) (h:n < 9223372036854775808):IntKind.i64.wrap (n:Int)=n:=wrap_i64 (by omega) (by omega)
def inB (l:List Int):Prop:=∀ i,i < l.length→0≤gd l 0 i∧gd l 0 i < 256
theorem zlA {α:Type} (l:List α) (d v:α) (i j:Nat) (hi:i < l.length):gd (l.set i v) d j=if i=j then v else gd l d j:=by
  unfold gd
  simp only [List.getD,List.getElem?_set]
  split <;> simp_all
theorem zAm {α:Type} (l m:List α) (d:α) (j:Nat) (hj:j < l.length):gd (l++m) d j=gd l d j:=by
  unfold gd;simp only [List.getD,List.getElem?_append_left hj]
theorem zAo {α:Type} (l m:List α) (d:α) (j:Nat) (hj:l.length≤j):gd (l++m) d j=gd m d (j - l.length):=by
  unfold gd;simp only [List.getD,List.getElem?_append_right hj]
theorem zLq (v:Nat) (hv:v < 256):(bw (v:Int)).toNat=v:=by unfold bw;rw [BitVec.toNat_ofInt];omega
def leN:List Int→Nat
  | []=>0
  | x :: l=>x.toNat+256*leN l
theorem zFG {l : List Int} (h : inB l) : ∀ x ∈ l, 0 ≤ x ∧ x < 256 := fun x hx => by
  obtain ⟨i,hi,rfl⟩:=List.getElem_of_mem hx
  have:=h i hi
  rwa [gd,List.getD,List.getElem?_eq_getElem hi] at this
theorem zFH {l : List Int} (h : ∀ x ∈ l, 0 ≤ x ∧ x < 256) : inB l := fun i hi => by
  rw [gd,List.getD,List.getElem?_eq_getElem hi];exact h _ (List.getElem_mem hi)
theorem zCH:∀ {l:List Int},inB l→leN l < 256 ^ l.length
  | [],_=>by simp [leN]
  | x :: l, h => by
    have h1:=zFG h x (by simp)
    have h2:=zCH (zFH (l:=l) fun y hy=>zFG h y (by simp [hy]))
    simp only [leN,List.length_cons,Nat.pow_succ]
    omega
theorem zAq:∀ (l:List Int) (x:Int),leN (l++[x])=leN l+x.toNat*256 ^ l.length
  | [],x=>by simp [leN]
  | y :: l, x => by
    simp only [List.cons_append,leN,zAq l x,List.length_cons,Nat.pow_succ,Nat.mul_add,Nat.add_assoc,Nat.mul_comm,Nat.mul_left_comm]
theorem zAr {l:List Int} (h:inB l) (n:Nat):inB (l.take n):=zFH fun x hx=>zFG h x (List.mem_of_mem_take hx)
theorem zAt {l:List Int} (h:inB l) (n:Nat):inB (l.drop n):=zFH fun x hx=>zFG h x (List.mem_of_mem_drop hx)
def bck (b:List Int) (q k:Nat):List Int:=(b.take (min k (8*q+8))).drop (8*q)
theorem zRV (b:List Int) (q k:Nat) (hk:k≤b.length):(bck b q k).length=min k (8*q+8) - 8*q:=by simp [bck];omega
def wdP (b:List Int) (n:Nat):Nat→List W64
  | 0=>tab n fun _=>0#64
  | k+1=>(wdP b n k).set (k / 8) (gd (wdP b n k) 0#64 (k / 8)|||(bw (gd b 0 k) <<< (8*(k % 8))))
@[simp] theorem zAw (b:List Int) (n:Nat):∀ k,(wdP b n k).length=n
  | 0=>by simp [wdP]
  | k+1=>by simp [wdP,zAw b n k]
theorem zVf (w:W64) (v m:Nat) (hv:v < 256) (hm:m < 8) (hw:w.toNat < 256 ^ m):(w|||(bw (v:Int) <<< (8*m))).toNat=w.toNat+v*256 ^ m:=by
  have e:256 ^ m=2 ^ (8*m):=by rw [show (256:Nat)=2 ^ 8 from rfl,← Nat.pow_mul]
  rw [e] at hw ⊢
  have h8:(2:Nat) ^ (8*m)*256≤2 ^ 64:=by
    rw [show (256:Nat)=2 ^ 8 from rfl,← Nat.pow_add];exact Nat.pow_le_pow_right (by decide) (by omega)
  have hlt:v <<< (8*m) < 2 ^ 64:=by
    rw [Nat.shiftLeft_eq]
    calc v*2 ^ (8*m) < 256*2 ^ (8*m):=Nat.mul_lt_mul_of_pos_right hv (Nat.two_pow_pos _)
      _≤2 ^ 64:=by rw [Nat.mul_comm];exact h8
  rw [BitVec.toNat_or,BitVec.toNat_shiftLeft,zLq v hv,Nat.mod_eq_of_lt hlt,Nat.or_comm,← Nat.shiftLeft_add_eq_or_of_lt hw,Nat.shiftLeft_eq,Nat.add_comm]
theorem zLt (b:List Int) (hb:inB b) (n:Nat):∀ k,k≤b.length→k≤8*n→∀ q,q < n→(gd (wdP b n k) 0#64 q).toNat=leN (bck b q k)
  | 0,_,_,q,hq=>by rw [wdP,zbz hq];simp [bck,leN]
  | k + 1, hk, hn, q, hq => by
    have ih:=zLt b hb n k (by omega) (by omega) q hq
    have hlen:=zRV b q k (by omega)
    have hlt:=zCH (zAt (zAr hb (min k (8*q+8))) (8*q))
    have hbk:=hb k (by omega)
    rw [wdP]
    rw [zlA _ _ _ _ _ (by simp;omega)]
    by_cases h:k / 8=q
    · rw [if_pos h,h]
      obtain ⟨v,hv⟩:∃ v:Nat,gd b 0 k=(v:Int):=⟨(gd b 0 k).toNat,by omega⟩
      have hm:(bck b q k).length=k % 8:=by rw [hlen];omega
      have hsn:bck b q (k+1)=bck b q k++[gd b 0 k]:=by
        unfold bck
        rw [show min (k+1) (8*q+8)=k+1 by omega,show min k (8*q+8)=k by omega,zto 0 (by omega),List.drop_append_of_le_length (by simp;omega)]
      rw [hsn,zAq,hm,← ih,hv,zVf _ v _ (by omega) (by omega) ?_]
      · simp
      · rw [ih,← hm];exact hlt
    · rw [if_neg h,ih]
      congr 1
      unfold bck
      by_cases h2:k < 8*q
      · rw [List.drop_eq_nil_of_le (by simp;omega),List.drop_eq_nil_of_le (by simp;omega)]
      · rw [show min (k+1) (8*q+8)=min k (8*q+8) by omega]
end Go.Av
namespace Go.Av
def val:List W64→Nat
  | []=>0
  | w :: l=>w.toNat+18446744073709551616*val l
def pN:Nat:=21888242871839275222246405745257275088548364400416034343698204186575808495617
def rN:Nat:=115792089237316195423570985008687907853269984665640564039457584007913129639936
def pW:List W64:=[0x43e1f593f0000001#64,0x2833e84879b97091#64,0xb85045b68181585d#64,0x30644e72e131a029#64]
def zwj:W64:=14042775128853446655#64
theorem zJz:val pW=pN:=by decide +kernel
theorem zW3:(1+zwj.toNat*(0x43e1f593f0000001:Nat)) % 18446744073709551616=0:=by decide +kernel
def w4 (x:Nat):List W64:=[BitVec.ofNat 64 x,BitVec.ofNat 64 (x / 18446744073709551616),BitVec.ofNat 64 (x / 340282366920938463463374607431768211456),BitVec.ofNat 64 (x / 6277101735386680763835789423207666416102355444464034512896)]
@[simp] theorem ztk (x:Nat):(w4 x).length=4:=rfl
theorem zuI (x:Nat) (h:x < rN):val (w4 x)=x:=by
  simp only [w4,val,BitVec.toNat_ofNat]
  unfold rN at h
  omega
theorem zsq {l:List W64} (h:l.length=4):∃ a b c d,l=[a,b,c,d]:=by
  match l,h with
  | [a,b,c,d],_=>exact ⟨a,b,c,d,rfl⟩
theorem zJF {l:List W64} (h:l.length=5):∃ a b c d e,l=[a,b,c,d,e]:=by
  match l,h with
  | [a,b,c,d,e],_=>exact ⟨a,b,c,d,e,rfl⟩
theorem zDL {l:List W64} (h:l.length=4):val l < rN:=by
  obtain ⟨a,b,c,d,rfl⟩:=zsq h
  have:=a.isLt;have:=b.isLt;have:=c.isLt;have:=d.isLt
  simp only [val];unfold rN;omega
theorem zJI {l:List W64} (h:l.length=4):w4 (val l)=l:=by
  obtain ⟨a,b,c,d,rfl⟩:=zsq h
  have h1:=a.isLt;have h2:=b.isLt;have h3:=c.isLt;have h4:=d.isLt
  have e : ∀ (w : W64) (n : Nat), n % 18446744073709551616 = w.toNat → BitVec.ofNat 64 n = w := fun w n hn => by
    apply BitVec.eq_of_toNat_eq
    rw [BitVec.toNat_ofNat];exact hn
  simp only [val,w4]
  rw [e a _ (by omega),e b _ (by omega),e c _ (by omega),e d _ (by omega)]
def lnL (a x y c:W64):W64:=BitVec.ofNat 64 (a.toNat+x.toNat*y.toNat+c.toNat)
def lnH (a x y c:W64):W64:=BitVec.ofNat 64 ((a.toNat+x.toNat*y.toNat+c.toNat) / 18446744073709551616)
theorem zBA (a x y c:W64):(lnL a x y c).toNat+18446744073709551616*(lnH a x y c).toNat=a.toNat+x.toNat*y.toNat+c.toNat:=by
  have h1:=a.isLt;have h2:=x.isLt;have h3:=y.isLt;have h4:=c.isLt
  have h5:x.toNat*y.toNat≤18446744073709551615*18446744073709551615:=Nat.mul_le_mul (by omega) (by omega)
  simp only [lnL,lnH,BitVec.toNat_ofNat]
  omega
def zmY (t:List W64) (x:W64) (b:List W64):Nat→List W64 × W64
  | 0=>(t,0#64)
  | j+1=>((zmY t x b j).1.set j (lnL (gd (zmY t x b j).1 0#64 j) x (gd b 0#64 j) (zmY t x b j).2),lnH (gd (zmY t x b j).1 0#64 j) x (gd b 0#64 j) (zmY t x b j).2)
def zsr (t:List W64) (k:W64):Nat→List W64 × W64
  | 0=>(t,lnH (gd t 0#64 0) k (gd pW 0#64 0) 0#64)
  | j+1=>((zsr t k j).1.set j (lnL (gd (zsr t k j).1 0#64 (j+1)) k (gd pW 0#64 (j+1)) (zsr t k j).2),lnH (gd (zsr t k j).1 0#64 (j+1)) k (gd pW 0#64 (j+1)) (zsr t k j).2)
def adS (t:List W64) (c:W64):List W64:=t.set 4 (gd t 0#64 4+c)
def zSd (u:List W64) (c:W64):List W64:=(u.set 3 (BitVec.ofNat 64 ((gd u 0#64 4).toNat+c.toNat))).set 4 (BitVec.ofNat 64 (((gd u 0#64 4).toNat+c.toNat) / 18446744073709551616))
def zuK (t:List W64) (x:W64) (b:List W64):List W64:=
  zSd (zsr (adS (zmY t x b 4).1 (zmY t x b 4).2) (gd (adS (zmY t x b 4).1 (zmY t x b 4).2) 0#64 0*zwj) 3).1 (zsr (adS (zmY t x b 4).1 (zmY t x b 4).2) (gd (adS (zmY t x b 4).1 (zmY t x b 4).2) 0#64 0*zwj) 3).2
def zml (a b:List W64):Nat→List W64
  | 0=>tab 5 fun _=>0#64
  | i+1=>zuK (zml a b i) (gd a 0#64 i) b
@[simp] theorem zzH (t:List W64) (x:W64) (b:List W64):∀ j,(zmY t x b j).1.length=t.length
  | 0=>rfl
  | j+1=>by simp [zmY,zzH t x b j]
@[simp] theorem zzI (t:List W64) (k:W64):∀ j,(zsr t k j).1.length=t.length
  | 0=>rfl
  | j+1=>by simp [zsr,zzI t k j]
@[simp] theorem zQE (t:List W64) (c:W64):(adS t c).length=t.length:=by simp [adS]
@[simp] theorem zVL (t:List W64) (c:W64):(zSd t c).length=t.length:=by simp [zSd]
@[simp] theorem zSf (t:List W64) (x:W64) (b:List W64):(zuK t x b).length=t.length:=by simp [zuK]
@[simp] theorem zp7 (a b:List W64):∀ i,(zml a b i).length=5
  | 0=>rfl
  | i+1=>by simp [zml,zp7 a b i]
theorem zQI (t0 t1 t2 t3 t4 x b0 b1 b2 b3:W64):∃ l0 l1 l2 l3 c,zmY [t0,t1,t2,t3,t4] x [b0,b1,b2,b3] 4=([l0,l1,l2,l3,t4],c)∧
    l0.toNat+18446744073709551616*(l1.toNat+18446744073709551616*(l2.toNat+18446744073709551616*(l3.toNat+18446744073709551616*c.toNat)))=
      t0.toNat+18446744073709551616*(t1.toNat+18446744073709551616*(t2.toNat+18446744073709551616*t3.toNat))+x.toNat*val [b0,b1,b2,b3]:=by
  refine ⟨_,_,_,_,_,rfl,?_⟩
  simp only [gd,List.getD_cons_zero,List.getD_cons_succ,List.set_cons_zero,List.set_cons_succ,zmY]
  have q0:=zBA t0 x b0 0#64
  generalize lnL t0 x b0 0#64=l0 at*
  generalize lnH t0 x b0 0#64=c0 at*
  have q1:=zBA t1 x b1 c0
  generalize lnL t1 x b1 c0=l1 at*
  generalize lnH t1 x b1 c0=c1 at*
  have q2:=zBA t2 x b2 c1
  generalize lnL t2 x b2 c1=l2 at*
  generalize lnH t2 x b2 c1=c2 at*
  have q3:=zBA t3 x b3 c2
  generalize lnL t3 x b3 c2=l3 at*
  generalize lnH t3 x b3 c2=c3 at*
  simp only [val,Nat.mul_add,Nat.mul_zero,Nat.add_zero,BitVec.toNat_zero] at*
  have e1:x.toNat*(18446744073709551616*b1.toNat)=18446744073709551616*(x.toNat*b1.toNat):=by rw [Nat.mul_left_comm]
  have e2:x.toNat*(18446744073709551616*(18446744073709551616*b2.toNat))=18446744073709551616*(18446744073709551616*(x.toNat*b2.toNat)):=by rw [Nat.mul_left_comm,Nat.mul_left_comm x.toNat]
  have e3:x.toNat*(18446744073709551616*(18446744073709551616*(18446744073709551616*b3.toNat)))=18446744073709551616*(18446744073709551616*(18446744073709551616*(x.toNat*b3.toNat))):=by
    rw [Nat.mul_left_comm,Nat.mul_left_comm x.toNat,Nat.mul_left_comm x.toNat]
  rw [e1,e2,e3]
  generalize x.toNat*b0.toNat=m0 at*
  generalize x.toNat*b1.toNat=m1 at*
  generalize x.toNat*b2.toNat=m2 at*
  generalize x.toNat*b3.toNat=m3 at*
  omega
theorem zQK (t0 t1 t2 t3 t4:W64):∃ r0 r1 r2 t3' c,zsr [t0,t1,t2,t3,t4] (t0*zwj) 3=([r0,r1,r2,t3',t4],c)∧
    18446744073709551616*(r0.toNat+18446744073709551616*(r1.toNat+18446744073709551616*(r2.toNat+18446744073709551616*c.toNat)))=
      t0.toNat+18446744073709551616*(t1.toNat+18446744073709551616*(t2.toNat+18446744073709551616*t3.toNat))+(t0*zwj).toNat*pN:=by
  refine ⟨_,_,_,_,_,rfl,?_⟩
  have hk:(t0.toNat+(t0*zwj).toNat*0x43e1f593f0000001) % 18446744073709551616=0:=by
    rw [BitVec.toNat_mul]
    have:=zW3
    rw [show zwj.toNat=14042775128853446655 from rfl] at this ⊢
    omega
  generalize t0*zwj=k at*
  simp only [gd,List.getD_cons_zero,List.getD_cons_succ,List.set_cons_zero,List.set_cons_succ,zsr,pW]
  have q0:=zBA t0 k 0x43e1f593f0000001#64 0#64
  generalize lnL t0 k 0x43e1f593f0000001#64 0#64=l0 at*
  generalize lnH t0 k 0x43e1f593f0000001#64 0#64=c0 at*
  have q1:=zBA t1 k 0x2833e84879b97091#64 c0
  generalize lnL t1 k 0x2833e84879b97091#64 c0=l1 at*
  generalize lnH t1 k 0x2833e84879b97091#64 c0=c1 at*
  have q2:=zBA t2 k 0xb85045b68181585d#64 c1
  generalize lnL t2 k 0xb85045b68181585d#64 c1=l2 at*
  generalize lnH t2 k 0xb85045b68181585d#64 c1=c2 at*
  have q3:=zBA t3 k 0x30644e72e131a029#64 c2
  generalize lnL t3 k 0x30644e72e131a029#64 c2=l3 at*
  generalize lnH t3 k 0x30644e72e131a029#64 c2=c3 at*
  have z0:l0.toNat < 18446744073709551616:=l0.isLt
  rw [show (0x43e1f593f0000001#64:W64).toNat=0x43e1f593f0000001 from rfl,show (0#64:W64).toNat=0 from rfl] at q0
  rw [show (0x2833e84879b97091#64:W64).toNat=0x2833e84879b97091 from rfl] at q1
  rw [show (0xb85045b68181585d#64:W64).toNat=0xb85045b68181585d from rfl] at q2
  rw [show (0x30644e72e131a029#64:W64).toNat=0x30644e72e131a029 from rfl] at q3
  have hl0:l0.toNat=0:=by omega
  unfold pN
  omega
theorem zJS {t b:List W64} (ht:t.length=5) (hb:b.length=4) (x:W64) (h1:val t < 2*pN) (h2:val b < pN):
    ∃ k,18446744073709551616*val (zuK t x b)=val t+x.toNat*val b+k*pN∧val (zuK t x b) < 2*pN:=by
  obtain ⟨t0,t1,t2,t3,t4,rfl⟩:=zJF ht
  obtain ⟨b0,b1,b2,b3,rfl⟩:=zsq hb
  obtain ⟨l0,l1,l2,l3,c,e1,q1⟩:=zQI t0 t1 t2 t3 t4 x b0 b1 b2 b3
  have hx:=x.isLt
  have hm:x.toNat*val [b0,b1,b2,b3]≤18446744073709551615*(pN - 1):=Nat.mul_le_mul (by omega) (by omega)
  unfold zuK
  rw [e1]
  simp only [adS,gd,List.getD_cons_zero,List.getD_cons_succ,List.set_cons_zero,List.set_cons_succ]
  generalize val [b0,b1,b2,b3]=vb at*
  obtain ⟨r0,r1,r2,t3',c',e2,q2⟩:=zQK l0 l1 l2 l3 (t4+c)
  rw [e2]
  have hkl:(l0*zwj).toNat≤18446744073709551615:=by have:=(l0*zwj).isLt;omega
  have hkp:(l0*zwj).toNat*pN≤18446744073709551615*pN:=Nat.mul_le_mul_right _ hkl
  refine ⟨(l0*zwj).toNat,?_⟩
  generalize (l0*zwj).toNat*pN=kp at*
  generalize x.toNat*vb=m at*
  have h4:=t4.isLt;have hc:=c.isLt;have hc':=c'.isLt
  have z0:=l0.isLt;have z1:=l1.isLt;have z2:=l2.isLt;have z3:=l3.isLt
  have y0:=r0.isLt;have y1:=r1.isLt;have y2:=r2.isLt
  simp only [val,Nat.mul_zero,Nat.add_zero,pN] at h1 hm hkp
  have e4:(t4+c).toNat=t4.toNat+c.toNat:=by
    rw [BitVec.toNat_add]
    omega
  simp only [zSd,gd,List.getD_cons_zero,List.getD_cons_succ,List.set_cons_zero,List.set_cons_succ,val,BitVec.toNat_ofNat,e4,Nat.mul_zero,Nat.add_zero,pN]
  omega
theorem zFd:∀ (l:List W64) (w:W64),val (l++[w])=val l+w.toNat*18446744073709551616 ^ l.length
  | [],w=>by simp [val]
  | a :: l, w => by
    simp only [List.cons_append,val,zFd l w,List.length_cons,Nat.pow_succ,Nat.mul_add,Nat.add_assoc,Nat.mul_comm,Nat.mul_left_comm]
theorem zFe {a b:List W64} (ha:a.length=4) (hb:b.length=4) (h2:val b < pN):∀ i,i≤4→val (zml a b i) < 2*pN∧∃ k,18446744073709551616 ^ i*val (zml a b i)=val (a.take i)*val b+k*pN
  | 0, _ => by
    have h0:val (zml a b 0)=0:=(show val (tab 5 fun _=>0#64)=0 by decide +kernel)
    exact ⟨by rw [h0];decide +kernel,0,by rw [h0];simp [val]⟩
  | i + 1, hi => by
    obtain ⟨h3,k,hk⟩:=zFe ha hb h2 i (by omega)
    obtain ⟨k',hk',hlt⟩:=zJS (zp7 a b i) hb (gd a 0#64 i) h3 h2
    refine ⟨hlt,k+k'*18446744073709551616 ^ i,?_⟩
    have hil:i < a.length:=by omega
    rw [zto 0#64 hil,zFd,List.length_take,Nat.min_eq_left (by omega)]
    show 18446744073709551616 ^ (i+1)*val (zuK (zml a b i) (gd a 0#64 i) b)=_
    rw [Nat.pow_succ,Nat.mul_assoc,hk']
    generalize 18446744073709551616 ^ i=q at*
    generalize val (zml a b i)=v at*
    generalize val b=vb at*
    generalize (gd a 0#64 i).toNat=g at*
    generalize val (a.take i)=va at*
    grind
end Go.Av
namespace Go.Av
def zHD:Nat:=9915499612839321149637521777990102151350674507940716049588462388200839649614
theorem zT0:rN*zHD % pN=1:=by decide +kernel
def zwq (a b:Nat):Nat:=a*b*zHD % pN
theorem zd1:0 < pN:=by decide
def zxG (x:Nat):Nat:=if x < pN then x else x - pN
theorem zvx {x:Nat} (h:x < 2*pN):zxG x=x % pN:=by
  unfold zxG
  split
  · rw [Nat.mod_eq_of_lt (by assumption)]
  · rw [Nat.mod_eq_sub_mod (by omega),Nat.mod_eq_of_lt (by omega)]
theorem zQQ {x:Nat} (h:x < 2*pN):zxG x < pN:=by rw [zvx h];exact Nat.mod_lt _ zd1
theorem zGH {a b:List W64} (ha:a.length=4) (hb:b.length=4) (h2:val b < pN):val ((zml a b 4).take 4) < 2*pN∧zxG (val ((zml a b 4).take 4))=zwq (val a) (val b):=by
  obtain ⟨h3,k,hk⟩:=zFe ha hb h2 4 (by omega)
  have h4:=zp7 a b 4
  generalize zml a b 4=t at*
  obtain ⟨t0,t1,t2,t3,t4,rfl⟩:=zJF h4
  have e4:t4.toNat=0:=by
    simp only [val,pN] at h3
    omega
  have e5:val (List.take 4 [t0,t1,t2,t3,t4])=val [t0,t1,t2,t3,t4]:=by
    simp [val,e4]
  rw [e5]
  refine ⟨h3,?_⟩
  rw [List.take_of_length_le (by omega)] at hk
  have hb':=zQQ h3
  have hm:=zvx h3
  have hdiv:=Nat.div_add_mod (val [t0,t1,t2,t3,t4]) pN
  generalize val [t0,t1,t2,t3,t4]=v at*
  rw [← hm] at hdiv
  rw [show (18446744073709551616:Nat) ^ 4=rN from rfl] at hk
  have hrp:rN*zxG v+rN*(pN*(v / pN))=val a*val b+k*pN:=by rw [← Nat.mul_add,Nat.add_comm (zxG v),hdiv];exact hk
  have h5:rN*zxG v % pN=val a*val b % pN:=by
    have e1:(rN*zxG v+rN*(pN*(v / pN))) % pN=rN*zxG v % pN:=by
      rw [show rN*(pN*(v / pN))=(rN*(v / pN))*pN by rw [Nat.mul_left_comm,Nat.mul_comm]]
      exact Nat.add_mul_mod_self_right _ _ _
    rw [← e1,hrp,Nat.add_mul_mod_self_right]
  unfold zwq
  calc zxG v=zxG v % pN:=(Nat.mod_eq_of_lt hb').symm
    _=(1*zxG v) % pN:=by rw [Nat.one_mul]
    _=(rN*zHD % pN*zxG v) % pN:=by rw [zT0]
    _=(rN*zHD*zxG v) % pN:=by rw [Nat.mod_mul_mod]
    _=(rN*zxG v*zHD) % pN:=by rw [Nat.mul_right_comm]
    _=(rN*zxG v % pN*zHD) % pN:=by rw [Nat.mod_mul_mod]
    _=(val a*val b % pN*zHD) % pN:=by rw [h5]
    _=val a*val b*zHD % pN:=by rw [Nat.mod_mul_mod]
def fe (x:Nat):List W64:=w4 (x*rN % pN)
@[simp] theorem zaV (x:Nat):(fe x).length=4:=rfl
theorem zuL (x:Nat):val (fe x)=x*rN % pN:=zuI _ (Nat.lt_trans (Nat.mod_lt _ zd1) (by decide))
theorem zp9 (x:Nat):val (fe x) < pN:=by rw [zuL];exact Nat.mod_lt _ zd1
theorem zyp (x:Nat):fe (x % pN)=fe x:=by unfold fe;rw [Nat.mod_mul_mod]
theorem zBO (x:Nat):x*rN % pN*zHD % pN=x % pN:=by
  rw [Nat.mod_mul_mod,Nat.mul_assoc,← Nat.mul_mod_mod,zT0,Nat.mul_one]
theorem zT6 {x y:Nat} (h:fe x=fe y):x % pN=y % pN:=by
  have:=congrArg val h
  rw [zuL,zuL] at this
  rw [← zBO x,← zBO y,this]
theorem zNs (x y:Nat):zwq (val (fe x)) (val (fe y))=x*y*rN % pN:=by
  unfold zwq
  rw [zuL,zuL]
  calc x * rN % pN * (y * rN % pN) * zHD % pN = x * rN % pN * (y * rN % pN * zHD) % pN := by rw [Nat.mul_assoc]
    _=x*rN % pN*(y*rN % pN*zHD % pN) % pN:=by rw [Nat.mul_mod_mod]
    _=x*rN % pN*(y % pN) % pN:=by rw [zBO]
    _=x*rN*y % pN:=by rw [Nat.mul_mod_mod,Nat.mod_mul_mod]
    _=x*y*rN % pN:=by rw [Nat.mul_right_comm]
theorem zQT (x y:Nat):w4 (zwq (val (fe x)) (val (fe y)))=fe (x*y):=by
  have e:zwq (val (fe x)) (val (fe y))=x*y*rN % pN:=zNs x y
  rw [e];rfl
theorem zQU (a:Nat):zwq a (rN*rN % pN)=a*rN % pN:=by
  unfold zwq
  rw [Nat.mul_assoc,← Nat.mul_mod_mod,zBO,Nat.mul_mod_mod]
theorem zNg (x:Nat):zwq (val (fe x)) 1=x % pN:=by
  unfold zwq
  rw [zuL,Nat.mul_one,zBO]
theorem zTU (x y:Nat):w4 (zxG (val (fe x)+val (fe y)))=fe (x+y):=by
  have h1:=zp9 x
  have h2:=zp9 y
  rw [zvx (by omega),zuL,zuL]
  unfold fe
  rw [← Nat.add_mod,Nat.add_mul]
end Go.Av
namespace Go.Av
theorem wd0:zaa.int .u64 0=wd 0#64:=rfl
theorem wd1:zaa.int .u64 1=wd 1#64:=rfl
def adL (x y c:W64):W64:=BitVec.ofNat 64 (x.toNat+y.toNat+c.toNat)
def adH (x y c:W64):W64:=BitVec.ofNat 64 ((x.toNat+y.toNat+c.toNat) / 18446744073709551616)
def sbL (x y c:W64):W64:=BitVec.ofNat 64 (x.toNat+18446744073709551616 - y.toNat - c.toNat)
def sbH (x y c:W64):W64:=if x.toNat < y.toNat+c.toNat then 1#64 else 0#64
theorem zJX (x y c:W64) (hc:c.toNat≤1):(adL x y c).toNat+18446744073709551616*(adH x y c).toNat=x.toNat+y.toNat+c.toNat∧(adH x y c).toNat≤1:=by
  have h1:=x.isLt;have h2:=y.isLt
  simp only [adL,adH,BitVec.toNat_ofNat]
  omega
theorem zzM (x y c:W64) (hc:c.toNat≤1):(sbL x y c).toNat+y.toNat+c.toNat=x.toNat+18446744073709551616*(sbH x y c).toNat∧(sbH x y c).toNat≤1:=by
  have h1:=x.isLt;have h2:=y.isLt
  simp only [sbL,sbH,BitVec.toNat_ofNat]
  split
  · rw [show (1#64:W64).toNat=1 from rfl];omega
  · rw [show (0#64:W64).toNat=0 from rfl];omega
theorem zzO (L:Lim) (h:zab) (x y c:W64) (hc:decide (c.toNat≤1)=true):zag ctx L zdw [wd x,wd y,wd c] h=some (.tup [wd (adL x y c),wd (adH x y c)],h):=by
  have hc':c.toNat≤1:=by simpa using hc
  have:=zHL (L:=L) (h:=h) zrR x y c.toNat hc'
  rw [show zaa.int .u64 (c.toNat:Int)=wd c from rfl] at this
  rw [this]
  have h1:=x.isLt;have h2:=y.isLt
  rw [zSR _ (by omega)]
  rfl
theorem zFf (L:Lim) (h:zab) (x y c:W64) (hc:decide (c.toNat≤1)=true):zag ctx L zdx [wd x,wd y,wd c] h=some (.tup [wd (sbL x y c),wd (sbH x y c)],h):=by
  have hc':c.toNat≤1:=by simpa using hc
  have:=zHM (L:=L) (h:=h) zrS x y c.toNat hc'
  rw [show zaa.int .u64 (c.toNat:Int)=wd c from rfl] at this
  rw [this]
  unfold sbL sbH
  split <;> rfl
def zVN (x y:W64):W64:=BitVec.ofNat 64 (x.toNat*y.toNat / 18446744073709551616)
theorem zQO (x y:W64):(x >>> 32)*(y >>> 32)+(((x >>> 32)*(y&&&4294967295#64)+((x&&&4294967295#64)*(y&&&4294967295#64)) >>> 32) >>> 32) +
    ((((x >>> 32)*(y&&&4294967295#64)+((x&&&4294967295#64)*(y&&&4294967295#64)) >>> 32)&&&4294967295#64)+(x&&&4294967295#64)*(y >>> 32)) >>> 32=zVN x y:=by
  have hm : ∀ w : W64, (w &&& 4294967295#64).toNat = w.toNat % 4294967296 := fun w => by
    rw [BitVec.toNat_and,show (4294967295#64:W64).toNat=2 ^ 32 - 1 from rfl,Nat.and_two_pow_sub_one_eq_mod]
  have hs : ∀ w : W64, (w >>> 32).toNat = w.toNat / 4294967296 := fun w => by
    rw [BitVec.toNat_ushiftRight,Nat.shiftRight_eq_div_pow]
  apply BitVec.eq_of_toNat_eq
  simp only [zVN,BitVec.toNat_add,BitVec.toNat_mul,hm,hs,BitVec.toNat_ofNat]
  have h1:=x.isLt;have h2:=y.isLt
  generalize x.toNat=a at*
  generalize y.toNat=b at*
  have ea:a=a / 4294967296*4294967296+a % 4294967296:=by omega
  have eb:b=b / 4294967296*4294967296+b % 4294967296:=by omega
  have b1:a / 4294967296≤4294967295:=by omega
  have b2:a % 4294967296≤4294967295:=by omega
  have b3:b / 4294967296≤4294967295:=by omega
  have b4:b % 4294967296≤4294967295:=by omega
  generalize a / 4294967296=a1 at*
  generalize a % 4294967296=a0 at*
  generalize b / 4294967296=b1' at*
  generalize b % 4294967296=b0 at*
  have em:a*b=a1*b1'*18446744073709551616+(a1*b0+a0*b1')*4294967296+a0*b0:=by
    subst ea eb;grind
  have c1:a1*b1'≤4294967295*4294967295:=Nat.mul_le_mul b1 b3
  have c2:a1*b0≤4294967295*4294967295:=Nat.mul_le_mul b1 b4
  have c3:a0*b1'≤4294967295*4294967295:=Nat.mul_le_mul b2 b3
  have c4:a0*b0≤4294967295*4294967295:=Nat.mul_le_mul b2 b4
  rw [em]
  generalize a1*b1'=p at*
  generalize a1*b0=q at*
  generalize a0*b1'=r at*
  generalize a0*b0=s at*
  omega
theorem zNn (L:Lim) (h:zab) (x y:W64):zag ctx L zgx [wd x,wd y] h=some (.tup [wd (zVN x y),wd (x*y)],h):=by
  rw [zq9]
  have hm:zaa.int .u64 4294967295=wd 4294967295#64:=rfl
  have h32:∀ x:W64,zdj .shr (wd x) (.int .u64 32)=some (wd (x >>> 32)):=fun x=>zsR x .u64 32 (by decide)
  have e:=zQO x y
  simp [zi4,hm,h32, -zfH]
  exact congrArg wd e
theorem zDS (L:Lim) (h:zab) (a x y c:W64):zag ctx L zhT [wd a,wd x,wd y,wd c] h=some (.tup [wd (lnL a x y c),wd (lnH a x y c)],h):=by
  rw [zvT]
  have h0:(0#64:W64).toNat=0:=rfl
  simp [zqc,zak,wd0,zNn,zzO,h0]
  have h1:=a.isLt;have h2:=x.isLt;have h3:=y.isLt;have h4:=c.isLt
  have h5:x.toNat*y.toNat≤18446744073709551615*18446744073709551615:=Nat.mul_le_mul (by omega) (by omega)
  have e1:(x*y).toNat=x.toNat*y.toNat % 18446744073709551616:=by rw [BitVec.toNat_mul]
  constructor
  · congr 1
    apply BitVec.eq_of_toNat_eq
    simp only [lnL,adL,BitVec.toNat_ofNat,e1,h0]
    omega
  · congr 1
    apply BitVec.eq_of_toNat_eq
    simp only [lnH,adL,adH,zVN,BitVec.toNat_ofNat,BitVec.toNat_add,e1,h0]
    generalize x.toNat*y.toNat=m at*
    omega
theorem zNo:cW pW=[.int .u64 4891460686036598785,.int .u64 2896914383306846353,.int .u64 13281191951274694749,.int .u64 3486998266802970665]:=rfl
theorem zlZ (L:Lim) (h:zab):zag ctx L zdi [] h=some (.agg (cW pW),h):=by
  rw [zvc]
  simp [zoo,zak,zaS,zaA,zbp,zai,zaj,zzs,zNo]
end Go.Av
namespace Go.Av
def plK (a b:List W64):Nat→List W64 × W64
  | 0=>(tab 4 fun _=>0#64,0#64)
  | k+1=>((plK a b k).1.set k (adL (gd a 0#64 k) (gd b 0#64 k) (plK a b k).2),adH (gd a 0#64 k) (gd b 0#64 k) (plK a b k).2)
def boK (a b:List W64):Nat→List W64 × W64
  | 0=>(tab 4 fun _=>0#64,0#64)
  | k+1=>((boK a b k).1.set k (sbL (gd a 0#64 k) (gd b 0#64 k) (boK a b k).2),sbH (gd a 0#64 k) (gd b 0#64 k) (boK a b k).2)
@[simp] theorem zDX (a b:List W64):∀ k,(plK a b k).1.length=4
  | 0=>rfl
  | k+1=>by simp [plK,zDX a b k]
@[simp] theorem zDU (a b:List W64):∀ k,(boK a b k).1.length=4
  | 0=>rfl
  | k+1=>by simp [boK,zDU a b k]
theorem zTO (a b:List W64):∀ k,(plK a b k).2.toNat≤1
  | 0=>by simp [plK]
  | k+1=>(zJX _ _ _ (zTO a b k)).2
theorem zQw (a b:List W64):∀ k,(boK a b k).2.toNat≤1
  | 0=>by simp [boK]
  | k+1=>(zzM _ _ _ (zQw a b k)).2
theorem zMY (a b:List W64) (k:Nat):plK a b (k+1)=((plK a b k).1.set k (adL (gd a 0#64 k) (gd b 0#64 k) (plK a b k).2),adH (gd a 0#64 k) (gd b 0#64 k) (plK a b k).2):=by rw [plK]
theorem zM0 (a b:List W64) (k:Nat):boK a b (k+1)=((boK a b k).1.set k (sbL (gd a 0#64 k) (gd b 0#64 k) (boK a b k).2),sbH (gd a 0#64 k) (gd b 0#64 k) (boK a b k).2):=by rw [boK]
theorem zQx (a b:List W64) (ha:a.length=4) (hb:b.length=4) (h:val a+val b < rN):(plK a b 4).1=w4 (val a+val b):=by
  obtain ⟨a0,a1,a2,a3,rfl⟩:=zsq ha
  obtain ⟨b0,b1,b2,b3,rfl⟩:=zsq hb
  rw [← zJI (zDX [a0,a1,a2,a3] [b0,b1,b2,b3] 4)]
  congr 1
  simp only [plK,gd,List.getD_cons_zero,List.getD_cons_succ,List.set_cons_zero,List.set_cons_succ,show tab 4 (fun _=>0#64)=[0#64,0#64,0#64,0#64] from rfl]
  have q0:=zJX a0 b0 0#64 (by decide)
  generalize adL a0 b0 0#64=l0 at*
  generalize adH a0 b0 0#64=c0 at*
  have q1:=zJX a1 b1 c0 q0.2
  generalize adL a1 b1 c0=l1 at*
  generalize adH a1 b1 c0=c1 at*
  have q2:=zJX a2 b2 c1 q1.2
  generalize adL a2 b2 c1=l2 at*
  generalize adH a2 b2 c1=c2 at*
  have q3:=zJX a3 b3 c2 q2.2
  generalize adL a3 b3 c2=l3 at*
  generalize adH a3 b3 c2=c3 at*
  have z0:=l0.isLt;have z1:=l1.isLt;have z2:=l2.isLt;have z3:=l3.isLt
  simp only [val,BitVec.toNat_zero,rN] at*
  omega
theorem zQy (a b:List W64) (ha:a.length=4) (hb:b.length=4):(boK a b 4).1=w4 (if val a < val b then val a+rN - val b else val a - val b)∧(boK a b 4).2=if val a < val b then 1#64 else 0#64:=by
  have hva:=zDL ha
  have hvb:=zDL hb
  obtain ⟨a0,a1,a2,a3,rfl⟩:=zsq ha
  obtain ⟨b0,b1,b2,b3,rfl⟩:=zsq hb
  have key:val (boK [a0,a1,a2,a3] [b0,b1,b2,b3] 4).1+val [b0,b1,b2,b3]=val [a0,a1,a2,a3] + rN*(boK [a0,a1,a2,a3] [b0,b1,b2,b3] 4).2.toNat:=by
    simp only [boK,gd,List.getD_cons_zero,List.getD_cons_succ,List.set_cons_zero,List.set_cons_succ,show tab 4 (fun _=>0#64)=[0#64,0#64,0#64,0#64] from rfl]
    have q0:=zzM a0 b0 0#64 (by decide)
    generalize sbL a0 b0 0#64=l0 at*
    generalize sbH a0 b0 0#64=c0 at*
    have q1:=zzM a1 b1 c0 q0.2
    generalize sbL a1 b1 c0=l1 at*
    generalize sbH a1 b1 c0=c1 at*
    have q2:=zzM a2 b2 c1 q1.2
    generalize sbL a2 b2 c1=l2 at*
    generalize sbH a2 b2 c1=c2 at*
    have q3:=zzM a3 b3 c2 q2.2
    generalize sbL a3 b3 c2=l3 at*
    generalize sbH a3 b3 c2=c3 at*
    simp only [val,BitVec.toNat_zero,rN] at*
    omega
  have hc:=zQw [a0,a1,a2,a3] [b0,b1,b2,b3] 4
  have hl:=zDU [a0,a1,a2,a3] [b0,b1,b2,b3] 4
  have hv:=zDL hl
  generalize boK [a0,a1,a2,a3] [b0,b1,b2,b3] 4=q at*
  obtain ⟨l,c⟩:=q
  simp only at*
  generalize val [a0,a1,a2,a3]=va at*
  generalize val [b0,b1,b2,b3]=vb at*
  rw [← zJI hl]
  rcases (show c.toNat=0∨c.toNat=1 by omega) with h0 | h0
  · rw [h0,Nat.mul_zero] at key
    have h:¬va < vb:=by omega
    rw [if_neg h,if_neg h]
    exact ⟨congrArg w4 (by omega),BitVec.eq_of_toNat_eq h0⟩
  · rw [h0,Nat.mul_one] at key
    have h:va < vb:=by omega
    rw [if_pos h,if_pos h]
    exact ⟨congrArg w4 (by omega),BitVec.eq_of_toNat_eq h0⟩
theorem zJv {fr:Fr} {h:zab} {R:Option (AEx × Fr × zab)} (a b:List W64) (ha:a.length=4) (hb:b.length=4)
    (hF:run ctx (zak h) (.loop zgM) fr (hx h [cW (plK a b 0).1] [])=R)
    (h2:fr 2=.vptr (cW a) 0) (h3:fr 3=.vptr (cW b) 0) (h4:fr 4=pA h.blks.length 0 0) (h5:fr 5=wd 0#64) (h7:fr 7=.int .i64 0):
    ∃ fr',R=some (.exit 0,fr',hx h [cW (plK a b 4).1] [])∧∀ t,t∉wr zgM→fr' t=fr t:=by
  obtain ⟨e,fr',h',rfl,⟨rfl,rfl⟩,hk⟩:=zaf hF 4
    (fun k fr hh=>fr 7=.int .i64 k∧fr 5=wd (plK a b k).2∧hh=hx h [cW (plK a b k).1] [])
    (fun e fr hh=>e=.exit 0∧hh=hx h [cW (plK a b 4).1] [])
    ⟨h7,h5,rfl⟩ (by
      rintro k fr1 hh hkN hkeep ⟨g7,g5,rfl⟩
      have g2:=(hkeep 2 (by decide)).trans h2
      have g3:=(hkeep 3 (by decide)).trans h3
      have g4:=(hkeep 4 (by decide)).trans h4
      by_cases hlt:k < 4
      · have w1 : IntKind.i64.wrap ((k : Int) + 1) = k + 1 := wrap_i64 (by omega) (by omega)
        have hc:=zTO a b k
        have hl:=zDX a b k
        have hst:=zMY a b k
        generalize plK a b k=q at*
        simp [zgM,zak,g7,g5,g2,g3,g4,hlt,show (k:Int) < 4 by omega,show k≤3 by omega,w1,zaP,ze6,ha,hb,zzO,hc,hl,hst]
      · have : k = 4 := by omega
        subst this
        simp [zgM,g7])
  exact ⟨fr',rfl,hk⟩
theorem zJx (L:Lim) (h:zab) (a b:List W64) (ha:a.length=4) (hb:b.length=4) (hs:val a+val b < rN):zag ctx L zjD [.agg (cW a),.agg (cW b)] h=some (.agg (cW (w4 (val a+val b))),h):=by
  rw [zw5]
  have e0:cW (tab 4 fun _=>0#64)=cW (plK a b 0).1:=rfl
  simp [zqy,zak,zaI,e0]
  generalize hF:run ctx _ (.loop _) _ _=R
  obtain ⟨fr1,rfl,hk1⟩:=zJv a b ha hb hF (by simp) (by simp) (by simp) (by simp [wd0]) (by simp)
  simp [hk1,wr,zgM,zbM,zaj,zbp,zai,zQx a b ha hb hs]
theorem zDI {fr:Fr} {h:zab} {R:Option (AEx × Fr × zab)} (a b:List W64) (ha:a.length=4) (hb:b.length=4)
    (hF:run ctx (zak h) (.loop zeO) fr (hx h [cW (boK a b 0).1] [])=R)
    (h2:fr 2=.vptr (cW a) 0) (h3:fr 3=.vptr (cW b) 0) (h4:fr 4=pA h.blks.length 0 0) (h5:fr 5=wd 0#64) (h7:fr 7=.int .i64 0):
    ∃ fr',R=some (.exit 0,fr',hx h [cW (boK a b 4).1] [])∧fr' 5=wd (boK a b 4).2∧∀ t,t∉wr zeO→fr' t=fr t:=by
  obtain ⟨e,fr',h',rfl,⟨rfl,rfl,h5'⟩,hk⟩:=zaf hF 4
    (fun k fr hh=>fr 7=.int .i64 k∧fr 5=wd (boK a b k).2∧hh=hx h [cW (boK a b k).1] [])
    (fun e fr hh=>e=.exit 0∧hh=hx h [cW (boK a b 4).1] []∧fr 5=wd (boK a b 4).2)
    ⟨h7,h5,rfl⟩ (by
      rintro k fr1 hh hkN hkeep ⟨g7,g5,rfl⟩
      have g2:=(hkeep 2 (by decide)).trans h2
      have g3:=(hkeep 3 (by decide)).trans h3
      have g4:=(hkeep 4 (by decide)).trans h4
      by_cases hlt:k < 4
      · have w1 : IntKind.i64.wrap ((k : Int) + 1) = k + 1 := wrap_i64 (by omega) (by omega)
        have hc:=zQw a b k
        have hl:=zDU a b k
        have hst:=zM0 a b k
        have hS:=fun L h=>zFf L h (gd a 0#64 k) (gd b 0#64 k) (boK a b k).2 (by simpa using hc)
        generalize boK a b k=q at*
        generalize sbL (gd a 0#64 k) (gd b 0#64 k) q.2=u at*
        generalize sbH (gd a 0#64 k) (gd b 0#64 k) q.2=v at*
        simp -implicitDefEqProofs [zeO,zak,g7,g5,g2,g3,g4,hlt,show (k:Int) < 4 by omega,show k≤3 by omega,w1,zaP,ze6,ha,hb,hS,hc,hl,hst]
      · have : k = 4 := by omega
        subst this
        simp [zeO,g7,g5])
  exact ⟨fr',rfl,h5',hk⟩
theorem zBs (L:Lim) (h:zab) (a b:List W64) (ha:a.length=4) (hb:b.length=4):zag ctx L zg8 [.agg (cW a),.agg (cW b)] h=
    some (.tup [.agg (cW (w4 (if val a < val b then val a+rN - val b else val a - val b))),wd (if val a < val b then 1#64 else 0#64)],h):=by
  rw [zt1]
  have e0:cW (tab 4 fun _=>0#64)=cW (boK a b 0).1:=rfl
  simp [zmn,zak,zaI,e0]
  generalize hF:run ctx _ (.loop _) _ _=R
  obtain ⟨fr1,rfl,h5,hk1⟩:=zDI a b ha hb hF (by simp) (by simp) (by simp) (by simp [wd0]) (by simp)
  obtain ⟨e1,e2⟩:=zQy a b ha hb
  rw [e2] at h5
  simp [hk1,h5,wr,zeO,zbM,zaj,zbp,zai,e1]
theorem zzD (L:Lim) (h:zab) (a:List W64) (ha:a.length=4):zag ctx L zgq [.agg (cW a)] h=some (.agg (cW (w4 (zxG (val a)))),h):=by
  rw [zvf]
  have hb:=fun L h=>zBs L h a pW ha rfl
  simp only [zJz] at hb
  by_cases hlt:val a < pN
  · simp only [if_pos hlt] at hb
    have he:(wd 1#64=zaa.int .u64 1):=rfl
    simp [zkJ,zak,zaI,zlZ,zaj,zbp,zai,hb,ha,he]
    rw [zxG,if_pos hlt,zJI ha]
  · simp only [if_neg hlt] at hb
    have he:(wd 0#64=zaa.int .u64 0):=rfl
    simp [zkJ,zak,zaI,zlZ,zaj,zbp,zai,hb,ha,he]
    rw [zxG,if_neg hlt]
end Go.Av
namespace Go.Av
def zLF:Nat→W64
  | 0=>1#64
  | k+1=>zLF k*(2#64 - 0x43e1f593f0000001#64*zLF k)
theorem zJE (k:Nat):zLF (k+1)=zLF k*(2#64 - 0x43e1f593f0000001#64*zLF k):=rfl
theorem zM6: -zLF 6=zwj:=by decide +kernel
theorem zBt {L:Lim} {fr:Fr} {H:zab} {R:Option (AEx × Fr × zab)} (hF:run ctx L (.loop zd3) fr H=R)
    (h1:fr 1=wd 0x43e1f593f0000001#64) (h2:fr 2=wd 1#64) (h5:fr 5=.int .i64 0):
    ∃ fr',R=some (.exit 0,fr',H)∧fr' 2=wd (zLF 6)∧∀ t,t∉wr zd3→fr' t=fr t:=by
  obtain ⟨e,fr',h',rfl,⟨rfl,rfl,h2'⟩,hk⟩:=zaf hF 6
    (fun k fr hh=>fr 5=.int .i64 k∧fr 2=wd (zLF k)∧hh=H)
    (fun e fr hh=>e=.exit 0∧hh=H∧fr 2=wd (zLF 6))
    ⟨h5,h2,rfl⟩ (by
      rintro k fr1 hh hkN hkeep ⟨g5,g2,rfl⟩
      have g1:=(hkeep 1 (by decide)).trans h1
      by_cases hlt:k < 6
      · have w1 : IntKind.i64.wrap ((k : Int) + 1) = k + 1 := wrap_i64 (by omega) (by omega)
        have e2:zaa.int .u64 2=wd 2#64:=rfl
        have hst:=zJE k
        generalize zLF k=q at*
        simp [zd3,g5,g2,g1,hlt,show (k:Int) < 6 by omega,w1,e2,hst]
      · have : k = 6 := by omega
        subst this
        simp [zd3,g5,g2])
  exact ⟨fr',rfl,h2',hk⟩
theorem zBx (x:W64):unA .neg (wd x)=some (wd (0#64 - x)):=by
  have:=zEG 0#64 x
  rw [← this]
  rfl
theorem zGy (L:Lim) (h:zab):zag ctx L zij [] h=some (wd zwj,h):=by
  rw [zsU]
  have hp:(cW pW)[0]?=some (wd 0x43e1f593f0000001#64):=rfl
  simp [zk8,zak,zlZ,zWd,zat,hp]
  generalize hF:run ctx _ (.loop _) _ _=R
  obtain ⟨fr1,rfl,h2,hk1⟩:=zBt hF (by simp) (by simp [wd1]) (by simp)
  simp [hk1,h2,wr,zd3,zbM,zBx,zM6]
theorem zGz {fr:Fr} {h:zab} {R:Option (AEx × Fr × zab)} (t b:List W64) (x:W64) (z y:List zaa) (ht:t.length=5) (hb:b.length=4)
    (hF:run ctx (zak h) (.loop zbk) fr (hx h [z,y,cW t] [])=R)
    (h7:fr 7=pA h.blks.length 2 0) (h9:fr 9=wd x) (h10:fr 10=wd 0#64) (h21:fr 21=.agg (cW b)) (h22:fr 22=.int .i64 0):
    ∃ fr',R=some (.exit 2,fr',hx h [z,y,cW (zmY t x b 4).1] [])∧fr' 10=wd (zmY t x b 4).2∧∀ t,t∉wr zbk→fr' t=fr t:=by
  obtain ⟨e,fr',h',rfl,⟨rfl,rfl,h10'⟩,hk⟩:=zaf hF 4
    (fun k fr hh=>fr 22=.int .i64 k∧fr 10=wd (zmY t x b k).2∧hh=hx h [z,y,cW (zmY t x b k).1] [])
    (fun e fr hh=>e=.exit 2∧hh=hx h [z,y,cW (zmY t x b 4).1] []∧fr 10=wd (zmY t x b 4).2)
    ⟨h22,h10,rfl⟩ (by
      rintro k fr1 hh hkN hkeep ⟨g22,g10,rfl⟩
      have g7:=(hkeep 7 (by decide)).trans h7
      have g9:=(hkeep 9 (by decide)).trans h9
      have g21:=(hkeep 21 (by decide)).trans h21
      by_cases hlt:k < 4
      · have w1 : IntKind.i64.wrap ((k : Int) + 1) = k + 1 := wrap_i64 (by omega) (by omega)
        have hl:=zzH t x b k
        have hst:zmY t x b (k+1)=((zmY t x b k).1.set k (lnL (gd (zmY t x b k).1 0#64 k) x (gd b 0#64 k) (zmY t x b k).2),lnH (gd (zmY t x b k).1 0#64 k) x (gd b 0#64 k) (zmY t x b k).2):=by rw [zmY]
        generalize zmY t x b k=q at*
        obtain ⟨u,c⟩:=q
        simp only at hl g10 hst
        have hl5:u.length=5:=hl.trans ht
        simp -implicitDefEqProofs [zbk,zak,g22,g10,g7,g9,g21,hlt,show (k:Int) < 4 by omega,show k≤3 by omega,show k < 5 by omega,show k≤4 by omega,w1,zaP,zDa,zat,hb,zDS,hl5,hst]
      · have : k = 4 := by omega
        subst this
        simp [zbk,g22,g10])
  exact ⟨fr',rfl,h10',hk⟩
theorem zGB {fr:Fr} {h:zab} {R:Option (AEx × Fr × zab)} (t:List W64) (kk:W64) (z:List zaa) (ht:t.length=5)
    (hF:run ctx (zak h) (.loop zda) fr (hx h [z,cW pW,cW t] [])=R)
    (h5:fr 5=pA h.blks.length 1 0) (h7:fr 7=pA h.blks.length 2 0) (h13:fr 13=wd kk) (h10:fr 10=wd (zsr t kk 0).2) (h14:fr 14=.int .i64 1):
    ∃ fr',R=some (.exit 4,fr',hx h [z,cW pW,cW (zsr t kk 3).1] [])∧fr' 10=wd (zsr t kk 3).2∧∀ t,t∉wr zda→fr' t=fr t:=by
  obtain ⟨e,fr',h',rfl,⟨rfl,rfl,h10'⟩,hk⟩:=zaf hF 3
    (fun k fr hh=>fr 14=.int .i64 ((k+1:Nat):Int)∧fr 10=wd (zsr t kk k).2∧hh=hx h [z,cW pW,cW (zsr t kk k).1] [])
    (fun e fr hh=>e=.exit 4∧hh=hx h [z,cW pW,cW (zsr t kk 3).1] []∧fr 10=wd (zsr t kk 3).2)
    ⟨h14,h10,rfl⟩ (by
      rintro k fr1 hh hkN hkeep ⟨g14,g10,rfl⟩
      have g5:=(hkeep 5 (by decide)).trans h5
      have g7:=(hkeep 7 (by decide)).trans h7
      have g13:=(hkeep 13 (by decide)).trans h13
      by_cases hlt:k < 3
      · have hl:=zzI t kk k
        have hst:zsr t kk (k+1)=((zsr t kk k).1.set k (lnL (gd (zsr t kk k).1 0#64 (k+1)) kk (gd pW 0#64 (k+1)) (zsr t kk k).2),lnH (gd (zsr t kk k).1 0#64 (k+1)) kk (gd pW 0#64 (k+1)) (zsr t kk k).2):=by rw [zsr]
        generalize zsr t kk k=q at*
        obtain ⟨u,c⟩:=q
        simp only at hl g10 hst
        have hl5:u.length=5:=hl.trans ht
        obtain ⟨j,hj⟩:∃ j,j=k+1:=⟨_,rfl⟩
        rw [← hj] at g14 hst
        have hpl:pW.length=4:=rfl
        have w1:IntKind.i64.wrap ((j:Int)+1)=((j+1:Nat):Int):=wrap_i64 (by omega) (by omega)
        have w2:IntKind.i64.wrap ((j:Int) - 1)=((k:Nat):Int):=by rw [← zfQ k (by omega)];congr 1;omega
        simp -implicitDefEqProofs [zda,zak,g14,g10,g5,g7,g13,hlt,show (j:Int) < 4 by omega,show j≤3 by omega,show k < 5 by omega,show k≤4 by omega,show j < 5 by omega,show j < 4 by omega,show j≤4 by omega,show j≤5 by omega,w1,w2,zaP,zDS,hl5,hpl,hst,← hj]
      · have : k = 3 := by omega
        subst this
        simp [zda,g14,g10])
  exact ⟨fr',rfl,h10',hk⟩
end Go.Av
namespace Go.Av
theorem zGC {fr:Fr} {h:zab} {R:Option (AEx × Fr × zab)} (a b:List W64) (z:List zaa) (ha:a.length=4) (hb:b.length=4)
    (hF:run ctx (zak h) (.loop zd4) fr (hx h [z,cW pW,cW (zml a b 0)] [])=R)
    (h3:fr 3=.vptr (cW b) 0) (h5:fr 5=pA h.blks.length 1 0) (h6:fr 6=wd zwj) (h7:fr 7=pA h.blks.length 2 0) (h17:fr 17=.agg (cW a)) (h18:fr 18=.int .i64 0):
    ∃ fr',R=some (.exit 0,fr',hx h [z,cW pW,cW (zml a b 4)] [])∧∀ t,t∉wr zd4→fr' t=fr t:=by
  obtain ⟨e,fr',h',rfl,⟨rfl,rfl⟩,hk⟩:=zaf hF 4
    (fun k fr hh=>fr 18=.int .i64 k∧hh=hx h [z,cW pW,cW (zml a b k)] [])
    (fun e fr hh=>e=.exit 0∧hh=hx h [z,cW pW,cW (zml a b 4)] [])
    ⟨h18,rfl⟩ (by
      rintro k fr1 hh hkN hkeep ⟨g18,rfl⟩
      have g3:=(hkeep 3 (by decide)).trans h3
      have g5:=(hkeep 5 (by decide)).trans h5
      have g6:=(hkeep 6 (by decide)).trans h6
      have g7:=(hkeep 7 (by decide)).trans h7
      have g17:=(hkeep 17 (by decide)).trans h17
      by_cases hlt:k < 4
      · have w1 : IntKind.i64.wrap ((k : Int) + 1) = k + 1 := wrap_i64 (by omega) (by omega)
        have hl:=zp7 a b k
        have hst:zml a b (k+1)=zuK (zml a b k) (gd a 0#64 k) b:=rfl
        generalize hq:zml a b k=t at*
        have h0:(0#64:W64).toNat=0:=rfl
        simp [zd4,g18,g17,g3,hlt,show (k:Int) < 4 by omega,show k≤3 by omega,zDa,zat,ha,hb,zaj,wd0]
        generalize hF:run ctx _ (.loop _) _ _=R
        obtain ⟨fr2,rfl,q10,q1⟩:=zGz t b (gd a 0#64 k) z (cW pW) hl hb hF (by simp [g7]) (by simp) (by simp) (by simp) (by simp)
        have hlm:(zmY t (gd a 0#64 k) b 4).1.length=5:=(zzH _ _ _ _).trans hl
        have hr:zml a b (k+1)=zSd (zsr (adS (zmY t (gd a 0#64 k) b 4).1 (zmY t (gd a 0#64 k) b 4).2) (gd (adS (zmY t (gd a 0#64 k) b 4).1 (zmY t (gd a 0#64 k) b 4).2) 0#64 0*zwj) 3).1 (zsr (adS (zmY t (gd a 0#64 k) b 4).1 (zmY t (gd a 0#64 k) b 4).2) (gd (adS (zmY t (gd a 0#64 k) b 4).1 (zmY t (gd a 0#64 k) b 4).2) 0#64 0*zwj) 3).2:=hst
        generalize zmY t (gd a 0#64 k) b 4=m at*
        obtain ⟨u,c⟩:=m
        simp only at hlm q10 hr
        have had:u.set 4 (gd u 0#64 4+c)=adS u c:=rfl
        have hlu:(adS u c).length=5:=(zQE u c).trans hlm
        generalize hv:adS u c=v at*
        have hred0:(zsr v (gd v 0#64 0*zwj) 0)=(v,lnH (gd v 0#64 0) (gd v 0#64 0*zwj) (gd pW 0#64 0) 0#64):=rfl
        have hpl:pW.length=4:=rfl
        have k4:∀ (i n off:Nat),zcP (some 5) 1 (pA i n off) (.int .i64 4)=some (pA i n (off+4)):=fun i n off=>by simpa using zaP 5 1 i n off 4 .i64 (by decide)
        have k3:∀ (i n off:Nat),zcP (some 5) 1 (pA i n off) (.int .i64 3)=some (pA i n (off+3)):=fun i n off=>by simpa using zaP 5 1 i n off 3 .i64 (by decide)
        simp -implicitDefEqProofs [q10,q1,wr,zbk,zbM,zak,g5,g6,g7,k4,hlm,had,hlu,hpl,zDS]
        generalize hF:run ctx _ (.loop _) _ _=R
        obtain ⟨fr3,rfl,p10,p1⟩:=zGB v (gd v 0#64 0*zwj) z hlu hF (by simp [q1,wr,zbk,zbM,g5]) (by simp [q1,wr,zbk,zbM,g7]) (by simp) (by simp [hred0]) (by simp)
        have hlr:(zsr v (gd v 0#64 0*zwj) 3).1.length=5:=(zzI _ _ _).trans hlu
        generalize zsr v (gd v 0#64 0*zwj) 3=m2 at*
        obtain ⟨u2,c2⟩:=m2
        simp only at hlr p10 hr
        have he:(u2.set 3 (adL (gd u2 0#64 4) c2 0#64)).set 4 (adH (gd u2 0#64 4) c2 0#64)=zSd u2 c2:=rfl
        simp -implicitDefEqProofs [p10,p1,q1,wr,zbk,zda,zbM,zak,g5,g6,g7,g18,k4,k3,hlr,wd0,zzO,w1,he,hr]
        exact hlt
      · have : k = 4 := by omega
        subst this
        simp [zd4,g18])
  exact ⟨fr',rfl,hk⟩
theorem zud (L:Lim) (h:zab) (a b:List W64) (ha:a.length=4) (hb:b.length=4) (hp:val b < pN):
    zag ctx L zeQ [.agg (cW a),.agg (cW b)] h=some (.agg (cW (w4 (zwq (val a) (val b)))),h):=by
  rw [ztQ]
  have e0:cW (tab 5 fun _=>0#64)=cW (zml a b 0):=rfl
  have hpl:pW.length=4:=rfl
  simp -implicitDefEqProofs [zlx,zak,zaI,zlZ,zGy,zaj,zbp,zai,ha,hb,hpl]
  rw [e0]
  generalize hF:run ctx _ (.loop _) _ _=R
  obtain ⟨fr1,rfl,hk1⟩:=zGC a b _ ha hb hF (by simp) (by simp) (by simp) (by simp) (by simp) (by simp)
  obtain ⟨e1,e2⟩:=zGH ha hb hp
  have hl:=zp7 a b 4
  have hsl:=zye 5 1 h.blks.length 2 0 4 .i64 (by decide)
  simp only [Int.cast_ofNat_Int] at hsl
  generalize zml a b 4=t at*
  have hl4:(t.take 4).length=4:=by simp [hl]
  have hbe:=fun L h=>zzD L h (t.take 4) hl4
  simp only [e2] at hbe
  simp -implicitDefEqProofs [hk1,wr,zd4,zbk,zda,zbM,hsl,zO7,zE9,hl,hbe,zbp,zai,zaj]
end Go.Av
namespace Go.Av
def dbl (k:Nat):Nat:=2 ^ k % pN
theorem zPe (k:Nat):dbl k < pN:=Nat.mod_lt _ zd1
theorem zNU (k:Nat):zxG (dbl k+dbl k)=dbl (k+1):=by
  unfold dbl
  have h:=Nat.mod_lt (2 ^ k) zd1
  rw [zvx (by omega),← Nat.add_mod,Nat.pow_succ,Nat.mul_two]
theorem zRb:dbl 512=rN*rN % pN:=by decide +kernel
theorem zF2 {fr:Fr} {h:zab} {R:Option (AEx × Fr × zab)} (z:List zaa)
    (hF:run ctx (zak h) (.loop zfy) fr (hx h [z,cW (w4 (dbl 0))] [])=R)
    (h3:fr 3=pA h.blks.length 1 0) (h5:fr 5=.int .i64 0):
    ∃ fr',R=some (.exit 0,fr',hx h [z,cW (w4 (dbl 512))] [])∧∀ t,t∉wr zfy→fr' t=fr t:=by
  obtain ⟨e,fr',h',rfl,⟨rfl,rfl⟩,hk⟩:=zaf hF 512
    (fun k fr hh=>fr 5=.int .i64 k∧hh=hx h [z,cW (w4 (dbl k))] [])
    (fun e fr hh=>e=.exit 0∧hh=hx h [z,cW (w4 (dbl 512))] [])
    ⟨h5,rfl⟩ (by
      rintro k fr1 hh hkN hkeep ⟨g5,rfl⟩
      have g3:=(hkeep 3 (by decide)).trans h3
      by_cases hlt:k < 512
      · have w1 : IntKind.i64.wrap ((k : Int) + 1) = k + 1 := wrap_i64 (by omega) (by omega)
        have hst:=zNU k
        have hb:=zPe k
        have hb2:=zPe (k+1)
        generalize hv:dbl k=v at*
        generalize hv':dbl (k+1)=v' at*
        have hvl:v < rN:=Nat.lt_trans hb (by decide)
        have hs2:v+v < rN:=Nat.lt_trans (Nat.add_lt_add hb hb) (by decide)
        have hp:=fun L h=>zJx L h (w4 v) (w4 v) rfl rfl (by rw [zuI v hvl];exact hs2)
        have hbe:=fun L h=>zzD L h (w4 (v+v)) rfl
        simp only [zuI v hvl] at hp
        simp only [zuI (v+v) hs2,hst] at hbe
        have l1:=ztk v
        have l2:=ztk (v+v)
        have l3:=ztk v'
        generalize w4 v=a at*
        generalize w4 (v+v)=b at*
        generalize hc:w4 v'=c at*
        simp -implicitDefEqProofs [zfy,zak,g5,g3,hlt,show (k:Int) < 512 by omega,w1,zaj,zbp,zai,hp,hbe,l1,l3,hv',hc]
      · have : k = 512 := by omega
        subst this
        simp [zfy,g5])
  exact ⟨fr',rfl,hk⟩
theorem zy1 (L:Lim) (h:zab) (a:List W64) (ha:a.length=4):zag ctx L zgo [.agg (cW a)] h=some (.agg (cW (fe (val a))),h):=by
  rw [zvd]
  have e0:(cW (tab 4 fun _=>0#64)).set 0 (wd 1#64)=cW (w4 (dbl 0)):=rfl
  have l0:=ztk (dbl 0)
  simp -implicitDefEqProofs [zop,zak,zaI,zaA,wd1,zbp,zai,e0,l0]
  generalize hF:run ctx _ (.loop _) _ _=R
  obtain ⟨fr1,rfl,hk1⟩:=zF2 _ hF (by simp) (by simp)
  rw [zRb]
  have hlt:rN*rN % pN < pN:=Nat.mod_lt _ zd1
  have hv:=zuI (rN*rN % pN) (Nat.lt_trans hlt (by decide))
  have hp:=fun L h=>zud L h a (w4 (rN*rN % pN)) ha rfl (by rw [hv];exact hlt)
  simp only [hv,zQU] at hp
  have hfe:w4 (val a*rN % pN)=fe (val a):=rfl
  simp only [hfe] at hp
  have l1:=ztk (rN*rN % pN)
  have l2:=zaV (val a)
  generalize w4 (rN*rN % pN)=sq at*
  generalize fe (val a)=r at*
  simp -implicitDefEqProofs [hk1,wr,zfy,zbM,zaj,zbp,zai,hp,ha,l1,l2,zaA]
end Go.Av
