/- The document's elements as bytes, its products, powers and inverses. -/
import Derived.Test.YtbofkfgfnaigkaaGreatDoorC8
import Derived.Test.YtbofkfgfnaigkaaGreatDoorC4
import Derived.MapKept
set_option linter.unusedSimpArgs false
set_option linter.unusedVariables false
set_option maxHeartbeats 2000000
set_option maxRecDepth 20000
namespace Go.Av
theorem zDc {fr:Fr} {h:zab} {R:Option (AEx × Fr × zab)} (l:List W64) (n:Nat) (hn:n < 100000000)
    (hF:run ctx (zak h) (.loop zcm) fr (hx h [cW (za6 n (wdO l) (fun _=>0#64) 0)] [])=R)
    (h0:fr 0=.vsl false (eW l)) (h1:fr 1=.int .i64 (n:Int)) (h5:fr 5=sA h.blks.length 0 0 1 0 (some n)) (h6:fr 6=.int .i64 0):
    ∃ fr',R=some (.exit 0,fr',hx h [cW (tab n (wdO l))] [])∧fr' 5=sA h.blks.length 0 0 1 n (some n)∧∀ t,t∉wr zcm→fr' t=fr t:=by
  obtain ⟨e,fr',h',rfl,⟨rfl,rfl,h5'⟩,hk⟩:=zaf hF n
    (fun k fr hh=>fr 6=.int .i64 (k:Int)∧fr 5=sA h.blks.length 0 0 1 k (some n)∧hh=hx h [cW (za6 n (wdO l) (fun _=>0#64) k)] [])
    (fun e fr hh=>e=.exit 0∧hh=hx h [cW (tab n (wdO l))] []∧fr 5=sA h.blks.length 0 0 1 n (some n))
    ⟨h6,h5,rfl⟩ (by
      rintro k fr1 hh hkN hkeep ⟨g6,g5,rfl⟩
      have g0:=(hkeep 0 (by decide)).trans h0
      have g1:=(hkeep 1 (by decide)).trans h1
      by_cases hlt:k < n
      · have w1 : IntKind.i64.wrap ((k : Int) + 1) = k + 1 := wrap_i64 (by omega) (by omega)
        have w2:IntKind.i64.wrap (2*(k:Int))=((2*k:Nat):Int):=(wrap_i64 (by omega) (by omega)).trans (by omega)
        have w3:IntKind.i64.wrap (((2*k:Nat):Int)+1)=((2*k+1:Nat):Int):=wrap_i64 (by omega) (by omega)
        have hga:=fun L h=>zqp L h (.vsl false (eW l)) l (RdW.vsl h false l) (2*k)
        have hgb:=fun L h=>zqp L h (.vsl false (eW l)) l (RdW.vsl h false l) (2*k+1)
        have hrob:(zak h).rob≤h.blks.length:=Nat.le_refl _
        have hap:=fun cl=>zPu (zak h) h [cW (za6 n (wdO l) (fun _=>0#64) k)] [] 0 k n (za6 n (wdO l) (fun _=>0#64) k) (wdO l k) cl rfl hlt (by simpa using hlt) hrob
        rw [zdn] at hap
        simp only [List.set_cons_zero] at hap
        have hS:wd (gd l 0#64 (2*k)+gd l 0#64 (2*k+1)*4294967296#64)=wd (wdO l k):=rfl
        generalize hm2:za6 n (wdO l) (fun _=>0#64) (k+1)=m2 at*
        generalize za6 n (wdO l) (fun _=>0#64) k=m1 at*
        generalize ((2*k+1:Nat):Int)=i2 at*
        generalize ((2*k:Nat):Int)=i1 at*
        have hle:(k:Int) < n:=by omega
        simp -implicitDefEqProofs [zcm,g0,g1,g5,g6,hle,w1,w2,w3,hga,hgb,zXr,hS,zx0,zki,hap]
        exact ⟨hlt,by rw [hm2]⟩
      · have : k = n := by omega
        subst this
        rw [zft]
        generalize tab k (wdO l)=m1 at*
        simp [zcm,g6,g5,g1])
  exact ⟨fr',rfl,h5',hk⟩
theorem zAV (L:Lim) (h:zab) (x:zaa) (l:List W64) (hx1:LV x l) (n:Nat) (hn:n < 100000000):
    zag ctx L zbP [x,.int .i64 (n:Int)] h=some (.vsl false (eW (tab n (wdO l))),h):=by
  rw [zpe]
  have hlo:=fun fr R=>zDc (fr:=fr) (h:=h) (R:=R) l n hn
  rw [zcc] at hlo
  have hfz:=zAP h [cW (tab n (wdO l))] [] h.toks.length 11 0 n (some n) (tab n (wdO l)) rfl (by simp)
  have hmk:=zwg h [] [] 1 [zaa.int .u64 0] .i64 .i64 (n:Int) (zHO (by omega))
  rw [Int.toNat_natCast,zFS] at hmk
  have hf1:=hx1.fz
  generalize tab n (fun _=>0#64)=m0 at*
  generalize tab n (wdO l)=m1 at*
  simp -implicitDefEqProofs [zhy,hf1,hmk]
  generalize hF:run ctx _ (.loop _) _ _=R
  obtain ⟨fr1,rfl,h5,hk1⟩:=hlo _ _ hF (by simp) (by simp) (by simp) (by simp)
  simp -implicitDefEqProofs [hk1,wr,zcm,zbM,h5,hfz]
theorem zMa (n:Nat) (f:Nat→W64):val (tab n f)=zg5 f n:=by
  rw [zho _ n (by simp)];exact ziR n fun i hi=>zbz hi
theorem zON (n x:Nat) (h:x < bN n):tab n (wdO (dg x))=wN n x:=by
  have hl:(dg x).length≤2*n:=zrL (by rw [Nat.pow_mul];exact h)
  refine val_inj (by simp) ?_
  rw [zMa,zLa (zkH x),← zjJ _ _ hl,zds,zuE n x h]
theorem zTc (w:W64) (k:Nat):qtW (w >>> (8*k)) 256=w >>> (8*(k+1)):=by
  refine BitVec.eq_of_toNat_eq ?_
  rw [zkc,BitVec.toNat_ushiftRight,BitVec.toNat_ushiftRight,Nat.shiftRight_eq_div_pow,Nat.shiftRight_eq_div_pow,Nat.mul_add,Nat.pow_add,← Nat.div_div_eq_div_mul]
theorem zTd (w:W64):zMA .u8 (wd (rmW w 256))=some (.int .u8 ((w.toNat % 256:Nat):Int)):=by
  rw [ztr,zi6,Nat.mod_mod]
theorem zAY {fr : Fr} {h : zab} {R : Option (AEx × Fr × zab)} (l : List W64) (i : Nat) (hi : i < l.length) (hl : l.length < 1000000) (f : Nat → Int) (hf : f = fun j => byW (gd l 0#64 (j / 8)) (j % 8))
    (hF:run ctx (zak h) (.loop zcl) fr (hx h [] (gT (eI .u8 (tab (8*i) f))))=R)
    (h3:fr 3=gL (.vsl true []) h.toks.length 0 (eI .u8 (tab (8*i) f))) (h5:fr 5=wd (gd l 0#64 i)) (h6:fr 6=.int .i64 0):
    ∃ fr',R=some (.exit 2,fr',hx h [] (gT (eI .u8 (tab (8*(i+1)) f))))∧fr' 3=gL (.vsl true []) h.toks.length 0 (eI .u8 (tab (8*(i+1)) f))∧∀ t,t∉wr zcl→fr' t=fr t:=by
  obtain ⟨e,fr',h',rfl,⟨rfl,rfl,h3'⟩,hk⟩:=zaf hF 8
    (fun k fr hh=>fr 6=.int .i64 k∧fr 5=wd (gd l 0#64 i >>> (8*k))∧fr 3=gL (.vsl true []) h.toks.length 0 (eI .u8 (tab (8*i+k) f))∧hh=hx h [] (gT (eI .u8 (tab (8*i+k) f))))
    (fun e fr hh=>e=.exit 2∧hh=hx h [] (gT (eI .u8 (tab (8*(i+1)) f)))∧fr 3=gL (.vsl true []) h.toks.length 0 (eI .u8 (tab (8*(i+1)) f)))
    ⟨h6, by simpa using h5, h3, rfl⟩ (by
      rintro k fr1 hh hkN hkeep ⟨g6,g5,g3,rfl⟩
      by_cases hlt:k < 8
      · have w1 : IntKind.i64.wrap ((k : Int) + 1) = k + 1 := wrap_i64 (by omega) (by omega)
        have hfk:((((gd l 0#64 i >>> (8*k)).toNat % 256:Nat):Int))=f (8*i+k):=by
          rw [hf];simp only [byW]
          rw [show (8*i+k) / 8=i by omega,show (8*i+k) % 8=k by omega]
        have hrb:=zTd (gd l 0#64 i >>> (8*k))
        rw [hfk] at hrb
        have hqt:=zTc (gd l 0#64 i) k
        generalize hw2:gd l 0#64 i >>> (8*(k+1))=w2 at*
        generalize gd l 0#64 i >>> (8*k)=w at*
        have hroom:8*i+k+1 < 274877906944:=by omega
        generalize hm:8*i+k=m at*
        have hfill:∀ v:Int,zaA (rep [zaa.int .u8 0] 1) [(0,1,.int .u8 v)]=some [.int .u8 v]:=fun v=>rfl
        simp [zcl,g6,g5,g3,show (k:Int) < 8 by omega,w1,zak,zKE,zKF,hrb, -ztr,hfill,zki,zly,zsJ,zam,hroom,hqt]
        exact ⟨hlt,by rw [← hw2,Nat.mul_add],by rw [← hm];exact ⟨rfl,rfl⟩⟩
      · have : k = 8 := by omega
        subst this
        simp [zcl,g6,g3,Nat.mul_add])
  exact ⟨fr',rfl,h3',hk⟩
theorem zDh {fr : Fr} {h : zab} {R : Option (AEx × Fr × zab)} (l : List W64) (hl : l.length < 1000000) (f : Nat → Int) (hf : f = fun j => byW (gd l 0#64 (j / 8)) (j % 8))
    (hF:run ctx (zak h) (.loop zeE) fr (hx h [] (gT (eI .u8 (tab (8*0) f))))=R)
    (h0:fr 0=.vsl false (eW l)) (h3:fr 3=gL (.vsl true []) h.toks.length 0 (eI .u8 (tab (8*0) f))) (h4:fr 4=.int .i64 0):
    ∃ fr',R=some (.exit 0,fr',hx h [] (gT (eI .u8 (zbQ l))))∧fr' 3=gL (.vsl true []) h.toks.length 0 (eI .u8 (zbQ l)):=by
  have hb:zbQ l=tab (8*l.length) f:=by rw [hf];rfl
  rw [hb]
  obtain ⟨r1,p,r2,r3⟩:=RdW.vsl h false l
  obtain ⟨e,fr',h',rfl,⟨rfl,rfl,h3'⟩,hk⟩:=zaf hF l.length
    (fun k fr hh=>fr 4=.int .i64 k∧fr 3=gL (.vsl true []) h.toks.length 0 (eI .u8 (tab (8*k) f))∧hh=hx h [] (gT (eI .u8 (tab (8*k) f))))
    (fun e fr hh=>e=.exit 0∧hh=hx h [] (gT (eI .u8 (tab (8*l.length) f)))∧fr 3=gL (.vsl true []) h.toks.length 0 (eI .u8 (tab (8*l.length) f)))
    ⟨h4,h3,rfl⟩ (by
      rintro k fr1 hh hkN hkeep ⟨g4,g3,rfl⟩
      have g0:=(hkeep 0 (by decide)).trans h0
      by_cases hlt:k < l.length
      · have w1 : IntKind.i64.wrap ((k : Int) + 1) = k + 1 := wrap_i64 (by omega) (by omega)
        have hro:=r2 k hlt
        have hrd:=fun bs ts=>r3 k bs ts hlt
        have hlo:=fun fr R=>zAY (fr:=fr) (h:=h) (R:=R) l k hlt hl f hf
        have hle:(k:Int) < l.length:=by omega
        generalize gT (eI .u8 (tab (8*k) f))=tk at*
        simp -implicitDefEqProofs [zeE,g0,g3,g4,hle,hro,hrd]
        generalize hF:run ctx _ (.loop _) _ _=R
        obtain ⟨fr2,rfl,f3,hk2⟩:=hlo _ _ hF (by simp [g3]) (by simp) (by simp)
        simp -implicitDefEqProofs [hk2,wr,zcl,zbM,f3,g4,w1]
        exact hlt
      · have : k = l.length := by omega
        subst this
        simp [zeE,g4,g0,g3])
  exact ⟨fr',rfl,h3'⟩
theorem zAZ (L:Lim) (h:zab) (x:zaa) (l:List W64) (hx1:LV x l) (hl:l.length < 1000000):zag ctx L zdH [x] h=some (.vsl false (eI .u8 (zbQ l)),h):=by
  rw [zpd]
  have hlo:=fun fr R=>zDh (fr:=fr) (h:=h) (R:=R) l hl _ rfl
  have hf1:=hx1.fz
  have hch:zaA (rep [zaa.int .u8 0] 0) []=some []:=rfl
  have hch0:chunks 1 0 []=[]:=rfl
  simp -implicitDefEqProofs [zhx,hf1,hch,hch0]
  generalize hF:run ctx _ (.loop _) _ _=R
  obtain ⟨fr1,rfl,q1⟩:=hlo _ _ hF (by simp) (by simp [gL,tab]) (by simp)
  have hfz:=zrM (h1:=hx h [] (gT (eI .u8 (zbQ l)))) (nb:=h.blks.length) (nt:=h.toks.length) (n:=11) (s:=.vsl true []) (es:=eI .u8 (zbQ l)) (.inr rfl) (by simp)
  generalize zbQ l=bl1 at*
  simp -implicitDefEqProofs [q1,hfz]
def pD:List W64:=[4026531841#64,1138881939#64,2042196113#64,674490440#64,2172737629#64,3092268470#64,3778125865#64,811880050#64]
theorem zMh:vD pD=pN:=by decide +kernel
theorem zPT:Dg pD:=by
  repeat refine Dg.cons (by decide) ?_
  exact Dg.nil
theorem zF8:pD=dg pN:=by rw [← zMh];exact zQ9 ⟨zPT,.inr (by decide)⟩
theorem zIA (L:Lim) (h:zab):zag ctx L zb4 [] h=some (.vsl false (eW pD),h):=by
  rw [ztO]
  have hf:∀ a b c d e f g i:zaa,zaA (rep [zaa.int .u64 0] 8) [(0,1,a),(1,1,b),(2,1,c),(3,1,d),(4,1,e),(5,1,f),(6,1,g),(7,1,i)]=some [a,b,c,d,e,f,g,i]→True:=fun _ _ _ _ _ _ _ _ _=>trivial
  have hfill:zaA (rep [zaa.int .u64 0] 8) [(0,1,.int .u64 4026531841),(1,1,.int .u64 1138881939),(2,1,.int .u64 2042196113),(3,1,.int .u64 674490440),(4,1,.int .u64 2172737629),(5,1,.int .u64 3092268470),(6,1,.int .u64 3778125865),(7,1,.int .u64 811880050)]=some (cW pD):=rfl
  have hch:chunks 1 8 (cW pD)=eW pD:=rfl
  simp -implicitDefEqProofs [zln,hfill,hch]
theorem zMj (L:Lim) (h:zab) (x:zaa) (a:List W64) (hx1:LV x a) (ha:Dg a) (hl:a.length < 10000000):zag ctx L zgE [x] h=some (.vsl false (eW (dg (vD a % pN))),h):=by
  rw [zrj]
  have hP:=zIA
  have hM:=fun L h=>zRt L h (.vsl false (eW a)) (.vsl false (eW pD)) a pD (LV.vsl _ _) (LV.vsl _ _) ha zPT (by rw [zMh];decide) ⟨hl,by decide⟩
  rw [zMh] at hM
  have hf1:=hx1.fz
  generalize eW pD=p at*
  simp -implicitDefEqProofs [ziU,hf1,hP,hM]
theorem zF9 (L:Lim) (h:zab) (x:zaa) (n:Nat) (hx1:LV x (dg n)) (hn:n < rN):zag ctx L zfq [x] h=some (.vsl false (eI .u8 (zbQ (w4 n))),h):=by
  rw [zo2]
  have hW:∀ L h,zag ctx L zbP [.vsl false (eW (dg n)),.int .i64 4] h=some (.vsl false (eW (tab 4 (wdO (dg n)))),h):=fun L h=>zAV L h (.vsl false (eW (dg n))) (dg n) (LV.vsl _ _) 4 (by decide)
  rw [zON 4 n hn,zIN n hn] at hW
  have hB:=fun L h=>zAZ L h (.vsl false (eW (w4 n))) (w4 n) (LV.vsl _ _) (by simp)
  have hf1:=hx1.fz
  generalize eW (w4 n)=e4 at*
  generalize zbQ (w4 n)=b4 at*
  simp -implicitDefEqProofs [zhp,hf1,hW,hB]
theorem znV:pN < rN:=by decide
theorem zPW (L:Lim) (h:zab) (x:Nat) (v:zaa) (hv:LV v (dg (x % pN))):zag ctx L zc8 [.agg (cW (fe x)),v] h=some (.bool true,h):=by
  rw [zso]
  have hB:=fun L h=>zLP L h x
  have hR:=fun L h=>zF9 L h (.vsl false (eW (dg (x % pN)))) (x % pN) (LV.vsl _ _) (Nat.lt_trans (Nat.mod_lt _ zd1) znV)
  have hf1:=hv.fz
  have hfe:zbQ (w4 (x % pN))=feB x:=rfl
  rw [hfe] at hR
  have hl:=zHP x
  have l1:=zaV x
  have hsl:=zg6 32 1 h.blks.length 0 0 (by decide)
  have hb2:=fun ts=>zsw h [cI .u8 (feB x)] ts 0 32 (some 32) (feB x) rfl hl
  generalize feB x=fb at*
  generalize fe x=fx at*
  generalize eW (dg (x % pN))=ed at*
  have hrI:=zjs .u8 0 32
  simp -implicitDefEqProofs [zj1,zak,hf1,zaj,l1,hB,hR,hrI,zbp,zai,hl,hsl,hb2]
  exact (Go.MapKept.bytes_beq _ _).2 rfl
theorem zA7 (x:zaa) (c:Bool) (es:List (List zaa)) (hx:x=.vsl c es):zaA (rep [zaa.nsl] 1) [(0,1,x)]=some [x]:=by subst hx;rfl
end Go.Av
namespace Go.Av
def rwF (n i:Nat):W64:=BitVec.ofNat 64 (n / dB ^ i % dB)
def rw9 (n:Nat):List W64:=tab 9 (rwF n)
@[simp] theorem zhn (n:Nat):(rw9 n).length=9:=by simp [rw9]
theorem zDo (n i:Nat):(rwF n i).toNat=n / dB ^ i % dB:=by
  unfold rwF
  rw [BitVec.toNat_ofNat,Nat.mod_eq_of_lt]
  exact Nat.lt_trans (Nat.mod_lt _ (by decide)) (by decide)
theorem zTl (n i:Nat):(rwF n i).toNat < dB:=by rw [zDo];exact Nat.mod_lt _ (by decide)
theorem zs7 (n:Nat):Dg (rw9 n):=Dg.tab fun i _=>zTl n i
theorem zOS (n:Nat):∀ k,sD (rwF n) k=n % dB ^ k
  | 0=>by simp [sD,Nat.mod_one]
  | k + 1 => by
    rw [sD,zOS n k,zDo,Nat.pow_succ,Nat.mod_mul,Nat.mul_comm (dB ^ k)]
theorem znZ {n:Nat} (h:n < dB ^ 9):vD (rw9 n)=n:=by
  unfold rw9;rw [ztF,zOS,Nat.mod_eq_of_lt h]
theorem zIK {l:List W64} (hl:l.length=9) (h:Dg l):l=rw9 (vD l):=by
  rw [zot 0#64 hl]
  unfold rw9
  refine zaN fun i hi=>BitVec.eq_of_toNat_eq ?_
  rw [zDo,← zot 0#64 hl,← zPK h]
theorem zzf:(tab 9 fun _=>(0#64:W64))=rw9 0:=zaN fun i _=>by unfold rwF;simp
def mS (a b t c:W64):W64:=a*256#64+b*t+c
def mC (a b:Nat→W64) (t:W64):Nat→W64
  | 0=>0#64
  | k+1=>qtW (mS (a k) (b k) t (mC a b t k)) 4294967296
def mD (a b:Nat→W64) (t:W64) (k:Nat):W64:=rmW (mS (a k) (b k) t (mC a b t k)) 4294967296
theorem zOT {a b t c:W64} (ha:a.toNat < dB) (hb:b.toNat < dB) (ht:t.toNat < 256) (hc:c.toNat < 512):(mS a b t c).toNat=a.toNat*256+b.toNat*t.toNat+c.toNat∧(mS a b t c).toNat < 512*dB:=by
  have h1:b.toNat*t.toNat≤4294967295*255:=Nat.mul_le_mul (by rw [show dB=4294967296 from rfl] at hb;omega) (by omega)
  rw [show dB=4294967296 from rfl] at*
  unfold mS
  rw [BitVec.toNat_add,BitVec.toNat_add,BitVec.toNat_mul,BitVec.toNat_mul]
  generalize b.toNat*t.toNat=z at*
  simp only [BitVec.toNat_ofNat]
  omega
theorem zTs {a b:Nat→W64} (ha:∀ i,(a i).toNat < dB) (hb:∀ i,(b i).toNat < dB) {t:W64} (ht:t.toNat < 256):∀ k,(mC a b t k).toNat < 512
  | 0=>by simp [mC]
  | k + 1 => by
    have:=zOT (ha k) (hb k) ht (zTs ha hb ht k)
    rw [mC,zkc]
    rw [show dB=4294967296 from rfl] at this
    omega
theorem zTt (a b:Nat→W64) (t:W64) (k:Nat):(mD a b t k).toNat < dB:=by
  unfold mD;rw [zi6];exact Nat.mod_lt _ (by decide)
theorem zOU {a b:Nat→W64} (ha:∀ i,(a i).toNat < dB) (hb:∀ i,(b i).toNat < dB) {t:W64} (ht:t.toNat < 256):∀ k,sD (mD a b t) k+(mC a b t k).toNat*dB ^ k=sD a k*256+sD b k*t.toNat
  | 0=>by simp [sD,mC]
  | k + 1 => by
    have ih:=zOU ha hb ht k
    have e:=(zOT (ha k) (hb k) ht (zTs ha hb ht k)).1
    have hm:(mD a b t k).toNat+dB*(mC a b t (k+1)).toNat=(a k).toNat*256+(b k).toNat*t.toNat+(mC a b t k).toNat:=by
      rw [← e];unfold mD;rw [mC,zi6,zkc];exact Nat.mod_add_div _ _
    rw [sD,sD,sD,Nat.pow_succ,← Nat.mul_assoc,Nat.mul_right_comm]
    have:=congrArg (·*dB ^ k) hm
    simp only [Nat.add_mul] at this
    rw [Nat.mul_comm dB] at this
    have e1:=Nat.mul_right_comm (a k).toNat 256 (dB ^ k)
    have e2:=Nat.mul_right_comm (b k).toNat t.toNat (dB ^ k)
    rw [Nat.add_mul,Nat.add_mul]
    omega
theorem zTv (x y:Nat) (t:W64) (ht:t.toNat < 256) (h:x*256+y*t.toNat < dB ^ 9) (hx:x < dB ^ 9) (hy:y < dB ^ 9):tab 9 (mD (gd (rw9 x) 0#64) (gd (rw9 y) 0#64) t)=rw9 (x*256+y*t.toNat):=by
  have e:=zOU (zs7 x) (zs7 y) ht 9
  rw [← zjJ _ 9 (by simp),← zjJ _ 9 (by simp),znZ hx,znZ hy] at e
  have hlt:=zGX (f:=mD (gd (rw9 x) 0#64) (gd (rw9 y) 0#64) t) (n:=9) fun i _=>zTt _ _ _ i
  have hc:(mC (gd (rw9 x) 0#64) (gd (rw9 y) 0#64) t 9).toNat=0:=by
    rcases Nat.eq_zero_or_pos (mC (gd (rw9 x) 0#64) (gd (rw9 y) 0#64) t 9).toNat with h0 | h0
    · exact h0
    · have:=Nat.le_mul_of_pos_left (dB ^ 9) h0
      omega
  rw [hc,Nat.zero_mul,Nat.add_zero] at e
  rw [zIK (l:=tab 9 (mD (gd (rw9 x) 0#64) (gd (rw9 y) 0#64) t)) (by simp) (Dg.tab fun i _=>zTt _ _ _ i),ztF,e]
theorem zIR {fr:Fr} {h:zab} {R:Option (AEx × Fr × zab)} (a b:List W64) (ha:a.length=9) (hb:b.length=9) (t:W64) (z:List zaa)
    (hF:run ctx (zak h) (.loop zcD) fr (hx h [cW (za6 9 (mD (gd a 0#64) (gd b 0#64) t) (gd a 0#64) 0),z] [])=R)
    (h3:fr 3=pA h.blks.length 0 0) (h4:fr 4=.vptr (cW b) 0) (h2:fr 2=wd t) (h7:fr 7=wd 0#64) (h8:fr 8=.int .i64 0):
    ∃ fr',R=some (.exit 0,fr',hx h [cW (tab 9 (mD (gd a 0#64) (gd b 0#64) t)),z] [])∧∀ t,t∉wr zcD→fr' t=fr t:=by
  generalize hfd:mD (gd a 0#64) (gd b 0#64) t=f at*
  obtain ⟨e,fr',h',rfl,⟨rfl,rfl⟩,hk⟩:=zaf hF 9
    (fun k fr hh=>fr 8=.int .i64 (k:Int)∧fr 7=wd (mC (gd a 0#64) (gd b 0#64) t k)∧hh=hx h [cW (za6 9 f (gd a 0#64) k),z] [])
    (fun e fr hh=>e=.exit 0∧hh=hx h [cW (tab 9 f),z] [])
    ⟨h8,h7,rfl⟩ (by
      rintro k fr1 hh hkN hkeep ⟨g8,g7,rfl⟩
      have g2:=(hkeep 2 (by decide)).trans h2
      have g3:=(hkeep 3 (by decide)).trans h3
      have g4:=(hkeep 4 (by decide)).trans h4
      by_cases hlt:k < 9
      · have w1 : IntKind.i64.wrap ((k : Int) + 1) = k + 1 := wrap_i64 (by omega) (by omega)
        have i1:=zaP 9 1 h.blks.length 0 0 k .i64 (by simpa using hlt)
        have i2:=ze6 9 1 0 k (cW b) .i64 (by simpa using hlt)
        rw [Nat.zero_add,Nat.mul_one] at i1 i2
        have p1:=zsG (l:=za6 9 f (gd a 0#64) k) (i:=k) (by simpa using hlt)
        rw [zwU hlt] at p1
        have p2:=zsG (l:=b) (i:=k) (by omega)
        have hS:wd (gd a 0#64 k*256#64+gd b 0#64 k*t+mC (gd a 0#64) (gd b 0#64) t k)=wd (mS (gd a 0#64 k) (gd b 0#64 k) t (mC (gd a 0#64) (gd b 0#64) t k)):=rfl
        have hD:rmW (mS (gd a 0#64 k) (gd b 0#64 k) t (mC (gd a 0#64) (gd b 0#64) t k)) 4294967296=f k:=by rw [← hfd];rfl
        have hC:qtW (mS (gd a 0#64 k) (gd b 0#64 k) t (mC (gd a 0#64) (gd b 0#64) t k)) 4294967296=mC (gd a 0#64) (gd b 0#64) t (k+1):=rfl
        have hset:=zuT (za6 9 f (gd a 0#64) k) k (f k)
        rw [zdn] at hset
        have hlen:(cW (za6 9 f (gd a 0#64) k)).length=9:=by simp
        have hrob:(zak h).rob≤h.blks.length:=Nat.le_refl _
        generalize hc2:mC (gd a 0#64) (gd b 0#64) t (k+1)=c2 at*
        generalize mS (gd a 0#64 k) (gd b 0#64 k) t (mC (gd a 0#64) (gd b 0#64) t k)=s at*
        generalize mC (gd a 0#64) (gd b 0#64) t k=c1 at*
        generalize hm2:cW (za6 9 f (gd a 0#64) (k+1))=m2 at*
        generalize cW (za6 9 f (gd a 0#64) k)=m1 at*
        generalize cW b=cb at*
        simp -implicitDefEqProofs [zcD,g2,g3,g4,g7,g8,show (k:Int) < 9 by omega,w1,i1,i2,p1,p2,zat,zPk,hS,ztI,ztJ,hD,hC,zah,hrob,hlen,show k+1≤9 by omega,hset]
        exact ⟨hlt,by rw [hc2],by rw [hm2]⟩
      · have : k = 9 := by omega
        subst this
        rw [zft]
        generalize cW (tab 9 f)=m1 at*
        simp [zcD,g8])
  exact ⟨fr',rfl,hk⟩
theorem zIS (L:Lim) (h:zab) (x y:Nat) (t:W64) (ht:t.toNat < 256) (hlt:x*256+y*t.toNat < dB ^ 9) (hx1:x < dB ^ 9) (hy1:y < dB ^ 9):
    zag ctx L zec [.agg (cW (rw9 x)),.agg (cW (rw9 y)),wd t] h=some (.agg (cW (rw9 (x*256+y*t.toNat))),h):=by
  rw [zpI]
  have hlo:=fun fr R z=>zIR (fr:=fr) (h:=h) (R:=R) (rw9 x) (rw9 y) (by simp) (by simp) t z
  rw [zcc,← zot 0#64 (zhn x),zTv x y t ht hlt hx1 hy1] at hlo
  have l1:(rw9 x).length=9:=zhn x
  have l3:(rw9 (x*256+y*t.toNat)).length=9:=zhn _
  have hokv:(zaa.agg (cW (rw9 x))).okV=true:=zii _
  have hcel:(zaa.agg (cW (rw9 x))).cells=cW (rw9 x):=by simp only [zaa.cells]
  have hz:zaa.int .u64 0=wd 0#64:=rfl
  generalize rw9 (x*256+y*t.toNat)=r3 at*
  generalize rw9 x=r1 at*
  generalize rw9 y=r2 at*
  have hr0:=zaI 9
  simp -implicitDefEqProofs [ziq,zbX,hokv,hcel,hr0]
  generalize hF:run ctx _ (.loop _) _ _=R
  obtain ⟨fr1,rfl,hk1⟩:=hlo _ _ _ hF (by simp) (by simp) (by simp) (by simp [hz]) (by simp)
  simp -implicitDefEqProofs [hk1,wr,zcD,zbM,zaj,l3,zbp,zai,zak]
end Go.Av
namespace Go.Av
theorem zGi {fr:Fr} {h:zab} {R:Option (AEx × Fr × zab)} (a b:List W64) (ha:a.length=9) (hb:b.length=9) (z:List zaa)
    (hF:run ctx (zak h) (.loop zcp) fr (hx h [cW (za6 9 (zx1 (gd a 0#64) (gd b 0#64)) (gd a 0#64) 0),z] [])=R)
    (h2:fr 2=pA h.blks.length 0 0) (h3:fr 3=.vptr (cW b) 0) (h5:fr 5=wd 0#64) (h6:fr 6=.int .i64 0):
    ∃ fr',R=some (.exit 0,fr',hx h [cW (tab 9 (zx1 (gd a 0#64) (gd b 0#64))),z] [])∧∀ t,t∉wr zcp→fr' t=fr t:=by
  generalize hfd:zx1 (gd a 0#64) (gd b 0#64)=f at*
  obtain ⟨e,fr',h',rfl,⟨rfl,rfl⟩,hk⟩:=zaf hF 9
    (fun k fr hh=>fr 6=.int .i64 (k:Int)∧fr 5=wd (zrz (gd a 0#64) (gd b 0#64) k)∧hh=hx h [cW (za6 9 f (gd a 0#64) k),z] [])
    (fun e fr hh=>e=.exit 0∧hh=hx h [cW (tab 9 f),z] [])
    ⟨h6,h5,rfl⟩ (by
      rintro k fr1 hh hkN hkeep ⟨g6,g5,rfl⟩
      have g2:=(hkeep 2 (by decide)).trans h2
      have g3:=(hkeep 3 (by decide)).trans h3
      by_cases hlt:k < 9
      · have w1 : IntKind.i64.wrap ((k : Int) + 1) = k + 1 := wrap_i64 (by omega) (by omega)
        have i1:=zaP 9 1 h.blks.length 0 0 k .i64 (by simpa using hlt)
        have i2:=ze6 9 1 0 k (cW b) .i64 (by simpa using hlt)
        rw [Nat.zero_add,Nat.mul_one] at i1 i2
        have p1:=zsG (l:=za6 9 f (gd a 0#64) k) (i:=k) (by simpa using hlt)
        rw [zwU hlt] at p1
        have p2:=zsG (l:=b) (i:=k) (by omega)
        have hS:wd (4294967296#64+gd a 0#64 k - gd b 0#64 k - zrz (gd a 0#64) (gd b 0#64) k)=wd (zEJ (gd a 0#64) (gd b 0#64) k (zrz (gd a 0#64) (gd b 0#64) k)):=rfl
        have hD:rmW (zEJ (gd a 0#64) (gd b 0#64) k (zrz (gd a 0#64) (gd b 0#64) k)) 4294967296=f k:=by rw [← hfd];rfl
        have hC:1#64 - qtW (zEJ (gd a 0#64) (gd b 0#64) k (zrz (gd a 0#64) (gd b 0#64) k)) 4294967296=zrz (gd a 0#64) (gd b 0#64) (k+1):=rfl
        have hset:=zuT (za6 9 f (gd a 0#64) k) k (f k)
        rw [zdn] at hset
        have hlen:(cW (za6 9 f (gd a 0#64) k)).length=9:=by simp
        have hrob:(zak h).rob≤h.blks.length:=Nat.le_refl _
        generalize hc2:zrz (gd a 0#64) (gd b 0#64) (k+1)=c2 at*
        generalize zEJ (gd a 0#64) (gd b 0#64) k (zrz (gd a 0#64) (gd b 0#64) k)=s at*
        generalize zrz (gd a 0#64) (gd b 0#64) k=c1 at*
        generalize hm2:cW (za6 9 f (gd a 0#64) (k+1))=m2 at*
        generalize cW (za6 9 f (gd a 0#64) k)=m1 at*
        generalize cW b=cb at*
        simp -implicitDefEqProofs [zcp,g2,g3,g5,g6,show (k:Int) < 9 by omega,w1,i1,i2,p1,p2,zat,zSV,one_sub,hS,ztI,ztJ,hD,hC,zah,hrob,hlen,show k+1≤9 by omega,hset]
        exact ⟨hlt,by rw [hc2],by rw [hm2]⟩
      · have : k = 9 := by omega
        subst this
        rw [zft]
        generalize cW (tab 9 f)=m1 at*
        simp [zcp,g6])
  exact ⟨fr',rfl,hk⟩
theorem zMx (x y:Nat) (hy:y≤x) (hx:x < dB ^ 9):tab 9 (zx1 (gd (rw9 x) 0#64) (gd (rw9 y) 0#64))=rw9 (x - y):=by
  have e:=zyT (zs7 x) (zs7 y) 9
  rw [← zjJ _ 9 (by simp),← zjJ _ 9 (by simp),znZ hx,znZ (Nat.lt_of_le_of_lt hy hx)] at e
  have hlt:=zGX (f:=zx1 (gd (rw9 x) 0#64) (gd (rw9 y) 0#64)) (n:=9) fun i _=>zyR _ _ i
  have e0:=zyQ (zs7 x) (zs7 y) 9
  have e2:sD (zx1 (gd (rw9 x) 0#64) (gd (rw9 y) 0#64)) 9=x - y:=by
    rcases Nat.le_one_iff_eq_zero_or_eq_one.1 e0 with e2 | e2
    · rw [e2] at e;omega
    · rw [e2] at e;omega
  rw [zIK (l:=tab 9 (zx1 (gd (rw9 x) 0#64) (gd (rw9 y) 0#64))) (by simp) (Dg.tab fun i _=>zyR _ _ i),ztF,e2]
theorem zMy (L:Lim) (h:zab) (x y:Nat) (hy:y≤x) (hx1:x < dB ^ 9):
    zag ctx L zfn [.agg (cW (rw9 x)),.agg (cW (rw9 y))] h=some (.agg (cW (rw9 (x - y))),h):=by
  rw [zoW]
  have hlo:=fun fr R z=>zGi (fr:=fr) (h:=h) (R:=R) (rw9 x) (rw9 y) (by simp) (by simp) z
  rw [zcc,← zot 0#64 (zhn x),zMx x y hy hx1] at hlo
  have l1:(rw9 x).length=9:=zhn x
  have l3:(rw9 (x - y)).length=9:=zhn _
  have hokv:(zaa.agg (cW (rw9 x))).okV=true:=zii _
  have hcel:(zaa.agg (cW (rw9 x))).cells=cW (rw9 x):=by simp only [zaa.cells]
  have hz:zaa.int .u64 0=wd 0#64:=rfl
  generalize rw9 (x - y)=r3 at*
  generalize rw9 x=r1 at*
  generalize rw9 y=r2 at*
  have hr0:=zaI 9
  simp -implicitDefEqProofs [zhB,zbX,hokv,hcel,hr0]
  generalize hF:run ctx _ (.loop _) _ _=R
  obtain ⟨fr1,rfl,hk1⟩:=hlo _ _ _ hF (by simp) (by simp) (by simp [hz]) (by simp)
  simp -implicitDefEqProofs [hk1,wr,zcp,zbM,zaj,l3,zbp,zai,zak]
theorem zBa {fr:Fr} {h:zab} {R:Option (AEx × Fr × zab)} (a b:List W64) (la:a.length=9) (lb:b.length=9) (ha:Dg a) (hb:Dg b)
    (hF:run ctx (zak h) (.loop zcx) fr (hx h [] [])=R)
    (h2:fr 2=.vptr (cW a) 0) (h3:fr 3=.vptr (cW b) 0) (h5:fr 5=.int .i64 8):
    ∃ e fr',R=some (e,fr',hx h [] [])∧(e=.exit 0∧(∀ j,j < 9→gd a 0#64 j=gd b 0#64 j)∨e=.ret∧fr' 4=.bool (decide (sD (gd b 0#64) 9≤sD (gd a 0#64) 9))):=by
  obtain ⟨e,fr',h',rfl,⟨rfl,hor⟩,hk⟩:=zaf hF 9
    (fun k fr hh=>∃ m,m+k=9∧fr 5=.int .i64 ((m:Int) - 1)∧(∀ j,m≤j→j < 9→gd a 0#64 j=gd b 0#64 j)∧hh=hx h [] [])
    (fun e fr hh=>hh=hx h [] []∧(e=.exit 0∧(∀ j,j < 9→gd a 0#64 j=gd b 0#64 j)∨e=.ret∧fr 4=.bool (decide (sD (gd b 0#64) 9≤sD (gd a 0#64) 9))))
    ⟨9, rfl, h5, fun j h1 h2 => by omega, rfl⟩ (by
      rintro k fr1 hh hkN hkeep ⟨m,hm,g5,he,rfl⟩
      have g2:=(hkeep 2 (by decide)).trans h2
      have g3:=(hkeep 3 (by decide)).trans h3
      cases m with
      | succ i=>
        rw [show (((i+1:Nat):Int) - 1)=(i:Int) by omega] at g5
        have w1:IntKind.i64.wrap ((i:Int) - 1)=(i:Int) - 1:=wrap_i64 (by omega) (by omega)
        have i1:=ze6 9 1 0 i (cW a) .i64 (by simp;omega)
        have i2:=ze6 9 1 0 i (cW b) .i64 (by simp;omega)
        rw [Nat.zero_add,Nat.mul_one] at i1 i2
        have p1:=zsG (l:=a) (i:=i) (by omega)
        have p2:=zsG (l:=b) (i:=i) (by omega)
        have hnn:(i:Int)≥0:=by omega
        have c1:(gd a 0#64 i).toNat < (gd b 0#64 i).toNat→sD (gd a 0#64) 9 < sD (gd b 0#64) 9:=fun hl=>zAL ha 9 i (by omega) (fun j h1 h2=>he j (by omega) h2) hl
        have c2:(gd b 0#64 i).toNat < (gd a 0#64 i).toNat→sD (gd b 0#64) 9 < sD (gd a 0#64) 9:=fun hl=>zAL hb 9 i (by omega) (fun j h1 h2=>(he j (by omega) h2).symm) hl
        have hgt:=zQ5 (gd a 0#64 i) (gd b 0#64 i)
        have hne:zdj .neq (wd (gd a 0#64 i)) (wd (gd b 0#64 i))=some (.bool (decide (gd a 0#64 i≠gd b 0#64 i))):=by
          show some (zaa.bool (((gd a 0#64 i).toNat:Int) !=((gd b 0#64 i).toNat:Int)))=_
          congr 2
          by_cases e:gd a 0#64 i=gd b 0#64 i
          · rw [e];simp
          · have : (gd a 0#64 i).toNat ≠ (gd b 0#64 i).toNat := fun q => e (BitVec.eq_of_toNat_eq q)
            simp [e];omega
        by_cases hab:gd a 0#64 i=gd b 0#64 i
        · rw [decide_eq_false (fun q => q hab)] at hne
          generalize cW a=ca at*
          generalize cW b=cb at*
          simp -implicitDefEqProofs [zcx,zak,g2,g3,g5,w1,i1,i2,p1,p2,zat,hne, -zuz]
          refine ⟨by omega,i,by omega,rfl,fun j h1 h2=>?_⟩
          by_cases e:j=i
          · subst e;exact hab
          · exact he j (by omega) h2
        · rw [decide_eq_true hab] at hne
          have hr:decide ((gd b 0#64 i).toNat < (gd a 0#64 i).toNat)=decide (sD (gd b 0#64) 9≤sD (gd a 0#64) 9):=by
            have hn:(gd a 0#64 i).toNat≠(gd b 0#64 i).toNat:=fun q=>hab (BitVec.eq_of_toNat_eq q)
            refine decide_eq_decide.2 ⟨fun q=>Nat.le_of_lt (c2 q),fun q=>?_⟩
            rcases Nat.lt_or_gt_of_ne hn with h | h
            · have:=c1 h;omega
            · exact h
          rw [hr] at hgt
          generalize decide (sD (gd b 0#64) 9≤sD (gd a 0#64) 9)=r at*
          generalize cW a=ca at*
          generalize cW b=cb at*
          simp -implicitDefEqProofs [zcx,zak,g2,g3,g5,w1,i1,i2,p1,p2,zat,hne,hgt, -zuz, -zK8]
      | zero=>
        simp [zcx,g5]
        exact fun j hj=>he j (by omega) hj)
  exact ⟨e,fr',rfl,hor⟩
theorem zGk (L:Lim) (h:zab) (x y:Nat) (hx1:x < dB ^ 9) (hy1:y < dB ^ 9):
    zag ctx L zed [.agg (cW (rw9 x)),.agg (cW (rw9 y))] h=some (.bool (decide (y≤x)),h):=by
  rw [zmM]
  have hlo:=fun fr R=>zBa (fr:=fr) (h:=h) (R:=R) (rw9 x) (rw9 y) (by simp) (by simp) (zs7 x) (zs7 y)
  rw [← zjJ _ 9 (by simp),← zjJ _ 9 (by simp),znZ hx1,znZ hy1] at hlo
  have hsame : (∀ j, j < 9 → gd (rw9 x) 0#64 j = gd (rw9 y) 0#64 j) → decide (y ≤ x) = true := fun hh => by
    have:vD (rw9 x)=vD (rw9 y):=by rw [zjJ _ 9 (by simp),zjJ _ 9 (by simp),ztD hh]
    rw [znZ hx1,znZ hy1] at this
    simp [this]
  generalize decide (y≤x)=r at*
  generalize rw9 x=r1 at*
  generalize rw9 y=r2 at*
  simp -implicitDefEqProofs [zf7,zak]
  generalize hF:run ctx _ (.loop _) _ _=R
  obtain ⟨e,fr1,rfl,⟨rfl,hs⟩ | ⟨rfl,h4⟩⟩:=hlo _ _ hF (by simp) (by simp) (by simp)
  · have:=hsame hs
    subst this
    simp -implicitDefEqProofs
  · simp -implicitDefEqProofs [h4]
theorem zGl {fr:Fr} {h:zab} {R:Option (AEx × Fr × zab)} (l:List W64) (hl:l.length≤9) (z:List zaa)
    (hF:run ctx (zak h) (.loop zco) fr (hx h [z,cW (za6 9 (gd l 0#64) (fun _=>0#64) 0)] [])=R)
    (h0:fr 0=.vsl false (eW l)) (h3:fr 3=pA h.blks.length 1 0) (h4:fr 4=.int .i64 0):
    ∃ fr',R=some (.exit 0,fr',hx h [z,cW (tab 9 (gd l 0#64))] [])∧∀ t,t∉wr zco→fr' t=fr t:=by
  have hend : za6 9 (gd l 0#64) (fun _ => 0#64) l.length = tab 9 (gd l 0#64) := zaN fun i hi => by
    by_cases e:i < l.length
    · simp [e]
    · simp [e,zty (l:=l) (i:=i) (by omega)]
  obtain ⟨r1,p,r2,r3⟩:=RdW.vsl h false l
  obtain ⟨e,fr',h',rfl,⟨rfl,rfl⟩,hk⟩:=zaf hF l.length
    (fun k fr hh=>fr 4=.int .i64 (k:Int)∧hh=hx h [z,cW (za6 9 (gd l 0#64) (fun _=>0#64) k)] [])
    (fun e fr hh=>e=.exit 0∧hh=hx h [z,cW (tab 9 (gd l 0#64))] [])
    ⟨h4,rfl⟩ (by
      rintro k fr1 hh hkN hkeep ⟨g4,rfl⟩
      have g0:=(hkeep 0 (by decide)).trans h0
      have g3:=(hkeep 3 (by decide)).trans h3
      by_cases hlt:k < l.length
      · have w1 : IntKind.i64.wrap ((k : Int) + 1) = k + 1 := wrap_i64 (by omega) (by omega)
        have i1:=zaP 9 1 h.blks.length 1 0 k .i64 (by simp;omega)
        rw [Nat.zero_add,Nat.mul_one] at i1
        have hro:=r2 k hlt
        have hrd:=fun bs ts=>r3 k bs ts hlt
        have hset:=zuT (za6 9 (gd l 0#64) (fun _=>0#64) k) k (gd l 0#64 k)
        rw [zdn] at hset
        have hlen:(cW (za6 9 (gd l 0#64) (fun _=>0#64) k)).length=9:=by simp
        have hrob:(zak h).rob≤h.blks.length:=Nat.le_refl _
        have e1:(k:Int) < l.length:=by omega
        have e2:(k:Int) < 9:=by omega
        generalize hm2:cW (za6 9 (gd l 0#64) (fun _=>0#64) (k+1))=m2 at*
        generalize cW (za6 9 (gd l 0#64) (fun _=>0#64) k)=m1 at*
        simp -implicitDefEqProofs [zco,g0,g3,g4,e1,e2,w1,i1,hro,hrd,zah,hrob,hlen,show k+1≤9 by omega,hset]
        exact ⟨hlt,by rw [hm2]⟩
      · have : k = l.length := by omega
        subst this
        rw [hend]
        generalize cW (tab 9 (gd l 0#64))=m1 at*
        simp [zco,g4,g0])
  exact ⟨fr',rfl,hk⟩
theorem zTz (n:Nat) (h:n < dB ^ 9):tab 9 (gd (dg n) 0#64)=rw9 n:=by
  rw [zIK (l:=tab 9 (gd (dg n) 0#64)) (by simp) (Dg.tab fun i _=>zkH n i),ztF,← zjJ _ 9 (zrL h),zds]
theorem zEW (L:Lim) (h:zab) (x:zaa) (n:Nat) (hx1:LV x (dg n)) (hn:n < dB ^ 9):
    zag ctx L zdF [x] h=some (.agg (cW (rw9 n)),h):=by
  rw [zoV]
  have hlo:=fun fr R z=>zGl (fr:=fr) (h:=h) (R:=R) (dg n) (zrL hn) z
  rw [zcc,zTz n hn] at hlo
  have l3:(rw9 n).length=9:=zhn _
  have hf1:=hx1.fz
  have hr0:=zaI 9
  have hl0:(tab 9 fun _=>(0#64:W64)).length=9:=by simp
  have hfill:zaA (cW (tab 9 fun _=>(0#64:W64))) []=some (cW (tab 9 fun _=>0#64)):=rfl
  generalize rw9 n=r3 at*
  generalize (tab 9 fun _=>(0#64:W64))=m0 at*
  simp -implicitDefEqProofs [zhA,hf1,hr0,hfill,zbp,zai,hl0,zak]
  generalize hF:run ctx _ (.loop _) _ _=R
  obtain ⟨fr1,rfl,hk1⟩:=hlo _ _ _ hF (by simp) (by simp) (by simp)
  simp -implicitDefEqProofs [hk1,wr,zco,zbM,zaj,l3,zbp,zai,hl0,zak]
end Go.Av
namespace Go.Av
def rwL (l:List Nat):List W64:=(l.map rw9).flatten
theorem zqJ (a:Nat) (l:List Nat):rwL (a :: l)=rw9 a++rwL l:=rfl
theorem zyb (l m:List Nat):rwL (l++m)=rwL l++rwL m:=by simp [rwL]
@[simp] theorem zQj:∀ l:List Nat,(rwL l).length=9*l.length
  | []=>rfl
  | a :: l=>by rw [zqJ,List.length_append,zhn,zQj l,List.length_cons];omega
theorem zzq:∀ (l:List Nat) (i:Nat),(rwL l).drop (9*i)=rwL (l.drop i)
  | l,0=>rfl
  | [],i+1=>by simp [rwL]
  | a :: l, i + 1 => by
    rw [zqJ,List.drop_succ_cons,← zzq l i,show 9*(i+1)=(rw9 a).length+9*i by simp;omega,List.drop_append]
    simp
theorem zEX:∀ (l:List Nat) (i:Nat),(rwL l).take (9*i)=rwL (l.take i)
  | l,0=>rfl
  | [],i+1=>by simp [rwL]
  | a :: l, i + 1 => by
    rw [zqJ,List.take_succ_cons,zqJ,← zEX l i,show 9*(i+1)=(rw9 a).length+9*i by simp;omega,List.take_append,List.take_of_length_le (by simp),Nat.add_sub_cancel_left]
theorem zI5 (l:List Nat) (o i:Nat) (ho:o=i*9) (h:i < l.length):zb2 true (cW (rwL l)) o 9=some (.agg (cW (rw9 (gd l 0 i)))):=by
  rw [ho,Nat.mul_comm]
  rw [zE9 _ _ _ (by simp;omega),zzq,List.drop_eq_getElem_cons h,zqJ,List.take_left' (by simp)]
  unfold gd;simp [List.getD,List.getElem?_eq_getElem h]
theorem zO1 (l:List Nat) (x o i:Nat) (ho:o=i*9) (h:i < l.length):setAt (cW (rwL l)) o (cW (rw9 x))=cW (rwL (l.set i x)):=by
  rw [ho,Nat.mul_comm,ztu _ _ _ (by simp;omega)]
  unfold putAt
  rw [List.set_eq_take_append_cons_drop,if_pos h,zyb,zqJ,zC2,zEX,zCq,zhn,show 9*i+9=9*(i+1) by omega,zC3,zzq]
  simp [cW]
theorem zI7 (n : Nat) : (tab (9 * n) fun _ => (0#64 : W64)) = rwL (tab n fun _ => 0) := by
  induction n with
  | zero=>rfl
  | succ n ih=>
    rw [← zig,zyb,← ih]
    have e1:rwL [0]=tab 9 fun _=>0#64:=by rw [zzf];simp [rwL]
    rw [e1]
    have : ∀ m k, (tab (m + k) fun _ => (0#64 : W64)) = (tab m fun _ => 0#64) ++ tab k fun _ => 0#64 := fun m k => by
      simp [tab,List.map_const',List.replicate_append_replicate]
    exact this (9*n) 9
def prF (i:Nat):Nat:=pN*2 ^ i
theorem zI8 {i:Nat} (h:i < 9):prF i < dB ^ 9:=by
  have h1:(2:Nat) ^ i≤2 ^ 8:=Nat.pow_le_pow_right (by decide) (by omega)
  have h2:prF i≤pN*2 ^ 8:=Nat.mul_le_mul_left _ h1
  exact Nat.lt_of_le_of_lt h2 (by decide)
theorem zMJ {fr:Fr} {h:zab} {R:Option (AEx × Fr × zab)}
    (hF:run ctx (zak h) (.loop zbu) fr (hx h [cW (rwL (za6 9 prF (fun _=>0) 1))] [])=R)
    (h5:fr 5=pA h.blks.length 0 0) (h6:fr 6=.int .i64 1):
    ∃ fr',R=some (.exit 0,fr',hx h [cW (rwL (tab 9 prF))] [])∧∀ t,t∉wr zbu→fr' t=fr t:=by
  obtain ⟨e,fr',h',rfl,⟨rfl,rfl⟩,hk⟩:=zaf hF 8
    (fun k fr hh=>fr 6=.int .i64 ((k+1:Nat):Int)∧hh=hx h [cW (rwL (za6 9 prF (fun _=>0) (k+1)))] [])
    (fun e fr hh=>e=.exit 0∧hh=hx h [cW (rwL (tab 9 prF))] [])
    ⟨h6,rfl⟩ (by
      rintro k fr1 hh hkN hkeep ⟨g6,rfl⟩
      have g5:=(hkeep 5 (by decide)).trans h5
      by_cases hlt:k < 8
      · have w1 : IntKind.i64.wrap (((k + 1 : Nat) : Int) + 1) = ((k + 2 : Nat) : Int) := (wrap_i64 (by omega) (by omega)).trans (by omega)
        have w2:IntKind.i64.wrap (((k+1:Nat):Int) - 1)=(k:Int):=(wrap_i64 (by omega) (by omega)).trans (by omega)
        have i1:=zaP 9 9 h.blks.length 0 0 k .i64 (by simp;omega)
        have i2:=zaP 9 9 h.blks.length 0 0 (k+1) .i64 (by simp;omega)
        have p1:=zI5 (za6 9 prF (fun _=>0) (k+1)) (0+k*9) k (by omega) (by simp;omega)
        have hg:gd (za6 9 prF (fun _=>0) (k+1)) 0 k=prF k:=by unfold za6;rw [zbz (by omega),if_pos (by omega)]
        rw [hg] at p1
        have hM := fun L h => zIS L h 0 (prF k) 2#64 (by decide) (by
          have:=zI8 (i:=k+1) (by omega)
          rw [show prF (k+1)=prF k*2 by unfold prF;rw [Nat.pow_succ,Nat.mul_assoc]] at this
          rw [show (2#64:W64).toNat=2 from rfl];omega) (by decide) (zI8 (by omega))
        rw [show 0*256+prF k*(2#64:W64).toNat=prF (k+1) by unfold prF;rw [Nat.pow_succ,Nat.mul_assoc,show (2#64:W64).toNat=2 from rfl];omega] at hM
        have s1:=zO1 (za6 9 prF (fun _=>0) (k+1)) (prF (k+1)) (0+(k+1)*9) (k+1) (by omega) (by simp;omega)
        rw [zdn] at s1
        have hlen:(cW (rwL (za6 9 prF (fun _=>0) (k+1)))).length=81:=by simp
        have hob:0+(k+1)*9+9≤81:=by omega
        have hrob:(zak h).rob≤h.blks.length:=Nat.le_refl _
        have l1:=zhn (prF (k+1))
        have e1:((k+1:Nat):Int) < 9:=by omega
        have hz9:zaS (zaa.int .u64 0) 9=cW (rw9 0):=by rw [zaI];exact congrArg cW zzf
        have hfill:zaA (cW (rw9 0)) []=some (cW (rw9 0)):=rfl
        have hz2:zaa.int .u64 2=wd 2#64:=rfl
        generalize hm2:cW (rwL (za6 9 prF (fun _=>0) (k+1+1)))=m2 at*
        generalize cW (rwL (za6 9 prF (fun _=>0) (k+1)))=m1 at*
        generalize rw9 (prF (k+1))=r2 at*
        generalize rw9 (prF k)=r1 at*
        generalize cW (rw9 0)=r0 at*
        generalize 0+(k+1)*9=o2 at*
        generalize 0+k*9=o1 at*
        generalize hk1:((k+1:Nat):Int)=k1 at*
        generalize hk2:((k+2:Nat):Int)=k2 at*
        simp -implicitDefEqProofs [zbu,g5,g6,e1,w1,w2,i1,i2,p1,hz9,hfill,hz2,hM,zbp,l1,s1,hlen,hob,zah,hrob]
        exact ⟨hlt,by rw [← hk2];rfl,by rw [hm2]⟩
      · have : k = 8 := by omega
        subst this
        rw [zft]
        generalize cW (rwL (tab 9 prF))=m1 at*
        simp [zbu,g6])
  exact ⟨fr',rfl,hk⟩
theorem zMK {fr:Fr} {h:zab} {R:Option (AEx × Fr × zab)} (x0:Nat) (z:List zaa) (hx0:x0 < pN*512)
    (hF:run ctx (zak h) (.loop zbv) fr (hx h [cW (rwL (tab 9 prF)),cW (rw9 x0),z] [])=R)
    (h5:fr 5=pA h.blks.length 0 0) (h8:fr 8=pA h.blks.length 1 0) (h11:fr 11=.int .i64 8):
    ∃ fr',R=some (.exit 4,fr',hx h [cW (rwL (tab 9 prF)),cW (rw9 (x0 % pN)),z] [])∧∀ t,t∉wr zbv→fr' t=fr t:=by
  have hbig:pN*512 < dB ^ 9:=by decide
  obtain ⟨e,fr',h',rfl,⟨rfl,rfl⟩,hk⟩:=zaf hF 9
    (fun k fr hh=>∃ j x,j+k=9∧fr 11=.int .i64 ((j:Int) - 1)∧x≤x0∧grd pN j x=grd pN 9 x0∧hh=hx h [cW (rwL (tab 9 prF)),cW (rw9 x),z] [])
    (fun e fr hh=>e=.exit 4∧hh=hx h [cW (rwL (tab 9 prF)),cW (rw9 (x0 % pN)),z] [])
    ⟨9,x0,rfl,h11,Nat.le_refl _,rfl,rfl⟩ (by
      rintro k fr1 hh hkN hkeep ⟨j,x,hj,g11,hxx,hgr,rfl⟩
      have g5:=(hkeep 5 (by decide)).trans h5
      have g8:=(hkeep 8 (by decide)).trans h8
      cases j with
      | succ i=>
        rw [show (((i+1:Nat):Int) - 1)=(i:Int) by omega] at g11
        have w1:IntKind.i64.wrap ((i:Int) - 1)=(i:Int) - 1:=wrap_i64 (by omega) (by omega)
        have i1:=zaP 9 9 h.blks.length 0 0 i .i64 (by simp;omega)
        have p1:=zI5 (tab 9 prF) (0+i*9) i (by omega) (by simp;omega)
        rw [zbz (by omega)] at p1
        have hpi:=zI8 (i:=i) (by omega)
        have hR:=fun L h=>zGk L h x (prF i) (by omega) hpi
        have hnn:(i:Int)≥0:=by omega
        have l0:=zhn x
        have hrob:(zak h).rob≤h.blks.length:=Nat.le_refl _
        by_cases hle:prF i≤x
        · rw [decide_eq_true hle] at hR
          have hM:=fun L h=>zMy L h x (prF i) hle (by omega)
          obtain ⟨x',e1,e2,e3⟩:∃ x',(x - prF i=x'∧x'≤x0∧grd pN i x'=grd pN 9 x0):=⟨_,rfl,by omega,by rw [← hgr,grd,if_pos (show pN*2 ^ i≤x from hle)];rfl⟩
          rw [e1] at hM
          have l1:=zhn x'
          have hfin:∃ y,(y≤x0∧grd pN i y=grd pN 9 x0∧hx h [cW (rwL (tab 9 prF)),cW (rw9 x'),z] []=hx h [cW (rwL (tab 9 prF)),cW (rw9 y),z] []):=⟨x',e2,e3,rfl⟩
          generalize cW (rwL (tab 9 prF))=tb at*
          generalize rw9 (prF i)=r2 at*
          generalize rw9 x'=r1 at*
          generalize rw9 x=r0 at*
          generalize 0+i*9=o at*
          simp -implicitDefEqProofs [zbv,g5,g8,g11,w1,i1,p1,zaj,l0,hR,hM,zbp,zai,l1,zah,hrob]
          exact ⟨by omega,i,by omega,rfl,hfin⟩
        · rw [decide_eq_false hle] at hR
          have e3:grd pN i x=grd pN 9 x0:=by rw [← hgr,grd,if_neg (show ¬pN*2 ^ i≤x from hle)]
          have hfin:∃ y,(y≤x0∧grd pN i y=grd pN 9 x0∧hx h [cW (rwL (tab 9 prF)),cW (rw9 x),z] []=hx h [cW (rwL (tab 9 prF)),cW (rw9 y),z] []):=⟨x,hxx,e3,rfl⟩
          generalize cW (rwL (tab 9 prF))=tb at*
          generalize rw9 (prF i)=r2 at*
          generalize rw9 x=r0 at*
          generalize 0+i*9=o at*
          simp -implicitDefEqProofs [zbv,g5,g8,g11,w1,i1,p1,zaj,l0,hR]
          exact ⟨by omega,i,by omega,rfl,hfin⟩
      | zero=>
        have e1:x=x0 % pN:=by
          rw [zEM pN 9 x0 hx0] at hgr;exact hgr
        subst e1
        generalize rw9 (x0 % pN)=r at*
        simp [zbv,g11])
  exact ⟨fr',rfl,hk⟩
end Go.Av
namespace Go.Av
theorem zDB (x i:Nat) (hx:x < rN) (hi:i < 32):gd (zbQ (w4 x)) 0 i=((x / 256 ^ i % 256:Nat):Int):=by
  unfold zbQ
  rw [zbz (by simp;omega)]
  unfold byW
  congr 1
  have hv:=zuI x hx
  have key:∀ (l:List W64) (q:Nat),(gd l 0#64 q).toNat=val l / 18446744073709551616 ^ q % 18446744073709551616:=by
    intro l
    induction l with
    | nil=>intro q;simp [gd,List.getD,val]
    | cons w l ih=>
      intro q
      have:=w.isLt
      cases q with
      | zero=>rw [zvA,val,Nat.pow_zero,Nat.div_one,Nat.add_mul_mod_self_left,Nat.mod_eq_of_lt this]
      | succ q=>rw [ztz,ih q,val,Nat.pow_succ,Nat.mul_comm (18446744073709551616 ^ q),← Nat.div_div_eq_div_mul,Nat.add_mul_div_left _ _ (by decide),Nat.div_eq_of_lt this,Nat.zero_add]
  rw [BitVec.toNat_ushiftRight,key,hv,Nat.shiftRight_eq_div_pow,show (2:Nat) ^ (8*(i % 8))=256 ^ (i % 8) by rw [Nat.pow_mul]]
  have e:256 ^ i=18446744073709551616 ^ (i / 8)*256 ^ (i % 8):=by
    rw [show 18446744073709551616=256 ^ 8 from rfl,← Nat.pow_mul,← Nat.pow_add,Nat.div_add_mod]
  rw [e,← Nat.div_div_eq_div_mul]
  generalize x / 18446744073709551616 ^ (i / 8)=y
  have h8:i % 8 < 8:=Nat.mod_lt _ (by decide)
  generalize i % 8=j at*
  have:j=0∨j=1∨j=2∨j=3∨j=4∨j=5∨j=6∨j=7:=by omega
  rcases this with rfl | rfl | rfl | rfl | rfl | rfl | rfl | rfl
  · rw [show 256 ^ 0=1 from rfl];omega
  · rw [show 256 ^ 1=256 from rfl];omega
  · rw [show 256 ^ 2=65536 from rfl];omega
  · rw [show 256 ^ 3=16777216 from rfl];omega
  · rw [show 256 ^ 4=4294967296 from rfl];omega
  · rw [show 256 ^ 5=1099511627776 from rfl];omega
  · rw [show 256 ^ 6=281474976710656 from rfl];omega
  · rw [show 256 ^ 7=72057594037927936 from rfl];omega
theorem zMM (x y p i:Nat):(x / 256 ^ (i+1)*y % p*256+y*(x / 256 ^ i % 256)) % p=x / 256 ^ i*y % p:=by
  have e:x / 256 ^ i=x / 256 ^ (i+1)*256+x / 256 ^ i % 256:=by
    rw [Nat.pow_succ,← Nat.div_div_eq_div_mul];omega
  conv=>rhs;rw [e]
  rw [Nat.add_mod,Nat.mod_mul_mod,← Nat.add_mod]
  congr 1
  rw [Nat.add_mul,Nat.mul_comm y]
  congr 1
  rw [Nat.mul_right_comm]
theorem zI9 {fr:Fr} {h:zab} {R:Option (AEx × Fr × zab)} (x y:Nat) (hx1:x < rN) (hy1:y < pN)
    (hF:run ctx (zak h) (.loop zcV) fr (hx h [cW (rwL (tab 9 prF)),cW (rw9 0),cW (rw9 y)] [])=R)
    (h5:fr 5=pA h.blks.length 0 0) (h7:fr 7=.vsl false (eI .u8 (zbQ (w4 x)))) (h8:fr 8=pA h.blks.length 1 0) (h9:fr 9=pA h.blks.length 2 0) (h10:fr 10=.int .i64 31):
    ∃ fr',R=some (.exit 2,fr',hx h [cW (rwL (tab 9 prF)),cW (rw9 (x*y % pN)),cW (rw9 y)] [])∧∀ t,t∉wr zcV→fr' t=fr t:=by
  have h0:x / 256 ^ 32=0:=Nat.div_eq_of_lt hx1
  obtain ⟨e,fr',h',rfl,⟨rfl,rfl⟩,hk⟩:=zaf hF 32
    (fun k fr hh=>∃ j,j+k=32∧fr 10=.int .i64 ((j:Int) - 1)∧hh=hx h [cW (rwL (tab 9 prF)),cW (rw9 (x / 256 ^ j*y % pN)),cW (rw9 y)] [])
    (fun e fr hh=>e=.exit 2∧hh=hx h [cW (rwL (tab 9 prF)),cW (rw9 (x*y % pN)),cW (rw9 y)] [])
    ⟨32, rfl, h10, by rw [h0, Nat.zero_mul, Nat.zero_mod]⟩ (by
      rintro k fr1 hh hkN hkeep ⟨j,hj,g10,rfl⟩
      have g5:=(hkeep 5 (by decide)).trans h5
      have g7:=(hkeep 7 (by decide)).trans h7
      have g8:=(hkeep 8 (by decide)).trans h8
      have g9:=(hkeep 9 (by decide)).trans h9
      cases j with
      | succ i=>
        rw [show (((i+1:Nat):Int) - 1)=(i:Int) by omega] at g10
        have w1:IntKind.i64.wrap ((i:Int) - 1)=(i:Int) - 1:=wrap_i64 (by omega) (by omega)
        have hib:=znQ .u8 .i64 false (zbQ (w4 x)) i (by simp;omega)
        have hgb:=zDB x i hx1 (by omega)
        have hnn:(i:Int)≥0:=by omega
        have hd:x / 256 ^ i % 256 < 256:=Nat.mod_lt _ (by decide)
        have hbw:zMA .u64 (.int .u8 (gd (zbQ (w4 x)) 0 i))=some (wd (BitVec.ofNat 64 (x / 256 ^ i % 256))):=by
          rw [hgb,zH2];rfl
        have htn:(BitVec.ofNat 64 (x / 256 ^ i % 256):W64).toNat=x / 256 ^ i % 256:=by
          rw [BitVec.toNat_ofNat];omega
        have hr0:=Nat.mod_lt (x / 256 ^ (i+1)*y) zd1
        have hst:=zMM x y pN i
        generalize hr:x / 256 ^ (i+1)*y % pN=r at*
        have hyd:y*(x / 256 ^ i % 256)≤pN*255:=Nat.mul_le_mul (by omega) (by omega)
        have hbig:pN*512 < dB ^ 9:=by decide
        have hM:=fun L h=>zIS L h r y (BitVec.ofNat 64 (x / 256 ^ i % 256)) (by rw [htn];exact hd) (by rw [htn];omega) (by omega) (by omega)
        rw [htn] at hM
        have hlo:=fun fr R z=>zMK (fr:=fr) (h:=h) (R:=R) (r*256+y*(x / 256 ^ i % 256)) z (by omega)
        rw [hst] at hlo
        have l0:=zhn r
        have l1:=zhn y
        have l2:=zhn (r*256+y*(x / 256 ^ i % 256))
        have hrob:(zak h).rob≤h.blks.length:=Nat.le_refl _
        generalize rw9 (r*256+y*(x / 256 ^ i % 256))=r2 at*
        generalize hr3:rw9 (x / 256 ^ i*y % pN)=r3 at*
        generalize rw9 r=r0 at*
        generalize hyy:rw9 y=y0 at*
        generalize cW (rwL (tab 9 prF))=tb at*
        generalize (BitVec.ofNat 64 (x / 256 ^ i % 256):W64)=t at*
        simp -implicitDefEqProofs [zcV,g5,g7,g8,g9,g10,hib,hbw, -zdV,zaj,l0,l1,l2,hM,zbp,zai,zah,hrob]
        generalize hF:run ctx _ (.loop _) _ _=R
        obtain ⟨fr2,rfl,hk2⟩:=hlo _ _ _ hF (by simp [g5]) (by simp [g8]) (by simp)
        simp -implicitDefEqProofs [hk2,wr,zbv,zbM,g10,w1]
        exact ⟨by omega,i,by omega,rfl,by rw [hr3]⟩
      | zero=>
        rw [Nat.pow_zero,Nat.div_one]
        generalize rw9 (x*y % pN)=r at*
        simp [zcV,g10])
  exact ⟨fr',rfl,hk⟩
theorem RdW.gA (h:zab) (n i:Nat) (l:List W64):RdW h (gA n i (eW l)) l:=by
  refine ⟨by simp,fun k=>.vptr [wd (gd l 0#64 k)] 0,fun k hk=>?_,fun k bs ts hk=>?_⟩
  · have e : (eW l)[k]? = some [wd (gd l 0#64 k)] := by rw [zO5, zou (d := 0#64) hk]; rfl
    simp [Av.gA,zcP,asI,e]
  · simp [zat]
theorem zJb (L:Lim) (h:zab) (n i:Nat) (l:List W64) (hd:Dg l) (hn:l.length < 1000000000):zag ctx L zau [gA n i (eW l)] h=some (.vsl false (eW (dg (vD l))),h):=by
  have htl:=zwG l l.length
  have htd:=zz5 hd
  refine zqT L h _ (.vsl false (eW (dg (vD l)))) _ l (RdW.gA h n i l) hn ?_ (ztW _ _ _ _ _ _)
  have e1:zCX 0 (ztV l l.length) (eW l)=eW (dg (vD l)):=by rw [← htd];simp [zCX,eW,List.map_take]
  simp [zhU,gA,zlN,htl,e1]
theorem zMN:prF 0=pN:=by unfold prF;simp
theorem zqL (L:Lim) (h:zab) (u v:zaa) (x y:Nat) (hu:LV u (dg x)) (hv:LV v (dg y)) (hx1:x < rN) (hy1:y < pN):
    zag ctx L zbo [u,v] h=some (.vsl false (eW (dg (x*y % pN))),h):=by
  rw [zq5]
  have hP:=zIA
  rw [zF8] at hP
  have hR1:=fun L h=>zEW L h (.vsl false (eW (dg pN))) pN (LV.vsl _ _) (by decide)
  have hR2:=fun L h=>zEW L h (.vsl false (eW (dg y))) y (LV.vsl _ _) (Nat.lt_trans hy1 (by decide))
  have hz81:zaS (zaa.int .u64 0) 81=cW (rwL (tab 9 fun _=>0)):=by rw [zaI];exact congrArg cW (zI7 9)
  have hz9:zaS (zaa.int .u64 0) 9=cW (rw9 0):=by rw [zaI];exact congrArg cW zzf
  have hs0:=zO1 (tab 9 fun _=>0) (prF 0) 0 0 rfl (by simp)
  rw [← zcc 9 prF (fun _=>0),zdn,zMN] at hs0
  rw [zcc] at hs0
  have hfill : zaA (cW (rwL (tab 9 fun _ => 0))) [(0, 9, .agg (cW (rw9 pN)))] = some (cW (rwL (za6 9 prF (fun _ => 0) 1))) := by
    have l1:(cW (rw9 pN)).length=9:=by simp
    have l2:(cW (rwL (tab 9 fun _=>0))).length=81:=by simp
    simp only [zaA,zaa.cells,l1,l2,zii]
    rw [hs0];simp
  have hfill9:zaA (cW (rw9 0)) []=some (cW (rw9 0)):=rfl
  have hlo1:=fun fr R=>zMJ (fr:=fr) (h:=h) (R:=R)
  have hlo:=fun fr R=>zI9 (fr:=fr) (h:=h) (R:=R) x y hx1 hy1
  have hW:∀ L h,zag ctx L zbP [.vsl false (eW (dg x)),.int .i64 4] h=some (.vsl false (eW (tab 4 (wdO (dg x)))),h):=fun L h=>zAV L h (.vsl false (eW (dg x))) (dg x) (LV.vsl _ _) 4 (by decide)
  rw [zON 4 x hx1,zIN x hx1] at hW
  have hB:=fun L h=>zAZ L h (.vsl false (eW (w4 x))) (w4 x) (LV.vsl _ _) (by simp)
  have hf1:=hu.fz
  have hf2:=hv.fz
  have l1:(cW (rwL (za6 9 prF (fun _=>0) 1))).length=81:=by simp
  have l2:(rw9 0).length=9:=by simp
  have l3:(rw9 y).length=9:=by simp
  have l81:(rwL (tab 9 fun _=>0)).length=81:=by simp
  have hxy:x*y % pN < dB ^ 9:=Nat.lt_trans (Nat.mod_lt _ zd1) (by decide)
  have hsl:=zg6 9 1 h.blks.length 1 0 (by decide)
  have hel:=fun b0 b2=>zEI h [b0,cW (rw9 (x*y % pN)),b2] [] 1 9 (some 9) (rw9 (x*y % pN)) rfl (by simp)
  have hap:=fun b0 b2=>zAB (L:=zak h) (h:=h) (bs:=[b0,cW (rw9 (x*y % pN)),b2]) (sz:=1) (s:=.vsl true []) (y:=sA h.blks.length 1 0 1 9 (some 9)) (es:=[]) (ys:=eW (rw9 (x*y % pN))) (.inr rfl) (hel b0 b2) rfl (by simp) rfl (Nat.le_refl _) (by simp [zam])
  have hg0:gL (.vsl true []) h.toks.length 0 []=.vsl true []:=rfl
  have ht0:gT ([]:List (List zaa))=[]:=rfl
  rw [hg0,ht0] at hap
  rw [List.nil_append,show gL (.vsl true []) h.toks.length 0 (eW (rw9 (x*y % pN)))=gA h.toks.length 0 (eW (rw9 (x*y % pN))) from rfl] at hap
  have hT:=fun L hh=>zJb L hh h.toks.length 0 (rw9 (x*y % pN)) (zs7 _) (by simp)
  rw [znZ hxy] at hT
  have hch:zaA (rep [zaa.int .u64 0] 0) []=some []:=rfl
  have hch0:chunks 1 0 []=[]:=rfl
  generalize rw9 (x*y % pN)=rr at*
  generalize hm1:cW (rwL (za6 9 prF (fun _=>0) 1))=m1 at*
  generalize cW (rwL (tab 9 prF))=tb at*
  generalize rwL (tab 9 fun _=>0)=zz at*
  generalize rw9 y=ry at*
  generalize rw9 pN=rp at*
  generalize rw9 0=r0 at*
  generalize eW (w4 x)=e4 at*
  generalize zbQ (w4 x)=b4 at*
  generalize eW (dg pN)=ep at*
  have hrob:(zak h).rob≤h.blks.length:=Nat.le_refl _
  have hul:zap 0 0 m1=true:=by rw [← hm1];simp
  simp -implicitDefEqProofs [zi2,hf1,hf2,hP,hR1,hz81,hfill,zbp,zai,l1,l81,zah,hrob,hul]
  generalize hF:run ctx _ (.loop _) _ _=R
  obtain ⟨fr1,rfl,hk1⟩:=hlo1 _ _ hF (by simp) (by simp)
  simp -implicitDefEqProofs [hk1,wr,zbu,zbM,hW,hB,hz9,hfill9,hR2,zbp,zai,l2,l3,zah,hrob]
  generalize hF:run ctx _ (.loop _) _ _=R
  obtain ⟨fr2,rfl,hk2⟩:=hlo _ _ hF (by simp [hk1,wr,zbu,zbM]) (by simp) (by simp) (by simp) (by simp)
  simp -implicitDefEqProofs [hk2,wr,zbu,zbv,zcV,zbM,hch,hch0,hsl,hap,hT]
end Go.Av
namespace Go.Av
def dq2 (d:W64):Nat→W64
  | 0=>d
  | k+1=>qtW (dq2 d k) 2
theorem zJg (d:W64):∀ k,(dq2 d k).toNat=d.toNat / 2 ^ k
  | 0=>by simp [dq2]
  | k+1=>by rw [dq2,zkc,zJg d k,Nat.pow_succ,Nat.div_div_eq_div_mul]
theorem zJh {L:Lim} {fr:Fr} {h:zab} {R:Option (AEx × Fr × zab)} (d:W64) (i:Nat)
    (hF:run ctx L (.loop zcW) fr h=R) (h1:fr 1=.int .i64 (i:Int)) (h5:fr 5=wd d) (h6:fr 6=.int .i64 0):
    ∃ fr',R=some (.exit 0,fr',h)∧fr' 5=wd (dq2 d (i % 32))∧∀ t,t∉wr zcW→fr' t=fr t:=by
  have hm4:(i:Int).tmod 32=((i % 32:Nat):Int):=zoA i 32
  generalize hn:i % 32=n at*
  have hn4:n < 32:=by omega
  obtain ⟨e,fr',h',rfl,⟨rfl,rfl,h5'⟩,hk⟩:=zaf hF n
    (fun k fr hh=>fr 6=.int .i64 (k:Int)∧fr 5=wd (dq2 d k)∧hh=h)
    (fun e fr hh=>e=.exit 0∧hh=h∧fr 5=wd (dq2 d n))
    ⟨h6,h5,rfl⟩ (by
      rintro k fr1 hh hkN hkeep ⟨g6,g5,rfl⟩
      have g1:=(hkeep 1 (by decide)).trans h1
      by_cases hlt:k < n
      · have w1 : IntKind.i64.wrap ((k : Int) + 1) = k + 1 := wrap_i64 (by omega) (by omega)
        have hle:(k:Int) < n:=by omega
        have hd:qtW (dq2 d k) 2=dq2 d (k+1):=rfl
        generalize hd2:dq2 d (k+1)=d2 at*
        generalize dq2 d k=d1 at*
        simp -implicitDefEqProofs [zcW,g1,g5,g6,zbs,hm4,hle,w1,zRd,hd]
        exact ⟨hlt,by rw [hd2]⟩
      · have : k = n := by omega
        subst this
        generalize dq2 d k=d1 at*
        simp [zcW,g1,g5,g6,zbs,hm4])
  exact ⟨fr',rfl,h5',hk⟩
theorem zTJ {l:List W64} (h:Dg l) (m:Nat):(gd l 0#64 (m / 32)).toNat / 2 ^ (m % 32) % 2=vD l / 2 ^ m % 2:=by
  rw [zPK h]
  have e:2 ^ m=dB ^ (m / 32)*2 ^ (m % 32):=by
    rw [show dB=2 ^ 32 from rfl,← Nat.pow_mul,← Nat.pow_add,Nat.div_add_mod]
  rw [e,← Nat.div_div_eq_div_mul]
  generalize vD l / dB ^ (m / 32)=x
  have h32:m % 32 < 32:=Nat.mod_lt _ (by decide)
  generalize m % 32=j at*
  have e2:dB=2 ^ j*2 ^ (31 - j)*2:=by rw [← Nat.pow_add,← Nat.pow_succ,show (j+(31 - j)).succ=32 by omega];rfl
  rw [e2,Nat.mul_assoc,Nat.mod_mul_right_div_self,Nat.mod_mul_left_mod]
def btW (n i:Nat):W64:=BitVec.ofNat 64 (n / 2 ^ i % 2)
theorem zJi (L:Lim) (h:zab) (x:zaa) (l:List W64) (hx1:LV x l) (hd:Dg l) (i:Nat) (hi:i < 1000000000):
    zag ctx L zeT [x,.int .i64 (i:Int)] h=some (wd (btW (vD l) i),h):=by
  rw [zq6]
  have hlo:=fun L fr R h=>zJh (L:=L) (fr:=fr) (h:=h) (R:=R) (gd l 0#64 (i / 32)) i
  have hG:=fun L h=>zqp L h (.vsl false (eW l)) l (RdW.vsl h false l) (i / 32)
  have w2:IntKind.i64.wrap ((i:Int) / 32)=((i / 32:Nat):Int):=wrap_i64 (by omega) (by omega)
  have hr:rmW (dq2 (gd l 0#64 (i / 32)) (i % 32)) 2=btW (vD l) i:=by
    refine BitVec.eq_of_toNat_eq ?_
    unfold btW
    rw [zi6,zJg,zTJ hd,BitVec.toNat_ofNat]
    omega
  have hf1:=hx1.fz
  generalize btW (vD l) i=r at*
  generalize dq2 (gd l 0#64 (i / 32)) (i % 32)=d2 at*
  generalize ((i / 32:Nat):Int)=i32 at*
  simp -implicitDefEqProofs [zi3,hf1,zc9,w2,hG]
  generalize hF:run ctx _ (.loop _) _ _=R
  obtain ⟨fr1,rfl,h5,hk1⟩:=hlo _ _ _ _ hF (by simp) (by simp) (by simp)
  simp -implicitDefEqProofs [hk1,wr,zcW,zbM,h5,zRc,hr]
theorem zJj (n i:Nat):(zdj .eql (wd (btW n i)) (.int .u64 1))=some (.bool (decide (n / 2 ^ i % 2=1))):=by
  show some (zaa.bool (((btW n i).toNat:Int)==1))=_
  congr 2
  have:(btW n i).toNat=n / 2 ^ i % 2:=by unfold btW;rw [BitVec.toNat_ofNat];omega
  rw [this]
  by_cases e:n / 2 ^ i % 2=1
  · rw [e];rfl
  · rw [decide_eq_false e];exact beq_false_of_ne (by omega)
theorem zW0 {n i:Nat} (h1:n / 2 ^ (i+1)=0) (h2:n / 2 ^ i % 2=1):bl n=i+1:=by
  have h0:n≠0:=fun e=>by subst e;simp at h2
  have h3:n < 2 ^ (i+1):=by
    rcases Nat.div_eq_zero_iff.1 h1 with h | h
    · exact absurd h (by simp)
    · exact h
  have h4:2 ^ i≤n:=by
    rcases Nat.lt_or_ge n (2 ^ i) with h | h
    · rw [Nat.div_eq_of_lt h] at h2;simp at h2
    · exact h
  unfold bl
  rw [if_neg h0,(Nat.log2_eq_iff h0).2 ⟨h4,h3⟩]
theorem zGn {fr:Fr} {h:zab} {R:Option (AEx × Fr × zab)} (n N:Nat) (hN:n < 2 ^ N) (hN2:N < 1000000000)
    (hF:run ctx (zak h) (.loop zdD) fr (hx h [] [])=R)
    (h0:fr 0=.vsl false (eW (dg n))) (h3:fr 3=.int .i64 ((N:Int) - 1)):
    ∃ e fr',R=some (e,fr',hx h [] [])∧(e=.exit 0∧n=0∨e=.ret∧fr' 2=.int .i64 ((bl n:Nat):Int)):=by
  obtain ⟨e,fr',h',rfl,⟨rfl,hor⟩,hk⟩:=zaf hF N
    (fun k fr hh=>∃ m,m+k=N∧fr 3=.int .i64 ((m:Int) - 1)∧n / 2 ^ m=0∧hh=hx h [] [])
    (fun e fr hh=>hh=hx h [] []∧(e=.exit 0∧n=0∨e=.ret∧fr 2=.int .i64 ((bl n:Nat):Int)))
    ⟨N,rfl,h3,Nat.div_eq_of_lt hN,rfl⟩ (by
      rintro k fr1 hh hkN hkeep ⟨m,hm,g3,he,rfl⟩
      have g0:=(hkeep 0 (by decide)).trans h0
      cases m with
      | succ i=>
        rw [show (((i+1:Nat):Int) - 1)=(i:Int) by omega] at g3
        have w1:IntKind.i64.wrap ((i:Int) - 1)=(i:Int) - 1:=wrap_i64 (by omega) (by omega)
        have hnn:(i:Int)≥0:=by omega
        have hB:=fun L h=>zJi L h (.vsl false (eW (dg n))) (dg n) (LV.vsl _ _) (zkH n) i (by omega)
        rw [zds] at hB
        have h1:=zJj n i
        by_cases hb:n / 2 ^ i % 2=1
        · rw [decide_eq_true hb] at h1
          have hbl:=zW0 he hb
          have w2:IntKind.i64.wrap ((i:Int)+1)=((bl n:Nat):Int):=(wrap_i64 (by omega) (by omega)).trans (by omega)
          generalize ((bl n:Nat):Int)=b at*
          generalize btW n i=bt at*
          generalize eW (dg n)=en at*
          simp -implicitDefEqProofs [zdD,zak,g0,g3,hB,h1,w2, -zqr]
        · rw [decide_eq_false hb] at h1
          have he2:n / 2 ^ i=0:=by
            have:n / 2 ^ (i+1)=n / 2 ^ i / 2:=by rw [Nat.pow_succ,Nat.div_div_eq_div_mul]
            rw [this] at he
            omega
          generalize btW n i=bt at*
          generalize eW (dg n)=en at*
          simp -implicitDefEqProofs [zdD,zak,g0,g3,hB,h1,w1, -zqr]
          exact ⟨by omega,i,by omega,rfl,Nat.div_eq_zero_iff.1 he2 |>.resolve_left (by simp)⟩
      | zero=>
        simp [zdD,g3]
        simpa using he)
  exact ⟨e,fr',rfl,hor⟩
theorem zMT (L:Lim) (h:zab) (x:zaa) (n:Nat) (hx1:LV x (dg n)) (hl:(dg n).length < 1000000):
    zag ctx L zfK [x] h=some (.int .i64 ((bl n:Nat):Int),h):=by
  rw [zpz]
  have hnl:n < 2 ^ (32*(dg n).length):=by
    have:=zKs (zkH n)
    rw [zds] at this
    rw [Nat.pow_mul];exact this
  have hlo:=fun fr R=>zGn (fr:=fr) (h:=h) (R:=R) n (32*(dg n).length) hnl (by omega)
  have hT:=fun L h=>zCe L h false (dg n) (zkH n) (by omega)
  rw [zds] at hT
  have hf1:=hx1.fz
  have w1:IntKind.i64.wrap (32*((dg n).length:Int))=((32*(dg n).length:Nat):Int):=(wrap_i64 (by omega) (by omega)).trans (by omega)
  have w2:IntKind.i64.wrap (((32*(dg n).length:Nat):Int) - 1)=((32*(dg n).length:Nat):Int) - 1:=wrap_i64 (by omega) (by omega)
  have hb0:n=0→((bl n:Nat):Int)=0:=fun e=>by subst e;rfl
  generalize ((bl n:Nat):Int)=b at*
  generalize ((32*(dg n).length:Nat):Int)=l32 at*
  simp -implicitDefEqProofs [zik,hf1,hT,w1,w2]
  generalize hF:run ctx _ (.loop _) _ _=R
  obtain ⟨e,fr1,rfl,⟨rfl,hs⟩ | ⟨rfl,h4⟩⟩:=hlo _ _ hF (by simp) (by simp)
  · simp -implicitDefEqProofs [hb0 hs]
  · simp -implicitDefEqProofs [h4]
theorem zQs (a e i:Nat) (p:Nat):(a ^ (e / 2 ^ (i+1)) % p*(a ^ (e / 2 ^ (i+1)) % p) % p*(if e / 2 ^ i % 2=1 then a else 1)) % p=a ^ (e / 2 ^ i) % p:=by
  have h:e / 2 ^ i=2*(e / 2 ^ (i+1))+e / 2 ^ i % 2:=by
    rw [Nat.pow_succ,← Nat.div_div_eq_div_mul];omega
  have key:(if e / 2 ^ i % 2=1 then a else 1)=a ^ (e / 2 ^ i % 2):=by
    have:e / 2 ^ i % 2=0∨e / 2 ^ i % 2=1:=by omega
    rcases this with e | e <;> simp [e]
  rw [key,← Nat.mul_mod,Nat.mod_mul_mod,← Nat.pow_add,← Nat.two_mul,← Nat.pow_add,← h]
theorem zJl {fr:Fr} {h:zab} {R:Option (AEx × Fr × zab)} (a e:Nat) (ha:a < pN) (hbe:bl e < 1000000)
    (hF:run ctx (zak h) (.loop zeo) fr (hx h [] [])=R)
    (h0:fr 0=.vsl false (eW (dg a))) (h1:fr 1=.vsl false (eW (dg e))) (h5:VlW (fr 5) (dg 1)) (h6:fr 6=.int .i64 (((bl e:Nat):Int) - 1)):
    ∃ fr',R=some (.exit 0,fr',hx h [] [])∧VlW (fr' 5) (dg (a ^ e % pN)):=by
  have h00:e / 2 ^ bl e=0:=Nat.div_eq_of_lt (zQD e)
  obtain ⟨ex,fr',h',rfl,⟨rfl,rfl,h5'⟩,hk⟩:=zaf hF (bl e)
    (fun k fr hh=>∃ j,j+k=bl e∧fr 6=.int .i64 ((j:Int) - 1)∧VlW (fr 5) (dg (a ^ (e / 2 ^ j) % pN))∧hh=hx h [] [])
    (fun ex fr hh=>ex=.exit 0∧hh=hx h [] []∧VlW (fr 5) (dg (a ^ e % pN)))
    ⟨bl e, rfl, h6, by rw [h00, Nat.pow_zero, Nat.mod_eq_of_lt (by decide)]; exact h5, rfl⟩ (by
      rintro k fr1 hh hkN hkeep ⟨j,hj,g6,⟨c,g5⟩,rfl⟩
      have g0:=(hkeep 0 (by decide)).trans h0
      have g1:=(hkeep 1 (by decide)).trans h1
      cases j with
      | succ i=>
        rw [show (((i+1:Nat):Int) - 1)=(i:Int) by omega] at g6
        have w1:IntKind.i64.wrap ((i:Int) - 1)=(i:Int) - 1:=wrap_i64 (by omega) (by omega)
        have hnn:(i:Int)≥0:=by omega
        have hpb:=zQs a e i pN
        have hr0:=Nat.mod_lt (a ^ (e / 2 ^ (i+1))) zd1
        generalize a ^ (e / 2 ^ (i+1)) % pN=r at*
        have hM1:=fun L h=>zqL L h (.vsl c (eW (dg r))) (.vsl c (eW (dg r))) r r (LV.vsl _ _) (LV.vsl _ _) (Nat.lt_trans hr0 znV) hr0
        have hr1:=Nat.mod_lt (r*r) zd1
        generalize r*r % pN=s at*
        have hM2:=fun L h=>zqL L h (.vsl false (eW (dg s))) (.vsl false (eW (dg a))) s a (LV.vsl _ _) (LV.vsl _ _) (Nat.lt_trans hr1 znV) ha
        have hB:=fun L h=>zJi L h (.vsl false (eW (dg e))) (dg e) (LV.vsl _ _) (zkH e) i (by omega)
        rw [zds] at hB
        have hb1:=zJj e i
        by_cases hb:e / 2 ^ i % 2=1
        · rw [decide_eq_true hb] at hb1
          rw [if_pos hb] at hpb
          rw [hpb] at hM2
          generalize btW e i=bt at*
          generalize eW (dg e)=ee at*
          simp -implicitDefEqProofs [zeo,zak,g0,g1,g5,g6,hM1,hB,hb1,hM2,w1, -zqr]
          exact ⟨by omega,i,by omega,rfl,VlW.mk _ _⟩
        · rw [decide_eq_false hb] at hb1
          rw [if_neg hb,Nat.mul_one,Nat.mod_eq_of_lt hr1] at hpb
          subst hpb
          generalize btW e i=bt at*
          generalize eW (dg e)=ee at*
          simp -implicitDefEqProofs [zeo,zak,g0,g1,g5,g6,hM1,hB,hb1,w1, -zqr]
          exact ⟨by omega,i,by omega,rfl,VlW.mk _ _⟩
      | zero=>
        rw [Nat.pow_zero,Nat.div_one] at g5
        simp [zeo,g6]
        rw [g5];exact VlW.mk _ _)
  exact ⟨fr',rfl,h5'⟩
theorem zQt (L:Lim) (h:zab) (u v:zaa) (a e:Nat) (hu:LV u (dg a)) (hv:LV v (dg e)) (ha:a < pN) (he:(dg e).length < 10000):
    zag ctx L zgr [u,v] h=some (.vsl false (eW (dg (a ^ e % pN))),h):=by
  rw [zrw]
  have hbe:bl e < 1000000:=by
    have h1:=zKs (zkH e)
    rw [zds] at h1
    have h2:bl e≤32*(dg e).length:=zDM (by rw [Nat.pow_mul];exact h1)
    omega
  have hlo:=fun fr R=>zJl (fr:=fr) (h:=h) (R:=R) a e ha hbe
  have hB:=fun L h=>zMT L h (.vsl false (eW (dg e))) e (LV.vsl _ _) (by omega)
  have hf1:=hu.fz
  have hf2:=hv.fz
  have w1:IntKind.i64.wrap (((bl e:Nat):Int) - 1)=((bl e:Nat):Int) - 1:=wrap_i64 (by omega) (by omega)
  have hfill:zaA (rep [zaa.int .u64 0] 1) [(0,1,.int .u64 1)]=some [wd 1#64]:=rfl
  have hch:chunks 1 1 [wd 1#64]=eW (dg 1):=rfl
  generalize ((bl e:Nat):Int)=be at*
  simp -implicitDefEqProofs [zjk,hf1,hf2,hfill,hch,hB,w1]
  generalize hF:run ctx _ (.loop _) _ _=R
  obtain ⟨fr1,rfl,⟨c,h5⟩⟩:=hlo _ _ hF (by simp) (by simp) (by simp;exact VlW.mk _ _) (by simp)
  simp -implicitDefEqProofs [h5]
theorem zDF (L:Lim) (h:zab) (u:zaa) (a:Nat) (hu:LV u (dg a)) (ha:a < pN):
    zag ctx L zcN [u] h=some (.vsl false (eW (dg (a ^ (pN - 2) % pN))),h):=by
  rw [znB]
  have hP:=zIA
  rw [zF8] at hP
  have hS:=fun L h=>zC9 L h (.vsl false (eW (dg pN))) (.vsl true (eW (dg 2))) (dg pN) (dg 2) (LV.vsl _ _) (LV.vsl _ _) (zkH _) (zkH _) (by rw [← zF8];decide) (zyY (by decide)) (by rw [zds,zds];decide)
  rw [zds,zds] at hS
  have hE := fun L h => zQt L h (.vsl false (eW (dg a))) (.vsl false (eW (dg (pN - 2)))) a (pN - 2) (LV.vsl _ _) (LV.vsl _ _) ha (by
    have:=zyY (show pN - 2≤pN by decide)
    rw [← zF8] at this
    exact Nat.lt_of_le_of_lt this (by decide))
  have hf1:=hu.fz
  have hfill:zaA (rep [zaa.int .u64 0] 1) [(0,1,.int .u64 2)]=some [wd 2#64]:=rfl
  have hch:chunks 1 1 [wd 2#64]=eW (dg 2):=rfl
  generalize eW (dg (pN - 2))=e2 at*
  generalize eW (dg 2)=ee at*
  generalize eW (dg pN)=ep at*
  simp -implicitDefEqProofs [zgg,hf1,hP,hfill,hch,hS,hE]
end Go.Av
