/- The rests of great numbers, and the element of any bytes, are those of the numbers. -/
import Derived.Test.YtbookmjmhfoolaaGreatDoorC1
set_option linter.unusedSimpArgs false
set_option linter.unusedVariables false
set_option maxHeartbeats 2000000
set_option maxRecDepth 20000
namespace Go.Av
def bN (n:Nat):Nat:=18446744073709551616 ^ n
theorem zIN (n:Nat):0 < bN n:=Nat.pow_pos (by decide)
theorem zCJ:bN 0=1:=rfl
theorem zeY (n:Nat):bN (n+1)=18446744073709551616*bN n:=by unfold bN;rw [Nat.pow_succ,Nat.mul_comm]
def wN:Nat→Nat→List W64
  | 0,_=>[]
  | n+1,x=>BitVec.ofNat 64 x :: wN n (x / 18446744073709551616)
@[simp] theorem zom:∀ n x,(wN n x).length=n
  | 0,_=>rfl
  | n+1,x=>by simp [wN,zom n]
theorem zja:∀ n x,x < bN n→val (wN n x)=x
  | 0, x, h => by have : x = 0 := by simpa [bN] using h
                  subst this;rfl
  | n + 1, x, h => by
    rw [zeY] at h
    have ih:=zja n (x / 18446744073709551616) (by rw [Nat.div_lt_iff_lt_mul (by decide),Nat.mul_comm];exact h)
    simp only [wN,val,ih,BitVec.toNat_ofNat]
    omega
theorem zhc:∀ l:List W64,val l < bN l.length
  | []=>by simp [val,bN]
  | w :: l => by
    have h1:=w.isLt
    have ih:=zhc l
    simp only [val,List.length_cons,zeY]
    omega
theorem zrQ:∀ {l:List W64} {n:Nat},l.length=n→wN n (val l)=l
  | [],n,h=>by subst h;rfl
  | w :: l, n, h => by
    subst h
    have h1:=w.isLt
    simp only [List.length_cons,wN,val]
    have e1:(w.toNat+18446744073709551616*val l) / 18446744073709551616=val l:=by omega
    rw [e1,zrQ rfl]
    congr 1
    apply BitVec.eq_of_toNat_eq
    rw [BitVec.toNat_ofNat]
    omega
theorem val_inj {l m:List W64} (hl:l.length=m.length) (h:val l=val m):l=m:=by
  rw [← zrQ (l:=l) rfl,← zrQ (l:=m) rfl,hl,h]
def zbl (f:Nat→W64):Nat→Nat
  | 0=>0
  | n+1=>zbl f n+(f n).toNat*bN n
theorem zrR (f:Nat→W64):∀ n,zbl f n < bN n
  | 0=>by simp [zbl,bN]
  | n + 1 => by
    have h1:=(f n).isLt
    have ih:=zrR f n
    rw [zeY,zbl]
    have:(f n).toNat*bN n≤18446744073709551615*bN n:=Nat.mul_le_mul_right _ (by omega)
    omega
theorem zcS {f g:Nat→W64}:∀ n,(∀ i,i < n→f i=g i)→zbl f n=zbl g n
  | 0,_=>rfl
  | n+1,h=>by rw [zbl,zbl,zcS n fun i hi=>h i (by omega),h n (by omega)]
theorem zug (f : Nat → W64) : ∀ n, zbl f (n + 1) = (f 0).toNat + 18446744073709551616 * zbl (fun i => f (i + 1)) n
  | 0=>by simp [zbl,bN]
  | n + 1 => by
    rw [zbl,zug f n,zbl,zeY,Nat.mul_add,Nat.add_assoc,Nat.mul_left_comm]
theorem zdq:∀ (l:List W64) (n:Nat),l.length≤n→val l=zbl (gd l 0#64) n
  | [], n, _ => by
    induction n with
    | zero=>rfl
    | succ n ih=>rw [zbl,← ih (by simp)];simp [val,gd]
  | w :: l,0,h=>by simp at h
  | w :: l, n + 1, h => by
    rw [zug,val,zdq l n (by simpa using h)]
    rfl
theorem zrU {f g:Nat→W64} {i:Nat} (h:(f i).toNat < (g i).toNat):∀ n,i < n→(∀ j,i < j→j < n→f j=g j)→zbl f n < zbl g n
  | 0,hi,_=>by omega
  | n + 1, hi, hj => by
    by_cases hn:i=n
    · subst hn
      rw [zbl,zbl]
      have h1:=zrR f i
      have h2:((f i).toNat+1)*bN i≤(g i).toNat*bN i:=Nat.mul_le_mul_right _ h
      rw [Nat.add_mul,Nat.one_mul] at h2
      omega
    · rw [zbl, zbl, hj n (by omega) (by omega)]
      have:=zrU h n (by omega) fun j h1 h2=>hj j h1 (by omega)
      omega
def eaK (lo hi:W64→W64→W64→W64) (a b:List W64) (n:Nat):Nat→List W64 × W64
  | 0=>(tab n fun _=>0#64,0#64)
  | k+1=>((eaK lo hi a b n k).1.set k (lo (gd a 0#64 k) (gd b 0#64 k) (eaK lo hi a b n k).2),hi (gd a 0#64 k) (gd b 0#64 k) (eaK lo hi a b n k).2)
@[simp] theorem zva (lo hi:W64→W64→W64→W64) (a b:List W64) (n:Nat):∀ k,(eaK lo hi a b n k).1.length=n
  | 0=>by simp [eaK]
  | k+1=>by simp [eaK,zva lo hi a b n k]
theorem zGq {lo hi:W64→W64→W64→W64} (hh:∀ x y c:W64,c.toNat≤1→(hi x y c).toNat≤1) (a b:List W64) (n:Nat):∀ k,(eaK lo hi a b n k).2.toNat≤1
  | 0=>by simp [eaK]
  | k+1=>hh _ _ _ (zGq hh a b n k)
theorem zvb (lo hi:W64→W64→W64→W64) (a b:List W64) (n:Nat) (j:Nat):∀ k,j < k→j < n→gd (eaK lo hi a b n k).1 0#64 j=gd (eaK lo hi a b n (j+1)).1 0#64 j
  | 0,h,_=>by omega
  | k + 1, h, hn => by
    by_cases hj:j=k
    · subst hj;rfl
    · have ih := zvb lo hi a b n j k (by omega) hn
      rw [← ih]
      show gd ((eaK lo hi a b n k).1.set k _) 0#64 j=_
      by_cases hk:k < n
      · rw [zmc _ _ _ _ _ (by simpa using hk),if_neg (by omega)]
      · rw [List.set_eq_of_length_le (by simp;omega)]
theorem zCR (a b:List W64) (n:Nat):∀ k,k≤n→zbl (gd (eaK sbL sbH a b n k).1 0#64) k+zbl (gd b 0#64) k=zbl (gd a 0#64) k+bN k*(eaK sbL sbH a b n k).2.toNat
  | 0,_=>by simp [zbl,eaK]
  | k + 1, hk => by
    have ih:=zCR a b n k (by omega)
    have hc:=zGq (lo:=sbL) (hi:=sbH) (fun x y c h=>(zvE x y c h).2) a b n k
    have hs:=(zvE (gd a 0#64 k) (gd b 0#64 k) (eaK sbL sbH a b n k).2 hc).1
    have e1 : zbl (gd (eaK sbL sbH a b n (k + 1)).1 0#64) k = zbl (gd (eaK sbL sbH a b n k).1 0#64) k := zcS k fun j hj => by
      rw [zvb _ _ _ _ _ _ _ (show j < k+1 by omega) (by omega),← zvb _ _ _ _ _ _ _ hj (by omega)]
    have e2:gd (eaK sbL sbH a b n (k+1)).1 0#64 k=sbL (gd a 0#64 k) (gd b 0#64 k) (eaK sbL sbH a b n k).2:=by
      show gd ((eaK sbL sbH a b n k).1.set k _) 0#64 k=_
      rw [zmc _ _ _ _ _ (by simp;omega),if_pos rfl]
    have e3:(eaK sbL sbH a b n (k+1)).2=sbH (gd a 0#64 k) (gd b 0#64 k) (eaK sbL sbH a b n k).2:=rfl
    rw [zbl,zbl,zbl,e1,e2,e3,zeY]
    generalize sbL (gd a 0#64 k) (gd b 0#64 k) (eaK sbL sbH a b n k).2=u at*
    generalize sbH (gd a 0#64 k) (gd b 0#64 k) (eaK sbL sbH a b n k).2=v at*
    generalize (eaK sbL sbH a b n k).2.toNat=c at*
    generalize bN k=B at*
    generalize (gd a 0#64 k).toNat=x at*
    generalize (gd b 0#64 k).toNat=y at*
    generalize u.toNat=u at*
    generalize v.toNat=v at*
    grind
theorem zJB (a b:List W64) (n:Nat) (ha:a.length≤n) (hb:b.length≤n):(eaK sbL sbH a b n n).1=wN n (if val a < val b then val a+bN n - val b else val a - val b)∧(eaK sbL sbH a b n n).2=if val a < val b then 1#64 else 0#64:=by
  have h:=zCR a b n n (Nat.le_refl _)
  have hl:=zva sbL sbH a b n n
  have hc:=zGq (lo:=sbL) (hi:=sbH) (fun x y c h=>(zvE x y c h).2) a b n n
  rw [← zdq _ n (by omega),← zdq _ n hb,← zdq _ n ha] at h
  have hv:=zhc (eaK sbL sbH a b n n).1
  have hva:val a < bN n:=by rw [zdq a n ha];exact zrR _ n
  have hvb:val b < bN n:=by rw [zdq b n hb];exact zrR _ n
  rw [hl] at hv
  have hw:=zrQ hl
  generalize eaK sbL sbH a b n n=q at*
  obtain ⟨l,c⟩:=q
  simp only at*
  rw [← hw]
  rcases (show c.toNat=0∨c.toNat=1 by omega) with h0 | h0
  · rw [h0,Nat.mul_zero] at h
    have hn:¬val a < val b:=by omega
    rw [if_neg hn,if_neg hn]
    exact ⟨congrArg (wN n) (by omega),BitVec.eq_of_toNat_eq h0⟩
  · rw [h0,Nat.mul_one] at h
    have hn:val a < val b:=by omega
    rw [if_pos hn,if_pos hn]
    exact ⟨congrArg (wN n) (by omega),BitVec.eq_of_toNat_eq h0⟩
def twK (a:List W64) (bit:W64):Nat→List W64 × W64
  | 0=>(tab a.length fun _=>0#64,bit)
  | k+1=>((twK a bit k).1.set k (gd a 0#64 k <<< 1|||(twK a bit k).2),gd a 0#64 k >>> 63)
@[simp] theorem zvc (a:List W64) (bit:W64):∀ k,(twK a bit k).1.length=a.length
  | 0=>by simp [twK]
  | k+1=>by simp [twK,zvc a bit k]
theorem zJC (a:List W64) (bit:W64) (hb:bit.toNat≤1):∀ k,(twK a bit k).2.toNat≤1
  | 0=>hb
  | k + 1 => by
    simp only [twK]
    rw [BitVec.toNat_ushiftRight,Nat.shiftRight_eq_div_pow]
    have:=(gd a 0#64 k).isLt
    omega
theorem zMN (w c:W64) (hc:c.toNat≤1):(w <<< 1|||c).toNat+18446744073709551616*(w >>> 63).toNat=2*w.toNat+c.toNat:=by
  have h1:=w.isLt
  have e1:(w <<< 1).toNat=2*(w.toNat % 9223372036854775808):=by
    rw [BitVec.toNat_shiftLeft,Nat.shiftLeft_eq];omega
  have e2:(w <<< 1|||c).toNat=2*(w.toNat % 9223372036854775808)+c.toNat:=by
    rw [BitVec.toNat_or,e1]
    have:2*(w.toNat % 9223372036854775808)=(w.toNat % 9223372036854775808) <<< 1:=by rw [Nat.shiftLeft_eq];omega
    rw [this,← Nat.shiftLeft_add_eq_or_of_lt (by omega)]
  rw [e2,BitVec.toNat_ushiftRight,Nat.shiftRight_eq_div_pow]
  omega
theorem zvd (a:List W64) (bit:W64) (j:Nat):∀ k,j < k→j < a.length→gd (twK a bit k).1 0#64 j=gd (twK a bit (j+1)).1 0#64 j
  | 0,h,_=>by omega
  | k + 1, h, hn => by
    by_cases hj:j=k
    · subst hj;rfl
    · have ih := zvd a bit j k (by omega) hn
      rw [← ih]
      show gd ((twK a bit k).1.set k _) 0#64 j=_
      by_cases hk:k < a.length
      · rw [zmc _ _ _ _ _ (by simpa using hk),if_neg (by omega)]
      · rw [List.set_eq_of_length_le (by simp;omega)]
theorem zIR (a:List W64) (bit:W64) (hb:bit.toNat≤1):∀ k,k≤a.length→zbl (gd (twK a bit k).1 0#64) k+bN k*(twK a bit k).2.toNat=2*zbl (gd a 0#64) k+bit.toNat
  | 0,_=>by simp [zbl,twK,bN]
  | k + 1, hk => by
    have ih:=zIR a bit hb k (by omega)
    have hc:=zJC a bit hb k
    have hs:=zMN (gd a 0#64 k) (twK a bit k).2 hc
    have e1 : zbl (gd (twK a bit (k + 1)).1 0#64) k = zbl (gd (twK a bit k).1 0#64) k := zcS k fun j hj => by
      rw [zvd _ _ _ _ (show j < k+1 by omega) (by omega),← zvd _ _ _ _ hj (by omega)]
    have e2:gd (twK a bit (k+1)).1 0#64 k=gd a 0#64 k <<< 1|||(twK a bit k).2:=by
      show gd ((twK a bit k).1.set k _) 0#64 k=_
      rw [zmc _ _ _ _ _ (by simp;omega),if_pos rfl]
    have e3:(twK a bit (k+1)).2=gd a 0#64 k >>> 63:=rfl
    rw [zbl,zbl,e1,e2,e3,zeY]
    generalize gd a 0#64 k <<< 1|||(twK a bit k).2=u at*
    generalize gd a 0#64 k >>> 63=v at*
    generalize (twK a bit k).2.toNat=c at*
    generalize bN k=B at*
    generalize (gd a 0#64 k).toNat=x at*
    generalize u.toNat=u at*
    generalize v.toNat=v at*
    generalize bit.toNat=bt at*
    grind
def zIS (n c x m:Nat):Nat:=if c=0∧x < m then x else if x < m then x+bN n - m else x - m
theorem zMQ (a:List W64) (bit:W64) (hb:bit.toNat≤1) (m:Nat) (ha:val a < m) (hm:m < bN a.length):
    zIS a.length (twK a bit a.length).2.toNat (val (twK a bit a.length).1) m=(2*val a+bit.toNat) % m:=by
  have h:=zIR a bit hb a.length (Nat.le_refl _)
  have hl:=zvc a bit a.length
  have hc:=zJC a bit hb a.length
  rw [← zdq _ a.length (by omega),← zdq _ a.length (Nat.le_refl _)] at h
  have hv:=zhc (twK a bit a.length).1
  rw [hl] at hv
  generalize twK a bit a.length=q at*
  obtain ⟨l,c⟩:=q
  simp only at*
  have hlt2:2*val a+bit.toNat < 2*m:=by omega
  have hmod:(2*val a+bit.toNat) % m=if 2*val a+bit.toNat < m then 2*val a+bit.toNat else 2*val a+bit.toNat - m:=by
    split
    · rw [Nat.mod_eq_of_lt (by assumption)]
    · rw [Nat.mod_eq_sub_mod (by omega),Nat.mod_eq_of_lt (by omega)]
  rw [hmod]
  unfold zIS
  rcases (show c.toNat=0∨c.toNat=1 by omega) with h0 | h0
  · rw [h0,Nat.mul_zero,Nat.add_zero] at h
    rw [h0,h]
    by_cases hx:2*val a+bit.toNat < m
    · rw [if_pos ⟨rfl,hx⟩,if_pos hx]
    · rw [if_neg (fun q=>hx q.2),if_neg hx,if_neg hx]
  · rw [h0,Nat.mul_one] at h
    have hx:¬(2*val a+bit.toNat < m):=by omega
    have hy:val l < m:=by omega
    rw [h0,if_neg (by omega),if_pos hy,if_neg hx]
    omega
end Go.Av
namespace Go.Av
theorem zG1 (L:Lim) (h:zab) (x:zaa) (l:List W64) (hr:RdW h x l) (i:Nat):zag ctx L zic [x,.int .i64 (i:Int)] h=some (wd (gd l 0#64 i),h):=by
  rw [zwM]
  obtain ⟨r1,p,r2,r3⟩:=hr
  by_cases hi:i < l.length
  · simp -implicitDefEqProofs [zo8,zau,r1,hi,r2 i hi,r3 i [] [] hi]
  · have hg : gd l 0#64 i = 0#64 := by unfold gd; simp [List.getD, List.getElem?_eq_none (Nat.le_of_not_lt hi)]
    simp -implicitDefEqProofs [zo8,zau,r1,hi,hg,wd0]
def ztw (x y:Nat):Int:=if x < y then -1 else if y < x then 1 else 0
theorem zDD (x y:W64):zew .lss (wd x) (wd y)=some (.bool (decide (x.toNat < y.toNat))):=by unfold wd;rw [zKU];simp
theorem zDB (x y:W64):zew .gtr (wd x) (wd y)=some (.bool (decide (y.toNat < x.toNat))):=by unfold wd;rw [zKY];simp
theorem zqG (x y:W64):zew .geq (wd x) (wd y)=some (.bool (decide (y.toNat≤x.toNat))):=by unfold wd;rw [zke];simp
theorem zCE (x y:W64):zew .neq (wd x) (wd y)=some (.bool (x !=y)):=by
  unfold wd;rw [zvP]
  congr 2
  by_cases h:x=y
  · subst h;simp
  · have h2 : x.toNat ≠ y.toNat := fun e => h (BitVec.eq_of_toNat_eq e)
    rw [bne_iff_ne.2 h,bne_iff_ne.2 (by omega)]
theorem zpU (x y:W64):zew .eql (wd x) (wd y)=some (.bool (x==y)):=by
  unfold wd;rw [zKS]
  congr 2
  by_cases h:x=y
  · subst h;simp
  · have h2 : x.toNat ≠ y.toNat := fun e => h (BitVec.eq_of_toNat_eq e)
    rw [beq_false_of_ne h,beq_false_of_ne (by omega)]
theorem zvf (L:Lim) (h:zab) (x:W64):zag ctx L zcZ [wd x] h=some (.bool false,h):=by
  rw [zmH]
  simp [zf8,zau,zCE, -zvP]
theorem zA2 (L:Lim) (h:zab) (x y:W64):zag ctx L zda [wd x,wd y] h=some (.int .i64 (ztw x.toNat y.toNat),h):=by
  rw [zkY]
  unfold ztw
  by_cases h1:x.toNat < y.toNat
  · simp -implicitDefEqProofs [zb9,zau,zvf,zDD,zDB,h1]
  · by_cases h2:y.toNat < x.toNat
    · simp -implicitDefEqProofs [zb9,zau,zvf,zDD,zDB,h1,h2]
    · simp -implicitDefEqProofs [zb9,zau,zvf,zDD,zDB,h1,h2]
theorem zGv {fr:Fr} {h:zab} {R:Option (AEx × Fr × zab)} (x y:zaa) (a b:List W64) (hx1:RdW h x a) (hy1:RdW h y b) (n:Nat) (hn:n < 1000000000)
    (hF:run ctx (zau h) (.loop zf4) fr (hx h [] [])=R)
    (h0:fr 0=x) (h1:fr 1=y) (h5:fr 5=.int .i64 ((n:Int) - 1)):
    ∃ e fr',R=some (e,fr',hx h [] [])∧(e=.exit 0∧(∀ j,j < n→gd a 0#64 j=gd b 0#64 j)∨e=.ret∧fr' 4=.int .i64 (ztw (zbl (gd a 0#64) n) (zbl (gd b 0#64) n))):=by
  obtain ⟨e,fr',h',rfl,⟨rfl,hp⟩,hk⟩:=zaj hF n
    (fun k fr hh=>fr 5=.int .i64 ((n:Int) - 1 - k)∧hh=hx h [] []∧∀ j,n - k≤j→j < n→gd a 0#64 j=gd b 0#64 j)
    (fun e fr hh=>hh=hx h [] []∧(e=.exit 0∧(∀ j,j < n→gd a 0#64 j=gd b 0#64 j)∨e=.ret∧fr 4=.int .i64 (ztw (zbl (gd a 0#64) n) (zbl (gd b 0#64) n))))
    ⟨by rw [h5]; simp, rfl, fun j h1 h2 => by omega⟩ (by
      rintro k fr1 hh hkN hkeep ⟨g5,rfl,heq⟩
      have g0:=(hkeep 0 (by decide)).trans h0
      have g1:=(hkeep 1 (by decide)).trans h1
      by_cases hlt:k < n
      · obtain ⟨i,hi⟩:∃ i:Nat,i=n - 1 - k:=⟨_,rfl⟩
        have g5':fr1 5=.int .i64 (i:Int):=by rw [g5];congr 1;omega
        have hin:i < n:=by omega
        have w1:IntKind.i64.wrap ((i:Int) - 1)=(n:Int) - 1 - ((k+1:Nat):Int):=(wrap_i64 (by omega) (by omega)).trans (by omega)
        have ca:=fun L=>zG1 L (hx h [] []) x a (hx1.ext [] []) i
        have cb:=fun L=>zG1 L (hx h [] []) y b (hy1.ext [] []) i
        have hcm:=fun L h=>zA2 L h (gd a 0#64 i) (gd b 0#64 i)
        have hup:∀ j,i < j→j < n→gd a 0#64 j=gd b 0#64 j:=fun j h1 h2=>heq j (by omega) h2
        by_cases c1:(gd a 0#64 i).toNat < (gd b 0#64 i).toNat
        · have hs:=zrU c1 n hin hup
          have e1:ztw (gd a 0#64 i).toNat (gd b 0#64 i).toNat= -1:=by unfold ztw;rw [if_pos c1]
          have e2:ztw (zbl (gd a 0#64) n) (zbl (gd b 0#64) n)= -1:=by unfold ztw;rw [if_pos hs]
          simp only [e1] at hcm
          simp -implicitDefEqProofs [zf4,zau,g0,g1,g5',show (0:Int)≤(i:Int) by omega,ca,cb,hcm,e2]
        · by_cases c2:(gd b 0#64 i).toNat < (gd a 0#64 i).toNat
          · have hs := zrU c2 n hin fun j h1 h2 => (hup j h1 h2).symm
            have e1:ztw (gd a 0#64 i).toNat (gd b 0#64 i).toNat=1:=by unfold ztw;rw [if_neg c1,if_pos c2]
            have e2:ztw (zbl (gd a 0#64) n) (zbl (gd b 0#64) n)=1:=by unfold ztw;rw [if_neg (by omega),if_pos hs]
            simp only [e1] at hcm
            simp -implicitDefEqProofs [zf4,zau,g0,g1,g5',show (0:Int)≤(i:Int) by omega,ca,cb,hcm,e2]
          · have e0 : gd a 0#64 i = gd b 0#64 i := BitVec.eq_of_toNat_eq (by omega)
            have e1:ztw (gd a 0#64 i).toNat (gd b 0#64 i).toNat=0:=by unfold ztw;rw [if_neg c1,if_neg c2]
            simp only [e1] at hcm
            simp -implicitDefEqProofs [zf4,zau,g0,g1,g5',show (0:Int)≤(i:Int) by omega,ca,cb,hcm,w1]
            refine ⟨hlt,fun j h1 h2=>?_⟩
            by_cases hj:j=i
            · subst hj;exact e0
            · exact heq j (by omega) h2
      · have : k = n := by omega
        subst this
        have hz:(k:Int) - 1 - k= -1:=by omega
        rw [hz] at g5
        simp [zf4,g5]
        exact fun j hj=>heq j (by omega) hj)
  exact ⟨e,fr',rfl,hp⟩
theorem zCY (L:Lim) (h:zab) (x y:zaa) (a b:List W64) (hx1:RdW h x a) (hy1:RdW h y b) (hn:a.length < 1000000∧b.length < 1000000):zag ctx L zju [x,y] h=some (.int .i64 (ztw (val a) (val b)),h):=by
  rw [zu6]
  have w1:IntKind.i64.wrap (((max a.length b.length:Nat):Int) - 1)=((max a.length b.length:Nat):Int) - 1:=wrap_i64 (by omega) (by omega)
  have hva:=zdq a (max a.length b.length) (by omega)
  have hvb:=zdq b (max a.length b.length) (by omega)
  have hm:=zJm .i64 a.length b.length
  have hnn:max a.length b.length < 1000000000:=by omega
  generalize max a.length b.length=n at*
  simp -implicitDefEqProofs [zp7,zau,hx1.1,hy1.1,hm,w1]
  generalize hF:run ctx _ (.loop _) _ _=R
  obtain ⟨e,fr1,rfl,hp⟩:=zGv x y a b hx1 hy1 n hnn hF (by simp) (by simp) (by simp)
  rw [hva,hvb]
  rcases hp with ⟨rfl,heq⟩ | ⟨rfl,h4⟩
  · have e0:zbl (gd a 0#64) n=zbl (gd b 0#64) n:=zcS n heq
    rw [e0]
    simp [ztw]
  · simp [h4]
theorem zCZ {fr:Fr} {h:zab} {R:Option (AEx × Fr × zab)} (x y:zaa) (a b:List W64) (hx1:RdW h x a) (hy1:RdW h y b) (n:Nat) (hn:n < 1000000000) (f:FuncId) (lo hi:W64→W64→W64→W64)
    (hf:∀ L h (x y c:W64),c.toNat≤1→zag ctx L f [wd x,wd y,wd c] h=some (.tup [wd (lo x y c),wd (hi x y c)],h)) (hh:∀ x y c:W64,c.toNat≤1→(hi x y c).toNat≤1)
    (hF:run ctx (zau h) (.loop zff) fr (hx h [cW (eaK lo hi a b n 0).1] [])=R)
    (h0:fr 0=x) (h1:fr 1=y) (h2:fr 2=.fn (.func f) [] []) (h8:fr 8=sA h.blks.length 0 0 1 n (some n)) (h9:fr 9=wd 0#64) (h18:fr 18=.int .i64 n) (h19:fr 19=.int .i64 0):
    ∃ fr',R=some (.exit 0,fr',hx h [cW (eaK lo hi a b n n).1] [])∧fr' 9=wd (eaK lo hi a b n n).2∧∀ t,t∉wr zff→fr' t=fr t:=by
  obtain ⟨e,fr',h',rfl,⟨rfl,rfl,h9'⟩,hk⟩:=zaj hF n
    (fun k fr hh=>fr 19=.int .i64 k∧fr 9=wd (eaK lo hi a b n k).2∧hh=hx h [cW (eaK lo hi a b n k).1] [])
    (fun e fr hh=>e=.exit 0∧hh=hx h [cW (eaK lo hi a b n n).1] []∧fr 9=wd (eaK lo hi a b n n).2)
    ⟨h19,h9,rfl⟩ (by
      rintro k fr1 hh hkN hkeep ⟨g19,g9,rfl⟩
      have g0:=(hkeep 0 (by decide)).trans h0
      have g1:=(hkeep 1 (by decide)).trans h1
      have g2:=(hkeep 2 (by decide)).trans h2
      have g8:=(hkeep 8 (by decide)).trans h8
      have g18:=(hkeep 18 (by decide)).trans h18
      by_cases hlt:k < n
      · have w1 : IntKind.i64.wrap ((k : Int) + 1) = k + 1 := wrap_i64 (by omega) (by omega)
        have hc:=zGq (lo:=lo) hh a b n k
        have hl:=zva lo hi a b n k
        have hst:eaK lo hi a b n (k+1)=((eaK lo hi a b n k).1.set k (lo (gd a 0#64 k) (gd b 0#64 k) (eaK lo hi a b n k).2),hi (gd a 0#64 k) (gd b 0#64 k) (eaK lo hi a b n k).2):=by rw [eaK]
        have hS:=fun L h=>hf L h (gd a 0#64 k) (gd b 0#64 k) (eaK lo hi a b n k).2 hc
        generalize eaK lo hi a b n k=q at*
        obtain ⟨u,c⟩:=q
        simp only at hl hc g9 hst hS
        have ca:=fun L=>zG1 L (hx h [cW u] []) x a (hx1.ext _ _) k
        have cb:=fun L=>zG1 L (hx h [cW u] []) y b (hy1.ext _ _) k
        generalize lo (gd a 0#64 k) (gd b 0#64 k) c=u1 at*
        generalize hi (gd a 0#64 k) (gd b 0#64 k) c=c1 at*
        simp -implicitDefEqProofs [zff,zau,g0,g1,g2,g8,g9,g18,g19,show (k:Int) < n by omega,hlt,ca,cb,hS,zfD,hl,show k+1≤n by omega,w1,hst]
      · have : k = n := by omega
        subst this
        simp [zff,g19,g18,g9])
  exact ⟨fr',rfl,h9',hk⟩
theorem zMR (L:Lim) (h:zab) (x y:zaa) (a b:List W64) (hx1:RdW h x a) (hy1:RdW h y b) (n:Nat) (hn:n=max a.length b.length) (h0:0 < n) (hnn:n < 1000000):
    zag ctx L zmt [x,y] h=some (.tup [.vsl false (eW (wN n (if val a < val b then val a+bN n - val b else val a - val b))),wd (if val a < val b then 1#64 else 0#64)],h):=by
  have he:∀ L,zag ctx L zkl [x,y,.fn (.func zb2) [] []] (hx h [] [])=some (.tup [.vsl false (eW (wN n (if val a < val b then val a+bN n - val b else val a - val b))),wd (if val a < val b then 1#64 else 0#64)],hx h [] []):=by
    intro L
    rw [zxK]
    rw [ztE]
    have hm:=zJm .i64 a.length b.length
    rw [← hn] at hm
    obtain ⟨s1,s2⟩:=zJB a b n (by omega) (by omega)
    have e0:cW (tab n fun _=>0#64)=cW (eaK sbL sbH a b n 0).1:=rfl
    have hl:=zva sbL sbH a b n n
    simp -implicitDefEqProofs [znO,zau,hx1.1,hy1.1,hm,zlx,zat,show (n:Int) < 274877906944 by omega,zgd,zbk,e0]
    generalize hF:run ctx _ (.loop _) _ _=R
    obtain ⟨fr1,rfl,h9,hk1⟩:=zCZ x y a b hx1 hy1 n (by omega) zb2 sbL sbH (fun L h x y c hc=>zAa L h x y c (by simpa using hc)) (fun x y c hc=>(zvE x y c hc).2) hF (by simp) (by simp) (by simp) (by simp) (by simp [wd0]) (by simp) (by simp)
    have hfz:=zAI h [cW (eaK sbL sbH a b n n).1] [] h.toks.length 10 0 n (some n) (eaK sbL sbH a b n n).1 rfl hl
    rw [s1] at hfz
    rw [s2] at h9
    simp -implicitDefEqProofs [hk1,h9,wr,zff,zgR]
    rw [s1,hfz]
    simp
  rw [zu7]
  simp -implicitDefEqProofs [zqc,zau,he]
end Go.Av
namespace Go.Av
def PtM (h:zab) (p:zaa) (m:List W64):Prop:=zGc p=some p∧∃ p0,zyf 0 p=some p0∧∀ bs ts,zkn (hx h bs ts) p0 1 false=some (.vsl false (eW m))
theorem PtM.ext {h:zab} {p:zaa} {m:List W64} (hp:PtM h p m) (bs:List (List zaa)) (ts:List Nat):PtM (hx h bs ts) p m:=by
  obtain ⟨h1,p0,h2,h3⟩:=hp
  exact ⟨h1,p0,h2,fun bs' ts'=>by rw [zFB];exact h3 _ _⟩
def modV (m:List W64) (i:W64) (q:List W64):zaa:=.vptr [.vsl false (eW m),wd i,.vsl false (eW q)] 0
theorem PtM.modV (h:zab) (m:List W64) (i:W64) (q:List W64):PtM h (modV m i q) m:=
  ⟨by simp [Av.modV],.vptr [.vsl false (eW m),wd i,.vsl false (eW q)] 0,by simp [Av.modV],fun bs ts=>by simp⟩
theorem zzP (x y:Nat):(decide (ztw x y < 0))=decide (x < y):=by
  unfold ztw
  split
  · simp [*]
  · split <;> simp [*]
theorem zwZ (L:Lim) (h:zab) (p x x':zaa) (m a:List W64) (hp:PtM h p m) (hr:RdW h x a) (hold:∀ h1,frz h1 h.blks.length h.toks.length 12 x=some x') (hl:a.length < 1000000∧m.length < 1000000) (hlt:val a < val m):
    zag ctx L zbx [p,x,wd 0#64] h=some (x',h):=by
  rw [zfP]
  obtain ⟨h1,p0,h2,h3⟩:=hp
  have hc:=fun L=>zCY L (hx h [] []) x (.vsl false (eW m)) a m (hr.ext [] []) (RdW.vsl _ _ _) hl
  have e0:=zzP (val a) (val m)
  rw [decide_eq_true hlt] at e0
  simp -implicitDefEqProofs [zb8,zau,wd0,zpU,h1,h2,h3,hc,e0,hold]
theorem zw0 (L:Lim) (h:zab) (p x:zaa) (m a:List W64) (c:W64) (hp:PtM h p m) (hr:RdW h x a) (n:Nat) (hl:a.length=n∧m.length=n) (h0:0 < n) (hn:n < 1000000) (hlt:¬(c=0#64∧val a < val m)):
    zag ctx L zbx [p,x,wd c] h=some (.vsl false (eW (wN n (if val a < val m then val a+bN n - val m else val a - val m))),h):=by
  rw [zfP]
  obtain ⟨h1,p0,h2,h3⟩:=hp
  have hc:=fun L=>zCY L (hx h [] []) x (.vsl false (eW m)) a m (hr.ext [] []) (RdW.vsl _ _ _) ⟨by omega,by omega⟩
  have hs:=fun L=>zMR L (hx h [] []) x (.vsl false (eW m)) a m (hr.ext [] []) (RdW.vsl _ _ _) n (by omega) h0 hn
  generalize wN n (if val a < val m then val a+bN n - val m else val a - val m)=r at*
  generalize (if val a < val m then 1#64 else 0#64)=cc at*
  by_cases hz:c=0#64
  · have e0:=zzP (val a) (val m)
    rw [decide_eq_false (fun q=>hlt ⟨hz,q⟩)] at e0
    subst hz
    simp -implicitDefEqProofs [zb8,zau,wd0,zpU,h1,h2,h3,hc,e0,hs]
  · have e1:(c==0#64)=false:=beq_false_of_ne hz
    simp -implicitDefEqProofs [zb8,zau,wd0,zpU,h1,h2,h3,hc,e1,hs]
theorem zBf {fr:Fr} {h:zab} {R:Option (AEx × Fr × zab)} (x:zaa) (a:List W64) (bit:W64) (hr:RdW h x a) (hn:a.length < 1000000)
    (hF:run ctx (zau h) (.loop zaP) fr (hx h [cW (twK a bit 0).1] [])=R)
    (h2:fr 2=wd bit) (h7:fr 7=sA h.blks.length 0 0 1 a.length (some a.length)) (h13:fr 13=x) (h14:fr 14=.int .i64 a.length) (h15:fr 15=.int .i64 0):
    ∃ fr',R=some (.exit 0,fr',hx h [cW (twK a bit a.length).1] [])∧fr' 2=wd (twK a bit a.length).2∧∀ t,t∉wr zaP→fr' t=fr t:=by
  obtain ⟨r1,p,r2,r3⟩:=hr
  obtain ⟨e,fr',h',rfl,⟨rfl,rfl,h2'⟩,hk⟩:=zaj hF a.length
    (fun k fr hh=>fr 15=.int .i64 k∧fr 2=wd (twK a bit k).2∧hh=hx h [cW (twK a bit k).1] [])
    (fun e fr hh=>e=.exit 0∧hh=hx h [cW (twK a bit a.length).1] []∧fr 2=wd (twK a bit a.length).2)
    ⟨h15,h2,rfl⟩ (by
      rintro k fr1 hh hkN hkeep ⟨g15,g2,rfl⟩
      have g7:=(hkeep 7 (by decide)).trans h7
      have g13:=(hkeep 13 (by decide)).trans h13
      have g14:=(hkeep 14 (by decide)).trans h14
      by_cases hlt:k < a.length
      · have w1 : IntKind.i64.wrap ((k : Int) + 1) = k + 1 := wrap_i64 (by omega) (by omega)
        have hl:=zvc a bit k
        have hst:twK a bit (k+1)=((twK a bit k).1.set k (gd a 0#64 k <<< 1|||(twK a bit k).2),gd a 0#64 k >>> 63):=by rw [twK]
        generalize twK a bit k=q at*
        obtain ⟨u,c⟩:=q
        simp only at hl g2 hst
        have s1:=zxY (gd a 0#64 k) .u64 1 (by decide)
        have s2:=znj (gd a 0#64 k) .u64 63 (by decide)
        simp only [Int.cast_ofNat_Int,Int.natCast_one] at s1 s2
        have hrd:=r3 k [cW u] [] hlt
        have hro:=r2 k hlt
        generalize hgn:a.length=n at*
        simp -implicitDefEqProofs [zaP,zau,g2,g7,g13,g14,g15,show (k:Int) < n by omega,hlt,hro,hrd,zfD,hl,show k+1≤n by omega,w1,hst,s1,s2, -zl0, -zdO]
      · have : k = a.length := by omega
        subst this
        simp [zaP,g15,g14,g2])
  exact ⟨fr',rfl,h2',hk⟩
theorem zzR (L:Lim) (h:zab) (p x:zaa) (m a:List W64) (bit:W64) (hp:PtM h p m) (hr:RdW h x a) (n:Nat) (hl:a.length=n∧m.length=n) (h0:0 < n) (hn:n < 1000000) (hb:bit.toNat≤1) (hlt:val a < val m):
    zag ctx L zbN [p,x,wd bit] h=some (.vsl false (eW (wN n ((2*val a+bit.toNat) % val m))),h):=by
  rw [zkh]
  obtain ⟨hla,hlm⟩:=hl
  have e0:cW (tab n fun _=>0#64)=cW (twK a bit 0).1:=by rw [← hla];rfl
  have htw:=zMQ a bit hb (val m) hlt (by rw [hla,← hlm];exact zhc m)
  simp -implicitDefEqProofs [zen,zau,hr.1,hla,zlx,zat,show (n:Int) < 274877906944 by omega,zgd,zbk,e0]
  generalize hF:run ctx _ (.loop _) _ _=R
  subst hla
  obtain ⟨fr1,rfl,h2,hk1⟩:=zBf x a bit hr hn hF (by simp) (by simp) (by simp) (by simp) (by simp)
  have hlt':=zvc a bit a.length
  have hcc:=zJC a bit hb a.length
  generalize twK a bit a.length=q at*
  obtain ⟨u,c⟩:=q
  simp only at*
  have hru:RdW (hx h [cW u] []) (sA h.blks.length 0 0 1 a.length (some a.length)) u:=RdW.sA [] 0 a.length _ u hlt' rfl
  have hpu:=hp.ext [cW u] []
  have hfz:=zAI h [cW u] [] h.toks.length 11 0 a.length (some a.length) u rfl hlt'
  by_cases hca:c=0#64∧val u < val m
  · have hless := fun L => zwZ L (hx h [cW u] []) p _ (sA h.blks.length 0 0 1 a.length (some a.length)) m u hpu hru (fun h1 => zAJ h1 _ _ 11 _ 0 1 a.length _ (by simp [zan])) ⟨by omega, by omega⟩ hca.2
    obtain ⟨hc0,hum⟩:=hca
    subst hc0
    have hres:wN a.length ((2*val a+bit.toNat) % val m)=u:=by
      rw [← htw]
      unfold zIS
      rw [if_pos ⟨rfl,hum⟩]
      exact zrQ hlt'
    simp -implicitDefEqProofs [hk1,h2,wr,zaP,zgR,hless,hfz,hres]
  · have hless := fun L => zw0 L (hx h [cW u] []) p _ m u c hpu hru a.length ⟨hlt', hlm⟩ h0 hn hca
    have hres:(if val u < val m then val u+bN a.length - val m else val u - val m)=(2*val a+bit.toNat) % val m:=by
      have hnn:¬(c.toNat=0∧val u < val m):=fun q=>hca ⟨BitVec.eq_of_toNat_eq q.1,q.2⟩
      rw [← htw,zIS,if_neg hnn]
    rw [hres] at hless
    simp -implicitDefEqProofs [hk1,h2,wr,zaP,zgR,hless]
end Go.Av
namespace Go.Av
def bl (x:Nat):Nat:=if x=0 then 0 else x.log2+1
theorem zM4 (x:Nat):x < 2 ^ bl x:=by
  unfold bl
  split
  · subst x;decide
  · rename_i h;exact (Nat.log2_lt h).1 (Nat.lt_succ_self _)
theorem zBg {x n:Nat} (h:x < 2 ^ n):bl x≤n:=by
  unfold bl
  split
  · omega
  · rename_i h0;exact (Nat.log2_lt h0).2 h
theorem zru {x s:Nat} (h:x / 2 ^ s≠0):bl x=s+bl (x / 2 ^ s):=by
  have hx:x≠0:=by rintro rfl;simp at h
  unfold bl
  rw [if_neg hx,if_neg h]
  have h1:s+(x / 2 ^ s).log2≤x.log2:=by
    rw [Nat.le_log2 hx,Nat.pow_add]
    have:=(Nat.le_log2 h).1 (Nat.le_refl _)
    calc 2 ^ s*2 ^ (x / 2 ^ s).log2≤2 ^ s*(x / 2 ^ s):=Nat.mul_le_mul_left _ this
      _≤x:=Nat.mul_div_le _ _
  have h2:x.log2 < s+(x / 2 ^ s).log2+1:=by
    rw [Nat.log2_lt hx,Nat.add_assoc,Nat.pow_add]
    have:=(Nat.log2_lt h).1 (Nat.lt_succ_self _)
    rw [Nat.div_lt_iff_lt_mul (Nat.two_pow_pos s),Nat.mul_comm] at this
    exact this
  omega
theorem zM5:∀ v:Nat,v < 256→zKA (.str zLD) (.int .u8 (v:Int))=some (.int .u8 ((bl v:Nat):Int)):=by
  have key:∀ v:Fin 256,((zLD:ByteArray).data.toList[v.val]?).map (fun b=>b.toNat)=some (bl v.val):=by decide +kernel
  intro v hv
  have:=key ⟨v,hv⟩
  simp only [Option.map_eq_some_iff] at this
  obtain ⟨b,h1,h2⟩:=this
  simp only [zKA]
  rw [if_pos (by omega),Int.toNat_natCast,h1]
  simp [h2]
theorem zGO (L:Lim) (h:zab) (x:W64):zag ctx L zd4 [wd x] h=some (.int .i64 ((bl x.toNat:Nat):Int),h):=by
  rw [zmY]
  have c32:zaa.int .u64 4294967296=wd 4294967296#64:=rfl
  have c16:zaa.int .u64 65536=wd 65536#64:=rfl
  have c8:zaa.int .u64 256=wd 256#64:=rfl
  have s32:=fun y:W64=>znj y .u64 32 (by decide)
  have s16:=fun y:W64=>znj y .u64 16 (by decide)
  have s8:=fun y:W64=>znj y .u64 8 (by decide)
  simp only [Int.cast_ofNat_Int] at s32 s16 s8
  have t32:(4294967296#64:W64).toNat=4294967296:=rfl
  have t16:(65536#64:W64).toNat=65536:=rfl
  have t8:(256#64:W64).toNat=256:=rfl
  have u32:∀ y:W64,(y >>> 32).toNat=y.toNat / 2 ^ 32:=fun y=>by rw [BitVec.toNat_ushiftRight,Nat.shiftRight_eq_div_pow]
  have u16:∀ y:W64,(y >>> 16).toNat=y.toNat / 2 ^ 16:=fun y=>by rw [BitVec.toNat_ushiftRight,Nat.shiftRight_eq_div_pow]
  have u8:∀ y:W64,(y >>> 8).toNat=y.toNat / 2 ^ 8:=fun y=>by rw [BitVec.toNat_ushiftRight,Nat.shiftRight_eq_div_pow]
  have hxl:=x.isLt
  obtain ⟨x1,n1,hx1,e1,f1⟩:∃ (x1:W64) (n1:Nat),x1.toNat < 4294967296∧bl x.toNat=n1+bl x1.toNat∧((4294967296≤x.toNat∧x >>> 32=x1∧n1=32)∨(¬4294967296≤x.toNat∧x1=x∧n1=0)):=by
    by_cases hc:4294967296≤x.toNat
    · exact ⟨x >>> 32,32,by rw [u32];omega,by rw [u32];exact zru (by omega),.inl ⟨hc,rfl,rfl⟩⟩
    · exact ⟨x,0,by omega,by omega,.inr ⟨hc,rfl,rfl⟩⟩
  obtain ⟨x2,n2,hx2,e2,f2⟩:∃ (x2:W64) (n2:Nat),x2.toNat < 65536∧bl x1.toNat=n2+bl x2.toNat∧((65536≤x1.toNat∧x1 >>> 16=x2∧n2=16)∨(¬65536≤x1.toNat∧x2=x1∧n2=0)):=by
    by_cases hc:65536≤x1.toNat
    · exact ⟨x1 >>> 16,16,by rw [u16];omega,by rw [u16];exact zru (by omega),.inl ⟨hc,rfl,rfl⟩⟩
    · exact ⟨x1,0,by omega,by omega,.inr ⟨hc,rfl,rfl⟩⟩
  obtain ⟨x3,n3,hx3,e3,f3⟩:∃ (x3:W64) (n3:Nat),x3.toNat < 256∧bl x2.toNat=n3+bl x3.toNat∧((256≤x2.toNat∧x2 >>> 8=x3∧n3=8)∨(¬256≤x2.toNat∧x3=x2∧n3=0)):=by
    by_cases hc:256≤x2.toNat
    · exact ⟨x2 >>> 8,8,by rw [u8];omega,by rw [u8];exact zru (by omega),.inl ⟨hc,rfl,rfl⟩⟩
    · exact ⟨x2,0,by omega,by omega,.inr ⟨hc,rfl,rfl⟩⟩
  have hT:=zM5 x3.toNat hx3
  have hi:zMz .u8 (wd x3)=some (.int .u8 (x3.toNat:Int)):=by
    unfold wd;rw [zd6];congr 2;exact wrap_u8 (by omega) (by omega)
  have hbl:bl x3.toNat≤8:=zBg hx3
  rw [e1,e2,e3]
  have hw:∀ n:Nat,n < 1000→IntKind.i64.wrap (n:Int)=n:=fun n hn=>zit n (by omega)
  have hw2:IntKind.i64.wrap ((bl x3.toNat:Nat):Int)=((bl x3.toNat:Nat):Int):=hw _ (by omega)
  generalize bl x3.toNat=b at*
  clear e1 e2 e3
  have hn1:IntKind.i64.wrap (((n1+n2+n3:Nat):Int)+(b:Int))=((n1+(n2+(n3+b)):Nat):Int):=by
    rw [← Int.natCast_add,hw _ (by omega)];congr 1;omega
  have ws:IntKind.i64.wrap (32+16)=48∧IntKind.i64.wrap (32+8)=40∧IntKind.i64.wrap (48+8)=56∧IntKind.i64.wrap (16+8)=24∧IntKind.i64.wrap 16=16∧IntKind.i64.wrap 8=8∧IntKind.i64.wrap 48=48∧IntKind.i64.wrap 40=40∧IntKind.i64.wrap 56=56∧IntKind.i64.wrap 24=24:=⟨rfl,rfl,rfl,rfl,rfl,rfl,rfl,rfl,rfl,rfl⟩
  obtain ⟨ws1,ws2,ws3,ws4,ws5,ws6,ws7,ws8,ws9,ws10⟩:=ws
  rcases f1 with ⟨g1,q1,rfl⟩ | ⟨g1,rfl,rfl⟩
  · rcases f2 with ⟨g2,q2,rfl⟩ | ⟨g2,rfl,rfl⟩
    · rcases f3 with ⟨g3,q3,rfl⟩ | ⟨g3,rfl,rfl⟩
      · simp only [Nat.zero_add,Nat.add_zero,Nat.reduceAdd,Int.cast_ofNat_Int,Int.natCast_zero] at hn1
        simp -implicitDefEqProofs [zaI,zau,c32,c16,c8,zqG,t32,t16,t8,g1,g2,g3,s32,s16,s8,hi,hT,hw2, -zdO, -zd6, -zke,ws1,ws2,ws3,ws4,ws5,ws6,hn1,q1,q2,q3]
        try (simp [hw2,ws7,ws8,ws9,ws10];try simpa using hn1)
      · simp only [Nat.zero_add,Nat.add_zero,Nat.reduceAdd,Int.cast_ofNat_Int,Int.natCast_zero] at hn1
        simp -implicitDefEqProofs [zaI,zau,c32,c16,c8,zqG,t32,t16,t8,g1,g2,g3,s32,s16,s8,hi,hT,hw2, -zdO, -zd6, -zke,ws1,ws2,ws3,ws4,ws5,ws6,hn1,q1,q2]
        try (simp [hw2,ws7,ws8,ws9,ws10];try simpa using hn1)
    · rcases f3 with ⟨g3,q3,rfl⟩ | ⟨g3,rfl,rfl⟩
      · simp only [Nat.zero_add,Nat.add_zero,Nat.reduceAdd,Int.cast_ofNat_Int,Int.natCast_zero] at hn1
        simp -implicitDefEqProofs [zaI,zau,c32,c16,c8,zqG,t32,t16,t8,g1,g2,g3,s32,s16,s8,hi,hT,hw2, -zdO, -zd6, -zke,ws1,ws2,ws3,ws4,ws5,ws6,hn1,q1,q3]
        try (simp [hw2,ws7,ws8,ws9,ws10];try simpa using hn1)
      · simp only [Nat.zero_add,Nat.add_zero,Nat.reduceAdd,Int.cast_ofNat_Int,Int.natCast_zero] at hn1
        simp -implicitDefEqProofs [zaI,zau,c32,c16,c8,zqG,t32,t16,t8,g1,g2,g3,s32,s16,s8,hi,hT,hw2, -zdO, -zd6, -zke,ws1,ws2,ws3,ws4,ws5,ws6,hn1,q1]
        try (simp [hw2,ws7,ws8,ws9,ws10];try simpa using hn1)
  · rcases f2 with ⟨g2,q2,rfl⟩ | ⟨g2,rfl,rfl⟩
    · rcases f3 with ⟨g3,q3,rfl⟩ | ⟨g3,rfl,rfl⟩
      · simp only [Nat.zero_add,Nat.add_zero,Nat.reduceAdd,Int.cast_ofNat_Int,Int.natCast_zero] at hn1
        simp -implicitDefEqProofs [zaI,zau,c32,c16,c8,zqG,t32,t16,t8,g1,g2,g3,s32,s16,s8,hi,hT,hw2, -zdO, -zd6, -zke,ws1,ws2,ws3,ws4,ws5,ws6,hn1,q2,q3]
        try (simp [hw2,ws7,ws8,ws9,ws10];try simpa using hn1)
      · simp only [Nat.zero_add,Nat.add_zero,Nat.reduceAdd,Int.cast_ofNat_Int,Int.natCast_zero] at hn1
        simp -implicitDefEqProofs [zaI,zau,c32,c16,c8,zqG,t32,t16,t8,g1,g2,g3,s32,s16,s8,hi,hT,hw2, -zdO, -zd6, -zke,ws1,ws2,ws3,ws4,ws5,ws6,hn1,q2]
        try (simp [hw2,ws7,ws8,ws9,ws10];try simpa using hn1)
    · rcases f3 with ⟨g3,q3,rfl⟩ | ⟨g3,rfl,rfl⟩
      · simp only [Nat.zero_add,Nat.add_zero,Nat.reduceAdd,Int.cast_ofNat_Int,Int.natCast_zero] at hn1
        simp -implicitDefEqProofs [zaI,zau,c32,c16,c8,zqG,t32,t16,t8,g1,g2,g3,s32,s16,s8,hi,hT,hw2, -zdO, -zd6, -zke,ws1,ws2,ws3,ws4,ws5,ws6,hn1,q3]
        try (simp [hw2,ws7,ws8,ws9,ws10];try simpa using hn1)
      · simp only [Nat.zero_add,Nat.add_zero,Nat.reduceAdd,Int.cast_ofNat_Int,Int.natCast_zero] at hn1
        simp -implicitDefEqProofs [zaI,zau,c32,c16,c8,zqG,t32,t16,t8,g1,g2,g3,s32,s16,s8,hi,hT,hw2, -zdO, -zd6, -zke,ws1,ws2,ws3,ws4,ws5,ws6,hn1]
        try (simp [hw2,ws7,ws8,ws9,ws10];try simpa using hn1)
end Go.Av
namespace Go.Av
theorem zus (n:Nat):bN n=2 ^ (64*n):=by unfold bN;rw [show (18446744073709551616:Nat)=2 ^ 64 from rfl,← Nat.pow_mul]
theorem zDm:∀ (l:List W64) (q:Nat),val l / bN q % 18446744073709551616=(gd l 0#64 q).toNat
  | [],q=>by simp [val,gd]
  | w :: l, 0 => by
    have h:=w.isLt
    simp only [val,zCJ,Nat.div_one,gd,List.getD_cons_zero]
    omega
  | w :: l, q + 1 => by
    have h:=w.isLt
    rw [zeY,← Nat.div_div_eq_div_mul]
    have:val (w :: l) / 18446744073709551616=val l:=by simp only [val];omega
    rw [this,zDm l q]
    rfl
theorem zDo (l:List W64) (i:Nat):(gd l 0#64 (i / 64) >>> (i % 64)&&&1#64).toNat=val l / 2 ^ i % 2:=by
  rw [BitVec.toNat_and,BitVec.toNat_ushiftRight,← zDm,Nat.shiftRight_eq_div_pow,show (1#64:W64).toNat=2 ^ 1 - 1 from rfl,Nat.and_two_pow_sub_one_eq_mod]
  have e:2 ^ i=bN (i / 64)*2 ^ (i % 64):=by rw [zus,← Nat.pow_add];congr 1;omega
  rw [e,← Nat.div_div_eq_div_mul]
  generalize val l / bN (i / 64)=x
  have h1:=Nat.testBit_mod_two_pow x 64 (i % 64)
  have h2:i % 64 < 64:=Nat.mod_lt _ (by decide)
  rw [decide_eq_true h2,Bool.true_and] at h1
  simp only [Nat.testBit_eq_decide_div_mod_eq,show (2:Nat) ^ 64=18446744073709551616 from rfl] at h1
  have h3:(x % 18446744073709551616 / 2 ^ (i % 64) % 2=1)↔(x / 2 ^ (i % 64) % 2=1):=by simpa using h1
  generalize x % 18446744073709551616 / 2 ^ (i % 64)=u at*
  generalize x / 2 ^ (i % 64)=v at*
  show u % 2 ^ 1=v % 2
  omega
theorem zvs {f:Nat→W64} {i:Nat} (h:f i≠0#64):∀ n,i < n→(∀ j,i < j→j < n→f j=0#64)→zbl f n=zbl f i+(f i).toNat*bN i
  | 0,hi,_=>by omega
  | n + 1, hi, hj => by
    by_cases hn:i=n
    · subst hn;rfl
    · rw [zbl, hj n (by omega) (by omega), zvs h n (by omega) fun j h1 h2 => hj j h1 (by omega)]
      simp
theorem zNa {f:Nat→W64} {i:Nat} (h:f i≠0#64) (n:Nat) (hi:i < n) (hj:∀ j,i < j→j < n→f j=0#64):bl (zbl f n)=64*i+bl (f i).toNat:=by
  have h1:=zvs h n hi hj
  have h2:=zrR f i
  have hd:zbl f n / 2 ^ (64*i)=(f i).toNat:=by
    rw [← zus,h1,Nat.add_mul_div_right _ _ (zIN i),Nat.div_eq_of_lt h2,Nat.zero_add]
  have h0:(f i).toNat≠0:=fun e=>h (BitVec.eq_of_toNat_eq e)
  rw [zru (s:=64*i) (by rw [hd];exact h0),hd]
theorem zr6 : ∀ n, zbl (fun _ => 0#64) n = 0
  | 0=>rfl
  | n+1=>by rw [zbl,zr6 n];simp
theorem zDp {fr:Fr} {h:zab} {R:Option (AEx × Fr × zab)} (x:zaa) (a:List W64) (hr:RdW h x a) (hn:a.length < 1000000)
    (hF:run ctx (zau h) (.loop zgk) fr (hx h [] [])=R)
    (h0:fr 0=x) (h3:fr 3=.int .i64 ((a.length:Int) - 1)):
    ∃ e fr',R=some (e,fr',hx h [] [])∧(e=.exit 0∧bl (val a)=0∨e=.ret∧fr' 2=.int .i64 ((bl (val a):Nat):Int)):=by
  obtain ⟨r1,p,r2,r3⟩:=hr
  have hva:=zdq a a.length (Nat.le_refl _)
  obtain ⟨e,fr',h',rfl,⟨rfl,hp⟩,hk⟩:=zaj hF a.length
    (fun k fr hh=>fr 3=.int .i64 ((a.length:Int) - 1 - k)∧hh=hx h [] []∧∀ j,a.length - k≤j→j < a.length→gd a 0#64 j=0#64)
    (fun e fr hh=>hh=hx h [] []∧(e=.exit 0∧bl (val a)=0∨e=.ret∧fr 2=.int .i64 ((bl (val a):Nat):Int)))
    ⟨by rw [h3]; simp, rfl, fun j h1 h2 => by omega⟩ (by
      rintro k fr1 hh hkN hkeep ⟨g3,rfl,heq⟩
      have g0:=(hkeep 0 (by decide)).trans h0
      generalize hgn:a.length=n at*
      by_cases hlt:k < n
      · obtain ⟨i,hi⟩:∃ i:Nat,i=n - 1 - k:=⟨_,rfl⟩
        have g3':fr1 3=.int .i64 (i:Int):=by rw [g3];congr 1;omega
        have hin:i < n:=by omega
        have w1:IntKind.i64.wrap ((i:Int) - 1)=(n:Int) - 1 - ((k+1:Nat):Int):=(wrap_i64 (by omega) (by omega)).trans (by omega)
        have hro:=r2 i hin
        have hrd:=r3 i [] [] hin
        by_cases hz:gd a 0#64 i=0#64
        · rw [hz] at hrd
          simp -implicitDefEqProofs [zgk,zau,g0,g3',show (0:Int)≤(i:Int) by omega,hro,hrd,wd0,zCE,w1, -zvP]
          refine ⟨hlt,fun j h1 h2=>?_⟩
          by_cases hj:j=i
          · subst hj;exact hz
          · exact heq j (by omega) h2
        · have hb := zNa (f := gd a 0#64) hz n hin fun j h1 h2 => heq j (by omega) h2
          have hbl:bl (gd a 0#64 i).toNat≤64:=zBg (gd a 0#64 i).isLt
          have w2:IntKind.i64.wrap (64*(i:Int))=((64*i:Nat):Int):=(wrap_i64 (by omega) (by omega)).trans (by omega)
          have w3:IntKind.i64.wrap (((64*i:Nat):Int)+((bl (gd a 0#64 i).toNat:Nat):Int))=((bl (zbl (gd a 0#64) n):Nat):Int):=by
            rw [hb];exact (wrap_i64 (by omega) (by omega)).trans (by omega)
          have hL:=fun L h=>zGO L h (gd a 0#64 i)
          rw [hva]
          have hne:(gd a 0#64 i !=0#64)=true:=bne_iff_ne.2 hz
          generalize gd a 0#64 i=wv at*
          generalize bl wv.toNat=b at*
          generalize bl (zbl (gd a 0#64) n)=b2 at*
          generalize hm:64*i=i64 at*
          simp -implicitDefEqProofs [zgk,zau,g0,g3',show (0:Int)≤(i:Int) by omega,hro,hrd,wd0,zCE,hne,hL,w2,w3, -zvP]
      · have : k = n := by omega
        subst this
        have hz:(k:Int) - 1 - k= -1:=by omega
        rw [hz] at g3
        have e0:zbl (gd a 0#64) k=0:=by
          rw [zcS (g:=fun _=>0#64) k fun j hj=>heq j (by omega) hj,zr6]
        simp [zgk,g3]
        rw [hva,e0];rfl)
  exact ⟨e,fr',rfl,hp⟩
theorem zDq (L:Lim) (h:zab) (x:zaa) (a:List W64) (hr:RdW h x a) (hn:a.length < 1000000):zag ctx L zf1 [x] h=some (.int .i64 ((bl (val a):Nat):Int),h):=by
  rw [ztT]
  have w1:IntKind.i64.wrap ((a.length:Int) - 1)=(a.length:Int) - 1:=wrap_i64 (by omega) (by omega)
  simp -implicitDefEqProofs [znv,zau,hr.1,w1]
  generalize hF:run ctx _ (.loop _) _ _=R
  obtain ⟨e,fr1,rfl,hp⟩:=zDp x a hr hn hF (by simp) (by simp)
  rcases hp with ⟨rfl,h0⟩ | ⟨rfl,h2⟩
  · simp [h0]
  · simp [h2]
end Go.Av
namespace Go.Av
theorem zut:∀ a b:List Int,leN (a++b)=leN a+leN b*256 ^ a.length
  | [],b=>by simp [leN]
  | x :: a, b => by
    simp only [List.cons_append,leN,zut a b,List.length_cons,Nat.pow_succ]
    generalize 256 ^ a.length=q
    generalize leN b=y
    generalize leN a=z
    grind
theorem zDt (b:List Int) (hb:inB b) (n:Nat) (hn:b.length≤8*n):val (wdP b n b.length)=leN b:=by
  rw [zdq _ n (by simp)]
  have key:∀ m,m≤n→zbl (gd (wdP b n b.length) 0#64) m=leN (b.take (8*m)):=by
    intro m
    induction m with
    | zero=>intro _;simp [zbl,leN]
    | succ m ih=>
      intro hm
      rw [zbl,ih (by omega),zFc b hb n b.length (Nat.le_refl _) hn m (by omega)]
      have hc:bck b m b.length=(b.take (8*m+8)).drop (8*m):=by
        unfold bck
        by_cases h:b.length≤8*m+8
        · rw [Nat.min_eq_left h,List.take_of_length_le (Nat.le_refl _),List.take_of_length_le h]
        · rw [Nat.min_eq_right (by omega)]
      have hs:b.take (8*(m+1))=b.take (8*m)++(b.take (8*m+8)).drop (8*m):=by
        have:=(List.take_append_drop (8*m) (b.take (8*m+8))).symm
        rw [List.take_take,Nat.min_eq_left (by omega)] at this
        rw [show 8*(m+1)=8*m+8 by omega];exact this
      rw [hc,hs,zut]
      by_cases h:8*m≤b.length
      · rw [List.length_take,Nat.min_eq_left h,bN,Nat.pow_mul]
      · rw [List.drop_eq_nil_of_le (by simp;omega)];simp [leN]
  rw [key n (Nat.le_refl _),List.take_of_length_le hn]
theorem zBk {fr:Fr} {h:zab} {R:Option (AEx × Fr × zab)} (x:zaa) (b:List Int) (hr:RdI h .u8 x b) (hb:b.length < 10000000000) (n:Nat) (hn:n=(b.length+7) / 8)
    (hF:run ctx (zau h) (.loop zd7) fr (hx h [cW (wdP b n 0)] [])=R)
    (h3:fr 3=sA h.blks.length 0 0 1 n (some n)) (h11:fr 11=x) (h12:fr 12=.int .i64 b.length) (h13:fr 13=.int .i64 0):
    ∃ fr',R=some (.exit 0,fr',hx h [cW (wdP b n b.length)] [])∧∀ t,t∉wr zd7→fr' t=fr t:=by
  obtain ⟨r1,p,r2,r3⟩:=hr
  obtain ⟨e,fr',h',rfl,⟨rfl,rfl⟩,hk⟩:=zaj hF b.length
    (fun k fr hh=>fr 13=.int .i64 k∧hh=hx h [cW (wdP b n k)] [])
    (fun e fr hh=>e=.exit 0∧hh=hx h [cW (wdP b n b.length)] [])
    ⟨h13,rfl⟩ (by
      rintro k fr1 hh hkN hkeep ⟨g13,rfl⟩
      have g3:=(hkeep 3 (by decide)).trans h3
      have g11:=(hkeep 11 (by decide)).trans h11
      have g12:=(hkeep 12 (by decide)).trans h12
      generalize hgn:b.length=len at*
      by_cases hlt:k < len
      · have w1 : IntKind.i64.wrap ((k : Int) + 1) = k + 1 := wrap_i64 (by omega) (by omega)
        have t1:(k:Int).tdiv 8=((k / 8:Nat):Int):=zyC k 8
        have t2:=zit (k / 8) (by omega)
        have t3:(k:Int).tmod 8=((k % 8:Nat):Int):=zFj k 8
        have t4:IntKind.i64.wrap (8*((k % 8:Nat):Int))=((8*(k % 8):Nat):Int):=by
          rw [← zit (8*(k % 8)) (by omega)];simp only [Int.natCast_mul,Int.cast_ofNat_Int]
        have hq:k / 8 < n:=by omega
        have hb64:8*(k % 8)≤64:=by omega
        have hst:wdP b n (k+1)=(wdP b n k).set (k / 8) (gd (wdP b n k) 0#64 (k / 8)|||(bw (gd b 0 k) <<< (8*(k % 8)))):=by rw [wdP]
        have hl:=zv4 b n k
        have hro:=r2 k hlt
        have hrd:=r3 k [cW (wdP b n k)] [] hlt
        generalize wdP b n k=u at*
        generalize 8*(k % 8)=s at*
        generalize k % 8=r at*
        generalize k / 8=q at*
        have hsl:=zxY (bw (gd b 0 k)) .i64 s (by simpa using hb64)
        simp -implicitDefEqProofs [zd7,zau,g3,g11,g12,g13,show (k:Int) < len by omega,hro,hrd,t1,t2,t3,t4,zlY,zi0,zfD,hq,hl,show q+1≤n by omega,hsl,w1,hst,hlt, -zd6, -zl0]
      · have : k = len := by omega
        subst this
        simp [zd7,g13,g12])
  exact ⟨fr',rfl,hk⟩
theorem zvu (L:Lim) (h:zab) (x:zaa) (b:List Int) (hr:RdI h .u8 x b) (hb:b.length < 10000000000):
    zag ctx L zdJ [x] h=some (.vsl false (eW (wdP b ((b.length+7) / 8) b.length)),h):=by
  rw [zsu]
  have w1:IntKind.i64.wrap ((b.length:Int)+7)=(b.length:Int)+7:=wrap_i64 (by omega) (by omega)
  have t1:((b.length:Int)+7).tdiv 8=(((b.length+7) / 8:Nat):Int):=zyC (b.length+7) 8
  have t2:=zit ((b.length+7) / 8) (by omega)
  have hbig:(((b.length+7) / 8:Nat):Int) < 274877906944:=by omega
  generalize hn:(b.length+7) / 8=n at*
  have e0:cW (tab n fun _=>0#64)=cW (wdP b n 0):=rfl
  simp -implicitDefEqProofs [zl2,zau,hr.1,w1,t1,t2,zlY,zlx,zat,hbig,zgd,zbk,e0]
  generalize hF:run ctx _ (.loop _) _ _=R
  obtain ⟨fr1,rfl,hk1⟩:=zBk x b hr hb n hn.symm hF (by simp) (by simp) (by simp) (by simp)
  have hfz:=zAI h [cW (wdP b n b.length)] [] h.toks.length 11 0 n (some n) (wdP b n b.length) rfl (by simp)
  simp -implicitDefEqProofs [hk1,wr,zd7,zgR,hfz]
theorem zDv (n : Nat) : val (tab n fun _ => (0#64 : W64)) = 0 := by
  have e:zbl (gd (tab n fun _=>(0#64:W64)) 0#64) n=zbl (fun _=>0#64) n:=zcS n fun j hj=>zkQ hj
  rw [zdq _ n (by simp),e,zr6]
theorem zyU (n:Nat):wN n 0=tab n fun _=>0#64:=val_inj (by simp) (by rw [zDv,zja n 0 (zIN n)])
theorem zDw (v m i:Nat) (hm:0 < m):(2*(v / 2 ^ (i+1) % m)+v / 2 ^ i % 2) % m=v / 2 ^ i % m:=by
  have h1:v / 2 ^ (i+1)=v / 2 ^ i / 2:=by rw [Nat.pow_succ,Nat.div_div_eq_div_mul]
  rw [h1]
  generalize v / 2 ^ i=x
  rw [Nat.add_mod,Nat.mul_mod_mod,← Nat.add_mod]
  congr 1
  omega
theorem zyV {fr:Fr} {h:zab} {R:Option (AEx × Fr × zab)} (p x:zaa) (m a:List W64) (hp:PtM h p m) (hr:RdW h x a) (hn:a.length < 1000000) (hm0:0 < m.length∧m.length < 1000000) (h0m:0 < val m)
    (hF:run ctx (zau h) (.loop zch) fr (hx h [cW (tab m.length fun _=>0#64)] [])=R)
    (h0:fr 0=p) (h1:fr 1=x) (h5:fr 5=sA h.blks.length 0 0 1 m.length (some m.length)) (h6:fr 6=.int .i64 (((bl (val a):Nat):Int) - 1)):
    ∃ fr',R=some (.exit 0,fr',hx h [cW (tab m.length fun _=>0#64)] [])∧(fr' 5=.vsl false (eW (wN m.length (val a % val m)))∨fr' 5=sA h.blks.length 0 0 1 m.length (some m.length)∧wN m.length (val a % val m)=tab m.length fun _=>0#64):=by
  obtain ⟨r1,pp,r2,r3⟩:=hr
  have hN:bl (val a)≤64*a.length:=zBg (by rw [← zus];exact zhc a)
  have hvN:val a / 2 ^ bl (val a)=0:=Nat.div_eq_of_lt (zM4 _)
  obtain ⟨e,fr',h',rfl,⟨rfl,rfl,h5'⟩,hk⟩:=zaj hF (bl (val a))
    (fun k fr hh => fr 6 = .int .i64 (((bl (val a) : Nat) : Int) - 1 - k) ∧ hh = hx h [cW (tab m.length fun _ => 0#64)] [] ∧
      (fr 5=.vsl false (eW (wN m.length (val a / 2 ^ (bl (val a) - k) % val m)))∨fr 5=sA h.blks.length 0 0 1 m.length (some m.length)∧wN m.length (val a / 2 ^ (bl (val a) - k) % val m)=tab m.length fun _=>0#64))
    (fun e fr hh=>e=.exit 0∧hh=hx h [cW (tab m.length fun _=>0#64)] []∧(fr 5=.vsl false (eW (wN m.length (val a % val m)))∨fr 5=sA h.blks.length 0 0 1 m.length (some m.length)∧wN m.length (val a % val m)=tab m.length fun _=>0#64))
    ⟨by rw [h6]; simp, rfl, .inr ⟨h5, by rw [Nat.sub_zero, hvN, Nat.zero_mod, zyU]⟩⟩ (by
      rintro k fr1 hh hkN hkeep ⟨g6,rfl,g5⟩
      have g0:=(hkeep 0 (by decide)).trans h0
      have g1:=(hkeep 1 (by decide)).trans h1
      by_cases hlt:k < bl (val a)
      · obtain ⟨i,hi⟩:∃ i:Nat,i=bl (val a) - 1 - k:=⟨_,rfl⟩
        have e1:bl (val a) - k=i+1:=by omega
        have e2:bl (val a) - (k+1)=i:=by omega
        have hst:=zDw (val a) (val m) i h0m
        have hvb:=zDo a i
        have hbit:(gd a 0#64 (i / 64) >>> (i % 64)&&&1#64).toNat≤1:=by rw [hvb];omega
        have hvm:val m < bN m.length:=zhc m
        have hrest:=Nat.mod_lt (val a / 2 ^ (i+1)) h0m
        have hvw:=zja m.length (val a / 2 ^ (i+1) % val m) (by omega)
        have hil:i / 64 < a.length:=by omega
        rw [e1] at g5
        have hrw : RdW (hx h [cW (tab m.length fun _ => 0#64)] []) (fr1 5) (wN m.length (val a / 2 ^ (i + 1) % val m)) := by
          rcases g5 with g | ⟨g,gz⟩
          · rw [g];exact RdW.vsl _ _ _
          · rw [g,gz];exact RdW.sA [] 0 m.length _ _ (by simp) rfl
        have htw:=fun L=>zzR L (hx h [cW (tab m.length fun _=>0#64)] []) p (fr1 5) m _ (gd a 0#64 (i / 64) >>> (i % 64)&&&1#64) (hp.ext _ _) hrw m.length ⟨by simp,rfl⟩ hm0.1 hm0.2 hbit (by rw [hvw];exact hrest)
        rw [hvw,hvb,hst] at htw
        have g6':fr1 6=.int .i64 (i:Int):=by rw [g6];congr 1;omega
        have w1:IntKind.i64.wrap ((i:Int) - 1)=((bl (val a):Nat):Int) - 1 - ((k+1:Nat):Int):=(wrap_i64 (by omega) (by omega)).trans (by omega)
        have t1:(i:Int).tdiv 64=((i / 64:Nat):Int):=zyC i 64
        have t2:=zit (i / 64) (by omega)
        have t3:(i:Int).tmod 64=((i % 64:Nat):Int):=zFj i 64
        have hro:=r2 (i / 64) hil
        have hrd:=r3 (i / 64) [cW (tab m.length fun _=>0#64)] [] hil
        have hsh:=znj (gd a 0#64 (i / 64)) .i64 (i % 64) (by simp;omega)
        have hand:zew .and (wd (gd a 0#64 (i / 64) >>> (i % 64))) (wd 1#64)=some (wd (gd a 0#64 (i / 64) >>> (i % 64)&&&1#64)):=zpn _ _
        generalize gd a 0#64 (i / 64) >>> (i % 64)&&&1#64=bit at*
        generalize gd a 0#64 (i / 64) >>> (i % 64)=sh at*
        generalize gd a 0#64 (i / 64)=wq at*
        generalize i % 64=ir at*
        generalize i / 64=iq at*
        simp -implicitDefEqProofs [zch,zau,g0,g1,g6',show (0:Int)≤(i:Int) by omega,t1,t2,t3,zlY,zi0,hro,hrd,hsh,wd1,hand,htw,w1, -zdO, -zlZ, -zpn,e2]
        exact hlt
      · have : k = bl (val a) := by omega
        subst this
        have hz:((bl (val a):Nat):Int) - 1 - ((bl (val a):Nat):Int)= -1:=by omega
        rw [hz] at g6
        rw [Nat.sub_self,Nat.pow_zero,Nat.div_one] at g5
        simp [zch,g6]
        exact g5)
  exact ⟨fr',rfl,h5'⟩
theorem zDx (L:Lim) (h:zab) (p x:zaa) (m a:List W64) (hp:PtM h p m) (hr:RdW h x a) (hn:a.length < 1000000) (hm0:0 < m.length∧m.length < 1000000) (h0m:0 < val m):
    zag ctx L zbC [p,x] h=some (.vsl false (eW (wN m.length (val a % val m))),h):=by
  rw [zjw]
  obtain ⟨p1,p0,p2,p3⟩:=id hp
  have hB:=fun L bs=>zDq L (hx h bs []) x a (hr.ext bs []) hn
  have hN:bl (val a)≤64*a.length:=zBg (by rw [← zus];exact zhc a)
  have w1:IntKind.i64.wrap (((bl (val a):Nat):Int) - 1)=((bl (val a):Nat):Int) - 1:=wrap_i64 (by omega) (by omega)
  have hbig:((m.length:Nat):Int) < 274877906944:=by omega
  simp -implicitDefEqProofs [zdQ,zau,p1,p2,p3,zlx,zat,hbig,zgd,zbk,hB,w1]
  generalize hF:run ctx _ (.loop _) _ _=R
  obtain ⟨fr1,rfl,h5⟩:=zyV p x m a hp hr hn hm0 h0m hF (by simp) (by simp) (by simp) (by simp)
  rcases h5 with h5 | ⟨h5,hz⟩
  · simp -implicitDefEqProofs [h5]
  · have hfz := zAI h [cW (tab m.length fun _ => 0#64)] [] h.toks.length 11 0 m.length (some m.length) _ rfl (by simp)
    rw [hz]
    simp -implicitDefEqProofs [h5,hfz]
end Go.Av
namespace Go.Av
theorem zBn (L:Lim) (h:zab) (bs:List (List zaa)) (ts:List Nat) (y:zaa) (l:List W64) (hy:zay (hx h bs ts) 1 y=some (eW l)) (hl:decide (0 < l.length)=true) (hl2:decide (l.length < 1000000)=true):
    zrI L (hx h bs ts) 1 false (.vsl true []) y=some (gA h.toks.length ts.length (eW l),hx h bs (ts++[l.length])):=by
  have h1:0 < l.length:=by simpa using hl
  have h2:l.length < 1000000:=by simpa using hl2
  have hne:eW l≠[]:=fun e=>by have:=congrArg List.length e;simp at this;subst this;simp at h1
  have h3:l.length < zat:=by unfold zat;omega
  have hs:zeH 1 ([]:List (List zaa))=true:=rfl
  simp only [zrI,hy,Option.bind_some,zxk,if_true,zCr,zLk,hs,if_neg hne,List.nil_append,List.length_nil,Nat.zero_add,zOF,if_pos h3]
  simp [zeD,gA,hx,ptok]
theorem zzW (L:Lim) (h:zab) (x:zaa) (l:List W64) (hr:LsW h x l) (hne:eqA .slc x .nsl=some false) (hl:0 < l.length∧l.length < 1000000):zag ctx L zaQ [x] h=some (.vsl false (eW l),h):=by
  rw [zgF]
  have hy:=hr.2 [] []
  have ha:=fun L=>zBn L h [] [] x l hy (by simp [hl.1]) (by simp [hl.2])
  simp -implicitDefEqProofs [zb5,zau,hne,zaA,rep,chunks,ha]
def ztv (m0:W64):Nat→W64
  | 0=>1#64
  | k+1=>ztv m0 k*(2#64 - m0*ztv m0 k)
theorem zDz (m0:W64) (k:Nat):ztv m0 (k+1)=ztv m0 k*(2#64 - m0*ztv m0 k):=rfl
theorem zDA {L:Lim} {fr:Fr} {H:zab} {R:Option (AEx × Fr × zab)} (x:zaa) (m0:W64) (q0:zaa) (hro:zbP none 1 x (.int .i64 0)=some q0) (hrd:zkn H q0 1 false=some (wd m0))
    (hF:run ctx L (.loop zc9) fr H=R)
    (h0:fr 0=x) (h5:fr 5=wd 1#64) (h45:fr 45=.int .i64 0):
    ∃ fr',R=some (.exit 0,fr',H)∧fr' 5=wd (ztv m0 6)∧∀ t,t∉wr zc9→fr' t=fr t:=by
  obtain ⟨e,fr',h',rfl,⟨rfl,rfl,h5'⟩,hk⟩:=zaj hF 6
    (fun k fr hh=>fr 45=.int .i64 k∧fr 5=wd (ztv m0 k)∧hh=H)
    (fun e fr hh=>e=.exit 0∧hh=H∧fr 5=wd (ztv m0 6))
    ⟨h45,h5,rfl⟩ (by
      rintro k fr1 hh hkN hkeep ⟨g45,g5,rfl⟩
      have g0:=(hkeep 0 (by decide)).trans h0
      by_cases hlt:k < 6
      · have w1 : IntKind.i64.wrap ((k : Int) + 1) = k + 1 := wrap_i64 (by omega) (by omega)
        have e2:zaa.int .u64 2=wd 2#64:=rfl
        have hst:=zDz m0 k
        generalize ztv m0 k=q at*
        simp -implicitDefEqProofs [zc9,g45,g5,g0,hlt,show (k:Int) < 6 by omega,w1,e2,hst,hro,hrd]
      · have : k = 6 := by omega
        subst this
        simp [zc9,g45,g5])
  exact ⟨fr',rfl,h5',hk⟩
def zyr (m k:Nat):Nat:=2 ^ k % m
theorem zw7 (m k:Nat):(2*zyr m k+0) % m=zyr m (k+1):=by
  unfold zyr;rw [Nat.add_zero,Nat.mul_mod_mod,Nat.pow_succ,Nat.mul_comm]
def sqV (n:Nat) (nb:Nat) (m k:Nat) (v:zaa):Prop:=v=.vsl false (eW (wN n (zyr m k)))∨k=0∧v=sA nb 1 0 1 n (some n)
theorem zDC {fr:Fr} {h:zab} {R:Option (AEx × Fr × zab)} (m:List W64) (i:W64) (v0:zaa) (hm0:0 < m.length∧m.length < 100) (hm1:1 < val m)
    (hF:run ctx (zau h) (.loop zf7) fr (hx h [[.vsl false (eW m),wd i,v0],cW (wN m.length 1)] [])=R)
    (hv0:v0=sA h.blks.length 1 0 1 m.length (some m.length))
    (h4:fr 4=pA h.blks.length 0 0) (h74:fr 74=.int .i64 ((128*m.length:Nat):Int)) (h75:fr 75=.int .i64 0):
    ∃ fr' v,R=some (.exit 2,fr',hx h [[.vsl false (eW m),wd i,v],cW (wN m.length 1)] [])∧sqV m.length h.blks.length (val m) (128*m.length) v∧∀ t,t∉wr zf7→fr' t=fr t:=by
  obtain ⟨e,fr',h',rfl,⟨rfl,v,hv,rfl⟩,hk⟩:=zaj hF (128*m.length)
    (fun k fr hh=>fr 75=.int .i64 k∧∃ v,sqV m.length h.blks.length (val m) k v∧hh=hx h [[.vsl false (eW m),wd i,v],cW (wN m.length 1)] [])
    (fun e fr hh=>e=.exit 2∧∃ v,sqV m.length h.blks.length (val m) (128*m.length) v∧hh=hx h [[.vsl false (eW m),wd i,v],cW (wN m.length 1)] [])
    ⟨h75,v0,.inr ⟨rfl,hv0⟩,rfl⟩ (by
      rintro k fr1 hh hkN hkeep ⟨g75,v,hv,rfl⟩
      have g4:=(hkeep 4 (by decide)).trans h4
      have g74:=(hkeep 74 (by decide)).trans h74
      generalize hN:128*m.length=N at*
      by_cases hlt:k < N
      · have w1 : IntKind.i64.wrap ((k : Int) + 1) = k + 1 := wrap_i64 (by omega) (by omega)
        have hvm:val m < bN m.length:=zhc m
        have hrest:zyr (val m) k < val m:=Nat.mod_lt _ (by omega)
        have hvw:=zja m.length (zyr (val m) k) (by omega)
        have h1m:zyr (val m) 0=1:=by unfold zyr;rw [Nat.pow_zero,Nat.mod_eq_of_lt hm1]
        have hrw:RdW (hx h [[.vsl false (eW m),wd i,v],cW (wN m.length 1)] []) v (wN m.length (zyr (val m) k)):=by
          rcases hv with g | ⟨rfl,g⟩
          · subst g;exact RdW.vsl _ _ _
          · subst g;rw [h1m];exact RdW.sA [] 1 m.length _ _ (by simp) rfl
        have hpt:PtM (hx h [[.vsl false (eW m),wd i,v],cW (wN m.length 1)] []) (pA h.blks.length 0 0) m:=
          ⟨by simp,pA h.blks.length 0 0,by simp,fun bs ts=>by rw [zFB,zIv];simp [zae]⟩
        have htw:=fun L=>zzR L _ (pA h.blks.length 0 0) v m _ 0#64 hpt hrw m.length ⟨by simp,rfl⟩ hm0.1 (by omega) (by decide) (by rw [hvw];exact hrest)
        rw [hvw,show (0#64:W64).toNat=0 from rfl,zw7] at htw
        simp -implicitDefEqProofs [zf7,zau,g4,g74,g75,show (k:Int) < N by omega,zae,wd0,htw,w1]
        exact ⟨hlt,_,.inl rfl,rfl⟩
      · have : k = N := by omega
        subst this
        simp [zf7,g74,g75]
        exact ⟨v,hv,rfl⟩)
  exact ⟨fr',v,rfl,hv,hk⟩
theorem zNl (h:zab) (bs:List (List zaa)) (ts:List Nat) (nt n i off:Nat) (cs:List zaa) (hb:bs[i]?=some cs) (hu:zap h.blks.length nt cs=true):
    frz (hx h bs ts) h.blks.length nt (n+1) (pA h.blks.length i off)=some (.vptr cs off):=by
  have e1:(hx h bs ts).blks[h.blks.length+i]?=some cs:=zzD ts hb
  simp only [pA,frz]
  rw [if_neg (by omega),e1]
  simp [zK7,hu]
theorem zw8 (n : Nat) (h : 0 < n) : (tab n fun _ => (0#64 : W64)).set 0 1#64 = wN n 1 := by
  refine val_inj (by simp) ?_
  rw [zja n 1 (by have:=Nat.one_lt_pow (a:=18446744073709551616) (n:=n) (by omega) (by decide);exact this)]
  rw [zdq _ n (by simp)]
  have e0:gd ((tab n fun _=>(0#64:W64)).set 0 1#64) 0#64 0=1#64:=by rw [zmc _ _ _ _ _ (by simpa using h),if_pos rfl]
  rw [zvs (i:=0) (by rw [e0];decide) n h fun j h1 h2=>by rw [zmc _ _ _ _ _ (by simpa using h),if_neg (by omega),zkQ h2],e0]
  rfl
theorem zeM (n:Nat):zaV (wd 0#64) n=cW (tab n fun _=>0#64):=zbk n
theorem zNn (L:Lim) (h:zab) (x:zaa) (m:List W64) (hr:LsW h x m) (hne:eqA .slc x .nsl=some false) (hm0:0 < m.length∧m.length≤16) (hm1:1 < val m)
    (hodd:gd m 0#64 0&&&1#64≠0#64) (htop:gd m 0#64 (m.length - 1)≠0#64) (hone:m.length≠1):
    zag ctx L zjm [x] h=some (.tup [modV m (-(ztv (gd m 0#64 0) 6)) (wN m.length (zyr (val m) (128*m.length))),.int .i64 0],h):=by
  rw [zvI]
  obtain ⟨r1,p,r2,r3⟩:=id hr.1
  have hro0:=r2 0 hm0.1
  have hrd0:=fun bs ts=>r3 0 bs ts hm0.1
  have hroT:=r2 (m.length - 1) (by omega)
  have hrdT:=r3 (m.length - 1) [] [] (by omega)
  have hc:=fun L=>zzW L (hx h [] []) x m (hr.ext [] []) hne ⟨hm0.1,by omega⟩
  have wT:IntKind.i64.wrap ((m.length:Int) - 1)=((m.length - 1:Nat):Int):=(wrap_i64 (by omega) (by omega)).trans (by omega)
  have w128:IntKind.i64.wrap (128*(m.length:Int))=((128*m.length:Nat):Int):=(wrap_i64 (by omega) (by omega)).trans (by omega)
  have bo:(gd m 0#64 0&&&1#64==0#64)=false:=beq_false_of_ne hodd
  have bt:(gd m 0#64 (m.length - 1)==0#64)=false:=beq_false_of_ne htop
  have hlast:=zw7 (val m) 0
  simp only [Int.natCast_zero] at hro0
  have hand:zew .and (wd (gd m 0#64 0)) (wd 1#64)=some (wd (gd m 0#64 0&&&1#64)):=zpn _ _
  have hS:=fun fr v0 R=>zDC (fr:=fr) (h:=h) (R:=R) m (-(ztv (gd m 0#64 0) 6)) v0 ⟨hm0.1,by omega⟩ hm1
  have hI:=fun L fr H R=>zDA (L:=L) (fr:=fr) (H:=H) (R:=R) x (gd m 0#64 0) (p 0) hro0
  have hset:=zw8 m.length hm0.1
  generalize gd m 0#64 0&&&1#64=mo at*
  generalize hm0v:gd m 0#64 0=mz at*
  generalize gd m 0#64 (m.length - 1)=mt at*
  generalize hmt:m.length - 1=nt at*
  generalize hnn:m.length=n at*
  have b1:¬((n:Int) < 1):=by omega
  have b2:¬(16 < (n:Int)):=by omega
  have b3:((n:Int)==1)=false:=beq_false_of_ne (by omega)
  have ia0 : ∀ (i off : Nat) (cap : Option Nat), zbP none 1 (sA h.blks.length i off 1 n cap) (.int .i64 0) = some (pA h.blks.length i off) := fun i off cap => by
    have:=zfD h.blks.length i off n 0 cap (by simp;omega)
    simpa using this
  simp -implicitDefEqProofs [zqe,zau,r1,b1,b2,b3,hro0,hrd0,wd1,wd0,hand,zpU,bo,bt,hroT,hrdT,wT, -zlZ, -zpn,hc,zaA,zee,zaa.okV,zaa.cells]
  generalize hF:run ctx _ (.loop _) _ _=R
  obtain ⟨fr1,rfl,h5,hk1⟩:=hI _ _ _ _ (hrd0 _ _) hF (by simp) (by simp) (by simp)
  simp -implicitDefEqProofs [hk1,h5,wr,zc9,zgR,zau,r1,hrd0,zw6,zlx,zat,show (n:Int) < 274877906944 by omega,zae,zgd,zbk,zeM,hset,show 1≤n by omega,hm0.1,w128,ia0,wd0,wd1]
  generalize hF:run ctx _ (.loop _) _ _=R
  obtain ⟨fr2,v,rfl,hv,hk2⟩:=hS _ _ _ hF rfl (by simp [hk1,wr,zc9,zgR]) (by simp [hk1,wr,zc9,zgR]) (by simp)
  have hv2:v=.vsl false (eW (wN n (zyr (val m) (128*n)))):=by
    rcases hv with g | ⟨g,_⟩
    · exact g
    · omega
  subst hv2
  have hfz:=zNl h [[.vsl false (eW m),wd (-(ztv mz 6)),.vsl false (eW (wN n (zyr (val m) (128*n))))],cW (wN n 1)] [] h.toks.length 10 0 0 _ rfl (by simp [zap,zaa.under];rfl)
  simp -implicitDefEqProofs [hk1,hk2,wr,zc9,zf7,zgR,hfz,modV]
end Go.Av
namespace Go.Av
theorem zxc (n:Nat) (c:Bool) (l:List W64) (h0:0 < n) (h:n≤l.length):zNX n (.vsl c (eW l))=some (.vptr (cW (l.take n)) 0):=by
  rw [zs8,zzB n c .u64 (zv2 l) (by simp [h0,h]),zxV,← zs7]
theorem zz2:∀ {a b:List W64},zv2 a=zv2 b→a=b
  | [],[],_=>rfl
  | [],y :: b,h=>by simp [zv2] at h
  | x :: a,[],h=>by simp [zv2] at h
  | x :: a, y :: b, h => by
    simp only [zv2,List.map_cons,List.cons.injEq] at h
    rw [zz2 (a:=a) (b:=b) h.2]
    congr 1
    exact BitVec.eq_of_toNat_eq (Int.ofNat.inj h.1)
theorem zNs (a b:List W64) (n:Nat) (ha:a.length=n) (hb:b.length=n):eqA (.agg (zaV .i n)) (.agg (cW a)) (.agg (cW b))=some (decide (a=b)):=by
  rw [zs7,zs7,zMS .u64 n (zv2 a) (zv2 b) (by simpa using ha) (by simpa using hb)]
  congr 1
  by_cases h:a=b
  · subst h;simp
  · rw [decide_eq_false h]
    refine beq_false_of_ne fun e=>h ?_
    exact zz2 e
end Go.Av
namespace Go.Av
theorem zdv {α:Type} (bs js:List α) (n k:Nat) (h:n=bs.length):(bs++js)[n+k]?=js[k]?:=by
  subst h;rw [List.getElem?_append_right (Nat.le_add_right _ _),Nat.add_sub_cancel_left]
theorem zeQ {α:Type} (bs js:List α) (n k:Nat) (x:α) (h:n=bs.length):(bs++js).set (n+k) x=bs++js.set k x:=by
  subst h;rw [List.set_append_right _ _ (Nat.le_add_right _ _),Nat.add_sub_cancel_left]
theorem zoU (h:zab) (bs js:List (List zaa)) (ts:List Nat) (n:Nat) (hn:n=bs.length):zdW (hx h (bs++js) ts) (h.blks.length+n) (h.toks.length+ts.length)=hx h bs ts:=by
  subst hn
  unfold zdW hx
  have e : ∀ {α : Type} (a b c : List α), (a ++ (b ++ c)).take (a.length + b.length) = a ++ b := fun a b c => by
    rw [← List.append_assoc,← List.length_append];exact List.take_left
  simp only [e]
  rw [← List.length_append,List.take_length]
def dB:Nat:=4294967296
end Go.Av
