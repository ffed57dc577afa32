/- The permutation of bytes and the digest of the program give what plain functions of lists give. -/
import Derived.Test.YtbofkfgfnaigkaaGreatDoorC2
import Derived.Test.YtbofkfgfnaigkaaGreatDoorC3
set_option linter.unusedSimpArgs false
set_option linter.unusedVariables false
set_option maxHeartbeats 1000000
set_option maxRecDepth 20000
namespace Go.Av
def rotl (x:W64) (n:Nat):W64:=(x <<< (n % 64))|||(x >>> (64 - n % 64))
theorem zOV (L:Lim) (h:zab) (x:W64) (n:Nat) (hn:n < 9223372036854775808):zag ctx L zbW [wd x,.int .i64 n] h=some (wd (rotl x n),h):=by
  rw [zk0]
  have e1:IntKind.u64.wrap (n:Int)=n:=zxk n (by omega)
  have e2:zdj .and (.int .u64 (n:Int)) (.int .u64 63)=some (.int .u64 ((n % 64:Nat):Int)):=by
    rw [zov]
    show some (zaa.int .u64 (IntKind.u64.wrap ((BitVec.ofInt 64 (n:Int)&&&BitVec.ofInt 64 (63:Int):BitVec 64).toNat:Int)))=_
    have:(BitVec.ofInt 64 (n:Int)&&&BitVec.ofInt 64 (63:Int):BitVec 64).toNat=n % 64:=by
      rw [BitVec.toNat_and]
      have h1:(BitVec.ofInt 64 (n:Int)).toNat=n:=by rw [BitVec.toNat_ofInt];omega
      have h2:(BitVec.ofInt 64 (63:Int)).toNat=2 ^ 6 - 1:=by decide
      rw [h1,h2,Nat.and_two_pow_sub_one_eq_mod]
    rw [this,zxk _ (by omega)]
  have e3:zdj .sub (.int .u64 64) (.int .u64 ((n % 64:Nat):Int))=some (.int .u64 ((64 - n % 64:Nat):Int)):=by
    rw [zEn]
    have:(64:Int) - ((n % 64:Nat):Int)=((64 - n % 64:Nat):Int):=by omega
    rw [this,zxk _ (by omega)]
  generalize hm:n % 64=m at e2 e3
  have hm64:m≤64:=by omega
  generalize hk:64 - m=k at e3
  have hk64:k≤64:=by omega
  simp [zeY,e1,e2,e3,zEH,zsR,hm64,hk64, -zov, -zEn, -zuA, -zfH]
  simp [rotl,hm,hk]
def zCS (l:List W64) (x:Nat):W64:=gd l 0#64 x ^^^ gd l 0#64 (x+5) ^^^ gd l 0#64 (x+10) ^^^ gd l 0#64 (x+15) ^^^ gd l 0#64 (x+20)
def zLC (l:List W64) (k x:Nat):W64:=(List.range k).foldl (fun c i=>if i % 5=x then c ^^^ gd l 0#64 i else c) 0
theorem zIT (l:List W64) (k x:Nat):zLC l (k+1) x=if k % 5=x then zLC l k x ^^^ gd l 0#64 k else zLC l k x:=by
  simp [zLC,List.range_succ]
theorem zMv (l:List W64) (x:Nat) (hx:x < 5):zLC l 25 x=zCS l x:=by
  unfold zLC zCS
  have:x=0∨x=1∨x=2∨x=3∨x=4:=by omega
  rcases this with rfl | rfl | rfl | rfl | rfl <;> simp [show List.range 25=[0,1,2,3,4,5,6,7,8,9,10,11,12,13,14,15,16,17,18,19,20,21,22,23,24] from by decide]
def zuF (l:List W64) (i:Nat):W64:=gd l 0#64 i ^^^ (zCS l ((i % 5+4) % 5) ^^^ rotl (zCS l ((i % 5+1) % 5)) 1)
def zeL (l:List W64):List W64:=tab 25 (zuF l)
theorem zra (k:Nat):(k:Int).tmod 5=((k % 5:Nat):Int):=by rw [Int.tmod_eq_emod_of_nonneg (by omega)];omega
theorem zDv {fr:Fr} {h:zab} {R:Option (AEx × Fr × zab)} (s:List W64) (hs:s.length=25) (b z:List zaa)
    (hF:run ctx (zak h) (.loop zaR) fr (hx h [b,z,cW (tab 5 fun _=>0#64)] [])=R)
    (h8:fr 8=.agg (cW s)) (h9:fr 9=.int .i64 0) (h3:fr 3=pA h.blks.length 2 0):
    ∃ fr',R=some (.exit 0,fr',hx h [b,z,cW (tab 5 (zCS s))] [])∧∀ t,t∉wr zaR→fr' t=fr t:=by
  obtain ⟨e,fr',h',rfl,⟨rfl,rfl⟩,hk⟩:=zaf hF 25
    (fun k fr hh=>fr 9=.int .i64 k∧hh=hx h [b,z,cW (tab 5 (zLC s k))] [])
    (fun e fr hh=>e=.exit 0∧hh=hx h [b,z,cW (tab 5 (zCS s))] [])
    ⟨h9,rfl⟩ (by
      rintro k fr1 hh hkN hkeep ⟨g9,rfl⟩
      have g8:=(hkeep 8 (by decide)).trans h8
      have g3:=(hkeep 3 (by decide)).trans h3
      by_cases hlt:k < 25
      · have w2 : IntKind.i64.wrap ((k : Int) + 1) = k + 1 := wrap_i64 (by omega) (by omega)
        have e5:=zra k
        have hset:(tab 5 (zLC s k)).set (k % 5) (zLC s k (k % 5) ^^^ gd s 0#64 k)=tab 5 (zLC s (k+1)):=by
          rw [zlr]
          refine zaN fun j hj=>?_
          rw [zIT]
          by_cases hj:j=k % 5
          · subst hj;simp
          · simp [hj,Ne.symm hj]
        generalize hm:k % 5=m at e5 hset
        have hm5:m < 5:=by omega
        simp [zaR,zak,g9,g8,g3,hlt,show (k:Int) < 25 by omega,w2,zDa,zU2,hs,zbs,e5,zaP,hm5,show m≤4 by omega,zbz,hset]
      · have : k = 25 := by omega
        subst this
        simp [zaR,g9,g8,g3]
        exact congrArg (fun c=>hx h [b,z,c] []) (congrArg cW (zaN fun j hj=>zMv s j hj)))
  exact ⟨fr',rfl,hk⟩
theorem zDw {fr:Fr} {h:zab} {R:Option (AEx × Fr × zab)} (s:List W64) (hs:s.length=25) (z:List zaa)
    (hF:run ctx (zak h) (.loop zbU) fr (hx h [cW s,z,cW (tab 5 (zCS s))] [])=R)
    (h1:fr 1=pA h.blks.length 0 0) (h3:fr 3=pA h.blks.length 2 0) (h21:fr 21=.int .i64 0):
    ∃ fr',R=some (.exit 2,fr',hx h [cW (zeL s),z,cW (tab 5 (zCS s))] [])∧∀ t,t∉wr zbU→fr' t=fr t:=by
  obtain ⟨e,fr',h',rfl,⟨rfl,rfl⟩,hk⟩:=zaf hF 25
    (fun k fr hh=>fr 21=.int .i64 k∧hh=hx h [cW (tab 25 fun j=>if j < k then zuF s j else gd s 0#64 j),z,cW (tab 5 (zCS s))] [])
    (fun e fr hh=>e=.exit 2∧hh=hx h [cW (zeL s),z,cW (tab 5 (zCS s))] [])
    ⟨h21, by simp [← zot 0#64 hs]⟩ (by
      rintro k fr1 hh hkN hkeep ⟨g21,rfl⟩
      have g1:=(hkeep 1 (by decide)).trans h1
      have g3:=(hkeep 3 (by decide)).trans h3
      by_cases hlt:k < 25
      · have w2 : IntKind.i64.wrap ((k : Int) + 1) = k + 1 := wrap_i64 (by omega) (by omega)
        have e5:=zra k
        have hset : (tab 25 fun j => if j < k then zuF s j else gd s 0#64 j).set k (zuF s k) = tab 25 fun j => if j < k + 1 then zuF s j else gd s 0#64 j := by
          rw [zlr]
          refine zaN fun j hj=>?_
          by_cases h1:j=k
          · subst h1;simp
          · by_cases h2:j < k
            · simp [h1,h2,show j < k+1 by omega]
            · simp [h1,h2,show ¬j < k+1 by omega]
        have hth:zuF s k=gd s 0#64 k ^^^ (zCS s ((k % 5+4) % 5) ^^^ rotl (zCS s ((k % 5+1) % 5)) 1):=rfl
        have hold:(fun j=>if j < k then zuF s j else gd s 0#64 j) k=gd s 0#64 k:=by simp
        have w4:IntKind.i64.wrap (((k % 5:Nat):Int)+4)=((k % 5+4:Nat):Int):=(wrap_i64 (by omega) (by omega)).trans (by omega)
        have w1:IntKind.i64.wrap (((k % 5:Nat):Int)+1)=((k % 5+1:Nat):Int):=(wrap_i64 (by omega) (by omega)).trans (by omega)
        have t4:=zra (k % 5+4)
        have t1:=zra (k % 5+1)
        generalize hga:(k % 5+4) % 5=a at t4 hth
        generalize hgb:(k % 5+1) % 5=b at t1 hth
        generalize hm:k % 5=m at e5 w4 w1 t4 t1
        rw [hth] at hset
        have ha5:a < 5:=by omega
        have hb5:b < 5:=by omega
        simp only [Int.natCast_add,Int.cast_ofNat_Int] at w4 w1 t4 t1
        have hrot:=fun L h x=>zOV L h x 1 (by decide)
        simp only [Int.natCast_one] at hrot
        simp [zbU,zak,g21,g1,g3,hlt,show (k:Int) < 25 by omega,w2,zbs,e5,w4,w1,t4,t1,zaP,ha5,hb5,zbz,hset,hrot,show k≤24 by omega]
      · have : k = 25 := by omega
        subst this
        simp [zbU,g21]
        exact congrArg (fun c=>hx h [c,z,cW (tab 5 (zCS s))] []) (congrArg cW (zaN fun j hj=>by simp [hj])))
  exact ⟨fr',rfl,hk⟩
theorem zMz (L:Lim) (h:zab) (s:List W64) (hs:s.length=25):zag ctx L zeB [.agg (cW s)] h=some (.agg (cW (zeL s)),h):=by
  rw [zn1]
  simp [zgU,zak,zaI,zbX,zaa.okV,zaa.cells,zaj,hs]
  generalize hF:run ctx _ (.loop _) _ _=R
  obtain ⟨fr1,rfl,hk1⟩:=zDv s hs _ _ hF (by simp) (by simp) (by simp)
  simp [hk1,wr,zaR,zbM]
  generalize hF:run ctx _ (.loop _) _ _=R
  obtain ⟨fr2,rfl,hk2⟩:=zDw s hs _ hF (by simp [hk1,wr,zaR,zbM]) (by simp [hk1,wr,zaR,zbM]) (by simp)
  simp [hk1,hk2,wr,zaR,zbU,zbM,zaj,zeL,zbp,zai]
end Go.Av
namespace Go.Av
def pxy:Nat→Nat × Nat
  | 0=>(1,0)
  | t+1=>((pxy t).2,(2*(pxy t).1+3*(pxy t).2) % 5)
theorem zJw:∀ t,(pxy t).1 < 5∧(pxy t).2 < 5
  | 0=>by simp [pxy]
  | t + 1 => by
    have:=zJw t
    simp only [pxy]
    omega
def zrF (l:List W64):Nat→List W64
  | 0=>tab 25 fun j=>if j=0 then gd l 0#64 0 else 0#64
  | t+1=>(zrF l t).set ((pxy t).2+5*((2*(pxy t).1+3*(pxy t).2) % 5)) (rotl (gd l 0#64 ((pxy t).1+5*(pxy t).2)) ((t+1)*(t+2) / 2))
@[simp] theorem zGt (l:List W64):∀ t,(zrF l t).length=25
  | 0=>by simp [zrF]
  | t+1=>by simp [zrF,zGt l t]
def zp2 (l:List W64):List W64:=zrF l 24
theorem zGv {fr:Fr} {h:zab} {R:Option (AEx × Fr × zab)} (s:List W64) (hs:s.length=25) (z:List zaa)
    (hF:run ctx (zak h) (.loop zbV) fr (hx h [z,cW (zrF s 0)] [])=R)
    (h1:fr 1=.vptr (cW s) 0) (h3:fr 3=pA h.blks.length 1 0) (h4:fr 4=.int .i64 1) (h5:fr 5=.int .i64 0) (h11:fr 11=.int .i64 0):
    ∃ fr',R=some (.exit 0,fr',hx h [z,cW (zp2 s)] [])∧∀ t,t∉wr zbV→fr' t=fr t:=by
  obtain ⟨e,fr',h',rfl,⟨rfl,rfl⟩,hk⟩:=zaf hF 24
    (fun k fr hh=>fr 11=.int .i64 k∧fr 4=.int .i64 ((pxy k).1:Nat)∧fr 5=.int .i64 ((pxy k).2:Nat)∧hh=hx h [z,cW (zrF s k)] [])
    (fun e fr hh=>e=.exit 0∧hh=hx h [z,cW (zp2 s)] [])
    ⟨h11,h4,h5,rfl⟩ (by
      rintro k fr1 hh hkN hkeep ⟨g11,g4,g5,rfl⟩
      have g1:=(hkeep 1 (by decide)).trans h1
      have g3:=(hkeep 3 (by decide)).trans h3
      by_cases hlt:k < 24
      · obtain ⟨hx5,hy5⟩:=zJw k
        have hst:zrF s (k+1)=(zrF s k).set ((pxy k).2+5*((2*(pxy k).1+3*(pxy k).2) % 5)) (rotl (gd s 0#64 ((pxy k).1+5*(pxy k).2)) ((k+1)*(k+2) / 2)):=rfl
        have hp:pxy (k+1)=((pxy k).2,(2*(pxy k).1+3*(pxy k).2) % 5):=rfl
        generalize (pxy k).1=x at*
        generalize (pxy k).2=y at*
        have w1:IntKind.i64.wrap ((k:Int)+1)=k+1:=wrap_i64 (by omega) (by omega)
        have w2:IntKind.i64.wrap ((k:Int)+2)=k+2:=wrap_i64 (by omega) (by omega)
        have hmul:(k+1)*(k+2)≤600:=Nat.le_trans (Nat.mul_le_mul (show k+1≤24 by omega) (show k+2≤25 by omega)) (by decide)
        have w3:IntKind.i64.wrap (((k:Int)+1)*(k+2))=(((k+1)*(k+2):Nat):Int):=by
          rw [← zfQ ((k+1)*(k+2)) (by omega)];simp only [Int.natCast_mul,Int.natCast_add,Int.cast_ofNat_Int]
        have w4:=zRT ((k+1)*(k+2))
        have w5:=zfQ ((k+1)*(k+2) / 2) (by omega)
        have w6:IntKind.i64.wrap (2*(x:Int))=((2*x:Nat):Int):=by
          rw [← zfQ (2*x) (by omega)];simp only [Int.natCast_mul,Int.natCast_add,Int.cast_ofNat_Int]
        have w7:IntKind.i64.wrap (3*(y:Int))=((3*y:Nat):Int):=by
          rw [← zfQ (3*y) (by omega)];simp only [Int.natCast_mul,Int.natCast_add,Int.cast_ofNat_Int]
        have w8:IntKind.i64.wrap (((2*x:Nat):Int)+((3*y:Nat):Int))=((2*x+3*y:Nat):Int):=by
          rw [← zfQ (2*x+3*y) (by omega)];simp only [Int.natCast_mul,Int.natCast_add,Int.cast_ofNat_Int]
        have w9:=zra (2*x+3*y)
        generalize hn:(2*x+3*y) % 5=n at*
        have hn5:n < 5:=by omega
        have w10:IntKind.i64.wrap (5*(n:Int))=((5*n:Nat):Int):=by
          rw [← zfQ (5*n) (by omega)];simp only [Int.natCast_mul,Int.natCast_add,Int.cast_ofNat_Int]
        have w11:IntKind.i64.wrap ((y:Int)+((5*n:Nat):Int))=((y+5*n:Nat):Int):=by
          rw [← zfQ (y+5*n) (by omega)];simp only [Int.natCast_mul,Int.natCast_add,Int.cast_ofNat_Int]
        have w12:IntKind.i64.wrap (5*(y:Int))=((5*y:Nat):Int):=by
          rw [← zfQ (5*y) (by omega)];simp only [Int.natCast_mul,Int.natCast_add,Int.cast_ofNat_Int]
        have w13:IntKind.i64.wrap ((x:Int)+((5*y:Nat):Int))=((x+5*y:Nat):Int):=by
          rw [← zfQ (x+5*y) (by omega)];simp only [Int.natCast_mul,Int.natCast_add,Int.cast_ofNat_Int]
        have hd25:y+5*n < 25:=by omega
        have hd24:y+5*n≤24:=by omega
        have hs25:x+5*y < 25:=by omega
        generalize hd:y+5*n=d at*
        generalize hsr:x+5*y=sr at*
        generalize hr:(k+1)*(k+2) / 2=r at*
        generalize (k+1)*(k+2)=kk at*
        generalize 2*x+3*y=xy at*
        generalize 5*n=n5 at*
        generalize 5*y=y5 at*
        generalize 2*x=x2 at*
        generalize 3*y=y3 at*
        have hrot:=fun L h v=>zOV L h v r (by omega)
        simp [zbV,zak,g11,g1,g3,g4,g5,hlt,show (k:Int) < 24 by omega,w1,w2,w3,w4,w5,w6,w7,w8,w9,w10,w11,w12,w13,zbs,zc9,zaP,ze6,hd25,hd24,hs25,hs,hrot,← hst,hp]
      · have : k = 24 := by omega
        subst this
        simp [zbV,g11,zp2])
  exact ⟨fr',rfl,hk⟩
theorem zM2 (L:Lim) (h:zab) (s:List W64) (hs:s.length=25):zag ctx L zeC [.agg (cW s)] h=some (.agg (cW (zp2 s)),h):=by
  rw [zn2]
  have e0 : cW ((tab 25 fun _ => 0#64).set 0 (gd s 0#64 0)) = cW (zrF s 0) := by
    rw [zlr];exact congrArg cW (zaN fun j _=>rfl)
  simp [zgV,zak,zaI,zaj,hs,zaA,zbp,zai,e0]
  generalize hF:run ctx _ (.loop _) _ _=R
  obtain ⟨fr1,rfl,hk1⟩:=zGv s hs _ hF (by simp) (by simp) (by simp) (by simp) (by simp)
  simp [hk1,wr,zbV,zbM,zaj,zp2,zbp,zai]
def zQB (l:List W64) (i:Nat):W64:=gd l 0#64 i ^^^ (gd l 0#64 (i - i % 5+(i+2) % 5)&&&~~~ gd l 0#64 (i - i % 5+(i+1) % 5))
def ztT (l:List W64):List W64:=tab 25 (zQB l)
theorem zM4 {fr:Fr} {h:zab} {R:Option (AEx × Fr × zab)} (s:List W64) (hs:s.length=25) (z:List zaa)
    (hF:run ctx (zak h) (.loop zcE) fr (hx h [z,cW s] [])=R)
    (h1:fr 1=.vptr (cW s) 0) (h3:fr 3=pA h.blks.length 1 0) (h7:fr 7=.int .i64 0):
    ∃ fr',R=some (.exit 0,fr',hx h [z,cW (ztT s)] [])∧∀ t,t∉wr zcE→fr' t=fr t:=by
  obtain ⟨e,fr',h',rfl,⟨rfl,rfl⟩,hk⟩:=zaf hF 25
    (fun k fr hh=>fr 7=.int .i64 k∧hh=hx h [z,cW (za6 25 (zQB s) (gd s 0#64) k)] [])
    (fun e fr hh=>e=.exit 0∧hh=hx h [z,cW (ztT s)] [])
    ⟨h7, by simp [zcc, ← zot 0#64 hs]⟩ (by
      rintro k fr1 hh hkN hkeep ⟨g7,rfl⟩
      have g1:=(hkeep 1 (by decide)).trans h1
      have g3:=(hkeep 3 (by decide)).trans h3
      by_cases hlt:k < 25
      · have hset:(za6 25 (zQB s) (gd s 0#64) k).set k (zQB s k)=za6 25 (zQB s) (gd s 0#64) (k+1):=zdn ..
        have hk1:zQB s k=gd s 0#64 k ^^^ (gd s 0#64 (k - k % 5+(k+2) % 5)&&&~~~ gd s 0#64 (k - k % 5+(k+1) % 5)):=rfl
        rw [hk1] at hset
        clear hk1
        have w0:=zra k
        have w1:IntKind.i64.wrap ((k:Int) - ((k % 5:Nat):Int))=((k - k % 5:Nat):Int):=by
          rw [← zfQ (k - k % 5) (by omega)];congr 1;omega
        have w2:IntKind.i64.wrap ((k:Int)+1)=((k+1:Nat):Int):=wrap_i64 (by omega) (by omega)
        have w3:IntKind.i64.wrap ((k:Int)+2)=((k+2:Nat):Int):=wrap_i64 (by omega) (by omega)
        have w4:=zra (k+1)
        have w5:=zra (k+2)
        have w6:IntKind.i64.wrap (((k - k % 5:Nat):Int)+(((k+1) % 5:Nat):Int))=((k - k % 5+(k+1) % 5:Nat):Int):=by
          rw [← zfQ (k - k % 5+(k+1) % 5) (by omega),Int.natCast_add]
        have w7:IntKind.i64.wrap (((k - k % 5:Nat):Int)+(((k+2) % 5:Nat):Int))=((k - k % 5+(k+2) % 5:Nat):Int):=by
          rw [← zfQ (k - k % 5+(k+2) % 5) (by omega),Int.natCast_add]
        have ha:k - k % 5+(k+1) % 5 < 25:=by omega
        have hb:k - k % 5+(k+2) % 5 < 25:=by omega
        generalize k - k % 5+(k+1) % 5=a at*
        generalize k - k % 5+(k+2) % 5=b at*
        generalize (k+1) % 5=c at*
        generalize (k+2) % 5=d at*
        generalize k - k % 5=q at*
        generalize k % 5=r at*
        have w8:((k+1:Nat):Int)=(k:Int)+1:=rfl
        generalize hk1:k+1=k1 at*
        generalize k+2=k2 at*
        simp [zcE,zak,g7,g1,g3,hlt,show (k:Int) < 25 by omega,show k≤24 by omega,w0,w1,w2,w3,w4,w5,w6,w7,zbs,zaP,ze6,ha,hb,zwU,hs,hset,hk1,show k1≤25 by omega]
        try omega
      · have : k = 25 := by omega
        subst this
        simp [zcE,g7,zft,ztT])
  exact ⟨fr',rfl,hk⟩
theorem zTS (L:Lim) (h:zab) (s:List W64) (hs:s.length=25):zag ctx L zfL [.agg (cW s)] h=some (.agg (cW (ztT s)),h):=by
  rw [zpJ]
  simp [zis,zak,zaI,zaj,hs,zbp,zai]
  generalize hF:run ctx _ (.loop _) _ _=R
  obtain ⟨fr1,rfl,hk1⟩:=zM4 s hs _ hF (by simp) (by simp) (by simp)
  simp [hk1,wr,zcE,zbM,zaj,ztT,zbp,zai]
def rcW:List W64:=[1#64,32898#64,9223372036854808714#64,9223372039002292224#64,32907#64,2147483649#64,9223372039002292353#64,9223372036854808585#64,138#64,136#64,2147516425#64,2147483658#64,2147516555#64,9223372036854775947#64,9223372036854808713#64,9223372036854808579#64,9223372036854808578#64,9223372036854775936#64,32778#64,9223372039002259466#64,9223372039002292353#64,9223372036854808704#64,2147483649#64,9223372039002292232#64]
theorem zQC (fr:Fr):ctx.ev fr (.g 0)=.vptr (cW rcW) 0:=rfl
theorem zDK (L:Lim) (h:zab) (k:Nat) (hk:k < 24):zag ctx L zgy [.int .i64 k] h=some (wd (gd rcW 0#64 k),h):=by
  rw [zrb]
  have hl:rcW.length=24:=rfl
  simp [zjc,show ¬(24:Int)≤k by omega,show ¬(k:Int) < 0 by omega,zQC,ze6,hk,hl]
def zuJ (l:List W64) (k:Nat):List W64:=(ztT (zp2 (zeL l))).set 0 (gd (ztT (zp2 (zeL l))) 0#64 0 ^^^ gd rcW 0#64 k)
@[simp] theorem zSa (l:List W64):(zeL l).length=25:=by simp [zeL]
@[simp] theorem zSb (l:List W64):(zp2 l).length=25:=by simp [zp2]
@[simp] theorem zVK (l:List W64):(ztT l).length=25:=by simp [ztT]
@[simp] theorem zSc (l:List W64) (k:Nat):(zuJ l k).length=25:=by simp [zuJ]
theorem zJJ (L:Lim) (h:zab) (s:List W64) (hs:s.length=25) (k:Nat) (hk:k < 24):zag ctx L zez [.agg (cW s),.int .i64 k] h=some (.agg (cW (zuJ s k)),h):=by
  rw [znY]
  simp [zgS,zak,zaI,zbX,zaa.okV,zaa.cells,zaj,hs,zbp,zai,zMz,zM2,zTS,zDK,hk,zuJ]
def zBC (l:List W64) (k:Nat):List W64:=(List.range k).foldl zuJ l
theorem zue (l:List W64) (k:Nat):zBC l (k+1)=zuJ (zBC l k) k:=by simp [zBC,List.range_succ]
theorem zBD (l:List W64) (hl:l.length=25):∀ k,(zBC l k).length=25
  | 0=>by simpa [zBC] using hl
  | k+1=>by rw [zue];simp
def zmk (l:List W64):List W64:=zBC l 24
theorem zBE {fr:Fr} {h:zab} {R:Option (AEx × Fr × zab)} (s:List W64) (hs:s.length=25) (z:List zaa)
    (hF:run ctx (zak h) (.loop zbm) fr (hx h [cW s,z] [])=R)
    (h1:fr 1=pA h.blks.length 0 0) (h4:fr 4=.int .i64 0):
    ∃ fr',R=some (.exit 0,fr',hx h [cW (zmk s),z] [])∧∀ t,t∉wr zbm→fr' t=fr t:=by
  obtain ⟨e,fr',h',rfl,⟨rfl,rfl⟩,hk⟩:=zaf hF 24
    (fun k fr hh=>fr 4=.int .i64 k∧hh=hx h [cW (zBC s k),z] [])
    (fun e fr hh=>e=.exit 0∧hh=hx h [cW (zmk s),z] [])
    ⟨h4,rfl⟩ (by
      rintro k fr1 hh hkN hkeep ⟨g4,rfl⟩
      have g1:=(hkeep 1 (by decide)).trans h1
      by_cases hlt:k < 24
      · have w1 : IntKind.i64.wrap ((k : Int) + 1) = k + 1 := wrap_i64 (by omega) (by omega)
        have hl:=zBD s hs k
        simp [zbm,zak,g4,g1,hlt,show (k:Int) < 24 by omega,w1,zaj,hl,zbp,zai,zJJ,zue]
      · have : k = 24 := by omega
        subst this
        simp [zbm,g4,zmk])
  exact ⟨fr',rfl,hk⟩
theorem zfv (l:List W64) (hl:l.length=25):(zmk l).length=25:=zBD l hl 24
theorem zuf (L:Lim) (h:zab) (s:List W64) (hs:s.length=25):zag ctx L zbB [.agg (cW s)] h=some (.agg (cW (zmk s)),h):=by
  rw [zma]
  simp [zfD,zak,zaI,zbX,zaa.okV,zaa.cells,zaj,hs]
  generalize hF:run ctx _ (.loop _) _ _=R
  obtain ⟨fr1,rfl,hk1⟩:=zBE s hs _ hF (by simp) (by simp)
  simp [hk1,wr,zbm,zbM,zaj,zfv,hs,zbp,zai]
end Go.Av
namespace Go.Av
theorem zyi (L:Lim) (h:zab) (s:List W64) (hs:s.length=25):zag ctx L zde [.agg (cW s)] h=some (.agg (cI .u8 (zbQ s)),h):=by
  rw [znS]
  have hb:=fun L bs=>zFm L (hx h (cW s :: bs) []) s (sA h.blks.length 0 0 1 25 (some 25)) (by omega) (RdW.sA [] 0 25 _ s hs (by simp))
  have e1:(zbQ s).take 200=zbQ s:=List.take_of_length_le (by simp [hs])
  simp [zgR,zak,zjs,zbX,zaa.okV,zaa.cells,hs,zg6,hb,zJC,zaj,e1,zbp,zai]
def zdc (s:List W64) (n:Int):List zaa:=cW s++[.int .i64 n]
@[simp] theorem zTY (s:List W64) (n:Int):(zdc s n).length=s.length+1:=by simp [zdc]
theorem zBM {s:List W64} {n:Int} {i:Nat} (h:decide (i < s.length)=true):(zdc s n)[i]?=some (wd (gd s 0#64 i)):=by
  have h':i < s.length:=by simpa using h
  unfold zdc;rw [List.getElem?_append_left (by simpa using h')];exact zsG h'
theorem zvw {s:List W64} {n:Int} (h:s.length=25):(zdc s n)[25]?=some (.int .i64 n):=by
  unfold zdc;rw [List.getElem?_append_right (by simp [h])];simp [h]
theorem zwr {s:List W64} {n:Int} (h0:25 < (zdc s n).length) (h:s.length=25):(zdc s n)[25]=.int .i64 n:=by
  have:=zvw (n:=n) h
  rw [List.getElem?_eq_getElem h0] at this
  exact Option.some.inj this
theorem zuh {s:List W64} {n:Int} {i:Nat} (h0:i < (zdc s n).length) (h:decide (i < s.length)=true):(zdc s n)[i]=wd (gd s 0#64 i):=by
  have:=zBM (n:=n) h
  rw [List.getElem?_eq_getElem h0] at this
  exact Option.some.inj this
theorem zJZ {s:List W64} {n:Int} {i:Nat} (x:W64) (h:decide (i < s.length)=true):(zdc s n).set i (wd x)=zdc (s.set i x) n:=by
  have h':i < s.length:=by simpa using h
  unfold zdc;rw [List.set_append_left _ _ (by simpa using h')];simp
theorem zyn {s:List W64} {n:Int} (m:Int) (h:s.length=25):(zdc s n).set 25 (.int .i64 m)=zdc s m:=by
  unfold zdc;rw [List.set_append_right _ _ (by simp [h])];simp [h]
theorem zyo {s:List W64} {n:Int} (h:s.length=25):zb2 true (zdc s n) 0 25=some (.agg (cW s)):=by
  unfold zb2 zdc;simp [h]
theorem zBN {s:List W64} {n:Int} (h:s.length=25):zb2 true (zdc s n) 0 26=some (.agg (zdc s n)):=zCu (by simp [h])
theorem zGI {s t:List W64} {n:Int} (h:s.length=25) (ht:t.length=25):setAt (zdc s n) 0 (cW t)=zdc t n:=by
  have e:∀ (cs old rest:List zaa),old.length=cs.length→∀ pre:List zaa,setAt (pre++(old++rest)) pre.length cs=pre++(cs++rest):=by
    intro cs
    induction cs with
    | nil=>intro old rest h pre;cases old with | nil=>simp [setAt] | cons a l=>simp at h
    | cons c cs ih=>
      intro old rest h pre
      cases old with
      | nil=>simp at h
      | cons a l=>
        simp only [setAt]
        rw [List.set_append_right _ _ (Nat.le_refl _),Nat.sub_self]
        have:=ih l rest (by simpa using h) (pre++[c])
        simpa using this
  have:=e (cW t) (cW s) [.int .i64 n] (by simp [h,ht]) []
  simpa [zdc] using this
def zFh (s:List W64) (at_:Nat) (v:Int):List W64:=s.set (at_ / 8) (gd s 0#64 (at_ / 8) ^^^ (bw v <<< (8*(at_ % 8))))
@[simp] theorem zVQ (s:List W64) (n:Nat) (v:Int):(zFh s n v).length=s.length:=by simp [zFh]
theorem zJ4 (L:Lim) (h:zab) (bs:List (List zaa)) (ts:List Nat) (i:Nat) (s:List W64) (n:Int) (at_:Nat) (v:Int) (hs:s.length=25) (ha:at_ < 200) (hb:bs[i]?=some (zdc s n)) (hL:L.rob≤h.blks.length):
    zag ctx L zbR [pA h.blks.length i 0,.int .i64 (at_:Int),.int .u8 v] (hx h bs ts)=some (.tup [],hx h (bs.set i (zdc (zFh s at_ v) n)) ts):=by
  rw [zq0]
  have w0:=zuB at_ 8
  have w1:=zoA at_ 8
  have w2:IntKind.i64.wrap ((at_ / 8:Nat):Int)=((at_ / 8:Nat):Int):=zfQ _ (by omega)
  have w3:IntKind.i64.wrap (8*((at_ % 8:Nat):Int))=((8*(at_ % 8):Nat):Int):=by
    rw [← zfQ (8*(at_ % 8)) (by omega)];simp only [Int.natCast_mul,Int.natCast_add,Int.cast_ofNat_Int]
  have ha25:at_ / 8 < 25:=by omega
  have hb64:8*(at_ % 8)≤64:=by omega
  have hset:s.set (at_ / 8) (gd s 0#64 (at_ / 8) ^^^ (bw v <<< (8*(at_ % 8))))=zFh s at_ v:=rfl
  simp only [Int.cast_ofNat_Int] at w0 w1
  have hi:=(List.getElem?_eq_some_iff.1 hb).1
  generalize at_ / 8=a at*
  generalize hbb:8*(at_ % 8)=b at*
  generalize at_ % 8=c at*
  simp [ziZ,w0,w1,w2,w3,zc9,zbs,za5,zaQ,zaP,ha25,hb,zBM,hs,zEH,hb64,zah,hL,zJZ,hset,show a≤25 by omega,zs4, -zdV, -zuA]
def zzR (q:List W64 × Nat) (v:Int):List W64 × Nat:=if q.2+1=136 then (zmk (zFh q.1 q.2 v),0) else (zFh q.1 q.2 v,q.2+1)
def zb3 (q:List W64 × Nat) (l:List Int):List W64 × Nat:=l.foldl zzR q
theorem zNr {q:List W64 × Nat} (v:Int) (h1:q.1.length=25) (h2:q.2 < 136):(zzR q v).1.length=25∧(zzR q v).2 < 136:=by
  unfold zzR
  split
  · exact ⟨zfv _ (by simp [h1]),by simp⟩
  · exact ⟨by simp [h1],by simp only [];omega⟩
theorem zm4:∀ (l:List Int) {q:List W64 × Nat},q.1.length=25→q.2 < 136→(zb3 q l).1.length=25∧(zb3 q l).2 < 136
  | [],q,h1,h2=>⟨h1,h2⟩
  | v :: l, q, h1, h2 => by
    obtain ⟨a,b⟩:=zNr v h1 h2
    exact zm4 l a b
theorem zGJ {L:Lim} {fr:Fr} {h:zab} {R:Option (AEx × Fr × zab)} (bs:List (List zaa)) (ts:List Nat) (i:Nat) (q:List W64 × Nat) (x:zaa) (l:List Int) (hl:l.length < 200000000000) (h1:q.1.length=25) (h2:q.2 < 136)
    (hb:bs[i]?=some (zdc q.1 q.2)) (hL:L.rob≤h.blks.length) (hr:RdI h .u8 x l)
    (hF:run ctx ⟨L.rob,L.rot,h.blks.length+bs.length,h.toks.length+ts.length⟩ (.loop zdg) fr (hx h bs ts)=R)
    (h0:fr 0=pA h.blks.length i 0) (h6:fr 6=x) (h7:fr 7=.int .i64 l.length) (h8:fr 8=.int .i64 0):
    ∃ fr',R=some (.exit 0,fr',hx h (bs.set i (zdc (zb3 q l).1 (zb3 q l).2)) ts):=by
  obtain ⟨r1,p,r2,r3⟩:=hr
  have hi:=(List.getElem?_eq_some_iff.1 hb).1
  obtain ⟨e,fr',h',rfl,⟨rfl,rfl⟩,hk⟩:=zaf hF l.length
    (fun k fr hh=>fr 8=.int .i64 k∧hh=hx h (bs.set i (zdc (zb3 q (l.take k)).1 (zb3 q (l.take k)).2)) ts)
    (fun e fr hh=>e=.exit 0∧hh=hx h (bs.set i (zdc (zb3 q l).1 (zb3 q l).2)) ts)
    ⟨h8,by
      have:bs.set i (zdc q.1 q.2)=bs:=by
        refine List.ext_getElem? fun j=>?_
        by_cases e:i=j
        · subst e;rw [List.getElem?_set_self hi,hb]
        · rw [List.getElem?_set_ne e]
      simp [zb3,this]⟩ (by
      rintro k fr1 hh hkN hkeep ⟨g8,rfl⟩
      have g0:=(hkeep 0 (by decide)).trans h0
      have g6:=(hkeep 6 (by decide)).trans h6
      have g7:=(hkeep 7 (by decide)).trans h7
      obtain ⟨c1,c2⟩:=zm4 (l.take k) h1 h2
      by_cases hlt:k < l.length
      · have w1 : IntKind.i64.wrap ((k : Int) + 1) = k + 1 := wrap_i64 (by omega) (by omega)
        have hst:zb3 q (l.take (k+1))=zzR (zb3 q (l.take k)) (gd l 0 k):=by
          rw [zto 0 hlt];simp [zb3]
        generalize zb3 q (l.take k)=q' at*
        obtain ⟨s,n⟩:=q'
        simp only at c1 c2
        have w2:IntKind.i64.wrap ((n:Int)+1)=((n+1:Nat):Int):=wrap_i64 (by omega) (by omega)
        have hp:=zJ4 ⟨L.rob,L.rot,h.blks.length+bs.length,h.toks.length+ts.length⟩ h (bs.set i (zdc s n)) ts i s n n (gd l 0 k) c1 (by omega) (by simp [hi]) hL
        by_cases h136:n+1=136
        · have hst2 : zzR (s, n) (gd l 0 k) = (zmk (zFh s n (gd l 0 k)), 0) := by simp only [zzR, h136, if_true]
          rw [hst2] at hst
          rw [h136] at w2
          simp [zwr,zuh,zdg,g0,g6,g7,g8,hlt,w1,r2 k hlt,r3 k _ _ hlt,hi,zvw,c1,hp,w2,hst,zah,hL,zyn,zyo,zuf,zfv,zbp,zGI]
        · have hst2 : zzR (s, n) (gd l 0 k) = (zFh s n (gd l 0 k), n + 1) := by simp only [zzR, h136, if_false]
          rw [hst2] at hst
          have hne:(((n+1:Nat):Int)==136)=false:=beq_false_of_ne (by omega)
          generalize n+1=n1 at*
          simp [zwr,zuh,zdg,g0,g6,g7,g8,hlt,w1,r2 k hlt,r3 k _ _ hlt,hi,zvw,c1,hp,w2,hst,zah,hL,zyn,hne]
      · have : k = l.length := by omega
        subst this
        simp [zdg,g8,g7])
  exact ⟨fr',rfl⟩
theorem zNV (L:Lim) (h:zab) (bs:List (List zaa)) (ts:List Nat) (i:Nat) (q:List W64 × Nat) (x:zaa) (l:List Int) (hl:l.length < 200000000000) (h1:q.1.length=25) (h2:q.2 < 136)
    (hb:bs[i]?=some (zdc q.1 q.2)) (hL:L.rob≤h.blks.length) (hr:RdI h .u8 x l):
    zag ctx L zfd [pA h.blks.length i 0,x] (hx h bs ts)=some (.tup [],hx h (bs.set i (zdc (zb3 q l).1 (zb3 q l).2)) ts):=by
  rw [zpg]
  simp [zhG,hr.1,za5,zaQ]
  generalize hF:run ctx _ (.loop _) _ _=R
  obtain ⟨fr',rfl⟩:=zGJ bs ts i q x l hl h1 h2 hb hL hr hF (by simp) (by simp) (by simp) (by simp)
  simp [za5,zaQ,zs4]
def zRf (q:List W64 × Nat):List Int:=(zbQ (zmk (zFh (zFh q.1 q.2 6) 135 128))).take 32
theorem zRg (L:Lim) (h:zab) (b:Nat) (q:List W64 × Nat) (h1:q.1.length=25) (h2:q.2 < 136) (hb:h.blks[b]?=some (zdc q.1 q.2)):
    zag ctx L zeP [.ptr b 0] h=some (.agg (cI .u8 (zRf q)),h):=by
  rw [zrr]
  obtain ⟨s,n⟩:=q
  simp only at h1 h2 hb
  have hld:∀ bs ts,zo5 (hx h bs ts) (.ptr b 0) 26 true=some (.agg (zdc s n)):=fun bs ts=>(zk2 h bs ts b 0 26 true _ hb).trans (zBN h1)
  have ep:∀ (bs:List zaa) (s:List W64),s.length=25→zag ctx ⟨h.blks.length,h.toks.length,h.blks.length,h.toks.length⟩ zbR [pA h.blks.length 1 0,.int .i64 (n:Int),.int .u8 6] (hx h [bs,zdc s n] [])=some (.tup [],hx h [bs,zdc (zFh s n 6) n] []):=fun bs s hs=>
    zJ4 _ h [bs,zdc s n] [] 1 s n n 6 hs (by omega) (by simp) (Nat.le_refl _)
  have ep2:∀ (bs:List zaa) (s:List W64),s.length=25→zag ctx ⟨h.blks.length,h.toks.length,h.blks.length,h.toks.length⟩ zbR [pA h.blks.length 1 0,.int .i64 135,.int .u8 128] (hx h [bs,zdc s n] [])=some (.tup [],hx h [bs,zdc (zFh s 135 128) n] []):=fun bs s hs=>
    zJ4 _ h [bs,zdc s n] [] 1 s n 135 128 hs (by omega) (by simp) (Nat.le_refl _)
  have e32:(zbQ (zmk (zFh (zFh s n 6) 135 128))).length=200:=by simp [zfv,h1]
  have hsl:=zye 200 1 h.blks.length 2 0 32 .i64 (by decide)
  simp only [Int.cast_ofNat_Int] at hsl
  simp [zwr,zuh,zjg,za5,zaQ,zak,zjs,hld,zBN,h1,zbp,zai,zvw,ep,ep2,zyo,zuf,zyi,zfv,zaj,e32,hsl,zO7,zRf]
  simp [zM9,e32,zbp,zai,List.take_take]
def zC0 (l:List Int):List Int:=zRf (zb3 (tab 25 fun _=>0#64,0) l)
theorem zxP (q:List W64 × Nat) (l m:List Int):zb3 q (l++m)=zb3 (zb3 q l) m:=by simp [zb3]
def msg (ps:List (zaa × List Int)):List Int:=(ps.map (·.2)).flatten
theorem zNX (ps:List (zaa × List Int)) (k:Nat) (h:k < ps.length):msg (ps.take (k+1))=msg (ps.take k)++ps[k].2:=by
  unfold msg
  rw [List.take_add_one,List.getElem?_eq_getElem h,List.map_append,List.flatten_append]
  congr 1
  simp
theorem zKI {fr:Fr} {h:zab} {R:Option (AEx × Fr × zab)} (z:List zaa) (ps:List (zaa × List Int)) (hn:ps.length < 1000000) (hr:∀ p∈ps,RdI h .u8 p.1 p.2∧p.2.length < 200000000000)
    (hF:run ctx (zak h) (.loop zgA) fr (hx h [z,zdc (tab 25 fun _=>0#64) 0] [])=R)
    (h3:fr 3=pA h.blks.length 1 0) (h6:fr 6=.vsl false (ps.map fun p=>[p.1])) (h7:fr 7=.int .i64 ps.length) (h8:fr 8=.int .i64 0):
    ∃ fr' q,R=some (.exit 0,fr',hx h [z,zdc q.1 q.2] [])∧q=zb3 (tab 25 fun _=>0#64,0) (msg ps)∧q.1.length=25∧q.2 < 136∧∀ t,t∉wr zgA→fr' t=fr t:=by
  obtain ⟨e,fr',h',rfl,⟨rfl,rfl⟩,hk⟩:=zaf hF ps.length
    (fun k fr hh=>fr 8=.int .i64 k∧hh=hx h [z,zdc (zb3 (tab 25 fun _=>0#64,0) (msg (ps.take k))).1 (zb3 (tab 25 fun _=>0#64,0) (msg (ps.take k))).2] [])
    (fun e fr hh=>e=.exit 0∧hh=hx h [z,zdc (zb3 (tab 25 fun _=>0#64,0) (msg ps)).1 (zb3 (tab 25 fun _=>0#64,0) (msg ps)).2] [])
    ⟨h8, by simp only [List.take_zero]; rfl⟩ (by
      rintro k fr1 hh hkN hkeep ⟨g8,rfl⟩
      have g3:=(hkeep 3 (by decide)).trans h3
      have g6:=(hkeep 6 (by decide)).trans h6
      have g7:=(hkeep 7 (by decide)).trans h7
      obtain ⟨c1,c2⟩:=zm4 (msg (ps.take k)) (q:=(tab 25 fun _=>0#64,0)) (by simp) (by simp)
      by_cases hlt:k < ps.length
      · have w1 : IntKind.i64.wrap ((k : Int) + 1) = k + 1 := wrap_i64 (by omega) (by omega)
        have hst : zb3 (tab 25 fun _ => 0#64, 0) (msg (ps.take (k + 1))) = zb3 (zb3 (tab 25 fun _ => 0#64, 0) (msg (ps.take k))) ps[k].2 := by
          rw [← zxP]
          congr 1
          exact zNX ps k hlt
        obtain ⟨r1,r2⟩:=hr ps[k] (List.getElem_mem hlt)
        generalize zb3 (tab 25 fun _=>0#64,0) (msg (ps.take k))=q' at*
        have hw:=zNV ⟨h.blks.length,h.toks.length,h.blks.length,h.toks.length⟩ h [z,zdc q'.1 q'.2] [] 1 q' ps[k].1 ps[k].2 r2 c1 c2 (by simp) (Nat.le_refl _) r1
        simp [zgA,zak,g3,g6,g7,g8,hlt,zcP,asI,w1,hw,hst]
      · have : k = ps.length := by omega
        subst this
        simp [zgA,g8,g7])
  obtain ⟨c1,c2⟩:=zm4 (msg ps) (q:=(tab 25 fun _=>0#64,0)) (by simp) (by simp)
  exact ⟨fr',_,rfl,rfl,c1,c2,hk⟩
theorem zG1:[zaa.int .u64 0,.int .u64 0,.int .u64 0,.int .u64 0,.int .u64 0,.int .u64 0,.int .u64 0,.int .u64 0,.int .u64 0,.int .u64 0,.int .u64 0,.int .u64 0,.int .u64 0,.int .u64 0,.int .u64 0,.int .u64 0,.int .u64 0,.int .u64 0,.int .u64 0,.int .u64 0,.int .u64 0,.int .u64 0,.int .u64 0,.int .u64 0,.int .u64 0,.int .i64 0]=zdc (tab 25 fun _=>0#64) 0:=rfl
theorem zRk (L:Lim) (h:zab) (c:Bool) (ps:List (zaa × List Int)) (hn:ps.length < 1000000) (hr:∀ p∈ps,RdI h .u8 p.1 p.2∧p.2.length < 200000000000):
    zag ctx L zjL [.vsl c (ps.map fun p=>[p.1])] h=some (.agg (cI .u8 (zC0 (msg ps))),h):=by
  rw [zws]
  simp [zqj,zG1,zjs,zak]
  generalize hF:run ctx _ (.loop _) _ _=R
  obtain ⟨fr',q,rfl,q1,q2,q3,hk⟩:=zKI _ ps hn hr hF (by simp) (by simp) (by simp) (by simp)
  have hs:zag ctx ⟨h.blks.length,h.toks.length,h.blks.length,h.toks.length⟩ zeP [pA h.blks.length 1 0] (hx h [cI .u8 (tab 32 fun _=>0),zdc q.1 q.2] [])=some (.agg (cI .u8 (zRf q)),hx h [cI .u8 (tab 32 fun _=>0),zdc q.1 q.2] []):=zRg ⟨h.blks.length,h.toks.length,h.blks.length,h.toks.length⟩ (hx h [cI .u8 (tab 32 fun _=>0),zdc q.1 q.2] []) (h.blks.length+1) q q2 q3 (zoI [] (by simp))
  have hl:(zRf q).length=32:=by simp [zRf,zfv,q2]
  simp [hk,wr,zgA,zbM,hs,zbp,hl,zai,zaj,zC0,← q1]
end Go.Av
