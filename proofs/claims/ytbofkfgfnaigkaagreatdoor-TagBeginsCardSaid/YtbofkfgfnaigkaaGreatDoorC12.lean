/- The document's permutation of bytes, bit by bit, is that of the words. -/
import Derived.Test.YtbofkfgfnaigkaaGreatDoorC11
import Derived.KernelRfl
import Derived.Test.YtbofkfgfnaigkaaGreatDoorC2
set_option linter.unusedSimpArgs false
set_option linter.unusedVariables false
set_option maxHeartbeats 2000000
set_option maxRecDepth 20000
namespace Go.Av
def bit (l:List W64) (j:Nat):Bool:=(gd l 0#64 (j / 320+5*(j / 64 % 5))).getLsbD (j % 64)
def za0 (l:List W64):List Bool:=tab 1600 (bit l)
@[simp] theorem zUL (l:List W64):(za0 l).length=1600:=by simp [za0]
theorem zf9 (l:List W64) (x y z:Nat) (hx:x < 5) (hy:y < 5) (hz:z < 64):bit l (x*320+y*64+z)=(gd l 0#64 (x+5*y)).getLsbD z:=by
  unfold bit
  rw [show (x*320+y*64+z) / 320=x by omega,show (x*320+y*64+z) / 64 % 5=y by omega,show (x*320+y*64+z) % 64=z by omega]
theorem zz7 (l:List W64) (x y z:Nat) (hx:x < 5) (hy:y < 5) (hz:z < 64):gd (za0 l) false (x*320+y*64+z)=(gd l 0#64 (x+5*y)).getLsbD z:=by
  unfold za0;rw [zbz (by omega),zf9 l x y z hx hy hz]
def owP (i z j:Nat):Prop:=j / 320+5*(j / 64 % 5) < i∨j / 320+5*(j / 64 % 5)=i∧j % 64 < z
instance (i z j:Nat):Decidable (owP i z j):=by unfold owP;exact inferInstance
def owT (l:List W64) (i z:Nat):List Bool:=tab 1600 fun j=>if owP i z j then bit l j else false
@[simp] theorem zXk (l:List W64) (i z:Nat):(owT l i z).length=1600:=by simp [owT]
theorem zN9 (l : List W64) : owT l 0 0 = tab 1600 fun _ => false := zaN fun j hj => by
  have:¬owP 0 0 j:=by unfold owP;omega
  rw [if_neg this]
theorem zOb (l : List W64) (i : Nat) : owT l i 64 = owT l (i + 1) 0 := zaN fun j hj => by
  by_cases h:owP i 64 j
  · have h2 : owP (i + 1) 0 j := by unfold owP at *; omega
    rw [if_pos h,if_pos h2]
  · have h2 : ¬ owP (i + 1) 0 j := by unfold owP at *; omega
    rw [if_neg h,if_neg h2]
theorem zRu (l : List W64) : owT l 25 0 = za0 l := zaN fun j hj => by
  have:owP 25 0 j:=by unfold owP;omega
  rw [if_pos this]
theorem zSB {j:Nat} (hj:j < 1600):∃ x y z,x < 5∧y < 5∧z < 64∧j=x*320+y*64+z:=⟨j / 320,j / 64 % 5,j % 64,by omega,by omega,by omega,by omega⟩
theorem zCk (i k x y z:Nat) (hx:x < 5) (hy:y < 5) (hz:z < 64):owP i k (x*320+y*64+z)↔x+5*y < i∨x+5*y=i∧z < k:=by
  unfold owP
  rw [show (x*320+y*64+z) / 320=x by omega,show (x*320+y*64+z) / 64 % 5=y by omega,show (x*320+y*64+z) % 64=z by omega]
theorem zRw (l:List W64) (i z:Nat) (hi:i < 25) (hz:z < 64):(owT l i z).set (i % 5*320+i / 5*64+z) ((gd l 0#64 i).getLsbD z)=owT l i (z+1):=by
  unfold owT
  rw [zlr]
  refine zaN fun j hj=>?_
  have hx5:i % 5 < 5:=by omega
  have hy5:i / 5 < 5:=by omega
  have hi2:i % 5+5*(i / 5)=i:=by omega
  generalize i % 5=p at*
  generalize i / 5=q at*
  obtain ⟨x,y,c,hx,hy,hc,rfl⟩:=zSB hj
  by_cases h:x*320+y*64+c=p*320+q*64+z
  · have e1 : x = p := by omega
    have e2:y=q:=by omega
    have e3:c=z:=by omega
    subst e1 e2 e3
    have h2:owP i (c+1) (x*320+y*64+c):=(zCk _ _ _ _ _ hx hy hc).2 (by omega)
    rw [if_pos rfl,if_pos h2,zf9 l _ _ _ hx hy hc,hi2]
  · rw [if_neg h]
    by_cases h1:x+5*y < i∨x+5*y=i∧c < z
    · rw [if_pos ((zCk _ _ _ _ _ hx hy hc).2 h1),if_pos ((zCk _ _ _ _ _ hx hy hc).2 (by omega))]
    · rw [if_neg (fun h=>h1 ((zCk _ _ _ _ _ hx hy hc).1 h)),if_neg (fun h2=>by have:=(zCk _ _ _ _ _ hx hy hc).1 h2;omega)]
theorem zRx (x:W64):zdj .rem (wd x) (.int .u64 2)=some (wd (x % 2#64)):=by
  unfold wd
  rw [zbs _ _ _ (by decide),BitVec.toNat_umod]
  exact congrArg (fun n=>some (zaa.int .u64 n)) (zoA x.toNat 2)
theorem zKW (x:W64):zdj .rem (wd x) (.int .u64 256)=some (wd (x % 256#64)):=by
  unfold wd
  rw [zbs _ _ _ (by decide),BitVec.toNat_umod]
  exact congrArg (fun n=>some (zaa.int .u64 n)) (zoA x.toNat 256)
theorem zRy (x:W64):zdj .quo (wd x) (.int .u64 2)=some (wd (x >>> 1)):=by
  unfold wd
  rw [zc9 _ _ _ (by decide),BitVec.toNat_ushiftRight,zRT,zxk _ (by have:=x.isLt;omega),Nat.shiftRight_eq_div_pow]
theorem zKX (x:W64):zdj .quo (wd x) (.int .u64 256)=some (wd (x >>> 8)):=by
  unfold wd
  have:(x.toNat:Int).tdiv 256=((x.toNat / 256:Nat):Int):=zuB x.toNat 256
  rw [zc9 _ _ _ (by decide),BitVec.toNat_ushiftRight,this,zxk _ (by have:=x.isLt;omega),Nat.shiftRight_eq_div_pow]
theorem zUS (x y:W64):zdj .eql (wd x) (wd y)=some (.bool (x==y)):=by
  unfold wd
  rw [zqr]
  congr 2
  rw [Bool.eq_iff_iff]
  simp only [beq_iff_eq]
  constructor
  · intro h;exact BitVec.eq_of_toNat_eq (by exact_mod_cast h)
  · intro h;rw [h]
theorem zRB (x:W64):(x % 2#64==1#64)=x.getLsbD 0:=by
  rw [Bool.eq_iff_iff,beq_iff_eq]
  have h2:(x % 2#64).toNat=x.toNat % 2:=by rw [BitVec.toNat_umod];rfl
  constructor
  · intro h
    have:x.toNat % 2=1:=by rw [← h2,h];rfl
    simp [BitVec.getLsbD,Nat.testBit,this]
  · intro h
    have:x.toNat % 2=1:=by
      simpa [BitVec.getLsbD,Nat.testBit] using h
    apply BitVec.eq_of_toNat_eq
    rw [h2,this];rfl
theorem zRC (x:W64) (z:Nat):(x >>> z).getLsbD 0=x.getLsbD z:=by simp
theorem zG5 {fr:Fr} {h:zab} {R:Option (AEx × Fr × zab)} (l:List W64) (b:List zaa) (i:Nat) (hi:i < 25)
    (hF:run ctx (zak h) (.loop zbb) fr (hx h [b,cB (owT l i 0)] [])=R)
    (h3:fr 3=pA h.blks.length 1 0) (h4:fr 4=.int .i64 i) (h5:fr 5=wd (gd l 0#64 i)) (h6:fr 6=.int .i64 0):
    ∃ fr',R=some (.exit 2,fr',hx h [b,cB (owT l i 64)] [])∧∀ t,t∉wr zbb→fr' t=fr t:=by
  obtain ⟨e,fr',h',rfl,⟨rfl,rfl⟩,hk⟩:=zaf hF 64
    (fun k fr hh=>fr 6=.int .i64 k∧fr 5=wd (gd l 0#64 i >>> k)∧hh=hx h [b,cB (owT l i k)] [])
    (fun e fr hh=>e=.exit 2∧hh=hx h [b,cB (owT l i 64)] [])
    ⟨h6, by simpa using h5, rfl⟩ (by
      rintro k fr1 hh hkN hkeep ⟨g6,g5,rfl⟩
      have g3:=(hkeep 3 (by decide)).trans h3
      have g4:=(hkeep 4 (by decide)).trans h4
      by_cases hlt:k < 64
      · have w1 : IntKind.i64.wrap ((k : Int) + 1) = k + 1 := wrap_i64 (by omega) (by omega)
        have hset:=zRw l i k hi hlt
        rw [← zRC,← zRB] at hset
        have t1:=zra i
        have t2:(i:Int).tdiv 5=((i / 5:Nat):Int):=zuB i 5
        have t3:=zfQ (i / 5) (by omega)
        have hx5:i % 5 < 5:=by omega
        have hy5:i / 5 < 5:=by omega
        have hidx:i % 5*320+i / 5*64+k+1≤1600:=by omega
        generalize i % 5=x at*
        generalize i / 5=y at*
        have he:=zUS (gd l 0#64 i >>> k % 2#64) 1#64
        have hs1:gd l 0#64 i >>> k >>> 1=gd l 0#64 i >>> (k+1):=by rw [← BitVec.shiftRight_add]
        have he1:zaa.int .u64 1=wd 1#64:=rfl
        generalize hw1:gd l 0#64 i >>> (k+1)=w1' at*
        generalize gd l 0#64 i >>> k=w at*
        simp [zbb,zak,g6,g5,g3,g4,hlt,show (k:Int) < 64 by omega,w1,zRx,zRy,he1,he,hs1,zbs,zc9,t1,t2,t3,zaP,hx5,hy5,hset,hidx,hw1]
      · have : k = 64 := by omega
        subst this
        simp [zbb,g6])
  exact ⟨fr',rfl,hk⟩
end Go.Av
namespace Go.Av
theorem zRF {fr:Fr} {h:zab} {R:Option (AEx × Fr × zab)} (l:List W64) (hl:l.length=25) (b:List zaa)
    (hF:run ctx (zak h) (.loop zbF) fr (hx h [b,cB (owT l 0 0)] [])=R)
    (h1:fr 1=.vptr (cW l) 0) (h3:fr 3=pA h.blks.length 1 0) (h4:fr 4=.int .i64 0):
    ∃ fr',R=some (.exit 0,fr',hx h [b,cB (za0 l)] [])∧∀ t,t∉wr zbF→fr' t=fr t:=by
  obtain ⟨e,fr',h',rfl,⟨rfl,rfl⟩,hk⟩:=zaf hF 25
    (fun k fr hh=>fr 4=.int .i64 k∧hh=hx h [b,cB (owT l k 0)] [])
    (fun e fr hh=>e=.exit 0∧hh=hx h [b,cB (za0 l)] [])
    ⟨h4,rfl⟩ (by
      rintro k fr1 hh hkN hkeep ⟨g4,rfl⟩
      have g3:=(hkeep 3 (by decide)).trans h3
      have g1:=(hkeep 1 (by decide)).trans h1
      by_cases hlt:k < 25
      · have w1 : IntKind.i64.wrap ((k : Int) + 1) = k + 1 := wrap_i64 (by omega) (by omega)
        simp [zbF,g4,g3,g1,hlt,show (k:Int) < 25 by omega,ze6,hl]
        generalize hF:run ctx _ (.loop _) _ _=R
        obtain ⟨fr2,rfl,q2⟩:=zG5 l b k hlt hF (by simp [g3]) (by simp [g4]) (by simp) (by simp)
        simp [q2,wr,zbb,zbM,g4,w1,zOb]
        try exact hlt
      · have : k = 25 := by omega
        subst this
        simp [zbF,g4,zRu])
  exact ⟨fr',rfl,hk⟩
theorem zG6 (L:Lim) (h:zab) (l:List W64) (hl:l.length=25):zag ctx L zea [.agg (cW l)] h=some (.agg (cB (za0 l)),h):=by
  rw [znK]
  simp [zgj,zak,zkh,zaj,hl,zaA,zbp,zai,← zN9 l]
  generalize hF:run ctx _ (.loop _) _ _=R
  obtain ⟨fr1,rfl,hk1⟩:=zRF l hl _ hF (by simp) (by simp) (by simp)
  simp [hk1,wr,zbb,zbF,zbM,zaj,zbp,zai]
theorem zG7 {fr:Fr} {h:zab} {R:Option (AEx × Fr × zab)} (l:List W64) (H:zab) (i:Nat) (hi:i < 25)
    (hF:run ctx (zak h) (.loop za9) fr H=R)
    (h1:fr 1=.vptr (cB (za0 l)) 0) (h4:fr 4=.int .i64 i) (h5:fr 5=wd 0#64) (h6:fr 6=.int .i64 63):
    ∃ fr',R=some (.exit 2,fr',H)∧fr' 5=wd (gd l 0#64 i)∧∀ t,t∉wr za9→fr' t=fr t:=by
  obtain ⟨e,fr',h',rfl,⟨rfl,rfl,h5'⟩,hk⟩:=zaf hF 64
    (fun k fr hh=>fr 6=.int .i64 (63 - (k:Int))∧fr 5=wd (gd l 0#64 i >>> (64 - k))∧hh=H)
    (fun e fr hh=>e=.exit 2∧hh=H∧fr 5=wd (gd l 0#64 i))
    ⟨h6,by
      rw [h5];congr 1;apply BitVec.eq_of_toNat_eq
      rw [BitVec.toNat_ushiftRight,Nat.shiftRight_eq_div_pow,Nat.div_eq_of_lt (by have:=(gd l 0#64 i).isLt;simpa using this)];rfl,rfl⟩ (by
      rintro k fr1 hh hkN hkeep ⟨g6,g5,rfl⟩
      have g1:=(hkeep 1 (by decide)).trans h1
      have g4:=(hkeep 4 (by decide)).trans h4
      by_cases hlt:k < 64
      · obtain ⟨z,hz⟩:∃ z:Nat,z=63 - k:=⟨_,rfl⟩
        have hz64:z < 64:=by omega
        have g6':fr1 6=.int .i64 (z:Int):=by rw [g6];congr 1;omega
        have w1:IntKind.i64.wrap ((z:Int) - 1)=63 - ((k+1:Nat):Int):=(wrap_i64 (by omega) (by omega)).trans (by omega)
        have t1:=zra i
        have t2:(i:Int).tdiv 5=((i / 5:Nat):Int):=zuB i 5
        have t3:=zfQ (i / 5) (by omega)
        have hx5:i % 5 < 5:=by omega
        have hy5:i / 5 < 5:=by omega
        have hb:=zz7 l (i % 5) (i / 5) z hx5 hy5 hz64
        rw [show i % 5+5*(i / 5)=i by omega] at hb
        generalize i % 5=x at*
        generalize i / 5=y at*
        have hidx:x*320+y*64+z < 1600:=by omega
        have g5':fr1 5=wd (gd l 0#64 i >>> (z+1)):=by rw [g5];congr 2;omega
        have hnext:gd l 0#64 i >>> (64 - (k+1))=gd l 0#64 i >>> z:=by congr 1;omega
        have hm2:zaa.int .u64 2=wd 2#64:=rfl
        have hm1:zaa.int .u64 1=wd 1#64:=rfl
        have hdbl:gd l 0#64 i >>> (z+1)*2#64+(if (gd l 0#64 i).getLsbD z then 1#64 else 0#64)=gd l 0#64 i >>> z:=by
          generalize gd l 0#64 i=w
          have h1:(w >>> (z+1))*2#64=(w >>> (z+1)) <<< 1:=by
            rw [BitVec.shiftLeft_eq_mul_twoPow];rfl
          have h0:∀ (b:Bool),(w >>> (z+1)) <<< 1+(if b then 1#64 else 0#64)=(w >>> (z+1)) <<< 1|||(if b then 1#64 else 0#64):=by
            intro b
            apply BitVec.add_eq_or_of_and_eq_zero
            apply BitVec.eq_of_getLsbD_eq
            intro j hj
            cases b <;> cases j <;> simp
          rw [h1,h0]
          apply BitVec.eq_of_getLsbD_eq
          intro j hj
          cases j with
          | zero=>cases hb:w.getLsbD z <;> simp [hb]
          | succ j=>cases hb:w.getLsbD z <;> simp [Nat.add_assoc,Nat.add_comm,Nat.add_left_comm] <;> omega
        cases hbz:(gd l 0#64 i).getLsbD z
        · rw [hbz] at hb hdbl
          simp at hdbl
          generalize gd l 0#64 i >>> (z+1)=w at*
          simp [za9,g6',g5',g1,g4,show (0:Int)≤z by omega,hm2,hm1,t1,t2,t3,zbs,zc9,ze6,hx5,hy5,hz64,hidx,hb,w1,hdbl,hlt,hnext]
          rw [hz]
        · rw [hbz] at hb hdbl
          simp at hdbl
          generalize gd l 0#64 i >>> (z+1)=w at*
          simp [za9,g6',g5',g1,g4,show (0:Int)≤z by omega,hm2,hm1,t1,t2,t3,zbs,zc9,ze6,hx5,hy5,hz64,hidx,hb,w1,hdbl,hlt,hnext]
          rw [hz]
      · have : k = 64 := by omega
        subst this
        simp [za9,g6]
        rw [g5];simp)
  exact ⟨fr',rfl,h5',hk⟩
theorem zRq {fr:Fr} {h:zab} {R:Option (AEx × Fr × zab)} (l:List W64) (hl:l.length=25) (b:List zaa)
    (hF:run ctx (zak h) (.loop zcs) fr (hx h [b,cW (tab 25 fun _=>0#64)] [])=R)
    (h1:fr 1=.vptr (cB (za0 l)) 0) (h3:fr 3=pA h.blks.length 1 0) (h4:fr 4=.int .i64 0):
    ∃ fr',R=some (.exit 0,fr',hx h [b,cW l] [])∧∀ t,t∉wr zcs→fr' t=fr t:=by
  obtain ⟨e,fr',h',rfl,⟨rfl,rfl⟩,hk⟩:=zaf hF 25
    (fun k fr hh=>fr 4=.int .i64 k∧hh=hx h [b,cW (za6 25 (gd l 0#64) (fun _=>0#64) k)] [])
    (fun e fr hh=>e=.exit 0∧hh=hx h [b,cW l] [])
    ⟨h4, by rw [zcc]⟩ (by
      rintro k fr1 hh hkN hkeep ⟨g4,rfl⟩
      have g3:=(hkeep 3 (by decide)).trans h3
      have g1:=(hkeep 1 (by decide)).trans h1
      by_cases hlt:k < 25
      · have w1 : IntKind.i64.wrap ((k : Int) + 1) = k + 1 := wrap_i64 (by omega) (by omega)
        have hm0:zaa.int .u64 0=wd 0#64:=rfl
        simp [zcs,g4,g3,g1,hlt,show (k:Int) < 25 by omega,hm0]
        generalize hF:run ctx _ (.loop _) _ _=R
        obtain ⟨fr2,rfl,q1,q2⟩:=zG7 l _ k hlt hF (by simp [g1]) (by simp [g4]) (by simp) (by simp)
        simp [q1,q2,wr,za9,zbM,g4,g3,w1,zaP,hlt,zak,show k≤24 by omega,zdn]
      · have : k = 25 := by omega
        subst this
        simp [zcs,g4,zft,← zot 0#64 hl])
  exact ⟨fr',rfl,hk⟩
theorem zG8 (L:Lim) (h:zab) (l:List W64) (hl:l.length=25):zag ctx L zfg [.agg (cB (za0 l))] h=some (.agg (cW l),h):=by
  rw [zpj]
  simp [zhJ,zak,zaI,zaj,hl,zaA,zbp,zai]
  generalize hF:run ctx _ (.loop _) _ _=R
  obtain ⟨fr1,rfl,hk1⟩:=zRq l hl _ hF (by simp) (by simp) (by simp)
  simp [hk1,wr,za9,zcs,zbM,zaj,zbp,zai,hl]
def piK (l:List W64):Nat→List W64
  | 0=>tab 25 fun _=>0#64
  | k+1=>(piK l k).set (k % 5+5*((2*(k / 5)+3*(k % 5)) % 5)) (gd l 0#64 (k / 5+5*(k % 5)))
def piL (l:List W64):List W64:=piK l 25
@[simp] theorem zK5 (l:List W64):∀ k,(piK l k).length=25
  | 0=>by simp [piK]
  | k+1=>by simp [piK,zK5 l k]
theorem zCo : tab 1600 (fun _ => false) = za0 (tab 25 fun _ => 0#64) := zaN fun j hj => by
  obtain ⟨x,y,z,hx,hy,hz,rfl⟩:=zSB hj
  rw [zf9 _ _ _ _ hx hy hz,zbz (by omega)];simp
theorem zCp (l m:List W64) (hl:l.length=25) (x y p q:Nat) (hx:x < 5) (hy:y < 5) (hp:p < 5) (hq:q < 5):
    setAt (cB (za0 l)) (x*320+y*64) (cB (((za0 m).drop (p*320+q*64)).take 64))=cB (za0 (l.set (x+5*y) (gd m 0#64 (p+5*q)))):=by
  have e1:cB (za0 l)=tab 1600 (fun j=>.bool (bit l j)):=by unfold cB za0;rw [zuw]
  have e2 : cB (((za0 m).drop (p * 320 + q * 64)).take 64) = tab 64 (fun j => .bool (bit m (p * 320 + q * 64 + j))) := by
    unfold cB za0;rw [zor _ _ _ _ (by omega),zuw]
  rw [e1,e2,zKT _ _ _ _ _ (by omega)]
  unfold cB za0
  rw [zuw]
  refine zaN fun j hj=>?_
  obtain ⟨a,b,c,ha,hb,hc,rfl⟩:=zSB hj
  by_cases h:a=x∧b=y
  · obtain ⟨rfl,rfl⟩:=h
    rw [if_pos ⟨by omega,by omega⟩,show a*320+b*64+c - (a*320+b*64)=c by omega,zf9 m _ _ _ hp hq hc,zf9 (l.set _ _) _ _ _ ha hb hc]
    congr 2
    unfold gd
    simp [List.getD,hl,show a+5*b < 25 by omega]
  · rw [if_neg (by omega), zf9 l _ _ _ ha hb hc, zf9 (l.set _ _) _ _ _ ha hb hc]
    congr 2
    unfold gd
    have:¬x+5*y=a+5*b:=by omega
    simp [List.getD,List.getElem?_set,this]
theorem zHc {fr:Fr} {h:zab} {R:Option (AEx × Fr × zab)} (l:List W64) (b:List zaa) (x:Nat) (hx5:x < 5)
    (hF:run ctx (zak h) (.loop zcB) fr (hx h [b,cB (za0 (piK l (5*x)))] [])=R)
    (h1:fr 1=.vptr (cB (za0 l)) 0) (h3:fr 3=pA h.blks.length 1 0) (h4:fr 4=.int .i64 x) (h5:fr 5=.int .i64 0):
    ∃ fr',R=some (.exit 2,fr',hx h [b,cB (za0 (piK l (5*(x+1))))] [])∧∀ t,t∉wr zcB→fr' t=fr t:=by
  obtain ⟨e,fr',h',rfl,⟨rfl,rfl⟩,hk⟩:=zaf hF 5
    (fun k fr hh=>fr 5=.int .i64 k∧hh=hx h [b,cB (za0 (piK l (5*x+k)))] [])
    (fun e fr hh=>e=.exit 2∧hh=hx h [b,cB (za0 (piK l (5*(x+1))))] [])
    ⟨h5,rfl⟩ (by
      rintro k fr1 hh hkN hkeep ⟨g5,rfl⟩
      have g1:=(hkeep 1 (by decide)).trans h1
      have g3:=(hkeep 3 (by decide)).trans h3
      have g4:=(hkeep 4 (by decide)).trans h4
      by_cases hlt:k < 5
      · have w1 : IntKind.i64.wrap ((k : Int) + 1) = k + 1 := wrap_i64 (by omega) (by omega)
        have w6:IntKind.i64.wrap (2*(x:Int))=((2*x:Nat):Int):=by
          rw [← zfQ (2*x) (by omega)];simp only [Int.natCast_mul,Int.natCast_add,Int.cast_ofNat_Int]
        have w7:IntKind.i64.wrap (3*(k:Int))=((3*k:Nat):Int):=by
          rw [← zfQ (3*k) (by omega)];simp only [Int.natCast_mul,Int.natCast_add,Int.cast_ofNat_Int]
        have w8:IntKind.i64.wrap (((2*x:Nat):Int)+((3*k:Nat):Int))=((2*x+3*k:Nat):Int):=by
          rw [← zfQ (2*x+3*k) (by omega)];simp only [Int.natCast_mul,Int.natCast_add,Int.cast_ofNat_Int]
        have w9:=zra (2*x+3*k)
        have hst:piK l (5*x+k+1)=(piK l (5*x+k)).set (k+5*((2*x+3*k) % 5)) (gd l 0#64 (x+5*k)):=by
          rw [piK,show (5*x+k) % 5=k by omega,show (5*x+k) / 5=x by omega]
        have hn5:(2*x+3*k) % 5 < 5:=by omega
        have hbl:=zCp (piK l (5*x+k)) l (zK5 _ _) k ((2*x+3*k) % 5) x k hlt hn5 hx5 hlt
        rw [← hst] at hbl
        generalize (2*x+3*k) % 5=n at*
        generalize 2*x+3*k=xy at*
        generalize 2*x=x2 at*
        generalize 3*k=k3 at*
        have hi1:x*320+k*64+64≤1600:=by omega
        have hi2:k*320+n*64+64≤1600:=by omega
        generalize piK l (5*x+k)=m at*
        have hmin:min 64 (1600 - (x*320+k*64))=64:=by omega
        have hm1:5*x+(k+1)=5*x+k+1:=rfl
        simp [zcB,zak,g5,g1,g3,g4,hlt,show (k:Int) < 5 by omega,w1,w6,w7,w8,w9,zbs,zaP,ze6,hx5,hn5,hmin,zFa,hi1,hi2,zbp,hbl,hm1]
      · have : k = 5 := by omega
        subst this
        simp [zcB,g5,Nat.mul_add])
  exact ⟨fr',rfl,hk⟩
end Go.Av
namespace Go.Av
theorem zRN {fr:Fr} {h:zab} {R:Option (AEx × Fr × zab)} (l:List W64) (b:List zaa)
    (hF:run ctx (zak h) (.loop zdv) fr (hx h [b,cB (za0 (piK l 0))] [])=R)
    (h1:fr 1=.vptr (cB (za0 l)) 0) (h3:fr 3=pA h.blks.length 1 0) (h4:fr 4=.int .i64 0):
    ∃ fr',R=some (.exit 0,fr',hx h [b,cB (za0 (piL l))] [])∧∀ t,t∉wr zdv→fr' t=fr t:=by
  obtain ⟨e,fr',h',rfl,⟨rfl,rfl⟩,hk⟩:=zaf hF 5
    (fun k fr hh=>fr 4=.int .i64 k∧hh=hx h [b,cB (za0 (piK l (5*k)))] [])
    (fun e fr hh=>e=.exit 0∧hh=hx h [b,cB (za0 (piL l))] [])
    ⟨h4,rfl⟩ (by
      rintro k fr1 hh hkN hkeep ⟨g4,rfl⟩
      have g3:=(hkeep 3 (by decide)).trans h3
      have g1:=(hkeep 1 (by decide)).trans h1
      by_cases hlt:k < 5
      · have w1 : IntKind.i64.wrap ((k : Int) + 1) = k + 1 := wrap_i64 (by omega) (by omega)
        simp [zdv,g4,g3,g1,hlt,show (k:Int) < 5 by omega]
        generalize hF:run ctx _ (.loop _) _ _=R
        obtain ⟨fr2,rfl,q2⟩:=zHc l b k hlt hF (by simp [g1]) (by simp [g3]) (by simp [g4]) (by simp)
        simp [q2,wr,zcB,zbM,g4,w1]
        exact hlt
      · have : k = 5 := by omega
        subst this
        simp [zdv,g4,piL])
  exact ⟨fr',rfl,hk⟩
theorem zU1 (L:Lim) (h:zab) (l:List W64):zag ctx L zhc [.agg (cB (za0 l))] h=some (.agg (cB (za0 (piL l))),h):=by
  rw [zrW]
  have e0:za0 (tab 25 fun _=>0#64)=za0 (piK l 0):=rfl
  simp [zj8,zak,zkh,zCo,e0,zaj,zaA,zbp,zai]
  generalize hF:run ctx _ (.loop _) _ _=R
  obtain ⟨fr1,rfl,hk1⟩:=zRN l _ hF (by simp) (by simp) (by simp)
  simp [hk1,wr,zcB,zdv,zbM,zaj,zbp,zai]
theorem zFw (v:W64) (r c:Nat) (hc:c < 64):(rotl v r).getLsbD c=v.getLsbD ((c+64 - r % 64) % 64):=by
  unfold rotl
  have hs:r % 64 < 64:=by omega
  generalize r % 64=s at*
  rw [BitVec.getLsbD_or,BitVec.getLsbD_shiftLeft,BitVec.getLsbD_ushiftRight]
  by_cases h:c < s
  · simp [h,show 64 - s+c=c+64 - s by omega,Nat.mod_eq_of_lt (show c+64 - s < 64 by omega)]
  · have e1 : (c + 64 - s) % 64 = c - s := by omega
    have e2:v.getLsbD (64 - s+c)=false:=BitVec.getLsbD_of_ge _ _ (by omega)
    simp [h,e1,e2,hc]
def zLc (l:List W64):Nat→List W64
  | 0=>(tab 25 fun _=>0#64).set 0 (gd l 0#64 0)
  | t+1=>(zLc l t).set ((pxy t).1+5*(pxy t).2) (rotl (gd l 0#64 ((pxy t).1+5*(pxy t).2)) ((t+1)*(t+2) / 2))
def zU3 (l:List W64):List W64:=zLc l 24
@[simp] theorem zOn (l:List W64):∀ k,(zLc l k).length=25
  | 0=>by simp [zLc]
  | k+1=>by simp [zLc,zOn l k]
def zCt (m:List W64) (v:W64) (x y r k:Nat):List Bool:=tab 1600 fun j=>if j / 64=x*5+y∧(j % 64+64 - r % 64) % 64 < k then v.getLsbD ((j % 64+64 - r % 64) % 64) else bit m j
@[simp] theorem zU7 (m:List W64) (v:W64) (x y r k:Nat):(zCt m v x y r k).length=1600:=by simp [zCt]
theorem zHf (m:List W64) (v:W64) (x y r:Nat):zCt m v x y r 0=za0 m:=zaN fun j hj=>by simp
theorem zHG (m : List W64) (hm : m.length = 25) (v : W64) (x y r : Nat) (hx : x < 5) (hy : y < 5) : zCt m v x y r 64 = za0 (m.set (x + 5 * y) (rotl v r)) := zaN fun j hj => by
  obtain ⟨a,b,c,ha,hb,hc,rfl⟩:=zSB hj
  rw [show (a*320+b*64+c) / 64=a*5+b by omega,show (a*320+b*64+c) % 64=c by omega,zf9 _ _ _ _ ha hb hc,zf9 _ _ _ _ ha hb hc]
  by_cases h:a=x∧b=y
  · obtain ⟨rfl,rfl⟩:=h
    rw [if_pos ⟨rfl,Nat.mod_lt _ (by decide)⟩]
    have:gd (m.set (a+5*b) (rotl v r)) 0#64 (a+5*b)=rotl v r:=by
      unfold gd;simp [List.getD,hm,show a+5*b < 25 by omega]
    rw [this,zFw _ _ _ hc]
  · rw [if_neg (by omega)]
    congr 1
    unfold gd
    have:¬x+5*y=a+5*b:=by omega
    simp [List.getD,List.getElem?_set,this]
theorem zHH (m:List W64) (v:W64) (x y r z:Nat) (hx:x < 5) (hy:y < 5) (hz:z < 64):(zCt m v x y r z).set (x*320+y*64+(z+r) % 64) (v.getLsbD z)=zCt m v x y r (z+1):=by
  unfold zCt
  rw [zlr]
  refine zaN fun j hj=>?_
  obtain ⟨a,b,c,ha,hb,hc,rfl⟩:=zSB hj
  rw [show (a*320+b*64+c) / 64=a*5+b by omega,show (a*320+b*64+c) % 64=c by omega]
  have hq:(z+r) % 64=(z+r % 64) % 64:=by omega
  rw [hq]
  have hs:r % 64 < 64:=by omega
  generalize r % 64=s at*
  by_cases h:a*320+b*64+c=x*320+y*64+(z+s) % 64
  · have e1 : (c + 64 - s) % 64 = z := by omega
    rw [if_pos h,e1,if_pos ⟨by omega,by omega⟩]
  · rw [if_neg h]
    by_cases h2:a*5+b=x*5+y∧(c+64 - s) % 64 < z
    · rw [if_pos h2,if_pos ⟨h2.1,by omega⟩]
    · rw [if_neg h2,if_neg (by omega)]
theorem zC4 {fr:Fr} {h:zab} {R:Option (AEx × Fr × zab)} (l m:List W64) (b:List zaa) (x y t:Nat) (hx5:x < 5) (hy5:y < 5) (ht:t < 24) (v:W64) (hv:v=gd l 0#64 (x+5*y)) (r:Nat) (hr:r=(t+1)*(t+2) / 2)
    (hF:run ctx (zak h) (.loop zb8) fr (hx h [b,cB (za0 m)] [])=R) (hm:m.length=25)
    (h1:fr 1=.vptr (cB (za0 l)) 0) (h3:fr 3=pA h.blks.length 1 0) (h4:fr 4=.int .i64 x) (h5:fr 5=.int .i64 y) (h6:fr 6=.int .i64 t) (h7:fr 7=.int .i64 0):
    ∃ fr',R=some (.exit 2,fr',hx h [b,cB (za0 (m.set (x+5*y) (rotl v r)))] [])∧∀ t,t∉wr zb8→fr' t=fr t:=by
  have hmul:(t+1)*(t+2)≤600:=Nat.le_trans (Nat.mul_le_mul (show t+1≤24 by omega) (show t+2≤25 by omega)) (by decide)
  obtain ⟨e,fr',h',rfl,⟨rfl,rfl⟩,hk⟩:=zaf hF 64
    (fun k fr hh=>fr 7=.int .i64 k∧hh=hx h [b,cB (zCt m v x y r k)] [])
    (fun e fr hh=>e=.exit 2∧hh=hx h [b,cB (za0 (m.set (x+5*y) (rotl v r)))] [])
    ⟨h7, by rw [zHf]⟩ (by
      rintro k fr1 hh hkN hkeep ⟨g7,rfl⟩
      have g1:=(hkeep 1 (by decide)).trans h1
      have g3:=(hkeep 3 (by decide)).trans h3
      have g4:=(hkeep 4 (by decide)).trans h4
      have g5:=(hkeep 5 (by decide)).trans h5
      have g6:=(hkeep 6 (by decide)).trans h6
      by_cases hlt:k < 64
      · have w0 : IntKind.i64.wrap ((k : Int) + 1) = k + 1 := wrap_i64 (by omega) (by omega)
        have w1:IntKind.i64.wrap ((t:Int)+1)=t+1:=wrap_i64 (by omega) (by omega)
        have w2:IntKind.i64.wrap ((t:Int)+2)=t+2:=wrap_i64 (by omega) (by omega)
        have w3:IntKind.i64.wrap (((t:Int)+1)*(t+2))=(((t+1)*(t+2):Nat):Int):=by
          rw [← zfQ ((t+1)*(t+2)) (by omega)];simp only [Int.natCast_mul,Int.natCast_add,Int.cast_ofNat_Int]
        have w4:=zRT ((t+1)*(t+2))
        rw [← hr] at w4
        have hr300:r≤300:=by omega
        have w5:=zfQ r (by omega)
        have w6:IntKind.i64.wrap ((k:Int)+(r:Int))=((k+r:Nat):Int):=by
          rw [← zfQ (k+r) (by omega)];simp only [Int.natCast_mul,Int.natCast_add,Int.cast_ofNat_Int]
        have w7:((k+r:Nat):Int).tmod 64=(((k+r) % 64:Nat):Int):=zoA (k+r) 64
        have hq64:(k+r) % 64 < 64:=Nat.mod_lt _ (by decide)
        have hset:=zHH m v x y r k hx5 hy5 hlt
        have hb:=zz7 l x y k hx5 hy5 hlt
        rw [← hv] at hb
        generalize (k+r) % 64=q at*
        generalize k+r=kr at*
        generalize (t+1)*(t+2)=tt at*
        have hi1:x*320+y*64+k < 1600:=by omega
        have hi2:x*320+y*64+q+1≤1600:=by omega
        simp [-BitVec.getLsbD_eq_getElem,zb8,zak,g7,g1,g3,g4,g5,g6,hlt,show (k:Int) < 64 by omega,w0,w1,w2,w3,w4,w5,w6,w7,zbs,zc9,zaP,ze6,hx5,hy5,hq64,hi1,hi2,hb,hset]
      · have : k = 64 := by omega
        subst this
        simp [zb8,g7,zHG m hm v x y r hx5 hy5])
  exact ⟨fr',rfl,hk⟩
theorem zLM {fr:Fr} {h:zab} {R:Option (AEx × Fr × zab)} (l:List W64) (b:List zaa)
    (hF:run ctx (zak h) (.loop zcU) fr (hx h [b,cB (za0 (zLc l 0))] [])=R)
    (h1:fr 1=.vptr (cB (za0 l)) 0) (h3:fr 3=pA h.blks.length 1 0) (h4:fr 4=.int .i64 1) (h5:fr 5=.int .i64 0) (h6:fr 6=.int .i64 0):
    ∃ fr',R=some (.exit 0,fr',hx h [b,cB (za0 (zU3 l))] [])∧∀ t,t∉wr zcU→fr' t=fr t:=by
  obtain ⟨e,fr',h',rfl,⟨rfl,rfl⟩,hk⟩:=zaf hF 24
    (fun k fr hh=>fr 6=.int .i64 k∧fr 4=.int .i64 ((pxy k).1:Nat)∧fr 5=.int .i64 ((pxy k).2:Nat)∧hh=hx h [b,cB (za0 (zLc l k))] [])
    (fun e fr hh=>e=.exit 0∧hh=hx h [b,cB (za0 (zU3 l))] [])
    ⟨h6,h4,h5,rfl⟩ (by
      rintro k fr1 hh hkN hkeep ⟨g6,g4,g5,rfl⟩
      have g1:=(hkeep 1 (by decide)).trans h1
      have g3:=(hkeep 3 (by decide)).trans h3
      by_cases hlt:k < 24
      · obtain ⟨hx5,hy5⟩:=zJw k
        have hst:zLc l (k+1)=(zLc l k).set ((pxy k).1+5*(pxy k).2) (rotl (gd l 0#64 ((pxy k).1+5*(pxy k).2)) ((k+1)*(k+2) / 2)):=rfl
        have hp:pxy (k+1)=((pxy k).2,(2*(pxy k).1+3*(pxy k).2) % 5):=rfl
        generalize (pxy k).1=x at*
        generalize (pxy k).2=y at*
        have w1:IntKind.i64.wrap ((k:Int)+1)=k+1:=wrap_i64 (by omega) (by omega)
        have w6:IntKind.i64.wrap (2*(x:Int))=((2*x:Nat):Int):=by
          rw [← zfQ (2*x) (by omega)];simp only [Int.natCast_mul,Int.natCast_add,Int.cast_ofNat_Int]
        have w7:IntKind.i64.wrap (3*(y:Int))=((3*y:Nat):Int):=by
          rw [← zfQ (3*y) (by omega)];simp only [Int.natCast_mul,Int.natCast_add,Int.cast_ofNat_Int]
        have w8:IntKind.i64.wrap (((2*x:Nat):Int)+((3*y:Nat):Int))=((2*x+3*y:Nat):Int):=by
          rw [← zfQ (2*x+3*y) (by omega)];simp only [Int.natCast_mul,Int.natCast_add,Int.cast_ofNat_Int]
        have w9:=zra (2*x+3*y)
        generalize (2*x+3*y) % 5=n at*
        generalize 2*x+3*y=xy at*
        generalize 2*x=x2 at*
        generalize 3*y=y3 at*
        simp [zcU,g6,g3,g1,g4,g5,hlt,show (k:Int) < 24 by omega]
        generalize hF:run ctx _ (.loop _) _ _=R
        obtain ⟨fr2,rfl,q2⟩:=zC4 l (zLc l k) b x y k hx5 hy5 hlt _ rfl _ rfl hF (by simp) (by simp [g1]) (by simp [g3]) (by simp [g4]) (by simp [g5]) (by simp [g6]) (by simp)
        simp [q2,wr,zb8,zbM,g6,g4,g5,w1,w6,w7,w8,w9,zbs,← hst,hp]
        exact hlt
      · have : k = 24 := by omega
        subst this
        simp [zcU,g6,zU3])
  exact ⟨fr',rfl,hk⟩
theorem zPr (L:Lim) (h:zab) (l:List W64):zag ctx L zgu [.agg (cB (za0 l))] h=some (.agg (cB (za0 (zU3 l))),h):=by
  rw [zq3]
  have e0:=zCp (tab 25 fun _=>0#64) l (by simp) 0 0 0 0 (by decide) (by decide) (by decide) (by decide)
  have e1:za0 ((tab 25 fun _=>0#64).set (0+5*0) (gd l 0#64 (0+5*0)))=za0 (zLc l 0):=rfl
  rw [e1] at e0
  simp only [Nat.zero_mul,Nat.add_zero,List.drop_zero] at e0
  simp [zi1,zak,zkh,zCo,zaj,zaA,zbp,zai,zFa,e0]
  generalize hF:run ctx _ (.loop _) _ _=R
  obtain ⟨fr1,rfl,hk1⟩:=zLM l _ hF (by simp) (by simp) (by simp) (by simp) (by simp)
  simp [hk1,wr,zb8,zcU,zbM,zaj,zbp,zai]
end Go.Av
namespace Go.Av
theorem zPs (l:List W64) (x y z:Nat) (hx5:x < 5) (hy5:y < 5) (hz:z < 64):bit (ztT l) (x*320+y*64+z)=
    (bit l (x*320+y*64+z) ^^ (!bit l ((x+1) % 5*320+y*64+z)&&bit l ((x+2) % 5*320+y*64+z))):=by
  rw [zf9 _ _ _ _ hx5 hy5 hz,zf9 _ _ _ _ hx5 hy5 hz,zf9 _ _ _ _ (by omega) hy5 hz,zf9 _ _ _ _ (by omega) hy5 hz]
  unfold ztT
  rw [zbz (by omega),zQB]
  rw [show x+5*y - (x+5*y) % 5+(x+5*y+2) % 5=(x+2) % 5+5*y by omega,show x+5*y - (x+5*y) % 5+(x+5*y+1) % 5=(x+1) % 5+5*y by omega]
  simp [hz,Bool.and_comm]
theorem zFP {fr:Fr} {h:zab} {R:Option (AEx × Fr × zab)} (l:List W64) (b:List zaa) (x y:Nat) (hx5:x < 5) (hy5:y < 5)
    (hF:run ctx (zak h) (.loop zbt) fr (hx h [b,cB (za6 1600 (bit (ztT l)) (fun _=>false) (x*320+y*64))] [])=R)
    (h1:fr 1=.vptr (cB (za0 l)) 0) (h3:fr 3=pA h.blks.length 1 0) (h4:fr 4=.int .i64 x) (h5:fr 5=.int .i64 y) (h6:fr 6=.int .i64 0):
    ∃ fr',R=some (.exit 4,fr',hx h [b,cB (za6 1600 (bit (ztT l)) (fun _=>false) (x*320+(y+1)*64))] [])∧∀ t,t∉wr zbt→fr' t=fr t:=by
  obtain ⟨e,fr',h',rfl,⟨rfl,rfl⟩,hk⟩:=zaf hF 64
    (fun k fr hh=>fr 6=.int .i64 k∧hh=hx h [b,cB (za6 1600 (bit (ztT l)) (fun _=>false) (x*320+y*64+k))] [])
    (fun e fr hh=>e=.exit 4∧hh=hx h [b,cB (za6 1600 (bit (ztT l)) (fun _=>false) (x*320+(y+1)*64))] [])
    ⟨h6,rfl⟩ (by
      rintro k fr1 hh hkN hkeep ⟨g6,rfl⟩
      have g1:=(hkeep 1 (by decide)).trans h1
      have g3:=(hkeep 3 (by decide)).trans h3
      have g4:=(hkeep 4 (by decide)).trans h4
      have g5:=(hkeep 5 (by decide)).trans h5
      by_cases hlt:k < 64
      · have w0 : IntKind.i64.wrap ((k : Int) + 1) = k + 1 := wrap_i64 (by omega) (by omega)
        have w1:IntKind.i64.wrap ((x:Int)+1)=((x+1:Nat):Int):=(wrap_i64 (by omega) (by omega)).trans (by omega)
        have w2:IntKind.i64.wrap ((x:Int)+2)=((x+2:Nat):Int):=(wrap_i64 (by omega) (by omega)).trans (by omega)
        have t1:=zra (x+1)
        have t2:=zra (x+2)
        have hset:=zdn 1600 (bit (ztT l)) (fun _=>false) (x*320+y*64+k)
        rw [zPs l x y k hx5 hy5 hlt] at hset
        have b0:gd (za0 l) false (x*320+y*64+k)=bit l (x*320+y*64+k):=zbz (by omega)
        have ha5:(x+1) % 5 < 5:=by omega
        have hc5:(x+2) % 5 < 5:=by omega
        have b1:gd (za0 l) false ((x+1) % 5*320+y*64+k)=bit l ((x+1) % 5*320+y*64+k):=zbz (by omega)
        have b2:gd (za0 l) false ((x+2) % 5*320+y*64+k)=bit l ((x+2) % 5*320+y*64+k):=zbz (by omega)
        generalize (x+1) % 5=a at*
        generalize (x+2) % 5=c at*
        generalize x+1=x1 at*
        generalize x+2=x2 at*
        have hi0:x*320+y*64+k < 1600:=by omega
        have hi1:a*320+y*64+k < 1600:=by omega
        have hi2:c*320+y*64+k < 1600:=by omega
        have hi3:x*320+y*64+k+1≤1600:=by omega
        have hass:x*320+y*64+(k+1)=x*320+y*64+k+1:=rfl
        generalize hM1:za6 1600 (bit (ztT l)) (fun _=>false) (x*320+y*64+k+1)=M1 at*
        have hML:=zz8 1600 (bit (ztT l)) (fun _=>false) (x*320+y*64+k)
        generalize za6 1600 (bit (ztT l)) (fun _=>false) (x*320+y*64+k)=M0 at*
        cases hb0:bit l (x*320+y*64+k) <;> cases hb1:bit l (a*320+y*64+k) <;> cases hb2:bit l (c*320+y*64+k)
        all_goals
          rw [hb0] at b0 hset
          rw [hb1] at b1 hset
          rw [hb2] at b2 hset
          simp at hset
          simp [zbt,zak,g6,g1,g3,g4,g5,hlt,show (k:Int) < 64 by omega,w0,w1,w2,t1,t2,zbs,zaP,ze6,hx5,hy5,ha5,hc5,hi0,hi1,hi2,hi3,b0,b1,b2,hset,hass,hML]
          rw [hM1]
      · have : k = 64 := by omega
        subst this
        have e0:x*320+y*64+64=x*320+(y+1)*64:=by omega
        simp [zbt,g6,e0])
  exact ⟨fr',rfl,hk⟩
theorem zFQ {fr:Fr} {h:zab} {R:Option (AEx × Fr × zab)} (l:List W64) (b:List zaa) (x:Nat) (hx5:x < 5)
    (hF:run ctx (zak h) (.loop zb6) fr (hx h [b,cB (za6 1600 (bit (ztT l)) (fun _=>false) (x*320))] [])=R)
    (h1:fr 1=.vptr (cB (za0 l)) 0) (h3:fr 3=pA h.blks.length 1 0) (h4:fr 4=.int .i64 x) (h5:fr 5=.int .i64 0):
    ∃ fr',R=some (.exit 2,fr',hx h [b,cB (za6 1600 (bit (ztT l)) (fun _=>false) ((x+1)*320))] [])∧∀ t,t∉wr zb6→fr' t=fr t:=by
  obtain ⟨e,fr',h',rfl,⟨rfl,rfl⟩,hk⟩:=zaf hF 5
    (fun k fr hh=>fr 5=.int .i64 k∧hh=hx h [b,cB (za6 1600 (bit (ztT l)) (fun _=>false) (x*320+k*64))] [])
    (fun e fr hh=>e=.exit 2∧hh=hx h [b,cB (za6 1600 (bit (ztT l)) (fun _=>false) ((x+1)*320))] [])
    ⟨h5, by simp⟩ (by
      rintro k fr1 hh hkN hkeep ⟨g5,rfl⟩
      have g1:=(hkeep 1 (by decide)).trans h1
      have g3:=(hkeep 3 (by decide)).trans h3
      have g4:=(hkeep 4 (by decide)).trans h4
      by_cases hlt:k < 5
      · have w0 : IntKind.i64.wrap ((k : Int) + 1) = k + 1 := wrap_i64 (by omega) (by omega)
        simp [zb6,g1,g3,g4,g5,hlt,show (k:Int) < 5 by omega]
        generalize hF:run ctx _ (.loop _) _ _=R
        obtain ⟨fr2,rfl,q2⟩:=zFP l b x k hx5 hlt hF (by simp [g1]) (by simp [g3]) (by simp [g4]) (by simp [g5]) (by simp)
        simp [q2,wr,zbt,zbM,g5,w0]
        exact hlt
      · have : k = 5 := by omega
        subst this
        have e0:x*320+5*64=(x+1)*320:=by omega
        simp [zb6,g5]
        rw [show x*320+320=(x+1)*320 by omega])
  exact ⟨fr',rfl,hk⟩
theorem zFO {fr:Fr} {h:zab} {R:Option (AEx × Fr × zab)} (l:List W64) (b:List zaa)
    (hF:run ctx (zak h) (.loop zcT) fr (hx h [b,cB (tab 1600 fun _=>false)] [])=R)
    (h1:fr 1=.vptr (cB (za0 l)) 0) (h3:fr 3=pA h.blks.length 1 0) (h4:fr 4=.int .i64 0):
    ∃ fr',R=some (.exit 0,fr',hx h [b,cB (za0 (ztT l))] [])∧∀ t,t∉wr zcT→fr' t=fr t:=by
  obtain ⟨e,fr',h',rfl,⟨rfl,rfl⟩,hk⟩:=zaf hF 5
    (fun k fr hh=>fr 4=.int .i64 k∧hh=hx h [b,cB (za6 1600 (bit (ztT l)) (fun _=>false) (k*320))] [])
    (fun e fr hh=>e=.exit 0∧hh=hx h [b,cB (za0 (ztT l))] [])
    ⟨h4, by simp [zcc]⟩ (by
      rintro k fr1 hh hkN hkeep ⟨g4,rfl⟩
      have g1:=(hkeep 1 (by decide)).trans h1
      have g3:=(hkeep 3 (by decide)).trans h3
      by_cases hlt:k < 5
      · have w0 : IntKind.i64.wrap ((k : Int) + 1) = k + 1 := wrap_i64 (by omega) (by omega)
        simp [zcT,g1,g3,g4,hlt,show (k:Int) < 5 by omega]
        generalize hF:run ctx _ (.loop _) _ _=R
        obtain ⟨fr2,rfl,q2⟩:=zFQ l b k hlt hF (by simp [g1]) (by simp [g3]) (by simp [g4]) (by simp)
        simp [q2,wr,zbt,zb6,zbM,g4,w0]
        exact hlt
      · have : k = 5 := by omega
        subst this
        simp [zcT,g4,zft,za0])
  exact ⟨fr',rfl,hk⟩
theorem zPt (L:Lim) (h:zab) (l:List W64):zag ctx L zgt [.agg (cB (za0 l))] h=some (.agg (cB (za0 (ztT l))),h):=by
  rw [zq2]
  simp [zi0,zak,zkh,zaj,zaA,zbp,zai]
  generalize hF:run ctx _ (.loop _) _ _=R
  obtain ⟨fr1,rfl,hk1⟩:=zFO l _ hF (by simp) (by simp) (by simp)
  simp [hk1,wr,zbt,zb6,zcT,zbM,zaj,zbp,zai]
def zxl (l:List W64) (x z:Nat):Nat→Nat
  | 0=>0
  | k+1=>zxl l x z k+(if (gd l 0#64 (x+5*k)).getLsbD z then 1 else 0)
theorem zHR (l:List W64) (x z:Nat):∀ k,zxl l x z k≤k
  | 0=>by simp [zxl]
  | k+1=>by have:=zHR l x z k;simp only [zxl];split <;> omega
theorem zLQ (l:List W64) (x z:Nat) (hx5:x < 5):(zxl l x z 5 % 2==1)=(zCS l x).getLsbD z:=by
  unfold zCS
  simp only [zxl,BitVec.getLsbD_xor,Nat.mul_zero,Nat.add_zero,Nat.mul_one,show 5*2=10 from rfl,show 5*3=15 from rfl,show 5*4=20 from rfl]
  cases (gd l 0#64 x).getLsbD z <;> cases (gd l 0#64 (x+5)).getLsbD z <;> cases (gd l 0#64 (x+10)).getLsbD z <;> cases (gd l 0#64 (x+15)).getLsbD z <;> cases (gd l 0#64 (x+20)).getLsbD z <;> rfl
theorem zHT {fr:Fr} {h:zab} {R:Option (AEx × Fr × zab)} (l:List W64) (H:zab) (x z:Nat) (hx5:x < 5) (hz:z < 64)
    (hF:run ctx (zak h) (.loop zaz) fr H=R)
    (h1:fr 1=.vptr (cB (za0 l)) 0) (h4:fr 4=.int .i64 x) (h5:fr 5=.int .i64 z) (h6:fr 6=.int .i64 0) (h7:fr 7=.int .i64 0):
    ∃ fr',R=some (.exit 4,fr',H)∧fr' 6=.int .i64 (zxl l x z 5:Nat)∧∀ t,t∉wr zaz→fr' t=fr t:=by
  obtain ⟨e,fr',h',rfl,⟨rfl,rfl,h6'⟩,hk⟩:=zaf hF 5
    (fun k fr hh=>fr 7=.int .i64 k∧fr 6=.int .i64 (zxl l x z k:Nat)∧hh=H)
    (fun e fr hh=>e=.exit 4∧hh=H∧fr 6=.int .i64 (zxl l x z 5:Nat))
    ⟨h7,h6,rfl⟩ (by
      rintro k fr1 hh hkN hkeep ⟨g7,g6,rfl⟩
      have g1:=(hkeep 1 (by decide)).trans h1
      have g4:=(hkeep 4 (by decide)).trans h4
      have g5:=(hkeep 5 (by decide)).trans h5
      by_cases hlt:k < 5
      · have w0 : IntKind.i64.wrap ((k : Int) + 1) = k + 1 := wrap_i64 (by omega) (by omega)
        have hc:=zHR l x z k
        have hs:zxl l x z (k+1)=zxl l x z k+(if (gd l 0#64 (x+5*k)).getLsbD z then 1 else 0):=rfl
        have hb:=zz7 l x k z hx5 hlt hz
        have hi:x*320+k*64+z < 1600:=by omega
        generalize hc1:zxl l x z (k+1)=c1 at*
        generalize zxl l x z k=c at*
        have w1:IntKind.i64.wrap ((c:Int)+1)=((c+1:Nat):Int):=(wrap_i64 (by omega) (by omega)).trans (by omega)
        cases hv:(gd l 0#64 (x+5*k)).getLsbD z
        · rw [hv] at hb hs
          simp at hs
          subst hs
          simp [zaz,g1,g4,g5,g6,g7,hlt,show (k:Int) < 5 by omega,w0,ze6,hx5,hz,hi,hb,hc1]
        · rw [hv] at hb hs
          simp at hs
          subst hs
          simp [zaz,g1,g4,g5,g6,g7,hlt,show (k:Int) < 5 by omega,w0,w1,ze6,hx5,hz,hi,hb,hc1]
      · have : k = 5 := by omega
        subst this
        simp [zaz,g7,g6])
  exact ⟨fr',rfl,h6',hk⟩
def zqY (l:List W64) (j:Nat):Bool:=(zCS l (j / 64)).getLsbD (j % 64)
theorem zHU {fr:Fr} {h:zab} {R:Option (AEx × Fr × zab)} (l:List W64) (b:List zaa) (x:Nat) (hx5:x < 5)
    (hF:run ctx (zak h) (.loop zaJ) fr (hx h [b,cB (za6 320 (zqY l) (fun _=>false) (x*64))] [])=R)
    (h1:fr 1=.vptr (cB (za0 l)) 0) (h3:fr 3=pA h.blks.length 1 0) (h4:fr 4=.int .i64 x) (h5:fr 5=.int .i64 0):
    ∃ fr',R=some (.exit 2,fr',hx h [b,cB (za6 320 (zqY l) (fun _=>false) ((x+1)*64))] [])∧∀ t,t∉wr zaJ→fr' t=fr t:=by
  obtain ⟨e,fr',h',rfl,⟨rfl,rfl⟩,hk⟩:=zaf hF 64
    (fun k fr hh=>fr 5=.int .i64 k∧hh=hx h [b,cB (za6 320 (zqY l) (fun _=>false) (x*64+k))] [])
    (fun e fr hh=>e=.exit 2∧hh=hx h [b,cB (za6 320 (zqY l) (fun _=>false) ((x+1)*64))] [])
    ⟨h5, by simp⟩ (by
      rintro k fr1 hh hkN hkeep ⟨g5,rfl⟩
      have g1:=(hkeep 1 (by decide)).trans h1
      have g3:=(hkeep 3 (by decide)).trans h3
      have g4:=(hkeep 4 (by decide)).trans h4
      by_cases hlt:k < 64
      · have w0 : IntKind.i64.wrap ((k : Int) + 1) = k + 1 := wrap_i64 (by omega) (by omega)
        simp [zaJ,g1,g3,g4,g5,hlt,show (k:Int) < 64 by omega]
        generalize hF:run ctx _ (.loop _) _ _=R
        obtain ⟨fr2,rfl,q1,q2⟩:=zHT l _ x k hx5 hlt hF (by simp [g1]) (by simp [g4]) (by simp [g5]) (by simp) (by simp)
        have hset:=zdn 320 (zqY l) (fun _=>false) (x*64+k)
        have hp:zqY l (x*64+k)=(zxl l x k 5 % 2==1):=by
          rw [zLQ l x k hx5]
          unfold zqY
          rw [show (x*64+k) / 64=x by omega,show (x*64+k) % 64=k by omega]
        rw [hp] at hset
        have ht:(((zxl l x k 5:Nat):Int)).tmod 2=((zxl l x k 5 % 2:Nat):Int):=zoA _ 2
        have hq:(((zxl l x k 5 % 2:Nat):Int)==1)=(zxl l x k 5 % 2==1):=by
          rw [Bool.eq_iff_iff];simp only [beq_iff_eq];omega
        generalize (zxl l x k 5 % 2==1)=v at*
        generalize zxl l x k 5 % 2=c2 at*
        generalize zxl l x k 5=c at*
        have hass:x*64+(k+1)=x*64+k+1:=rfl
        have hi:x*64+k+1≤320:=by omega
        simp [q1,q2,wr,zaz,zbM,g3,g4,g5,w0,zbs,ht,hq,zaP,hx5,hlt,zak,hset,hass,hi]
      · have : k = 64 := by omega
        subst this
        have e0:x*64+64=(x+1)*64:=by omega
        simp [zaJ,g5,e0])
  exact ⟨fr',rfl,hk⟩
theorem zHV {fr:Fr} {h:zab} {R:Option (AEx × Fr × zab)} (l:List W64) (b:List zaa)
    (hF:run ctx (zak h) (.loop zaX) fr (hx h [b,cB (tab 320 fun _=>false)] [])=R)
    (h1:fr 1=.vptr (cB (za0 l)) 0) (h3:fr 3=pA h.blks.length 1 0) (h4:fr 4=.int .i64 0):
    ∃ fr',R=some (.exit 0,fr',hx h [b,cB (tab 320 (zqY l))] [])∧∀ t,t∉wr zaX→fr' t=fr t:=by
  obtain ⟨e,fr',h',rfl,⟨rfl,rfl⟩,hk⟩:=zaf hF 5
    (fun k fr hh=>fr 4=.int .i64 k∧hh=hx h [b,cB (za6 320 (zqY l) (fun _=>false) (k*64))] [])
    (fun e fr hh=>e=.exit 0∧hh=hx h [b,cB (tab 320 (zqY l))] [])
    ⟨h4, by simp [zcc]⟩ (by
      rintro k fr1 hh hkN hkeep ⟨g4,rfl⟩
      have g1:=(hkeep 1 (by decide)).trans h1
      have g3:=(hkeep 3 (by decide)).trans h3
      by_cases hlt:k < 5
      · have w0 : IntKind.i64.wrap ((k : Int) + 1) = k + 1 := wrap_i64 (by omega) (by omega)
        simp [zaX,g1,g3,g4,hlt,show (k:Int) < 5 by omega]
        generalize hF:run ctx _ (.loop _) _ _=R
        obtain ⟨fr2,rfl,q2⟩:=zHU l b k hlt hF (by simp [g1]) (by simp [g3]) (by simp [g4]) (by simp)
        simp [q2,wr,zaz,zaJ,zbM,g4,w0]
        exact hlt
      · have : k = 5 := by omega
        subst this
        simp [zaX,g4,zft])
  exact ⟨fr',rfl,hk⟩
end Go.Av
namespace Go.Av
theorem zH4 (l:List W64) (x y z:Nat) (hx5:x < 5) (hy5:y < 5) (hz:z < 64):bit (zeL l) (x*320+y*64+z)=
    (bit l (x*320+y*64+z) ^^ (zqY l ((x+4) % 5*64+z) ^^ zqY l ((x+1) % 5*64+(z+63) % 64))):=by
  rw [zf9 _ _ _ _ hx5 hy5 hz,zf9 _ _ _ _ hx5 hy5 hz]
  unfold zeL
  rw [zbz (by omega),zuF]
  have h4:(x+4) % 5 < 5:=by omega
  have h1:(x+1) % 5 < 5:=by omega
  have hz2:(z+63) % 64 < 64:=by omega
  rw [show ((x+5*y) % 5+4) % 5=(x+4) % 5 by omega,show ((x+5*y) % 5+1) % 5=(x+1) % 5 by omega]
  unfold zqY
  generalize (x+4) % 5=a at*
  generalize (x+1) % 5=c at*
  rw [show (a*64+z) / 64=a by omega,show (a*64+z) % 64=z by omega]
  rw [BitVec.getLsbD_xor,BitVec.getLsbD_xor,zFw _ _ _ hz,show (z+64 - 1 % 64) % 64=(z+63) % 64 by omega]
  generalize (z+63) % 64=z2 at*
  rw [show (c*64+z2) / 64=c by omega,show (c*64+z2) % 64=z2 by omega]
theorem zSW (k:Nat):(k:Int).tmod 64=((k % 64:Nat):Int):=zoA k 64
theorem zH5 {fr:Fr} {h:zab} {R:Option (AEx × Fr × zab)} (l:List W64) (b:List zaa) (x y:Nat) (hx5:x < 5) (hy5:y < 5)
    (hF:run ctx (zak h) (.loop za8) fr (hx h [b,cB (tab 320 (zqY l)),cB (za6 1600 (bit (zeL l)) (fun _=>false) (x*320+y*64))] [])=R)
    (h1:fr 1=.vptr (cB (za0 l)) 0) (h3:fr 3=pA h.blks.length 1 0) (h8:fr 8=pA h.blks.length 2 0) (h9:fr 9=.int .i64 x) (h10:fr 10=.int .i64 y) (h11:fr 11=.int .i64 0):
    ∃ fr',R=some (.exit 10,fr',hx h [b,cB (tab 320 (zqY l)),cB (za6 1600 (bit (zeL l)) (fun _=>false) (x*320+(y+1)*64))] [])∧∀ t,t∉wr za8→fr' t=fr t:=by
  obtain ⟨e,fr',h',rfl,⟨rfl,rfl⟩,hk⟩:=zaf hF 64
    (fun k fr hh=>fr 11=.int .i64 k∧hh=hx h [b,cB (tab 320 (zqY l)),cB (za6 1600 (bit (zeL l)) (fun _=>false) (x*320+y*64+k))] [])
    (fun e fr hh=>e=.exit 10∧hh=hx h [b,cB (tab 320 (zqY l)),cB (za6 1600 (bit (zeL l)) (fun _=>false) (x*320+(y+1)*64))] [])
    ⟨h11,rfl⟩ (by
      rintro k fr1 hh hkN hkeep ⟨g11,rfl⟩
      have g1:=(hkeep 1 (by decide)).trans h1
      have g3:=(hkeep 3 (by decide)).trans h3
      have g8:=(hkeep 8 (by decide)).trans h8
      have g9:=(hkeep 9 (by decide)).trans h9
      have g10:=(hkeep 10 (by decide)).trans h10
      by_cases hlt:k < 64
      · have w0 : IntKind.i64.wrap ((k : Int) + 1) = k + 1 := wrap_i64 (by omega) (by omega)
        have w1:IntKind.i64.wrap ((x:Int)+1)=((x+1:Nat):Int):=(wrap_i64 (by omega) (by omega)).trans (by omega)
        have w4:IntKind.i64.wrap ((x:Int)+4)=((x+4:Nat):Int):=(wrap_i64 (by omega) (by omega)).trans (by omega)
        have w63:IntKind.i64.wrap ((k:Int)+63)=((k+63:Nat):Int):=(wrap_i64 (by omega) (by omega)).trans (by omega)
        have t1:=zra (x+1)
        have t4:=zra (x+4)
        have t63:=zSW (k+63)
        have hset:=zdn 1600 (bit (zeL l)) (fun _=>false) (x*320+y*64+k)
        rw [zH4 l x y k hx5 hy5 hlt] at hset
        have b0:gd (za0 l) false (x*320+y*64+k)=bit l (x*320+y*64+k):=zbz (by omega)
        have ha5:(x+4) % 5 < 5:=by omega
        have hc5:(x+1) % 5 < 5:=by omega
        have hz2:(k+63) % 64 < 64:=by omega
        have b1:gd (tab 320 (zqY l)) false ((x+4) % 5*64+k)=zqY l ((x+4) % 5*64+k):=zbz (by omega)
        have b2:gd (tab 320 (zqY l)) false ((x+1) % 5*64+(k+63) % 64)=zqY l ((x+1) % 5*64+(k+63) % 64):=zbz (by omega)
        generalize (x+4) % 5=a at*
        generalize (x+1) % 5=c at*
        generalize (k+63) % 64=z2 at*
        generalize x+1=x1 at*
        generalize x+4=x4 at*
        generalize k+63=k63 at*
        have hi0:x*320+y*64+k < 1600:=by omega
        have hi1:a*64+k < 320:=by omega
        have hi2:c*64+z2 < 320:=by omega
        have hi3:x*320+y*64+k+1≤1600:=by omega
        have hass:x*320+y*64+(k+1)=x*320+y*64+k+1:=rfl
        generalize hM1:za6 1600 (bit (zeL l)) (fun _=>false) (x*320+y*64+k+1)=M1 at*
        have hML:=zz8 1600 (bit (zeL l)) (fun _=>false) (x*320+y*64+k)
        generalize za6 1600 (bit (zeL l)) (fun _=>false) (x*320+y*64+k)=M0 at*
        have hPL:=zwQ 320 (zqY l)
        generalize tab 320 (zqY l)=P0 at*
        have hxor:∀ p q:Bool,(true ^^ (p==q))=(p ^^ q):=by decide
        generalize bit l (x*320+y*64+k)=v0 at*
        generalize zqY l (a*64+k)=v1 at*
        generalize zqY l (c*64+z2)=v2 at*
        simp [za8,zak,g11,g1,g3,g8,g9,g10,hlt,show (k:Int) < 64 by omega,w0,w1,w4,w63,t1,t4,t63,zbs,zaP,ze6,hx5,hy5,ha5,hc5,hz2,hi0,hi1,hi2,hi3,b0,b1,b2,hass,hML,hPL]
        have e1:(!(v0==!(v1==v2)))=(v0 ^^ (v1 ^^ v2)):=by cases v0 <;> cases v1 <;> cases v2 <;> rfl
        rw [e1,hset,hM1]
      · have : k = 64 := by omega
        subst this
        have e0:x*320+y*64+64=x*320+(y+1)*64:=by omega
        simp [za8,g11,e0])
  exact ⟨fr',rfl,hk⟩
theorem zH3 {fr:Fr} {h:zab} {R:Option (AEx × Fr × zab)} (l:List W64) (b:List zaa) (x:Nat) (hx5:x < 5)
    (hF:run ctx (zak h) (.loop zbr) fr (hx h [b,cB (tab 320 (zqY l)),cB (za6 1600 (bit (zeL l)) (fun _=>false) (x*320))] [])=R)
    (h1:fr 1=.vptr (cB (za0 l)) 0) (h3:fr 3=pA h.blks.length 1 0) (h8:fr 8=pA h.blks.length 2 0) (h9:fr 9=.int .i64 x) (h10:fr 10=.int .i64 0):
    ∃ fr',R=some (.exit 8,fr',hx h [b,cB (tab 320 (zqY l)),cB (za6 1600 (bit (zeL l)) (fun _=>false) ((x+1)*320))] [])∧∀ t,t∉wr zbr→fr' t=fr t:=by
  obtain ⟨e,fr',h',rfl,⟨rfl,rfl⟩,hk⟩:=zaf hF 5
    (fun k fr hh=>fr 10=.int .i64 k∧hh=hx h [b,cB (tab 320 (zqY l)),cB (za6 1600 (bit (zeL l)) (fun _=>false) (x*320+k*64))] [])
    (fun e fr hh=>e=.exit 8∧hh=hx h [b,cB (tab 320 (zqY l)),cB (za6 1600 (bit (zeL l)) (fun _=>false) ((x+1)*320))] [])
    ⟨h10, by simp⟩ (by
      rintro k fr1 hh hkN hkeep ⟨g10,rfl⟩
      have g1:=(hkeep 1 (by decide)).trans h1
      have g3:=(hkeep 3 (by decide)).trans h3
      have g8:=(hkeep 8 (by decide)).trans h8
      have g9:=(hkeep 9 (by decide)).trans h9
      by_cases hlt:k < 5
      · have w0 : IntKind.i64.wrap ((k : Int) + 1) = k + 1 := wrap_i64 (by omega) (by omega)
        simp [zbr,g1,g3,g8,g9,g10,hlt,show (k:Int) < 5 by omega]
        generalize hF:run ctx _ (.loop _) _ _=R
        obtain ⟨fr2,rfl,q2⟩:=zH5 l b x k hx5 hlt hF (by simp [g1]) (by simp [g3]) (by simp [g8]) (by simp [g9]) (by simp [g10]) (by simp)
        simp [q2,wr,za8,zbM,g10,w0]
        exact hlt
      · have : k = 5 := by omega
        subst this
        simp [zbr,g10]
        rw [show x*320+320=(x+1)*320 by omega])
  exact ⟨fr',rfl,hk⟩
theorem zH6 {fr:Fr} {h:zab} {R:Option (AEx × Fr × zab)} (l:List W64) (b:List zaa)
    (hF:run ctx (zak h) (.loop zci) fr (hx h [b,cB (tab 320 (zqY l)),cB (tab 1600 fun _=>false)] [])=R)
    (h1:fr 1=.vptr (cB (za0 l)) 0) (h3:fr 3=pA h.blks.length 1 0) (h8:fr 8=pA h.blks.length 2 0) (h9:fr 9=.int .i64 0):
    ∃ fr',R=some (.exit 6,fr',hx h [b,cB (tab 320 (zqY l)),cB (za0 (zeL l))] [])∧∀ t,t∉wr zci→fr' t=fr t:=by
  obtain ⟨e,fr',h',rfl,⟨rfl,rfl⟩,hk⟩:=zaf hF 5
    (fun k fr hh=>fr 9=.int .i64 k∧hh=hx h [b,cB (tab 320 (zqY l)),cB (za6 1600 (bit (zeL l)) (fun _=>false) (k*320))] [])
    (fun e fr hh=>e=.exit 6∧hh=hx h [b,cB (tab 320 (zqY l)),cB (za0 (zeL l))] [])
    ⟨h9, by simp [zcc]⟩ (by
      rintro k fr1 hh hkN hkeep ⟨g9,rfl⟩
      have g1:=(hkeep 1 (by decide)).trans h1
      have g3:=(hkeep 3 (by decide)).trans h3
      have g8:=(hkeep 8 (by decide)).trans h8
      by_cases hlt:k < 5
      · have w0 : IntKind.i64.wrap ((k : Int) + 1) = k + 1 := wrap_i64 (by omega) (by omega)
        simp [zci,g1,g3,g8,g9,hlt,show (k:Int) < 5 by omega]
        generalize hF:run ctx _ (.loop _) _ _=R
        obtain ⟨fr2,rfl,q2⟩:=zH3 l b k hlt hF (by simp [g1]) (by simp [g3]) (by simp [g8]) (by simp [g9]) (by simp)
        simp [q2,wr,za8,zbr,zbM,g9,w0]
        exact hlt
      · have : k = 5 := by omega
        subst this
        simp [zci,g9,zft,za0])
  exact ⟨fr',rfl,hk⟩
theorem zH7 (L:Lim) (h:zab) (l:List W64):zag ctx L zfj [.agg (cB (za0 l))] h=some (.agg (cB (za0 (zeL l))),h):=by
  rw [zoS]
  simp [zhs,zak,zkh,zaj,zaA,zbp,zai]
  generalize hF:run ctx _ (.loop _) _ _=R
  obtain ⟨fr1,rfl,hk1⟩:=zHV l _ hF (by simp) (by simp) (by simp)
  simp [hk1,wr,zaz,zaJ,zaX,zbM,zaj,zaA,zbp,zai]
  generalize hF:run ctx _ (.loop _) _ _=R
  obtain ⟨fr2,rfl,hk2⟩:=zH6 l _ hF (by simp [hk1,wr,zaz,zaJ,zaX,zbM]) (by simp [hk1,wr,zaz,zaJ,zaX,zbM]) (by simp) (by simp)
  simp [hk1,hk2,wr,zaz,zaJ,zaX,za8,zbr,zci,zbM,zaj,zbp,zai]
def rcp (r p:Nat):Nat:=if r / p % 2=1 then r - p else r+p
def rcS (r:Nat):Nat:=if 2*r≥256 then rcp (rcp (rcp (rcp (2*r - 256) 64) 32) 16) 1 else 2*r
def rcR:Nat→Nat
  | 0=>1
  | t+1=>rcS (rcR t)
theorem zSX:∀ r,r < 256→rcS r < 256:=by decide
theorem zOH:∀ t,rcR t < 256
  | 0=>by decide
  | t+1=>zSX _ (zOH t)
theorem zSY (r p:Nat) (hr:r < 2000) (hp:p < 200):rcp r p < r+200:=by unfold rcp;split <;> omega
def rcF (r k:Nat):Nat:=(([64,32,16,1]:List Nat).take k).foldl rcp r
theorem zFU {L:Lim} {fr:Fr} {H:zab} {R:Option (AEx × Fr × zab)} (r:Nat) (hr:r < 256)
    (hF:run ctx L (.loop zcC) fr H=R)
    (h18:fr 18=.vsl true (eI .i64 [64,32,16,1])) (h19:fr 19=.int .i64 4) (h20:fr 20=.int .i64 0) (h3:fr 3=.int .i64 (r:Nat)):
    ∃ fr',R=some (.exit 2,fr',H)∧fr' 3=.int .i64 (rcp (rcp (rcp (rcp r 64) 32) 16) 1:Nat)∧∀ t,t∉wr zcC→fr' t=fr t:=by
  obtain ⟨e,fr',h',rfl,⟨rfl,rfl,h3'⟩,hk⟩:=zaf hF 4
    (fun k fr hh=>fr 20=.int .i64 k∧fr 3=.int .i64 ((rcF r k:Nat):Int)∧rcF r k < 256+200*k∧hh=H)
    (fun e fr hh=>e=.exit 2∧hh=H∧fr 3=.int .i64 (rcp (rcp (rcp (rcp r 64) 32) 16) 1:Nat))
    ⟨h20, h3, by show r < 256; exact hr, rfl⟩ (by
      rintro k fr1 hh hkN hkeep ⟨g20,g3,gl,rfl⟩
      have g18:=(hkeep 18 (by decide)).trans h18
      have g19:=(hkeep 19 (by decide)).trans h19
      by_cases hlt:k < 4
      · have w0 : IntKind.i64.wrap ((k : Int) + 1) = k + 1 := wrap_i64 (by omega) (by omega)
        obtain ⟨p,hp,hp1,hp200,hnext⟩:∃ p:Nat,gd [64,32,16,1] 0 k=(p:Int)∧0 < p∧p < 200∧rcF r (k+1)=rcp (rcF r k) p:=by
          have:k=0∨k=1∨k=2∨k=3:=by omega
          rcases this with rfl | rfl | rfl | rfl
          · exact ⟨64,rfl,by decide,by decide,rfl⟩
          · exact ⟨32,rfl,by decide,by decide,rfl⟩
          · exact ⟨16,rfl,by decide,by decide,rfl⟩
          · exact ⟨1,rfl,by decide,by decide,rfl⟩
        have hlt2:=zSY _ p (Nat.lt_of_lt_of_le gl (by omega)) hp200
        generalize rcF r k=q at*
        have t1:=zuB q p
        have w1:=zfQ (q / p) (Nat.lt_of_le_of_lt (Nat.div_le_self _ _) (by omega))
        have t2:((q / p:Nat):Int).tmod 2=((q / p % 2:Nat):Int):=zoA _ 2
        have hne:(p:Int)≠0:=by omega
        have w2:IntKind.i64.wrap ((q:Int)+(p:Int))=((q+p:Nat):Int):=(wrap_i64 (by omega) (by omega)).trans (by omega)
        by_cases hc:q / p % 2=1
        · have hqp:p≤q:=by
            rcases Nat.lt_or_ge q p with h | h
            · rw [Nat.div_eq_of_lt h] at hc;simp at hc
            · exact h
          have w3:IntKind.i64.wrap ((q:Int) - (p:Int))=((q - p:Nat):Int):=(wrap_i64 (by omega) (by omega)).trans (by omega)
          have hr':rcp q p=q - p:=by unfold rcp;rw [if_pos hc]
          rw [hr'] at hlt2 hnext
          rw [hc] at t2
          generalize q / p=d at*
          generalize q - p=e at*
          simp [zcC,g20,g18,g19,g3,show (k:Int) < 4 by omega,znQ,hlt,hp,zc9,zbs,hne,show ¬p=0 by omega,t1,w1,t2,w3,w0,hnext]
          omega
        · have hr' : rcp q p = q + p := by unfold rcp; rw [if_neg hc]
          have h0:q / p % 2=0:=by omega
          rw [hr'] at hlt2 hnext
          rw [h0] at t2
          generalize q / p=d at*
          generalize q+p=e at*
          simp [zcC,g20,g18,g19,g3,show (k:Int) < 4 by omega,znQ,hlt,hp,zc9,zbs,hne,show ¬p=0 by omega,t1,w1,t2,w2,w0,hnext]
          omega
      · have : k = 4 := by omega
        subst this
        simp [zcC,g20,g19,g3]
        rfl)
  exact ⟨fr',rfl,h3',hk⟩
end Go.Av
namespace Go.Av
theorem zPF {L:Lim} {fr:Fr} {H:zab} {R:Option (AEx × Fr × zab)} (t:Nat) (ht:t < 1000)
    (hF:run ctx L (.loop zeX) fr H=R)
    (h0:fr 0=.int .i64 t) (h4:fr 4=.int .i64 0) (h3:fr 3=.int .i64 1):
    ∃ fr',R=some (.exit 0,fr',H)∧fr' 3=.int .i64 (rcR t:Nat):=by
  obtain ⟨e,fr',h',rfl,⟨rfl,rfl,h3'⟩,hk⟩:=zaf hF t
    (fun k fr hh=>fr 4=.int .i64 k∧fr 3=.int .i64 (rcR k:Nat)∧hh=H)
    (fun e fr hh=>e=.exit 0∧hh=H∧fr 3=.int .i64 (rcR t:Nat))
    ⟨h4,h3,rfl⟩ (by
      rintro k fr1 hh hkN hkeep ⟨g4,g3,rfl⟩
      have g0:=(hkeep 0 (by decide)).trans h0
      by_cases hlt:k < t
      · have w0 : IntKind.i64.wrap ((k : Int) + 1) = k + 1 := wrap_i64 (by omega) (by omega)
        have hlt2:=zOH k
        have hs:rcR (k+1)=rcS (rcR k):=rfl
        generalize rcR k=r at*
        have w1:IntKind.i64.wrap ((r:Int)*2)=((2*r:Nat):Int):=(wrap_i64 (by omega) (by omega)).trans (by omega)
        by_cases hc:2*r≥256
        · have w2 : IntKind.i64.wrap (((2 * r : Nat) : Int) - 256) = ((2 * r - 256 : Nat) : Int) := (wrap_i64 (by omega) (by omega)).trans (by omega)
          have hs2:rcS r=rcp (rcp (rcp (rcp (2*r - 256) 64) 32) 16) 1:=by unfold rcS;rw [if_pos hc]
          have hb:2*r - 256 < 256:=by omega
          have hge:(256:Int)≤((2*r:Nat):Int):=by omega
          generalize 2*r=r2 at*
          generalize r2 - 256=r3 at*
          simp [zeX,g0,g4,g3,hlt,w1,w2,hge,zaA,rep,zaa.cells,zaa.okV,chunks,zly,zLm]
          generalize hF:run ctx _ (.loop _) _ _=R
          obtain ⟨fr2,rfl,q1,q2⟩:=zFU r3 hb hF (by simp) (by simp) (by simp) (by simp)
          simp [q1,q2,wr,zcC,zbM,g4,w0,hs,hs2]
          exact hlt
        · have hs2 : rcS r = 2 * r := by unfold rcS; rw [if_neg hc]
          have hge:¬(256:Int)≤((2*r:Nat):Int):=by omega
          generalize 2*r=r2 at*
          simp [zeX,g0,g4,g3,hlt,w1,hge,w0,hs,hs2]
      · have : k = t := by omega
        subst this
        simp [zeX,g0,g4,g3])
  exact ⟨fr',rfl,h3'⟩
def rcB (t:Nat):Bool:=rcR t % 2==1
theorem zWJ (L:Lim) (h:zab) (t:Nat) (ht:t < 1000):zag ctx L zhe [.int .i64 t] h=some (.bool (rcB t),h):=by
  rw [zr4]
  simp [zkd]
  generalize hF:run ctx _ (.loop _) _ _=R
  obtain ⟨fr2,rfl,q1⟩:=zPF t ht hF (by simp) (by simp) (by simp)
  have t1:((rcR t:Nat):Int).tmod 2=((rcR t % 2:Nat):Int):=zoA _ 2
  have t2:(((rcR t % 2:Nat):Int)==1)=rcB t:=by
    unfold rcB;rw [Bool.eq_iff_iff];simp only [beq_iff_eq];omega
  generalize rcR t % 2=m at*
  simp [q1,zbs,t1,t2]
def zHq (r:Nat):Nat→List Bool
  | 0=>tab 64 fun _=>false
  | j+1=>(zHq r j).set (2 ^ j - 1) (rcB (j+7*r))
@[simp] theorem zLW (r:Nat):∀ k,(zHq r k).length=64
  | 0=>by simp [zHq]
  | k+1=>by simp [zHq,zLW r k]
theorem zS1:∀ r,r < 24→zHq r 7=tab 64 fun z=>(gd rcW 0#64 r).getLsbD z:=by decide +kernel
theorem zL0 {fr:Fr} {h:zab} {R:Option (AEx × Fr × zab)} (r:Nat) (hr:r < 24) (b:List zaa)
    (hF:run ctx (zak h) (.loop zbn) fr (hx h [b,cB (zHq r 0)] [])=R)
    (h0:fr 0=.int .i64 r) (h3:fr 3=pA h.blks.length 1 0) (h4:fr 4=.int .i64 1) (h5:fr 5=.int .i64 0):
    ∃ fr',R=some (.exit 0,fr',hx h [b,cB (zHq r 7)] [])∧∀ t,t∉wr zbn→fr' t=fr t:=by
  obtain ⟨e,fr',h',rfl,⟨rfl,rfl⟩,hk⟩:=zaf hF 7
    (fun k fr hh=>fr 5=.int .i64 k∧fr 4=.int .i64 ((2 ^ k:Nat):Int)∧hh=hx h [b,cB (zHq r k)] [])
    (fun e fr hh=>e=.exit 0∧hh=hx h [b,cB (zHq r 7)] [])
    ⟨h5,h4,rfl⟩ (by
      rintro k fr1 hh hkN hkeep ⟨g5,g4,rfl⟩
      have g0:=(hkeep 0 (by decide)).trans h0
      have g3:=(hkeep 3 (by decide)).trans h3
      by_cases hlt:k < 7
      · have w0 : IntKind.i64.wrap ((k : Int) + 1) = k + 1 := wrap_i64 (by omega) (by omega)
        have hp1:1≤2 ^ k:=Nat.one_le_two_pow
        have hp2:2 ^ k≤64:=by
          have:2 ^ k≤2 ^ 6:=Nat.pow_le_pow_right (by decide) (by omega)
          simpa using this
        have hs:zHq r (k+1)=(zHq r k).set (2 ^ k - 1) (rcB (k+7*r)):=rfl
        have hp3:2 ^ (k+1)=2*2 ^ k:=by rw [Nat.pow_succ,Nat.mul_comm]
        generalize hpk1:2 ^ (k+1)=pk1 at*
        generalize 2 ^ k=pk at*
        have w1:IntKind.i64.wrap ((pk:Int) - 1)=((pk - 1:Nat):Int):=(wrap_i64 (by omega) (by omega)).trans (by omega)
        have w2:IntKind.i64.wrap (7*(r:Int))=((7*r:Nat):Int):=(wrap_i64 (by omega) (by omega)).trans (by omega)
        have w3:IntKind.i64.wrap ((k:Int)+((7*r:Nat):Int))=((k+7*r:Nat):Int):=(wrap_i64 (by omega) (by omega)).trans (by omega)
        have w4:IntKind.i64.wrap ((pk:Int)*2)=(pk1:Int):=(wrap_i64 (by omega) (by omega)).trans (by omega)
        have hrc:=fun L h=>zWJ L h (k+7*r) (by omega)
        have hi1:pk - 1 < 64:=by omega
        have hi2:pk - 1+1≤64:=by omega
        generalize rcB (k+7*r)=v at*
        generalize k+7*r=k7 at*
        generalize 7*r=r7 at*
        generalize pk - 1=pm at*
        have e2:(2:Int) ^ (k+1)=(pk1:Int):=by rw [← hpk1,Int.natCast_pow];rfl
        simp [zbn,zak,g0,g3,g4,g5,hlt,show (k:Int) < 7 by omega,w0,w1,w2,w3,w4,hrc,zaP,hi1,hi2,hs,e2]
      · have : k = 7 := by omega
        subst this
        simp [zbn,g5])
  exact ⟨fr',rfl,hk⟩
theorem zAS (L : Lim) (h : zab) (r : Nat) (hr : r < 24) : zag ctx L zdO [.int .i64 r] h = some (.agg (cB (tab 64 fun z => (gd rcW 0#64 r).getLsbD z)), h) := by
  rw [zmc,← zS1 r hr]
  have e0:cB (tab 64 fun _=>false)=cB (zHq r 0):=rfl
  simp [zfE,zak,zkh,e0,zaj,zaA,zbp,zai,show ¬(r:Int) < 0 by omega,show ¬(23:Int) < r by omega]
  generalize hF:run ctx _ (.loop _) _ _=R
  obtain ⟨fr1,rfl,hk1⟩:=zL0 r hr _ hF (by simp) (by simp) (by simp) (by simp)
  simp [hk1,wr,zbn,zbM,zaj,zbp,zai]
theorem zL3 (l:List W64):piL (zU3 l)=zp2 l:=by kernel_rfl
end Go.Av
namespace Go.Av
theorem zEP (m:List W64) (hm:m.length=25) (c:W64) (x y z:Nat) (hx5:x < 5) (hy5:y < 5) (hz:z < 64):
    bit (m.set 0 (gd m 0#64 0 ^^^ c)) (x*320+y*64+z)=if x*320+y*64+z < 64 then bit m (x*320+y*64+z) ^^ c.getLsbD (x*320+y*64+z) else bit m (x*320+y*64+z):=by
  rw [zf9 _ _ _ _ hx5 hy5 hz,zf9 _ _ _ _ hx5 hy5 hz]
  by_cases h:x=0∧y=0
  · obtain ⟨rfl,rfl⟩:=h
    have:gd (m.set 0 (gd m 0#64 0 ^^^ c)) 0#64 0=gd m 0#64 0 ^^^ c:=by
      unfold gd;simp [List.getD,hm]
    rw [if_pos (by omega)]
    simp only [Nat.zero_mul,Nat.zero_add,Nat.mul_zero,this,BitVec.getLsbD_xor]
  · rw [if_neg (by omega)]
    congr 1
    unfold gd
    have:¬0=x+5*y:=by omega
    simp [List.getD,List.getElem?_set,this]
theorem zDf {fr:Fr} {h:zab} {R:Option (AEx × Fr × zab)} (m:List W64) (hm:m.length=25) (c:W64) (b:List zaa)
    (hF:run ctx (zak h) (.loop zcr) fr (hx h [cB (za0 m),b,cB (tab 64 fun z=>c.getLsbD z)] [])=R)
    (h2:fr 2=pA h.blks.length 0 0) (h5:fr 5=pA h.blks.length 2 0) (h6:fr 6=.int .i64 0):
    ∃ fr',R=some (.exit 0,fr',hx h [cB (za0 (m.set 0 (gd m 0#64 0 ^^^ c))),b,cB (tab 64 fun z=>c.getLsbD z)] [])∧∀ t,t∉wr zcr→fr' t=fr t:=by
  obtain ⟨e,fr',h',rfl,⟨rfl,rfl⟩,hk⟩:=zaf hF 64
    (fun k fr hh=>fr 6=.int .i64 k∧hh=hx h [cB (za6 1600 (bit (m.set 0 (gd m 0#64 0 ^^^ c))) (bit m) k),b,cB (tab 64 fun z=>c.getLsbD z)] [])
    (fun e fr hh=>e=.exit 0∧hh=hx h [cB (za0 (m.set 0 (gd m 0#64 0 ^^^ c))),b,cB (tab 64 fun z=>c.getLsbD z)] [])
    ⟨h6, by rw [zcc]; rfl⟩ (by
      rintro k fr1 hh hkN hkeep ⟨g6,rfl⟩
      have g2:=(hkeep 2 (by decide)).trans h2
      have g5:=(hkeep 5 (by decide)).trans h5
      by_cases hlt:k < 64
      · have w0 : IntKind.i64.wrap ((k : Int) + 1) = k + 1 := wrap_i64 (by omega) (by omega)
        have hset:=zdn 1600 (bit (m.set 0 (gd m 0#64 0 ^^^ c))) (bit m) k
        have hb:=zEP m hm c 0 0 k (by decide) (by decide) hlt
        simp only [Nat.zero_mul,Nat.zero_add] at hb
        rw [if_pos hlt] at hb
        rw [hb] at hset
        have b0:gd (za6 1600 (bit (m.set 0 (gd m 0#64 0 ^^^ c))) (bit m) k) false k=bit m k:=zwU (by omega)
        have b1:gd (tab 64 fun z=>c.getLsbD z) false k=c.getLsbD k:=zbz hlt
        generalize hM1:za6 1600 (bit (m.set 0 (gd m 0#64 0 ^^^ c))) (bit m) (k+1)=M1 at*
        have hML:=zz8 1600 (bit (m.set 0 (gd m 0#64 0 ^^^ c))) (bit m) k
        generalize za6 1600 (bit (m.set 0 (gd m 0#64 0 ^^^ c))) (bit m) k=M0 at*
        have hCL:=zwQ 64 (fun z=>c.getLsbD z)
        generalize (tab 64 fun z=>c.getLsbD z)=C0 at*
        generalize bit m k=v0 at*
        generalize c.getLsbD k=v1 at*
        simp [zcr,zak,g2,g5,g6,hlt,show (k:Int) < 64 by omega,w0,zaP,show k < 1600 by omega,show k≤1599 by omega,hML,hCL,b0,b1]
        have e1:(!(v0==v1))=(v0 ^^ v1):=by cases v0 <;> cases v1 <;> rfl
        rw [e1,hset,hM1]
      · have : k = 64 := by omega
        subst this
        have e0 : za6 1600 (bit (m.set 0 (gd m 0#64 0 ^^^ c))) (bit m) 64 = za0 (m.set 0 (gd m 0#64 0 ^^^ c)) := zaN fun j hj => by
          by_cases hj:j < 64
          · rw [if_pos hj]
          · rw [if_neg hj]
            obtain ⟨x,y,z,hx5,hy5,hz,rfl⟩:=zSB (by assumption)
            rw [zEP m hm c x y z hx5 hy5 hz,if_neg hj]
        simp [zcr,g6,e0])
  exact ⟨fr',rfl,hk⟩
theorem zF6 (L:Lim) (h:zab) (l:List W64) (k:Nat) (hk:k < 24):zag ctx L zff [.agg (cB (za0 l)),.int .i64 k] h=some (.agg (cB (za0 (zuJ l k))),h):=by
  rw [zpi]
  simp [zhI,zak,zkh,zbX,zaa.okV,zaa.cells,zaj,zbp,zai,zH7,zPr,zU1,zPt,zAS,hk,zL3]
  generalize hF:run ctx _ (.loop _) _ _=R
  obtain ⟨fr1,rfl,hk1⟩:=zDf (ztT (zp2 (zeL l))) (by simp) _ _ hF (by simp) (by simp) (by simp)
  simp [hk1,wr,zcr,zbM,zaj,zbp,zai,zuJ]
theorem zDj {fr:Fr} {h:zab} {R:Option (AEx × Fr × zab)} (l:List W64) (b:List zaa)
    (hF:run ctx (zak h) (.loop zbC) fr (hx h [b,cB (za0 l)] [])=R)
    (h3:fr 3=pA h.blks.length 1 0) (h4:fr 4=.int .i64 0):
    ∃ fr',R=some (.exit 0,fr',hx h [b,cB (za0 (zmk l))] [])∧∀ t,t∉wr zbC→fr' t=fr t:=by
  obtain ⟨e,fr',h',rfl,⟨rfl,rfl⟩,hk⟩:=zaf hF 24
    (fun k fr hh=>fr 4=.int .i64 k∧hh=hx h [b,cB (za0 (zBC l k))] [])
    (fun e fr hh=>e=.exit 0∧hh=hx h [b,cB (za0 (zmk l))] [])
    ⟨h4,rfl⟩ (by
      rintro k fr1 hh hkN hkeep ⟨g4,rfl⟩
      have g3:=(hkeep 3 (by decide)).trans h3
      by_cases hlt:k < 24
      · have w0 : IntKind.i64.wrap ((k : Int) + 1) = k + 1 := wrap_i64 (by omega) (by omega)
        simp [zbC,zak,g3,g4,hlt,show (k:Int) < 24 by omega,w0,zaj,zbp,zai,zF6,zue]
      · have : k = 24 := by omega
        subst this
        simp [zbC,g4,zmk])
  exact ⟨fr',rfl,hk⟩
theorem zA1 (L:Lim) (h:zab) (l:List W64) (hl:l.length=25):zag ctx L zd7 [.agg (cW l)] h=some (.agg (cW (zmk l)),h):=by
  rw [zny]
  simp [zf6,zak,zaI,zkh,zaj,hl,zbp,zai,zG6]
  generalize hF:run ctx _ (.loop _) _ _=R
  obtain ⟨fr1,rfl,hk1⟩:=zDj l _ hF (by simp) (by simp)
  simp [hk1,wr,zbC,zbM,zaj,zbp,zai,zG8,zfv,hl]
def obK (b:List Int) (n:Nat):Nat→List W64
  | 0=>tab 25 fun _=>0#64
  | k+1=>let i:=n - 1 - k;(obK b n k).set (i / 8) (gd (obK b n k) 0#64 (i / 8)*256#64+bw (gd b 0 i))
@[simp] theorem zIw (b:List Int) (n:Nat):∀ k,(obK b n k).length=25
  | 0=>by simp [obK]
  | k+1=>by simp [obK,zIw b n k]
def ze2 (b:List Int):List W64:=obK b 200 200
theorem zPU {fr:Fr} {h:zab} {R:Option (AEx × Fr × zab)} (b:List Int) (hb:b.length=200) (x:zaa) (z:List zaa) (hr:RdI h .u8 x b)
    (hF:run ctx (zak h) (.loop zbD) fr (hx h [z,cW (obK b 200 0)] [])=R)
    (h0:fr 0=x) (h3:fr 3=pA h.blks.length 1 0) (h4:fr 4=.int .i64 199):
    ∃ fr',R=some (.exit 0,fr',hx h [z,cW (ze2 b)] [])∧∀ t,t∉wr zbD→fr' t=fr t:=by
  obtain ⟨r1,p,r2,r3⟩:=hr
  obtain ⟨e,fr',h',rfl,⟨rfl,rfl⟩,hk⟩:=zaf hF 200
    (fun k fr hh=>fr 4=.int .i64 (199 - (k:Int))∧hh=hx h [z,cW (obK b 200 k)] [])
    (fun e fr hh=>e=.exit 0∧hh=hx h [z,cW (ze2 b)] [])
    ⟨h4,rfl⟩ (by
      rintro k fr1 hh hkN hkeep ⟨g4,rfl⟩
      have g0:=(hkeep 0 (by decide)).trans h0
      have g3:=(hkeep 3 (by decide)).trans h3
      by_cases hlt:k < 200
      · obtain ⟨i,hi⟩:∃ i:Nat,i=199 - k:=⟨_,rfl⟩
        have hi200:i < 200:=by omega
        have g4':fr1 4=.int .i64 (i:Int):=by rw [g4];congr 1;omega
        have w1:IntKind.i64.wrap ((i:Int) - 1)=199 - ((k+1:Nat):Int):=(wrap_i64 (by omega) (by omega)).trans (by omega)
        have hst:obK b 200 (k+1)=(obK b 200 k).set (i / 8) (gd (obK b 200 k) 0#64 (i / 8)*256#64+bw (gd b 0 i)):=by
          rw [obK,show 200 - 1 - k=i by omega]
        have t1:(i:Int).tdiv 8=((i / 8:Nat):Int):=zuB i 8
        have t2:=zfQ (i / 8) (by omega)
        have hq:i / 8 < 25:=by omega
        have hq2:i / 8≤24:=by omega
        generalize i / 8=q at*
        have hm2:zaa.int .u64 256=wd 256#64:=rfl
        have hib:i < b.length:=by omega
        have hL:=zIw b 200 k
        generalize hM1:obK b 200 (k+1)=M1 at*
        generalize obK b 200 k=M0 at*
        simp [-zdV,zbD,zak,g0,g3,g4',show (0:Int)≤i by omega,t1,t2,zc9,zaP,hq,hq2,hm2,hL,r2 i hib,r3 i _ _ hib,← hst,w1]
        exact ⟨hlt,by rw [hM1]⟩
      · have : k = 200 := by omega
        subst this
        simp [zbD,g4,ze2])
  exact ⟨fr',rfl,hk⟩
def GrO (h:zab) (bs:List (List zaa)) (ts:List Nat) (f:Nat→Int) (v:zaa) (hh:zab) (m:Nat):Prop:=
  (m=0∧v=.vsl true []∧hh=hx h bs ts)∨(0 < m∧∃ bs',(∃ js,bs'=bs++js)∧v=sA h.blks.length bs'.length 0 1 m none∧hh=hx h (bs'++[cI .u8 (tab m f)]) ts)
theorem GrO.step {h:zab} {bs:List (List zaa)} {ts:List Nat} {f:Nat→Int} {v:zaa} {hh:zab} {m:Nat} {L:Lim} (hg:GrO h bs ts f v hh m) (hm:m < 1000000) (hL:L.rob≤h.blks.length):
    ∃ v' hh',zqX L hh 1 true v (.vsl true (eI .u8 [f m]))=some (v',hh')∧GrO h bs ts f v' hh' (m+1):=by
  rcases hg with ⟨rfl,rfl,rfl⟩ | ⟨h0,bs',⟨js,hjs⟩,rfl,rfl⟩
  · refine ⟨_, _, zIh L h bs ts 1 true [] (eI .u8 [f 0]) (by simp [zam]; rfl), .inr ⟨by omega, bs, ⟨[], by simp⟩, ?_, ?_⟩⟩
    · simp
    · simp [tab,eI,cI]
  · refine ⟨_, _, zPL L h (bs' ++ [cI .u8 (tab m f)]) ts bs'.length m .u8 (tab m f) [f m] true (by simp) (by simp [zam]; omega), .inr ⟨by omega, (bs' ++ [cI .u8 (tab m f)]).set bs'.length [], ⟨js ++ [[]], by rw [List.set_append_right _ _ (Nat.le_refl _), Nat.sub_self, hjs, List.append_assoc]; rfl⟩, ?_, ?_⟩⟩
    · simp
    · rw [zig]
theorem zPX (w:W64):((w % 256#64).toNat % 256:Nat)=w.toNat % 256:=by
  rw [BitVec.toNat_umod]
  show w.toNat % 256 % 256=_
  omega
theorem zGa {L : Lim} {fr : Fr} {h hh : zab} {R : Option (AEx × Fr × zab)} (l : List W64) (bs : List (List zaa)) (ts : List Nat) (i : Nat) (hi : i < 25) (f : Nat → Int) (hf : f = fun j => byW (gd l 0#64 (j / 8)) (j % 8)) (hL : L.rob ≤ h.blks.length)
    (hF:run ctx L (.loop zcn) fr hh=R) (hg:GrO h bs ts f (fr 3) hh (8*i))
    (h5:fr 5=wd (gd l 0#64 i)) (h6:fr 6=.int .i64 0):
    ∃ fr' hh',R=some (.exit 2,fr',hh')∧GrO h bs ts f (fr' 3) hh' (8*(i+1))∧∀ t,t∉wr zcn→fr' t=fr t:=by
  obtain ⟨e,fr',h',rfl,⟨rfl,h3'⟩,hk⟩:=zaf hF 8
    (fun k fr hh=>fr 6=.int .i64 k∧fr 5=wd (gd l 0#64 i >>> (8*k))∧GrO h bs ts f (fr 3) hh (8*i+k))
    (fun e fr hh=>e=.exit 2∧GrO h bs ts f (fr 3) hh (8*(i+1)))
    ⟨h6, by simpa using h5, hg⟩ (by
      rintro k fr1 hh hkN hkeep ⟨g6,g5,gg⟩
      by_cases hlt:k < 8
      · have w1 : IntKind.i64.wrap ((k : Int) + 1) = k + 1 := wrap_i64 (by omega) (by omega)
        have hfk:((((gd l 0#64 i >>> (8*k)).toNat % 256:Nat):Int))=f (8*i+k):=by
          rw [hf];simp only [byW]
          rw [show (8*i+k) / 8=i by omega,show (8*i+k) % 8=k by omega]
        have hsh:gd l 0#64 i >>> (8*k) >>> 8=gd l 0#64 i >>> (8*(k+1)):=by
          rw [← BitVec.shiftRight_add];rfl
        obtain ⟨v',hh',ea,gg'⟩:=gg.step (L:=L) (by omega) hL
        have hby:=zPX (gd l 0#64 i >>> (8*k))
        have hu:=ztr (gd l 0#64 i >>> (8*k) % 256#64)
        rw [hby,hfk] at hu
        generalize hw1:gd l 0#64 i >>> (8*(k+1))=w1' at*
        generalize gd l 0#64 i >>> (8*k)=w at*
        simp [-ztr,zcn,g6,g5,hlt,show (k:Int) < 8 by omega,w1,zKW,zKX,hu,zaA,rep,zaa.cells,zaa.okV,chunks,zly,ea,hsh]
        exact ⟨by rw [hw1],gg'⟩
      · have : k = 8 := by omega
        subst this
        have e8:8*i+8=8*(i+1):=by omega
        rw [e8] at gg
        simp [zcn,g6,gg])
  exact ⟨fr',h',rfl,h3',hk⟩
theorem zPY {L : Lim} {fr : Fr} {h hh : zab} {R : Option (AEx × Fr × zab)} (l : List W64) (hl : l.length = 25) (bs : List (List zaa)) (ts : List Nat) (f : Nat → Int) (hf : f = fun j => byW (gd l 0#64 (j / 8)) (j % 8)) (hL : L.rob ≤ h.blks.length)
    (hF:run ctx L (.loop zeG) fr hh=R) (hg:GrO h bs ts f (fr 3) hh 0)
    (h1:fr 1=.vptr (cW l) 0) (h4:fr 4=.int .i64 0):
    ∃ fr' hh',R=some (.exit 0,fr',hh')∧GrO h bs ts f (fr' 3) hh' 200:=by
  obtain ⟨e,fr',h',rfl,⟨rfl,h3'⟩,hk⟩:=zaf hF 25
    (fun k fr hh=>fr 4=.int .i64 k∧GrO h bs ts f (fr 3) hh (8*k))
    (fun e fr hh=>e=.exit 0∧GrO h bs ts f (fr 3) hh 200)
    ⟨h4,hg⟩ (by
      rintro k fr1 hh hkN hkeep ⟨g4,gg⟩
      have g1:=(hkeep 1 (by decide)).trans h1
      by_cases hlt:k < 25
      · have w1 : IntKind.i64.wrap ((k : Int) + 1) = k + 1 := wrap_i64 (by omega) (by omega)
        simp [zeG,g1,g4,hlt,show (k:Int) < 25 by omega,ze6,hl]
        generalize hF:run ctx _ (.loop _) _ _=R
        obtain ⟨fr2,hh2,rfl,q1,q2⟩:=zGa l bs ts k hlt f hf hL hF (by simpa using gg) (by simp) (by simp)
        simp [q1,q2,wr,zcn,zbM,g4,w1]
        exact hlt
      · have : k = 25 := by omega
        subst this
        simp [zeG,g4]
        exact gg)
  exact ⟨fr',h',rfl,h3'⟩
theorem zDl (L:Lim) (h:zab) (bs:List (List zaa)) (ts:List Nat) (l:List W64) (hl:l.length=25) (hL:L.rob≤h.blks.length):
    ∃ bs',(∃ js,bs'=bs++js)∧zag ctx L zfc [.agg (cW l)] (hx h bs ts)=some (sA h.blks.length bs'.length 0 1 200 none,hx h (bs'++[cI .u8 (zbQ l)]) ts):=by
  rw [zpf]
  simp [zhz,rep,chunks,zaA]
  generalize hF:run ctx _ (.loop _) _ _=R
  obtain ⟨fr',hh',rfl,hg⟩:=zPY l hl bs ts _ rfl hL hF (.inl ⟨rfl,by simp,by simp⟩) (by simp) (by simp)
  rcases hg with ⟨h0,_⟩ | ⟨_,bs',hj,e1,e2⟩
  · omega
  · refine ⟨bs',hj,?_⟩
    simp [e1,e2]
    have:zbQ l=tab 200 fun j=>byW (gd l 0#64 (j / 8)) (j % 8):=by unfold zbQ;rw [hl]
    rw [this]
end Go.Av
namespace Go.Av
structure Sp where
  S:List Int
  a:Nat
  b:Nat
  c:Nat
def zpK (S:List Int):List Int:=zbQ (zmk (ze2 S))
theorem zet (S:List Int):(ze2 S).length=25:=by simp [ze2]
theorem zGj (l : List W64) : inB (zbQ l) := fun i hi => by
  unfold zbQ at hi ⊢
  rw [zbz (by simpa using hi)]
  unfold byW;omega
@[simp] theorem zvp (S:List Int):(zpK S).length=200:=by simp [zpK,zbQ,zfv,zet]
theorem zMB (S:List Int):inB (zpK S):=zGj _
def zBi (s:Sp):Sp:=⟨zpK s.S,0,s.b,s.c+1⟩
def zMW (s:Sp):Sp:=if s.b=136 then {zBi s with b:=0} else s
def zxy (s:Sp):Sp:={zMW s with b:=(zMW s).b+1}
def zR9 (s:Sp):Int:=gd (zMW s).S 0 (zMW s).b
def zd5 (s:Sp):Nat→Sp
  | 0=>s
  | n+1=>zxy (zd5 s n)
def zpl (s:Sp) (n:Nat):List Int:=tab n fun k=>zR9 (zd5 s k)
def Sp.ok (s:Sp):Prop:=s.S.length=200∧inB s.S∧s.a≤136∧s.b≤136
theorem zzA {s:Sp} (h:s.ok):(zBi s).ok:=⟨by simp [zBi],zMB _,by simp [zBi],h.2.2.2⟩
theorem zQA {s:Sp} (h:s.ok):(zMW s).ok∧(zMW s).b < 136:=by
  unfold zMW
  split
  · exact ⟨⟨(zzA h).1,(zzA h).2.1,(zzA h).2.2.1,by simp⟩,by simp⟩
  · exact ⟨h,by have:=h.2.2.2;omega⟩
theorem zM3 {s:Sp} (h:s.ok):(zxy s).ok:=by
  obtain ⟨⟨h1,h2,h3,h4⟩,h5⟩:=zQA h
  exact ⟨h1,h2,h3,by simp only [zxy];omega⟩
theorem zzF {s:Sp} (h:s.ok):∀ n,(zd5 s n).ok
  | 0=>h
  | n+1=>zM3 (zzF h n)
theorem zM5 (n : Nat) : inB (tab n fun _ => 0) := fun i hi => by
  rw [zbz (by simpa using hi)];omega
theorem zM7 {l m:List Int} {off:Nat} (h:off+m.length≤l.length) (j:Nat) (hj:j < l.length):gd (putAt l off m) 0 j=if off≤j∧j < off+m.length then gd m 0 (j - off) else gd l 0 j:=by
  unfold putAt
  by_cases h1:j < off
  · rw [zAm _ _ _ _ (by simp;omega),zss h1,if_neg (by omega)]
  · rw [zAo _ _ _ _ (by simp; omega), List.length_take, Nat.min_eq_left (by omega)]
    by_cases h2:j < off+m.length
    · rw [zAm _ _ _ _ (by omega),if_pos (by omega)]
    · rw [zAo _ _ _ _ (by omega), if_neg (by omega)]
      unfold gd;simp only [List.getD,List.getElem?_drop]
      congr 2;omega
theorem zJG {l m : List Int} {off : Nat} (h : off + m.length ≤ l.length) (hl : inB l) (hm : inB m) : inB (putAt l off m) := fun j hj => by
  rw [zwA _ _ _ h] at hj
  rw [zM7 h j hj]
  split
  · exact hm _ (by omega)
  · exact hl j hj
theorem zBz (s:Sp) (m:Nat):∀ n,zd5 s (m+n)=zd5 (zd5 s m) n
  | 0=>rfl
  | n+1=>by rw [← Nat.add_assoc,zd5,zd5,zBz s m n]
theorem zFb (s:Sp) (n:Nat):(zpl s n).length=n:=by simp [zpl]
theorem zNb (s:Sp) (m n:Nat):zpl s (m+n)=zpl s m++zpl (zd5 s m) n:=by
  refine List.ext_getElem? fun j=>?_
  simp only [zpl]
  rw [zhh]
  by_cases h1:j < m
  · rw [List.getElem?_append_left (by simpa using h1),zhh,if_pos h1,if_pos (by omega)]
  · rw [List.getElem?_append_right (by simp; omega), zhh, zwQ]
    by_cases h2:j - m < n
    · rw [if_pos h2,if_pos (by omega),← zBz,show m+(j - m)=j by omega]
    · rw [if_neg h2,if_neg (by omega)]
theorem zBB (s:Sp) (n:Nat):zpl s (n+1)=zpl s n++[zR9 (zd5 s n)]:=by rw [zNb];rfl
def zj6 (l:List Int):Sp:=⟨putAt (tab 200 fun _=>0) 136 l,0,136,0⟩
theorem zQF {l:List Int} (h:l.length≤64) (hl:inB l):(zj6 l).ok:=
  ⟨by simp only [zj6];rw [zwA _ _ _ (by simp;omega)];simp,zJG (by simp;omega) (zM5 200) hl,by simp [zj6],by simp [zj6]⟩
end Go.Av
namespace Go.Av
theorem zOL (b:List Int) (hb:inB b) (hl:b.length=200):∀ k,k≤200→∀ q,q < 25→(gd (obK b 200 k) 0#64 q).toNat=leN ((b.take (8*q+8)).drop (max (200 - k) (8*q)))
  | 0,_,q,hq=>by rw [obK,zbz hq,List.drop_eq_nil_of_le (by simp;omega)];rfl
  | k + 1, hk, q, hq => by
    have ih:=zOL b hb hl k (by omega) q hq
    obtain ⟨i,hi⟩:∃ i,i=199 - k:=⟨_,rfl⟩
    have hi2:200 - (k+1)=i:=by omega
    have hi3:200 - k=i+1:=by omega
    have hbi:=hb i (by omega)
    rw [obK,show 200 - 1 - k=i by omega,hi2]
    rw [hi3] at ih
    rw [zlA _ _ _ _ _ (by simp;omega)]
    by_cases h:i / 8=q
    · rw [if_pos h,h]
      obtain ⟨v,hv⟩:∃ v:Nat,gd b 0 i=(v:Int):=⟨(gd b 0 i).toNat,by omega⟩
      have e1:max (i+1) (8*q)=i+1:=by omega
      have e2:max i (8*q)=i:=by omega
      rw [e1] at ih
      rw [e2]
      have hil:i < (b.take (8*q+8)).length:=by simp;omega
      have hcons:(b.take (8*q+8)).drop i=gd b 0 i :: (b.take (8*q+8)).drop (i+1):=by
        rw [List.drop_eq_getElem_cons hil]
        congr 1
        simp [gd,List.getD,List.getElem_take,show i < b.length by omega]
      have hB:=zAt (zAr hb (8*q+8)) i
      have hlt:=zCH hB
      rw [hcons] at hlt ⊢
      have hlen:((b.take (8*q+8)).drop (i+1)).length≤7:=by simp;omega
      simp only [leN,List.length_cons] at hlt ⊢
      have hp:(256:Nat) ^ (((b.take (8*q+8)).drop (i+1)).length+1)≤2 ^ 64:=by
        rw [show (2:Nat) ^ 64=256 ^ 8 from rfl];exact Nat.pow_le_pow_right (by decide) (by omega)
      rw [BitVec.toNat_add,BitVec.toNat_mul,ih,hv,zLq v (by omega)]
      rw [hv] at hlt
      simp only [Int.toNat_natCast] at hlt ⊢
      rw [show (256#64:W64).toNat=256 from rfl,Nat.mod_add_mod,Nat.mod_eq_of_lt (by omega)]
      omega
    · rw [if_neg h,ih]
      by_cases h2:i < 8*q
      · rw [show max (i+1) (8*q)=max i (8*q) by omega]
      · rw [List.drop_eq_nil_of_le (by simp;omega),List.drop_eq_nil_of_le (by simp;omega)]
theorem zHK (b:List Int) (hb:inB b) (hl:b.length=200):wdP b 25 200=ze2 b:=by
  refine List.ext_getElem? fun q=>?_
  by_cases hq:q < 25
  · rw [zou (d := 0#64) (by rw [zAw]; exact hq), zou (d := 0#64) (by rw [zet]; exact hq)]
    refine congrArg some ?_
    apply BitVec.eq_of_toNat_eq
    rw [zLt b hb 25 200 (by omega) (by omega) q hq,ze2,zOL b hb hl 200 (by omega) q hq]
    unfold bck
    rw [show min 200 (8*q+8)=8*q+8 by omega,show max (200 - 200) (8*q)=8*q by omega]
  · rw [List.getElem?_eq_none (by rw [zAw];omega),List.getElem?_eq_none (by rw [zet];omega)]
end Go.Av
