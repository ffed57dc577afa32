/- The document's shift register, matrix, table, rounds and permutation are those of the numbers. -/
import Derived.Test.YtbofkfgfnaigkaaGreatDoorC9
import Derived.Test.YtbofkfgfnaigkaaGreatDoorC4
import Derived.Test.YtbofkfgfnaigkaaGreatDoorC5
set_option linter.unusedSimpArgs false
set_option linter.unusedVariables false
set_option maxHeartbeats 2000000
set_option maxRecDepth 20000
namespace Go.Av
def eBl (l:List Bool):List (List zaa):=l.map fun b=>[.bool b]
@[simp] theorem zDG (l:List Bool):(eBl l).length=l.length:=by simp [eBl]
@[simp] theorem zE4 (l:List Bool):zh1 1 (eBl l)=true:=by cases l <;> rfl
theorem zE5 (l:List Bool) (b:Bool):eBl l++[[.bool b]]=eBl (l++[b]):=by simp [eBl]
@[simp] theorem zJn (nb nt:Nat):∀ l:List Bool,zaq nb nt (eBl l)=true
  | []=>rfl
  | b :: l => by
    show (zap nb nt [zaa.bool b]&&zaq nb nt (eBl l))=true
    rw [zJn nb nt l];rfl
def zj5 (p:Nat):List Bool:=tab p fun j=>zhR.testBit j
@[simp] theorem zzy (p:Nat):(zj5 p).length=p:=by simp [zj5]
theorem zBq (p:Nat):zj5 p++[zhR.testBit p]=zj5 (p+1):=zig _ _
theorem zJr {L:Lim} {fr:Fr} {h:zab} {R:Option (AEx × Fr × zab)} (n i:Nat) (hn:n < 2 ^ 60)
    (hF:run ctx L (.loop zc3) fr h=R) (h7:fr 7=.int .i64 (i:Int)) (h8:fr 8=.int .i64 (n:Int)) (h9:fr 9=.int .i64 0) (hi:i < 1000):
    ∃ fr',R=some (.exit 2,fr',h)∧fr' 8=.int .i64 ((n / 2 ^ i:Nat):Int)∧∀ t,t∉wr zc3→fr' t=fr t:=by
  obtain ⟨e,fr',h',rfl,⟨rfl,rfl,h8'⟩,hk⟩:=zaf hF i
    (fun k fr hh=>fr 9=.int .i64 (k:Int)∧fr 8=.int .i64 ((n / 2 ^ k:Nat):Int)∧hh=h)
    (fun e fr hh=>e=.exit 2∧hh=h∧fr 8=.int .i64 ((n / 2 ^ i:Nat):Int))
    ⟨h9, by rw [Nat.pow_zero, Nat.div_one]; exact h8, rfl⟩ (by
      rintro k fr1 hh hkN hkeep ⟨g9,g8,rfl⟩
      have g7:=(hkeep 7 (by decide)).trans h7
      by_cases hlt:k < i
      · have w1 : IntKind.i64.wrap ((k : Int) + 1) = k + 1 := wrap_i64 (by omega) (by omega)
        have hle:(k:Int) < i:=by omega
        have hd:n / 2 ^ (k+1)=n / 2 ^ k / 2:=by rw [Nat.pow_succ,Nat.div_div_eq_div_mul]
        have hle2:n / 2 ^ k≤n:=Nat.div_le_self _ _
        have w2:IntKind.i64.wrap (((n / 2 ^ k:Nat):Int) / 2)=((n / 2 ^ (k+1):Nat):Int):=by
          rw [hd]
          generalize n / 2 ^ k=m at*
          exact wrap_i64 (by omega) (by omega)
        generalize hm2:((n / 2 ^ (k+1):Nat):Int)=m2 at*
        generalize hm1:((n / 2 ^ k:Nat):Int)=m1 at*
        have hm0:0≤m1:=hm1 ▸ Int.natCast_nonneg _
        have w3:m1.tdiv 2=m1 / 2:=Int.tdiv_eq_ediv_of_nonneg hm0
        simp -implicitDefEqProofs [zc3,g7,g8,g9,zc9,hle,w1,w2,w3]
        exact ⟨hlt,by rw [← hm2];simp⟩
      · have : k = i := by omega
        subst this
        generalize ((n / 2 ^ k:Nat):Int)=m2 at*
        simp [zc3,g7,g8,g9])
  exact ⟨fr',rfl,h8',hk⟩
theorem zRe (n i:Nat):((((n / 2 ^ i % 2:Nat):Int))==1)=n.testBit i:=by
  rw [Nat.testBit_eq_decide_div_mod_eq]
  by_cases e:n / 2 ^ i % 2=1
  · rw [e];rfl
  · rw [decide_eq_false e];exact beq_false_of_ne (by omega)
theorem zCg {L:Lim} {fr:Fr} {h:zab} {R:Option (AEx × Fr × zab)} (n w p:Nat) (hw:w≤60) (hn:n < 2 ^ 60) (hp:p+w≤80) (hbit:∀ k,k < w→n.testBit (w - 1 - k)=zhR.testBit (p+k)) (hL:L.rot≤h.toks.length)
    (V:Nat→zaa) (H:Nat→zab) (hV:∀ L,L.rot≤h.toks.length→∀ q c,p≤q→q < 80→zqX L (H q) 1 false (V q) (.vsl c [[.bool (zhR.testBit q)]])=some (V (q+1),H (q+1)))
    (hF:run ctx L (.loop zfN) fr (H p)=R)
    (h0:fr 0=V p) (h1:fr 1=.int .i64 (n:Int)) (h7:fr 7=.int .i64 ((w:Int) - 1)):
    ∃ fr',R=some (.exit 0,fr',H (p+w))∧fr' 0=V (p+w):=by
  obtain ⟨e,fr',h',rfl,⟨rfl,rfl,h0'⟩,hk⟩:=zaf hF w
    (fun k fr hh=>∃ j,j+k=w∧fr 7=.int .i64 ((j:Int) - 1)∧fr 0=V (p+k)∧hh=H (p+k))
    (fun e fr hh=>e=.exit 0∧hh=H (p+w)∧fr 0=V (p+w))
    ⟨w,rfl,h7,h0,rfl⟩ (by
      rintro k fr1 hh hkN hkeep ⟨j,hj,g7,g0,rfl⟩
      have g1:=(hkeep 1 (by decide)).trans h1
      cases j with
      | succ i=>
        rw [show (((i+1:Nat):Int) - 1)=(i:Int) by omega] at g7
        have w1:IntKind.i64.wrap ((i:Int) - 1)=(i:Int) - 1:=wrap_i64 (by omega) (by omega)
        have hnn:(i:Int)≥0:=by omega
        have hlo:=fun L fr R h=>zJr (L:=L) (fr:=fr) (h:=h) (R:=R) n i hn
        have hb:=zRe n i
        have hbi:=hbit k (by omega)
        rw [show w - 1 - k=i by omega] at hbi
        rw [hbi] at hb
        have hap:=hV L hL (p+k) true (by omega) (by omega)
        have hmod:((n / 2 ^ i:Nat):Int).tmod 2=((n / 2 ^ i % 2:Nat):Int):=zoA _ 2
        have hfill:∀ b:Bool,zaA (rep [zaa.bool false] 1) [(0,1,.bool b)]=some [.bool b]:=fun b=>rfl
        generalize ((n / 2 ^ i % 2:Nat):Int)=m2 at*
        generalize ((n / 2 ^ i:Nat):Int)=m1 at*
        generalize zhR.testBit (p+k)=bb at*
        simp -implicitDefEqProofs [zfN,g0,g1,g7]
        generalize hF:run ctx _ (.loop _) _ _=R
        obtain ⟨fr2,rfl,f8,hk2⟩:=hlo _ _ _ _ hF (by simp [g7]) (by simp) (by simp) (by omega)
        simp -implicitDefEqProofs [hk2,wr,zc3,zbM,g0,g7,f8,zbs,hmod,hb,hfill,zki,hap,w1]
        exact ⟨by omega,i,by omega,rfl,rfl,rfl⟩
      | zero=>
        have:k=w:=by omega
        subst this
        simp [zfN,g7,g0])
  exact ⟨fr',rfl,h0'⟩
end Go.Av
namespace Go.Av
theorem zG2 (L:Lim) (h:zab) (bs:List (List zaa)) (n w:Nat) (hw0:0 < w) (hw:w≤60) (hn:n < 2 ^ 60) (hbit:∀ k,k < w→n.testBit (w - 1 - k)=zhR.testBit k) (hL:L.rot≤h.toks.length):
    zag ctx L zao [.nsl,.int .i64 (n:Int),.int .i64 (w:Int)] (hx h bs [])=some (gA h.toks.length 0 (eBl (zj5 w)),hx h bs [w]):=by
  rw [zkt]
  have hLb:L.rot≤(hx h bs []).toks.length:=by rw [zaQ];simpa using hL
  have hlo := fun L hL2 fr R => zCg (L := L) (fr := fr) (h := hx h bs []) (R := R) n w 0 hw hn (by omega) (by simpa using hbit) hL2
    (fun q => gL .nsl (hx h bs []).toks.length 0 (eBl (zj5 q))) (fun q => hx (hx h bs []) [] (gT (eBl (zj5 q)))) (fun L hL q c _ hq => by
      have:=zw1 L (hx h bs []) [] 1 c (eBl (zj5 q)) [[.bool (zhR.testBit q)]] (by rw [zE4];simp [zam,hL];omega)
      rw [zE5,zBq] at this
      exact this)
  have hg0:gL .nsl (hx h bs []).toks.length 0 (eBl (zj5 0))=.nsl:=rfl
  have ht0:gT (eBl (zj5 0))=[]:=rfl
  simp only [hg0,ht0,Nat.zero_add] at hlo
  have hne:eBl (zj5 w)≠[]:=fun e=>by have:=congrArg List.length e;simp at this;omega
  have hgw:gL .nsl (hx h bs []).toks.length 0 (eBl (zj5 w))=gA (hx h bs []).toks.length 0 (eBl (zj5 w)):=by unfold gL;rw [if_neg hne]
  have htw:gT (eBl (zj5 w))=[w]:=by unfold gT;rw [if_neg hne];simp
  simp only [hgw,htw] at hlo
  have hret:=zFv (hx h bs []) [] [w] (eBl (zj5 w)) (by simp)
  rw [zDG,zzy,zLd] at hret
  have w1:IntKind.i64.wrap ((w:Int) - 1)=(w:Int) - 1:=wrap_i64 (by omega) (by omega)
  have htl:(hx h bs []).toks.length=h.toks.length:=by rw [zaQ];simp
  have hfin:some (zaa.gsl (hx h bs []).toks.length (eBl (zj5 w)),hx h bs ([]++[w]))=some (gA h.toks.length 0 (eBl (zj5 w)),hx h bs [w]):=by
    rw [htl];rfl
  rw [← hfin,← hret]
  clear hfin hret
  generalize eBl (zj5 w)=es at*
  generalize hx h bs []=h1 at*
  simp -implicitDefEqProofs [zgJ,w1]
  generalize hF:run ctx _ (.loop _) _ _=R
  obtain ⟨fr1,rfl,h0⟩:=hlo ⟨L.rob,L.rot,h1.blks.length,h1.toks.length⟩ hLb _ _ hF (by simp) (by simp) (by simp)
  simp -implicitDefEqProofs [h0]
theorem zkL (L:Lim) (h:zab) (bs:List (List zaa)) (n w p:Nat) (hp0:0 < p) (hw:w≤60) (hn:n < 2 ^ 60) (hp:p+w≤80) (hbit:∀ k,k < w→n.testBit (w - 1 - k)=zhR.testBit (p+k)) (hL:L.rot≤h.toks.length):
    zag ctx L zao [gA h.toks.length 0 (eBl (zj5 p)),.int .i64 (n:Int),.int .i64 (w:Int)] (hx h bs [p])=some (gA h.toks.length 0 (eBl (zj5 (p+w))),hx h bs [p+w]):=by
  rw [zkt]
  have hset : ∀ q, zxf (hx h bs [p]) h.toks.length q = hx h bs [q] := fun q => by
    have:=zDi h bs [p] 0 q
    rw [Nat.add_zero] at this
    exact this
  have htk:∀ q,(hx h bs [q]).toks[h.toks.length]?=some q:=fun q=>by simp [hx]
  have hlen:(hx h bs [p]).toks.length=h.toks.length+1:=by rw [zaQ];rfl
  have hlo := fun L hL2 fr R => zCg (L := L) (fr := fr) (h := h) (R := R) n w p hw hn hp hbit hL2
    (fun q => gA h.toks.length 0 (eBl (zj5 q))) (fun q => hx (hx h bs [q]) [] []) (fun L hL q c hpq hq => by
      have:=zFt L (hx h bs [q]) [] [] 1 h.toks.length c (eBl (zj5 q)) [[.bool (zhR.testBit q)]] (by rw [zDG,zzy];exact htk q) (by rw [zE4];simp [zam,hL];omega)
      rw [zE5,zBq,zDG,zzy,show [[zaa.bool (zhR.testBit q)]].length=1 from rfl] at this
      have e:zxf (hx h bs [q]) h.toks.length (q+1)=hx h bs [q+1]:=by
        have:=zDi h bs [q] 0 (q+1)
        rw [Nat.add_zero] at this
        exact this
      rw [e] at this
      exact this)
  have w1:IntKind.i64.wrap ((w:Int) - 1)=(w:Int) - 1:=wrap_i64 (by omega) (by omega)
  have hret:=zFs (hx h bs [p]) [] [] h.toks.length (eBl (zj5 (p+w))) (hx h bs [p+w]) ⟨by rw [za5,za5],by rw [zaQ,zaQ];rfl⟩ (by omega) (by simp)
  have hfin:some (zaa.gsl h.toks.length (eBl (zj5 (p+w))),hx h bs [p+w])=some (gA h.toks.length 0 (eBl (zj5 (p+w))),hx h bs [p+w]):=rfl
  have hgg:∀ es,zaa.gsl h.toks.length es=gA h.toks.length 0 es:=fun es=>rfl
  rw [hgg] at hret
  generalize eBl (zj5 (p+w))=es at*
  generalize eBl (zj5 p)=es0 at*
  generalize hx h bs [p+w]=h2 at*
  generalize hx h bs [p]=h1 at*
  simp -implicitDefEqProofs [zgJ,w1]
  generalize hF:run ctx _ (.loop _) _ _=R
  obtain ⟨fr1,rfl,h0⟩:=hlo ⟨L.rob,L.rot,h1.blks.length,h1.toks.length⟩ hL _ _ hF (by simp) (by simp) (by simp)
  simp -implicitDefEqProofs [h0,hret]
def rgB (s:Nat):List Bool:=tab 80 fun j=>s.testBit j
@[simp] theorem zir (s:Nat):(rgB s).length=80:=by simp [rgB]
def zwO:List Int:=[62,51,38,23,13,0]
def zxj (s:Nat):Nat→Nat
  | 0=>0
  | k+1=>zxj s k+(s.testBit (gd zwO 0 k).toNat).toNat
theorem zKM (s:Nat):∀ k,zxj s k≤k
  | 0=>Nat.le_refl _
  | k + 1 => by
    have:=zKM s k
    have h2:(s.testBit (gd zwO 0 k).toNat).toNat≤1:=by cases s.testBit (gd zwO 0 k).toNat <;> decide
    rw [zxj];omega
theorem zN1 (s:Nat):decide (zxj s 6 % 2=1)=zry s:=by
  rw [← zIB]
  show decide ((0+(s.testBit 62).toNat+(s.testBit 51).toNat+(s.testBit 38).toNat+(s.testBit 23).toNat+(s.testBit 13).toNat+(s.testBit 0).toNat) % 2=1)=(s.testBit 0 ^^ s.testBit 13 ^^ s.testBit 23 ^^ s.testBit 38 ^^ s.testBit 51 ^^ s.testBit 62)
  cases s.testBit 0 <;> cases s.testBit 13 <;> cases s.testBit 23 <;> cases s.testBit 38 <;> cases s.testBit 51 <;> cases s.testBit 62 <;> rfl
theorem zEj {fr:Fr} {h:zab} {R:Option (AEx × Fr × zab)} (s:Nat) (z:List zaa)
    (hF:run ctx (zak h) (.loop za3) fr (hx h [cB (rgB s),z] [])=R)
    (h1:fr 1=pA h.blks.length 0 0) (h4:fr 4=.int .i64 0) (h8:fr 8=.vsl true (eI .i64 zwO)) (h9:fr 9=.int .i64 6) (h10:fr 10=.int .i64 0):
    ∃ fr',R=some (.exit 0,fr',hx h [cB (rgB s),z] [])∧fr' 4=.int .i64 ((zxj s 6:Nat):Int)∧∀ t,t∉wr za3→fr' t=fr t:=by
  obtain ⟨e,fr',h',rfl,⟨rfl,rfl,h4'⟩,hk⟩:=zaf hF 6
    (fun k fr hh=>fr 10=.int .i64 (k:Int)∧fr 4=.int .i64 ((zxj s k:Nat):Int)∧hh=hx h [cB (rgB s),z] [])
    (fun e fr hh=>e=.exit 0∧hh=hx h [cB (rgB s),z] []∧fr 4=.int .i64 ((zxj s 6:Nat):Int))
    ⟨h10,h4,rfl⟩ (by
      rintro k fr1 hh hkN hkeep ⟨g10,g4,rfl⟩
      have g1:=(hkeep 1 (by decide)).trans h1
      have g8:=(hkeep 8 (by decide)).trans h8
      have g9:=(hkeep 9 (by decide)).trans h9
      by_cases hlt:k < 6
      · have w1 : IntKind.i64.wrap ((k : Int) + 1) = k + 1 := wrap_i64 (by omega) (by omega)
        have hi:=znQ .i64 .i64 true zwO k (by simp [zwO];omega)
        have hr:(gd zwO 0 k).toNat < 80∧0≤gd zwO 0 k:=by
          have:k=0∨k=1∨k=2∨k=3∨k=4∨k=5:=by omega
          rcases this with rfl | rfl | rfl | rfl | rfl | rfl <;> decide
        have hc:zxj s (k+1)=zxj s k+(s.testBit (gd zwO 0 k).toNat).toNat:=rfl
        have hcl:=zKM s k
        have hcast:gd zwO 0 k=((gd zwO 0 k).toNat:Int):=by omega
        have ia:=zaP 80 1 h.blks.length 0 0 (gd zwO 0 k).toNat .i64 (by simpa using hr.1)
        rw [← hcast,Nat.zero_add,Nat.mul_one] at ia
        have hat:=zOl (l:=rgB s) (i:=(gd zwO 0 k).toNat) (by simpa using hr.1)
        have hg:gd (rgB s) false (gd zwO 0 k).toNat=s.testBit (gd zwO 0 k).toNat:=zbz hr.1
        rw [hg] at hat
        generalize hcc:((zxj s (k+1):Nat):Int)=cc at*
        have hc2:cc=(zxj s k:Int)+((s.testBit (gd zwO 0 k).toNat).toNat:Int):=by rw [← hcc,hc];simp
        generalize hb:s.testBit (gd zwO 0 k).toNat=b at*
        generalize (gd zwO 0 k).toNat=tp at*
        generalize gd zwO 0 k=tpi at*
        generalize cB (rgB s)=cs at*
        have e1:(k:Int) < 6:=by omega
        cases b with
        | true=>
          have w2:IntKind.i64.wrap (((zxj s k:Nat):Int)+1)=cc:=(wrap_i64 (by omega) (by omega)).trans (by rw [hc2];rfl)
          generalize ((zxj s k:Nat):Int)=c0 at*
          simp -implicitDefEqProofs [za3,g1,g4,g8,g9,g10,e1,w1,w2,hi,ia,hat,zat]
          exact ⟨hlt,by rw [hcc]⟩
        | false=>
          have w2:((zxj s k:Nat):Int)=cc:=by rw [hc2];simp
          generalize ((zxj s k:Nat):Int)=c0 at*
          subst w2
          simp -implicitDefEqProofs [za3,g1,g4,g8,g9,g10,e1,w1,hi,ia,hat,zat]
          exact ⟨hlt,by rw [hcc]⟩
      · have : k = 6 := by omega
        subst this
        generalize ((zxj s 6:Nat):Int)=c0 at*
        simp [za3,g4,g9,g10])
  exact ⟨fr',rfl,h4',hk⟩
theorem zEk {fr:Fr} {h:zab} {R:Option (AEx × Fr × zab)} (s:Nat) (z:List zaa)
    (hF:run ctx (zak h) (.loop zcF) fr (hx h [cB (za6 80 (fun j=>s.testBit (j+1)) (fun j=>s.testBit j) 0),z] [])=R)
    (h1:fr 1=pA h.blks.length 0 0) (h7:fr 7=.int .i64 0):
    ∃ fr',R=some (.exit 2,fr',hx h [cB (za6 80 (fun j=>s.testBit (j+1)) (fun j=>s.testBit j) 79),z] [])∧∀ t,t∉wr zcF→fr' t=fr t:=by
  obtain ⟨e,fr',h',rfl,⟨rfl,rfl⟩,hk⟩:=zaf hF 79
    (fun k fr hh=>fr 7=.int .i64 (k:Int)∧hh=hx h [cB (za6 80 (fun j=>s.testBit (j+1)) (fun j=>s.testBit j) k),z] [])
    (fun e fr hh=>e=.exit 2∧hh=hx h [cB (za6 80 (fun j=>s.testBit (j+1)) (fun j=>s.testBit j) 79),z] [])
    ⟨h7,rfl⟩ (by
      rintro k fr1 hh hkN hkeep ⟨g7,rfl⟩
      have g1:=(hkeep 1 (by decide)).trans h1
      by_cases hlt:k < 79
      · have w1 : IntKind.i64.wrap ((k : Int) + 1) = ((k + 1 : Nat) : Int) := wrap_i64 (by omega) (by omega)
        have i1:=zaP 80 1 h.blks.length 0 0 k .i64 (by simp;omega)
        have i2:=zaP 80 1 h.blks.length 0 0 (k+1) .i64 (by simp;omega)
        rw [Nat.zero_add,Nat.mul_one] at i1 i2
        have hat:=zOl (l:=za6 80 (fun j=>s.testBit (j+1)) (fun j=>s.testBit j) k) (i:=k+1) (by simp;omega)
        have hg : gd (za6 80 (fun j => s.testBit (j + 1)) (fun j => s.testBit j) k) false (k + 1) = s.testBit (k + 1) := by
          unfold za6;rw [zbz (by omega),if_neg (by omega)]
        rw [hg] at hat
        have hset:=zCv (za6 80 (fun j=>s.testBit (j+1)) (fun j=>s.testBit j) k) k (s.testBit (k+1))
        rw [zdn 80 (fun j=>s.testBit (j+1)) (fun j=>s.testBit j) k] at hset
        have hlen:(cB (za6 80 (fun j=>s.testBit (j+1)) (fun j=>s.testBit j) k)).length=80:=by simp
        have hrob:(zak h).rob≤h.blks.length:=Nat.le_refl _
        generalize hm2:cB (za6 80 (fun j=>s.testBit (j+1)) (fun j=>s.testBit j) (k+1))=m2 at*
        generalize cB (za6 80 (fun j=>s.testBit (j+1)) (fun j=>s.testBit j) k)=m1 at*
        generalize s.testBit (k+1)=bb at*
        generalize hk1:((k+1:Nat):Int)=k1 at*
        simp -implicitDefEqProofs [zcF,g1,g7,show (k:Int) < 79 by omega,w1,i1,i2,hat,zat,zah,hrob,hlen,show k+1≤80 by omega,hset]
        exact ⟨hlt,by rw [← hk1];rfl,by rw [hm2]⟩
      · have : k = 79 := by omega
        subst this
        generalize cB (za6 80 (fun j=>s.testBit (j+1)) (fun j=>s.testBit j) 79)=m1 at*
        simp [zcF,g7])
  exact ⟨fr',rfl,hk⟩
theorem zN6 (s : Nat) (hs : s < 2 ^ 80) : (za6 80 (fun j => s.testBit (j + 1)) (fun j => s.testBit j) 79).set 79 (zry s) = rgB (zcA s) := by
  unfold za6 rgB
  rw [zlr]
  refine zaN fun i hi=>?_
  rw [zA5 s i hs]
  by_cases e:i=79
  · subst e;rw [if_pos rfl];cases zry s <;> rfl
  · rw [if_neg e,if_pos (by omega),if_pos (by omega)]
theorem zz6 (L:Lim) (h:zab) (s:Nat) (hs:s < 2 ^ 80):zag ctx L zcS [.agg (cB (rgB s))] h=some (.tup [.agg (cB (rgB (zcA s))),.bool (zry s)],h):=by
  rw [zqu]
  have hlo1:=fun fr R z=>zEj (fr:=fr) (h:=h) (R:=R) s z
  have hlo2:=fun fr R z=>zEk (fr:=fr) (h:=h) (R:=R) s z
  rw [zcc] at hlo2
  have hrg:tab 80 (fun j=>s.testBit j)=rgB s:=rfl
  rw [hrg] at hlo2
  have hset:=zCv (za6 80 (fun j=>s.testBit (j+1)) (fun j=>s.testBit j) 79) 79 (zry s)
  rw [zN6 s hs] at hset
  have hlm:(cB (za6 80 (fun j=>s.testBit (j+1)) (fun j=>s.testBit j) 79)).length=80:=by simp
  have l1:(rgB s).length=80:=zir s
  have l2:(rgB (zcA s)).length=80:=zir _
  have hokv:(zaa.agg (cB (rgB s))).okV=true:=zii _
  have hcel:(zaa.agg (cB (rgB s))).cells=cB (rgB s):=by simp only [zaa.cells]
  have hmod:((zxj s 6:Nat):Int).tmod 2=((zxj s 6 % 2:Nat):Int):=zoA _ 2
  have hbit:(((zxj s 6 % 2:Nat):Int)==1)=zry s:=by
    rw [← zN1]
    by_cases e:zxj s 6 % 2=1
    · rw [e];rfl
    · rw [decide_eq_false e];exact beq_false_of_ne (by omega)
  generalize ((zxj s 6 % 2:Nat):Int)=cm at*
  generalize ((zxj s 6:Nat):Int)=cc at*
  generalize cB (za6 80 (fun j=>s.testBit (j+1)) (fun j=>s.testBit j) 79)=m1 at*
  generalize rgB (zcA s)=r2 at*
  generalize rgB s=r1 at*
  generalize zry s=bg at*
  have hr0:=zkh 80
  have hfill:zaA (rep [zaa.int .i64 0] 6) [(0,1,.int .i64 62),(1,1,.int .i64 51),(2,1,.int .i64 38),(3,1,.int .i64 23),(4,1,.int .i64 13),(5,1,.int .i64 0)]=some (cI .i64 zwO):=rfl
  have hch:chunks 1 6 (cI .i64 zwO)=eI .i64 zwO:=rfl
  have htl:zwO.length=6:=rfl
  have i79:zcP (some 80) 1 (pA h.blks.length 0 0) (.int .i64 79)=some (pA h.blks.length 0 79):=zaP 80 1 h.blks.length 0 0 79 .i64 rfl
  simp -implicitDefEqProofs [ziw,zbX,hokv,hcel,hr0,hfill,hch,htl]
  generalize hF:run ctx _ (.loop _) _ _=R
  obtain ⟨fr1,rfl,f4,hk1⟩:=hlo1 _ _ _ hF (by simp) (by simp) (by simp) (by simp) (by simp)
  simp -implicitDefEqProofs [hk1,wr,za3,zbM]
  generalize hF:run ctx _ (.loop _) _ _=R
  obtain ⟨fr2,rfl,hk2⟩:=hlo2 _ _ _ hF (by simp [hk1,wr,za3,zbM]) (by simp)
  simp -implicitDefEqProofs [hk1,hk2,wr,za3,zcF,zbM,f4,zbs,hmod,hbit,i79,hset,hlm,zaj,l2,zbp,zai,zak]
end Go.Av
namespace Go.Av
theorem zga:∀ l:List Bool,zap 0 0 (cB l)=true
  | []=>rfl
  | b :: l => by
    show (zaa.under 0 0 (.bool b)&&zap 0 0 (cB l))=true
    rw [zga l];rfl
theorem zKV {h:zab} (L:Lim) (hL:L.rob≤h.blks.length):∀ (f s:Nat) (js:List (List zaa)) (fr:Fr) (q:Nat × Bool) (z:List Bool),zDr f s=some q→s < 2 ^ 80→z.length=80→fr 1=pA h.blks.length 0 0→fr 2=pA h.blks.length 1 0→
    ∃ fr' js',run ctx L (.loop zc4) fr (hx h (cB (rgB s) :: cB z :: js) [])=some (.ret,fr',hx h (cB (rgB q.1) :: cB (rgB q.1) :: js') [])∧fr' 2=pA h.blks.length 1 0∧fr' 3=.bool q.2
  | 0,s,js,fr,q,z,hq,_,_,_,_=>by simp [zDr] at hq
  | f + 1, s, js, fr, q, z, hq, hs, hz, h1, h2 => by
    have hT1:=fun L h=>zz6 L h s hs
    have hs2:=zjl s hs
    have hT2:=fun L h=>zz6 L h (zcA s) hs2
    have hs3:=zjl _ hs2
    have l0:(rgB s).length=80:=zir _
    have l1:(rgB (zcA s)).length=80:=zir _
    have l2:(rgB (zcA (zcA s))).length=80:=zir _
    have hr0:=zkh 80
    have lz:(tab 80 fun _=>false).length=80:=by simp
    unfold zDr at hq
    rw [znc]
    have hn1:js.length+1+1=js.length+2:=rfl
    have hg1:=fun x=>zaO (cB (rgB s) :: cB z :: js) [x] (js.length+2) 0 rfl
    have hs1:=fun x v=>zbY (cB (rgB s) :: cB z :: js) [x] (js.length+2) 0 v rfl
    have hg2:=fun x y=>zaO (cB (rgB s) :: cB z :: js) [x,y] (js.length+2) 0 rfl
    have hg3:=fun x y=>zaO (cB (rgB s) :: cB z :: js) [x,y] (js.length+2) 1 rfl
    have hs3':=fun x y v=>zbY (cB (rgB s) :: cB z :: js) [x,y] (js.length+2) 1 v rfl
    simp only [Nat.add_zero,List.getElem?_cons_zero,List.getElem?_cons_succ,List.set_cons_zero,List.set_cons_succ,List.cons_append] at hg1 hs1 hg2 hg3 hs3'
    cases hb:zry s with
    | true=>
      rw [hb] at hq hT1
      obtain rfl:=Option.some.inj hq
      simp only
      generalize rgB (zcA (zcA s))=r2 at*
      generalize rgB (zcA s)=r1 at*
      generalize rgB s=r0 at*
      generalize zry (zcA s)=b2 at*
      generalize (tab 80 fun _=>false)=z0 at*
      simp -implicitDefEqProofs [zc4,h1,h2,zaj,l0,l1,l2,lz,hz,hT1,hT2,zC7,zC8,hr0,zbp,zai,zah,hL,zga,hg1,hs1,hg2,hg3,hs3']
      exact ⟨_,⟨rfl,_,rfl⟩,by simp [h2],by simp⟩
    | false=>
      rw [hb] at hq hT1
      simp only at hq
      have ih:=zKV L hL f (zcA (zcA s))
      generalize rgB (zcA (zcA s))=r2 at*
      generalize rgB (zcA s)=r1 at*
      generalize rgB s=r0 at*
      generalize zry (zcA s)=b2 at*
      generalize hz0:(tab 80 fun _=>false)=z0 at*
      have ih':=fun js fr R (hF:run ctx L (.loop zc4) fr (hx h (cB r2 :: cB z :: js) [])=R) hf1 hf2=>hF ▸ ih js fr q z hq hs3 hz hf1 hf2
      generalize hB:AC.loop zc4=LL at*
      simp -implicitDefEqProofs [zc4,h1,h2,zaj,l0,l1,l2,lz,hz,hT1,hT2,zC7,zC8,hr0,zbp,zai,zah,hL,zga,hg1,hs1,hg2,hg3,hs3']
      generalize hF:run ctx _ LL _ _=R
      obtain ⟨fr',js',e,f2,f3⟩:=ih' _ _ _ hF (by simp [h1]) (by simp [h2])
      exact ⟨fr',⟨js',e⟩,f2,f3⟩
theorem zUP (L:Lim) (h:zab) (f s:Nat) (q:Nat × Bool) (hq:zDr f s=some q) (hs:s < 2 ^ 80):zag ctx L zgp [.agg (cB (rgB s))] h=some (.tup [.agg (cB (rgB q.1)),.bool q.2],h):=by
  rw [zrp]
  have hokv:(zaa.agg (cB (rgB s))).okV=true:=zii _
  have hcel:(zaa.agg (cB (rgB s))).cells=cB (rgB s):=by simp only [zaa.cells]
  have hr0:=zkh 80
  have hlo:=fun fr=>zKV (h:=h) (zak h) (Nat.le_refl _) f s [] fr q (tab 80 fun _=>false) hq hs (by simp)
  have l2:(rgB q.1).length=80:=zir _
  generalize rgB q.1=r2 at*
  generalize rgB s=r1 at*
  generalize (tab 80 fun _=>false)=z0 at*
  simp -implicitDefEqProofs [zje,zbX,hokv,hcel,hr0]
  obtain ⟨fr',js',e,f2,f3⟩:=hlo (upd (upd (upd (frm [zaa.agg (cB r1)]) 1 (pA h.blks.length 0 0)) 2 (pA h.blks.length 1 0)) 3 (.bool false)) (by simp) (by simp)
  simp -implicitDefEqProofs [e,f2,f3,zaj,l2]
theorem zRv {N j s:Nat} {d:List W64} {R i:Nat} (b:Bool) (hR:R=32*j+s) (hs:s < 32) (hi:i+1=R) (hd:Dg d) (hl:d.length=8) (hj:j < 8)
    (hI:vD d+(gd d 0#64 j).toNat*dB ^ j*2 ^ s=N*2 ^ R+(gd d 0#64 j).toNat*dB ^ j) (hlt:(gd d 0#64 j).toNat < 2 ^ (32 - s)) (h0:∀ q,q < j→gd d 0#64 q=0#64):
    ∃ x:W64,x=(if b=true then gd d 0#64 (i / 32)*2#64+1#64 else gd d 0#64 (i / 32)*2#64)∧x.toNat < dB∧
      vD (d.set (i / 32) x)+x.toNat*dB ^ (i / 32)*2 ^ (i % 32)=(2*N+b.toNat)*2 ^ i+x.toNat*dB ^ (i / 32)∧x.toNat < 2 ^ (32 - i % 32)∧(∀ q,q < i / 32→gd (d.set (i / 32) x) 0#64 q=0#64):=by
  refine ⟨_,rfl,?_⟩
  have hB32:dB=2 ^ 32:=rfl
  have key:∀ (q t o:Nat) (hq:q < 8) (hqi:i / 32=q) (ht:i % 32=t) (ho:(gd d 0#64 q).toNat=o) (hoB:o*2 < 2 ^ (32 - t)) (hE:vD d+(2*o)*dB ^ q*2 ^ t=(2*N)*2 ^ i+o*dB ^ q) (hz:∀ p,p < q→gd d 0#64 p=0#64),
      (if b=true then gd d 0#64 (i / 32)*2#64+1#64 else gd d 0#64 (i / 32)*2#64).toNat < dB∧
      vD (d.set (i / 32) (if b=true then gd d 0#64 (i / 32)*2#64+1#64 else gd d 0#64 (i / 32)*2#64))+(if b=true then gd d 0#64 (i / 32)*2#64+1#64 else gd d 0#64 (i / 32)*2#64).toNat*dB ^ (i / 32)*2 ^ (i % 32)=(2*N+b.toNat)*2 ^ i+(if b=true then gd d 0#64 (i / 32)*2#64+1#64 else gd d 0#64 (i / 32)*2#64).toNat*dB ^ (i / 32)∧
      (if b=true then gd d 0#64 (i / 32)*2#64+1#64 else gd d 0#64 (i / 32)*2#64).toNat < 2 ^ (32 - i % 32)∧(∀ p,p < i / 32→gd (d.set (i / 32) (if b=true then gd d 0#64 (i / 32)*2#64+1#64 else gd d 0#64 (i / 32)*2#64)) 0#64 p=0#64):=by
    intro q t o hq hqi ht ho hoB hE hz
    rw [hqi,ht]
    have htn:(if b=true then gd d 0#64 q*2#64+1#64 else gd d 0#64 q*2#64).toNat=2*o+b.toNat:=by
      have hp:(2:Nat) ^ (32 - t)≤2 ^ 32:=Nat.pow_le_pow_right (by decide) (by omega)
      cases b with
      | true=>
        rw [if_pos rfl,BitVec.toNat_add,BitVec.toNat_mul,ho]
        simp only [BitVec.toNat_ofNat,Bool.toNat_true]
        omega
      | false=>
        rw [if_neg (by simp),BitVec.toNat_mul,ho]
        simp only [BitVec.toNat_ofNat,Bool.toNat_false]
        omega
    have hb1:b.toNat≤1:=by cases b <;> decide
    generalize (if b=true then gd d 0#64 q*2#64+1#64 else gd d 0#64 q*2#64)=x at*
    have ht31:t < 32:=by omega
    obtain ⟨u,hu⟩:∃ u,32 - t=u+1:=⟨31 - t,by omega⟩
    have hx2:x.toNat < 2 ^ (32 - t):=by
      rw [hu,Nat.pow_succ] at hoB ⊢
      omega
    have hpt:(2:Nat) ^ (32 - t)≤2 ^ 32:=Nat.pow_le_pow_right (by decide) (by omega)
    refine ⟨Nat.lt_of_lt_of_le hx2 hpt,?_,hx2,fun p hp=>?_⟩
    · have e1 := zEK x d q (by omega)
      rw [ho] at e1
      have e2:2 ^ i=dB ^ q*2 ^ t:=by
        rw [hB32,← Nat.pow_mul,← Nat.pow_add]
        congr 1;omega
      rw [htn] at e1 ⊢
      rw [Nat.add_mul (2*N),Nat.add_mul (2*o),Nat.add_mul ((2*o)*dB ^ q)]
      rw [Nat.add_mul] at e1
      have e3:b.toNat*2 ^ i=b.toNat*dB ^ q*2 ^ t:=by rw [e2,Nat.mul_assoc]
      have e4:2*o*dB ^ q=2*(o*dB ^ q):=Nat.mul_assoc _ _ _
      rw [e3]
      omega
    · rw [zlA _ _ _ _ _ (by omega),if_neg (by omega)];exact hz p hp
  by_cases hs0:s=0
  · subst hs0
    have hj0:0 < j:=by omega
    have e1:i / 32=j - 1:=by omega
    have e2:i % 32=31:=by omega
    have hz:=h0 (j - 1) (by omega)
    refine key (j - 1) 31 0 (by omega) e1 e2 (by rw [hz];rfl) (by decide) ?_ (fun p hp=>h0 p (by omega))
    rw [Nat.pow_zero,Nat.mul_one] at hI
    have e3:2 ^ R=2*2 ^ i:=by rw [← hi,Nat.pow_succ,Nat.mul_comm]
    rw [e3,← Nat.mul_assoc,Nat.mul_comm N 2] at hI
    simp
    omega
  · have e1 : i / 32 = j := by omega
    have e2:i % 32=s - 1:=by omega
    obtain ⟨t,rfl⟩:∃ t,s=t+1:=⟨s - 1,by omega⟩
    refine key j t (gd d 0#64 j).toNat hj e1 (by omega) rfl ?_ ?_ h0
    · obtain ⟨u,hu⟩:∃ u,32 - (t+1)=u:=⟨_,rfl⟩
      rw [hu] at hlt
      rw [show 32 - t=u+1 by omega,Nat.pow_succ]
      omega
    · have e3 : 2 ^ R = 2 * 2 ^ i := by rw [← hi, Nat.pow_succ, Nat.mul_comm]
      rw [e3,← Nat.mul_assoc,Nat.mul_comm N 2,Nat.pow_succ] at hI
      have e4:2*(gd d 0#64 j).toNat*dB ^ j*2 ^ t=(gd d 0#64 j).toNat*dB ^ j*(2 ^ t*2):=by
        generalize (gd d 0#64 j).toNat=o
        rw [Nat.mul_assoc 2,Nat.mul_assoc 2,← Nat.mul_assoc (o*dB ^ j),Nat.mul_comm 2]
      rw [e4]
      exact hI
end Go.Av
namespace Go.Av
theorem zXm (x:W64):zdj .add (wd x) (.int .u64 1)=some (wd (x+1#64)):=zHX x 1#64
def ElI (N R:Nat) (d:List W64):Prop:=
  d.length=8∧Dg d∧vD d+(gd d 0#64 (R / 32)).toNat*dB ^ (R / 32)*2 ^ (R % 32)=N*2 ^ R+(gd d 0#64 (R / 32)).toNat*dB ^ (R / 32)∧
    (gd d 0#64 (R / 32)).toNat < 2 ^ (32 - R % 32)∧∀ q,q < R / 32→gd d 0#64 q=0#64
theorem zOd : ElI 0 254 (tab 8 fun _ => 0#64) := by
  refine ⟨by simp,Dg.tab (fun _ _=>by decide),?_,?_,fun q hq=>zbz (by omega)⟩
  · rw [zbz (by decide), ztF]
    have : ∀ n, sD (fun _ => 0#64) n = 0 := fun n => by induction n with
      | zero=>rfl
      | succ n ih=>rw [sD,ih];simp
    rw [this];simp
  · rw [zbz (by decide)];decide
theorem zRz {N:Nat} {d:List W64} (h:ElI N 0 d):vD d=N:=by
  have:=h.2.2.1
  simp at this
  omega
theorem zOf {N i:Nat} {d:List W64} (b:Bool) (hi:i < 254) (h:ElI N (i+1) d):
    ∃ x:W64,x=(if b=true then gd d 0#64 (i / 32)*2#64+1#64 else gd d 0#64 (i / 32)*2#64)∧ElI (2*N+b.toNat) i (d.set (i / 32) x):=by
  obtain ⟨hl,hd,hI,hlt,h0⟩:=h
  obtain ⟨x,hx,h1,h2,h3,h4⟩:=zRv (R:=i+1) (i:=i) (j:=(i+1) / 32) (s:=(i+1) % 32) b (by omega) (by omega) rfl hd hl (by omega) hI hlt h0
  have hg:gd (d.set (i / 32) x) 0#64 (i / 32)=x:=by rw [zlA _ _ _ _ _ (by omega),if_pos rfl]
  exact ⟨x,hx,by simp [hl],hd.set (by omega) h1,by rw [hg];exact h2,by rw [hg];exact h3,h4⟩
theorem zKZ {L : Lim} {fr : Fr} {h : zab} {R : Option (AEx × Fr × zab)} (s : Nat) (q : Nat × Nat) (hq : zrc s 254 = some q) (hs : s < 2 ^ 80) (D : Nat) (hD : 0 < D) (cs : List (List zaa)) (hc0 : cs[0]? = some (cB (rgB s))) (hcD : cs[D]? = some (cW (tab 8 fun _ => 0#64))) (hL : L.rob ≤ h.blks.length)
    (hF:run ctx L (.loop zay) fr (hx h cs [])=R)
    (h1:fr 1=pA h.blks.length 0 0) (h4:fr 4=sA h.blks.length D 0 1 8 (some 8)) (h5:fr 5=.int .i64 253):
    ∃ fr' bs d,R=some (.exit 2,fr',hx h bs [])∧bs[0]?=some (cB (rgB q.1))∧bs[D]?=some (cW d)∧ElI q.2 0 d∧cs.length≤bs.length∧(∀ i,0 < i→i < D→bs[i]?=cs[i]?)∧∀ t,t∉wr zay→fr' t=fr t:=by
  obtain ⟨e',fr',h',rfl,⟨rfl,bs,d,rfl,p1,p2,p3,p4,p5⟩,hk⟩:=zaf hF 254
    (fun k fr hh=>∃ R p,R+k=254∧fr 5=.int .i64 ((R:Int) - 1)∧zrc s k=some p∧∃ bs d,hh=hx h bs []∧bs[0]?=some (cB (rgB p.1))∧bs[D]?=some (cW d)∧ElI p.2 R d∧cs.length≤bs.length∧(∀ i,0 < i→i < D→bs[i]?=cs[i]?))
    (fun e' fr hh=>e'=.exit 2∧∃ bs d,hh=hx h bs []∧bs[0]?=some (cB (rgB q.1))∧bs[D]?=some (cW d)∧ElI q.2 0 d∧cs.length≤bs.length∧(∀ i,0 < i→i < D→bs[i]?=cs[i]?))
    ⟨254, (s, 0), rfl, h5, rfl, cs, _, rfl, hc0, hcD, zOd, Nat.le_refl _, fun i _ _ => rfl⟩ (by
      rintro k fr1 hh hkN hkeep ⟨R,p,hR,g5,hp,bs,d,rfl,b0,bD,hI,hbl,hbo⟩
      have g1:=(hkeep 1 (by decide)).trans h1
      have g4:=(hkeep 4 (by decide)).trans h4
      cases R with
      | succ i=>
        rw [show (((i+1:Nat):Int) - 1)=(i:Int) by omega] at g5
        have w1:IntKind.i64.wrap ((i:Int) - 1)=(i:Int) - 1:=wrap_i64 (by omega) (by omega)
        have w2:IntKind.i64.wrap ((i:Int) / 32)=((i / 32:Nat):Int):=wrap_i64 (by omega) (by omega)
        have hnn:(i:Int)≥0:=by omega
        obtain ⟨p2,hp2⟩:=zv6 hq (k+1) (by omega)
        obtain ⟨p',r,e1,e2,rfl⟩:=zqH hp2
        rw [hp] at e1
        obtain rfl:=Option.some.inj e1
        obtain ⟨hs1,hn1⟩:=zqI hs hp
        have hB:=fun L h=>zUP L h 100 p.1 r e2 hs1
        obtain ⟨x,hx1,hI2⟩:=zOf r.2 (by omega) hI
        have hdl:=hI.1
        obtain ⟨hbD1,_⟩:=List.getElem?_eq_some_iff.1 bD
        obtain ⟨hb01,_⟩:=List.getElem?_eq_some_iff.1 b0
        have hio:=zpq h.blks.length D 0 8 (i / 32) (some 8) (by simp;omega)
        rw [Nat.zero_add] at hio
        have hat:=zsG (l:=d) (i:=i / 32) (by omega)
        have hob:i / 32+1≤8:=by omega
        have l0:(cB (rgB p.1)).length=80:=by simp
        have l1:(rgB r.1).length=80:=zir _
        have lz:(tab 80 fun _=>false).length=80:=by simp
        have lc:(cW d).length=8:=by simp [hdl]
        have hr0:=zkh 80
        have G0:∀ y,(bs++[y])[0]?=some (cB (rgB p.1)):=fun y=>zf0 [y] b0
        obtain ⟨P,hP⟩:∃ P:List zaa→List (List zaa),∀ y,bs++[y]=P y:=⟨_,fun _=>rfl⟩
        have hP0:∀ y,(P y)[0]?=some (cB (rgB p.1)):=fun y=>by rw [← hP];exact G0 y
        have hPl:∀ y,(P y)[bs.length]?=some y:=fun y=>by rw [← hP];simp
        have hPs:∀ y v,(P y).set bs.length v=P v:=fun y v=>by rw [← hP,← hP];simp
        obtain ⟨H3,hH3⟩:∃ H3,(bs++[cB (rgB r.1)]).set 0 (cB (rgB r.1))=H3:=⟨_,rfl⟩
        have hH3D:H3[D]?=some (cW d):=by rw [← hH3,List.getElem?_set_ne (by omega)];exact zf0 _ bD
        have hH30:H3[0]?=some (cB (rgB r.1)):=by rw [← hH3,List.getElem?_set_self (by simp)]
        have hH3l:H3.length=bs.length+1:=by rw [← hH3];simp
        have hH3o : ∀ j, 0 < j → j < D → H3[j]? = cs[j]? := fun j h1 h2 => by
          rw [← hH3,List.getElem?_set_ne (by omega),List.getElem?_append_left (by omega)];exact hbo j h1 h2
        have hfin:∃ R' a b,R' + (k+1)=254∧((i:Int) - 1)=((R':Int) - 1)∧zrc s (k+1)=some (a,b)∧∃ bs',H3.set D (cW (d.set (i / 32) x))=bs'∧∃ d',bs'[0]?=some (cB (rgB a))∧bs'[D]?=some (cW d')∧ElI b R' d'∧cs.length≤bs'.length∧(∀ i,0 < i→i < D→bs'[i]?=cs[i]?):=by
          refine ⟨i,_,_,by omega,rfl,hp2,_,rfl,d.set (i / 32) x,?_,?_,hI2,?_,fun j h1 h2=>?_⟩
          · rw [List.getElem?_set_ne (by omega)];exact hH30
          · rw [List.getElem?_set_self (by omega)]
          · rw [List.length_set];omega
          · rw [List.getElem?_set_ne (by omega)];exact hH3o j h1 h2
        have hsx:=zuT d (i / 32) (gd d 0#64 (i / 32)*2#64)
        have hsx2:=zuT (d.set (i / 32) (gd d 0#64 (i / 32)*2#64)) (i / 32) (gd d 0#64 (i / 32)*2#64+1#64)
        rw [List.set_set] at hsx2
        have hat2:=zsG (l:=d.set (i / 32) (gd d 0#64 (i / 32)*2#64)) (i:=i / 32) (by simp;omega)
        rw [zlA _ _ _ _ _ (by omega),if_pos rfl] at hat2
        have lc2:(cW (d.set (i / 32) (gd d 0#64 (i / 32)*2#64))).length=8:=by simp [hdl]
        have hH4D:(H3.set D (cW (d.set (i / 32) (gd d 0#64 (i / 32)*2#64))))[D]?=some (cW (d.set (i / 32) (gd d 0#64 (i / 32)*2#64))):=by rw [List.getElem?_set_self (by omega)]
        have hss:∀ a b:List zaa,(H3.set D a).set D b=H3.set D b:=fun a b=>List.set_set ..
        rw [hP] at hH3
        cases hrb:r.2 with
        | true=>
          rw [hrb] at hB hx1
          rw [if_pos rfl] at hx1
          subst hx1
          generalize cW (d.set (i / 32) (gd d 0#64 (i / 32)*2#64+1#64))=c2 at*
          generalize cW (d.set (i / 32) (gd d 0#64 (i / 32)*2#64))=c1 at*
          generalize rgB r.1=r1 at*
          generalize cB (rgB p.1)=r0c at*
          generalize ((i / 32:Nat):Int)=iq at*
          generalize (tab 80 fun _=>false)=z0 at*
          simp -implicitDefEqProofs [zay,g1,g4,g5,l0,l1,lz,lc,lc2,zaj,zat,b0,hP,hP0,hPl,hPs,hB,zC7,zC8,hr0,zbp,zai,zah,hL,zga,hH3,hH3D,zc9,w1,w2,hio,hat,hat2,hob,zPH,zXm,hsx,hsx2,hH4D,hss]
          obtain ⟨R',a,b,f1,f2,f3,bs',f4,d',f5,f6,f7,f8,f9⟩:=hfin
          exact ⟨by omega,R',f1,by omega,a,b,f3,bs',by rw [f4],f5,d',f6,f7,f8,f9⟩
        | false=>
          rw [hrb] at hB hx1
          rw [if_neg (by simp)] at hx1
          subst hx1
          generalize cW (d.set (i / 32) (gd d 0#64 (i / 32)*2#64))=c1 at*
          generalize rgB r.1=r1 at*
          generalize cB (rgB p.1)=r0c at*
          generalize ((i / 32:Nat):Int)=iq at*
          generalize (tab 80 fun _=>false)=z0 at*
          simp -implicitDefEqProofs [zay,g1,g4,g5,l0,l1,lz,lc,lc2,zaj,zat,b0,hP,hP0,hPl,hPs,hB,zC7,zC8,hr0,zbp,zai,zah,hL,zga,hH3,hH3D,zc9,w1,w2,hio,hat,hob,zPH,hsx]
          obtain ⟨R',a,b,f1,f2,f3,bs',f4,d',f5,f6,f7,f8,f9⟩:=hfin
          exact ⟨by omega,R',f1,by omega,a,b,f3,bs',by rw [f4],f5,d',f6,f7,f8,f9⟩
      | zero=>
        have:k=254:=by omega
        subst this
        rw [hq] at hp
        obtain rfl:=Option.some.inj hp
        simp [zay,g5]
        exact ⟨bs,rfl,b0,d,bD,hI,hbl,hbo⟩)
  exact ⟨fr',bs,d,rfl,p1,p2,p3,p4,p5,hk⟩
end Go.Av
namespace Go.Av
theorem zG9 (h:zab) (bs:List (List zaa)) (ts:List Nat) (i n c:Nat) (l:List W64) (hb:bs[i]?=some (cW l)) (hln:l.length=n) (hd:Dg l) (hn:n < 1000000000) (hnc:n≤c):
    ∃ r,(∀ L,zag ctx L zau [sA h.blks.length i 0 1 n (some c)] (hx h bs ts)=some (r,hx h bs ts))∧∀ bs',bs'[i]?=some (cW l)→∀ m,frz (hx h bs' ts) h.blks.length h.toks.length (m+1) r=some (.vsl false (eW (dg (vD l)))):=by
  have hrd:RdW (hx h bs ts) (sA h.blks.length i 0 1 n (some c)) l:=RdW.sA ts i n (some c) l hln hb
  have htl:=zwG l n
  have htd:=zz5 hd
  rw [hln] at htd
  have hbl:=(List.getElem?_eq_some_iff.1 hb).1
  by_cases h0:ztV l n=0
  · have htd0 : dg (vD l) = [] := by rw [← htd, h0]; rfl
    rw [htd0]
    refine ⟨.vsl false (eW []),fun L=>zqT L _ _ (.vsl (some c==some 0) (eW [])) _ l hrd (by omega) ?_ (ztW _ _ _ _ _ _),fun bs' _ m=>ztW _ _ _ _ _ _⟩
    rw [hln,h0];simp [zhU,sA,zlN]
  · refine ⟨sA h.blks.length i 0 1 (ztV l n) (some c), fun L => zqT L _ _ (sA h.blks.length i 0 1 (ztV l n) (some c)) _ l hrd (by omega) ?_ ?_, fun bs' hb' m => ?_⟩
    · rw [hln];simp [zhU,sA,zlN,h0,show ztV l n≤c by omega]
    · exact zyP _ _ _ _ _ _ _ _ _ (by simp [za5,hbl])
    · have hb2 : bs'[i]? = some (cI .u64 (zsO l)) := by rw [hb', znO]
      have:=zEB h bs' ts h.toks.length m i (ztV l n) (some c) .u64 (zsO l) hb2 (by simp;omega)
      rw [this,← htd,zvH,← zpo]
theorem zOj (x y:Nat):(decide (zmE x y < 0))=decide (x < y):=zzE x y
theorem zK6 (L:Lim) (h:zab) (hL:L.rob≤h.blks.length):∀ (f s:Nat) (cs:List (List zaa)) (fr:Fr) (q:Nat × Nat) (z:List Bool) (R:Option (AEx × Fr × zab)),run ctx L (.loop zdQ) fr (hx h cs [])=R→zsp f s=some q→s < 2 ^ 80→cs[0]?=some (cB (rgB s))→cs[1]?=some (cB z)→z.length=80→fr 1=pA h.blks.length 0 0→fr 2=pA h.blks.length 1 0→
    ∃ fr' bs,R=some (.ret,fr',hx h bs [])∧bs[1]?=some (cB (rgB q.1))∧fr' 2=pA h.blks.length 1 0∧∀ m,frz (hx h bs []) h.blks.length h.toks.length (m+1) (fr' 3)=some (.vsl false (eW (dg q.2)))
  | 0,s,cs,fr,q,z,R,_,hq,_,_,_,_,_,_=>by simp [zsp] at hq
  | f + 1, s, cs, fr, q, z, R, hR, hq, hs, hb, hz, hzl, h1, h2 => by
    unfold zsp at hq
    cases hbb:zGu s with
    | none=>rw [hbb] at hq;cases hq
    | some p=>
      rw [hbb] at hq
      simp only at hq
      rw [zzj] at hbb
      obtain ⟨hs1,hn1⟩:=zqI hs hbb
      have hcl:1 < cs.length:=(List.getElem?_eq_some_iff.1 hz).1
      have hlo:=fun fr R=>zKZ (L:=L) (fr:=fr) (h:=h) (R:=R) s p hbb hs cs.length (by omega) (cs++[cW (tab 8 fun _=>0#64)]) (zf0 _ hb) (by simp) hL
      have hmk:=zj7 h cs [] 1 [zaa.int .u64 0] .i64 8 (by decide)
      rw [show (8:Int).toNat=8 from rfl,zFS] at hmk
      rw [znc] at hR
      have hP:=zIA
      generalize (tab 8 fun _=>0#64)=z8 at*
      generalize hLL:AC.loop zdQ=LL at*
      have ih:=zK6 L h hL f p.1
      rw [hLL] at ih
      simp -implicitDefEqProofs [zdQ,h1,h2,hmk] at hR
      generalize hF:run ctx _ (.loop _) _ _=R1 at hR
      obtain ⟨fr1,bs,d,rfl,b0,bD,hI,hbl,hbo,hk1⟩:=hlo _ _ hF (by simp [h1]) (by simp) (by simp)
      have hv:=zRz hI
      have hb1:bs[1]?=some (cB z):=by rw [hbo 1 (by omega) (by omega)];exact zf0 _ hz
      obtain ⟨r,hT,hfz⟩:=zG9 h bs [] cs.length 8 8 d bD hI.1 hI.2.1 (by decide) (Nat.le_refl _)
      have hC:=fun L=>zC5 L (hx h bs []) (sA h.blks.length cs.length 0 1 8 (some 8)) (.vsl false (eW pD)) d pD (RdW.sA [] cs.length 8 (some 8) d hI.1 bD) (RdW.vsl _ _ _) hI.2.1 zPT ⟨by rw [hI.1];decide,by decide⟩
      rw [hv,zMh] at hC
      rw [hv] at hfz
      have hlt:=zOj p.2 pN
      have l0:(cB (rgB p.1)).length=80:=by simp
      have l1:(cB z).length=80:=by simp [hzl]
      cases hp:Nat.ble pN p.2 with
      | true=>
        rw [hp] at hq
        have hnl:¬p.2 < pN:=by have:=Nat.le_of_ble_eq_true hp;omega
        rw [decide_eq_false hnl] at hlt
        have ih':=fun fr R hF h1 h2=>ih bs fr q z R hF hq hs1 b0 hb1 hzl h1 h2
        generalize zmE p.2 pN=cc at*
        generalize eW pD=ep at*
        simp -implicitDefEqProofs [hk1,wr,zay,zbM,hP,hC,hlt, -zAd,lssI] at hR
        exact ih' _ _ hR (by simp [hk1,wr,zay,zbM,h1]) (by simp [hk1,wr,zay,zbM,h2])
      | false=>
        rw [hp] at hq
        obtain rfl:=Option.some.inj hq
        have hnl:p.2 < pN:=Nat.lt_of_not_le fun hle=>by rw [Nat.ble_eq_true_of_le hle] at hp;cases hp
        rw [decide_eq_true hnl] at hlt
        have hset:(bs.set 1 (cB (rgB p.1)))[1]?=some (cB (rgB p.1)):=by rw [List.getElem?_set_self (by have:=(List.getElem?_eq_some_iff.1 hb1).1;omega)]
        have hfz2:=hfz (bs.set 1 (cB (rgB p.1))) (by rw [List.getElem?_set_ne (by omega)];exact bD)
        have hun:zap 0 0 (cB (rgB p.1))=true:=zga _
        generalize zmE p.2 pN=cc at*
        generalize eW pD=ep at*
        generalize cB (rgB p.1)=rc at*
        simp -implicitDefEqProofs [hk1,wr,zay,zbM,hP,hC,hlt, -zAd,lssI,h1,h2,b0,hb1,zaj,l0,l1,hT,zbp,zai,zah,hL,hun] at hR
        subst hR
        exact ⟨_,_,rfl,hset,by simp [hk1,wr,zay,zbM,h2],fun m=>by simpa using hfz2 m⟩
where
  lssI {k:IntKind} (a:Int):zdj .lss (.int k a) (.int k 0)=some (.bool (decide (a < 0))):=zAd k a 0
theorem zUY (L:Lim) (h:zab) (f s:Nat) (q:Nat × Nat) (hq:zsp f s=some q) (hs:s < 2 ^ 80):zag ctx L zek [.agg (cB (rgB s))] h=some (.tup [.agg (cB (rgB q.1)),.vsl false (eW (dg q.2))],h):=by
  rw [zm2]
  have hokv:(zaa.agg (cB (rgB s))).okV=true:=zii _
  have hcel:(zaa.agg (cB (rgB s))).cells=cB (rgB s):=by simp only [zaa.cells]
  have hr0:=zkh 80
  have hlo:=fun fr R hF=>zK6 (zak h) h (Nat.le_refl _) f s [cB (rgB s),cB (tab 80 fun _=>false)] fr q (tab 80 fun _=>false) R hF hq hs rfl rfl (by simp)
  have l2:(rgB q.1).length=80:=zir _
  generalize rgB q.1=r2 at*
  generalize rgB s=r1 at*
  generalize (tab 80 fun _=>false)=z0 at*
  simp -implicitDefEqProofs [zf1,zbX,hokv,hcel,hr0]
  generalize hF:run ctx _ (.loop _) _ _=R
  obtain ⟨fr',bs,rfl,b1,f2,f3⟩:=hlo _ _ hF (by simp) (by simp)
  simp -implicitDefEqProofs [b1,f2,f3,zaj,l2]
end Go.Av
namespace Go.Av
theorem zAe (L:Lim) (h:zab) (n a b:Int) (h1:a≤n) (h2:n≤b):zag ctx L zc7 [.int .i64 n,.int .i64 a,.int .i64 b] h=some (.bool true,h):=by
  rw [zsI]
  simp -implicitDefEqProofs [zkg,h1,h2]
theorem zOm (kd:IntKind) (n j:Nat) (l:List Bool) (i:Nat) (h:i < l.length):zcP none 1 (gA n j (eBl l)) (.int kd (i:Int))=some (.vptr [.bool (gd l false i)] 0):=by
  have e:(eBl l)[i]?=some [.bool (gd l false i)]:=by unfold eBl;rw [List.getElem?_map,zou (d:=false) h];rfl
  simp [gA,zcP,asI,e]
theorem zHe {fr:Fr} {h:zab} {R:Option (AEx × Fr × zab)} (z:List zaa)
    (hF:run ctx (zak h) (.loop zbw) fr (hx h [z,cB (za6 80 (fun j=>zhR.testBit j) (fun _=>false) 0)] [80])=R)
    (h10:fr 10=gA h.toks.length 0 (eBl (zj5 80))) (h11:fr 11=pA h.blks.length 1 0) (h12:fr 12=.int .i64 0):
    ∃ fr',R=some (.exit 0,fr',hx h [z,cB (rgB zhR)] [80])∧∀ t,t∉wr zbw→fr' t=fr t:=by
  obtain ⟨e,fr',h',rfl,⟨rfl,rfl⟩,hk⟩:=zaf hF 80
    (fun k fr hh=>fr 12=.int .i64 (k:Int)∧hh=hx h [z,cB (za6 80 (fun j=>zhR.testBit j) (fun _=>false) k)] [80])
    (fun e fr hh=>e=.exit 0∧hh=hx h [z,cB (rgB zhR)] [80])
    ⟨h12,rfl⟩ (by
      rintro k fr1 hh hkN hkeep ⟨g12,rfl⟩
      have g10:=(hkeep 10 (by decide)).trans h10
      have g11:=(hkeep 11 (by decide)).trans h11
      by_cases hlt:k < 80
      · have w1 : IntKind.i64.wrap ((k : Int) + 1) = k + 1 := wrap_i64 (by omega) (by omega)
        have hi:=zOm .i64 h.toks.length 0 (zj5 80) k (by simpa using hlt)
        rw [show gd (zj5 80) false k=zhR.testBit k from zbz hlt] at hi
        have i1:=zaP 80 1 h.blks.length 1 0 k .i64 (by simpa using hlt)
        rw [Nat.zero_add,Nat.mul_one] at i1
        have hset:=zCv (za6 80 (fun j=>zhR.testBit j) (fun _=>false) k) k (zhR.testBit k)
        rw [zdn 80 (fun j=>zhR.testBit j) (fun _=>false) k] at hset
        have hlen:(cB (za6 80 (fun j=>zhR.testBit j) (fun _=>false) k)).length=80:=by simp
        have hrob:(zak h).rob≤h.blks.length:=Nat.le_refl _
        generalize hm2:cB (za6 80 (fun j=>zhR.testBit j) (fun _=>false) (k+1))=m2 at*
        generalize cB (za6 80 (fun j=>zhR.testBit j) (fun _=>false) k)=m1 at*
        generalize zhR.testBit k=bb at*
        generalize eBl (zj5 80)=es at*
        simp -implicitDefEqProofs [zbw,g10,g11,g12,show (k:Int) < 80 by omega,w1,hi,i1,zat,zah,hrob,hlen,show k+1≤80 by omega,hset]
        exact ⟨hlt,by rw [hm2]⟩
      · have : k = 80 := by omega
        subst this
        rw [zft]
        show Ends _ _
        simp [zbw,g12]
        rfl)
  exact ⟨fr',rfl,hk⟩
theorem zHd {fr:Fr} {h:zab} {R:Option (AEx × Fr × zab)} (z:List zaa) (ts:List Nat)
    (hF:run ctx (zak h) (.loop zcY) fr (hx h [z,cB (rgB (zfw zhR 0))] ts)=R)
    (h11:fr 11=pA h.blks.length 1 0) (h13:fr 13=.int .i64 0):
    ∃ fr',R=some (.exit 2,fr',hx h [z,cB (rgB zlY)] ts)∧∀ t,t∉wr zcY→fr' t=fr t:=by
  obtain ⟨e,fr',h',rfl,⟨rfl,rfl⟩,hk⟩:=zaf hF 160
    (fun k fr hh=>fr 13=.int .i64 (k:Int)∧hh=hx h [z,cB (rgB (zfw zhR k))] ts)
    (fun e fr hh=>e=.exit 2∧hh=hx h [z,cB (rgB zlY)] ts)
    ⟨h13,rfl⟩ (by
      rintro k fr1 hh hkN hkeep ⟨g13,rfl⟩
      have g11:=(hkeep 11 (by decide)).trans h11
      by_cases hlt:k < 160
      · have w1 : IntKind.i64.wrap ((k : Int) + 1) = k + 1 := wrap_i64 (by omega) (by omega)
        have hT:=fun L h=>zz6 L h (zfw zhR k) (ztp zhR zDP k)
        rw [show zcA (zfw zhR k)=zfw zhR (k+1) from rfl] at hT
        have hrob:(zak h).rob≤h.blks.length:=Nat.le_refl _
        have l1:(rgB (zfw zhR k)).length=80:=zir _
        have l2:(rgB (zfw zhR (k+1))).length=80:=zir _
        generalize hm2:rgB (zfw zhR (k+1))=m2 at*
        generalize rgB (zfw zhR k)=m1 at*
        generalize zry (zfw zhR k)=bb at*
        simp -implicitDefEqProofs [zcY,g11,g13,show (k:Int) < 160 by omega,w1,zaj,l1,l2,hT,zC7,zC8,zbp,zai,zah,hrob,zga]
        exact ⟨hlt,by rw [hm2]⟩
      · have : k = 160 := by omega
        subst this
        have:zfw zhR 160=zlY:=rfl
        rw [this]
        generalize rgB zlY=m1 at*
        simp [zcY,g13])
  exact ⟨fr',rfl,hk⟩
theorem zow (n w p : Nat) (h : (List.range w).all (fun k => n.testBit (w - 1 - k) == zhR.testBit (p + k)) = true) : ∀ k, k < w → n.testBit (w - 1 - k) = zhR.testBit (p + k) := fun k hk => by
  have:=List.all_eq_true.1 h k (List.mem_range.2 hk)
  simpa using this
theorem zRO (L:Lim) (h:zab):zag ctx L zgF [.int .i64 254,.int .i64 3,.int .i64 8,.int .i64 57] h=some (.tup [.agg (cB (rgB zlY)),.int .i64 0],h):=by
  rw [zrk]
  have h1:=fun L h=>zAe L h 254 1 4095 (by decide) (by decide)
  have h2:=fun L h=>zAe L h 3 1 4095 (by decide) (by decide)
  have h3:=fun L h=>zAe L h 8 0 1023 (by decide) (by decide)
  have h4:=fun L h=>zAe L h 57 0 1023 (by decide) (by decide)
  have hrt:(zak h).rot≤h.toks.length:=Nat.le_refl _
  have a1:∀ bs,zag ctx (zak h) zao [.nsl,.int .i64 1,.int .i64 2] (hx h bs [])=some (gA h.toks.length 0 (eBl (zj5 2)),hx h bs [2]):=fun bs=>zG2 (zak h) h bs 1 2 (by decide) (by decide) (by decide) (by have:=zow 1 2 0 (by decide +kernel);simpa using this) hrt
  have a2:∀ bs,zag ctx (zak h) zao [gA h.toks.length 0 (eBl (zj5 2)),.int .i64 0,.int .i64 4] (hx h bs [2])=some (gA h.toks.length 0 (eBl (zj5 6)),hx h bs [6]):=fun bs=>zkL (zak h) h bs 0 4 2 (by decide) (by decide) (by decide) (by decide) (zow 0 4 2 (by decide +kernel)) hrt
  have a3:∀ bs,zag ctx (zak h) zao [gA h.toks.length 0 (eBl (zj5 6)),.int .i64 254,.int .i64 12] (hx h bs [6])=some (gA h.toks.length 0 (eBl (zj5 18)),hx h bs [18]):=fun bs=>zkL (zak h) h bs 254 12 6 (by decide) (by decide) (by decide) (by decide) (zow 254 12 6 (by decide +kernel)) hrt
  have a4:∀ bs,zag ctx (zak h) zao [gA h.toks.length 0 (eBl (zj5 18)),.int .i64 3,.int .i64 12] (hx h bs [18])=some (gA h.toks.length 0 (eBl (zj5 30)),hx h bs [30]):=fun bs=>zkL (zak h) h bs 3 12 18 (by decide) (by decide) (by decide) (by decide) (zow 3 12 18 (by decide +kernel)) hrt
  have a5:∀ bs,zag ctx (zak h) zao [gA h.toks.length 0 (eBl (zj5 30)),.int .i64 8,.int .i64 10] (hx h bs [30])=some (gA h.toks.length 0 (eBl (zj5 40)),hx h bs [40]):=fun bs=>zkL (zak h) h bs 8 10 30 (by decide) (by decide) (by decide) (by decide) (zow 8 10 30 (by decide +kernel)) hrt
  have a6:∀ bs,zag ctx (zak h) zao [gA h.toks.length 0 (eBl (zj5 40)),.int .i64 57,.int .i64 10] (hx h bs [40])=some (gA h.toks.length 0 (eBl (zj5 50)),hx h bs [50]):=fun bs=>zkL (zak h) h bs 57 10 40 (by decide) (by decide) (by decide) (by decide) (zow 57 10 40 (by decide +kernel)) hrt
  have a7:∀ bs,zag ctx (zak h) zao [gA h.toks.length 0 (eBl (zj5 50)),.int .i64 1073741823,.int .i64 30] (hx h bs [50])=some (gA h.toks.length 0 (eBl (zj5 80)),hx h bs [80]):=fun bs=>zkL (zak h) h bs 1073741823 30 50 (by decide) (by decide) (by decide) (by decide) (zow 1073741823 30 50 (by decide +kernel)) hrt
  have hlo1:=fun fr R z=>zHe (fr:=fr) (h:=h) (R:=R) z
  rw [zcc] at hlo1
  have hlo2:=fun fr R z ts=>zHd (fr:=fr) (h:=h) (R:=R) z ts
  rw [show zfw zhR 0=zhR from rfl] at hlo2
  have hr0:=zkh 80
  have hfill:zaA (cB (tab 80 fun _=>false)) []=some (cB (tab 80 fun _=>false)):=rfl
  have lz:(tab 80 fun _=>false).length=80:=by simp
  have l2:(rgB zlY).length=80:=zir _
  have hrob:(zak h).rob≤h.blks.length:=Nat.le_refl _
  generalize rgB zlY=r2 at*
  generalize rgB zhR=r1 at*
  generalize (tab 80 fun _=>false)=z0 at*
  generalize eBl (zj5 2)=e1 at*
  generalize eBl (zj5 6)=e2 at*
  generalize eBl (zj5 18)=e3 at*
  generalize eBl (zj5 30)=e4 at*
  generalize eBl (zj5 40)=e5 at*
  generalize eBl (zj5 50)=e6 at*
  generalize eBl (zj5 80)=e7 at*
  simp -implicitDefEqProofs [zi7,h1,h2,h3,h4,hr0,a1,a2,a3,a4,a5,a6,a7,hfill,zbp,zai,lz,zah,hrob,zga]
  generalize hF:run ctx _ (.loop _) _ _=R
  obtain ⟨fr1,rfl,hk1⟩:=hlo1 _ _ _ hF (by simp) (by simp) (by simp)
  simp -implicitDefEqProofs [hk1,wr,zbw,zbM]
  generalize hF:run ctx _ (.loop _) _ _=R
  obtain ⟨fr2,rfl,hk2⟩:=hlo2 _ _ _ _ hF (by simp [hk1,wr,zbw,zbM]) (by simp)
  simp -implicitDefEqProofs [hk1,hk2,wr,zbw,zcY,zbM,zaj,l2,lz,zbp,zai,zah,hrob,zga]
end Go.Av
namespace Go.Av
theorem zLh (L:Lim) (h:zab) (bs:List (List zaa)) (ts:List Nat) (sz:Nat) (c:Bool) (es ys:List (List zaa))
    (hc:(zh1 sz ys&&zh1 sz es&&decide (L.rot≤h.toks.length)&&decide (es.length+ys.length < zam))=true):
    zqX L (hx h bs (ts++gT es)) sz false (gL (.vsl true []) h.toks.length ts.length es) (.vsl c ys)=some (gL (.vsl true []) h.toks.length ts.length (es++ys),hx h bs (ts++gT (es++ys))):=by
  simp only [Bool.and_eq_true,decide_eq_true_eq] at hc
  have e1:∀ q,hx (hx h [] ts) bs q=hx h bs (ts++q):=fun q=>by simp
  have e2 : ∀ es, gL (.vsl true []) (hx h [] ts).toks.length 0 es = gL (.vsl true []) h.toks.length ts.length es := fun es => by
    unfold gL;split
    · rfl
    · rw [zaQ,zQ6];rfl
  have:=zsJ L (hx h [] ts) bs sz c es ys (by simp only [Bool.and_eq_true,decide_eq_true_eq,zaQ];exact ⟨⟨⟨hc.1.1.1,hc.1.1.2⟩,by omega⟩,hc.2⟩)
  rw [e1,e1,e2,e2] at this
  exact this
def nbE (f:Nat→Nat) (j:Nat):List zaa:=[.vsl false (eW (dg (f j)))]
theorem zOq (f:Nat→Nat) (k:Nat):zh1 1 (tab k (nbE f))=true:=by
  cases k with
  | zero=>rfl
  | succ k=>unfold tab;rw [List.range_succ_eq_map];rfl
theorem zLi (f:Nat→Nat) (nb nt k:Nat):zaq nb nt (tab k (nbE f))=true:=by
  have : ∀ l : List Nat, zaq nb nt (l.map (nbE f)) = true := fun l => by
    induction l with
    | nil=>rfl
    | cons x l ih=>simp only [List.map_cons,zaq,ih,Bool.and_true,nbE,zap,zaa.under,zEE]
  exact this _
@[irreducible] def zxT (i j:Nat):Nat:=zvR (3*i+j)
def zjh (i:Nat):Nat→List zaa:=nbE (zxT i)
theorem zLk (i k:Nat):zh1 1 (tab k (zjh i))=true:=zOq _ k
theorem zqW (i nb nt k:Nat):zaq nb nt (tab k (zjh i))=true:=zLi _ nb nt k
theorem zOt {m:Nat} (h0:m≠0) (h:m < dB):[BitVec.ofNat 64 m]=dg m:=by
  have e:(BitVec.ofNat 64 m:W64).toNat=m:=by
    rw [BitVec.toNat_ofNat];rw [show dB=4294967296 from rfl] at h;omega
  have hc : Can [BitVec.ofNat 64 m] := ⟨zKR (by rw [e]; exact h), .inr (by
    show (BitVec.ofNat 64 m:W64)≠0#64
    intro q
    rw [q] at e
    exact h0 e.symm)⟩
  rw [zQ9 hc,zPi,e]
theorem zVb (i k:Nat) (h1:(3*i+k) / 3=i) (h2:(3*i+k) % 3=k):(i+k+3) ^ (pN - 2) % pN=zxT i k:=by
  unfold zxT zvR;rw [h1,h2]
theorem zOw (L:Lim) (h:zab) (i k:Nat) (h1:(3*i+k) / 3=i) (h2:(3*i+k) % 3=k) (h3:i+k+3 < pN):zag ctx L zcN [.vsl true (eW (dg (i+k+3)))] h=some (.vsl false (eW (dg (zxT i k))),h):=by
  rw [← zVb i k h1 h2]
  exact zDF L h (.vsl true (eW (dg (i+k+3)))) (i+k+3) (LV.vsl _ _) h3
theorem zHl {fr:Fr} {h:zab} {R:Option (AEx × Fr × zab)} (ts:List Nat) (i:Nat) (hi:i < 3)
    (hF:run ctx (zak h) (.loop zbS) fr (hx h [] (ts++gT (tab 0 (zjh i))))=R)
    (h2:fr 2=.int .i64 (i:Int)) (h3:fr 3=gL (.vsl true []) h.toks.length ts.length (tab 0 (zjh i))) (h4:fr 4=.int .i64 0):
    ∃ fr',R=some (.exit 2,fr',hx h [] (ts++[3]))∧fr' 3=gA h.toks.length ts.length (tab 3 (zjh i))∧∀ t,t∉wr zbS→fr' t=fr t:=by
  obtain ⟨e,fr',h',rfl,⟨rfl,rfl,h3'⟩,hk⟩:=zaf hF 3
    (fun k fr hh=>fr 4=.int .i64 (k:Int)∧fr 3=gL (.vsl true []) h.toks.length ts.length (tab k (zjh i))∧hh=hx h [] (ts++gT (tab k (zjh i))))
    (fun e fr hh=>e=.exit 2∧hh=hx h [] (ts++[3])∧fr 3=gA h.toks.length ts.length (tab 3 (zjh i)))
    ⟨h4,h3,rfl⟩ (by
      rintro k fr1 hh hkN hkeep ⟨g4,g3,rfl⟩
      have g2:=(hkeep 2 (by decide)).trans h2
      by_cases hlt:k < 3
      · have w1 : IntKind.i64.wrap ((k : Int) + 1) = k + 1 := wrap_i64 (by omega) (by omega)
        have w2:IntKind.i64.wrap ((i:Int)+k)=((i+k:Nat):Int):=wrap_i64 (by omega) (by omega)
        have w3:IntKind.i64.wrap (((i+k:Nat):Int)+3)=((i+k+3:Nat):Int):=wrap_i64 (by omega) (by omega)
        have hbw:zMA .u64 (.int .i64 ((i+k+3:Nat):Int))=some (wd (BitVec.ofNat 64 (i+k+3))):=by rw [zH2];rfl
        have hds:eW [BitVec.ofNat 64 (i+k+3)]=eW (dg (i+k+3)):=by rw [zOt (by omega) (by rw [show dB=4294967296 from rfl];omega)]
        have hch:chunks 1 1 [wd (BitVec.ofNat 64 (i+k+3))]=eW [BitVec.ofNat 64 (i+k+3)]:=rfl
        rw [hds] at hch
        have hI:=fun L h=>zOw L h i k (by omega) (by omega) (Nat.lt_of_lt_of_le (show i+k+3 < 10 by omega) (by decide))
        have hfill:=zA7 (.vsl false (eW (dg (zxT i k)))) false _ rfl
        have hap:=zLh (zak h) h [] ts 1 true (tab k (zjh i)) [zjh i k] (by rw [zLk];simp [zam,zak,zjh,nbE];omega)
        rw [zig,show zjh i k=[.vsl false (eW (dg (zxT i k)))] by unfold zjh nbE;exact rfl] at hap
        generalize hg2:gL (.vsl true []) h.toks.length ts.length (tab (k+1) (zjh i))=v2 at*
        generalize ht2:gT (tab (k+1) (zjh i))=t2 at*
        generalize gL (.vsl true []) h.toks.length ts.length (tab k (zjh i))=v1 at*
        generalize gT (tab k (zjh i))=t1 at*
        generalize eW (dg (zxT i k))=e2 at*
        generalize eW (dg (i+k+3))=e1 at*
        generalize (BitVec.ofNat 64 (i+k+3):W64)=bb at*
        generalize ((i+k+3:Nat):Int)=i3 at*
        generalize ((i+k:Nat):Int)=i2 at*
        simp -implicitDefEqProofs [zbS,g2,g3,g4,show (k:Int) < 3 by omega,w1,w2,w3,hbw, -zdV,zx0,hch,hI,hfill,zki,hap]
        exact ⟨hlt,hg2.symm,by rw [ht2]⟩
      · have : k = 3 := by omega
        subst this
        have e1:gL (.vsl true []) h.toks.length ts.length (tab 3 (zjh i))=gA h.toks.length ts.length (tab 3 (zjh i)):=rfl
        have e2:gT (tab 3 (zjh i))=[3]:=rfl
        rw [e1] at g3
        rw [e2]
        generalize gA h.toks.length ts.length (tab 3 (zjh i))=g1 at*
        simp [zbS,g4,g3])
  exact ⟨fr',rfl,h3',hk⟩
def zAJ:Nat→List Nat
  | 0=>[]
  | 1=>[3,1]
  | 2=>[3,2,3]
  | _=>[3,3,3,3]
def zHB (n:Nat):Nat→zaa
  | 0=>.vsl true []
  | 1=>gA n 1 [[gA n 0 (tab 3 (zjh 0))]]
  | 2=>gA n 1 [[gA n 0 (tab 3 (zjh 0))],[gA n 2 (tab 3 (zjh 1))]]
  | _=>gA n 1 [[gA n 0 (tab 3 (zjh 0))],[gA n 2 (tab 3 (zjh 1))],[gA n 3 (tab 3 (zjh 2))]]
theorem zVc (n i:Nat) (es:List (List zaa)):zaA (rep [zaa.nsl] 1) [(0,1,gA n i es)]=some [gA n i es]:=rfl
theorem zLn {fr:Fr} {h:zab} {R:Option (AEx × Fr × zab)}
    (hF:run ctx (zak h) (.loop zef) fr (hx h [] (zAJ 0))=R)
    (h1:fr 1=zHB h.toks.length 0) (h2:fr 2=.int .i64 0):
    ∃ fr',R=some (.exit 0,fr',hx h [] (zAJ 3))∧fr' 1=zHB h.toks.length 3:=by
  obtain ⟨e,fr',h',rfl,⟨rfl,rfl,h1'⟩,hk⟩:=zaf hF 3
    (fun k fr hh=>fr 2=.int .i64 (k:Int)∧fr 1=zHB h.toks.length k∧hh=hx h [] (zAJ k))
    (fun e fr hh=>e=.exit 0∧hh=hx h [] (zAJ 3)∧fr 1=zHB h.toks.length 3)
    ⟨h2,h1,rfl⟩ (by
      rintro k fr1 hh hkN hkeep ⟨g2,g1,rfl⟩
      by_cases hlt:k < 3
      · have w1 : IntKind.i64.wrap ((k : Int) + 1) = k + 1 := wrap_i64 (by omega) (by omega)
        have hlo:=fun fr R=>zHl (fr:=fr) (h:=h) (R:=R) (zAJ k) k hlt
        have e0:gT (tab 0 (zjh k))=[]:=rfl
        have e1:gL (.vsl true []) h.toks.length (zAJ k).length (tab 0 (zjh k))=.vsl true []:=rfl
        rw [e0,e1,List.append_nil] at hlo
        have hap:zqX (zak h) (hx h [] (zAJ k++[3])) 1 false (zHB h.toks.length k) (.vsl true [[gA h.toks.length (zAJ k).length (tab 3 (zjh k))]])=some (zHB h.toks.length (k+1),hx h [] (zAJ (k+1))):=by
          have:k=0∨k=1∨k=2:=by omega
          rcases this with rfl | rfl | rfl
          · exact zLh (zak h) h [] [3] 1 true [] [[gA h.toks.length 0 (tab 3 (zjh 0))]] (by simp [zam,zak,zh1])
          · have := zw2 (zak h) h [] [3, 1, 3] 1 1 true [[gA h.toks.length 0 (tab 3 (zjh 0))]] [[gA h.toks.length 2 (tab 3 (zjh 1))]] (by simp [zam, zak, zh1])
            exact this
          · have := zw2 (zak h) h [] [3, 2, 3, 3] 1 1 true [[gA h.toks.length 0 (tab 3 (zjh 0))], [gA h.toks.length 2 (tab 3 (zjh 1))]] [[gA h.toks.length 3 (tab 3 (zjh 2))]] (by simp [zam, zak, zh1])
            exact this
        have hfill:=zVc h.toks.length (zAJ k).length (tab 3 (zjh k))
        have hch:zaA (rep [zaa.nsl] 0) []=some []:=rfl
        have hch0:chunks 1 0 []=[]:=rfl
        generalize hv2:zHB h.toks.length (k+1)=v2 at*
        generalize ht2:zAJ (k+1)=t2 at*
        generalize zHB h.toks.length k=v1 at*
        generalize gA h.toks.length (zAJ k).length (tab 3 (zjh k))=gr at*
        generalize zAJ k++[3]=t3 at*
        generalize zAJ k=t1 at*
        simp -implicitDefEqProofs [zef,g2,g1,show (k:Int) < 3 by omega,hch,hch0]
        generalize hF:run ctx _ (.loop _) _ _=R
        obtain ⟨fr2,rfl,f3,hk2⟩:=hlo _ _ hF (by simp [g2]) (by simp) (by simp)
        simp -implicitDefEqProofs [hk2,wr,zbS,zbM,f3,g1,g2,hfill,zki,hap,w1]
        exact ⟨hlt,hv2.symm,by rw [ht2]⟩
      · have : k = 3 := by omega
        subst this
        generalize zHB h.toks.length 3=v1 at*
        simp [zef,g2,g1])
  exact ⟨fr',rfl,h1'⟩
theorem zOz (h:zab) (nb nt n t:Nat) (es:List (List zaa)):frz h nb nt (n+1) (.gsl t es)=(zD7 (frz h nb nt n) nb nt es).map fun es=>if t < nt then .gsl t es else .vsl false es:=by simp only [frz]
theorem zVd (f:zaa→Option zaa) (nb nt:Nat) (a b c a' b' c':zaa) (hu:zaq nb nt [[a],[b],[c]]=false) (h1:f a=some a') (h2:f b=some b') (h3:f c=some c'):zD7 f nb nt [[a],[b],[c]]=some [[a'],[b'],[c']]:=by
  unfold zD7
  rw [hu]
  simp [h1,h2,h3]
def zey:zaa:=.vsl false (tab 3 fun i=>[.vsl false (tab 3 (zjh i))])
theorem zHn (L:Lim) (h:zab):zag ctx L zeF [] h=some (zey,h):=by
  rw [zod]
  have hlo:=fun fr R=>zLn (fr:=fr) (h:=h) (R:=R)
  have hch:zaA (rep [zaa.nsl] 0) []=some []:=rfl
  have hch0:chunks 1 0 []=[]:=rfl
  have hfz:frz (hx h [] (zAJ 3)) h.blks.length h.toks.length 12 (zHB h.toks.length 3)=some zey:=by
    have u0:=zqW 0 h.blks.length h.toks.length 3
    have u1:=zqW 1 h.blks.length h.toks.length 3
    have u2:=zqW 2 h.blks.length h.toks.length 3
    have e:zey=.vsl false [[.vsl false (tab 3 (zjh 0))],[.vsl false (tab 3 (zjh 1))],[.vsl false (tab 3 (zjh 2))]]:=rfl
    rw [e]
    have ev:zHB h.toks.length 3=gA h.toks.length 1 [[gA h.toks.length 0 (tab 3 (zjh 0))],[gA h.toks.length 2 (tab 3 (zjh 1))],[gA h.toks.length 3 (tab 3 (zjh 2))]]:=rfl
    rw [ev]
    generalize tab 3 (zjh 0)=r0 at*
    generalize tab 3 (zjh 1)=r1 at*
    generalize tab 3 (zjh 2)=r2 at*
    have f0:=fun m i=>zpp (hx h [] (zAJ 3)) h.blks.length h.toks.length m i r0 u0
    have f1:=fun m i=>zpp (hx h [] (zAJ 3)) h.blks.length h.toks.length m i r1 u1
    have f2:=fun m i=>zpp (hx h [] (zAJ 3)) h.blks.length h.toks.length m i r2 u2
    have hu:zaq h.blks.length h.toks.length [[gA h.toks.length 0 r0],[gA h.toks.length 2 r1],[gA h.toks.length 3 r2]]=false:=by
      simp [zaq,zap,gA,zaa.under]
    show frz _ _ _ (11+1) (.gsl (h.toks.length+1) _)=_
    rw [zOz,zVd _ _ _ _ _ _ _ _ _ hu (f0 10 0) (f1 10 2) (f2 10 3)]
    simp
  generalize zHB h.toks.length 3=v3 at*
  simp -implicitDefEqProofs [zgT,hch,hch0]
  generalize hF:run ctx _ (.loop _) _ _=R
  obtain ⟨fr1,rfl,f1⟩:=hlo _ _ hF (by simp;rfl) (by simp)
  simp -implicitDefEqProofs [f1,hfz]
end Go.Av
namespace Go.Av
def nbL (l:List Nat):List (List zaa):=l.map fun n=>[.vsl false (eW (dg n))]
@[simp] theorem zRU (l:List Nat):(nbL l).length=l.length:=by simp [nbL]
theorem zAs (l:List Nat) (n:Nat):nbL l++[[.vsl false (eW (dg n))]]=nbL (l++[n]):=by simp [nbL]
theorem zvE:∀ l:List Nat,zh1 1 (nbL l)=true
  | []=>rfl
  | _ :: _=>rfl
theorem zdN (nb nt:Nat):∀ l:List Nat,zaq nb nt (nbL l)=true
  | []=>rfl
  | n :: l => by
    show (zap nb nt [zaa.vsl false (eW (dg n))]&&zaq nb nt (nbL l))=true
    rw [zdN nb nt l]
    simp only [zap,zaa.under,zEE,Bool.and_self]
theorem zAv (kd:IntKind) (c:Bool) (l:List Nat) (i:Nat) (h:i < l.length):zcP none 1 (.vsl c (nbL l)) (.int kd (i:Int))=some (.vptr [.vsl false (eW (dg (gd l 0 i)))] 0):=by
  have e:(nbL l)[i]?=some [.vsl false (eW (dg (gd l 0 i)))]:=by unfold nbL;rw [List.getElem?_map,zou (d:=0) h];rfl
  simp [zcP,asI,e]
theorem zdy:∃ es,zey=.vsl false es∧(∀ nb nt,zaq nb nt es=true)∧zh1 1 es=true:=by
  refine ⟨_,rfl,fun nb nt=>?_,rfl⟩
  have : ∀ l : List Nat, zaq nb nt (l.map fun i => [zaa.vsl false (tab 3 (zjh i))]) = true := fun l => by
    induction l with
    | nil=>rfl
    | cons x l ih=>simp only [List.map_cons,zaq,ih,Bool.and_true,zap,zaa.under,zqW]
  exact this _
theorem zLs {fr:Fr} {h:zab} {R:Option (AEx × Fr × zab)} (Q:Nat × List Nat) (hQ:zcJ zlY 195=some Q) (M:zaa) (z:List zaa)
    (hF:run ctx (zak h) (.loop zcQ) fr (hx h [z,cB (rgB zlY),[gL .nsl h.toks.length 0 (nbL []),M]] (gT (nbL [])))=R)
    (h1:fr 1=pA h.blks.length 1 0) (h3:fr 3=pA h.blks.length 2 0) (h4:fr 4=.int .i64 0):
    ∃ fr' r js,R=some (.exit 0,fr',hx h (z :: r :: [gL .nsl h.toks.length 0 (nbL Q.2),M] :: js) (gT (nbL Q.2)))∧∀ t,t∉wr zcQ→fr' t=fr t:=by
  obtain ⟨e',fr',h',rfl,⟨rfl,r,js,rfl⟩,hk⟩:=zaf hF 195
    (fun k fr hh=>fr 4=.int .i64 (k:Int)∧∃ p,zcJ zlY k=some p∧∃ js,hh=hx h (z :: cB (rgB p.1) :: [gL .nsl h.toks.length 0 (nbL p.2),M] :: js) (gT (nbL p.2)))
    (fun e' fr hh=>e'=.exit 0∧∃ r js,hh=hx h (z :: r :: [gL .nsl h.toks.length 0 (nbL Q.2),M] :: js) (gT (nbL Q.2)))
    ⟨h4,(zlY,[]),rfl,[],rfl⟩ (by
      rintro k fr1 hh hkN hkeep ⟨g4,p,hp,js,rfl⟩
      have g1:=(hkeep 1 (by decide)).trans h1
      have g3:=(hkeep 3 (by decide)).trans h3
      by_cases hlt:k < 195
      · have w1 : IntKind.i64.wrap ((k : Int) + 1) = k + 1 := wrap_i64 (by omega) (by omega)
        obtain ⟨p2,hp2⟩:=zuj hQ (k+1) (by omega)
        obtain ⟨p',r,e1,e2,rfl⟩:=zk7 hp2
        rw [hp] at e1
        obtain rfl:=Option.some.inj e1
        obtain ⟨hs1,hlen1⟩:=zih zp8 hp
        have hE:=fun L h=>zUY L h 40 p.1 r e2 hs1
        have hap:=fun bs=>zw1 (zak h) h bs 1 true (nbL p.2) [[.vsl false (eW (dg r.2))]] (by rw [zvE];simp [zam,zak];omega)
        rw [zAs] at hap
        have hfill:=zA7 (.vsl false (eW (dg r.2))) false _ rfl
        have l0:(rgB p.1).length=80:=zir _
        have l1:(rgB r.1).length=80:=zir _
        have lz:(tab 80 fun _=>false).length=80:=by simp
        have hr0:=zkh 80
        have hrob:(zak h).rob≤h.blks.length:=Nat.le_refl _
        have hst : ∀ v, stK (zak h) (hx h (z :: cB (rgB r.1) :: [gL .nsl h.toks.length 0 (nbL p.2), M] :: (js ++ [cB (rgB r.1)])) v) 1 (pA h.blks.length 2 0) (gL .nsl h.toks.length 0 (nbL (p.2 ++ [r.2]))) = some (zb5, hx h (z :: cB (rgB r.1) :: [gL .nsl h.toks.length 0 (nbL (p.2 ++ [r.2])), M] :: (js ++ [cB (rgB r.1)])) v) := fun v => by
          have hgg:gL .nsl h.toks.length 0 (nbL (p.2++[r.2]))=gA h.toks.length 0 (nbL (p.2++[r.2])):=by
            unfold gL;rw [if_neg (by simp [nbL])]
          rw [hgg]
          simp -implicitDefEqProofs [zak]
        have hfin:∃ a b,zcJ zlY (k+1)=some (a,b)∧(rgB r.1=rgB a)∧(p.2++[r.2]=b):=⟨_,_,hp2,rfl,rfl⟩
        generalize p.2++[r.2]=l2 at*
        generalize rgB r.1=r1 at*
        generalize rgB p.1=r0 at*
        generalize hv2:gL .nsl h.toks.length 0 (nbL l2)=v2 at*
        generalize gL .nsl h.toks.length 0 (nbL p.2)=v1 at*
        generalize ht2:gT (nbL l2)=t2 at*
        generalize gT (nbL p.2)=t1 at*
        generalize (tab 80 fun _=>false)=z0 at*
        generalize eW (dg r.2)=er at*
        have hg1:=fun x=>zaO (z :: cB r0 :: [v1,M] :: js) [x] (js.length+3) 0 rfl
        have hs1:=fun x v=>zbY (z :: cB r0 :: [v1,M] :: js) [x] (js.length+3) 0 v rfl
        simp only [Nat.add_zero,List.getElem?_cons_zero,List.getElem?_cons_succ,List.set_cons_zero,List.set_cons_succ,List.cons_append] at hg1 hs1
        simp -implicitDefEqProofs [zcQ,g1,g3,g4,show (k:Int) < 195 by omega,w1,zaj,zat,l0,l1,lz,hE,zC7,zC8,hr0,zbp,zai,zah,hrob,zga,hg1,hs1,hfill,zki,hap,hst]
        obtain ⟨a,b,f1,f2,f3⟩:=hfin
        exact ⟨hlt,a,b,f1,js++[cB r1],by rw [← f2,← f3,hv2,ht2]⟩
      · have : k = 195 := by omega
        subst this
        rw [hQ] at hp
        obtain rfl:=Option.some.inj hp
        simp [zcQ,g4]
        exact ⟨_,_,rfl⟩)
  exact ⟨fr',r,js,rfl,hk⟩
theorem zOA (h:zab) (nb nt n:Nat) (a b a' b':zaa) (hf:zdE [a,b]=false) (h1:frz h nb nt n a=some a') (h2:frz h nb nt n b=some b'):frz h nb nt (n+1) (.agg [a,b])=some (.agg [a',b']):=by
  simp only [frz]
  rw [if_neg (by simp [hf])]
  simp [h1,h2]
def zlC (l:List Nat):zaa:=.agg [.vsl false (nbL l),zey]
theorem zRW (L:Lim) (h:zab) (Q:Nat × List Nat) (hQ:zcJ zlY 195=some Q):zag ctx L zgC [] h=some (zlC Q.2,h):=by
  rw [zrh]
  have hlo:=fun fr R M z=>zLs (fr:=fr) (h:=h) (R:=R) Q hQ M z
  have hN:=zRO
  have hC:=zHn
  obtain ⟨es,hM,hMu,_⟩:=zdy
  have hl:=(zih zp8 hQ).2
  have hg0:gL .nsl h.toks.length 0 (nbL [])=.nsl:=rfl
  have ht0:gT (nbL [])=[]:=rfl
  rw [hg0,ht0] at hlo
  have hne:nbL Q.2≠[]:=fun e=>by have:=congrArg List.length e;simp [hl] at this
  have hgg:gL .nsl h.toks.length 0 (nbL Q.2)=gA h.toks.length 0 (nbL Q.2):=by unfold gL;rw [if_neg hne]
  rw [hgg] at hlo
  have hr0:=zkh 80
  have lz:(tab 80 fun _=>false).length=80:=by simp
  have l1:(rgB zlY).length=80:=zir _
  have hfz : ∀ hh, frz hh h.blks.length h.toks.length 12 (.agg [gA h.toks.length 0 (nbL Q.2), zey]) = some (zlC Q.2) := fun hh => by
    unfold zlC
    rw [hM]
    refine zOA hh _ _ 11 _ _ _ _ (by simp [gA,zdE,zaa.flat]) (zpp hh _ _ 10 0 _ (zdN _ _ _)) (zhq hh _ _ 10 false (hMu _ _))
  have hbld:∀ v,v=zey→zaA [.nsl,.nsl] [(1,1,v)]=some [.nsl,v]:=fun v hv=>by subst hv;rw [hM];rfl
  have hb1:=hbld zey rfl
  have hu2:zap 0 0 [zaa.nsl,zey]=true:=by rw [hM];simp only [zap,zaa.under,hMu,Bool.and_self]
  generalize hres:zlC Q.2=res at*
  generalize nbL Q.2=nq at*
  generalize gT nq=tq at*
  generalize zey=M at*
  generalize rgB zlY=r1 at*
  generalize (tab 80 fun _=>false)=z0 at*
  have hrob:(zak h).rob≤h.blks.length:=Nat.le_refl _
  simp -implicitDefEqProofs [ziP,hN,zC7,zC8,hr0,zbp,zai,lz,l1,zah,hrob,zga,hC,hb1,hu2]
  generalize hF:run ctx _ (.loop _) _ _=R
  obtain ⟨fr1,r,js,rfl,hk1⟩:=hlo _ _ _ _ hF (by simp) (by simp) (by simp)
  simp -implicitDefEqProofs [hk1,wr,zcQ,zbM,zaj,zbp,zai,zak,hfz]
def zAK (l:List Nat) (r:Int) (j:Nat):Nat:=if 0≤r∧r < 65 then gd l 0 (3*r.toNat+j) else 0
theorem zLv (L:Lim) (h:zab) (l:List Nat) (hl:l.length=195) (r:Int) (j:Nat) (hj:j < 3):zag ctx L zdP [zlC l,.int .i64 r,.int .i64 (j:Int)] h=some (.vsl false (eW (dg (zAK l r j))),h):=by
  rw [zmg]
  obtain ⟨es,hM,hMu,_⟩:=zdy
  have hf:fzA h (zlC l)=some (zlC l,false):=by
    unfold zlC;rw [hM];simp [fzA,zdE,zaa.flat]
  have hbox:zzh (zlC l)=some (.vptr [.vsl false (nbL l),zey] 0):=rfl
  by_cases hr:0≤r∧r < 65
  · obtain ⟨n, rfl⟩ : ∃ n : Nat, r = (n : Int) := ⟨r.toNat, by omega⟩
    have e:zAK l (n:Int) j=gd l 0 (3*n+j):=by unfold zAK;rw [if_pos hr];rfl
    rw [e]
    have w1:IntKind.i64.wrap (3*(n:Int))=((3*n:Nat):Int):=(wrap_i64 (by omega) (by omega)).trans (by omega)
    have w2:IntKind.i64.wrap (((3*n:Nat):Int)+j)=((3*n+j:Nat):Int):=wrap_i64 (by omega) (by omega)
    have hi:=zAv .i64 false l (3*n+j) (by omega)
    have c1:¬(n:Int) < 0:=by omega
    have c2:¬(64:Int) < n:=by omega
    generalize ((3*n+j:Nat):Int)=nj at*
    generalize ((3*n:Nat):Int)=n3 at*
    generalize zlC l=tv at*
    generalize nbL l=nl at*
    simp -implicitDefEqProofs [zcv,hf,hbox,c1,c2,w1,w2,hi]
  · have e : zAK l r j = 0 := by unfold zAK; rw [if_neg hr]
    rw [e,zKx]
    generalize zlC l=tv at*
    by_cases c1:r < 0
    · simp -implicitDefEqProofs [zcv,hf,hbox,c1]
    · have c2 : (64 : Int) < r := by omega
      simp -implicitDefEqProofs [zcv,hf,hbox,c1,c2]
theorem zFK {s:Nat} (hs:s < 2 ^ 80):∀ {k:Nat} {q:Nat × List Nat},zcJ s k=some q→∀ i,gd q.2 0 i < pN
  | 0, q, h, i => by
    obtain rfl:=Option.some.inj h
    have:gd ([]:List Nat) 0 i=0:=by simp [gd,List.getD]
    rw [this];exact zd1
  | k + 1, q, h, i => by
    obtain ⟨p,r,h1,h2,rfl⟩:=zk7 h
    have ih:=zFK hs h1 i
    have hp:=zih hs h1
    by_cases e:i < p.2.length
    · rw [zAm _ _ _ _ e];exact ih
    · rw [zAo _ _ _ _ (by omega)]
      by_cases e2:i - p.2.length=0
      · rw [e2];exact (zzC 40 _ r h2 hp.1).2
      · have : gd [r.2] 0 (i - p.2.length) = 0 := by simp [gd, List.getD, e2]
        rw [this];exact zd1
theorem zRX (l:List Nat) (hl:∀ i,gd l 0 i < pN) (r:Int) (j:Nat):zAK l r j < pN:=by
  unfold zAK;split
  · exact hl _
  · exact zd1
theorem zOB (l m:List Nat) (hl:l.length=195) (r:Int) (j:Nat) (hj:j < 3):gd (zxd (l++m) r) 0 j=zAK l r j:=by
  unfold zxd zAK
  split
  · rename_i h
    have h1:3*r.toNat+j < l.length:=by omega
    have h2:j < (((l++m).drop (3*r.toNat)).take 3).length:=by simp;omega
    unfold gd
    rw [List.getD_eq_getElem?_getD,List.getElem?_take_of_lt hj,List.getElem?_drop,List.getElem?_append_left h1,← List.getD_eq_getElem?_getD]
  · have : j = 0 ∨ j = 1 ∨ j = 2 := by omega
    rcases this with rfl | rfl | rfl <;> rfl
end Go.Av
namespace Go.Av
theorem zYf {k:IntKind} (a:Int):zdj .geq (.int k a) (.int k 0)=some (.bool (decide (a≥0))):=zhE k a 0
theorem zIo {x:Nat} (h:x < pN+pN):x < dB ^ 8:=Nat.lt_trans h (by decide)
theorem zEO (L:Lim) (h:zab) (u v:zaa) (x y:Nat) (hu:LV u (dg x)) (hv:LV v (dg y)) (hx1:x < pN) (hy1:y < pN):
    zag ctx L zeU [u,v] h=some (.vsl false (eW (dg ((x+y) % pN))),h):=by
  rw [zq8]
  have hP:=zIA
  rw [zF8] at hP
  have lx:(dg x).length < 100000000:=by have:=zrL (n:=x) (k:=8) (zIo (by omega));omega
  have ly:(dg y).length < 100000000:=by have:=zrL (n:=y) (k:=8) (zIo (by omega));omega
  have lp:(dg pN).length < 100000000:=by rw [← zF8];decide
  have ls:(dg (x+y)).length < 100000000:=by have:=zrL (n:=x+y) (k:=8) (zIo (by omega));omega
  have hA:=fun L h=>zHZ L h (.vsl false (eW (dg x))) (.vsl false (eW (dg y))) (dg x) (dg y) (LV.vsl _ _) (LV.vsl _ _) (zkH _) (zkH _) ⟨lx,ly⟩
  rw [zds,zds] at hA
  have hC:=fun L h=>zC5 L h (.vsl false (eW (dg (x+y)))) (.vsl false (eW (dg pN))) (dg (x+y)) (dg pN) (RdW.vsl _ _ _) (RdW.vsl _ _ _) (zkH _) (zkH _) ⟨ls,lp⟩
  rw [zds,zds] at hC
  have hge:=zKO (x+y) pN
  have hf1:=hu.fz
  have hf2:=hv.fz
  by_cases hle:pN≤x+y
  · rw [decide_eq_true hle] at hge
    have hS:=fun L h=>zC9 L h (.vsl false (eW (dg (x+y)))) (.vsl false (eW (dg pN))) (dg (x+y)) (dg pN) (LV.vsl _ _) (LV.vsl _ _) (zkH _) (zkH _) ls (zyY hle) (by rw [zds,zds];exact hle)
    rw [zds,zds] at hS
    have e:(x+y) % pN=x+y - pN:=by rw [Nat.mod_eq_sub_mod hle,Nat.mod_eq_of_lt (by omega)]
    rw [e]
    generalize zmE (x+y) pN=cc at*
    generalize eW (dg pN)=ep at*
    generalize eW (dg (x+y))=es at*
    simp -implicitDefEqProofs [zgw,hf1,hf2,hA,hP,hC,hge, -zhE,zYf,hS]
  · rw [decide_eq_false hle] at hge
    have e:(x+y) % pN=x+y:=Nat.mod_eq_of_lt (by omega)
    rw [e]
    generalize zmE (x+y) pN=cc at*
    generalize eW (dg pN)=ep at*
    simp -implicitDefEqProofs [zgw,hf1,hf2,hA,hP,hC,hge, -zhE,zYf]
theorem zRY (i j:Nat):zxT i j < pN:=by
  unfold zxT zvR;exact Nat.mod_lt _ zd1
def apS (v:List Nat) (i:Nat):Nat→Nat
  | 0=>0
  | j+1=>(apS v i j+zxT i j*gd v 0 j % pN) % pN
theorem zS9 (v:List Nat) (i j:Nat):apS v i j < pN:=by
  cases j with
  | zero=>exact zd1
  | succ j=>exact Nat.mod_lt _ zd1
theorem zvS (i j:Nat) (hi:i < 3) (hj:j < 3):gd zae 0 (3*i+j)=zxT i j:=by
  unfold zxT zae;rw [zbz (by omega)]
theorem zPS (v:List Nat) (i:Nat) (hi:i < 3):apS v i 3=gd (applyN zae v) 0 i:=by
  unfold applyN
  rw [zbz hi,zvS i 1 hi (by decide),zvS i 2 hi (by decide),show 3*i=3*i+0 from rfl,zvS i 0 hi (by decide)]
  simp only [apS,Nat.zero_add]
  simp only [Nat.add_mod,Nat.mod_mod]
theorem zIs {fr:Fr} {h:zab} {R:Option (AEx × Fr × zab)} (ts:List Nat) (es:List (List zaa)) (hes:zey=.vsl false es) (v:List Nat) (hv:v.length=3) (hvp:∀ j,gd v 0 j < pN) (i:Nat) (hi:i < 3)
    (hF:run ctx (zak h) (.loop zcj) fr (hx h [] ts)=R)
    (h0:fr 0=.vsl false es) (h1:fr 1=.vsl false (nbL v)) (h6:fr 6=.int .i64 (i:Int)) (h7:VlW (fr 7) (dg 0)) (h8:fr 8=.int .i64 0):
    ∃ fr',R=some (.exit 2,fr',hx h [] ts)∧fr' 7=.vsl false (eW (dg (gd (applyN zae v) 0 i)))∧∀ t,t∉wr zcj→fr' t=fr t:=by
  rw [← zPS v i hi]
  obtain ⟨e,fr',h',rfl,⟨rfl,rfl,h7'⟩,hk⟩:=zaf hF 3
    (fun k fr hh=>fr 8=.int .i64 (k:Int)∧VlW (fr 7) (dg (apS v i k))∧(0 < k→fr 7=.vsl false (eW (dg (apS v i k))))∧hh=hx h [] ts)
    (fun e fr hh=>e=.exit 2∧hh=hx h [] ts∧fr 7=.vsl false (eW (dg (apS v i 3))))
    ⟨h8, h7, fun h => absurd h (Nat.lt_irrefl 0), rfl⟩ (by
      rintro k fr1 hh hkN hkeep ⟨g8,⟨c,g7⟩,g7',rfl⟩
      have g0:=(hkeep 0 (by decide)).trans h0
      have g1:=(hkeep 1 (by decide)).trans h1
      have g6:=(hkeep 6 (by decide)).trans h6
      by_cases hlt:k < 3
      · have w1 : IntKind.i64.wrap ((k : Int) + 1) = k + 1 := wrap_i64 (by omega) (by omega)
        have hrow:zcP none 1 (.vsl false es) (.int .i64 (i:Int))=some (.vptr [.vsl false (tab 3 (zjh i))] 0):=by
          have e:es[i]?=some [.vsl false (tab 3 (zjh i))]:=by
            unfold zey at hes
            injection hes with _ hes
            rw [← hes];exact zCi hi
          simp [zcP,asI,e]
        have hcell:zcP none 1 (.vsl false (tab 3 (zjh i))) (.int .i64 (k:Int))=some (.vptr [.vsl false (eW (dg (zxT i k)))] 0):=by
          have e:(tab 3 (zjh i))[k]?=some [.vsl false (eW (dg (zxT i k)))]:=by rw [zCi hlt];unfold zjh nbE;rfl
          simp [zcP,asI,e]
        have hvk:=zAv .i64 false v k (by omega)
        have hM:=fun L h=>zqL L h (.vsl false (eW (dg (zxT i k)))) (.vsl false (eW (dg (gd v 0 k)))) (zxT i k) (gd v 0 k) (LV.vsl _ _) (LV.vsl _ _) (Nat.lt_trans (zRY i k) znV) (hvp k)
        have hA:=fun L h=>zEO L h (.vsl c (eW (dg (apS v i k)))) (.vsl false (eW (dg (zxT i k*gd v 0 k % pN)))) (apS v i k) (zxT i k*gd v 0 k % pN) (LV.vsl _ _) (LV.vsl _ _) (zS9 v i k) (Nat.mod_lt _ zd1)
        rw [show (apS v i k+zxT i k*gd v 0 k % pN) % pN=apS v i (k+1) from rfl] at hA
        generalize eW (dg (zxT i k*gd v 0 k % pN))=e3 at*
        generalize eW (dg (zxT i k))=e1 at*
        generalize eW (dg (gd v 0 k))=e2 at*
        generalize eW (dg (apS v i k))=e4 at*
        generalize tab 3 (zjh i)=ri at*
        generalize nbL v=nv at*
        simp -implicitDefEqProofs [zcj,g0,g1,g6,g7,g8,show (k:Int) < 3 by omega,w1,hrow,hcell,hvk,hM,hA]
        exact ⟨hlt,VlW.mk _ _⟩
      · have : k = 3 := by omega
        subst this
        simp [zcj,g8]
        exact g7' (by decide))
  exact ⟨fr',rfl,h7',hk⟩
theorem zMe {l:List Nat} {n:Nat} (h:l.length=n):l=tab n (gd l 0):=zot 0 h
theorem zMf {fr:Fr} {h:zab} {R:Option (AEx × Fr × zab)} (es:List (List zaa)) (hes:zey=.vsl false es) (v:List Nat) (hv:v.length=3) (hvp:∀ j,gd v 0 j < pN)
    (hF:run ctx (zak h) (.loop zeA) fr (hx h [] (gT (nbL (tab 0 (gd (applyN zae v) 0)))))=R)
    (h0:fr 0=.vsl false es) (h1:fr 1=.vsl false (nbL v)) (h5:fr 5=gL (.vsl true []) h.toks.length 0 (nbL (tab 0 (gd (applyN zae v) 0)))) (h6:fr 6=.int .i64 0):
    ∃ fr',R=some (.exit 0,fr',hx h [] (gT (nbL (applyN zae v))))∧fr' 5=gL (.vsl true []) h.toks.length 0 (nbL (applyN zae v)):=by
  have hall:tab 3 (gd (applyN zae v) 0)=applyN zae v:=(zMe (by simp)).symm
  rw [← hall]
  obtain ⟨e,fr',h',rfl,⟨rfl,rfl,h5'⟩,hk⟩:=zaf hF 3
    (fun k fr hh=>fr 6=.int .i64 (k:Int)∧fr 5=gL (.vsl true []) h.toks.length 0 (nbL (tab k (gd (applyN zae v) 0)))∧hh=hx h [] (gT (nbL (tab k (gd (applyN zae v) 0)))))
    (fun e fr hh=>e=.exit 0∧hh=hx h [] (gT (nbL (tab 3 (gd (applyN zae v) 0))))∧fr 5=gL (.vsl true []) h.toks.length 0 (nbL (tab 3 (gd (applyN zae v) 0))))
    ⟨h6,h5,rfl⟩ (by
      rintro k fr1 hh hkN hkeep ⟨g6,g5,rfl⟩
      have g0:=(hkeep 0 (by decide)).trans h0
      have g1:=(hkeep 1 (by decide)).trans h1
      by_cases hlt:k < 3
      · have w1 : IntKind.i64.wrap ((k : Int) + 1) = k + 1 := wrap_i64 (by omega) (by omega)
        have hlo:=fun fr R ts=>zIs (fr:=fr) (h:=h) (R:=R) ts es hes v hv hvp k hlt
        have hfill:=zA7 (.vsl false (eW (dg (gd (applyN zae v) 0 k)))) false _ rfl
        have hap:=zsJ (zak h) h [] 1 true (nbL (tab k (gd (applyN zae v) 0))) [[.vsl false (eW (dg (gd (applyN zae v) 0 k)))]] (by rw [zvE];simp [zam,zak];omega)
        rw [zAs,zig] at hap
        have hch:zaA (rep [zaa.int .u64 0] 0) []=some []:=rfl
        have hch0:chunks 1 0 []=[]:=rfl
        generalize hv2:gL (.vsl true []) h.toks.length 0 (nbL (tab (k+1) (gd (applyN zae v) 0)))=v2 at*
        generalize ht2:gT (nbL (tab (k+1) (gd (applyN zae v) 0)))=t2 at*
        generalize gL (.vsl true []) h.toks.length 0 (nbL (tab k (gd (applyN zae v) 0)))=v1 at*
        generalize gT (nbL (tab k (gd (applyN zae v) 0)))=t1 at*
        generalize eW (dg (gd (applyN zae v) 0 k))=e1 at*
        simp -implicitDefEqProofs [zeA,g0,g1,g5,g6,show (k:Int) < 3 by omega,hch,hch0]
        generalize hF:run ctx _ (.loop _) _ _=R
        obtain ⟨fr2,rfl,f7,hk2⟩:=hlo _ _ _ hF (by simp [g0]) (by simp [g1]) (by simp [g6]) (by simp;exact VlW.mk true []) (by simp)
        simp -implicitDefEqProofs [hk2,wr,zcj,zbM,f7,g5,g6,hfill,zki,hap,w1]
        exact ⟨hlt,hv2.symm,by rw [ht2]⟩
      · have : k = 3 := by omega
        subst this
        generalize gL (.vsl true []) h.toks.length 0 (nbL (tab 3 (gd (applyN zae v) 0)))=v1 at*
        simp [zeA,g6,g5])
  exact ⟨fr',rfl,h5'⟩
def NbV (x:zaa) (l:List Nat):Prop:=∀ h,fzA h x=some (.vsl false (nbL l),false)
theorem NbV.gL (n i : Nat) (l : List Nat) : NbV (gL (.vsl true []) n i (nbL l)) l := fun h => by
  unfold Av.gL
  split
  · rename_i e
    rw [e];exact zjZ h _ _
  · exact zS0 h _ _ _
theorem zIx (L:Lim) (h:zab) (x:zaa) (v:List Nat) (hx1:NbV x v) (hv:v.length=3) (hvp:∀ j,gd v 0 j < pN):
    zag ctx L zfl [zey,x] h=some (.vsl false (nbL (applyN zae v)),h):=by
  rw [zoU]
  obtain ⟨es,hM,hMu,_⟩:=zdy
  have hlo:=fun fr R=>zMf (fr:=fr) (h:=h) (R:=R) es hM v hv hvp
  have hg0:gL (.vsl true []) h.toks.length 0 (nbL (tab 0 (gd (applyN zae v) 0)))=.vsl true []:=rfl
  have ht0:gT (nbL (tab 0 (gd (applyN zae v) 0)))=[]:=rfl
  rw [hg0,ht0] at hlo
  have hf1:fzA h zey=some (.vsl false es,false):=by rw [hM];exact zjZ h _ _
  have hf2:=hx1 h
  have hfz:=fun hh=>zrM (h1:=hh) (nb:=h.blks.length) (nt:=h.toks.length) (n:=11) (s:=.vsl true []) (es:=nbL (applyN zae v)) (.inr rfl) (zdN _ _ _)
  have hch:zaA (rep [zaa.nsl] 0) []=some []:=rfl
  have hch0:chunks 1 0 []=[]:=rfl
  generalize gL (.vsl true []) h.toks.length 0 (nbL (applyN zae v))=gv at*
  generalize gT (nbL (applyN zae v))=tv at*
  generalize nbL (applyN zae v)=na at*
  generalize zey=M at*
  simp -implicitDefEqProofs [zhu,hf1,hf2,hch,hch0]
  generalize hF:run ctx _ (.loop _) _ _=R
  obtain ⟨fr1,rfl,f5⟩:=hlo _ _ hF (by simp) (by simp) (by simp) (by simp)
  simp -implicitDefEqProofs [f5,hfz]
theorem zIz (L:Lim) (h:zab) (u:zaa) (x:Nat) (hu:LV u (dg x)) (hx1:x < pN):zag ctx L zfk [u] h=some (.vsl false (eW (dg (x ^ 5 % pN))),h):=by
  rw [zoT]
  have hf1:=hu.fz
  have hM1:=fun L h=>zqL L h (.vsl false (eW (dg x))) (.vsl false (eW (dg x))) x x (LV.vsl _ _) (LV.vsl _ _) (Nat.lt_trans hx1 znV) hx1
  have hx2:=Nat.mod_lt (x*x) zd1
  have hM2:=fun L h=>zqL L h (.vsl false (eW (dg (x*x % pN)))) (.vsl false (eW (dg (x*x % pN)))) _ _ (LV.vsl _ _) (LV.vsl _ _) (Nat.lt_trans hx2 znV) hx2
  have hx3:=Nat.mod_lt (x*x % pN*(x*x % pN)) zd1
  have hM3:=fun L h=>zqL L h (.vsl false (eW (dg (x*x % pN*(x*x % pN) % pN)))) (.vsl false (eW (dg x))) _ x (LV.vsl _ _) (LV.vsl _ _) (Nat.lt_trans hx3 znV) hx1
  have e:x*x % pN*(x*x % pN) % pN*x % pN=x ^ 5 % pN:=by
    rw [← Nat.mul_mod,Nat.mod_mul_mod]
    congr 1
    rw [show 5=2+2+1 from rfl,Nat.pow_succ,Nat.pow_add,Nat.pow_two]
  rw [e] at hM3
  generalize eW (dg (x*x % pN*(x*x % pN) % pN))=e2 at*
  generalize eW (dg (x*x % pN))=e1 at*
  generalize eW (dg x)=e0 at*
  simp -implicitDefEqProofs [zht,hf1,hM1,hM2,hM3]
end Go.Av
namespace Go.Av
theorem zGb {m a b:List Nat} (h:∀ i,i < 3→gd a 0 i % pN=gd b 0 i % pN):applyN m a=applyN m b:=by
  unfold applyN
  refine zaN fun i hi=>?_
  have e : ∀ c : Nat, ∀ j, j < 3 → c * gd a 0 j % pN = c * gd b 0 j % pN := fun c j hj => by
    rw [Nat.mul_mod,h j hj,← Nat.mul_mod]
  have add : ∀ x y x' y' : Nat, x % pN = x' % pN → y % pN = y' % pN → (x + y) % pN = (x' + y') % pN := fun x y x' y' h1 h2 => by
    rw [Nat.add_mod,h1,h2,← Nat.add_mod]
  exact add _ _ _ _ (add _ _ _ _ (e _ 0 (by decide)) (e _ 1 (by decide))) (e _ 2 (by decide))
def zs1 (w l:List Nat) (r:Int) (i:Nat):Nat:=match zqd r||i==0 with
  | true=>((gd w 0 i+zAK l r i) % pN) ^ 5 % pN
  | false=>(gd w 0 i+zAK l r i) % pN
theorem zMk (w l:List Nat) (r:Int) (i:Nat):zs1 w l r i < pN:=by
  unfold zs1;split <;> exact Nat.mod_lt _ zd1
theorem zDn (w l:List Nat) (hl:l.length=195) (r:Int):applyN zae (tab 3 (zs1 w l r))=zkm (l++zae) w r:=by
  unfold zkm
  refine zGb fun i hi=>?_
  rw [zbz hi,zbz hi]
  unfold zs1 zhr
  rw [zOB l zae hl r i hi]
  cases zqd r||i==0 with
  | true=>simp only [Nat.mod_mod];rw [Nat.pow_mod,Nat.mod_mod,← Nat.pow_mod]
  | false=>simp only [Nat.mod_mod]
theorem zBc (K v:List Nat) (r:Int) (i:Nat):gd (zkm K v r) 0 i < pN:=by
  unfold zkm applyN
  by_cases hi:i < 3
  · rw [zbz hi];exact Nat.mod_lt _ zd1
  · have : gd (tab 3 fun i => (gd zae 0 (3 * i) * gd (tab 3 (zhr v (zxd K r) (zqd r))) 0 0 + gd zae 0 (3 * i + 1) * gd (tab 3 (zhr v (zxd K r) (zqd r))) 0 1 + gd zae 0 (3 * i + 2) * gd (tab 3 (zhr v (zxd K r) (zqd r))) 0 2) % pN) 0 i = 0 := by
      unfold gd;rw [List.getD_eq_getElem?_getD,List.getElem?_eq_none (by simp;omega)];rfl
    rw [this];exact zd1
def NbE (es:List (List zaa)) (l:List Nat):Prop:=es.length=l.length∧∀ i,i < l.length→∃ u,es[i]?=some [u]∧LV u (dg (gd l 0 i))
def NbU (x:zaa) (l:List Nat):Prop:=∃ es,(∀ h,fzA h x=some (.vsl false es,false))∧NbE es l
theorem NbE.nbL (l:List Nat):NbE (nbL l) l:=⟨zRU l,fun i hi=>⟨.vsl false (eW (dg (gd l 0 i))),by simp [Av.nbL,gd,List.getD,hi],LV.vsl _ _⟩⟩
theorem NbU.of (c:Bool) {es:List (List zaa)} {l:List Nat} (he:NbE es l):NbU (.vsl c es) l:=⟨es,fun h=>zjZ h c es,he⟩
theorem zzd (kd:IntKind) (c:Bool) {es:List (List zaa)} {l:List Nat} (he:NbE es l) (i:Nat) (h:i < l.length):∃ u,zcP none 1 (.vsl c es) (.int kd (i:Int))=some (.vptr [u] 0)∧LV u (dg (gd l 0 i)):=by
  obtain ⟨u,h1,h2⟩:=he.2 i h
  exact ⟨u,by simp [zcP,asI,h1],h2⟩
theorem zMo {fr:Fr} {h:zab} {R:Option (AEx × Fr × zab)} (w l:List Nat) (hw:w.length=3) (hwp:∀ i,gd w 0 i < pN) (hl:l.length=195) (hlp:∀ i,gd l 0 i < pN) (r:Int)
    (hF:run ctx (zak h) (.loop zaY) fr (hx h [] (gT (nbL (tab 0 (zs1 w l r)))))=R)
    (es:List (List zaa)) (hes:NbE es w) (h1:fr 1=.vsl false es) (h2:fr 2=.int .i64 r) (h3:fr 3=.vptr [.vsl false (nbL l),zey] 0) (h7:fr 7=gL (.vsl true []) h.toks.length 0 (nbL (tab 0 (zs1 w l r)))) (h8:fr 8=.int .i64 0):
    ∃ fr',R=some (.exit 0,fr',hx h [] (gT (nbL (tab 3 (zs1 w l r)))))∧fr' 7=gL (.vsl true []) h.toks.length 0 (nbL (tab 3 (zs1 w l r)))∧∀ t,t∉wr zaY→fr' t=fr t:=by
  obtain ⟨e,fr',h',rfl,⟨rfl,rfl,h7'⟩,hk⟩:=zaf hF 3
    (fun k fr hh=>fr 8=.int .i64 (k:Int)∧fr 7=gL (.vsl true []) h.toks.length 0 (nbL (tab k (zs1 w l r)))∧hh=hx h [] (gT (nbL (tab k (zs1 w l r)))))
    (fun e fr hh=>e=.exit 0∧hh=hx h [] (gT (nbL (tab 3 (zs1 w l r))))∧fr 7=gL (.vsl true []) h.toks.length 0 (nbL (tab 3 (zs1 w l r))))
    ⟨h8,h7,rfl⟩ (by
      rintro k fr1 hh hkN hkeep ⟨g8,g7,rfl⟩
      have g1:=(hkeep 1 (by decide)).trans h1
      have g2:=(hkeep 2 (by decide)).trans h2
      have g3:=(hkeep 3 (by decide)).trans h3
      by_cases hlt:k < 3
      · have w1 : IntKind.i64.wrap ((k : Int) + 1) = k + 1 := wrap_i64 (by omega) (by omega)
        obtain ⟨e1,hik,hLe⟩:=zzd .i64 false hes k (by omega)
        have ptl:zb2 true [zaa.vsl false (nbL l),zey] 0 2=some (zlC l):=rfl
        have hC:=fun L h=>zLv L h l hl r k hlt
        have hA:=fun L h=>zEO L h e1 (.vsl false (eW (dg (zAK l r k)))) _ _ hLe (LV.vsl _ _) (hwp k) (zRX l hlp r k)
        have hsx:=Nat.mod_lt (gd w 0 k+zAK l r k) zd1
        have hP:=fun L h=>zIz L h (.vsl false (eW (dg ((gd w 0 k+zAK l r k) % pN)))) _ (LV.vsl _ _) hsx
        have hfill:=zA7 (.vsl false (eW (dg (zs1 w l r k)))) false _ rfl
        have hap:=zsJ (zak h) h [] 1 true (nbL (tab k (zs1 w l r))) [[.vsl false (eW (dg (zs1 w l r k)))]] (by rw [zvE];simp [zam,zak];omega)
        rw [zAs,zig] at hap
        have hk0i:((k:Int)==0)=(k==0):=by
          by_cases e:k=0
          · subst e;rfl
          · rw [beq_false_of_ne e];exact beq_false_of_ne (by omega)
        have hst:zs1 w l r k=match zqd r||k==0 with
          | true=>((gd w 0 k+zAK l r k) % pN) ^ 5 % pN
          | false=>(gd w 0 k+zAK l r k) % pN:=rfl
        generalize hv2:gL (.vsl true []) h.toks.length 0 (nbL (tab (k+1) (zs1 w l r)))=v2 at*
        generalize ht2:gT (nbL (tab (k+1) (zs1 w l r)))=t2 at*
        generalize gL (.vsl true []) h.toks.length 0 (nbL (tab k (zs1 w l r)))=v1 at*
        generalize gT (nbL (tab k (zs1 w l r)))=t1 at*
        generalize zs1 w l r k=sk at*
        generalize ((gd w 0 k+zAK l r k) % pN)=sx at*
        generalize eW (dg (zAK l r k))=e2 at*
        generalize zlC l=tv at*
        generalize [zaa.vsl false (nbL l),zey]=tc at*
        cases hfu:zqd r||k==0 with
        | true=>
          rw [hfu] at hst
          simp only at hst
          subst hst
          by_cases c1:r < 4
          · simp -implicitDefEqProofs [zaY, zak, g1, g2, g3, g7, g8, show (k : Int) < 3 by omega, w1, hik, ptl, hC, hA, hP, c1]
            simp only [zak] at hap
            simp -implicitDefEqProofs [hfill,zki,hap,g8,w1]
            exact ⟨hlt,hv2.symm,by rw [ht2]⟩
          · by_cases c2:(60:Int) < r
            · simp -implicitDefEqProofs [zaY, zak, g1, g2, g3, g7, g8, show (k : Int) < 3 by omega, w1, hik, ptl, hC, hA, hP, c1, c2]
              simp only [zak] at hap
              simp -implicitDefEqProofs [hfill,zki,hap,g8,w1]
              exact ⟨hlt,hv2.symm,by rw [ht2]⟩
            · have hk0:((k:Int)==0)=true:=by
                rw [hk0i]
                unfold zqd at hfu
                rw [decide_eq_false c1,decide_eq_false (by omega)] at hfu
                simpa using hfu
              simp -implicitDefEqProofs [zaY,zak,g1,g2,g3,g7,g8,show (k:Int) < 3 by omega,w1,hik,ptl,hC,hA,hP,c1,c2,hk0]
              simp only [zak] at hap
              simp -implicitDefEqProofs [hfill,zki,hap,g8,w1]
              exact ⟨hlt,hv2.symm,by rw [ht2]⟩
        | false=>
          rw [hfu] at hst
          simp only at hst
          subst hst
          have hfu2:=hfu
          unfold zqd at hfu2
          simp only [Bool.or_eq_false_iff,decide_eq_false_iff_not] at hfu2
          have c1:¬r < 4:=hfu2.1.1
          have c2:¬(60:Int) < r:=by have:=hfu2.1.2;omega
          have hk0:((k:Int)==0)=false:=by rw [hk0i];exact hfu2.2
          simp -implicitDefEqProofs [zaY,zak,g1,g2,g3,g7,g8,show (k:Int) < 3 by omega,w1,hik,ptl,hC,hA,c1,c2,hk0]
          simp only [zak] at hap
          simp -implicitDefEqProofs [hfill,zki,hap,g8,w1]
          exact ⟨hlt,hv2.symm,by rw [ht2]⟩
      · have : k = 3 := by omega
        subst this
        generalize gL (.vsl true []) h.toks.length 0 (nbL (tab 3 (zs1 w l r)))=v1 at*
        simp [zaY,g8,g7])
  exact ⟨fr',rfl,h7',hk⟩
theorem zII (L:Lim) (h:zab) (x:zaa) (w l:List Nat) (hx1:NbU x w) (hw:w.length=3) (hwp:∀ i,gd w 0 i < pN) (hl:l.length=195) (hlp:∀ i,gd l 0 i < pN) (r:Int):
    zag ctx L zfh [zlC l,x,.int .i64 r] h=some (.vsl false (nbL (zkm (l++zae) w r)),h):=by
  rw [zpk]
  obtain ⟨es,hM,hMu,_⟩:=zdy
  have hf:fzA h (zlC l)=some (zlC l,false):=by
    unfold zlC;rw [hM];simp [fzA,zdE,zaa.flat]
  obtain ⟨ex,hx1,hex⟩:=hx1
  have hf2:=hx1 h
  have hbox:zzh (zlC l)=some (.vptr [.vsl false (nbL l),zey] 0):=rfl
  have hlo:=fun fr R hF=>zMo (fr:=fr) (h:=h) (R:=R) w l hw hwp hl hlp r hF ex hex
  have hg0:gL (.vsl true []) h.toks.length 0 (nbL (tab 0 (zs1 w l r)))=.vsl true []:=rfl
  have ht0:gT (nbL (tab 0 (zs1 w l r)))=[]:=rfl
  rw [hg0,ht0] at hlo
  have hA := fun L hh => zIx L hh (gL (.vsl true []) h.toks.length 0 (nbL (tab 3 (zs1 w l r)))) (tab 3 (zs1 w l r)) (NbV.gL _ _ _) (by simp) (fun j => by
    by_cases hj:j < 3
    · rw [zbz hj];exact zMk _ _ _ _
    · have : gd (tab 3 (zs1 w l r)) 0 j = 0 := by unfold gd; rw [List.getD_eq_getElem?_getD, List.getElem?_eq_none (by simp; omega)]; rfl
      rw [this];exact zd1)
  rw [zDn w l hl r] at hA
  have hfz:=fun hh n=>zhq hh h.blks.length h.toks.length n false (zdN h.blks.length h.toks.length (zkm (l++zae) w r))
  have hch:zaA (rep [zaa.nsl] 0) []=some []:=rfl
  have hch0:chunks 1 0 []=[]:=rfl
  have p1:zb2 false [zaa.vsl false (nbL l),zey] 1 1=some zey:=rfl
  generalize nbL (zkm (l++zae) w r)=nr at*
  generalize gL (.vsl true []) h.toks.length 0 (nbL (tab 3 (zs1 w l r)))=gv at*
  generalize gT (nbL (tab 3 (zs1 w l r)))=tt at*
  generalize zlC l=tv at*
  generalize [zaa.vsl false (nbL l),zey]=tc at*
  generalize zey=M at*
  simp -implicitDefEqProofs [zhK,hf,hf2,hbox,hch,hch0]
  generalize hF:run ctx _ (.loop _) _ _=R
  obtain ⟨fr1,rfl,f7,hk1⟩:=hlo _ _ hF (by simp) (by simp) (by simp) (by simp) (by simp)
  simp -implicitDefEqProofs [hk1,wr,zaY,zbM,f7,p1,hA,hfz]
theorem zMq (K v:List Nat) (hv:∀ i,gd v 0 i < pN):∀ k i,gd (zfi K v k) 0 i < pN
  | 0,i=>hv i
  | k+1,i=>zBc _ _ _ i
def prE (es:List (List zaa)) (K w:List Nat):Nat→List (List zaa)
  | 0=>es
  | k+1=>nbL (zfi K w (k+1))
theorem zTo {es:List (List zaa)} {w:List Nat} (hes:NbE es w) (K:List Nat):∀ k,NbE (prE es K w k) (zfi K w k)
  | 0=>hes
  | k+1=>NbE.nbL _
theorem zGh {fr:Fr} {h:zab} {R:Option (AEx × Fr × zab)} (w l:List Nat) (hw:w.length=3) (hwp:∀ i,gd w 0 i < pN) (hl:l.length=195) (hlp:∀ i,gd l 0 i < pN)
    (hF:run ctx (zak h) (.loop zdW) fr (hx h [] [])=R)
    (es:List (List zaa)) (hes:NbE es w) (h1:fr 1=.vsl false es) (h2:fr 2=.vptr [.vsl false (nbL l),zey] 0) (h5:fr 5=.int .i64 0):
    ∃ fr',R=some (.exit 0,fr',hx h [] [])∧fr' 1=.vsl false (nbL (zfi (l++zae) w 65)):=by
  obtain ⟨e,fr',h',rfl,⟨rfl,rfl,h1'⟩,hk⟩:=zaf hF 65
    (fun k fr hh=>fr 5=.int .i64 (k:Int)∧fr 1=.vsl false (prE es (l++zae) w k)∧hh=hx h [] [])
    (fun e fr hh=>e=.exit 0∧hh=hx h [] []∧fr 1=.vsl false (nbL (zfi (l++zae) w 65)))
    ⟨h5,h1,rfl⟩ (by
      rintro k fr1 hh hkN hkeep ⟨g5,g1,rfl⟩
      have g2:=(hkeep 2 (by decide)).trans h2
      by_cases hlt:k < 65
      · have w1 : IntKind.i64.wrap ((k : Int) + 1) = k + 1 := wrap_i64 (by omega) (by omega)
        have ptl:zb2 true [zaa.vsl false (nbL l),zey] 0 2=some (zlC l):=rfl
        have hR:=fun L h=>zII L h (.vsl false (prE es (l++zae) w k)) (zfi (l++zae) w k) l (NbU.of _ (zTo hes _ k)) (zna _ _ hw k) (zMq _ _ hwp k) hl hlp (k:Int)
        rw [show zkm (l++zae) (zfi (l++zae) w k) (k:Int)=zfi (l++zae) w (k+1) from rfl] at hR
        have hE:prE es (l++zae) w (k+1)=nbL (zfi (l++zae) w (k+1)):=rfl
        generalize hn2:nbL (zfi (l++zae) w (k+1))=n2 at*
        generalize prE es (l++zae) w k=n1 at*
        generalize zlC l=tv at*
        generalize [zaa.vsl false (nbL l),zey]=tc at*
        simp -implicitDefEqProofs [zdW,g1,g2,g5,show (k:Int) < 65 by omega,w1,ptl,hR]
        exact ⟨hlt,by rw [hE]⟩
      · have : k = 65 := by omega
        subst this
        rw [show prE es (l++zae) w 65=nbL (zfi (l++zae) w 65) from rfl] at g1
        generalize nbL (zfi (l++zae) w 65)=n1 at*
        simp [zdW,g5,g1])
  exact ⟨fr',rfl,h1'⟩
theorem zDu (L:Lim) (h:zab) (x:zaa) (w l:List Nat) (hx1:NbU x w) (hw:w.length=3) (hwp:∀ i,gd w 0 i < pN) (hl:l.length=195) (hlp:∀ i,gd l 0 i < pN):
    zag ctx L zd9 [zlC l,x] h=some (.vsl false (nbL (zfi (l++zae) w 65)),h):=by
  rw [znD]
  obtain ⟨es,hM,hMu,_⟩:=zdy
  have hf:fzA h (zlC l)=some (zlC l,false):=by
    unfold zlC;rw [hM];simp [fzA,zdE,zaa.flat]
  obtain ⟨ex,hx1,hex⟩:=hx1
  have hf2:=hx1 h
  have hbox:zzh (zlC l)=some (.vptr [.vsl false (nbL l),zey] 0):=rfl
  have hlo:=fun fr R hF=>zGh (fr:=fr) (h:=h) (R:=R) w l hw hwp hl hlp hF ex hex
  have hfz:=fun hh n=>zhq hh h.blks.length h.toks.length n false (zdN h.blks.length h.toks.length (zfi (l++zae) w 65))
  generalize nbL (zfi (l++zae) w 65)=nr at*
  generalize zlC l=tv at*
  generalize [zaa.vsl false (nbL l),zey]=tc at*
  simp -implicitDefEqProofs [zgh,hf,hf2,hbox]
  generalize hF:run ctx _ (.loop _) _ _=R
  obtain ⟨fr1,rfl,f1⟩:=hlo _ _ hF (by simp) (by simp) (by simp)
  simp -implicitDefEqProofs [f1,hfz]
end Go.Av
