/- Elements as bytes, and elements sampled of a sponge. -/
import Derived.Test.YtbookmjmhfoolaaGreatDoorC2
import Derived.Test.YtbookmjmhfoolaaGreatDoorC3
import Derived.Test.YtbookmjmhfoolaaGreatDoorC4
set_option linter.unusedSimpArgs false
set_option linter.unusedVariables false
set_option maxHeartbeats 2000000
set_option maxRecDepth 20000
namespace Go.Av
end Go.Av
namespace Go.Av
theorem zHD (L:Lim) (h:zab) (x:Nat):zag ctx L zcF [.agg (cW (fe x))] h=some (.agg (cW (w4 (x % pN))),h):=by
  rw [zjo]
  have e0:(cW (tab 4 fun _=>0#64)).set 0 (wd 1#64)=cW [1#64,0#64,0#64,0#64]:=rfl
  have hv:val [1#64,0#64,0#64,0#64]=1:=by decide +kernel
  have h1:=fun L h=>zuu L h (fe x) [1#64,0#64,0#64,0#64] rfl rfl (by rw [hv];decide)
  rw [hv,zHg] at h1
  have l1:=zz5 x
  have l3:=zpr (x % pN)
  generalize w4 (x % pN)=r at*
  generalize fe x=a at*
  generalize [1#64,0#64,0#64,0#64]=q at*
  simp -implicitDefEqProofs [zdF,zau,zaf,l1,l3,h1,zaA,zbF,zah,zbk,e0,wd1]
def feB (x:Nat):List Int:=zdk (w4 (x % pN))
@[simp] theorem zEt (x:Nat):(feB x).length=32:=by simp [feB,zdk]
theorem zHH (L:Lim) (h:zab) (x:Nat):zag ctx L zcE [.agg (cW (fe x))] h=some (.agg (cI .u8 (feB x)),h):=by
  rw [zjn]
  have hsl:=zli 4 1 h.blks.length 1 0 (by decide)
  have hlv:=fun L h=>zHD L h x
  have hB:=fun L z=>zAT L (hx h [z,cW (w4 (x % pN))] []) (w4 (x % pN)) (sA h.blks.length 1 0 1 4 (some 4)) (by simp) (RdW.sA [] 1 4 _ _ rfl rfl)
  have h2a:=zzB 32 false .u8 (feB x) (by simp)
  rw [List.take_of_length_le (by simp)] at h2a
  have l0:=zEt x
  have l1:=zz5 x
  have l3:=zpr (x % pN)
  have hf:zdk (w4 (x % pN))=feB x:=rfl
  rw [hf] at hB
  generalize feB x=bs at*
  generalize w4 (x % pN)=r at*
  generalize fe x=a at*
  simp -implicitDefEqProofs [zdB,zau,zaf,l0,l1,l3,zbk,zgL,hlv,hsl,hB,h2a,zbF,zah]
theorem zqI (L:Lim) (h:zab) (c:Bool) (b:List Int) (hb:inB b) (hl:b.length=32):zag ctx L zb0 [.vsl c (eI .u8 b)] h=
    some (if leN b < pN then .tup [.agg (cW (fe (leN b))),.int .i64 0] else .tup [.agg (cW (tab 4 fun _=>0#64)),.int .i64 4],h):=by
  rw [zhi]
  have hW:=fun L H=>zvu L H (.vsl false (eI .u8 b)) b (RdI.vsl H .u8 false b) (by omega)
  rw [hl,show (32+7) / 8=4 from rfl] at hW
  have hv:=zDt b hb 4 (by omega)
  rw [hl] at hv
  have hwl:(wdP b 4 32).length=4:=by simp
  have h2a:=zxc 4 false (wdP b 4 32) (by decide) (by simp)
  rw [List.take_of_length_le (by simp)] at h2a
  have hbo:=fun L h=>zw3 L h (wdP b 4 32) pW hwl rfl
  simp only [hv,zOz] at hbo
  have hE:=fun L H=>zG0 L H (wdP b 4 32) hwl
  rw [hv] at hE
  generalize wdP b 4 32=ws at*
  by_cases hlt:leN b < pN
  · simp only [if_pos hlt] at hbo
    rw [if_pos hlt]
    have l3:=zpr (leN b+rN - pN)
    have l4:=zz5 (leN b)
    generalize w4 (leN b+rN - pN)=q at*
    generalize fe (leN b)=r at*
    have he:(wd 1#64=zaa.int .u64 1):=rfl
    simp -implicitDefEqProofs [zea,zau,hl,hW,h2a,zaf,hwl,zbk,zbF,zah,zmr,hbo,l3,l4,he,hE]
  · simp only [if_neg hlt] at hbo
    rw [if_neg hlt]
    have l3:=zpr (leN b - pN)
    generalize w4 (leN b - pN)=q at*
    have he:(wd 0#64=zaa.int .u64 0):=rfl
    simp -implicitDefEqProofs [zea,zau,hl,hW,h2a,zaf,hwl,zbk,zbF,zah,zmr,hbo,l3,he,zaA]
end Go.Av
namespace Go.Av
theorem zzh (bs z:List (List zaa)) {i j:Nat} (n:Nat) (s:Sp) (hi:i < bs.length) (hj:j < bs.length):spH (bs++z) i j n s=spH bs i j n s++z:=by
  simp only [spH,sp2]
  rw [List.set_append_left _ _ hi,List.set_append_left _ _ (by simpa using hj)]
theorem zf5 (bs:List (List zaa)) (i j n:Nat) (s:Sp):(spH bs i j n s).length=bs.length:=by simp [spH]
theorem zHS (L:Lim) (h:zab) (bs:List (List zaa)) (ts:List Nat) (i j:Nat) (s:Sp) (hs:s.ok) (hc:s.c < 100000000)
    (hi:i < bs.length) (hj:j < bs.length) (hij:i≠j) (hL:L.rob≤h.blks.length) (hT:L.rot≤h.toks.length):
    zag ctx L za3 [.agg [pA h.blks.length i 0]] (hx h (spH bs i j h.blks.length s) ts)=some (.agg (cI .u8 (zjq s 32)),hx h (spH bs i j h.blks.length (zdr s 32)) ts):=by
  rw [zgW]
  have hS:=fun L hL hT z=>zth L h (bs++[z]) ts i j s hs 32 32 rfl (by decide) hc (by simp;omega) (by simp;omega) hij hL hT
  simp only [zzh bs _ h.blks.length _ hi hj] at hS
  have hl1:=zf5 bs i j h.blks.length s
  have hl2:=zf5 bs i j h.blks.length (zdr s 32)
  have hll:(zjq s 32).length=32:=zoR s 32
  generalize zjq s 32=l at*
  generalize spH bs i j h.blks.length (zdr s 32)=B2 at*
  generalize spH bs i j h.blks.length s=B1 at*
  have h2a:=zzB 32 false .u8 l (by simp [hll])
  rw [List.take_of_length_le (by omega)] at h2a
  have hg:=fun x=>zdv B2 [x] bs.length 0 hl2.symm
  have hset:=fun x v=>zeQ B2 [x] bs.length 0 v hl2.symm
  simp only [Nat.add_zero,List.getElem?_cons_zero,List.set_cons_zero] at hg hset
  have htr:=fun js=>zoU h B2 js ts bs.length hl2.symm
  simp -implicitDefEqProofs [zcm,zan,zak,znl,zaa.okV,zaa.cells,zgL,zae,hl1,hS,hL,hT,h2a,hg,hset,htr,zbF,zah,zam,zaf,hll]
def zPM (x:Int):Int:=IntKind.u8.wrap (((x % 2 ^ IntKind.u8.bits).toNat&&&63 % 2 ^ IntKind.u8.bits:Nat):Int)
def zBS (b:List Int):List Int:=b.set 31 (zPM (gd b 0 31))
theorem zKT (x:Int):0≤zPM x∧zPM x < 256:=by
  unfold zPM IntKind.wrap
  simp [IntKind.signed,IntKind.bits]
  omega
theorem zHU {b:List Int} (h:inB b):inB (zBS b):=zDM h 31 _ (zKT _)
theorem zHV (b:List Int):(zBS b).length=b.length:=by simp [zBS]
theorem zKX (L:Lim) (h:zab) (b:List Int) (hl:b.length=32):zag ctx L zhw [.agg (cI .u8 b)] h=some (.agg (cI .u8 (zBS b)),h):=by
  rw [zq0]
  have hi:zbP (some 32) 1 (pA h.blks.length 0 0) (.int .i64 31)=some (pA h.blks.length 0 31):=rfl
  have hmsk:zBS b=b.set 31 (IntKind.u8.wrap (((gd b 0 31 % 2 ^ IntKind.u8.bits).toNat&&&63 % 2 ^ IntKind.u8.bits:Nat):Int)):=rfl
  have hat:∀ hh,(cI .u8 b)[31]'hh=.int .u8 (gd b 0 31):=fun hh=>(List.getElem?_eq_some_iff.1 (zFo (by omega))).2
  rw [hmsk]
  simp -implicitDefEqProofs [zjR,zau,zgL,zee,zaa.okV,zaa.cells,zbF,zah,zaf,hl,hi,hat,zFo]
theorem zOa {s:Sp} (h:s.ok):(zDG s).ok∧(zDG s).b < 136:=zDL h
theorem zAr {s : Sp} (h : s.ok) (n : Nat) : inB (zjq s n) := fun i hi => by
  rw [zoR] at hi
  unfold zjq
  rw [zkQ hi]
  obtain ⟨⟨h1,h2,h3,h4⟩,h5⟩:=zOa (zmo h i)
  exact h2 _ (by omega)
theorem zpb {α:Type} (B jk w:List α) (n k:Nat) (h:B.length=n):(B++(jk++w))[n+(jk.length+k)]?=w[k]?:=by
  subst h
  rw [List.getElem?_append_right (by omega),Nat.add_sub_cancel_left,List.getElem?_append_right (by omega),Nat.add_sub_cancel_left]
theorem zpc {α:Type} (B jk w:List α) (n k:Nat) (v:α) (h:B.length=n):(B++(jk++w)).set (n+(jk.length+k)) v=B++(jk++w.set k v):=by
  subst h
  rw [List.set_append_right _ _ (by omega),Nat.add_sub_cancel_left,List.set_append_right _ _ (by omega),Nat.add_sub_cancel_left]
def zE:List W64:=tab 4 fun _=>0#64
def zvS:Nat→Sp→Nat→(List W64 × Int × Int) × Sp
  | 0,s,_=>((zE,64,11),s)
  | f+1,s,k=>if leN (zBS (zjq s 32)) < pN then ((fe (leN (zBS (zjq s 32))),(k:Int)+1,0),zdr s 32) else zvS f (zdr s 32) (k+1)
@[irreducible] def zbb (s:Sp):(List W64 × Int × Int) × Sp:=zvS 64 s 0
theorem zl1 (s:Sp):zbb s=zvS 64 s 0:=by unfold zbb;exact rfl
theorem zEN:∀ (f:Nat) {s:Sp} (k:Nat),s.ok→(zvS f s k).2.ok∧(zvS f s k).2.c≤s.c+32*f
  | 0,s,k,h=>⟨h,by simp [zvS]⟩
  | f + 1, s, k, h => by
    have h1:=zmo h 32
    have h2:=zr0 s 32
    unfold zvS
    split
    · exact ⟨h1,by simp only;omega⟩
    · obtain ⟨a,b⟩:=zEN f (k+1) h1
      exact ⟨a,by omega⟩
theorem zAt:∀ (f:Nat) (s:Sp) (k:Nat),(zvS f s k).1.1.length=4
  | 0,s,k=>rfl
  | f + 1, s, k => by
    unfold zvS
    split
    · rfl
    · exact zAt f _ _
theorem zuM (s:Sp):(zbb s).1.1.length=4:=by rw [zl1];exact zAt 64 s 0
theorem zxI {s:Sp} (h:s.ok):(zbb s).2.ok∧(zbb s).2.c≤s.c+2048:=by rw [zl1];exact zEN 64 0 h
theorem zvU (L:Lim) (h:zab) (bs:List (List zaa)) (ts:List Nat) (i:Nat) (cap:Option Nat) (t:List Int) (hb:inB t) (hi:bs[i]?=some (cI .u8 t)) (hl:t.length=32):
    zag ctx L zb0 [sA h.blks.length i 0 1 32 cap] (hx h bs ts)=some (if leN t < pN then .tup [.agg (cW (fe (leN t))),.int .i64 0] else .tup [.agg (cW (tab 4 fun _=>0#64)),.int .i64 4],hx h bs ts):=by
  have h1:=zqI L (hx h bs ts) false t hb hl
  rw [zhi] at h1 ⊢
  have hf:=zJn h bs ts i 32 cap .u8 t hi hl
  rw [zuS,ztj,zFH,zuT,zAU,zu2] at h1
  rw [zuS,ztj,hf,zuT,zAU,zu2]
  refine zFi h1 ?_
  split
  · simp [zaa.flat,zck,zv0]
  · simp [zaa.flat,zck,zv0]
def fnB (n i:Nat):zaa:=.fn (.func za3) [.agg [pA n i 0]] []
theorem zBX {L:Lim} {fr:Fr} {h:zab} {R:Option (AEx × Fr × zab)} (bs:List (List zaa)) (ts:List Nat) (i j:Nat) (s:Sp) (hs:s.ok) (hc:s.c+2048 < 100000000)
    (hi:i < bs.length) (hj:j < bs.length) (hij:i≠j) (hL:L.rob≤h.blks.length) (hT:L.rot≤h.toks.length)
    (hF:run ctx L (.loop zdA) fr (hx h (spH bs i j h.blks.length s++[cW zE]) ts)=R)
    (h0:fr 0=fnB h.blks.length i) (h2:fr 2=pA h.blks.length bs.length 0) (h9:fr 9=.int .i64 0):
    ∃ e fr' jk,R=some (e,fr',hx h (spH bs i j h.blks.length (zbb s).2++jk) ts)∧fr' 2=pA h.blks.length bs.length 0∧(e=.exit 0∧jk[0]?=some (cW zE)∧(zbb s).1=(zE,64,11)∨e=.ret∧jk[0]?=some (cW (zbb s).1.1)∧fr' 3=.int .i64 (zbb s).1.2.1∧fr' 4=.int .i64 0∧(zbb s).1.2.2=0):=by
  obtain ⟨e,fr',h',rfl,⟨jk,rfl,hp⟩,hk⟩:=zaj hF 64
    (fun k fr hh=>fr 9=.int .i64 (k:Int)∧∃ q jk,q.ok∧q.c≤s.c+32*k∧jk[0]?=some (cW zE)∧hh=hx h (spH bs i j h.blks.length q++jk) ts∧zbb s=zvS (64 - k) q k)
    (fun e fr hh=>∃ jk,hh=hx h (spH bs i j h.blks.length (zbb s).2++jk) ts∧(e=.exit 0∧jk[0]?=some (cW zE)∧(zbb s).1=(zE,64,11)∨e=.ret∧jk[0]?=some (cW (zbb s).1.1)∧fr 3=.int .i64 (zbb s).1.2.1∧fr 4=.int .i64 0∧(zbb s).1.2.2=0))
    ⟨h9, s, _, hs, by omega, rfl, rfl, zl1 s⟩ (by
      rintro k fr1 hh hkN hkeep ⟨g9,q,jk,hq,hqc,hj0,rfl,hspec⟩
      have g0:=(hkeep 0 (by decide)).trans h0
      have g2:=(hkeep 2 (by decide)).trans h2
      by_cases hlt:k < 64
      · have hltI : (k : Int) < 64 := by omega
        obtain ⟨f,hf⟩:∃ f,64 - k=f+1:=⟨64 - k - 1,by omega⟩
        rw [hf,zvS] at hspec
        have w0:IntKind.i64.wrap ((k:Int)+1)=k+1:=wrap_i64 (by omega) (by omega)
        have hB:=zHS L h (bs++jk) ts i j q hq (by omega) (by simp;omega) (by simp;omega) hij hL hT
        simp only [zzh bs _ h.blks.length _ hi hj] at hB
        have hq1:=zmo hq 32
        have hq2:=zr0 q 32
        have hgl:(zjq q 32).length=32:=zoR q 32
        have hgi:inB (zjq q 32):=zAr hq 32
        have hMk:=fun L h=>zKX L h (zjq q 32) hgl
        have hml:(zBS (zjq q 32)).length=32:=by rw [zHV,hgl]
        have hmi:=zHU hgi
        generalize zBS (zjq q 32)=m at*
        generalize zjq q 32=l at*
        generalize zdr q 32=q2 at*
        have hl2:=zf5 bs i j h.blks.length q2
        obtain ⟨B,hBe⟩:∃ B,B=spH bs i j h.blks.length q2:=⟨_,rfl⟩
        rw [← hBe] at hB hl2
        have gA:=fun x=>zpb B jk [x] bs.length 0 hl2
        have sA1:=fun x v=>zpc B jk [x] bs.length 0 v hl2
        have gB:=fun x y=>zpb B jk [x,y] bs.length 1 hl2
        have sB1:=fun x y v=>zpc B jk [x,y] bs.length 1 v hl2
        have sC:=fun w v=>zeQ B w bs.length 0 v hl2.symm
        have gC:=fun w=>zdv B w bs.length 0 hl2.symm
        simp only [Nat.add_zero,List.getElem?_cons_zero,List.set_cons_zero,List.getElem?_cons_succ,List.set_cons_succ] at gA sA1 gB sB1 sC gC
        have hjl:0 < jk.length:=(List.getElem?_eq_some_iff.1 hj0).1
        have hj2:∀ w:List (List zaa),(jk++w)[0]?=some (cW zE):=fun w=>by rw [List.getElem?_append_left hjl,hj0]
        have hj4:∀ (w:List (List zaa)) hh,(jk++w)[0]'hh=cW zE:=fun w hh=>(List.getElem?_eq_some_iff.1 (hj2 w)).2
        have hzl:(cW zE).length=4:=rfl
        have hj3:∀ (w:List (List zaa)) v,((jk++w).set 0 v)[0]?=some v:=fun w v=>List.getElem?_set_self (by simp;omega)
        have hFB:=fun L=>zvU L h (B++(jk++[cI .u8 m])) ts (bs.length+jk.length) (some 32) m hmi (gA _) hml
        have hBl:=zf5 bs i j h.blks.length q
        generalize spH bs i j h.blks.length q=B1 at*
        have hsl:=zli 32 1 h.blks.length (bs.length+jk.length) 0 (by decide)
        by_cases hm:leN m < pN
        · rw [if_pos hm] at hspec
          simp only [if_pos hm] at hFB
          rw [hspec]
          have hfl:(fe (leN m)).length=4:=rfl
          generalize fe (leN m)=f4 at*
          simp -implicitDefEqProofs [zdA,g0,g2,g9,fnB,hltI,zan,zak,hB,hMk,hl2,hBl,zgL,zbk,hL,zam,zbF,zah,zaf,hml,hsl,hFB,gA,sA1,gB,sB1,sC,gC,hj2,hj3,hj4,hzl,hfl,w0]
          exact ⟨_,by rw [hBe],by simp⟩
        · rw [if_neg hm] at hspec
          simp only [if_neg hm] at hFB
          simp -implicitDefEqProofs [zdA,g0,g2,g9,fnB,hltI,zan,zak,hB,hMk,hl2,hBl,zgL,zbk,hL,zam,zbF,zah,zaf,hml,hsl,hFB,gA,sA1,gB,sB1,sC,gC,hj2,hj3,hj4,hzl,w0]
          exact ⟨hlt,q2,hq1,by omega,jk++[cI .u8 m,cW (tab 4 fun _=>0#64)],hj2 _,by rw [hBe],by rw [hspec,show 63 - k=f by omega]⟩
      · have : k = 64 := by omega
        subst this
        have hs0:zbb s=((zE,64,11),q):=hspec
        rw [hs0]
        simp [zdA,g9]
        exact ⟨jk,rfl,hj0⟩)
  exact ⟨e,fr',jk,rfl,(hk 2 (by decide)).trans h2,hp⟩
end Go.Av
namespace Go.Av
theorem zJT (f:List W64) (hf:f.length=4):zaA (rep (zaV (.int .u64 0) 4) 1) [(0,4,.agg (cW f))]=some (cW f):=by
  have e:rep (zaV (zaa.int .u64 0) 4) 1=cW (tab 4 fun _=>0#64):=rfl
  rw [e]
  simp [zaA,hf,zah]
theorem zGM (f:List W64) (hf:f.length=4):chunks 4 1 (cW f)=[cW f]:=by
  simp [chunks,hf,List.take_of_length_le]
theorem zGN (L:Lim) (h:zab) (bs:List (List zaa)) (ts:List Nat) (i j:Nat) (s:Sp) (hs:s.ok) (hc:s.c+2048 < 100000000)
    (hi:i < bs.length) (hj:j < bs.length) (hij:i≠j) (hL:L.rob≤h.blks.length) (hT:L.rot≤h.toks.length):
    zag ctx L zgf [fnB h.blks.length i] (hx h (spH bs i j h.blks.length s) ts)=some (.tup [.agg (cW (zbb s).1.1),.int .i64 (zbb s).1.2.1,.int .i64 (zbb s).1.2.2],hx h (spH bs i j h.blks.length (zbb s).2) ts):=by
  rw [zpW]
  have hlo:=fun fr R=>zBX (L:=⟨L.rob,L.rot,h.blks.length+bs.length,h.toks.length+ts.length⟩) (fr:=fr) (h:=h) (R:=R) bs ts i j s hs hc hi hj hij hL hT
  have hl1:=zf5 bs i j h.blks.length s
  have hl2:=zf5 bs i j h.blks.length (zbb s).2
  have hfl:(zbb s).1.1.length=4:=zuM s
  have hz:zaV (zaa.int .u64 0) 4=cW zE:=rfl
  have hzl:(cW zE).length=4:=rfl
  generalize spH bs i j h.blks.length s=B1 at*
  generalize spH bs i j h.blks.length (zbb s).2=B at*
  have htr:=fun js=>zoU h B js ts bs.length hl2.symm
  simp -implicitDefEqProofs [ziP,zan,zak,hl1,hz]
  generalize hF:run ctx _ (.loop _) _ _=R
  obtain ⟨e,fr',jk,rfl,f2,hp⟩:=hlo _ _ hF (by simp) (by simp) (by simp)
  have sC:=fun w v=>zeQ B w bs.length 0 v hl2.symm
  have gC:=fun w=>zdv B w bs.length 0 hl2.symm
  simp only [Nat.add_zero] at sC gC
  rcases hp with ⟨rfl,hj,hv⟩ | ⟨rfl,hj,h3,h4,he⟩
  · have hjl:0 < jk.length:=(List.getElem?_eq_some_iff.1 hj).1
    rw [hv]
    have hj5:∀ hh,jk[0]'hh=cW zE:=fun hh=>(List.getElem?_eq_some_iff.1 hj).2
    have hj6:∀ v:List zaa,(jk.set 0 v)[0]?=some v:=fun v=>List.getElem?_set_self hjl
    simp -implicitDefEqProofs [f2,sC,gC,hj5,hj6,zan,zak,hl1,zaA,setAt,zam,hL,zbF,zah,hzl,hjl,htr,zaf]
  · have hjl:0 < jk.length:=(List.getElem?_eq_some_iff.1 hj).1
    rw [he]
    simp -implicitDefEqProofs [f2,sC,gC,hj,h3,h4,zan,zak,hl1,htr,zaf,hfl]
def zin:Nat→Sp→List (List W64)→Int→(List (List W64) × Int × Int) × Sp
  | 0,s,acc,t=>((acc,t,0),s)
  | n+1,s,acc,t=>if (zbb s).1.2.2=0 then zin n (zbb s).2 (acc++[(zbb s).1.1]) (IntKind.i64.wrap (t+(zbb s).1.2.1)) else (([],IntKind.i64.wrap (t+(zbb s).1.2.1),(zbb s).1.2.2),(zbb s).2)
def zaC (s:Sp) (n:Nat):(List (List W64) × Int × Int) × Sp:=zin n s [] 0
theorem zzQ:∀ (n:Nat) {s:Sp} (acc:List (List W64)) (t:Int),s.ok→(zin n s acc t).2.ok∧(zin n s acc t).2.c≤s.c+2048*n
  | 0,s,acc,t,h=>⟨h,by simp [zin]⟩
  | n + 1, s, acc, t, h => by
    obtain ⟨h1',h2'⟩:=zxI h
    unfold zin
    split
    · obtain ⟨a,b⟩:=zzQ n (acc++[(zbb s).1.1]) (IntKind.i64.wrap (t+(zbb s).1.2.1)) h1'
      exact ⟨a,by omega⟩
    · exact ⟨h1',by simp only;omega⟩
theorem zJV {acc:List (List W64)} (h:∀ f∈acc,f.length=4):zeH 4 (acc.map cW)=true:=by
  cases acc with
  | nil=>rfl
  | cons x l=>
    have h1:=h x (by simp)
    have h2:∀ a∈l,a.length=4:=fun a ha=>h a (by simp [ha])
    simp [zeH,h1,h2]
    try exact h2
theorem zvo (nb nt:Nat):∀ l:List (List W64),zax nb nt (l.map cW)=true
  | []=>by simp [zax]
  | x :: l => by
    have ih:=zvo nb nt l
    simp [zax,ih,zdG (Nat.zero_le _) (Nat.zero_le _) _ (zFt x)]
theorem zyR {L:Lim} {fr:Fr} {h:zab} {R:Option (AEx × Fr × zab)} (bs:List (List zaa)) (ts:List Nat) (i j:Nat) (s:Sp) (hs:s.ok) (N:Int) (n:Nat) (hN:n=N.toNat) (hn:n < 10000) (hc:s.c < 50000000)
    (hi:i < bs.length) (hj:j < bs.length) (hij:i≠j) (hL:L.rob≤h.blks.length) (hT:L.rot≤h.toks.length)
    (hF:run ctx L (.loop zdh) fr (hx h (spH bs i j h.blks.length s) ts)=R)
    (h1:fr 1=fnB h.blks.length i) (h13:fr 13=.int .i64 N) (h7:fr 7=.nsl) (h8:fr 8=.int .i64 0) (h14:fr 14=.int .i64 0):
    ∃ e fr' jk us,R=some (e,fr',hx h (spH bs i j h.blks.length (zaC s n).2++jk) (ts++us))∧(e=.exit 0∧us=gT ((zaC s n).1.1.map cW)∧fr' 7=gL .nsl h.toks.length ts.length ((zaC s n).1.1.map cW)∧fr' 8=.int .i64 (zaC s n).1.2.1∧(zaC s n).1.2.2=0∨e=.ret∧(zaC s n).1.1=[]∧fr' 4=.nsl∧fr' 5=.int .i64 (zaC s n).1.2.1∧fr' 6=.int .i64 (zaC s n).1.2.2):=by
  obtain ⟨e,fr',h',rfl,⟨jk,us,rfl,hp⟩,hk⟩:=zaj hF n
    (fun k fr hh=>fr 14=.int .i64 (k:Int)∧∃ q jk acc t,q.ok∧q.c≤s.c+2048*k∧acc.length=k∧(∀ f∈acc,f.length=4)∧fr 7=gL .nsl h.toks.length ts.length (acc.map cW)∧fr 8=.int .i64 t∧hh=hx h (spH bs i j h.blks.length q++jk) (ts++gT (acc.map cW))∧zaC s n=zin (n - k) q acc t)
    (fun e fr hh=>∃ jk us,hh=hx h (spH bs i j h.blks.length (zaC s n).2++jk) (ts++us)∧(e=.exit 0∧us=gT ((zaC s n).1.1.map cW)∧fr 7=gL .nsl h.toks.length ts.length ((zaC s n).1.1.map cW)∧fr 8=.int .i64 (zaC s n).1.2.1∧(zaC s n).1.2.2=0∨e=.ret∧(zaC s n).1.1=[]∧fr 4=.nsl∧fr 5=.int .i64 (zaC s n).1.2.1∧fr 6=.int .i64 (zaC s n).1.2.2))
    ⟨h14, s, [], [], 0, hs, by omega, rfl, by simp, by simpa [gL] using h7, h8, by simp [gT], rfl⟩ (by
      rintro k fr1 hh hkN hkeep ⟨g14,q,jk,acc,t,hq,hqc,hal,ha4,g7,g8,rfl,hspec⟩
      have g1:=(hkeep 1 (by decide)).trans h1
      have g13:=(hkeep 13 (by decide)).trans h13
      by_cases hlt:k < n
      · have hltI : (k : Int) < N := by omega
        obtain ⟨f,hf⟩:∃ f,n - k=f+1:=⟨n - k - 1,by omega⟩
        rw [hf,zin] at hspec
        have w0:IntKind.i64.wrap ((k:Int)+1)=k+1:=wrap_i64 (by omega) (by omega)
        have hE:=fun us=>zGN L h (bs++jk) (ts++us) i j q hq (by omega) (by simp;omega) (by simp;omega) hij hL hT
        simp only [zzh bs _ h.blks.length _ hi hj] at hE
        obtain ⟨o1',o2'⟩:=zxI hq
        have hfl:(zbb q).1.1.length=4:=zuM q
        have hsz:=zJV ha4
        have hroom:k+1 < zat:=by unfold zat;omega
        have hap:=fun bs' (f4:List W64) (h4:f4.length=4)=>zy3 L h bs' ts 4 true (acc.map cW) [cW f4] (by rw [hsz,show zeH 4 [cW f4]=true by simp [zeH,h4]];simp [hT,hal,hroom])
        generalize zbb q=E at*
        obtain ⟨⟨v,t1,e1⟩,q2⟩:=E
        simp only at hE hspec o1' o2' hfl
        have hl2:=zf5 bs i j h.blks.length q2
        have hl1:=zf5 bs i j h.blks.length q
        obtain ⟨B,hBe⟩:∃ B,B=spH bs i j h.blks.length q2:=⟨_,rfl⟩
        rw [← hBe] at hE hl2
        generalize spH bs i j h.blks.length q=B1 at*
        have gA:=fun x=>zpb B jk [x] bs.length 0 hl2
        have sA1:=fun x v=>zpc B jk [x] bs.length 0 v hl2
        simp only [Nat.add_zero,List.getElem?_cons_zero,List.set_cons_zero] at gA sA1
        have hsl:zaA (rep (cW (tab 4 fun _=>0#64)) 1) [(0,4,.agg (cW v))]=some (cW v):=zJT v hfl
        have hch:=zGM v hfl
        have hap1:=fun bs'=>hap bs' v hfl
        have hzl:(cW (tab 4 fun _=>0#64)).length=4:=rfl
        by_cases he:e1=0
        · rw [if_pos he] at hspec
          have hmp:(acc++[v]).map cW=acc.map cW++[cW v]:=by simp
          have be:(e1==0)=true:=by simp [he]
          simp -implicitDefEqProofs [zdh,g1,g7,g8,g13,g14,hltI,zan,zak,hE,hl2,hl1,zbk,hL,zam,zbF,zah,zaf,gA,sA1,hfl,hzl,hsl,hch,hap1,bne,be,w0]
          refine ⟨hlt,q2,o1',by omega,jk++[cW v],acc++[v],by simp [hal],?_,by rw [hmp],by rw [hBe,hmp],by rw [hspec,show n - (k+1)=f by omega]⟩
          intro g hg
          rcases List.mem_append.1 hg with h1 | h1
          · exact ha4 g h1
          · rw [List.mem_singleton.1 h1];exact hfl
        · rw [if_neg he] at hspec
          have be:(e1==0)=false:=by simp [he]
          simp -implicitDefEqProofs [zdh,g1,g7,g8,g13,g14,hltI,zan,zak,hE,hl2,hl1,zbk,hL,zam,zbF,zah,zaf,gA,sA1,hfl,hzl,bne,be,w0]
          rw [hspec]
          exact ⟨⟨jk++[cW v],gT (acc.map cW),by rw [hBe]⟩,rfl,rfl,rfl⟩
      · have : k = n := by omega
        subst this
        have hltI:¬(k:Int) < N:=by omega
        rw [Nat.sub_self,zin] at hspec
        rw [hspec]
        simp [zdh,g13,g14,hltI]
        exact ⟨jk,_,rfl,rfl,g7,g8⟩)
  exact ⟨e,fr',jk,us,rfl,hp⟩
end Go.Av
