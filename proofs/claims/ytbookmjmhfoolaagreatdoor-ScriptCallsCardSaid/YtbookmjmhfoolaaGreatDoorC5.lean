/- Elements as bytes, and elements sampled of a sponge. -/
import Derived.Test.YtbookmjmhfoolaaGreatDoorC2
import Derived.Test.YtbookmjmhfoolaaGreatDoorC3
import Derived.Test.YtbookmjmhfoolaaGreatDoorC4
set_option linter.unusedSimpArgs false
set_option linter.unusedVariables false
set_option maxHeartbeats 2000000
set_option maxRecDepth 20000
namespace Go.Av
end Go.Av
namespace Go.Av
theorem zE8 (L:Lim) (h:zab) (x:Nat):zag ctx L zcx [.agg (cW (fe x))] h=some (.agg (cW (w4 (x % pN))),h):=by
  rw [zjk]
  have e0:(cW (tab 4 fun _=>0#64)).set 0 (wd 1#64)=cW [1#64,0#64,0#64,0#64]:=rfl
  have hv:val [1#64,0#64,0#64,0#64]=1:=by decide +kernel
  have h1:=fun L h=>ztY L h (fe x) [1#64,0#64,0#64,0#64] rfl rfl (by rw [hv];decide)
  rw [hv,zGS] at h1
  have l1:=zzx x
  have l3:=zoJ (x % pN)
  generalize w4 (x % pN)=r at*
  generalize fe x=a at*
  generalize [1#64,0#64,0#64,0#64]=q at*
  simp -implicitDefEqProofs [zdD,zau,zaf,l1,l3,h1,zay,zbB,zah,zbi,e0,wd1]
def feB (x:Nat):List Int:=zev (w4 (x % pN))
@[simp] theorem zCj (x:Nat):(feB x).length=32:=by simp [feB,zev]
theorem zFb (L:Lim) (h:zab) (x:Nat):zag ctx L zcw [.agg (cW (fe x))] h=some (.agg (cI .u8 (feB x)),h):=by
  rw [zji]
  have hsl:=zln 4 1 h.blks.length 1 0 (by decide)
  have hlv:=fun L h=>zE8 L h x
  have hB:=fun L z=>zzq L (hx h [z,cW (w4 (x % pN))] []) (w4 (x % pN)) (sA h.blks.length 1 0 1 4 (some 4)) (by simp) (RdW.sA [] 1 4 _ _ rfl rfl)
  have h2a:=zy3 32 false .u8 (feB x) (by simp)
  rw [List.take_of_length_le (by simp)] at h2a
  have l0:=zCj x
  have l1:=zzx x
  have l3:=zoJ (x % pN)
  have hf:zev (w4 (x % pN))=feB x:=rfl
  rw [hf] at hB
  generalize feB x=bs at*
  generalize w4 (x % pN)=r at*
  generalize fe x=a at*
  simp -implicitDefEqProofs [zdP,zau,zaf,l0,l1,l3,zbi,zgf,hlv,hsl,hB,h2a,zbB,zah]
theorem zp5 (L:Lim) (h:zab) (c:Bool) (b:List Int) (hb:inB b) (hl:b.length=32):zag ctx L zbW [.vsl c (eI .u8 b)] h=
    some (if leN b < pN then .tup [.agg (cW (fe (leN b))),.int .i64 0] else .tup [.agg (cW (tab 4 fun _=>0#64)),.int .i64 4],h):=by
  rw [zg7]
  have hW:=fun L H=>zut L H (.vsl false (eI .u8 b)) b (RdI.vsl H .u8 false b) (by omega)
  rw [hl,show (32+7) / 8=4 from rfl] at hW
  have hv:=zBV b hb 4 (by omega)
  rw [hl] at hv
  have hwl:(wdP b 4 32).length=4:=by simp
  have h2a:=zvZ 4 false (wdP b 4 32) (by decide) (by simp)
  rw [List.take_of_length_le (by simp)] at h2a
  have hbo:=fun L h=>zwz L h (wdP b 4 32) pW hwl rfl
  simp only [hv,zMa] at hbo
  have hE:=fun L H=>zGp L H (wdP b 4 32) hwl
  rw [hv] at hE
  generalize wdP b 4 32=ws at*
  by_cases hlt:leN b < pN
  · simp only [if_pos hlt] at hbo
    rw [if_pos hlt]
    have l3:=zoJ (leN b+rN - pN)
    have l4:=zzx (leN b)
    generalize w4 (leN b+rN - pN)=q at*
    generalize fe (leN b)=r at*
    have he:(wd 1#64=zaa.int .u64 1):=rfl
    simp -implicitDefEqProofs [zd2,zau,hl,hW,h2a,zaf,hwl,zbi,zbB,zah,zmb,hbo,l3,l4,he,hE]
  · simp only [if_neg hlt] at hbo
    rw [if_neg hlt]
    have l3:=zoJ (leN b - pN)
    generalize w4 (leN b - pN)=q at*
    have he:(wd 0#64=zaa.int .u64 0):=rfl
    simp -implicitDefEqProofs [zd2,zau,hl,hW,h2a,zaf,hwl,zbi,zbB,zah,zmb,hbo,l3,he,zay]
end Go.Av
namespace Go.Av
theorem zxN (bs z:List (List zaa)) {i j:Nat} (n:Nat) (s:Sp) (hi:i < bs.length) (hj:j < bs.length):spH (bs++z) i j n s=spH bs i j n s++z:=by
  simp only [spH,sp2]
  rw [List.set_append_left _ _ hi,List.set_append_left _ _ (by simpa using hj)]
theorem zfU (bs:List (List zaa)) (i j n:Nat) (s:Sp):(spH bs i j n s).length=bs.length:=by simp [spH]
theorem zFj (L:Lim) (h:zab) (bs:List (List zaa)) (ts:List Nat) (i j:Nat) (s:Sp) (hs:s.ok) (hc:s.c < 100000000)
    (hi:i < bs.length) (hj:j < bs.length) (hij:i≠j) (hL:L.rob≤h.blks.length) (hT:L.rot≤h.toks.length):
    zag ctx L za1 [.agg [pA h.blks.length i 0]] (hx h (spH bs i j h.blks.length s) ts)=some (.agg (cI .u8 (zjy s 32)),hx h (spH bs i j h.blks.length (zdl s 32)) ts):=by
  rw [zgO]
  have hS:=fun L hL hT z=>zrT L h (bs++[z]) ts i j s hs 32 32 rfl (by decide) hc (by simp;omega) (by simp;omega) hij hL hT
  simp only [zxN bs _ h.blks.length _ hi hj] at hS
  have hl1:=zfU bs i j h.blks.length s
  have hl2:=zfU bs i j h.blks.length (zdl s 32)
  have hll:(zjy s 32).length=32:=zo8 s 32
  generalize zjy s 32=l at*
  generalize spH bs i j h.blks.length (zdl s 32)=B2 at*
  generalize spH bs i j h.blks.length s=B1 at*
  have h2a:=zy3 32 false .u8 l (by simp [hll])
  rw [List.take_of_length_le (by omega)] at h2a
  have hg:=fun x=>zdm B2 [x] bs.length 0 hl2.symm
  have hset:=fun x v=>zeI B2 [x] bs.length 0 v hl2.symm
  simp only [Nat.add_zero,List.getElem?_cons_zero,List.set_cons_zero] at hg hset
  have htr:=fun js=>zog h B2 js ts bs.length hl2.symm
  simp -implicitDefEqProofs [zci,zam,zak,zmB,zaa.okV,zaa.cells,zgf,zae,hl1,hS,hL,hT,h2a,hg,hset,htr,zbB,zah,zan,zaf,hll]
def zNm (x:Int):Int:=IntKind.u8.wrap (((x % 2 ^ IntKind.u8.bits).toNat&&&63 % 2 ^ IntKind.u8.bits:Nat):Int)
def zz8 (b:List Int):List Int:=b.set 31 (zNm (gd b 0 31))
theorem zIm (x:Int):0≤zNm x∧zNm x < 256:=by
  unfold zNm IntKind.wrap
  simp [IntKind.signed,IntKind.bits]
  omega
theorem zFk {b:List Int} (h:inB b):inB (zz8 b):=zEl h 31 _ (zIm _)
theorem zFl (b:List Int):(zz8 b).length=b.length:=by simp [zz8]
theorem zJj (L:Lim) (h:zab) (b:List Int) (hl:b.length=32):zag ctx L zhf [.agg (cI .u8 b)] h=some (.agg (cI .u8 (zz8 b)),h):=by
  rw [zqC]
  have hi:zcG (some 32) 1 (pA h.blks.length 0 0) (.int .i64 31)=some (pA h.blks.length 0 31):=rfl
  have hmsk:zz8 b=b.set 31 (IntKind.u8.wrap (((gd b 0 31 % 2 ^ IntKind.u8.bits).toNat&&&63 % 2 ^ IntKind.u8.bits:Nat):Int)):=rfl
  have hat:∀ hh,(cI .u8 b)[31]'hh=.int .u8 (gd b 0 31):=fun hh=>(List.getElem?_eq_some_iff.1 (zCH (by omega))).2
  rw [hmsk]
  simp -implicitDefEqProofs [zjC,zau,zgf,zd9,zaa.okV,zaa.cells,zbB,zah,zaf,hl,hi,hat,zCH]
theorem zMt {s:Sp} (h:s.ok):(zEh s).ok∧(zEh s).b < 136:=zEj h
theorem zGu {s : Sp} (h : s.ok) (n : Nat) : inB (zjy s n) := fun i hi => by
  rw [zo8] at hi
  unfold zjy
  rw [zk3 hi]
  obtain ⟨⟨h1,h2,h3,h4⟩,h5⟩:=zMt (zmc h i)
  exact h2 _ (by omega)
theorem zoL {α:Type} (B jk w:List α) (n k:Nat) (h:B.length=n):(B++(jk++w))[n+(jk.length+k)]?=w[k]?:=by
  subst h
  rw [List.getElem?_append_right (by omega),Nat.add_sub_cancel_left,List.getElem?_append_right (by omega),Nat.add_sub_cancel_left]
theorem zoM {α:Type} (B jk w:List α) (n k:Nat) (v:α) (h:B.length=n):(B++(jk++w)).set (n+(jk.length+k)) v=B++(jk++w.set k v):=by
  subst h
  rw [List.set_append_right _ _ (by omega),Nat.add_sub_cancel_left,List.set_append_right _ _ (by omega),Nat.add_sub_cancel_left]
def zE:List W64:=tab 4 fun _=>0#64
def zvE:Nat→Sp→Nat→(List W64 × Int × Int) × Sp
  | 0,s,_=>((zE,64,11),s)
  | f+1,s,k=>if leN (zz8 (zjy s 32)) < pN then ((fe (leN (zz8 (zjy s 32))),(k:Int)+1,0),zdl s 32) else zvE f (zdl s 32) (k+1)
@[irreducible] def zbg (s:Sp):(List W64 × Int × Int) × Sp:=zvE 64 s 0
theorem zoO (s:Sp):zbg s=zvE 64 s 0:=by unfold zbg;exact rfl
theorem zDC:∀ (f:Nat) {s:Sp} (k:Nat),s.ok→(zvE f s k).2.ok∧(zvE f s k).2.c≤s.c+32*f
  | 0,s,k,h=>⟨h,by simp [zvE]⟩
  | f + 1, s, k, h => by
    have h1:=zmc h 32
    have h2:=zr6 s 32
    unfold zvE
    split
    · exact ⟨h1,by simp only;omega⟩
    · obtain ⟨a,b⟩:=zDC f (k+1) h1
      exact ⟨a,by omega⟩
theorem zzl:∀ (f:Nat) (s:Sp) (k:Nat),(zvE f s k).1.1.length=4
  | 0,s,k=>rfl
  | f + 1, s, k => by
    unfold zvE
    split
    · rfl
    · exact zzl f _ _
theorem zt1 (s:Sp):(zbg s).1.1.length=4:=by rw [zoO];exact zzl 64 s 0
theorem zwM {s:Sp} (h:s.ok):(zbg s).2.ok∧(zbg s).2.c≤s.c+2048:=by rw [zoO];exact zDC 64 0 h
theorem zu9 (L:Lim) (h:zab) (bs:List (List zaa)) (ts:List Nat) (i:Nat) (cap:Option Nat) (t:List Int) (hb:inB t) (hi:bs[i]?=some (cI .u8 t)) (hl:t.length=32):
    zag ctx L zbW [sA h.blks.length i 0 1 32 cap] (hx h bs ts)=some (if leN t < pN then .tup [.agg (cW (fe (leN t))),.int .i64 0] else .tup [.agg (cW (tab 4 fun _=>0#64)),.int .i64 4],hx h bs ts):=by
  have h1:=zp5 L (hx h bs ts) false t hb hl
  rw [zg7] at h1 ⊢
  have hf:=zHn h bs ts i 32 cap .u8 t hi hl
  rw [ztG,zrQ,zCz,ztH,zyZ,ztK] at h1
  rw [ztG,zrQ,hf,ztH,zyZ,ztK]
  refine zB9 h1 ?_
  split
  · simp [zaa.flat,zb4,zuo]
  · simp [zaa.flat,zb4,zuo]
def fnB (n i:Nat):zaa:=.fn (.func za1) [.agg [pA n i 0]] []
theorem zAE {L:Lim} {fr:Fr} {h:zab} {R:Option (AEx × Fr × zab)} (bs:List (List zaa)) (ts:List Nat) (i j:Nat) (s:Sp) (hs:s.ok) (hc:s.c+2048 < 100000000)
    (hi:i < bs.length) (hj:j < bs.length) (hij:i≠j) (hL:L.rob≤h.blks.length) (hT:L.rot≤h.toks.length)
    (hF:run ctx L (.loop zdy) fr (hx h (spH bs i j h.blks.length s++[cW zE]) ts)=R)
    (h0:fr 0=fnB h.blks.length i) (h2:fr 2=pA h.blks.length bs.length 0) (h9:fr 9=.int .i64 0):
    ∃ e fr' jk,R=some (e,fr',hx h (spH bs i j h.blks.length (zbg s).2++jk) ts)∧fr' 2=pA h.blks.length bs.length 0∧(e=.exit 0∧jk[0]?=some (cW zE)∧(zbg s).1=(zE,64,11)∨e=.ret∧jk[0]?=some (cW (zbg s).1.1)∧fr' 3=.int .i64 (zbg s).1.2.1∧fr' 4=.int .i64 0∧(zbg s).1.2.2=0):=by
  obtain ⟨e,fr',h',rfl,⟨jk,rfl,hp⟩,hk⟩:=zaj hF 64
    (fun k fr hh=>fr 9=.int .i64 (k:Int)∧∃ q jk,q.ok∧q.c≤s.c+32*k∧jk[0]?=some (cW zE)∧hh=hx h (spH bs i j h.blks.length q++jk) ts∧zbg s=zvE (64 - k) q k)
    (fun e fr hh=>∃ jk,hh=hx h (spH bs i j h.blks.length (zbg s).2++jk) ts∧(e=.exit 0∧jk[0]?=some (cW zE)∧(zbg s).1=(zE,64,11)∨e=.ret∧jk[0]?=some (cW (zbg s).1.1)∧fr 3=.int .i64 (zbg s).1.2.1∧fr 4=.int .i64 0∧(zbg s).1.2.2=0))
    ⟨h9, s, _, hs, by omega, rfl, rfl, zoO s⟩ (by
      rintro k fr1 hh hkN hkeep ⟨g9,q,jk,hq,hqc,hj0,rfl,hspec⟩
      have g0:=(hkeep 0 (by decide)).trans h0
      have g2:=(hkeep 2 (by decide)).trans h2
      by_cases hlt:k < 64
      · have hltI : (k : Int) < 64 := by omega
        obtain ⟨f,hf⟩:∃ f,64 - k=f+1:=⟨64 - k - 1,by omega⟩
        rw [hf,zvE] at hspec
        have w0:IntKind.i64.wrap ((k:Int)+1)=k+1:=wrap_i64 (by omega) (by omega)
        have hB:=zFj L h (bs++jk) ts i j q hq (by omega) (by simp;omega) (by simp;omega) hij hL hT
        simp only [zxN bs _ h.blks.length _ hi hj] at hB
        have hq1:=zmc hq 32
        have hq2:=zr6 q 32
        have hgl:(zjy q 32).length=32:=zo8 q 32
        have hgi:inB (zjy q 32):=zGu hq 32
        have hMk:=fun L h=>zJj L h (zjy q 32) hgl
        have hml:(zz8 (zjy q 32)).length=32:=by rw [zFl,hgl]
        have hmi:=zFk hgi
        generalize zz8 (zjy q 32)=m at*
        generalize zjy q 32=l at*
        generalize zdl q 32=q2 at*
        have hl2:=zfU bs i j h.blks.length q2
        obtain ⟨B,hBe⟩:∃ B,B=spH bs i j h.blks.length q2:=⟨_,rfl⟩
        rw [← hBe] at hB hl2
        have gA:=fun x=>zoL B jk [x] bs.length 0 hl2
        have sA1:=fun x v=>zoM B jk [x] bs.length 0 v hl2
        have gB:=fun x y=>zoL B jk [x,y] bs.length 1 hl2
        have sB1:=fun x y v=>zoM B jk [x,y] bs.length 1 v hl2
        have sC:=fun w v=>zeI B w bs.length 0 v hl2.symm
        have gC:=fun w=>zdm B w bs.length 0 hl2.symm
        simp only [Nat.add_zero,List.getElem?_cons_zero,List.set_cons_zero,List.getElem?_cons_succ,List.set_cons_succ] at gA sA1 gB sB1 sC gC
        have hjl:0 < jk.length:=(List.getElem?_eq_some_iff.1 hj0).1
        have hj2:∀ w:List (List zaa),(jk++w)[0]?=some (cW zE):=fun w=>by rw [List.getElem?_append_left hjl,hj0]
        have hj4:∀ (w:List (List zaa)) hh,(jk++w)[0]'hh=cW zE:=fun w hh=>(List.getElem?_eq_some_iff.1 (hj2 w)).2
        have hzl:(cW zE).length=4:=rfl
        have hj3:∀ (w:List (List zaa)) v,((jk++w).set 0 v)[0]?=some v:=fun w v=>List.getElem?_set_self (by simp;omega)
        have hFB:=fun L=>zu9 L h (B++(jk++[cI .u8 m])) ts (bs.length+jk.length) (some 32) m hmi (gA _) hml
        have hBl:=zfU bs i j h.blks.length q
        generalize spH bs i j h.blks.length q=B1 at*
        have hsl:=zln 32 1 h.blks.length (bs.length+jk.length) 0 (by decide)
        by_cases hm:leN m < pN
        · rw [if_pos hm] at hspec
          simp only [if_pos hm] at hFB
          rw [hspec]
          have hfl:(fe (leN m)).length=4:=rfl
          generalize fe (leN m)=f4 at*
          simp -implicitDefEqProofs [zdy,g0,g2,g9,fnB,hltI,zam,zak,hB,hMk,hl2,hBl,zgf,zbi,hL,zan,zbB,zah,zaf,hml,hsl,hFB,gA,sA1,gB,sB1,sC,gC,hj2,hj3,hj4,hzl,hfl,w0]
          exact ⟨_,by rw [hBe],by simp⟩
        · rw [if_neg hm] at hspec
          simp only [if_neg hm] at hFB
          simp -implicitDefEqProofs [zdy,g0,g2,g9,fnB,hltI,zam,zak,hB,hMk,hl2,hBl,zgf,zbi,hL,zan,zbB,zah,zaf,hml,hsl,hFB,gA,sA1,gB,sB1,sC,gC,hj2,hj3,hj4,hzl,w0]
          exact ⟨hlt,q2,hq1,by omega,jk++[cI .u8 m,cW (tab 4 fun _=>0#64)],hj2 _,by rw [hBe],by rw [hspec,show 63 - k=f by omega]⟩
      · have : k = 64 := by omega
        subst this
        have hs0:zbg s=((zE,64,11),q):=hspec
        rw [hs0]
        simp [zdy,g9]
        exact ⟨jk,rfl,hj0⟩)
  exact ⟨e,fr',jk,rfl,(hk 2 (by decide)).trans h2,hp⟩
end Go.Av
namespace Go.Av
theorem zJq (f:List W64) (hf:f.length=4):zay (rep (zaS (.int .u64 0) 4) 1) [(0,4,.agg (cW f))]=some (cW f):=by
  have e:rep (zaS (zaa.int .u64 0) 4) 1=cW (tab 4 fun _=>0#64):=rfl
  rw [e]
  simp [zay,hf,zah]
theorem zGz (f:List W64) (hf:f.length=4):chunks 4 1 (cW f)=[cW f]:=by
  simp [chunks,hf,List.take_of_length_le]
theorem zGA (L:Lim) (h:zab) (bs:List (List zaa)) (ts:List Nat) (i j:Nat) (s:Sp) (hs:s.ok) (hc:s.c+2048 < 100000000)
    (hi:i < bs.length) (hj:j < bs.length) (hij:i≠j) (hL:L.rob≤h.blks.length) (hT:L.rot≤h.toks.length):
    zag ctx L zf8 [fnB h.blks.length i] (hx h (spH bs i j h.blks.length s) ts)=some (.tup [.agg (cW (zbg s).1.1),.int .i64 (zbg s).1.2.1,.int .i64 (zbg s).1.2.2],hx h (spH bs i j h.blks.length (zbg s).2) ts):=by
  rw [zpC]
  have hlo:=fun fr R=>zAE (L:=⟨L.rob,L.rot,h.blks.length+bs.length,h.toks.length+ts.length⟩) (fr:=fr) (h:=h) (R:=R) bs ts i j s hs hc hi hj hij hL hT
  have hl1:=zfU bs i j h.blks.length s
  have hl2:=zfU bs i j h.blks.length (zbg s).2
  have hfl:(zbg s).1.1.length=4:=zt1 s
  have hz:zaS (zaa.int .u64 0) 4=cW zE:=rfl
  have hzl:(cW zE).length=4:=rfl
  generalize spH bs i j h.blks.length s=B1 at*
  generalize spH bs i j h.blks.length (zbg s).2=B at*
  have htr:=fun js=>zog h B js ts bs.length hl2.symm
  simp -implicitDefEqProofs [ziD,zam,zak,hl1,hz]
  generalize hF:run ctx _ (.loop _) _ _=R
  obtain ⟨e,fr',jk,rfl,f2,hp⟩:=hlo _ _ hF (by simp) (by simp) (by simp)
  have sC:=fun w v=>zeI B w bs.length 0 v hl2.symm
  have gC:=fun w=>zdm B w bs.length 0 hl2.symm
  simp only [Nat.add_zero] at sC gC
  rcases hp with ⟨rfl,hj,hv⟩ | ⟨rfl,hj,h3,h4,he⟩
  · have hjl:0 < jk.length:=(List.getElem?_eq_some_iff.1 hj).1
    rw [hv]
    have hj5:∀ hh,jk[0]'hh=cW zE:=fun hh=>(List.getElem?_eq_some_iff.1 hj).2
    have hj6:∀ v:List zaa,(jk.set 0 v)[0]?=some v:=fun v=>List.getElem?_set_self hjl
    simp -implicitDefEqProofs [f2,sC,gC,hj5,hj6,zam,zak,hl1,zay,setAt,zan,hL,zbB,zah,hzl,hjl,htr,zaf]
  · have hjl:0 < jk.length:=(List.getElem?_eq_some_iff.1 hj).1
    rw [he]
    simp -implicitDefEqProofs [f2,sC,gC,hj,h3,h4,zam,zak,hl1,htr,zaf,hfl]
def zjR:Nat→Sp→List (List W64)→Int→(List (List W64) × Int × Int) × Sp
  | 0,s,acc,t=>((acc,t,0),s)
  | n+1,s,acc,t=>if (zbg s).1.2.2=0 then zjR n (zbg s).2 (acc++[(zbg s).1.1]) (IntKind.i64.wrap (t+(zbg s).1.2.1)) else (([],IntKind.i64.wrap (t+(zbg s).1.2.1),(zbg s).1.2.2),(zbg s).2)
def zaD (s:Sp) (n:Nat):(List (List W64) × Int × Int) × Sp:=zjR n s [] 0
theorem zzm:∀ (n:Nat) {s:Sp} (acc:List (List W64)) (t:Int),s.ok→(zjR n s acc t).2.ok∧(zjR n s acc t).2.c≤s.c+2048*n
  | 0,s,acc,t,h=>⟨h,by simp [zjR]⟩
  | n + 1, s, acc, t, h => by
    obtain ⟨h1',h2'⟩:=zwM h
    unfold zjR
    split
    · obtain ⟨a,b⟩:=zzm n (acc++[(zbg s).1.1]) (IntKind.i64.wrap (t+(zbg s).1.2.1)) h1'
      exact ⟨a,by omega⟩
    · exact ⟨h1',by simp only;omega⟩
theorem zJr {acc:List (List W64)} (h:∀ f∈acc,f.length=4):zfe 4 (acc.map cW)=true:=by
  cases acc with
  | nil=>rfl
  | cons x l=>
    have h1:=h x (by simp)
    have h2:∀ a∈l,a.length=4:=fun a ha=>h a (by simp [ha])
    simp [zfe,h1,h2]
    try exact h2
theorem zva (nb nt:Nat):∀ l:List (List W64),zaw nb nt (l.map cW)=true
  | []=>by simp [zaw]
  | x :: l => by
    have ih:=zva nb nt l
    simp [zaw,ih,zdC (Nat.zero_le _) (Nat.zero_le _) _ (zD1 x)]
theorem zyo {L:Lim} {fr:Fr} {h:zab} {R:Option (AEx × Fr × zab)} (bs:List (List zaa)) (ts:List Nat) (i j:Nat) (s:Sp) (hs:s.ok) (N:Int) (n:Nat) (hN:n=N.toNat) (hn:n < 10000) (hc:s.c < 50000000)
    (hi:i < bs.length) (hj:j < bs.length) (hij:i≠j) (hL:L.rob≤h.blks.length) (hT:L.rot≤h.toks.length)
    (hF:run ctx L (.loop zda) fr (hx h (spH bs i j h.blks.length s) ts)=R)
    (h1:fr 1=fnB h.blks.length i) (h13:fr 13=.int .i64 N) (h7:fr 7=.nsl) (h8:fr 8=.int .i64 0) (h14:fr 14=.int .i64 0):
    ∃ e fr' jk us,R=some (e,fr',hx h (spH bs i j h.blks.length (zaD s n).2++jk) (ts++us))∧(e=.exit 0∧us=gT ((zaD s n).1.1.map cW)∧fr' 7=gL .nsl h.toks.length ts.length ((zaD s n).1.1.map cW)∧fr' 8=.int .i64 (zaD s n).1.2.1∧(zaD s n).1.2.2=0∨e=.ret∧(zaD s n).1.1=[]∧fr' 4=.nsl∧fr' 5=.int .i64 (zaD s n).1.2.1∧fr' 6=.int .i64 (zaD s n).1.2.2):=by
  obtain ⟨e,fr',h',rfl,⟨jk,us,rfl,hp⟩,hk⟩:=zaj hF n
    (fun k fr hh=>fr 14=.int .i64 (k:Int)∧∃ q jk acc t,q.ok∧q.c≤s.c+2048*k∧acc.length=k∧(∀ f∈acc,f.length=4)∧fr 7=gL .nsl h.toks.length ts.length (acc.map cW)∧fr 8=.int .i64 t∧hh=hx h (spH bs i j h.blks.length q++jk) (ts++gT (acc.map cW))∧zaD s n=zjR (n - k) q acc t)
    (fun e fr hh=>∃ jk us,hh=hx h (spH bs i j h.blks.length (zaD s n).2++jk) (ts++us)∧(e=.exit 0∧us=gT ((zaD s n).1.1.map cW)∧fr 7=gL .nsl h.toks.length ts.length ((zaD s n).1.1.map cW)∧fr 8=.int .i64 (zaD s n).1.2.1∧(zaD s n).1.2.2=0∨e=.ret∧(zaD s n).1.1=[]∧fr 4=.nsl∧fr 5=.int .i64 (zaD s n).1.2.1∧fr 6=.int .i64 (zaD s n).1.2.2))
    ⟨h14, s, [], [], 0, hs, by omega, rfl, by simp, by simpa [gL] using h7, h8, by simp [gT], rfl⟩ (by
      rintro k fr1 hh hkN hkeep ⟨g14,q,jk,acc,t,hq,hqc,hal,ha4,g7,g8,rfl,hspec⟩
      have g1:=(hkeep 1 (by decide)).trans h1
      have g13:=(hkeep 13 (by decide)).trans h13
      by_cases hlt:k < n
      · have hltI : (k : Int) < N := by omega
        obtain ⟨f,hf⟩:∃ f,n - k=f+1:=⟨n - k - 1,by omega⟩
        rw [hf,zjR] at hspec
        have w0:IntKind.i64.wrap ((k:Int)+1)=k+1:=wrap_i64 (by omega) (by omega)
        have hE:=fun us=>zGA L h (bs++jk) (ts++us) i j q hq (by omega) (by simp;omega) (by simp;omega) hij hL hT
        simp only [zxN bs _ h.blks.length _ hi hj] at hE
        obtain ⟨o1',o2'⟩:=zwM hq
        have hfl:(zbg q).1.1.length=4:=zt1 q
        have hsz:=zJr ha4
        have hroom:k+1 < zas:=by unfold zas;omega
        have hap:=fun bs' (f4:List W64) (h4:f4.length=4)=>zyE L h bs' ts 4 true (acc.map cW) [cW f4] (by rw [hsz,show zfe 4 [cW f4]=true by simp [zfe,h4]];simp [hT,hal,hroom])
        generalize zbg q=E at*
        obtain ⟨⟨v,t1,e1⟩,q2⟩:=E
        simp only at hE hspec o1' o2' hfl
        have hl2:=zfU bs i j h.blks.length q2
        have hl1:=zfU bs i j h.blks.length q
        obtain ⟨B,hBe⟩:∃ B,B=spH bs i j h.blks.length q2:=⟨_,rfl⟩
        rw [← hBe] at hE hl2
        generalize spH bs i j h.blks.length q=B1 at*
        have gA:=fun x=>zoL B jk [x] bs.length 0 hl2
        have sA1:=fun x v=>zoM B jk [x] bs.length 0 v hl2
        simp only [Nat.add_zero,List.getElem?_cons_zero,List.set_cons_zero] at gA sA1
        have hsl:zay (rep (cW (tab 4 fun _=>0#64)) 1) [(0,4,.agg (cW v))]=some (cW v):=zJq v hfl
        have hch:=zGz v hfl
        have hap1:=fun bs'=>hap bs' v hfl
        have hzl:(cW (tab 4 fun _=>0#64)).length=4:=rfl
        by_cases he:e1=0
        · rw [if_pos he] at hspec
          have hmp:(acc++[v]).map cW=acc.map cW++[cW v]:=by simp
          have be:(e1==0)=true:=by simp [he]
          simp -implicitDefEqProofs [zda,g1,g7,g8,g13,g14,hltI,zam,zak,hE,hl2,hl1,zbi,hL,zan,zbB,zah,zaf,gA,sA1,hfl,hzl,hsl,hch,hap1,bne,be,w0]
          refine ⟨hlt,q2,o1',by omega,jk++[cW v],acc++[v],by simp [hal],?_,by rw [hmp],by rw [hBe,hmp],by rw [hspec,show n - (k+1)=f by omega]⟩
          intro g hg
          rcases List.mem_append.1 hg with h1 | h1
          · exact ha4 g h1
          · rw [List.mem_singleton.1 h1];exact hfl
        · rw [if_neg he] at hspec
          have be:(e1==0)=false:=by simp [he]
          simp -implicitDefEqProofs [zda,g1,g7,g8,g13,g14,hltI,zam,zak,hE,hl2,hl1,zbi,hL,zan,zbB,zah,zaf,gA,sA1,hfl,hzl,bne,be,w0]
          rw [hspec]
          exact ⟨⟨jk++[cW v],gT (acc.map cW),by rw [hBe]⟩,rfl,rfl,rfl⟩
      · have : k = n := by omega
        subst this
        have hltI:¬(k:Int) < N:=by omega
        rw [Nat.sub_self,zjR] at hspec
        rw [hspec]
        simp [zda,g13,g14,hltI]
        exact ⟨jk,_,rfl,rfl,g7,g8⟩)
  exact ⟨e,fr',jk,us,rfl,hp⟩
end Go.Av
