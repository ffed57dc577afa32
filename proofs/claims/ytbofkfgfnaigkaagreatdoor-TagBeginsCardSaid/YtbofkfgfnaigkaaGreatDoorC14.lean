/- Sponges of the program and of the document give what plain functions of lists give. -/
import Derived.Test.YtbofkfgfnaigkaaGreatDoorC12
import Derived.Test.YtbofkfgfnaigkaaGreatDoorC10
import Derived.Test.YtbofkfgfnaigkaaGreatDoorC3
import Derived.Test.YtbofkfgfnaigkaaGreatDoorC11
import Derived.Test.YtbofkfgfnaigkaaGreatDoorC8
set_option linter.unusedSimpArgs false
set_option linter.unusedVariables false
set_option maxHeartbeats 2000000
set_option maxRecDepth 20000
namespace Go.Av
theorem zEf (L:Lim) (h:zab) (c:Bool) (b:List Int) (hl:b.length=200):
    zag ctx L zd8 [.vsl c (eI .u8 b)] h=some (.agg (cW (ze2 b)),h):=by
  rw [znz]
  have hf:=zjZ h c (eI .u8 b)
  have e0:cW (tab 25 fun _=>0#64)=cW (obK b 200 0):=rfl
  have hw:(ze2 b).length=25:=zet b
  simp [zgf,zak,zaI,e0,zaj,zaA,zbp,zai,hl,hf]
  generalize hF:run ctx _ (.loop _) _ _=R
  have hr:RdI h .u8 (.vsl false (eI .u8 b)) b:=RdI.vsl h .u8 false b
  obtain ⟨fr1,rfl,hk1⟩:=zPU b hl _ _ hr hF (by simp) (by simp) (by simp;exact wrap_i64 (by decide) (by decide))
  simp [hk1,wr,zbD,zbM,zaj,zbp,zai,hw]
def spC (s:Sp):List zaa:=[.vsl false (eI .u8 s.S),.int .i64 s.a,.int .i64 s.b,.int .i64 s.c]
theorem zEg (h:zab) (s:Sp):fzA h (.agg (spC s))=some (.agg (spC s),false):=by
  simp [fzA,zdE,zaa.flat,spC]
theorem zNT (L:Lim) (h:zab) (s:Sp) (hs:s.S.length=200) (hc:s.c < 1000000000000):
    zag ctx L zc1 [.agg (spC s)] h=some (.agg (spC {s with S:=zpK s.S,c:=s.c+1}),h):=by
  rw [zk6]
  have hf:=zEg h s
  have hO:=fun L h=>zEf L h false s.S hs
  have hP:=fun L h=>zA1 L h (ze2 s.S) (zet _)
  have hl:(zmk (ze2 s.S)).length=25:=by rw [zfv];exact zet _
  obtain ⟨bs',⟨js,rfl⟩,hB⟩:=zDl (zak h) h [spC s,[.nsl,.int .i64 0,.int .i64 0,.int .i64 0]] [] (zmk (ze2 s.S)) hl (Nat.le_refl _)
  have w1:IntKind.i64.wrap ((s.c:Int)+1)=((s.c+1:Nat):Int):=(wrap_i64 (by omega) (by omega)).trans (by omega)
  have hcl:(zaa.agg (spC s)).cells=spC s:=by simp only [zaa.cells]
  have hok:(zaa.agg (spC s)).okV=true:=zii _
  have q0:zb2 false (spC s) 0 1=some (.vsl false (eI .u8 s.S)):=rfl
  have ht:zbQ (zmk (ze2 s.S))=zpK s.S:=rfl
  have htl:=zvp s.S
  rw [ht] at hB
  have hC2:spC {s with S:=zpK s.S,c:=s.c+1}=[.vsl false (eI .u8 (zpK s.S)),.int .i64 s.a,.int .i64 s.b,.int .i64 ((s.c+1:Nat):Int)]:=rfl
  rw [hC2]
  have hS1:spC s=[.vsl false (eI .u8 s.S),.int .i64 s.a,.int .i64 s.b,.int .i64 s.c]:=rfl
  simp only [List.cons_append,List.nil_append] at hB
  generalize ((s.c+1:Nat):Int)=c2 at*
  have hset:∀ x:zaa,setAt (spC s) 0 [x]=[x,.int .i64 s.a,.int .i64 s.b,.int .i64 s.c]:=fun x=>rfl
  have hsl:(spC s).length=4:=rfl
  have hset2:∀ (x:zaa) (c:Int),setAt [zaa.nsl,.int .i64 0,.int .i64 0,.int .i64 0] 0 [x,.int .i64 s.a,.int .i64 s.b,.int .i64 c]=[x,.int .i64 s.a,.int .i64 s.b,.int .i64 c]:=fun x c=>rfl
  have hpt:∀ (x:zaa) (c:Int),zb2 true [x,.int .i64 s.a,.int .i64 s.b,.int .i64 c] 0 4=some (.agg [x,.int .i64 s.a,.int .i64 s.b,.int .i64 c]):=fun x c=>rfl
  have hst : ∀ (L : Lim) (H : zab) (p x : zaa) (c : Int), stK L H 4 p (.agg [x, .int .i64 s.a, .int .i64 s.b, .int .i64 c]) = stM (zc2 L H p [x, .int .i64 s.a, .int .i64 s.b, .int .i64 c]) := fun L H p x c => by
    simp [stK,zaa.cells,zaa.okV]
  have hfz:∀ A B:List zaa,frz (hx h (A :: B :: (js++[cI .u8 (zpK s.S)])) []) h.blks.length h.toks.length 12 (.agg [sA h.blks.length (js.length+1+1) 0 1 200 none,.int .i64 s.a,.int .i64 s.b,.int .i64 c2])=
      some (.agg [.vsl false (eI .u8 (zpK s.S)),.int .i64 s.a,.int .i64 s.b,.int .i64 c2]):=fun A B=>by
    have e:=zEB h (A :: B :: (js++[cI .u8 (zpK s.S)])) [] h.toks.length 10 (js.length+1+1) 200 none .u8 (zpK s.S) (by simp) (by rw [htl];exact Nat.le_refl _)
    rw [List.take_of_length_le (by rw [htl];exact Nat.le_refl _)] at e
    generalize hx h (A :: B :: (js++[cI .u8 (zpK s.S)])) []=H at*
    have hfl:zdE [sA h.blks.length (js.length+1+1) 0 1 200 none,zaa.int .i64 s.a,.int .i64 s.b,.int .i64 c2]=false:=by simp [zdE,zaa.flat,sA]
    have fi:∀ a:Int,frz H h.blks.length h.toks.length (10+1) (.int .i64 a)=some (.int .i64 a):=fun a=>by rw [frz.eq_def]
    have hg:frz H h.blks.length h.toks.length 12 (.agg [sA h.blks.length (js.length+1+1) 0 1 200 none,.int .i64 s.a,.int .i64 s.b,.int .i64 c2])=
        ([sA h.blks.length (js.length+1+1) 0 1 200 none,zaa.int .i64 s.a,.int .i64 s.b,.int .i64 c2].mapM (frz H h.blks.length h.toks.length (10+1))).map .agg:=by
      rw [frz.eq_def]
      simp only [hfl]
      rfl
    rw [hg]
    simp only [List.mapM_cons,List.mapM_nil,e,fi]
    rfl
  simp only [zak] at hB
  simp -implicitDefEqProofs [zeM,zak,hf,hO,hP,zbX,hcl,hok,q0,hB,hset,hsl,w1,hpt,hst,hset2,hfz]
end Go.Av
namespace Go.Av
theorem zAh {s:Sp} (hb:s.b=136):zxy s=⟨zpK s.S,0,1,s.c+1⟩∧zR9 s=gd (zpK s.S) 0 0:=by
  unfold zxy zR9 zMW;rw [if_pos hb];exact ⟨rfl,rfl⟩
theorem zAi {s:Sp} (hb:¬s.b=136):zxy s=⟨s.S,s.a,s.b+1,s.c⟩∧zR9 s=gd s.S 0 s.b:=by
  unfold zxy zR9 zMW;rw [if_neg hb];exact ⟨rfl,rfl⟩
theorem zEt (s:Sp):∀ n,(zd5 s n).c≤s.c+n
  | 0=>Nat.le_refl _
  | n + 1 => by
    have:=zEt s n
    rw [zd5]
    by_cases hb:(zd5 s n).b=136
    · rw [(zAh hb).1];simp only [];omega
    · rw [(zAi hb).1];simp only [];omega
theorem zHg {fr:Fr} {h:zab} {R:Option (AEx × Fr × zab)} (s:Sp) (hs:s.ok) (N:Int) (n:Nat) (hN:n=N.toNat) (hn:n < 1000000) (hc:s.c < 1000000000) (z:List zaa)
    (hF:run ctx (zak h) (.loop zaT) fr (hx h [spC s,z] [])=R)
    (h1:fr 1=.int .i64 N) (h2:fr 2=pA h.blks.length 0 0) (h6:fr 6=.vsl true []) (h7:fr 7=.int .i64 0):
    ∃ fr',R=some (.exit 0,fr',hx h [spC (zd5 s n),z] (gT (eI .u8 (zpl s n))))∧fr' 6=gL (.vsl true []) h.toks.length 0 (eI .u8 (zpl s n))∧∀ t,t∉wr zaT→fr' t=fr t:=by
  obtain ⟨e,fr',h',rfl,⟨rfl,rfl,g6⟩,hk⟩:=zaf hF n
    (fun k fr hh=>fr 7=.int .i64 k∧hh=hx h [spC (zd5 s k),z] (gT (eI .u8 (zpl s k)))∧fr 6=gL (.vsl true []) h.toks.length 0 (eI .u8 (zpl s k)))
    (fun e fr hh=>e=.exit 0∧hh=hx h [spC (zd5 s n),z] (gT (eI .u8 (zpl s n)))∧fr 6=gL (.vsl true []) h.toks.length 0 (eI .u8 (zpl s n)))
    ⟨h7,rfl,h6⟩ (by
      rintro k fr1 hh hkN hkeep ⟨g7,rfl,g6⟩
      have g1:=(hkeep 1 (by decide)).trans h1
      have g2:=(hkeep 2 (by decide)).trans h2
      by_cases hlt:k < n
      · have hltI : (k : Int) < N := by omega
        have w0:IntKind.i64.wrap ((k:Int)+1)=k+1:=wrap_i64 (by omega) (by omega)
        have hok:=zzF hs k
        have hck:=zEt s k
        have hsn:=zBB s k
        have hll:=zFb s k
        obtain ⟨o1,o2,o3,o4⟩:=hok
        have hgs:zd5 s (k+1)=zxy (zd5 s k):=rfl
        have hroom:((zpl s k).length+1 < zam):=by rw [hll];unfold zam;omega
        have hap:=fun v=>zsJ (zak h) h [spC (zxy (zd5 s k)),z] 1 true (eI .u8 (zpl s k)) (eI .u8 [v]) (by simp [zak,hroom])
        have hap2:=fun cs v=>zsJ (zak h) h [cs,z] 1 true (eI .u8 (zpl s k)) (eI .u8 [v]) (by simp [zak,hroom])
        generalize zpl s k=l at*
        generalize zd5 s k=q at*
        by_cases hb:q.b=136
        · obtain ⟨e1,e2⟩:=zAh hb
          rw [e1] at hgs
          rw [e2] at hsn
          have hT:=fun L h=>zNT L h q o1 (by omega)
          have htl:(zpK q.S).length=200:=zvp _
          have ia:=znQ .u8 .i64 false (zpK q.S) 0 (decide_eq_true (by omega))
          obtain ⟨S,a,b,c⟩:=q
          simp only at*
          subst hb
          simp only [spC,Int.natCast_zero,Int.cast_ofNat_Int] at hT ia
          simp only [zak] at hap2
          generalize zpK S=S1 at*
          generalize c+1=c1 at*
          simp [zaT,zak,g1,g2,g6,g7,hltI,w0,spC,hT,zaj,zbp,zai,zah,ia,zaA,rep,chunks,zly,hap2,hsn,hgs,hlt,show IntKind.i64.wrap 1=1 by decide]
        · obtain ⟨e1,e2⟩:=zAi hb
          rw [e1] at hgs
          rw [e2] at hsn
          have hbI:((q.b:Int)==136)=false:=beq_false_of_ne (by omega)
          have ia:=znQ .u8 .i64 false q.S q.b (decide_eq_true (by omega))
          have w1:IntKind.i64.wrap ((q.b:Int)+1)=((q.b+1:Nat):Int):=(wrap_i64 (by omega) (by omega)).trans (by omega)
          obtain ⟨S,a,b,c⟩:=q
          simp only at*
          simp only [zak] at hap2
          generalize b+1=b1 at*
          simp [zaT,zak,g1,g2,g6,g7,hltI,w0,w1,spC,hbI,zaj,zbp,zai,zah,ia,zaA,rep,chunks,zly,hap2,hsn,hgs,hlt,show IntKind.i64.wrap 1=1 by decide]
      · have : k = n := by omega
        subst this
        have hltI:¬(k:Int) < N:=by omega
        simp [zaT,g1,g6,g7,hltI])
  exact ⟨fr',rfl,g6,hk⟩
theorem zLg (hh:zab) (nb nt m:Nat) (s:Sp):frz hh nb nt (m+2) (.agg (spC s))=some (.agg (spC s)):=by
  have hfl:zdE (spC s)=false:=by simp [spC,zdE,zaa.flat]
  have hg:frz hh nb nt (m+2) (.agg (spC s))=((spC s).mapM (frz hh nb nt (m+1))).map .agg:=by
    rw [frz.eq_def]
    simp only [hfl]
    rfl
  have fi:∀ a:Int,frz hh nb nt (m+1) (.int .i64 a)=some (.int .i64 a):=fun a=>by rw [frz.eq_def]
  rw [hg]
  simp only [spC,List.mapM_cons,List.mapM_nil,zPz,fi]
  rfl
theorem zOp (L:Lim) (h:zab) (s:Sp) (hs:s.ok) (N:Int) (n:Nat) (hN:n=N.toNat) (hn:n < 1000000) (hc:s.c < 1000000000):
    zag ctx L zcZ [.agg (spC s),.int .i64 N] h=some (.tup [.agg (spC (zd5 s n)),.vsl false (eI .u8 (zpl s n))],h):=by
  rw [zk3]
  have hf:=zEg h s
  have hlo:=fun fr R z=>zHg (fr:=fr) (h:=h) (R:=R) s hs N n hN hn hc z
  have hok:(zaa.agg (spC s)).okV=true:=zii _
  have hcl:(zaa.agg (spC s)).cells=spC s:=by simp only [zaa.cells]
  have l1:(spC (zd5 s n)).length=4:=rfl
  have hz:spC ⟨[],0,0,0⟩=[.vsl false [],.int .i64 0,.int .i64 0,.int .i64 0]:=rfl
  have hfl:=zEg h (zd5 s n)
  have hfr:=fun hh nb nt m=>zLg hh nb nt m (zd5 s n)
  generalize spC (zd5 s n)=q1 at*
  generalize zpl s n=l at*
  generalize spC s=q at*
  simp -implicitDefEqProofs [zeJ,zak,hf,zbX,hok,hcl,zaA,rep,chunks]
  generalize hF:run ctx _ (.loop _) _ _=R
  obtain ⟨fr1,rfl,f6,hk1⟩:=hlo _ _ _ hF (by simp) (by simp) (by simp) (by simp)
  have hg:=fun hh n=>zrM (h1:=hh) (nb:=h.blks.length) (nt:=h.toks.length) (n:=n) (s:=.vsl true []) (es:=eI .u8 l) (.inr rfl) (by simp)
  simp -implicitDefEqProofs [hk1,wr,zaT,zbM,zaj,l1,zbp,zai,f6,hg,hfr]
end Go.Av
namespace Go.Av
structure Fp where
  S:List Nat
  a:Nat
  b:Nat
  c:Nat
def zrN (K S:List Nat):List Nat:=zfi K S 65
def zw0 (K:List Nat) (s:Fp):Fp:=if s.b=2 then ⟨zrN K s.S,0,0,s.c+1⟩ else s
def zrO (K:List Nat) (s:Fp):Fp:={zw0 K s with b:=(zw0 K s).b+1}
def zxW (K:List Nat) (s:Fp):Nat:=gd (zw0 K s).S 0 (zw0 K s).b
def zaw (K:List Nat) (s:Fp):Nat→Fp
  | 0=>s
  | n+1=>zrO K (zaw K s n)
def zlB (K:List Nat) (s:Fp) (n:Nat):List Nat:=tab n fun k=>zxW K (zaw K s k)
def Fp.ok (s:Fp):Prop:=s.S.length=3∧(∀ i,gd s.S 0 i < pN)∧s.a≤2∧s.b≤2
theorem zvF (K S:List Nat):(zrN K S).length=3:=zyr _ _ _
theorem zLr (K S:List Nat) (i:Nat):gd (zrN K S) 0 i < pN:=zBc _ _ _ i
theorem znI {K:List Nat} {s:Fp} (hb:s.b=2):zrO K s=⟨zrN K s.S,0,1,s.c+1⟩∧zxW K s=gd (zrN K s.S) 0 0:=by
  unfold zrO zxW zw0;rw [if_pos hb];exact ⟨rfl,rfl⟩
theorem zjV {K:List Nat} {s:Fp} (hb:¬s.b=2):zrO K s=⟨s.S,s.a,s.b+1,s.c⟩∧zxW K s=gd s.S 0 s.b:=by
  unfold zrO zxW zw0;rw [if_neg hb];exact ⟨rfl,rfl⟩
theorem zCJ {K:List Nat} {s:Fp} (h:s.ok):(zrO K s).ok∧zxW K s < pN:=by
  obtain ⟨h1,h2,h3,h4⟩:=h
  by_cases hb:s.b=2
  · obtain ⟨e1,e2⟩:=znI (K:=K) hb
    rw [e1,e2]
    exact ⟨⟨zvF _ _,zLr _ _,by simp,by simp⟩,zLr _ _ _⟩
  · obtain ⟨e1,e2⟩:=zjV (K:=K) hb
    rw [e1,e2]
    exact ⟨⟨h1,h2,h3,by simp only [];omega⟩,h2 _⟩
theorem zqw {K:List Nat} {s:Fp} (h:s.ok):∀ n,(zaw K s n).ok
  | 0=>h
  | n+1=>(zCJ (zqw h n)).1
theorem zAu (K:List Nat) (s:Fp):∀ n,(zaw K s n).c≤s.c+n
  | 0=>Nat.le_refl _
  | n + 1 => by
    have:=zAu K s n
    rw [zaw]
    by_cases hb:(zaw K s n).b=2
    · rw [(znI hb).1];simp only [];omega
    · rw [(zjV hb).1];simp only [];omega
theorem zCM (K:List Nat) (s:Fp) (n:Nat):(zlB K s n).length=n:=by simp [zlB]
theorem zyI (K:List Nat) (s:Fp) (n:Nat):zlB K s (n+1)=zlB K s n++[zxW K (zaw K s n)]:=by
  simp only [zlB];rw [← zig]
end Go.Av
namespace Go.Av
def NbS (es:List (List zaa)) (l:List Nat):Prop:=NbE es l∧zh1 1 es=true∧∀ nb nt,zaq nb nt es=true
theorem NbS.nbL (l:List Nat):NbS (nbL l) l:=⟨NbE.nbL l,zvE l,fun nb nt=>zdN nb nt l⟩
def fpC (l:List Nat) (es:List (List zaa)) (s:Fp):List zaa:=[.vsl false (nbL l),zey,.vsl false es,.int .i64 s.a,.int .i64 s.b,.int .i64 s.c]
theorem zLu (h:zab) (l:List Nat) (es:List (List zaa)) (s:Fp):fzA h (.agg (fpC l es s))=some (.agg (fpC l es s),false):=by
  obtain ⟨m,hM,_,_⟩:=zdy
  simp [fzA,zdE,zaa.flat,fpC,hM]
theorem zEx (hh:zab) (nb nt m:Nat) (l:List Nat) (es:List (List zaa)) (s:Fp) (hu:∀ nb nt,zaq nb nt es=true):frz hh nb nt (m+2) (.agg (fpC l es s))=some (.agg (fpC l es s)):=by
  obtain ⟨M,hM,hMu,_⟩:=zdy
  have hfl:zdE (fpC l es s)=false:=by simp [fpC,zdE,zaa.flat]
  have hg:frz hh nb nt (m+2) (.agg (fpC l es s))=((fpC l es s).mapM (frz hh nb nt (m+1))).map .agg:=by
    rw [frz.eq_def]
    simp only [hfl]
    rfl
  have fi:∀ a:Int,frz hh nb nt (m+1) (.int .i64 a)=some (.int .i64 a):=fun a=>by rw [frz.eq_def]
  have f1:=zhq hh nb nt m false (zdN nb nt l)
  have f2:=zhq hh nb nt m false (hu nb nt)
  have f3:=zhq hh nb nt m false (hMu nb nt)
  rw [hg]
  simp only [fpC,List.mapM_cons,List.mapM_nil,f1,f2,hM,f3,fi]
  rfl
theorem zOD (L:Lim) (h:zab) (l:List Nat) (hl:l.length=195) (hlp:∀ i,gd l 0 i < pN) (es:List (List zaa)) (s:Fp) (hes:NbS es s.S) (hs:s.S.length=3) (hsp:∀ i,gd s.S 0 i < pN) (hc:s.c < 1000000000):
    zag ctx L zbK [.agg (fpC l es s)] h=some (.agg (fpC l (nbL (zrN (l++zae) s.S)) ⟨zrN (l++zae) s.S,s.a,s.b,s.c+1⟩),h):=by
  rw [zkB]
  have hf:=zLu h l es s
  have hP:=fun L h=>zDu L h (.vsl false es) s.S l (NbU.of _ hes.1) hs hsp hl hlp
  have w1:IntKind.i64.wrap ((s.c:Int)+1)=((s.c+1:Nat):Int):=(wrap_i64 (by omega) (by omega)).trans (by omega)
  have hfr:=fun hh nb nt m=>zEx hh nb nt m l (nbL (zrN (l++zae) s.S)) ⟨zrN (l++zae) s.S,s.a,s.b,s.c+1⟩ (fun nb nt=>zdN nb nt _)
  rw [show zfi (l++zae) s.S 65=zrN (l++zae) s.S from rfl] at hP
  have hun:=zdN 0 0 (zrN (l++zae) s.S)
  have hul:=zdN 0 0 l
  have hue:=hes.2.2 0 0
  obtain ⟨M,hM,hMu,_⟩:=zdy
  have hMu0:=hMu 0 0
  have ht:zlC l=.agg [.vsl false (nbL l),.vsl false M]:=by unfold zlC;rw [hM]
  rw [ht] at hP
  generalize nbL (zrN (l++zae) s.S)=n1 at*
  simp only [fpC,hM] at hf hfr ⊢
  generalize nbL l=nl at*
  generalize ((s.c+1:Nat):Int)=c2 at*
  have hokv:∀ cs,(zaa.agg cs).okV=true:=zii
  have hcl:∀ cs,(zaa.agg cs).cells=cs:=fun cs=>by simp only [zaa.cells]
  have p02:∀ x a b c:zaa,zb2 true [zaa.vsl false nl,.vsl false M,x,a,b,c] 0 2=some (.agg [.vsl false nl,.vsl false M]):=fun x a b c=>rfl
  simp -implicitDefEqProofs [zeu,zak,hf,zbX,hokv,hcl,p02,hP,zaj,zbp,zai,setAt,zah,zap,zaa.under,hun,hul,hMu0,w1,hfr]
end Go.Av
namespace Go.Av
theorem zPR (L:Lim) (h:zab) (x:zaa) (cp:Bool) (b:List Int) (hx1:fzA h x=some (.vsl false (eI .u8 b),cp)) (hl:b.length=200) (hb:inB b):
    zag ctx L zhi [x] h=some (.tup [.agg (cW (ze2 b)),.int .i64 0],h):=by
  rw [zsD]
  have hW:=fun L h=>zzN L h (.vsl false (eI .u8 b)) b (RdI.vsl _ _ _ _) (by omega)
  rw [hl,zHK b hb hl] at hW
  have hwl:(ze2 b).length=25:=zet b
  have h2a:=zKg 25 false (ze2 b) (by decide) (by rw [hwl];decide)
  rw [List.take_of_length_le (by omega)] at h2a
  have hfl:(zaa.tup [.agg (cW (ze2 b)),.int .i64 0]).flat=true:=by simp [zaa.flat,zdE]
  have hend:=fun h=>zAU h _ hfl
  generalize ze2 b=w at*
  cases cp <;> simp -implicitDefEqProofs [zke,zak,hx1,hl,hW,h2a,zaI,zaj,hwl,zbp,zai,hend]
theorem zIp {α:Type} (m l:List α) (h:m.length=l.length):putAt m 0 l=l:=by
  unfold putAt;simp;omega
theorem zIq (L:Lim) (h:zab) (bs:List (List zaa)) (ts:List Nat) (i n:Nat) (cap:Option Nat) (k:IntKind) (l m:List Int) (y:zaa) (hy:zaK (hx h bs ts) 1 y=some (eI k l)) (hb:bs[i]?=some (cI k m))
    (hl:l.length=n) (hm:m.length=n) (hL:L.rob≤h.blks.length):
    zxI L (hx h bs ts) 1 (sA h.blks.length i 0 1 n cap) y=some (.int .i64 n,hx h (bs.set i (cI k l)) ts):=by
  have:=zKl L h bs ts i 0 n cap k l m y hy hb (by omega) hL
  rw [hl,Nat.min_self,List.take_of_length_le (by omega),zIp _ _ (by omega)] at this
  exact this
theorem zMb (L:Lim) (h:zab) (bs:List (List zaa)) (ts:List Nat) (j:Nat) (cap:Option Nat) (S:List Int) (hS:S.length=200) (hb:inB S) (hj:bs[j]?=some (cI .u8 S)) (hL:L.rob≤h.blks.length):
    zag ctx L zcy [.agg [],sA h.blks.length j 0 1 200 cap] (hx h bs ts)=some (.tup [],hx h (bs.set j (cI .u8 (zpK S))) ts):=by
  rw [zms]
  obtain ⟨hjl,_⟩:=List.getElem?_eq_some_iff.1 hj
  have hf:=zH8 h bs ts j 200 cap .u8 S hj hS
  have hK:=fun L=>zPR L _ _ true S hf hS hb
  have hP:=fun L h=>zuf L h (ze2 S) (zet S)
  have hB:=fun L h=>zyi L h (zmk (ze2 S)) (by rw [zfv];exact zet S)
  rw [show zbQ (zmk (ze2 S))=zpK S from rfl] at hB
  have l1:(ze2 S).length=25:=zet S
  have l2:(zmk (ze2 S)).length=25:=by rw [zfv];exact l1
  have l3:(zpK S).length=200:=zvp S
  have hbox:zzh (.agg [])=some (.vptr [] 0):=rfl
  have hsl:=zg6 200 1 h.blks.length (bs.length+1) 0 (by decide)
  have hel : ∀ w : List zaa, zaK (hx h (bs ++ [w, cI .u8 (zpK S)]) ts) 1 (sA h.blks.length (bs.length + 1) 0 1 200 (some 200)) = some (eI .u8 (zpK S)) := fun w => by
    have:=zqE h (bs++[w,cI .u8 (zpK S)]) ts (bs.length+1) 200 (cI .u8 (zpK S)) (some 200) (by rw [List.getElem?_append_right (by omega)];simp) (by simp)
    rw [this,zlW]
  have hcp : ∀ (L : Lim) (w : List zaa), L.rob ≤ h.blks.length → zxI L (hx h (bs ++ [w, cI .u8 (zpK S)]) ts) 1 (sA h.blks.length j 0 1 200 cap) (sA h.blks.length (bs.length + 1) 0 1 200 (some 200)) = some (.int .i64 200, hx h (bs.set j (cI .u8 (zpK S)) ++ [w, cI .u8 (zpK S)]) ts) := fun L w hL => by
    have:=zIq L h (bs++[w,cI .u8 (zpK S)]) ts j 200 cap .u8 (zpK S) S _ (hel w) (by rw [List.getElem?_append_left hjl];exact hj) l3 hS hL
    rw [this,List.set_append_left _ _ hjl];rfl
  generalize zpK S=T at*
  generalize zmk (ze2 S)=p at*
  generalize ze2 S=w at*
  have htr:=fun js=>zjH h (bs.set j (cI .u8 T)) js ts bs.length (by simp)
  have hg0:=fun x=>zaO bs [x] bs.length 0 rfl
  have hg1:=fun x y=>zaO bs [x,y] bs.length 0 rfl
  have hg2:=fun x y=>zaO bs [x,y] bs.length 1 rfl
  have hs0:=fun x v=>zbY bs [x] bs.length 0 v rfl
  have hs1:=fun x y v=>zbY bs [x,y] bs.length 1 v rfl
  simp only [Nat.add_zero,List.getElem?_cons_zero,List.getElem?_cons_succ,List.set_cons_zero,List.set_cons_succ] at hg0 hg1 hg2 hs0 hs1
  simp -implicitDefEqProofs [zfF,za5,zaQ,hbox,hK,zaI,zjs,zbp,zai,zah,hL,hP,hB,l1,l2,l3,hg0,hg1,hg2,hs0,hs1,zaj,hsl,hcp,htr]
def spO (n j:Nat) (s:Sp):List zaa:=[.iface 101 (.agg []),sA n j 0 1 200 (some 200),.int .i64 s.a,.int .i64 s.b,.int .i64 s.c]
def sp2 (bs:List (List zaa)) (i j:Nat) (x y:List zaa):List (List zaa):=(bs.set i x).set j y
@[simp] theorem zWP (bs:List (List zaa)) (i j:Nat) (x y:List zaa):(sp2 bs i j x y).length=bs.length:=by simp [sp2]
theorem zTe {bs:List (List zaa)} {i j:Nat} (hi:i < bs.length) (hij:i≠j) (x y:List zaa):(sp2 bs i j x y)[i]?=some x:=by
  unfold sp2;rw [List.getElem?_set_ne (Ne.symm hij),List.getElem?_set_self hi]
theorem zTf {bs:List (List zaa)} {i j:Nat} (hj:j < bs.length) (x y:List zaa):(sp2 bs i j x y)[j]?=some y:=by
  unfold sp2;rw [List.getElem?_set_self (by simpa using hj)]
theorem zOO {bs:List (List zaa)} {i j:Nat} (hij:i≠j) (x y x':List zaa):(sp2 bs i j x y).set i x'=sp2 bs i j x' y:=by
  unfold sp2;rw [List.set_comm _ _ (Ne.symm hij),List.set_set]
theorem zOP {bs:List (List zaa)} {i j:Nat} (x y y':List zaa):(sp2 bs i j x y).set j y'=sp2 bs i j x y':=by
  unfold sp2;rw [List.set_set]
theorem zOQ (h:zab) (bs:List (List zaa)) (ts us:List Nat) (i j:Nat) (x y:List zaa):zit (hx h (sp2 bs i j x y) (ts++us)) (h.blks.length+bs.length) (h.toks.length+ts.length)=hx h (sp2 bs i j x y) ts:=by
  unfold zit hx
  simp only
  rw [List.take_of_length_le (by simp),← List.append_assoc,List.take_left' (by simp)]
theorem zPV (h:zab) (bs:List (List zaa)) (ts:List Nat) (i j:Nat) (x y:List zaa):zit (hx h (sp2 bs i j x y) ts) (h.blks.length+bs.length) (h.toks.length+ts.length)=hx h (sp2 bs i j x y) ts:=by
  have:=zOQ h bs ts [] i j x y
  rwa [List.append_nil] at this
def spH (bs:List (List zaa)) (i j n:Nat) (s:Sp):List (List zaa):=sp2 bs i j (spO n j s) (cI .u8 s.S)
theorem zDk (L:Lim) (h:zab) (bs:List (List zaa)) (ts:List Nat) (i j:Nat) (s:Sp) (hs:s.ok) (hc:s.c < 1000000000) (hi:i < bs.length) (hj:j < bs.length) (hij:i≠j) (hL:L.rob≤h.blks.length):
    zag ctx L zca [pA h.blks.length i 0] (hx h (spH bs i j h.blks.length s) ts)=some (.tup [],hx h (spH bs i j h.blks.length (zBi s)) ts):=by
  rw [zjC]
  unfold spH
  have g1:=zTe hi hij
  have g2:=zTf (i:=i) hj
  have g3:=zOO (bs:=bs) hij
  have g4:=zOP (bs:=bs) (i:=i) (j:=j)
  have g5:=zPV h bs ts i j
  have hP:=fun L hL x=>zMb L h (sp2 bs i j x (cI .u8 s.S)) ts j (some 200) s.S hs.1 hs.2.1 (g2 x _) hL
  simp only [g4] at hP
  have w1:IntKind.i64.wrap ((s.c:Int)+1)=((s.c+1:Nat):Int):=(wrap_i64 (by omega) (by omega)).trans (by omega)
  have e1:spO h.blks.length j (zBi s)=[.iface 101 (.agg []),sA h.blks.length j 0 1 200 (some 200),.int .i64 0,.int .i64 s.b,.int .i64 ((s.c+1:Nat):Int)]:=rfl
  have e2:spO h.blks.length j s=[.iface 101 (.agg []),sA h.blks.length j 0 1 200 (some 200),.int .i64 s.a,.int .i64 s.b,.int .i64 s.c]:=rfl
  rw [e1,e2,show (zBi s).S=zpK s.S from rfl]
  generalize ((s.c+1:Nat):Int)=c2 at*
  simp -implicitDefEqProofs [zdG,za5,zaQ,g1,g2,g3,g4,g5,hP,hL,zah,w1,setAt]
end Go.Av
namespace Go.Av
theorem zET (L:Lim) (h:zab):zag ctx L zdK [.agg []] h=some (.int .i64 136,h):=by
  have hf:fzA h (.agg [])=some (.agg [],false):=rfl
  rw [zo7];simp [zhC,zzh,zaa.okV,zaa.cells,hf]
theorem zIC (L:Lim) (h:zab):zag ctx L zdf [.agg []] h=some (.int .i64 200,h):=by
  have hf:fzA h (.agg [])=some (.agg [],false):=rfl
  rw [zol];simp [zgW,zzh,zaa.okV,zaa.cells,hf]
theorem zTi (s:zaa) (n m:Nat) (es:List (List zaa)):gL s (n+m) 0 es=gL s n m es:=by
  unfold gL;split
  · rfl
  · rw [zQ6,Nat.add_zero]
theorem zy6 {L:Lim} {fr:Fr} {h:zab} {R:Option (AEx × Fr × zab)} (bs:List (List zaa)) (ts:List Nat) (i j:Nat) (s:Sp) (hs:s.ok) (N:Int) (n:Nat) (hN:n=N.toNat) (hn:n < 1000000) (hc:s.c < 100000000)
    (hi:i < bs.length) (hj:j < bs.length) (hij:i≠j) (hL:L.rob≤h.blks.length) (hT:L.rot≤h.toks.length)
    (hF:run ctx L (.loop zbc) fr (hx h (spH bs i j h.blks.length s) ts)=R)
    (h0:fr 0=pA h.blks.length i 0) (h7:fr 7=.int .i64 N) (h5:fr 5=.nsl) (h8:fr 8=.int .i64 0):
    ∃ fr',R=some (.exit 0,fr',hx h (spH bs i j h.blks.length (zd5 s n)) (ts++gT (eI .u8 (zpl s n))))∧fr' 5=gL .nsl h.toks.length ts.length (eI .u8 (zpl s n)):=by
  obtain ⟨e,fr',h',rfl,⟨rfl,rfl,g5⟩,hk⟩:=zaf hF n
    (fun k fr hh=>fr 8=.int .i64 k∧hh=hx h (spH bs i j h.blks.length (zd5 s k)) (ts++gT (eI .u8 (zpl s k)))∧fr 5=gL .nsl h.toks.length ts.length (eI .u8 (zpl s k)))
    (fun e fr hh=>e=.exit 0∧hh=hx h (spH bs i j h.blks.length (zd5 s n)) (ts++gT (eI .u8 (zpl s n)))∧fr 5=gL .nsl h.toks.length ts.length (eI .u8 (zpl s n)))
    ⟨h8, by simp [zd5, zpl, tab, gT], h5⟩ (by
      rintro k fr1 hh hkN hkeep ⟨g8,rfl,g5⟩
      have g0:=(hkeep 0 (by decide)).trans h0
      have g7:=(hkeep 7 (by decide)).trans h7
      by_cases hlt:k < n
      · have hltI : (k : Int) < N := by omega
        have w0:IntKind.i64.wrap ((k:Int)+1)=k+1:=wrap_i64 (by omega) (by omega)
        have hok:=zzF hs k
        have hck:=zEt s k
        have hsn:=zBB s k
        have hll:=zFb s k
        have hgs:zd5 s (k+1)=zxy (zd5 s k):=rfl
        have hroom:((zpl s k).length+1 < zam):=by rw [hll];unfold zam;omega
        have hap:=fun bs' v=>zKm L h bs' ts 1 true (eI .u8 (zpl s k)) (eI .u8 [v]) (by simp [hT,hroom])
        have hst:=fun q=>spH bs i j h.blks.length q
        have g1:=zTe hi hij
        have g2:=zTf (i:=i) hj
        have g3:=zOO (bs:=bs) hij
        have g4:=zOP (bs:=bs) (i:=i) (j:=j)
        generalize zpl s k=l at*
        generalize zd5 s k=q at*
        have hP:=fun ts=>zDk L h bs ts i j q hok (by omega) hi hj hij hL
        obtain ⟨o1,o2,o3,o4⟩:=hok
        have hR:=zET
        by_cases hb:q.b=136
        · obtain ⟨e1,e2⟩:=zAh hb
          rw [e1] at hgs
          rw [e2] at hsn
          have htl:(zpK q.S).length=200:=zvp _
          have ia:=ztZ h.blks.length j 0 1 200 0 (some 200) .i64 (by decide)
          have gt:=zQz (k:=.u8) (l:=zpK q.S) (i:=0) (by omega)
          obtain ⟨S,a,b,c⟩:=q
          simp only at*
          subst hb
          simp only [spH,spO,zBi,Int.natCast_zero,Int.cast_ofNat_Int] at*
          generalize zpK S=S1 at*
          generalize c+1=c1 at*
          simp -implicitDefEqProofs [zbc,g0,g5,g7,g8,hltI,w0,hP,hR,g1,g2,g3,g4,zah,hL,setAt,ia,gt,zat,zaA,rep,chunks,zly,hap,hsn,hgs,hlt,show IntKind.i64.wrap 1=1 by decide]
        · obtain ⟨e1,e2⟩:=zAi hb
          rw [e1] at hgs
          rw [e2] at hsn
          have hbI:((q.b:Int)==136)=false:=beq_false_of_ne (by omega)
          have ia:=ztZ h.blks.length j 0 1 200 q.b (some 200) .i64 (decide_eq_true (by omega))
          have gt:=zQz (k:=.u8) (l:=q.S) (i:=q.b) (by omega)
          have w1:IntKind.i64.wrap ((q.b:Int)+1)=((q.b+1:Nat):Int):=(wrap_i64 (by omega) (by omega)).trans (by omega)
          obtain ⟨S,a,b,c⟩:=q
          simp only [spH,spO] at*
          generalize b+1=b1 at*
          simp -implicitDefEqProofs [zbc,g0,g5,g7,g8,hltI,w0,w1,hbI,hR,g1,g2,g3,g4,zah,hL,setAt,ia,gt,zat,zaA,rep,chunks,zly,hap,hsn,hgs,hlt,show IntKind.i64.wrap 1=1 by decide]
      · have : k = n := by omega
        subst this
        have hltI:¬(k:Int) < N:=by omega
        simp [zbc,g5,g7,g8,hltI])
  exact ⟨fr',rfl,g5⟩
theorem zDm (L:Lim) (h:zab) (bs:List (List zaa)) (ts:List Nat) (i j:Nat) (s:Sp) (hs:s.ok) (N:Int) (n:Nat) (hN:n=N.toNat) (hn:n < 1000000) (hc:s.c < 100000000)
    (hi:i < bs.length) (hj:j < bs.length) (hij:i≠j) (hL:L.rob≤h.blks.length) (hT:L.rot≤h.toks.length):
    zag ctx L zbh [pA h.blks.length i 0,.int .i64 N] (hx h (spH bs i j h.blks.length s) ts)=some (.vsl false (eI .u8 (zpl s n)),hx h (spH bs i j h.blks.length (zd5 s n)) ts):=by
  rw [zjA]
  obtain ⟨M,hM⟩:∃ M:Int,M=max N 0:=⟨_,rfl⟩
  have hmx:zu9 true (.int .i64 N) [.int .i64 0]=some (.int .i64 M):=by
    simp only [zu9,zUv,bind,Option.bind_some,if_true]
    rw [hM]
    by_cases h0:(0:Int) > N
    · rw [if_pos h0,show max N 0=0 by omega]
    · rw [if_neg h0,show max N 0=N by omega]
  have hlo:=fun fr R=>zy6 (L:=⟨L.rob,L.rot,h.blks.length+bs.length,h.toks.length+ts.length⟩) (fr:=fr) (h:=h) (R:=R) bs ts i j s hs M n (by omega) hn hc hi hj hij hL hT
  have hlen:(spH bs i j h.blks.length s).length=bs.length:=by simp [spH]
  have htr:∀ us,zit (hx h (spH bs i j h.blks.length (zd5 s n)) (ts++us)) (h.blks.length+bs.length) (h.toks.length+ts.length)=hx h (spH bs i j h.blks.length (zd5 s n)) ts:=fun us=>zOQ _ _ _ _ _ _ _ _
  have hfz:=fun hh m=>zrM (h1:=hh) (nb:=h.blks.length+bs.length) (nt:=h.toks.length+ts.length) (n:=m) (s:=.nsl) (es:=eI .u8 (zpl s n)) (.inl rfl) (by simp)
  simp only [zTi] at hfz
  generalize zpl s n=l at*
  generalize spH bs i j h.blks.length (zd5 s n)=b2 at*
  generalize spH bs i j h.blks.length s=b1 at*
  simp -implicitDefEqProofs [zdA,za5,zaQ,hlen,hmx]
  generalize hF:run ctx _ (.loop _) _ _=R
  obtain ⟨fr1,rfl,f5⟩:=hlo _ _ hF (by simp) (by simp) (by simp) (by simp)
  simp -implicitDefEqProofs [f5,hfz,htr,za5,zaQ,hlen]
theorem zIE (L:Lim) (h:zab) (p:zaa) (s:Sp) (j n:Nat) (b:Nat) (hp:p=.ptr b 0) (hb:h.blks[b]?=some (spO n j s)):zag ctx L zbI [p] h=some (.int .i64 s.c,h):=by
  rw [zky]
  subst hp
  have hl:=fun bs ts=>zk2 h bs ts b 4 1 false _ hb
  have h1:zb2 false (spO n j s) 4 1=some (.int .i64 s.c):=rfl
  simp only [h1] at hl
  have hf:fzA h (.ptr b 0)=some (.ptr b 0,false):=by simp only [fzA]
  simp -implicitDefEqProofs [zeq,hf,hl]
end Go.Av
namespace Go.Av
theorem zvZ (sz:Nat):∀ (n:Nat) (cs:List zaa),cs.length=n*sz→(chunks sz n cs).flatten=cs
  | 0, cs, h => by
    have:cs=[]:=List.eq_nil_of_length_eq_zero (by simpa using h)
    subst this;rfl
  | n + 1, cs, h => by
    rw [Nat.succ_mul] at h
    simp only [chunks,List.flatten_cons]
    rw [zvZ sz n _ (by simp;omega),List.take_append_drop]
theorem zDq (sz:Nat):∀ (n:Nat) (cs:List zaa),cs.length=n*sz→zh1 sz (chunks sz n cs)=true
  | 0,cs,h=>rfl
  | n + 1, cs, h => by
    rw [Nat.succ_mul] at h
    simp [chunks,zh1];omega
theorem zIH (h:zab) (bs:List (List zaa)) (ts:List Nat) (i n sz:Nat) (cap:Option Nat) (cs:List zaa) (hb:bs[i]?=some cs) (hl:cs.length=n*sz):zaK (hx h bs ts) sz (sA h.blks.length i 0 sz n cap)=some (chunks sz n cs):=by
  simp only [zaK,sA,hx]
  rw [List.getElem?_append_right (Nat.le_add_right _ _),Nat.add_sub_cancel_left,hb]
  simp [hl]
theorem zMp (sz n i off s m:Nat) (cap:Option Nat):zlT sz (sA n i off s m cap)=true:=rfl
theorem zP3 (L:Lim) (h:zab) (bs:List (List zaa)) (ts:List Nat) (i m n sz:Nat) (cap cap2:Option Nat) (l l':List W64) (hb:bs[i]?=some (cW l)) (hb2:bs[m]?=some (cW l')) (hl:l.length=n*sz) (hl':l'.length=n*sz) (hL:L.rob≤h.blks.length):
    zxI L (hx h bs ts) sz (sA h.blks.length i 0 sz n cap) (sA h.blks.length m 0 sz n cap2)=some (.int .i64 n,hx h (bs.set i (cW l')) ts):=by
  have he:=zIH h bs ts m n sz cap2 (cW l') hb2 (by simpa using hl')
  have hlen:(chunks sz n (cW l')).length=n:=zcK _ _ _
  have hfl:=zvZ sz n (cW l') (by simpa using hl')
  have hs:=zah h bs ts L i 0 (cW l') (by simp [hL])
  rw [hb] at hs
  simp only [zvh,zCq] at hs
  rw [decide_eq_true (by omega),zvg,zai _ _ (by simp;omega)] at hs
  unfold zxI
  rw [he]
  simp only [Option.bind_some,zDq sz n (cW l') (by simpa using hl'),zMp,and_self,if_true,hlen]
  simp only [sA,if_true,Nat.min_self]
  rw [List.take_of_length_le (by omega),hfl]
  simp only [pA] at hs
  rw [hs]
  rfl
theorem zP4 (n m i off sz len:Nat) (cap:Option Nat) (h:decide (n≤len)=true):zRp n (sA m i off sz len cap)=some (pA m i off):=by
  have:n≤len:=by simpa using h
  unfold zRp;simp [sA,pA,this]
theorem zTp {L:Lim} (fr:Fr) (h:zab) (bs:List (List zaa)) (ts:List Nat) (k j:Nat) (cap:Option Nat) (z:List zaa) (v:List Nat) (hv:v.length=3) (hk:bs[k]?=some z) (hj:bs[j]?=some (cW (feL v))) (hkj:k≠j)
    (Q:Nat × List Nat) (hQ:zcJ zlY 195=some Q) (hp:zCW (Q.2++zae) z) (hL:L.rob≤h.blks.length)
    (h1:fr 1=sA h.blks.length j 0 4 3 cap) (h2:fr 2=.vptr [pA h.blks.length k 0] 0):
    run ctx L (.draw2 [⟨(some 8),.v (.fadr 0 (.t 2)),none,[2],0,0⟩,
   ⟨(some 9),.r (.ld 1 false (.t 8)),none,[8],0,0⟩,
   ⟨(some 10),.v (.mv (.t 1)),none,[1],0,0⟩,
   ⟨(some 11),.v (.s2a 3 (.t 10)),none,[10],0,0⟩,
   ⟨(some 12),.r (.ld 12 true (.t 11)),none,[11],0,0⟩,
   ⟨(some 13),.c (.call zaB [.t 9,.t 12]),none,[9,12],0,0⟩,
   ic 4 (.alloc (zaS (.int .u64 0) 12)),
   ⟨none,.c (.st 12 (.t 4) (.t 13)),none,[4,13],0,0⟩]
  [⟨(some 8),.v (.fadr 0 (.t 2)),none,[2],0,0⟩,
   ⟨(some 9),.r (.ld 1 false (.t 8)),none,[8],0,1⟩,
   ⟨(some 10),.v (.mv (.t 1)),none,[1],0,0⟩,
   ⟨(some 11),.v (.s2a 3 (.t 10)),none,[10],0,0⟩,
   ⟨(some 12),.r (.ld 12 true (.t 11)),none,[11],0,1⟩,
   ic 4 (.alloc (zaS (.int .u64 0) 12)),
   ⟨(some 13),.c (.call zaB [.t 9,.t 12]),none,[9,12],0,0⟩,
   ⟨none,.c (.st 12 (.t 4) (.t 13)),none,[4,13],0,0⟩]
  [(0,0),(1,1),(2,2),(3,3),(4,4)]) fr (hx h bs ts)=
    some (.normal,upd (upd (upd (upd (upd (upd (upd fr 8 (.vptr [pA h.blks.length k 0] 0)) 9 (pA h.blks.length k 0)) 10 (sA h.blks.length j 0 4 3 cap)) 11 (pA h.blks.length j 0)) 12 (.agg (cW (feL v)))) 13 (.agg (cW (feL (zfi (Q.2++zae) v 65))))) 4 (pA h.blks.length bs.length 0),
      hx h (bs.set k (poF (Q.2++zae))++[cW (feL (zfi (Q.2++zae) v 65))]) ts):=by
  have hkl:=(List.getElem?_eq_some_iff.1 hk).1
  have hjl:=(List.getElem?_eq_some_iff.1 hj).1
  have hz0:zaS (zaa.int .u64 0) 12=cW (feL (tab 3 fun _=>0)):=by rw [zaI];exact congrArg cW (zps 3)
  have l0:(feL (tab 3 fun _=>0)).length=12:=by simp
  have l1:(feL v).length=12:=by simp [hv]
  have l2:(feL (zfi (Q.2++zae) v 65)).length=12:=by simp [zna _ _ hv]
  have hP1:=zKk L h bs ts k z v hv hk Q hQ hp hL
  have hP2:=fun x=>zKk L h (bs++[x]) ts k z v hv (by rw [List.getElem?_append_left hkl];exact hk) Q hQ hp hL
  simp only [List.set_append_left _ _ hkl] at hP2
  have hj2:∀ x:List zaa,(bs++[x])[j]?=some (cW (feL v)):=fun x=>by rw [List.getElem?_append_left hjl];exact hj
  have h2a:=zP4 3 h.blks.length j 0 4 3 cap (by decide)
  have hd:(bs.set k (poF (Q.2++zae))).length=bs.length:=by simp
  generalize feL (zfi (Q.2++zae) v 65)=f2 at*
  generalize feL v=f1 at*
  generalize feL (tab 3 fun _=>0)=fz at*
  generalize bs.set k (poF (Q.2++zae))=ds at*
  have hg0:=fun x=>zaO ds [x] bs.length 0 hd.symm
  have hs0:=fun x v=>zbY ds [x] bs.length 0 v hd.symm
  simp only [Nat.add_zero,List.getElem?_cons_zero,List.getElem?_cons_succ,List.set_cons_zero,List.set_cons_succ] at hg0 hs0
  simp -implicitDefEqProofs [h1,h2,hz0,l0,l1,l2,hj,hj2,h2a,hP1,hP2,zaj,zbp,zai,zah,hL,hd,hg0,hs0]
  rw [zCm]
  · simp
  · refine ⟨.inl ⟨by simp, fun t ht => ?_⟩, ?_⟩
    · have : t = 8 ∨ t = 9 ∨ t = 10 ∨ t = 11 ∨ t = 12 ∨ t = 13 ∨ t = 4 := by simpa [zbM] using ht
      rcases this with rfl | rfl | rfl | rfl | rfl | rfl | rfl <;> rfl
    · intro q hq
      simp only [List.mem_cons,List.not_mem_nil,or_false] at hq
      rcases hq with rfl | rfl | rfl | rfl | rfl <;> rfl
theorem zMs (L:Lim) (h:zab) (bs:List (List zaa)) (ts:List Nat) (k j:Nat) (cap:Option Nat) (z:List zaa) (v:List Nat) (hv:v.length=3) (hk:bs[k]?=some z) (hj:bs[j]?=some (cW (feL v))) (hkj:k≠j)
    (Q:Nat × List Nat) (hQ:zcJ zlY 195=some Q) (hp:zCW (Q.2++zae) z) (hL:L.rob≤h.blks.length):
    zag ctx L zbL [.agg [pA h.blks.length k 0],sA h.blks.length j 0 4 3 cap] (hx h bs ts)=
      some (.tup [],hx h ((bs.set k (poF (Q.2++zae))).set j (cW (feL (zrN (Q.2++zae) v)))) ts):=by
  rw [zkI]
  have hkl:=(List.getElem?_eq_some_iff.1 hk).1
  have hjl:=(List.getElem?_eq_some_iff.1 hj).1
  have h2:=fun L hL fr h1 h2=>zTp (L:=L) fr h bs ts k j cap z v hv hk hj hkj Q hQ hp hL h1 h2
  have l1:(feL v).length=3*4:=by simp [hv]
  have l2:(feL (zrN (Q.2++zae) v)).length=3*4:=by simp [zvF]
  have hbox:zzh (.agg [pA h.blks.length k 0])=some (.vptr [pA h.blks.length k 0] 0):=rfl
  have hsl:=zg6 3 4 h.blks.length bs.length 0 (by decide)
  have hd:(bs.set k (poF (Q.2++zae))).length=bs.length:=by simp
  have hjd:(bs.set k (poF (Q.2++zae)))[j]?=some (cW (feL v)):=by rw [List.getElem?_set_ne hkj];exact hj
  rw [show zfi (Q.2++zae) v 65=zrN (Q.2++zae) v from rfl] at h2
  generalize feL (zrN (Q.2++zae) v)=f2 at*
  generalize feL v=f1 at*
  generalize bs.set k (poF (Q.2++zae))=ds at*
  have hcp:=fun L hL=>zP3 L h (ds++[cW f2]) ts j bs.length 3 4 cap (some 3) f1 f2 (by rw [List.getElem?_append_left (by omega)];exact hjd) (by rw [← hd,List.getElem?_append_right (Nat.le_refl _)];simp) l1 l2 hL
  simp only [List.set_append_left _ _ (show j < ds.length by omega)] at hcp
  have htr:=fun js=>zjH h (ds.set j (cW f2)) js ts bs.length (by simp [hd])
  have hlim:(⟨L.rob,L.rot,h.blks.length+bs.length,h.toks.length+ts.length⟩:Lim).rob≤h.blks.length:=hL
  simp -implicitDefEqProofs [zep,za5,zaQ,hbox, -zyD]
  rw [h2 _ hlim _ (by simp) (by simp)]
  simp -implicitDefEqProofs [hsl,hcp,hL,htr,za5,zaQ]
end Go.Av
namespace Go.Av
def fO (n j k:Nat) (s:Fp):List zaa:=[.iface 107 (.agg [pA n k 0]),sA n j 0 4 3 (some 3),.int .i64 s.a,.int .i64 s.b,.int .i64 s.c]
def sp3 (bs:List (List zaa)) (i j k:Nat) (x y z:List zaa):List (List zaa):=((bs.set i x).set j y).set k z
@[simp] theorem zWV (bs:List (List zaa)) (i j k:Nat) (x y z:List zaa):(sp3 bs i j k x y z).length=bs.length:=by simp [sp3]
section
variable {bs:List (List zaa)} {i j k:Nat} (hi:i < bs.length) (hj:j < bs.length) (hk:k < bs.length) (hij:i≠j) (hik:i≠k) (hjk:j≠k) (x y z:List zaa)
include hi hij hik in
theorem zTC:(sp3 bs i j k x y z)[i]?=some x:=by
  unfold sp3;rw [List.getElem?_set_ne (Ne.symm hik),List.getElem?_set_ne (Ne.symm hij),List.getElem?_set_self hi]
include hj hjk in
theorem zTD:(sp3 bs i j k x y z)[j]?=some y:=by
  unfold sp3;rw [List.getElem?_set_ne (Ne.symm hjk),List.getElem?_set_self (by simpa using hj)]
include hk in
theorem zTE:(sp3 bs i j k x y z)[k]?=some z:=by
  unfold sp3;rw [List.getElem?_set_self (by simpa using hk)]
include hij hik in
theorem zOX (x':List zaa):(sp3 bs i j k x y z).set i x'=sp3 bs i j k x' y z:=by
  unfold sp3;rw [List.set_comm _ _ (Ne.symm hik),List.set_comm _ _ (Ne.symm hij),List.set_set]
include hjk in
theorem zOY (y':List zaa):(sp3 bs i j k x y z).set j y'=sp3 bs i j k x y' z:=by
  unfold sp3;rw [List.set_comm _ _ (Ne.symm hjk),List.set_set]
theorem zOZ (z':List zaa):(sp3 bs i j k x y z).set k z'=sp3 bs i j k x y z':=by
  unfold sp3;rw [List.set_set]
theorem zO0 (h:zab) (ts us:List Nat):zit (hx h (sp3 bs i j k x y z) (ts++us)) (h.blks.length+bs.length) (h.toks.length+ts.length)=hx h (sp3 bs i j k x y z) ts:=by
  unfold zit hx
  simp only
  rw [List.take_of_length_le (by simp),← List.append_assoc,List.take_left' (by simp)]
theorem zQl (h:zab) (ts:List Nat):zit (hx h (sp3 bs i j k x y z) ts) (h.blks.length+bs.length) (h.toks.length+ts.length)=hx h (sp3 bs i j k x y z) ts:=by
  have:=zO0 (bs:=bs) (i:=i) (j:=j) (k:=k) x y z h ts []
  rwa [List.append_nil] at this
end
def fH (bs:List (List zaa)) (i j k n:Nat) (s:Fp) (z:List zaa):List (List zaa):=sp3 bs i j k (fO n j k s) (cW (feL s.S)) z
def zMI (K:List Nat) (s:Fp):Fp:=⟨zrN K s.S,0,s.b,s.c+1⟩
theorem zDx (L:Lim) (h:zab) (bs:List (List zaa)) (ts:List Nat) (i j k:Nat) (s:Fp) (z:List zaa) (hs:s.S.length=3) (hc:s.c < 1000000000) (hi:i < bs.length) (hj:j < bs.length) (hk:k < bs.length) (hij:i≠j) (hik:i≠k) (hjk:j≠k)
    (Q:Nat × List Nat) (hQ:zcJ zlY 195=some Q) (hp:zCW (Q.2++zae) z) (hL:L.rob≤h.blks.length):
    zag ctx L za1 [pA h.blks.length i 0] (hx h (fH bs i j k h.blks.length s z) ts)=some (.tup [],hx h (fH bs i j k h.blks.length (zMI (Q.2++zae) s) (poF (Q.2++zae))) ts):=by
  rw [zfZ]
  unfold fH
  have g1:=zTC (bs:=bs) hi hij hik
  have g2:=zTD (bs:=bs) (i:=i) hj hjk
  have g6:=zTE (bs:=bs) (i:=i) (j:=j) hk
  have g3:=zOX (bs:=bs) hij hik
  have g4:=zOY (bs:=bs) (i:=i) hjk
  have g7:=zOZ (bs:=bs) (i:=i) (j:=j) (k:=k)
  have g5:=fun x y z=>zQl (bs:=bs) (i:=i) (j:=j) (k:=k) x y z h ts
  have hP:=fun L hL x=>zMs L h (sp3 bs i j k x (cW (feL s.S)) z) ts k j (some 3) z s.S hs (g6 x _ _) (g2 x _ _) (Ne.symm hjk) Q hQ hp hL
  simp only [g7,g4] at hP
  have w1:IntKind.i64.wrap ((s.c:Int)+1)=((s.c+1:Nat):Int):=(wrap_i64 (by omega) (by omega)).trans (by omega)
  have e1:fO h.blks.length j k (zMI (Q.2++zae) s)=[.iface 107 (.agg [pA h.blks.length k 0]),sA h.blks.length j 0 4 3 (some 3),.int .i64 0,.int .i64 s.b,.int .i64 ((s.c+1:Nat):Int)]:=rfl
  have e2:fO h.blks.length j k s=[.iface 107 (.agg [pA h.blks.length k 0]),sA h.blks.length j 0 4 3 (some 3),.int .i64 s.a,.int .i64 s.b,.int .i64 s.c]:=rfl
  rw [e1,e2,show (zMI (Q.2++zae) s).S=zrN (Q.2++zae) s.S from rfl]
  generalize feL (zrN (Q.2++zae) s.S)=f2 at*
  generalize feL s.S=f1 at*
  generalize poF (Q.2++zae)=pf at*
  generalize ((s.c+1:Nat):Int)=c2 at*
  simp -implicitDefEqProofs [zbH,za5,zaQ,g1,g2,g3,g4,g5,g6,g7,hP,hL,zah,w1,setAt]
theorem zI4 (h:zab) (n i:Nat):fzA h (.agg [pA n i 0])=some (.agg [pA n i 0],false):=by
  simp [fzA,zdE,zaa.flat,znk,pA]
theorem zEY (L:Lim) (h:zab) (n i:Nat):zag ctx L zcz [.agg [pA n i 0]] h=some (.int .i64 2,h):=by
  have hf:=zI4 h n i
  rw [zmw];simp [zfz,zzh,zaa.okV,zaa.cells,hf]
theorem zI6 (L:Lim) (h:zab) (n i:Nat):zag ctx L zcg [.agg [pA n i 0]] h=some (.int .i64 3,h):=by
  have hf:=zI4 h n i
  rw [zlS];simp [ze5,zzh,zaa.okV,zaa.cells,hf]
def eF (l:List Nat):List (List zaa):=l.map fun n=>cW (fe n)
@[simp] theorem zXR (l:List Nat):(eF l).length=l.length:=by simp [eF]
theorem zQn (l:List Nat) (n:Nat):eF l++[cW (fe n)]=eF (l++[n]):=by simp [eF]
@[simp] theorem zWX (l:List Nat):zh1 4 (eF l)=true:=by cases l <;> simp [eF,zh1]
@[simp] theorem zE0 (nb nt:Nat):∀ l:List Nat,zaq nb nt (eF l)=true
  | []=>by simp [eF,zaq]
  | x :: l => by
    have:=zE0 nb nt l
    simp only [eF] at this
    simp [eF,zaq,this,zfb (Nat.zero_le _) (Nat.zero_le _) _ (zIy (fe x))]
end Go.Av
