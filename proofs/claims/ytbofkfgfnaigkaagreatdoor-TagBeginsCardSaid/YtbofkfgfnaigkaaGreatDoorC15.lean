/- Sponges with a tag, and the law on them. -/
import Derived.Test.YtbofkfgfnaigkaaGreatDoorC14
import Derived.Test.YtbofkfgfnaigkaaGreatDoorC9
import Derived.Test.YtbofkfgfnaigkaaGreatDoorC13
import Derived.Test.YtbofkfgfnaigkaaGreatDoorC5
import Derived.Test.YtbofkfgfnaigkaaGreatDoorC10
set_option linter.unusedSimpArgs false
set_option linter.unusedVariables false
set_option maxHeartbeats 4000000
set_option maxRecDepth 20000
namespace Go.Av
theorem zDC (f:List W64) (hf:f.length=4):zaA (rep (zaS (.int .u64 0) 4) 1) [(0,4,.agg (cW f))]=some (cW f):=by
  have e:rep (zaS (zaa.int .u64 0) 4) 1=cW (tab 4 fun _=>0#64):=rfl
  rw [e]
  simp [zaA,hf,zai]
theorem zzt (f:List W64) (hf:f.length=4):chunks 4 1 (cW f)=[cW f]:=by
  simp [chunks,hf,List.take_of_length_le]
theorem zzu {L:Lim} {fr:Fr} {h:zab} {R:Option (AEx × Fr × zab)} (bs:List (List zaa)) (ts:List Nat) (i j k:Nat) (s:Fp) (z:List zaa) (hs:s.ok) (N:Int) (n:Nat) (hN:n=N.toNat) (hn:n < 1000000) (hc:s.c < 100000000)
    (hi:i < bs.length) (hj:j < bs.length) (hk:k < bs.length) (hij:i≠j) (hik:i≠k) (hjk:j≠k)
    (Q:Nat × List Nat) (hQ:zcJ zlY 195=some Q) (K:List Nat) (hK:Q.2++zae=K) (hp:zCW K z) (hL:L.rob≤h.blks.length) (hT:L.rot≤h.toks.length)
    (hF:run ctx L (.loop zaD) fr (hx h (fH bs i j k h.blks.length s z) ts)=R)
    (h0:fr 0=pA h.blks.length i 0) (h7:fr 7=.int .i64 N) (h5:fr 5=.nsl) (h8:fr 8=.int .i64 0):
    ∃ fr' z',zCW K z'∧R=some (.exit 0,fr',hx h (fH bs i j k h.blks.length (zaw K s n) z') (ts++gT (eF (zlB K s n))))∧fr' 5=gL .nsl h.toks.length ts.length (eF (zlB K s n)):=by
  obtain ⟨e,fr',h',rfl,⟨rfl,g5,z',hz',rfl⟩,hk⟩:=zaf hF n
    (fun m fr hh=>fr 8=.int .i64 m∧fr 5=gL .nsl h.toks.length ts.length (eF (zlB K s m))∧∃ z',zCW K z'∧hh=hx h (fH bs i j k h.blks.length (zaw K s m) z') (ts++gT (eF (zlB K s m))))
    (fun e fr hh=>e=.exit 0∧fr 5=gL .nsl h.toks.length ts.length (eF (zlB K s n))∧∃ z',zCW K z'∧hh=hx h (fH bs i j k h.blks.length (zaw K s n) z') (ts++gT (eF (zlB K s n))))
    ⟨h8, h5, z, hp, by simp [zaw, zlB, tab, gT, eF]⟩ (by
      rintro m fr1 hh hkN hkeep ⟨g8,g5,z',hz',rfl⟩
      have g0:=(hkeep 0 (by decide)).trans h0
      have g7:=(hkeep 7 (by decide)).trans h7
      by_cases hlt:m < n
      · have hltI : (m : Int) < N := by omega
        have w0:IntKind.i64.wrap ((m:Int)+1)=m+1:=wrap_i64 (by omega) (by omega)
        have hok:=zqw (K:=K) hs m
        have hck:=zAu K s m
        have hsn:=zyI K s m
        have hll:=zCM K s m
        have hgs:zaw K s (m+1)=zrO K (zaw K s m):=rfl
        have hroom:((zlB K s m).length+1 < zam):=by rw [hll];unfold zam;omega
        have hap:=fun bs' v=>zKm L h bs' ts 4 true (eF (zlB K s m)) [cW (fe v)] (by simp [hT,hroom])
        simp only [zQn] at hap
        have g1:=zTC (bs:=bs) hi hij hik
        have g2:=zTD (bs:=bs) (i:=i) hj hjk
        have g6:=zTE (bs:=bs) (i:=i) (j:=j) hk
        have g3:=zOX (bs:=bs) hij hik
        have g4:=zOY (bs:=bs) (i:=i) hjk
        have g9:=zOZ (bs:=bs) (i:=i) (j:=j) (k:=k)
        generalize zlB K s m=l at*
        generalize zaw K s m=q at*
        have hP:=fun ts=>zDx L h bs ts i j k q z' hok.1 (by omega) hi hj hk hij hik hjk Q hQ (by rw [hK];exact hz') hL
        rw [hK] at hP
        obtain ⟨o1,o2,o3,o4⟩:=hok
        have hR:=zEY
        have w1':IntKind.i64.wrap 1=1:=by decide
        by_cases hb:q.b=2
        · obtain ⟨e1,e2⟩:=znI (K:=K) hb
          rw [e1] at hgs
          rw [e2] at hsn
          have htl:(zrN K q.S).length=3:=zvF _ _
          have ia:=ztZ h.blks.length j 0 4 3 0 (some 3) .i64 (by decide)
          have gt:=zh9 (zrN K q.S) 0 0 rfl (by omega)
          have hsl:=zDC (fe (gd (zrN K q.S) 0 0)) rfl
          have hch:=zzt (fe (gd (zrN K q.S) 0 0)) rfl
          have hap1:=fun bs'=>hap bs' (gd (zrN K q.S) 0 0)
          obtain ⟨S,a,b,c⟩:=q
          simp only at*
          subst hb
          simp only [fH,fO,zMI,Int.natCast_zero,Int.cast_ofNat_Int] at*
          generalize zrN K S=S1 at*
          generalize c+1=c1 at*
          generalize fe (gd S1 0 0)=f0 at*
          simp -implicitDefEqProofs [zaD,g0,g5,g7,g8,hltI,w0,hP,hR,g1,g2,g3,g4,g6,g9,zah,hL,setAt,ia,gt,zat,hsl,hch,hap1,hsn,hgs,hlt,w1']
          exact ⟨_,.inl rfl,rfl⟩
        · obtain ⟨e1,e2⟩:=zjV (K:=K) hb
          rw [e1] at hgs
          rw [e2] at hsn
          have hbI:((q.b:Int)==2)=false:=beq_false_of_ne (by omega)
          have ia:=ztZ h.blks.length j 0 4 3 q.b (some 3) .i64 (decide_eq_true (by omega))
          have gt:=zh9 q.S (0+q.b*4) q.b (by omega) (by omega)
          have w1:IntKind.i64.wrap ((q.b:Int)+1)=((q.b+1:Nat):Int):=(wrap_i64 (by omega) (by omega)).trans (by omega)
          have hsl:=zDC (fe (gd q.S 0 q.b)) rfl
          have hch:=zzt (fe (gd q.S 0 q.b)) rfl
          have hap1:=fun bs'=>hap bs' (gd q.S 0 q.b)
          obtain ⟨S,a,b,c⟩:=q
          simp only [fH,fO] at*
          generalize hb1:b+1=b1 at*
          generalize hb4:0+b*4=b4 at*
          generalize fe (gd S 0 b)=f0 at*
          simp -implicitDefEqProofs [zaD,g0,g5,g7,g8,hltI,w0,w1,hbI,hR,g1,g2,g3,g4,g6,g9,zah,hL,setAt,ia,gt,zat,hsl,hch,hap1,hsn,hgs,hlt]
          exact ⟨_,hz',rfl⟩
      · have : m = n := by omega
        subst this
        have hltI:¬(m:Int) < N:=by omega
        simp [zaD,g5,g7,g8,hltI]
        exact ⟨z',hz',rfl⟩)
  exact ⟨fr',z',hz',rfl,g5⟩
theorem zDA (L:Lim) (h:zab) (bs:List (List zaa)) (ts:List Nat) (i j k:Nat) (s:Fp) (z:List zaa) (hs:s.ok) (N:Int) (n:Nat) (hN:n=N.toNat) (hn:n < 1000000) (hc:s.c < 100000000)
    (hi:i < bs.length) (hj:j < bs.length) (hk:k < bs.length) (hij:i≠j) (hik:i≠k) (hjk:j≠k)
    (Q:Nat × List Nat) (hQ:zcJ zlY 195=some Q) (K:List Nat) (hK:Q.2++zae=K) (hp:zCW K z) (hL:L.rob≤h.blks.length) (hT:L.rot≤h.toks.length):
    ∃ z',zCW K z'∧zag ctx L zaE [pA h.blks.length i 0,.int .i64 N] (hx h (fH bs i j k h.blks.length s z) ts)=some (.vsl false (eF (zlB K s n)),hx h (fH bs i j k h.blks.length (zaw K s n) z') ts):=by
  rw [zfY]
  obtain ⟨M,hM⟩:∃ M:Int,M=max N 0:=⟨_,rfl⟩
  have hmx:zu9 true (.int .i64 N) [.int .i64 0]=some (.int .i64 M):=by
    simp only [zu9,zUv,bind,Option.bind_some,if_true]
    rw [hM]
    by_cases h0:(0:Int) > N
    · rw [if_pos h0,show max N 0=0 by omega]
    · rw [if_neg h0,show max N 0=N by omega]
  have hlo:=fun fr R=>zzu (L:=⟨L.rob,L.rot,h.blks.length+bs.length,h.toks.length+ts.length⟩) (fr:=fr) (h:=h) (R:=R) bs ts i j k s z hs M n (by omega) hn hc hi hj hk hij hik hjk Q hQ K hK hp hL hT
  have hlen:∀ s z,(fH bs i j k h.blks.length s z).length=bs.length:=fun s z=>by simp [fH]
  have htr:∀ us z,zit (hx h (fH bs i j k h.blks.length (zaw K s n) z) (ts++us)) (h.blks.length+bs.length) (h.toks.length+ts.length)=hx h (fH bs i j k h.blks.length (zaw K s n) z) ts:=fun us z=>zO0 _ _ _ _ _ _
  have hfz:=fun hh m=>zrM (h1:=hh) (nb:=h.blks.length+bs.length) (nt:=h.toks.length+ts.length) (n:=m) (s:=.nsl) (es:=eF (zlB K s n)) (.inl rfl) (by simp)
  simp only [zTi] at hfz
  have hl1:=hlen s z
  generalize eF (zlB K s n)=l at*
  generalize fH bs i j k h.blks.length s z=b1 at*
  simp -implicitDefEqProofs [zbG,za5,zaQ,hl1,hmx]
  generalize hF:run ctx _ (.loop _) _ _=R
  obtain ⟨fr1,z',hz',rfl,f5⟩:=hlo _ _ hF (by simp) (by simp) (by simp) (by simp)
  refine ⟨z',hz',?_⟩
  have htr':=fun us=>htr us z'
  generalize fH bs i j k h.blks.length (zaw K s n) z'=b2 at*
  simp -implicitDefEqProofs [f5,hfz,htr',za5,zaQ,hl1]
end Go.Av
namespace Go.Av
theorem zQo (L:Lim) (h:zab) (bs:List (List zaa)) (ts:List Nat) (c:Bool) (l:List Int) (hl:l.length=32) (hL:L.rob≤h.blks.length):
    zag ctx L zhf [.iface 101 (.agg []),.vsl c (eI .u8 l)] (hx h bs ts)=some (.tup [pA h.blks.length (bs.length+1) 0,.int .i64 0],hx h (bs++[cI .u8 (zj6 l).S,spO h.blks.length bs.length (zj6 l)]) ts):=by
  rw [zst]
  have e1:spO h.blks.length bs.length (zj6 l)=[.iface 101 (.agg []),sA h.blks.length bs.length 0 1 200 (some 200),.int .i64 0,.int .i64 136,.int .i64 0]:=rfl
  have e2:(zj6 l).S=putAt (tab 200 fun _=>0) 136 l:=rfl
  rw [e1,e2]
  have hg1:=fun x y=>zaO bs [x,y] bs.length 0 rfl
  have hg2:=fun x y=>zaO bs [x,y] bs.length 1 rfl
  simp only [Nat.add_zero,List.getElem?_cons_zero,List.getElem?_cons_succ] at hg1 hg2
  have hsl:=zBZ 1 h.blks.length bs.length 200 136 (some 200) .i64 (by decide)
  simp only [Int.cast_ofNat_Int] at hsl
  have hel:=fun w=>zvL (hx h (bs++w) ts) 1 c (eI .u8 l)
  have hcp:=fun b=>zKl L h (bs++[cI .u8 (tab 200 fun _=>0),b]) ts bs.length 136 64 (some 64) .u8 l (tab 200 fun _=>0) (.vsl c (eI .u8 l)) (hel _) (by rw [List.getElem?_append_right (Nat.le_refl _)];simp) (by simp;omega) hL
  rw [show min l.length 64=32 by omega,List.take_of_length_le (by omega)] at hcp
  have hs1:=fun x y v=>zbY bs [x,y] bs.length 0 v rfl
  simp only [Nat.add_zero,List.set_cons_zero,List.set_cons_succ] at hs1
  simp only [hs1] at hcp
  generalize putAt (tab 200 fun _=>(0:Int)) 136 l=m at*
  generalize hz:(tab 200 fun _=>(0:Int))=zz at*
  simp -implicitDefEqProofs [zkb,zET,zIC,hl,zj7,zam,zjm,zjs,hz,zbX,zaA,setAt,hg1,hg2,hsl,hcp,show IntKind.i64.wrap 64=64 by decide,show IntKind.i64.wrap 1=1 by decide]
theorem zJd (L:Lim) (h:zab) (bs:List (List zaa)) (ts:List Nat) (c:Bool) (l:List Int) (hl:l.length=32) (hL:L.rob≤h.blks.length):
    zag ctx L zin [.iface 101 (.agg []),.vsl c (eI .u8 l)] (hx h bs ts)=some (pA h.blks.length (bs.length+1) 0,hx h (bs++[cI .u8 (zj6 l).S,spO h.blks.length bs.length (zj6 l)]) ts):=by
  rw [ztm]
  simp -implicitDefEqProofs [zkX,zQo,hl,hL]
theorem zJe (L:Lim) (h:zab):zag ctx L zio [] h=some (.iface 101 (.agg []),h):=by
  rw [ztn]
  have hf:zaA [] []=some []:=rfl
  have hz : ∀ nb nt n, frz (hx h [] []) nb nt (n + 2) (.iface 101 (.agg [])) = some (.iface 101 (.agg [])) := fun nb nt n => by
    rw [frz.eq_def];simp [frz,zdE]
  simp [zkY,hf,hz]
theorem zzv (k:IntKind) (n:Nat) (l:List Int) (hl:l.length=n):zhU (.arr n) 1 (.vptr (cI k l) 0) none none none=some (.vsl true (eI k l)):=by
  have e:=zqD n (cI k l) (by simpa using hl)
  rw [zlW] at e
  simp [zhU,zlN,hl,e,zCX,List.take_of_length_le]
theorem zDD (L:Lim) (h:zab) (bs:List (List zaa)) (ts:List Nat) (l:List Int) (hl:l.length=32) (hL:L.rob≤h.blks.length):
    zag ctx L zkF [.agg (cI .u8 l)] (hx h bs ts)=some (pA h.blks.length (bs.length+1) 0,hx h (bs++[cI .u8 (zj6 l).S,spO h.blks.length bs.length (zj6 l)]) ts):=by
  rw [zuX]
  have hbox:zzh (.agg (cI .u8 l))=some (.vptr (cI .u8 l) 0):=rfl
  have hsl:=zzv .u8 32 l hl
  simp -implicitDefEqProofs [znT,hbox,hsl,zJe,zJd,hl,hL]
theorem zQp (t:Nat):feL [0,0,t]=feL [0,0]++fe t:=by rw [show [0,0,t]=[0,0]++[t] from rfl,zqC,zyU]
theorem zMQ (t:Nat):putAt (feL [0,0,0]) 8 (fe t)=feL [0,0,t]:=by
  have h1:=zvl [0,0,0] 2
  have h2:=zvk [0,0,0] 3
  rw [show 4*2=8 from rfl] at h1
  rw [show 4*3=12 from rfl] at h2
  unfold putAt
  rw [h1,show 8+(fe t).length=12 from rfl,h2,zQp]
  simp
theorem zQq (L:Lim) (h:zab) (bs:List (List zaa)) (ts:List Nat) (i off:Nat) (cap:Option Nat) (c:Bool) (m f:List W64) (hb:bs[i]?=some (cW m)) (hf:f.length=4) (ho:off+4≤m.length) (hL:L.rob≤h.blks.length):
    zxI L (hx h bs ts) 4 (sA h.blks.length i off 4 1 cap) (.vsl c [cW f])=some (.int .i64 1,hx h (bs.set i (cW (putAt m off f))) ts):=by
  have hs:=zah h bs ts L i off (cW f) (by simp [hL])
  rw [hb] at hs
  simp only [zvh,zCq] at hs
  rw [decide_eq_true (by omega),zvg,ztu _ _ _ (by simp;omega)] at hs
  have e:putAt (cW m) off (cW f)=cW (putAt m off f):=by simp [putAt,cW]
  rw [e] at hs
  unfold zxI
  simp only [zvL,Option.bind_some,zOy,zCq,hf]
  simp only [sA,if_true,zlT,beq_self_eq_true,and_self,List.length_singleton,Nat.min_self,List.take_succ_cons,List.take_zero,List.flatten_cons,List.flatten_nil,List.append_nil]
  simp only [pA] at hs
  rw [hs]
  rfl
def zdh (t:Nat):Fp:=⟨[0,0,t],0,2,0⟩
theorem zMR (t : Nat) (ht : t < pN) : (zdh t).ok := ⟨rfl, fun i => by
  match i with
  | 0=>exact zd1
  | 1=>exact zd1
  | 2=>exact ht
  | i+3=>exact zd1,by simp [zdh],by simp [zdh]⟩
theorem zMS (L:Lim) (h:zab) (bs:List (List zaa)) (ts:List Nat) (k:Nat) (c:Bool) (t:Nat) (hL:L.rob≤h.blks.length):
    zag ctx L zcM [.iface 107 (.agg [pA h.blks.length k 0]),.vsl c [cW (fe t)]] (hx h bs ts)=some (.tup [pA h.blks.length (bs.length+1) 0,.int .i64 0],hx h (bs++[cW (feL [0,0,t]),fO h.blks.length bs.length k (zdh t)]) ts):=by
  rw [zkC]
  have e1:fO h.blks.length bs.length k (zdh t)=[.iface 107 (.agg [pA h.blks.length k 0]),sA h.blks.length bs.length 0 4 3 (some 3),.int .i64 0,.int .i64 2,.int .i64 0]:=rfl
  rw [e1]
  have hg1:=fun x y=>zaO bs [x,y] bs.length 0 rfl
  have hg2:=fun x y=>zaO bs [x,y] bs.length 1 rfl
  simp only [Nat.add_zero,List.getElem?_cons_zero,List.getElem?_cons_succ] at hg1 hg2
  have hsl:=zBZ 4 h.blks.length bs.length 3 2 (some 3) .i64 (by decide)
  simp only [Int.cast_ofNat_Int] at hsl
  have hcp:=fun b=>zQq L h (bs++[cW (feL [0,0,0]),b]) ts bs.length 8 (some 1) c (feL [0,0,0]) (fe t) (by rw [List.getElem?_append_right (Nat.le_refl _)];simp) rfl (by simp) hL
  rw [zMQ] at hcp
  have hs1:=fun x y v=>zbY bs [x,y] bs.length 0 v rfl
  simp only [Nat.add_zero,List.set_cons_zero,List.set_cons_succ] at hs1
  simp only [hs1] at hcp
  have hz:rep (zaS (zaa.int .u64 0) 4) 3=cW (feL [0,0,0]):=by
    have:rep (zaS (zaa.int .u64 0) 4) 3=cW (tab (4*3) fun _=>0#64):=rfl
    rw [this,zps 3];rfl
  generalize feL [0,0,t]=m at*
  generalize feL [0,0,0]=zz at*
  generalize fe t=f at*
  simp -implicitDefEqProofs [zev,zEY,zI6,zj7,zam,hz,zbX,zaA,setAt,hg1,hg2,hsl,hcp,show IntKind.i64.wrap 64=64 by decide,show IntKind.i64.wrap 1=1 by decide]
theorem zGm (L:Lim) (h:zab) (bs:List (List zaa)) (ts:List Nat) (k:Nat) (c:Bool) (t:Nat) (hL:L.rob≤h.blks.length):
    zag ctx L zc0 [.iface 107 (.agg [pA h.blks.length k 0]),.vsl c [cW (fe t)]] (hx h bs ts)=some (pA h.blks.length (bs.length+1) 0,hx h (bs++[cW (feL [0,0,t]),fO h.blks.length bs.length k (zdh t)]) ts):=by
  rw [zk4]
  have hN:=fun L hL=>zMS L h bs ts k c t hL
  generalize fe t=f at*
  generalize feL [0,0,t]=m at*
  simp -implicitDefEqProofs [zeK,hN,hL]
theorem zDE (L : Lim) (h : zab) (bs : List (List zaa)) (ts : List Nat) : zag ctx L zgD [] (hx h bs ts) = some (.iface 107 (.agg [pA h.blks.length bs.length 0]), hx h (bs ++ [poC 0 0 0 (tab 204 fun _ => 0)]) ts) := by
  rw [zri]
  have hN:=fun L=>zQ3 L h bs ts
  generalize poC 0 0 0 (tab 204 fun _=>0)=p at*
  simp -implicitDefEqProofs [ziS,hN,zaA,setAt]
theorem zwe (L:Lim) (h:zab) (t:List Int) (hb:inB t) (hl:t.length=32):zag ctx L zim [.agg (cI .u8 t)] h=some (.agg (cW (fe (leN t))),h):=by
  rw [zu4]
  have hsl:=zg6 32 1 h.blks.length 0 0 (by decide)
  have hF:=fun L=>zBT L h [cI .u8 t,cW (tab 4 fun _=>0#64)] [] 0 32 (some 32) t hb rfl hl (by decide)
  have hrl:(fe (leN t)).length=4:=rfl
  generalize fe (leN t)=res at*
  simp -implicitDefEqProofs [znX,zak,zbX,zaa.okV,zaa.cells,zaI,hsl,hF,zbp,zai,hrl,zaj]
theorem zBn (L:Lim) (h:zab) (bs:List (List zaa)) (ts:List Nat) (l:List Int) (hb:inB l) (hl:l.length=32) (hL:L.rob≤h.blks.length):
    zag ctx L zjo [.agg (cI .u8 l)] (hx h bs ts)=
      some (pA h.blks.length (bs.length+2) 0,hx h (bs++[poC 0 0 0 (tab 204 fun _=>0),cW (feL [0,0,leN l % pN]),fO h.blks.length (bs.length+1) bs.length (zdh (leN l % pN))]) ts):=by
  rw [zt0]
  have hbox:zzh (.agg (cI .u8 l))=some (.vptr (cI .u8 l) 0):=rfl
  have hN:=fun L=>zDE L h bs ts
  have hE:=fun L h=>zwe L h l hb hl
  rw [← zyp] at hE
  have hB:=fun L hL=>zGm L h (bs++[poC 0 0 0 (tab 204 fun _=>0)]) ts bs.length true (leN l % pN) hL
  have hsl:=zDC (fe (leN l % pN)) rfl
  have hch:=zzt (fe (leN l % pN)) rfl
  have hpt:zb2 true (cI .u8 l) 0 32=some (.agg (cI .u8 l)):=zaj _ _ (by simp [hl])
  have hrob:∀ nb nt,(⟨L.rob,L.rot,nb,nt⟩:Lim).rob≤h.blks.length:=fun _ _=>hL
  simp only [List.length_append,List.length_singleton,List.append_assoc,List.cons_append,List.nil_append] at hB
  generalize fO h.blks.length (bs.length+1) bs.length (zdh (leN l % pN))=o at*
  generalize poC 0 0 0 (tab 204 fun _=>0)=p at*
  generalize feL [0,0,leN l % pN]=f3 at*
  generalize fe (leN l % pN)=f at*
  simp -implicitDefEqProofs [zmb,hbox,hN,hE,hpt,hsl,hch,hB,hL]
end Go.Av
namespace Go.Av
theorem zJo {L:Lim} {h:zab} {sz:Nat} {y:zaa} {ys:List (List zaa)} (hy:zaK h sz y=some ys) (hstr:zlT sz y=true) (hsz:zh1 sz ys=true) (hr:L.rot≤h.toks.length) (hroom:ys.length < zam):
    zqX L (hx h [] []) sz false (.vsl true []) y=some (gL (.vsl true []) h.toks.length 0 ys,hx h [] (gT ys)):=by
  have:=zAB (L:=L) (h:=h) (bs:=[]) (sz:=sz) (s:=.vsl true []) (y:=y) (es:=[]) (ys:=ys) (.inr rfl) (by rw [show gT []=[] from rfl,zAM];exact hy) hstr hsz rfl hr (by simpa using hroom)
  rw [show gL (.vsl true []) h.toks.length 0 []=.vsl true [] from rfl,show gT []=[] from rfl,List.nil_append] at this
  exact this
theorem zJp (L:Lim) (h:zab) (x:zaa) (l:List Int) (he:zaK h 1 x=some (eI .u8 l)) (hne:eqA .slc x .nsl=some false) (hl:l.length < 1000000000):
    zag ctx L zdl [x] h=some (.vsl false (eI .u8 l),h):=by
  rw [zlL]
  have hap:=zJo (L:=zak h) he (ztv _) (by simp) (Nat.le_refl _) (by simp [zam];omega)
  have hg:=fun hh n=>zrM (h1:=hh) (nb:=h.blks.length) (nt:=h.toks.length) (n:=n) (s:=.vsl true []) (es:=eI .u8 l) (.inr rfl) (by simp)
  simp only [zak] at hap
  generalize gL (.vsl true []) h.toks.length 0 (eI .u8 l)=g at*
  simp -implicitDefEqProofs [ze8,zak,hne,zaA,rep,chunks,hap,hg]
theorem zJq (L:Lim) (h:zab) (x:zaa) (l:List Nat) (he:zaK h 4 x=some (eF l)) (hs:zlT 4 x=true) (hne:eqA .slc x .nsl=some false) (hl:l.length < 1000000000):
    zag ctx L zaH [x] h=some (.vsl false (eF l),h):=by
  rw [ze1]
  have hap:=zJo (L:=zak h) he hs (by simp) (Nat.le_refl _) (by simp [zam];omega)
  have hg:=fun hh n=>zrM (h1:=hh) (nb:=h.blks.length) (nt:=h.toks.length) (n:=n) (s:=.vsl true []) (es:=eF l) (.inr rfl) (by simp)
  have hfl:zaA (rep (zaS (zaa.int .u64 0) 4) 0) []=some []:=rfl
  have hch:chunks 4 0 []=[]:=rfl
  simp only [zak] at hap
  generalize gL (.vsl true []) h.toks.length 0 (eF l)=g at*
  simp -implicitDefEqProofs [zba,zak,hne,hfl,hch,hap,hg]
theorem zyc:∀ l:List Nat,chunks 4 l.length (cW (feL l))=eF l
  | []=>rfl
  | x :: l => by
    have ih:=zyc l
    have e:cW (feL (x :: l))=cW (fe x)++cW (feL l):=by rw [zvj];simp [cW]
    have hl:(cW (fe x)).length=4:=rfl
    rw [List.length_cons,chunks,e,List.take_left' hl,List.drop_left' hl,ih]
    rfl
theorem zO3 (b off sz n:Nat) (cap:Option Nat):eqA .slc (.sl b off sz n cap) .nsl=some false:=rfl
theorem zJs (L:Lim) (h:zab) (b n j:Nat) (s:Sp) (hb:h.blks[b]?=some (spO n j s)) (hj:h.blks[n+j]?=some (cI .u8 s.S)) (hs:s.S.length=200):
    zag ctx L zbJ [.ptr b 0] h=some (.vsl false (eI .u8 s.S),h):=by
  rw [zkz]
  have hl:=fun bs ts=>zk2 h bs ts b 1 1 false _ hb
  have h1:zb2 false (spO n j s) 1 1=some (sA n j 0 1 200 (some 200)):=rfl
  simp only [h1] at hl
  have hf:fzA h (.ptr b 0)=some (.ptr b 0,false):=by simp only [fzA]
  have he:zaK h 1 (sA n j 0 1 200 (some 200))=some (eI .u8 s.S):=by
    simp only [zaK,sA,hj]
    have:=zqD 200 (cI .u8 s.S) (by simpa using hs)
    rw [zlW] at this
    simp [hs,this]
  rw [← zAM h] at he
  have hC:=fun L=>zJp L (hx h [] []) _ s.S he (zO3 _ _ _ _ _) (by omega)
  simp -implicitDefEqProofs [zer,hf,hl,hC]
theorem zLe (L:Lim) (h:zab) (b n j k:Nat) (s:Fp) (hb:h.blks[b]?=some (fO n j k s)) (hj:h.blks[n+j]?=some (cW (feL s.S))) (hs:s.S.length=3):
    zag ctx L zaM [.ptr b 0] h=some (.vsl false (eF s.S),h):=by
  rw [zgQ]
  have hl:=fun bs ts=>zk2 h bs ts b 1 1 false _ hb
  have h1:zb2 false (fO n j k s) 1 1=some (sA n j 0 4 3 (some 3)):=rfl
  simp only [h1] at hl
  have hf:fzA h (.ptr b 0)=some (.ptr b 0,false):=by simp only [fzA]
  have he:zaK h 4 (sA n j 0 4 3 (some 3))=some (eF s.S):=by
    simp only [zaK,sA,hj]
    have:=zyc s.S
    rw [hs] at this
    simp [hs,this]
  rw [← zAM h] at he
  have hC:=fun L=>zJq L (hx h [] []) _ s.S he rfl (zO3 _ _ _ _ _) (by omega)
  have hfz:=fun hh m=>zhq hh h.blks.length h.toks.length m false (zE0 h.blks.length h.toks.length s.S)
  simp -implicitDefEqProofs [zb1,hf,hl,hC,hfz]
theorem zLf (L:Lim) (h:zab) (b n j k:Nat) (s:Fp) (hb:h.blks[b]?=some (fO n j k s)):zag ctx L zaL [.ptr b 0] h=some (.int .i64 s.c,h):=by
  rw [zgP]
  have hl:=fun bs ts=>zk2 h bs ts b 4 1 false _ hb
  have h1:zb2 false (fO n j k s) 4 1=some (.int .i64 s.c):=rfl
  simp only [h1] at hl
  have hf:fzA h (.ptr b 0)=some (.ptr b 0,false):=by simp only [fzA]
  simp -implicitDefEqProofs [zb0,hf,hl]
theorem LV.cell {u:zaa} {l:List W64} (hu:LV u l):u.cells=[u]∧u.okV=true:=by
  have h:=hu.1 ⟨[],[]⟩
  cases u <;> first
    | exact ⟨rfl,rfl⟩
    | (exfalso;simp [fzA] at h;done)
    | (exfalso;unfold fzA at h;split at h <;> simp [bind,Option.bind] at h <;> split at h <;> simp at h)
theorem zFA:∀ {es:List (List zaa)} {nb nt:Nat},zaq nb nt es=true→∀ {i:Nat} {e:List zaa},es[i]?=some e→zap nb nt e=true
  | [],_,_,_,i,e,h=>by simp at h
  | x :: es, nb, nt, hu, i, e, h => by
    simp only [zaq,Bool.and_eq_true] at hu
    cases i with
    | zero=>simp at h;subst h;exact hu.1
    | succ i=>exact zFA hu.2 (by simpa using h)
theorem zyH:∀ {es:List (List zaa)} {nb nt:Nat} {e:List zaa},zaq nb nt es=true→zap nb nt e=true→zaq nb nt (es++[e])=true
  | [],_,_,_,_,h=>by simp [zaq,h]
  | x :: es, nb, nt, e, hu, h => by
    simp only [zaq,Bool.and_eq_true] at hu
    simp [zaq,hu.1,zyH hu.2 h]
theorem NbS.snoc {es:List (List zaa)} {l:List Nat} (h:NbS es l) {u:zaa} {n:Nat} (hu:LV u (dg n)) (hn:∀ nb nt,zap nb nt [u]=true):NbS (es++[[u]]) (l++[n]):=by
  obtain ⟨⟨h1,h2⟩,h3,h4⟩:=h
  refine ⟨⟨by simp [h1],fun i hi=>?_⟩,?_,fun nb nt=>zyH (h4 nb nt) (hn nb nt)⟩
  · by_cases hil:i < l.length
    · obtain ⟨v,e1,e2⟩:=h2 i hil
      exact ⟨v,by rw [List.getElem?_append_left (by omega)];exact e1,by rw [zAm _ _ _ _ hil];exact e2⟩
    · have : i = l.length := by simp at hi; omega
      subst this
      refine ⟨u,by rw [List.getElem?_append_right (by omega),h1];simp,?_⟩
      rw [zAo _ _ _ _ (Nat.le_refl _),Nat.sub_self]
      exact hu
  · cases es with
    | nil=>simp [zh1]
    | cons e es=>simpa [zh1] using h3
theorem zCy {u:zaa} {l:List W64} (hu:LV u l):zaA (rep [zaa.nsl] 1) [(0,1,u)]=some [u]:=by
  obtain ⟨h1,h2⟩:=hu.cell
  simp [zaA,h1,h2,rep,setAt]
theorem zVa {fr1:Fr} {h:zab} (N:Int) (k:Nat) (z:List zaa) (nl M es' es1 os:List (List zaa)) (a c c1:Nat) (u:zaa)
    (g1:fr1 1=.int .i64 N) (g2:fr1 2=pA h.blks.length 0 0) (g6:fr1 6=gL (.vsl true []) h.toks.length 0 os) (g7:fr1 7=.int .i64 (k:Int)) (hltI:(k:Int) < N) (w0:IntKind.i64.wrap ((k:Int)+1)=(k:Int)+1)
    (hT:∀ (L:Lim) (h:zab),zag ctx L zbK [.agg [.vsl false nl,.vsl false M,.vsl false es',.int .i64 a,.int .i64 2,.int .i64 c]] h=some (.agg [.vsl false nl,.vsl false M,.vsl false es1,.int .i64 a,.int .i64 2,.int .i64 c1],h))
    (hul:zaq 0 0 nl=true) (hMu0:zaq 0 0 M=true) (hue:zaq 0 0 es1=true) (ia:zcP none 1 (.vsl false es1) (.int .i64 0)=some (.vptr [u] 0)) (hfill:zaA (rep [zaa.nsl] 1) [(0,1,u)]=some [u])
    (hap1:∀ cs:List zaa,zqX ⟨h.blks.length,h.toks.length,h.blks.length,h.toks.length⟩ (hx h [cs,z] (gT os)) 1 false (gL (.vsl true []) h.toks.length 0 os) (.vsl true [[u]])=some (gL (.vsl true []) h.toks.length 0 (os++[[u]]),hx h [cs,z] (gT (os++[[u]])))):
    ∃ fr2,run ctx (zak h) zaC fr1 (hx h [[.vsl false nl,.vsl false M,.vsl false es',.int .i64 a,.int .i64 2,.int .i64 c],z] (gT os))=
      some (.normal,fr2,hx h [[.vsl false nl,.vsl false M,.vsl false es1,.int .i64 0,.int .i64 1,.int .i64 c1],z] (gT (os++[[u]])))∧fr2 6=gL (.vsl true []) h.toks.length 0 (os++[[u]])∧fr2 7=.int .i64 ((k:Int)+1):=by
  have hu6 : ∀ x y w : Int, zap 0 0 [.vsl false nl, .vsl false M, .vsl false es1, .int .i64 x, .int .i64 y, .int .i64 w] = true := fun x y w => by
    simp only [zap,zaa.under,hul,hMu0,hue,Bool.and_self]
  have w1':IntKind.i64.wrap 1=1:=by decide
  simp -implicitDefEqProofs [zaC,zak,g1,g2,g6,g7,hltI,w0,w1',hT,zaj,zbp,zai,setAt,zat,zah,hu6,ia,hfill,zki,hap1]
theorem zox (K:List Nat) (s:Fp):∀ k,s.c≤(zaw K s k).c∧((zaw K s k).c=s.c→(zaw K s k).S=s.S)
  | 0=>⟨Nat.le_refl _,fun _=>rfl⟩
  | k + 1 => by
    obtain ⟨h1,h2⟩:=zox K s k
    rw [zaw]
    by_cases hb:(zaw K s k).b=2
    · rw [(znI hb).1];exact ⟨by simp only [];omega,fun h=>by simp only [] at h;omega⟩
    · rw [(zjV hb).1];exact ⟨h1,h2⟩
def esK (K:List Nat) (s:Fp) (es:List (List zaa)) (k:Nat):List (List zaa):=if (zaw K s k).c=s.c then es else nbL (zaw K s k).S
def zHz (K:List Nat) (s:Fp) (es:List (List zaa)) (k:Nat):zaa:=if (zw0 K (zaw K s k)).c=s.c then gd (gd es [] (zw0 K (zaw K s k)).b) .nsl 0 else .vsl false (eW (dg (zxW K (zaw K s k))))
def osK (K:List Nat) (s:Fp) (es:List (List zaa)) (n:Nat):List (List zaa):=tab n fun k=>[zHz K s es k]
theorem zFB (K:List Nat) (s:Fp) (es:List (List zaa)) (n:Nat):osK K s es (n+1)=osK K s es n++[[zHz K s es n]]:=by
  unfold osK;rw [zig n fun k=>[zHz K s es k]]
theorem zFC {K:List Nat} {s:Fp} {es:List (List zaa)} (hes:NbS es s.S) (k:Nat):NbS (esK K s es k) (zaw K s k).S:=by
  unfold esK
  split
  · rename_i h;rw [(zox K s k).2 h];exact hes
  · exact NbS.nbL _
theorem zFD {K:List Nat} {s:Fp} {es:List (List zaa)} {k:Nat} (hb:(zaw K s k).b=2):zHz K s es k=.vsl false (eW (dg (zxW K (zaw K s k)))):=by
  have h1:=(zox K s k).1
  unfold zHz
  rw [if_neg]
  unfold zw0
  rw [if_pos hb]
  simp only [];omega
theorem zRQ {K:List Nat} {s:Fp} {es:List (List zaa)} {k:Nat} (hb:(zaw K s k).b=2):esK K s es (k+1)=nbL (zrN K (zaw K s k).S):=by
  have h1:=(zox K s k).1
  have h2:zaw K s (k+1)=zrO K (zaw K s k):=rfl
  unfold esK
  rw [h2,(znI hb).1,if_neg (by simp only [];omega)]
theorem zRR {K:List Nat} {s:Fp} {es:List (List zaa)} {k:Nat} (hb:¬(zaw K s k).b=2):esK K s es (k+1)=esK K s es k:=by
  have h2:zaw K s (k+1)=zrO K (zaw K s k):=rfl
  unfold esK
  rw [h2,(zjV hb).1]
theorem zFE {K:List Nat} {s:Fp} {es:List (List zaa)} (hes:NbS es s.S) {k:Nat} (hok:(zaw K s k).ok) (hb:¬(zaw K s k).b=2):
    zcP none 1 (.vsl false (esK K s es k)) (.int .i64 ((zaw K s k).b:Int))=some (.vptr [zHz K s es k] 0)∧LV (zHz K s es k) (dg (zxW K (zaw K s k)))∧∀ nb nt,zap nb nt [zHz K s es k]=true:=by
  have hE:=zFC (K:=K) hes k
  obtain ⟨h1,h2,h3,h4⟩:=hok
  obtain ⟨u,e1,e2⟩:=hE.1.2 (zaw K s k).b (by omega)
  have hu:zHz K s es k=u:=by
    unfold zHz
    have hp:zw0 K (zaw K s k)=zaw K s k:=by unfold zw0;rw [if_neg hb]
    rw [hp]
    unfold esK at e1
    split
    · rename_i hc
      rw [if_pos hc] at e1
      unfold gd
      simp [List.getD,e1]
    · rename_i hc
      rw [if_neg hc] at e1
      have hlt:(zaw K s k).b < (zaw K s k).S.length:=by omega
      have e3:(nbL (zaw K s k).S)[(zaw K s k).b]?=some [.vsl false (eW (dg (gd (zaw K s k).S 0 (zaw K s k).b)))]:=by simp [nbL,gd,List.getD,hlt]
      rw [e3] at e1
      have:=List.head_eq_of_cons_eq (Option.some.inj e1)
      rw [(zjV hb).2]
      exact this
  rw [hu,(zjV hb).2]
  exact ⟨by simp [zcP,asI,e1],e2,fun nb nt=>zFA (hE.2.2 nb nt) e1⟩
theorem zCz {K:List Nat} {s:Fp} {es:List (List zaa)} (hes:NbS es s.S) (hs:s.ok):∀ n,NbS (osK K s es n) (zlB K s n)
  | 0=>⟨⟨by simp [osK,zlB],fun i hi=>by simp [zlB] at hi⟩,rfl,fun _ _=>rfl⟩
  | n + 1 => by
    rw [zFB,zyI]
    by_cases hb:(zaw K s n).b=2
    · rw [zFD hb]
      exact (zCz hes hs n).snoc (LV.vsl _ _) fun nb nt=>by simp [zap,zaa.under]
    · obtain ⟨_,h2,h3⟩:=zFE hes (zqw hs n) hb
      exact (zCz hes hs n).snoc h2 h3
theorem zHj {fr:Fr} {h:zab} {R:Option (AEx × Fr × zab)} (l:List Nat) (hl:l.length=195) (hlp:∀ i,gd l 0 i < pN) (K:List Nat) (hK:l++zae=K) (s:Fp) (es:List (List zaa)) (hes:NbS es s.S) (hs:s.ok) (N:Int) (n:Nat) (hN:n=N.toNat) (hn:n < 1000000) (hc:s.c < 100000000) (z:List zaa)
    (hF:run ctx (zak h) (.loop zaC) fr (hx h [fpC l es s,z] [])=R)
    (h1:fr 1=.int .i64 N) (h2:fr 2=pA h.blks.length 0 0) (h6:fr 6=.vsl true []) (h7:fr 7=.int .i64 0):
    ∃ fr',R=some (.exit 0,fr',hx h [fpC l (esK K s es n) (zaw K s n),z] (gT (osK K s es n)))∧fr' 6=gL (.vsl true []) h.toks.length 0 (osK K s es n)∧∀ t,t∉wr zaC→fr' t=fr t:=by
  obtain ⟨e,fr',h',rfl,⟨rfl,rfl,g6⟩,hk⟩:=zaf hF n
    (fun k fr hh=>fr 7=.int .i64 k∧hh=hx h [fpC l (esK K s es k) (zaw K s k),z] (gT (osK K s es k))∧fr 6=gL (.vsl true []) h.toks.length 0 (osK K s es k))
    (fun e fr hh=>e=.exit 0∧hh=hx h [fpC l (esK K s es n) (zaw K s n),z] (gT (osK K s es n))∧fr 6=gL (.vsl true []) h.toks.length 0 (osK K s es n))
    ⟨h7, by simp [zaw, gT, esK, osK, tab], by simp [gL, h6, osK, tab]⟩ (by
      rintro k fr1 hh hkN hkeep ⟨g7,rfl,g6⟩
      have g1:=(hkeep 1 (by decide)).trans h1
      have g2:=(hkeep 2 (by decide)).trans h2
      by_cases hlt:k < n
      · have hltI : (k : Int) < N := by omega
        have w0:IntKind.i64.wrap ((k:Int)+1)=k+1:=wrap_i64 (by omega) (by omega)
        have hok:=zqw (K:=K) hs k
        have hck:=zAu K s k
        have q1:=zFC (K:=K) hes k
        have q2:=zCz (K:=K) hes hs k
        have hos:=zFB K s es k
        have hgs:zaw K s (k+1)=zrO K (zaw K s k):=rfl
        have hol:(osK K s es k).length=k:=by simp [osK]
        have hroom:((osK K s es k).length+1 < zam):=by rw [hol];unfold zam;omega
        have hap:=fun cs v=>zsJ (zak h) h [cs,z] 1 true (osK K s es k) [[v]] (by simp [zak,hroom,q2.2.1])
        obtain ⟨M,hM,hMu,_⟩:=zdy
        have hMu0:=hMu 0 0
        have hul:=zdN 0 0 l
        simp only [zak] at hap
        by_cases hb:(zaw K s k).b=2
        · have he1:=zFD (es:=es) hb
          have he2:=zRQ (es:=es) hb
          obtain ⟨e1,e2⟩:=znI (K:=K) hb
          rw [e1] at hgs
          rw [e2] at he1
          rw [he1] at hos
          obtain ⟨o1,o2,o3,o4⟩:=hok
          generalize esK K s es k=es' at*
          generalize osK K s es k=os at*
          generalize zaw K s k=q at*
          have hT:=fun L h=>zOD L h l hl hlp es' q q1 o1 o2 (by omega)
          rw [hK] at hT
          have hS1:NbS (nbL (zrN K q.S)) (zrN K q.S):=NbS.nbL _
          have htl:=zvF K q.S
          have ia:=zAv .i64 false (zrN K q.S) 0 (by omega)
          have hfill:=zCy (LV.vsl false (dg (gd (zrN K q.S) 0 0)))
          have hap1:=fun cs=>hap cs (.vsl false (eW (dg (gd (zrN K q.S) 0 0))))
          have hue:=hS1.2.2 0 0
          obtain ⟨S,a,b,c⟩:=q
          simp only at*
          subst hb
          simp -implicitDefEqProofs only [fpC,hM,Int.natCast_zero,Int.cast_ofNat_Int] at*
          generalize zrN K S=S1 at*
          generalize eW (dg (gd S1 0 0))=e0 at*
          generalize nbL S1=es1 at*
          generalize nbL l=nl at*
          generalize c+1=c1 at*
          obtain ⟨fr2,hr,f6,f7⟩:=zVa N k z nl M es' es1 os a c c1 _ g1 g2 g6 g7 hltI w0 hT hul hMu0 hue ia hfill hap1
          rw [hr]
          simp -implicitDefEqProofs [f6,f7,hgs,hlt]
          exact ⟨by rw [he2,hos],by rw [hos]⟩
        · obtain ⟨ia,hu,huu⟩:=zFE hes hok hb
          have he2:=zRR (es:=es) hb
          obtain ⟨e1,e2⟩:=zjV (K:=K) hb
          rw [e1] at hgs
          obtain ⟨o1,o2,o3,o4⟩:=hok
          have hbI:(((zaw K s k).b:Int)==2)=false:=beq_false_of_ne (by omega)
          have w1:IntKind.i64.wrap (((zaw K s k).b:Int)+1)=(((zaw K s k).b+1:Nat):Int):=(wrap_i64 (by omega) (by omega)).trans (by omega)
          have hfill:=zCy hu
          have hap1:=fun cs=>hap cs (zHz K s es k)
          have hue:=q1.2.2 0 0
          generalize zHz K s es k=u at*
          generalize esK K s es k=es' at*
          generalize osK K s es k=os at*
          generalize zaw K s k=q at*
          obtain ⟨S,a,b,c⟩:=q
          simp only [fpC,hM] at*
          generalize b+1=b1 at*
          generalize nbL l=nl at*
          simp -implicitDefEqProofs [zaC,zak,g1,g2,g6,g7,hltI,w0,w1,hbI,zaj,zbp,zai,setAt,zat,zah,zap,zaa.under,hul,hue,hMu0,ia,hfill,zki,hap1,hgs,hlt]
          exact ⟨by rw [he2,hos],by rw [hos]⟩
      · have : k = n := by omega
        subst this
        have hltI:¬(k:Int) < N:=by omega
        simp [zaC,g1,g6,g7,hltI])
  exact ⟨fr',rfl,g6,hk⟩
theorem zOr (L:Lim) (h:zab) (l:List Nat) (hl:l.length=195) (hlp:∀ i,gd l 0 i < pN) (K:List Nat) (hK:l++zae=K) (s:Fp) (es:List (List zaa)) (hes:NbS es s.S) (hs:s.ok) (N:Int) (n:Nat) (hN:n=N.toNat) (hn:n < 1000000) (hc:s.c < 100000000):
    zag ctx L zcL [.agg (fpC l es s),.int .i64 N] h=some (.tup [.agg (fpC l (esK K s es n) (zaw K s n)),.vsl false (osK K s es n)],h):=by
  rw [zkA]
  have hf:=zLu h l es s
  have hlo:=fun fr R z=>zHj (fr:=fr) (h:=h) (R:=R) l hl hlp K hK s es hes hs N n hN hn hc z
  have hok:(zaa.agg (fpC l es s)).okV=true:=zii _
  have hcl:(zaa.agg (fpC l es s)).cells=fpC l es s:=by simp only [zaa.cells]
  have q1:=zFC (K:=K) hes n
  have q2:=zCz (K:=K) hes hs n
  have hfl:zaA (rep [zaa.nsl] 0) []=some []:=rfl
  have hch0:chunks 1 0 []=[]:=rfl
  have hg:=fun hh m=>zrM (h1:=hh) (nb:=h.blks.length) (nt:=h.toks.length) (n:=m) (s:=.vsl true []) (es:=osK K s es n) (.inr rfl) (q2.2.2 _ _)
  have hfr':=fun hh nb nt m=>zEx hh nb nt m l (esK K s es n) (zaw K s n) q1.2.2
  have l1':(fpC l (esK K s es n) (zaw K s n)).length=6:=rfl
  have hu0:zap 0 0 (fpC l (esK K s es n) (zaw K s n))=true:=by
    obtain ⟨M,hM,hMu,_⟩:=zdy
    simp [fpC,zap,zaa.under,hM,hMu 0 0,q1.2.2 0 0,zdN 0 0 l]
  generalize fpC l (esK K s es n) (zaw K s n)=q1 at*
  generalize fpC l es s=q at*
  simp -implicitDefEqProofs [zes,zak,hf,zbX,hok,hcl,hfl,hch0]
  generalize hF:run ctx _ (.loop _) _ _=R
  obtain ⟨fr1,rfl,f6,hk1⟩:=hlo _ _ _ hF (by simp) (by simp) (by simp) (by simp)
  simp -implicitDefEqProofs [hk1,wr,zaC,zbM,zaj,l1',zbp,zai,zah,hu0,f6,hg,hfr']
end Go.Av
namespace Go.Av
def ztS (l:List Int) (k:Nat):List Int:=(tab 136 fun _=>0)++l++(tab k fun _=>0)
theorem zzx (l:List Int) (hl:l.length=32) (k:Nat):(ztS l k).length=168+k:=by simp [ztS,hl];omega
theorem zLl (l:List Int) (k:Nat):ztS l k++[0]=ztS l (k+1):=by
  unfold ztS
  rw [List.append_assoc _ _ [0],zig k fun _=>(0:Int)]
theorem zE3 (l:List Int) (hl:l.length=32):ztS l 32=(zj6 l).S:=by
  unfold ztS zj6 putAt
  have h1 : (tab 200 fun _ => (0 : Int)).take 136 = tab 136 fun _ => 0 := by
    have:=zor 200 (fun _=>(0:Int)) 0 136 (by decide)
    simpa using this
  have h2 : (tab 200 fun _ => (0 : Int)).drop (136 + l.length) = tab 32 fun _ => 0 := by
    have:=zor 200 (fun _=>(0:Int)) 168 32 (by decide)
    rw [List.take_of_length_le (by simp)] at this
    rw [hl];exact this
  rw [h1,h2,List.append_assoc]
theorem zHk {fr:Fr} {h:zab} {R:Option (AEx × Fr × zab)} (l:List Int) (hl:l.length=32) (y z:List zaa)
    (hF:run ctx (zak h) (.loop zbl) fr (hx h [y,z] [(ztS l 0).length])=R)
    (h4:fr 4=gA h.toks.length 0 (eI .u8 (ztS l 0))):
    ∃ fr',R=some (.exit 0,fr',hx h [y,z] [200])∧fr' 4=gA h.toks.length 0 (eI .u8 (ztS l 32))∧∀ t,t∉wr zbl→fr' t=fr t:=by
  obtain ⟨e,fr',h',rfl,⟨rfl,rfl,g4⟩,hk⟩:=zaf hF 32
    (fun k fr hh=>fr 4=gA h.toks.length 0 (eI .u8 (ztS l k))∧hh=hx h [y,z] [(ztS l k).length])
    (fun e fr hh=>e=.exit 0∧hh=hx h [y,z] [200]∧fr 4=gA h.toks.length 0 (eI .u8 (ztS l 32)))
    ⟨h4,rfl⟩ (by
      rintro k fr1 hh hkN hkeep ⟨g4,rfl⟩
      have hlen:=zzx l hl k
      have hlen2:=zzx l hl (k+1)
      by_cases hlt:k < 32
      · have hap := zw2 (zak h) h [y, z] [(ztS l k).length] 1 0 true (eI .u8 (ztS l k)) (eI .u8 [0]) (by simp [zak, zam]; omega)
        have hsn:=zLl l k
        rw [zCB,hsn] at hap
        simp only [zak,zLj,List.length_singleton,List.set_cons_zero] at hap
        have hl1:((ztS l k).length:Int) < 200:=by omega
        have e1:(ztS l k).length+1=(ztS l (k+1)).length:=by omega
        rw [e1] at hap
        generalize hm1:ztS l (k+1)=m1 at*
        generalize ztS l k=m at*
        simp -implicitDefEqProofs [zbl,zak,g4,hl1,zaA,rep,chunks,setAt,zly,hap,hlt]
        exact ⟨by rw [hm1],by rw [hm1]⟩
      · have : k = 32 := by omega
        subst this
        simp [zbl,g4,hlen])
  exact ⟨fr',rfl,g4,hk⟩
theorem zOu (h:zab) (bs:List (List zaa)) (ts:List Nat) (m i:Nat) (es:List (List zaa)) (hu:∀ nb nt,zaq nb nt es=true) (a b c:Int):
    frz (hx h bs ts) h.blks.length h.toks.length (m+2) (.agg [gA h.toks.length i es,.int .i64 a,.int .i64 b,.int .i64 c])=some (.agg [.vsl false es,.int .i64 a,.int .i64 b,.int .i64 c]):=by
  have hfl:zdE [gA h.toks.length i es,.int .i64 a,.int .i64 b,.int .i64 c]=false:=by simp [zdE,zaa.flat,gA]
  have hg:frz (hx h bs ts) h.blks.length h.toks.length (m+2) (.agg [gA h.toks.length i es,.int .i64 a,.int .i64 b,.int .i64 c])=
      ([gA h.toks.length i es,.int .i64 a,.int .i64 b,.int .i64 c].mapM (frz (hx h bs ts) h.blks.length h.toks.length (m+1))).map .agg:=by
    rw [frz.eq_def]
    simp only [hfl]
    rfl
  have fi:∀ a:Int,frz (hx h bs ts) h.blks.length h.toks.length (m+1) (.int .i64 a)=some (.int .i64 a):=fun a=>by rw [frz.eq_def]
  have fg:=zpp (hx h bs ts) h.blks.length h.toks.length m i es (hu _ _)
  rw [hg]
  simp only [List.mapM_cons,List.mapM_nil,fg,fi]
  rfl
theorem zOv (L:Lim) (h:zab) (c:Bool) (l:List Int) (hl:l.length=32):
    zag ctx L zdS [.vsl c (eI .u8 l)] h=some (.tup [.agg (spC (zj6 l)),.int .i64 0],h):=by
  rw [zmm]
  have e1:spC (zj6 l)=[.vsl false (eI .u8 (zj6 l).S),.int .i64 0,.int .i64 136,.int .i64 0]:=rfl
  rw [e1,← zE3 l hl]
  have hf:=zjZ h c (eI .u8 l)
  have hap:=fun y=>zNz (zak h) h [y,cI .u8 (tab 136 fun _=>0)] [] 1 136 .u8 (tab 136 fun _=>0) l false rfl (by simp [hl,zam])
  have e2:(tab 136 fun _=>(0:Int))++l=ztS l 0:=by simp [ztS,tab]
  rw [e2] at hap
  have e3:[136+l.length]=[(ztS l 0).length]:=by rw [zzx l hl,hl]
  simp only [List.nil_append,List.length_nil,e3] at hap
  have hlo:=fun fr R y z=>zHk (fr:=fr) (h:=h) (R:=R) l hl y z
  have hu:∀ nb nt,zaq nb nt (eI .u8 (ztS l 32))=true:=fun nb nt=>by simp
  have hfz:=fun bs ts m=>zOu h bs ts m 0 (eI .u8 (ztS l 32)) hu 0 136 0
  simp only [zak] at hap
  simp only [gA,Nat.add_zero] at hfz
  generalize hz:(tab 136 fun _=>(0:Int))=zz at*
  generalize eI .u8 (ztS l 32)=e32 at*
  generalize ztS l 0=m0 at*
  simp -implicitDefEqProofs [zfC,zak,hf,hl,zj7,zam,zjm,zjs,hz,hap]
  generalize hF:run ctx _ (.loop _) _ _=R
  obtain ⟨fr1,rfl,f4,hk1⟩:=hlo _ _ _ _ hF (by simp)
  simp -implicitDefEqProofs [hk1,wr,zbl,zbM,f4,zaA,setAt,zaj,zbp,zai,hfz,gA,zaa.cells,zaa.okV]
end Go.Av
namespace Go.Av
theorem zFF (L:Lim) (h:zab) (c:Bool) (l:List Int) (hb:inB l) (hl:l.length=32):
    zag ctx L zbT [.vsl c (eI .u8 l)] h=some (.vsl false (eW (dg (leN l % pN))),h):=by
  rw [zmU]
  have hf:=zjZ h c (eI .u8 l)
  have hO:=fun L h=>zEq L h false l hb (by omega)
  have hln:(dg (leN l)).length < 10000000:=by
    have:=zrL (n:=leN l) (k:=l.length) (Nat.lt_of_lt_of_le (zCH hb) (Nat.pow_le_pow_left (by decide) _))
    omega
  have hM:=fun L h=>zMj L h (.vsl false (eW (dg (leN l)))) _ (LV.vsl _ _) (zkH _) hln
  rw [zds] at hM
  generalize dg (leN l % pN)=d2 at*
  generalize dg (leN l)=d1 at*
  simp -implicitDefEqProofs [zfS,hf,hO,hM]
theorem zLo (L:Lim) (h:zab) (c:Bool) (l:List Int) (hl:l.length=32):
    zag ctx L zeg [.vsl c (eI .u8 l)] h=some (.agg (spC (zj6 l)),h):=by
  rw [zmV]
  have hf:=zjZ h c (eI .u8 l)
  have hN:=fun L h=>zOv L h false l hl
  have l1:(spC (zj6 l)).length=4:=rfl
  have hfr:=fun hh nb nt m=>zLg hh nb nt m (zj6 l)
  have hu0:zap 0 0 (spC (zj6 l))=true:=by simp [spC,zap,zaa.under]
  generalize spC (zj6 l)=q at*
  simp -implicitDefEqProofs [zfT,zak,hf,hN,l1,zbp,zai,zaj,hfr]
theorem zOx (L:Lim) (h:zab) (l:List Nat) (c:Bool) (t:Nat):
    zag ctx L zdm [zlC l,.vsl c [[.vsl false (eW (dg t))]]] h=some (.tup [.agg (fpC l [[.nsl],[.nsl],[.vsl false (eW (dg t))]] (zdh t)),.int .i64 0],h):=by
  rw [zlM]
  obtain ⟨M,hM,hMu,_⟩:=zdy
  have hf0:fzA h (zlC l)=some (zlC l,false):=by unfold zlC;rw [hM];simp [fzA,zdE,zaa.flat]
  have hf:=zjZ h c [[zaa.vsl false (eW (dg t))]]
  have hbox:zzh (zlC l)=some (.vptr [.vsl false (nbL l),zey] 0):=rfl
  have hap:=fun bs=>zCF (zak h) h bs [] 1 false [[zaa.nsl],[.nsl]] [[.vsl false (eW (dg t))]] (by simp [zh1,zam])
  have hu:zaq h.blks.length h.toks.length [[zaa.nsl],[.nsl],[.vsl false (eW (dg t))]]=true:=by simp [zaq,zap,zaa.under]
  have hul:=zdN 0 0 l
  have hfz:∀ bs ts m,frz (hx h bs ts) h.blks.length h.toks.length (m+2) (.agg [.vsl false (nbL l),zey,gA h.toks.length 0 [[.nsl],[.nsl],[.vsl false (eW (dg t))]],.int .i64 0,.int .i64 2,.int .i64 0])=
      some (.agg (fpC l [[.nsl],[.nsl],[.vsl false (eW (dg t))]] (zdh t))):=fun bs ts m=>by
    have hfl:zdE [.vsl false (nbL l),zey,gA h.toks.length 0 [[.nsl],[.nsl],[.vsl false (eW (dg t))]],.int .i64 0,.int .i64 2,.int .i64 0]=false:=by simp [zdE,zaa.flat]
    have hg:frz (hx h bs ts) h.blks.length h.toks.length (m+2) (.agg [.vsl false (nbL l),zey,gA h.toks.length 0 [[.nsl],[.nsl],[.vsl false (eW (dg t))]],.int .i64 0,.int .i64 2,.int .i64 0])=
        ([.vsl false (nbL l),zey,gA h.toks.length 0 [[.nsl],[.nsl],[.vsl false (eW (dg t))]],.int .i64 0,.int .i64 2,.int .i64 0].mapM (frz (hx h bs ts) h.blks.length h.toks.length (m+1))).map .agg:=by
      rw [frz.eq_def]
      simp only [hfl]
      rfl
    have fi:∀ a:Int,frz (hx h bs ts) h.blks.length h.toks.length (m+1) (.int .i64 a)=some (.int .i64 a):=fun a=>by rw [frz.eq_def]
    have fg:=zpp (hx h bs ts) h.blks.length h.toks.length m 0 _ hu
    have f1:=zhq (hx h bs ts) h.blks.length h.toks.length m false (zdN h.blks.length h.toks.length l)
    have f3:=zhq (hx h bs ts) h.blks.length h.toks.length m false (hMu h.blks.length h.toks.length)
    rw [hg]
    simp only [List.mapM_cons,List.mapM_nil,f1,hM,f3,fg,fi,fpC]
    rfl
  have p2:zb2 true [zaa.vsl false (nbL l),zey] 0 2=some (zlC l):=rfl
  have hcl:(zlC l).cells=[.vsl false (nbL l),zey]:=by unfold zlC;simp only [zaa.cells]
  have hok:(zlC l).okV=true:=by unfold zlC;exact zii _
  have hrep:zaA (rep [zaa.nsl] 2) [(0,1,.nsl),(1,1,.nsl)]=some [.nsl,.nsl]:=rfl
  have hch:chunks 1 2 [zaa.nsl,.nsl]=[[.nsl],[.nsl]]:=rfl
  simp only [zak,List.nil_append,List.length_nil] at hap
  generalize fpC l [[.nsl],[.nsl],[.vsl false (eW (dg t))]] (zdh t)=res at*
  generalize eW (dg t)=e at*
  generalize nbL l=nl at*
  generalize zey=cm at*
  generalize zlC l=tv at*
  simp -implicitDefEqProofs [ze9,zak,hf0,hf,hbox,hrep,hch,hap,p2,zaA,hcl,hok,setAt,zaj,zbp,zai,hfz]
theorem zEu (t:Nat):NbS [[.nsl],[.nsl],[.vsl false (eW (dg t))]] (zdh t).S:=by
  refine ⟨⟨rfl,fun i hi=>?_⟩,rfl,fun nb nt=>by simp [zaq,zap,zaa.under]⟩
  match i with
  | 0=>exact ⟨.nsl,rfl,LV.nsl⟩
  | 1=>exact ⟨.nsl,rfl,LV.nsl⟩
  | 2=>exact ⟨_,rfl,LV.vsl _ _⟩
  | i+3=>simp [zdh] at hi;omega
theorem zLp (L:Lim) (h:zab) (l:List Nat) (c:Bool) (t:List Int) (hb:inB t) (hl:t.length=32):
    zag ctx L zdR [zlC l,.vsl c (eI .u8 t)] h=some (.agg (fpC l [[.nsl],[.nsl],[.vsl false (eW (dg (leN t % pN)))]] (zdh (leN t % pN))),h):=by
  rw [zmj]
  obtain ⟨M,hM,hMu,_⟩:=zdy
  have hf0:fzA h (zlC l)=some (zlC l,false):=by unfold zlC;rw [hM];simp [fzA,zdE,zaa.flat]
  have hf:=zjZ h c (eI .u8 t)
  have hbox:zzh (zlC l)=some (.vptr [.vsl false (nbL l),zey] 0):=rfl
  have p2:zb2 true [zaa.vsl false (nbL l),zey] 0 2=some (zlC l):=rfl
  have hE:=fun L h=>zFF L h false t hb hl
  have hN:=fun L h=>zOx L h l true (leN t % pN)
  have hfill:=zA7 (.vsl false (eW (dg (leN t % pN)))) false _ rfl
  have l1:(fpC l [[.nsl],[.nsl],[.vsl false (eW (dg (leN t % pN)))]] (zdh (leN t % pN))).length=6:=rfl
  have hfr:=fun hh nb nt m=>zEx hh nb nt m l [[.nsl],[.nsl],[.vsl false (eW (dg (leN t % pN)))]] (zdh (leN t % pN)) (fun nb nt=>by simp [zaq,zap,zaa.under])
  generalize fpC l [[.nsl],[.nsl],[.vsl false (eW (dg (leN t % pN)))]] (zdh (leN t % pN))=q at*
  generalize eW (dg (leN t % pN))=e at*
  generalize zlC l=tv at*
  generalize nbL l=nl at*
  generalize zey=cm at*
  simp -implicitDefEqProofs [zfB,zak,hf0,hf,hbox,p2,hE,hfill,zki,hN,l1,zbp,zai,zaj,hfr]
end Go.Av
namespace Go.Av
@[simp] theorem zYe (n i o:Nat):eqA .ptr (pA n i o) .nilp=some false:=rfl
theorem zCN (s:ByteArray):(s==s)=true:=(Go.MapKept.bytes_beq s s).2 rfl
theorem zyJ (l m:List Int):byA (l++m)=byA l++byA m:=by
  apply ByteArray.ext
  simp [byA,ByteArray.data_append]
theorem zAx (l:List Int):(byA l).size=l.length:=by
  show (l.map fun n=>UInt8.ofNat n.toNat).toArray.size=_
  simp
theorem zFJ (a b:ByteArray) (h:decide (a.size+b.size < 1000000000000)=true):zdj .add (.str a) (.str b)=some (.str (a++b)):=by
  have h':a.size+b.size < 1000000000000:=by simpa using h
  have:¬((a.size+b.size:Nat):Int) > IntKind.i64.max:=by rw [show IntKind.i64.max=9223372036854775807 by decide];omega
  simp only [zdj]
  rw [if_neg this]
theorem zw4 (k:IntKind) (c:Bool) (l:List Nat) (i:Nat) (h:i < l.length):zcP none 4 (.vsl c (eF l)) (.int k (i:Int))=some (.vptr (cW (fe (gd l 0 i))) 0):=by
  simp [zcP,asI,eF,gd,List.getD,h]
theorem zVg (p nt sz n:Nat) (cap:Option Nat):SwV p nt (.sl p 0 sz n cap) (.sl (p+1) 0 sz n cap):=by
  have:=SwV.sl (p:=p) (nt:=nt) (p+1) 0 sz n cap
  rwa [show swI p (p+1)=p by unfold swI;rw [if_neg (by omega),if_pos rfl]] at this
theorem zVi (p nt sz n:Nat) (cap:Option Nat):SwV p nt (.sl (p+1) 0 sz n cap) (.sl p 0 sz n cap):=by
  have:=SwV.sl (p:=p) (nt:=nt) p 0 sz n cap
  rwa [show swI p p=p+1 by unfold swI;rw [if_pos rfl]] at this
theorem SwL.same {p nt:Nat}:∀ {l:List zaa},zap p nt l=true→SwL p nt l l
  | [],_=>.nil
  | c :: l, h => by
    simp only [zap,Bool.and_eq_true] at h
    exact .cons _ _ _ _ (.same _ h.1) (SwL.same h.2)
theorem zFL (k:IntKind) (p nt:Nat) (l:List Int):zap p nt (cI k l)=true:=zfb (Nat.zero_le _) (Nat.zero_le _) _ (zBY k l)
theorem zOC (t : List Int) (ht : t.length = 32) : byA (zj6 t).S = byA (tab 136 fun _ => 0) ++ byA t ++ byA (tab 32 fun _ => 0) := by
  rw [← zE3 t ht,ztS,zyJ,zyJ]
theorem zVj {L:Lim} {fr:Fr} {h:zab} {R:Option (AEx × Fr × zab)} (a b c d e:List zaa) (t:List Int) (ht:t.length=32) (S3:List Nat) (hS3:S3.length=3)
    (h2:fr 2=.vptr (cI .u8 t) 0) (h7:fr 7=.vsl false (eI .u8 (zj6 t).S)) (h8:fr 8=.vsl false (eF S3))
    (hR:run ctx L (.draw2 [⟨(some 40),.v (.mv (.t 7)),none,[7],0,0⟩,
   ⟨(some 41),.v (.lenL (.t 40)),none,[40],0,0⟩,
   ⟨(some 42),.v (.bin .neq (.t 41) (.k (.int .i64 200))),none,[41],0,0⟩,
   ⟨(some 43),.v (.mv (.t 42)),none,[42],0,0⟩,
   ⟨(some 44),.v (.mv (.t 8)),(some (43,false)),[8,43],0,0⟩,
   ⟨(some 45),.v (.lenL (.t 44)),(some (43,false)),[44,43],0,0⟩,
   ⟨(some 46),.v (.bin .neq (.t 45) (.k (.int .i64 3))),(some (43,false)),[45,43],0,0⟩,
   ⟨(some 47),.v (.pick (.t 43) (.k (.bool true)) (.t 46)),none,[43,46],0,0⟩,
   ⟨(some 48),.v (.mv (.t 47)),none,[47],0,0⟩,
   ⟨(some 49),.v (.mv (.t 7)),(some (48,false)),[7,48],0,0⟩,
   ⟨(some 50),.r (.b2s (.t 49)),(some (48,false)),[49,48],0,2⟩,
   ⟨(some 51),.c (.mk 1 [.int .u8 0] (.k (.int .i64 136))),(some (48,false)),[48],0,0⟩,
   ⟨(some 52),.r (.b2s (.t 51)),(some (48,false)),[51,48],1,2⟩,
   ⟨(some 53),.v (.slice (.arr 32) 1 (.t 2) none none none),(some (48,false)),[2,48],0,0⟩,
   ⟨(some 54),.r (.b2s (.t 53)),(some (48,false)),[53,48],0,2⟩,
   ⟨(some 55),.v (.bin .add (.t 52) (.t 54)),(some (48,false)),[52,54,48],0,0⟩,
   ⟨(some 56),.c (.mk 1 [.int .u8 0] (.k (.int .i64 32))),(some (48,false)),[48],0,0⟩,
   ⟨(some 57),.r (.b2s (.t 56)),(some (48,false)),[56,48],2,2⟩,
   ⟨(some 58),.v (.bin .add (.t 55) (.t 57)),(some (48,false)),[55,57,48],0,0⟩,
   ⟨(some 59),.v (.bin .neq (.t 50) (.t 58)),(some (48,false)),[50,58,48],0,0⟩,
   ⟨(some 60),.v (.pick (.t 48) (.k (.bool true)) (.t 59)),none,[48,59],0,0⟩]
  [⟨(some 40),.v (.mv (.t 7)),none,[7],0,0⟩,
   ⟨(some 41),.v (.lenL (.t 40)),none,[40],0,0⟩,
   ⟨(some 42),.v (.bin .neq (.t 41) (.k (.int .i64 200))),none,[41],0,0⟩,
   ⟨(some 43),.v (.mv (.t 42)),none,[42],0,0⟩,
   ⟨(some 44),.v (.mv (.t 8)),(some (43,false)),[8,43],0,0⟩,
   ⟨(some 45),.v (.lenL (.t 44)),(some (43,false)),[44,43],0,0⟩,
   ⟨(some 46),.v (.bin .neq (.t 45) (.k (.int .i64 3))),(some (43,false)),[45,43],0,0⟩,
   ⟨(some 47),.v (.pick (.t 43) (.k (.bool true)) (.t 46)),none,[43,46],0,0⟩,
   ⟨(some 48),.v (.mv (.t 47)),none,[47],0,0⟩,
   ⟨(some 49),.v (.mv (.t 7)),(some (48,false)),[7,48],0,0⟩,
   ⟨(some 50),.r (.b2s (.t 49)),(some (48,false)),[49,48],0,2⟩,
   ⟨(some 53),.v (.slice (.arr 32) 1 (.t 2) none none none),(some (48,false)),[2,48],0,0⟩,
   ⟨(some 54),.r (.b2s (.t 53)),(some (48,false)),[53,48],0,2⟩,
   ⟨(some 56),.c (.mk 1 [.int .u8 0] (.k (.int .i64 32))),(some (48,false)),[48],0,0⟩,
   ⟨(some 57),.r (.b2s (.t 56)),(some (48,false)),[56,48],1,2⟩,
   ⟨(some 51),.c (.mk 1 [.int .u8 0] (.k (.int .i64 136))),(some (48,false)),[48],0,0⟩,
   ⟨(some 52),.r (.b2s (.t 51)),(some (48,false)),[51,48],2,2⟩,
   ⟨(some 55),.v (.bin .add (.t 52) (.t 54)),(some (48,false)),[52,54,48],0,0⟩,
   ⟨(some 58),.v (.bin .add (.t 55) (.t 57)),(some (48,false)),[55,57,48],0,0⟩,
   ⟨(some 59),.v (.bin .neq (.t 50) (.t 58)),(some (48,false)),[50,58,48],0,0⟩,
   ⟨(some 60),.v (.pick (.t 48) (.k (.bool true)) (.t 59)),none,[48,59],0,0⟩]
  [(0,0),(1,1),(2,2),(3,3),(4,4),(5,5),(6,6),(7,7),(8,8),(9,9),(10,10),(13,11),(14,12)]) fr (hx h [a,b,c,d,e] [])=R):
    ∃ F z1 z2,R=some (.normal,F,hx h [a,b,c,d,e,z1,z2] [])∧F 60=.bool false∧F 0=fr 0∧F 1=fr 1∧F 2=fr 2∧F 4=fr 4∧F 5=fr 5∧F 6=fr 6∧F 7=fr 7∧F 8=fr 8:=by
  have hstr:=zOC t ht
  have hsz:(zj6 t).S.length=200:=by simp only [zj6];rw [zwA _ _ _ (by simp [ht])];simp
  have hs1:(byA (tab 136 fun _=>0)).size=136:=by rw [zAx];rfl
  have hs2:(byA t).size=32:=by rw [zAx];exact ht
  have hs3:(byA (tab 32 fun _=>0)).size=32:=by rw [zAx];rfl
  have hsl:=zzv .u8 32 t ht
  have hA1:=zFJ (byA (tab 136 fun _=>0)) (byA t) (by simp [hs1,hs2])
  have hA2:=zFJ (byA (tab 136 fun _=>0)++byA t) (byA (tab 32 fun _=>0)) (by simp [hs1,hs2,hs3])
  have hb1:=fun x=>zsw h [a,b,c,d,e,cI .u8 (tab 136 fun _=>0),x] [] 5 136 (some 136) (tab 136 fun _=>0) rfl (by simp)
  have hb1':=zsw h [a,b,c,d,e,cI .u8 (tab 136 fun _=>0)] [] 5 136 (some 136) (tab 136 fun _=>0) rfl (by simp)
  have hb2:=fun x=>zsw h [a,b,c,d,e,x,cI .u8 (tab 32 fun _=>0)] [] 6 32 (some 32) (tab 32 fun _=>0) rfl (by simp)
  have hb3:=fun x=>zsw h [a,b,c,d,e,x,cI .u8 (tab 136 fun _=>0)] [] 6 136 (some 136) (tab 136 fun _=>0) rfl (by simp)
  have hb4:=fun x=>zsw h [a,b,c,d,e,cI .u8 (tab 32 fun _=>0),x] [] 5 32 (some 32) (tab 32 fun _=>0) rfl (by simp)
  have hb4':=zsw h [a,b,c,d,e,cI .u8 (tab 32 fun _=>0)] [] 5 32 (some 32) (tab 32 fun _=>0) rfl (by simp)
  have hself:=zCN (byA (tab 136 fun _=>0)++byA t++byA (tab 32 fun _=>0))
  have hu1:=zFL .u8 (h.blks.length+5) h.toks.length (tab 136 fun _=>0)
  have hu2:=zFL .u8 (h.blks.length+5) h.toks.length (tab 32 fun _=>0)
  have huS:(zaa.vsl false (eI .u8 (zj6 t).S)).under (h.blks.length+5) h.toks.length=true:=by simp [zaa.under]
  have hu3:(zaa.vsl false (eF S3)).under (h.blks.length+5) h.toks.length=true:=by simp [zaa.under]
  have hut:(zaa.vsl true (eI .u8 t)).under (h.blks.length+5) h.toks.length=true:=by simp [zaa.under]
  have ne1:cI .u8 (tab 136 fun _=>0)≠[]:=fun e=>by have:=congrArg List.length e;simp at this
  have ne2:cI .u8 (tab 32 fun _=>0)≠[]:=fun e=>by have:=congrArg List.length e;simp at this
  generalize hz1:(tab 136 fun _=>(0:Int))=z1 at*
  generalize hz2:(tab 32 fun _=>(0:Int))=z2 at*
  generalize hss:byA z1++byA t++byA z2=ss at*
  generalize byA z1++byA t=s12 at*
  have e1:(hx h [a,b,c,d,e] []).blks.length=h.blks.length+5:=by simp [hx]
  have e2:(hx h [a,b,c,d,e] []).toks.length=h.toks.length:=by simp [hx]
  simp -implicitDefEqProofs [h2,h7,h8,hsz,hS3,hsl,zj7,zam,zjm,zjs,hz1,hz2,hb1,hb1',hb2,hb3,hb4,hb4',hA1,hA2,hstr,hself,hss] at hR
  rw [zCm] at hR
  · subst hR
    have hq:∀ (F:Fr) (H H':zab),H=H'→some (AEx.normal,F,H)=some (AEx.normal,F,H'):=fun F H H' e=>by rw [e]
    refine ⟨_,cI .u8 z1,cI .u8 z2,hq _ _ _ (by simp),?_⟩
    simp [h2]
  · refine ⟨.inr ⟨cI .u8 z1, cI .u8 z2, cI .u8 z1, cI .u8 z2, by simp [hx], by simp [hx], ne1, ne2, ?_, ?_, ?_⟩, ?_⟩
    · rw [e1,e2];exact .same hu1
    · rw [e1,e2];exact .same hu2
    · rw [e1,e2]
      intro r hr
      simp only [zbM,List.mem_cons,List.not_mem_nil,or_false] at hr
      rcases hr with rfl | rfl | rfl | rfl | rfl | rfl | rfl | rfl | rfl | rfl | rfl | rfl | rfl | rfl | rfl | rfl | rfl | rfl | rfl | rfl | rfl
      all_goals first
        | exact .same _ rfl
        | exact .same _ huS
        | exact .same _ hu3
        | exact .same _ hut
        | exact zVg _ _ _ _ _
        | exact zVi _ _ _ _ _
    · intro q hq
      simp only [List.mem_cons,List.not_mem_nil,or_false] at hq
      rcases hq with rfl | rfl | rfl | rfl | rfl | rfl | rfl | rfl | rfl | rfl | rfl | rfl | rfl <;> rfl
end Go.Av
namespace Go.Av
theorem zLx {t:List Int} (ht:t.length=32) (hb:inB t):(zj6 t).ok:=zQF (by omega) hb
theorem zB4 (L:Lim) (h:zab) (t:List Int) (ht:t.length=32) (hb:inB t) (m:Int) (hm:0≤m∧m < 256):
    zag ctx L zdk [.agg (cI .u8 t),.int .u8 m] h=some (.bool true,h):=by
  rw [zlH]
  have hbox:zzh (.agg (cI .u8 t))=some (.vptr (cI .u8 t) 0):=rfl
  have hpt:zb2 true (cI .u8 t) 0 32=some (.agg (cI .u8 t)):=zaj _ _ (by simp [ht])
  have hLo:(zak h).rob≤h.blks.length:=Nat.le_refl _
  have hTo:(zak h).rot≤h.toks.length:=Nat.le_refl _
  obtain ⟨Q,hQ⟩:=zGT
  have hQl:=(zih zp8 hQ).2
  have hQlt:=zFK zp8 hQ
  obtain ⟨K,hK⟩:∃ K,Q.2++zae=K:=⟨_,rfl⟩
  obtain ⟨u,hu⟩:∃ u,u=leN t % pN:=⟨_,rfl⟩
  have hup:u < pN:=by rw [hu];exact Nat.mod_lt _ zd1
  have hs0:=zLx ht hb
  have hf0:=zMR u hup
  have hOB:=zDD (zak h) h [] [] t ht hLo
  have hOF:=zBn (zak h) h [cI .u8 (zj6 t).S,spO h.blks.length 0 (zj6 t)] [] t hb ht hLo
  rw [← hu] at hOF
  simp only [List.nil_append,List.length_nil,List.cons_append,List.length_cons] at hOB hOF
  obtain ⟨A,hA⟩:∃ A,A=cI .u8 (zj6 t).S:=⟨_,rfl⟩
  obtain ⟨B,hB⟩:∃ B,B=spO h.blks.length 0 (zj6 t):=⟨_,rfl⟩
  obtain ⟨po,hpo⟩:∃ po,po=poC 0 0 0 (tab 204 fun _=>0):=⟨_,rfl⟩
  obtain ⟨D,hD⟩:∃ D,D=cW (feL (zdh u).S):=⟨_,rfl⟩
  obtain ⟨E,hE⟩:∃ E,E=fO h.blks.length 3 2 (zdh u):=⟨_,rfl⟩
  have hBC:∀ L,zag ctx L zbI [pA h.blks.length 1 0] (hx h [A,B,po,D,E] [])=some (.int .i64 0,hx h [A,B,po,D,E] []):=fun L=>
    zIE L (hx h [A,B,po,D,E] []) _ (zj6 t) 0 h.blks.length (h.blks.length+1) rfl (zoI [] (by rw [hB];rfl))
  have hFC:∀ L,zag ctx L zaL [pA h.blks.length 4 0] (hx h [A,B,po,D,E] [])=some (.int .i64 0,hx h [A,B,po,D,E] []):=fun L=>
    zLf L (hx h [A,B,po,D,E] []) (h.blks.length+4) h.blks.length 3 2 (zdh u) (zoI [] (by rw [hE];rfl))
  have hBS:∀ L,zag ctx L zbJ [pA h.blks.length 1 0] (hx h [A,B,po,D,E] [])=some (.vsl false (eI .u8 (zj6 t).S),hx h [A,B,po,D,E] []):=fun L=>
    zJs L (hx h [A,B,po,D,E] []) (h.blks.length+1) h.blks.length 0 (zj6 t) (zoI [] (by rw [hB];rfl)) (zoI [] (by rw [hA];rfl)) hs0.1
  have hFS:∀ L,zag ctx L zaM [pA h.blks.length 4 0] (hx h [A,B,po,D,E] [])=some (.vsl false (eF (zdh u).S),hx h [A,B,po,D,E] []):=fun L=>
    zLe L (hx h [A,B,po,D,E] []) (h.blks.length+4) h.blks.length 3 2 (zdh u) (zoI [] (by rw [hE];rfl)) (zoI [] (by rw [hD];rfl)) rfl
  have hR1:=fun L h=>zLo L h true t ht
  have hR2:=fun L h=>zOp L h (zj6 t) hs0 m m.toNat rfl (by omega) (by simp [zj6])
  have hT:=fun L h=>zRW L h Q hQ
  have hR3:=fun L h=>zLp L h Q.2 true t hb ht
  rw [← hu] at hR3
  obtain ⟨P,hP⟩:∃ P,P=spC (zd5 (zj6 t) m.toNat):=⟨_,rfl⟩
  have hPu:zap 0 0 P=true:=by rw [hP];simp [spC,zap,zaa.under]
  have hPl:P.length=4:=by rw [hP];rfl
  rw [← hP] at hR2
  have hG:=fun L h=>zOr L h Q.2 hQl hQlt K hK (zdh u) _ (zEu u) hf0 2 2 rfl (by decide) (by simp [zdh])
  have hos:=zCz (K:=K) (zEu u) hf0 2
  obtain ⟨w,hw⟩:∃ w,w=zlB K (zdh u) 2:=⟨_,rfl⟩
  have hwl:w.length=2:=by rw [hw];exact zCM _ _ _
  have hwp : ∀ i, i < 2 → gd w 0 i < pN := fun i hi => by
    rw [hw];unfold zlB;rw [zbz hi];exact (zCJ (zqw hf0 i)).2
  rw [← hw] at hos
  obtain ⟨F6,hF6⟩:∃ F6,F6=fpC Q.2 (esK K (zdh u) [[.nsl],[.nsl],[.vsl false (eW (dg u))]] 2) (zaw K (zdh u) 2):=⟨_,rfl⟩
  have hFu:zap 0 0 F6=true:=by
    obtain ⟨M,hM,hMu,_⟩:=zdy
    rw [hF6];simp [fpC,zap,zaa.under,hM,hMu 0 0,(zFC (K:=K) (zEu u) 2).2.2 0 0,zdN 0 0 Q.2]
  have hFl:F6.length=6:=by rw [hF6];rfl
  rw [← hF6] at hG
  obtain ⟨os,hose⟩:∃ os,os=osK K (zdh u) [[.nsl],[.nsl],[.vsl false (eW (dg u))]] 2:=⟨_,rfl⟩
  rw [← hose] at hG hos
  obtain ⟨u0,iu0,hu0⟩:=zzd .i64 false hos.1 0 (by omega)
  obtain ⟨u1,iu1,hu1⟩:=zzd .i64 false hos.1 1 (by omega)
  have ie0:=zw4 .i64 false w 0 (by omega)
  have ie1:=zw4 .i64 false w 1 (by omega)
  have hIs0:=fun L h=>zPW L h (gd w 0 0) u0 (by rw [Nat.mod_eq_of_lt (hwp 0 (by decide))];exact hu0)
  have hIs1:=fun L h=>zPW L h (gd w 0 1) u1 (by rw [Nat.mod_eq_of_lt (hwp 1 (by decide))];exact hu1)
  have hE1:=fun L h=>zFF L h true t hb ht
  have hE2:=fun L h=>zwe L h t hb ht
  rw [← zyp] at hE2
  rw [← hu] at hE1 hE2
  have hIsu:=fun L h=>zPW L h u (.vsl false (eW (dg u))) (by rw [Nat.mod_eq_of_lt hup];exact LV.vsl _ _)
  have hZ0:=fun L h=>zHF L h 0
  have i0:=zw4 .i64 false (zdh u).S 0 (by simp [zdh])
  have i1:=zw4 .i64 false (zdh u).S 1 (by simp [zdh])
  have i2:=zw4 .i64 false (zdh u).S 2 (by simp [zdh])
  rw [show gd (zdh u).S 0 0=0 from rfl] at i0
  rw [show gd (zdh u).S 0 1=0 from rfl] at i1
  rw [show gd (zdh u).S 0 2=u from rfl] at i2
  have hsl:=zzv .u8 32 t ht
  have wm:IntKind.i64.wrap m=m:=wrap_i64 (by omega) (by omega)
  have f0l:(fe 0).length=4:=rfl
  have ful:(fe u).length=4:=rfl
  have fw0:(fe (gd w 0 0)).length=4:=rfl
  have fw1:(fe (gd w 0 1)).length=4:=rfl
  have hdz:(decide (0 % pN=0))=true:=by simp
  rw [hdz] at hZ0
  rw [show cW (feL [0,0,u])=cW (feL (zdh u).S) from rfl] at hOF
  have hSq:∀ z1 z2:List zaa,∃ z',zag ctx (zak h) zaE [pA h.blks.length 4 0,.int .i64 2] (hx h [A,B,po,D,E,z1,z2,P,F6] [])=
      some (.vsl false (eF w),hx h [A,B,z',cW (feL (zaw K (zdh u) 2).S),fO h.blks.length 3 2 (zaw K (zdh u) 2),z1,z2,P,F6] []):=fun z1 z2=>by
    obtain ⟨z',_,h2⟩:=zDA (zak h) h [A,B,po,D,E,z1,z2,P,F6] [] 4 3 2 (zdh u) po hf0 2 2 rfl (by decide) (by simp [zdh]) (by simp) (by simp) (by simp) (by decide) (by decide) (by decide) Q hQ K hK (by rw [hpo];exact zNG K) hLo hTo
    refine ⟨z',?_⟩
    rw [hw]
    have e1:fH [A,B,po,D,E,z1,z2,P,F6] 4 3 2 h.blks.length (zdh u) po=[A,B,po,D,E,z1,z2,P,F6]:=by rw [hD,hE];rfl
    have e2:fH [A,B,po,D,E,z1,z2,P,F6] 4 3 2 h.blks.length (zaw K (zdh u) 2) z'=[A,B,z',cW (feL (zaw K (zdh u) 2).S),fO h.blks.length 3 2 (zaw K (zdh u) 2),z1,z2,P,F6]:=rfl
    rw [e1,e2] at h2
    exact h2
  have hSb:∀ z1 z2 z' D' E':List zaa,zag ctx (zak h) zbh [pA h.blks.length 1 0,.int .i64 m] (hx h [A,B,z',D',E',z1,z2,P,F6] [])=
      some (.vsl false (eI .u8 (zpl (zj6 t) m.toNat)),hx h [cI .u8 (zd5 (zj6 t) m.toNat).S,spO h.blks.length 0 (zd5 (zj6 t) m.toNat),z',D',E',z1,z2,P,F6] []):=fun z1 z2 z' D' E'=>by
    have h2:=zDm (zak h) h [A,B,z',D',E',z1,z2,P,F6] [] 1 0 (zj6 t) hs0 m m.toNat rfl (by omega) (by simp [zj6]) (by simp) (by simp) (by decide) hLo hTo
    have e1:spH [A,B,z',D',E',z1,z2,P,F6] 1 0 h.blks.length (zj6 t)=[A,B,z',D',E',z1,z2,P,F6]:=by rw [hA,hB];rfl
    have e2:spH [A,B,z',D',E',z1,z2,P,F6] 1 0 h.blks.length (zd5 (zj6 t) m.toNat)=[cI .u8 (zd5 (zj6 t) m.toNat).S,spO h.blks.length 0 (zd5 (zj6 t) m.toNat),z',D',E',z1,z2,P,F6]:=rfl
    rw [e1,e2] at h2
    exact h2
  have htwo:=fun L fr R h2 h7 h8 hR=>zVj (L:=L) (fr:=fr) (h:=h) (R:=R) A B po D E t ht (zdh u).S rfl h2 h7 h8 hR
  rw [← hA,← hB] at hOB
  rw [← hA,← hB,← hpo,← hD,← hE] at hOF
  simp only [zak,Nat.zero_add,Nat.reduceAdd] at hOB hOF
  have hself:=zCN (byA (zpl (zj6 t) m.toNat))
  simp only [Int.natCast_zero,Int.natCast_one,Int.cast_ofNat_Int] at iu0 iu1 ie0 ie1 i0 i1 i2
  generalize fO h.blks.length 3 2 (zaw K (zdh u) 2)=E2 at*
  generalize cW (feL (zaw K (zdh u) 2).S)=D2 at*
  generalize zpl (zj6 t) m.toNat=gv at*
  generalize cI .u8 (zd5 (zj6 t) m.toNat).S=A2 at*
  generalize spO h.blks.length 0 (zd5 (zj6 t) m.toNat)=B2 at*
  generalize eW (dg u)=du at*
  generalize fe (gd w 0 0)=x0 at*
  generalize fe (gd w 0 1)=x1 at*
  generalize fe u=xu at*
  generalize fe 0=xz at*
  simp -implicitDefEqProofs [ze7, -zyD,hbox,hpt,zKD,zak,hOB,hOF,hBC,hFC,hBS,hFS]
  generalize hR:run ctx _ (.draw2 _ _ _) _ _=R
  obtain ⟨F,z1,z2,rfl,F60,F0,F1,F2,F4,F5,Fs,F7,F8⟩:=htwo _ _ _ (by simp) (by simp) (by simp) hR
  simp -implicitDefEqProofs at F0 F1 F2 F4 F5 Fs F7 F8
  obtain ⟨z',hSq'⟩:=hSq z1 z2
  have hSb':=hSb z1 z2 z' D2 E2
  simp only [zak] at hSq' hSb'
  simp -implicitDefEqProofs [F60,F0,F1,F2,F4,F5,Fs,F7,F8,i0,i1,i2,hZ0,zaj,f0l,ful,fw0,fw1,hsl,hE1,hE2,hIsu,hpt,hR1,hR2,wm,hPu,hPl,zbp,zai,zah,hT,hR3,hG,hFu,hFl,hSq',hSb',hself,hwl,iu0,iu1,ie0,ie1,hIs0,hIs1]
end Go.Av
