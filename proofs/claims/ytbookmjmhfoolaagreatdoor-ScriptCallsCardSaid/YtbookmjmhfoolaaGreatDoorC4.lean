/- The sponge of bytes; items read off bytes; a new guard. -/
import Derived.Test.YtbookmjmhfoolaaGreatDoorC3
import Derived.Test.YtbookmjmhfoolaaGreatDoorC1
import Derived.Test.YtbookmjmhfoolaaGreatDoorC2
set_option linter.unusedSimpArgs false
set_option linter.unusedVariables false
set_option maxHeartbeats 2000000
set_option maxRecDepth 20000
namespace Go.Av
end Go.Av
namespace Go.Av
theorem zzb {s:Sp} (hb:s.b=136):zw9 s=⟨zmL s.S,0,1,s.c+1⟩∧zKR s=gd (zmL s.S) 0 0:=by
  unfold zw9 zKR zEh;rw [if_pos hb];exact ⟨rfl,rfl⟩
theorem zzc {s:Sp} (hb:¬s.b=136):zw9 s=⟨s.S,s.a,s.b+1,s.c⟩∧zKR s=gd s.S 0 s.b:=by
  unfold zw9 zKR zEh;rw [if_neg hb];exact ⟨rfl,rfl⟩
theorem zr6 (s:Sp):∀ n,(zdl s n).c≤s.c+n
  | 0=>Nat.le_refl _
  | n + 1 => by
    have:=zr6 s n
    rw [zdl]
    by_cases hb:(zdl s n).b=136
    · rw [(zzb hb).1];simp only [];omega
    · rw [(zzc hb).1];simp only [];omega
end Go.Av
namespace Go.Av
theorem zHr (b:List Int) (hb:inB b) (hl:b.length=200):∀ k,k≤200→∀ q,q < 25→(gd (obK b 200 k) 0#64 q).toNat=leN ((b.take (8*q+8)).drop (max (200 - k) (8*q)))
  | 0,_,q,hq=>by rw [obK,zk3 hq,List.drop_eq_nil_of_le (by simp;omega)];rfl
  | k + 1, hk, q, hq => by
    have ih:=zHr b hb hl k (by omega) q hq
    obtain ⟨i,hi⟩:∃ i,i=199 - k:=⟨_,rfl⟩
    have hi2:200 - (k+1)=i:=by omega
    have hi3:200 - k=i+1:=by omega
    have hbi:=hb i (by omega)
    rw [obK,show 200 - 1 - k=i by omega,hi2]
    rw [hi3] at ih
    rw [zk9 _ _ _ _ _ (by simp;omega)]
    by_cases h:i / 8=q
    · rw [if_pos h,h]
      obtain ⟨v,hv⟩:∃ v:Nat,gd b 0 i=(v:Int):=⟨(gd b 0 i).toNat,by omega⟩
      have e1:max (i+1) (8*q)=i+1:=by omega
      have e2:max i (8*q)=i:=by omega
      rw [e1] at ih
      rw [e2]
      have hil:i < (b.take (8*q+8)).length:=by simp;omega
      have hcons:(b.take (8*q+8)).drop i=gd b 0 i :: (b.take (8*q+8)).drop (i+1):=by
        rw [List.drop_eq_getElem_cons hil]
        congr 1
        simp [gd,List.getD,List.getElem_take,show i < b.length by omega]
      have hB:=zqZ (zl8 hb (8*q+8)) i
      have hlt:=zze hB
      rw [hcons] at hlt ⊢
      have hlen:((b.take (8*q+8)).drop (i+1)).length≤7:=by simp;omega
      simp only [leN,List.length_cons] at hlt ⊢
      have hp:(256:Nat) ^ (((b.take (8*q+8)).drop (i+1)).length+1)≤2 ^ 64:=by
        rw [show (2:Nat) ^ 64=256 ^ 8 from rfl];exact Nat.pow_le_pow_right (by decide) (by omega)
      rw [BitVec.toNat_add,BitVec.toNat_mul,ih,hv,zHH v (by omega)]
      rw [hv] at hlt
      simp only [Int.toNat_natCast] at hlt ⊢
      rw [show (256#64:W64).toNat=256 from rfl,Nat.mod_add_mod,Nat.mod_eq_of_lt (by omega)]
      omega
    · rw [if_neg h,ih]
      by_cases h2:i < 8*q
      · rw [show max (i+1) (8*q)=max i (8*q) by omega]
      · rw [List.drop_eq_nil_of_le (by simp;omega),List.drop_eq_nil_of_le (by simp;omega)]
theorem zCy (b:List Int) (hb:inB b) (hl:b.length=200):wdP b 25 200=zgs b:=by
  refine List.ext_getElem? fun q=>?_
  by_cases hq:q < 25
  · rw [zul (d := 0#64) (by rw [zu0]; exact hq), zul (d := 0#64) (by rw [zeU]; exact hq)]
    refine congrArg some ?_
    apply BitVec.eq_of_toNat_eq
    rw [zC7 b hb 25 200 (by omega) (by omega) q hq,zgs,zHr b hb hl 200 (by omega) q hq]
    unfold bck
    rw [show min 200 (8*q+8)=8*q+8 by omega,show max (200 - 200) (8*q)=8*q by omega]
  · rw [List.getElem?_eq_none (by rw [zu0];omega),List.getElem?_eq_none (by rw [zeU];omega)]
end Go.Av
namespace Go.Av
theorem zIo (L:Lim) (h:zab) (x:zaa) (cp:Bool) (b:List Int) (hx1:fzA h x=some (.vsl false (eI .u8 b),cp)) (hl:b.length=200) (hb:inB b):
    zag ctx L zeM [x] h=some (.tup [.agg (cW (zgs b)),.int .i64 0],h):=by
  rw [znw]
  have hW:=fun L h=>zut L h (.vsl false (eI .u8 b)) b (RdI.vsl _ _ _ _) (by omega)
  rw [hl,zCy b hb hl] at hW
  have hwl:(zgs b).length=25:=zeU b
  have h2a:=zvZ 25 false (zgs b) (by decide) (by rw [hwl];decide)
  rw [List.take_of_length_le (by omega)] at h2a
  have hfl:(zaa.tup [.agg (cW (zgs b)),.int .i64 0]).flat=true:=by simp [zaa.flat,zb4]
  have hend:=fun h=>zv8 h _ hfl
  generalize zgs b=w at*
  cases cp <;> simp -implicitDefEqProofs [zgI,zau,hx1,hl,hW,h2a,zbi,zaf,hwl,zbB,zah,hend]
theorem zCA {α:Type} (m l:List α) (h:m.length=l.length):putAt m 0 l=l:=by
  unfold putAt;simp;omega
theorem zCB (L:Lim) (h:zab) (bs:List (List zaa)) (ts:List Nat) (i n:Nat) (cap:Option Nat) (k:IntKind) (l m:List Int) (y:zaa) (hy:zaA (hx h bs ts) 1 y=some (eI k l)) (hb:bs[i]?=some (cI k m))
    (hl:l.length=n) (hm:m.length=n) (hL:L.rob≤h.blks.length):
    zAY L (hx h bs ts) 1 (sA h.blks.length i 0 1 n cap) y=some (.int .i64 n,hx h (bs.set i (cI k l)) ts):=by
  have:=zEd L h bs ts i 0 n cap k l m y hy hb (by omega) hL
  rw [hl,Nat.min_self,List.take_of_length_le (by omega),zCA _ _ (by omega)] at this
  exact this
theorem zFp (L:Lim) (h:zab) (bs:List (List zaa)) (ts:List Nat) (j:Nat) (cap:Option Nat) (S:List Int) (hS:S.length=200) (hb:inB S) (hj:bs[j]?=some (cI .u8 S)) (hL:L.rob≤h.blks.length):
    zag ctx L zbs [.agg [],sA h.blks.length j 0 1 200 cap] (hx h bs ts)=some (.tup [],hx h (bs.set j (cI .u8 (zmL S))) ts):=by
  rw [ziK]
  obtain ⟨hjl,_⟩:=List.getElem?_eq_some_iff.1 hj
  have hf:=zHn h bs ts j 200 cap .u8 S hj hS
  have hK:=fun L=>zIo L _ _ true S hf hS hb
  have hP:=fun L h=>zpx L h (zgs S) (zeU S)
  have hB:=fun L h=>ztM L h (zom (zgs S)) (by rw [zes];exact zeU S)
  rw [show zev (zom (zgs S))=zmL S from rfl] at hB
  have l1:(zgs S).length=25:=zeU S
  have l2:(zom (zgs S)).length=25:=by rw [zes];exact l1
  have l3:(zmL S).length=200:=zra S
  have hbox:zmB (.agg [])=some (.vptr [] 0):=rfl
  have hsl:=zln 200 1 h.blks.length (bs.length+1) 0 (by decide)
  have hel : ∀ w : List zaa, zaA (hx h (bs ++ [w, cI .u8 (zmL S)]) ts) 1 (sA h.blks.length (bs.length + 1) 0 1 200 (some 200)) = some (eI .u8 (zmL S)) := fun w => by
    have:=zuH h (bs++[w,cI .u8 (zmL S)]) ts (bs.length+1) 200 (cI .u8 (zmL S)) (some 200) (by rw [List.getElem?_append_right (by omega)];simp) (by simp)
    rw [this,zqS]
  have hcp : ∀ (L : Lim) (w : List zaa), L.rob ≤ h.blks.length → zAY L (hx h (bs ++ [w, cI .u8 (zmL S)]) ts) 1 (sA h.blks.length j 0 1 200 cap) (sA h.blks.length (bs.length + 1) 0 1 200 (some 200)) = some (.int .i64 200, hx h (bs.set j (cI .u8 (zmL S)) ++ [w, cI .u8 (zmL S)]) ts) := fun L w hL => by
    have:=zCB L h (bs++[w,cI .u8 (zmL S)]) ts j 200 cap .u8 (zmL S) S _ (hel w) (by rw [List.getElem?_append_left hjl];exact hj) l3 hS hL
    rw [this,List.set_append_left _ _ hjl];rfl
  generalize zmL S=T at*
  generalize zom (zgs S)=p at*
  generalize zgs S=w at*
  have htr:=fun js=>zog h (bs.set j (cI .u8 T)) js ts bs.length (by simp)
  have hg0:=fun x=>zdm bs [x] bs.length 0 rfl
  have hg1:=fun x y=>zdm bs [x,y] bs.length 0 rfl
  have hg2:=fun x y=>zdm bs [x,y] bs.length 1 rfl
  have hs0:=fun x v=>zeI bs [x] bs.length 0 v rfl
  have hs1:=fun x y v=>zeI bs [x,y] bs.length 1 v rfl
  simp only [Nat.add_zero,List.getElem?_cons_zero,List.getElem?_cons_succ,List.set_cons_zero,List.set_cons_succ] at hg0 hg1 hg2 hs0 hs1
  simp -implicitDefEqProofs [zdi,zam,zak,hbox,hK,zbi,zgf,zbB,zah,zan,hL,hP,hB,l1,l2,l3,hg0,hg1,hg2,hs0,hs1,zaf,hsl,hcp,htr]
def spO (n j:Nat) (s:Sp):List zaa:=[.iface 230 (.agg []),sA n j 0 1 200 (some 200),.int .i64 s.a,.int .i64 s.b,.int .i64 s.c]
def sp2 (bs:List (List zaa)) (i j:Nat) (x y:List zaa):List (List zaa):=(bs.set i x).set j y
@[simp] theorem zOL (bs:List (List zaa)) (i j:Nat) (x y:List zaa):(sp2 bs i j x y).length=bs.length:=by simp [sp2]
theorem zCC {bs:List (List zaa)} {i j:Nat} (hi:i < bs.length) (hij:i≠j) (x y:List zaa):(sp2 bs i j x y)[i]?=some x:=by
  unfold sp2;rw [List.getElem?_set_ne (Ne.symm hij),List.getElem?_set_self hi]
theorem zFs {bs:List (List zaa)} {i j:Nat} (hj:j < bs.length) (x y:List zaa):(sp2 bs i j x y)[j]?=some y:=by
  unfold sp2;rw [List.getElem?_set_self (by simpa using hj)]
theorem zy0 {bs:List (List zaa)} {i j:Nat} (hij:i≠j) (x y x':List zaa):(sp2 bs i j x y).set i x'=sp2 bs i j x' y:=by
  unfold sp2;rw [List.set_comm _ _ (Ne.symm hij),List.set_set]
theorem zy1 {bs:List (List zaa)} {i j:Nat} (x y y':List zaa):(sp2 bs i j x y).set j y'=sp2 bs i j x y':=by
  unfold sp2;rw [List.set_set]
theorem zHt (h:zab) (bs:List (List zaa)) (ts us:List Nat) (i j:Nat) (x y:List zaa):zdK (hx h (sp2 bs i j x y) (ts++us)) (h.blks.length+bs.length) (h.toks.length+ts.length)=hx h (sp2 bs i j x y) ts:=by
  unfold zdK hx
  simp only
  rw [List.take_of_length_le (by simp),← List.append_assoc,List.take_left' (by simp)]
theorem zpw (h:zab) (bs:List (List zaa)) (ts:List Nat) (i j:Nat) (x y:List zaa):zdK (hx h (sp2 bs i j x y) ts) (h.blks.length+bs.length) (h.toks.length+ts.length)=hx h (sp2 bs i j x y) ts:=by
  have:=zHt h bs ts [] i j x y
  rwa [List.append_nil] at this
def spH (bs:List (List zaa)) (i j n:Nat) (s:Sp):List (List zaa):=sp2 bs i j (spO n j s) (cI .u8 s.S)
theorem znq (L:Lim) (h:zab) (bs:List (List zaa)) (ts:List Nat) (i j:Nat) (s:Sp) (hs:s.ok) (hc:s.c < 1000000000) (hi:i < bs.length) (hj:j < bs.length) (hij:i≠j) (hL:L.rob≤h.blks.length):
    zag ctx L zaG [pA h.blks.length i 0] (hx h (spH bs i j h.blks.length s) ts)=some (.tup [],hx h (spH bs i j h.blks.length (zo4 s)) ts):=by
  rw [zgk]
  unfold spH
  have g1:=zCC hi hij
  have g2:=zFs (i:=i) hj
  have g3:=zy0 (bs:=bs) hij
  have g4:=zy1 (bs:=bs) (i:=i) (j:=j)
  have g5:=zpw h bs ts i j
  have hP:=fun L hL x=>zFp L h (sp2 bs i j x (cI .u8 s.S)) ts j (some 200) s.S hs.1 hs.2.1 (g2 x _) hL
  simp only [g4] at hP
  have w1:IntKind.i64.wrap ((s.c:Int)+1)=((s.c+1:Nat):Int):=(wrap_i64 (by omega) (by omega)).trans (by omega)
  have e1:spO h.blks.length j (zo4 s)=[.iface 230 (.agg []),sA h.blks.length j 0 1 200 (some 200),.int .i64 0,.int .i64 s.b,.int .i64 ((s.c+1:Nat):Int)]:=rfl
  have e2:spO h.blks.length j s=[.iface 230 (.agg []),sA h.blks.length j 0 1 200 (some 200),.int .i64 s.a,.int .i64 s.b,.int .i64 s.c]:=rfl
  rw [e1,e2,show (zo4 s).S=zmL s.S from rfl]
  generalize ((s.c+1:Nat):Int)=c2 at*
  simp -implicitDefEqProofs [zb1,zam,zak,g1,g2,g3,g4,g5,hP,hL,zan,w1,setAt]
end Go.Av
namespace Go.Av
theorem zqT (L:Lim) (h:zab):zag ctx L zb9 [.agg []] h=some (.int .i64 136,h):=by
  have hf:fzA h (.agg [])=some (.agg [],false):=rfl
  rw [zkU];simp [zeP,zmB,zaa.okV,zaa.cells,hf]
theorem zCF (L:Lim) (h:zab):zag ctx L zbM [.agg []] h=some (.int .i64 200,h):=by
  have hf:fzA h (.agg [])=some (.agg [],false):=rfl
  rw [zj2];simp [zed,zmB,zaa.okV,zaa.cells,hf]
theorem zIu (s:zaa) (n m:Nat) (es:List (List zaa)):gL s (n+m) 0 es=gL s n m es:=by
  unfold gL;split
  · rfl
  · rw [zM1,Nat.add_zero]
theorem zuI {L:Lim} {fr:Fr} {h:zab} {R:Option (AEx × Fr × zab)} (bs:List (List zaa)) (ts:List Nat) (i j:Nat) (s:Sp) (hs:s.ok) (N:Int) (n:Nat) (hN:n=N.toNat) (hn:n < 1000000) (hc:s.c < 100000000)
    (hi:i < bs.length) (hj:j < bs.length) (hij:i≠j) (hL:L.rob≤h.blks.length) (hT:L.rot≤h.toks.length)
    (hF:run ctx L (.loop zaL) fr (hx h (spH bs i j h.blks.length s) ts)=R)
    (h0:fr 0=pA h.blks.length i 0) (h7:fr 7=.int .i64 N) (h5:fr 5=.nsl) (h8:fr 8=.int .i64 0):
    ∃ fr',R=some (.exit 0,fr',hx h (spH bs i j h.blks.length (zdl s n)) (ts++gT (eI .u8 (zjy s n))))∧fr' 5=gL .nsl h.toks.length ts.length (eI .u8 (zjy s n)):=by
  obtain ⟨e,fr',h',rfl,⟨rfl,rfl,g5⟩,hk⟩:=zaj hF n
    (fun k fr hh=>fr 8=.int .i64 k∧hh=hx h (spH bs i j h.blks.length (zdl s k)) (ts++gT (eI .u8 (zjy s k)))∧fr 5=gL .nsl h.toks.length ts.length (eI .u8 (zjy s k)))
    (fun e fr hh=>e=.exit 0∧hh=hx h (spH bs i j h.blks.length (zdl s n)) (ts++gT (eI .u8 (zjy s n)))∧fr 5=gL .nsl h.toks.length ts.length (eI .u8 (zjy s n)))
    ⟨h8, by simp [zdl, zjy, tab, gT], h5⟩ (by
      rintro k fr1 hh hkN hkeep ⟨g8,rfl,g5⟩
      have g0:=(hkeep 0 (by decide)).trans h0
      have g7:=(hkeep 7 (by decide)).trans h7
      by_cases hlt:k < n
      · have hltI : (k : Int) < N := by omega
        have w0:IntKind.i64.wrap ((k:Int)+1)=k+1:=wrap_i64 (by omega) (by omega)
        have hok:=zmc hs k
        have hck:=zr6 s k
        have hsn:=zEu s k
        have hll:=zo8 s k
        have hgs:zdl s (k+1)=zw9 (zdl s k):=rfl
        have hroom:((zjy s k).length+1 < zas):=by rw [hll];unfold zas;omega
        have hap:=fun bs' v=>zyE L h bs' ts 1 true (eI .u8 (zjy s k)) (eI .u8 [v]) (by simp [hT,hroom])
        have hst:=fun q=>spH bs i j h.blks.length q
        have g1:=zCC hi hij
        have g2:=zFs (i:=i) hj
        have g3:=zy0 (bs:=bs) hij
        have g4:=zy1 (bs:=bs) (i:=i) (j:=j)
        generalize zjy s k=l at*
        generalize zdl s k=q at*
        have hP:=fun ts=>znq L h bs ts i j q hok (by omega) hi hj hij hL
        obtain ⟨o1,o2,o3,o4⟩:=hok
        have hR:=zqT
        by_cases hb:q.b=136
        · obtain ⟨e1,e2⟩:=zzb hb
          rw [e1] at hgs
          rw [e2] at hsn
          have htl:(zmL q.S).length=200:=zra _
          have ia:=zrS h.blks.length j 0 1 200 0 (some 200) .i64 (by decide)
          have gt:=zCH (k:=.u8) (l:=zmL q.S) (i:=0) (by omega)
          obtain ⟨S,a,b,c⟩:=q
          simp only at*
          subst hb
          simp only [spH,spO,zo4,Int.natCast_zero,Int.cast_ofNat_Int] at*
          generalize zmL S=S1 at*
          generalize c+1=c1 at*
          simp -implicitDefEqProofs [zaL,g0,g5,g7,g8,hltI,w0,hP,hR,g1,g2,g3,g4,zan,hL,setAt,ia,gt,zae,zay,rep,chunks,zhS,hap,hsn,hgs,hlt,show IntKind.i64.wrap 1=1 by decide]
        · obtain ⟨e1,e2⟩:=zzc hb
          rw [e1] at hgs
          rw [e2] at hsn
          have hbI:((q.b:Int)==136)=false:=beq_false_of_ne (by omega)
          have ia:=zrS h.blks.length j 0 1 200 q.b (some 200) .i64 (decide_eq_true (by omega))
          have gt:=zCH (k:=.u8) (l:=q.S) (i:=q.b) (by omega)
          have w1:IntKind.i64.wrap ((q.b:Int)+1)=((q.b+1:Nat):Int):=(wrap_i64 (by omega) (by omega)).trans (by omega)
          obtain ⟨S,a,b,c⟩:=q
          simp only [spH,spO] at*
          generalize b+1=b1 at*
          simp -implicitDefEqProofs [zaL,g0,g5,g7,g8,hltI,w0,w1,hbI,hR,g1,g2,g3,g4,zan,hL,setAt,ia,gt,zae,zay,rep,chunks,zhS,hap,hsn,hgs,hlt,show IntKind.i64.wrap 1=1 by decide]
      · have : k = n := by omega
        subst this
        have hltI:¬(k:Int) < N:=by omega
        simp [zaL,g5,g7,g8,hltI])
  exact ⟨fr',rfl,g5⟩
theorem zrT (L:Lim) (h:zab) (bs:List (List zaa)) (ts:List Nat) (i j:Nat) (s:Sp) (hs:s.ok) (N:Int) (n:Nat) (hN:n=N.toNat) (hn:n < 1000000) (hc:s.c < 100000000)
    (hi:i < bs.length) (hj:j < bs.length) (hij:i≠j) (hL:L.rob≤h.blks.length) (hT:L.rot≤h.toks.length):
    zag ctx L zaR [pA h.blks.length i 0,.int .i64 N] (hx h (spH bs i j h.blks.length s) ts)=some (.vsl false (eI .u8 (zjy s n)),hx h (spH bs i j h.blks.length (zdl s n)) ts):=by
  rw [zgq]
  obtain ⟨M,hM⟩:∃ M:Int,M=max N 0:=⟨_,rfl⟩
  have hmx:zqt true (.int .i64 N) [.int .i64 0]=some (.int .i64 M):=by
    simp only [zqt,zLe,bind,Option.bind_some,if_true]
    rw [hM]
    by_cases h0:(0:Int) > N
    · rw [if_pos h0,show max N 0=0 by omega]
    · rw [if_neg h0,show max N 0=N by omega]
  have hlo:=fun fr R=>zuI (L:=⟨L.rob,L.rot,h.blks.length+bs.length,h.toks.length+ts.length⟩) (fr:=fr) (h:=h) (R:=R) bs ts i j s hs M n (by omega) hn hc hi hj hij hL hT
  have hlen:(spH bs i j h.blks.length s).length=bs.length:=by simp [spH]
  have htr:∀ us,zdK (hx h (spH bs i j h.blks.length (zdl s n)) (ts++us)) (h.blks.length+bs.length) (h.toks.length+ts.length)=hx h (spH bs i j h.blks.length (zdl s n)) ts:=fun us=>zHt _ _ _ _ _ _ _ _
  have hfz:=fun hh m=>zoI (h1:=hh) (nb:=h.blks.length+bs.length) (nt:=h.toks.length+ts.length) (n:=m) (s:=.nsl) (es:=eI .u8 (zjy s n)) (.inl rfl) (by simp)
  simp only [zIu] at hfz
  generalize zjy s n=l at*
  generalize spH bs i j h.blks.length (zdl s n)=b2 at*
  generalize spH bs i j h.blks.length s=b1 at*
  simp -implicitDefEqProofs [zb3,zam,zak,hlen,hmx]
  generalize hF:run ctx _ (.loop _) _ _=R
  obtain ⟨fr1,rfl,f5⟩:=hlo _ _ hF (by simp) (by simp) (by simp) (by simp)
  simp -implicitDefEqProofs [f5,hfz,htr,zam,zak,hlen]
end Go.Av
namespace Go.Av
theorem zLC (a b s:Nat) (ha:a < 2 ^ s) (hlt:a+b*2 ^ s < 2 ^ 62):zdY .or (.int .i64 (a:Int)) (.int .i64 ((b*2 ^ s:Nat):Int))=some (.int .i64 ((a+b*2 ^ s:Nat):Int)):=by
  rw [zEc]
  have h1:BitVec.ofInt 64 ((a:Nat):Int)=BitVec.ofNat 64 a:=by simp
  have h2:BitVec.ofInt 64 ((b*2 ^ s:Nat):Int)=BitVec.ofNat 64 (b*2 ^ s):=by
    rw [BitVec.ofInt_natCast]
  have hbits:IntKind.i64.bits=64:=rfl
  have e:(BitVec.ofInt 64 ((a:Nat):Int)|||BitVec.ofInt 64 ((b*2 ^ s:Nat):Int)).toNat=a+b*2 ^ s:=by
    rw [h1,h2,BitVec.toNat_or,BitVec.toNat_ofNat,BitVec.toNat_ofNat,Nat.mod_eq_of_lt (by omega),Nat.mod_eq_of_lt (by omega),Nat.or_comm,Nat.mul_comm b,← Nat.two_pow_add_eq_or_of_lt ha,Nat.add_comm]
  show some (zaa.int .i64 (IntKind.i64.wrap ((BitVec.ofInt 64 ((a:Nat):Int)|||BitVec.ofInt 64 ((b*2 ^ s:Nat):Int)).toNat:Int)))=_
  rw [e,wrap_i64 (by omega) (by omega)]
theorem zy2 (k kd kd':IntKind) (c:Bool) (l:List Int) (n:Nat) (hn:n≤l.length):zdB .slc 1 (.vsl c (eI k l)) none (some (.int kd (n:Int))) (some (.int kd' (n:Int)))=some (.vsl true (eI k (l.take n))):=by
  have e:(eI k l).take n=eI k (l.take n):=by simp [eI]
  simp [zdB,zit,hn,zwq,e]
theorem zy4 (k kd:IntKind) (l:List Int) (n:Nat) (hn:n≤l.length):zdB .slc 1 (.vsl false (eI k l)) (some (.int kd (n:Int))) none none=some (.vsl false (eI k (l.drop n))):=by
  have e:((eI k l).take l.length).drop n=eI k (l.drop n):=by
    rw [List.take_of_length_le (by simp)];simp [eI]
  simp [zdB,zit,hn,zwq,e]
structure Rd where
  b:List Int
  s:Bool
def rdC (r:Rd):List zaa:=[.vsl false (eI .u8 r.b),.bool r.s]
def rdT (r:Rd) (n:Nat):List Int:=if r.b.length < n then [] else r.b.take n
def rdR (r:Rd) (n:Nat):Rd:=if r.b.length < n then ⟨r.b,true⟩ else ⟨r.b.drop n,r.s⟩
theorem zIw (r:Rd) (n:Nat):(rdT r n).length≤n:=by unfold rdT;split <;> simp <;> omega
theorem zCJ (L:Lim) (h:zab) (bs:List (List zaa)) (ts:List Nat) (i:Nat) (r:Rd) (n:Nat) (hb:bs[i]?=some (rdC r)) (hL:L.rob≤h.blks.length):
    zag ctx L zcp [pA h.blks.length i 0,.int .i64 (n:Int)] (hx h bs ts)=some (.vsl false (eI .u8 (rdT r n)),hx h (bs.set i (rdC (rdR r n))) ts):=by
  rw [zlF]
  have hi:=(List.getElem?_eq_some_iff.1 hb).1
  have hgs:∀ x:List zaa,(bs.set i x)[i]?=some x:=fun x=>List.getElem?_set_self hi
  have htr:=fun cs=>zh9 h bs ts i cs
  obtain ⟨b,s⟩:=r
  simp only [rdC] at hb
  have hu:∀ l:List Int,zap 0 0 [zaa.vsl false (eI .u8 l)]=true:=fun l=>by simp [zap,zaa.under]
  by_cases hs:b.length < n
  · have hsI : (b.length : Int) < (n : Int) := by omega
    have e1:rdT ⟨b,s⟩ n=[]:=if_pos hs
    have e2:rdR ⟨b,s⟩ n=⟨b,true⟩:=if_pos hs
    rw [e1,e2]
    have t0:=zy2 .u8 .i64 .i64 false b 0 (Nat.zero_le _)
    have d0:=zy4 .u8 .i64 b 0 (Nat.zero_le _)
    rw [List.take_zero] at t0
    rw [List.drop_zero] at d0
    simp only [Int.natCast_zero] at t0 d0
    have hfz:=fun hh nb nt m=>zhO hh nb nt m true (es:=[]) (by simp [zaw])
    simp -implicitDefEqProofs [zdo,zam,zak,hb,hgs,zae,hsI,zan,hL,setAt,t0,d0,hu,htr,rdC,hfz]
  · have hsI : ¬ (b.length : Int) < (n : Int) := by omega
    have e1:rdT ⟨b,s⟩ n=b.take n:=if_neg hs
    have e2:rdR ⟨b,s⟩ n=⟨b.drop n,s⟩:=if_neg hs
    rw [e1,e2]
    have t0:=zy2 .u8 .i64 .i64 false b n (by omega)
    have d0:=zy4 .u8 .i64 b n (by omega)
    simp -implicitDefEqProofs [zdo,zam,zak,hb,hgs,zae,hsI,zan,hL,setAt,t0,d0,hu,htr,rdC]
theorem zCK {L:Lim} {fr:Fr} {H:zab} {R:Option (AEx × Fr × zab)} (l:List Int) (hb:inB l) (hn:l.length≤7)
    (hF:run ctx L (.loop zct) fr H=R)
    (h5:fr 5=.int .i64 0) (h10:fr 10=.vsl false (eI .u8 l)) (h11:fr 11=.int .i64 l.length) (h12:fr 12=.int .i64 0):
    ∃ fr',R=some (.exit 0,fr',H)∧fr' 5=.int .i64 (leN l:Int):=by
  obtain ⟨e,fr',h',rfl,⟨rfl,rfl,g5⟩,hk⟩:=zaj hF l.length
    (fun k fr hh=>fr 12=.int .i64 k∧hh=H∧fr 5=.int .i64 (leN (l.take k):Int))
    (fun e fr hh=>e=.exit 0∧hh=H∧fr 5=.int .i64 (leN l:Int))
    ⟨h12, rfl, by simpa [leN] using h5⟩ (by
      rintro k fr1 hh hkN hkeep ⟨g12,rfl,g5⟩
      have g10:=(hkeep 10 (by decide)).trans h10
      have g11:=(hkeep 11 (by decide)).trans h11
      by_cases hlt:k < l.length
      · have w0 : IntKind.i64.wrap ((k : Int) + 1) = k + 1 := wrap_i64 (by omega) (by omega)
        have ik:=zxS .u8 .i64 false l k (decide_eq_true hlt)
        obtain ⟨x,hx⟩:∃ x:Nat,gd l 0 k=(x:Int):=⟨(gd l 0 k).toNat,by have:=hb k hlt;omega⟩
        have hx256:x < 256:=by have:=hb k hlt;omega
        have hsn:leN (l.take (k+1))=leN (l.take k)+x*2 ^ (8*k):=by
          rw [zls 0 hlt,zuZ,hx,List.length_take,Nat.min_eq_left (by omega),Int.toNat_natCast,Nat.pow_mul]
        have hA:leN (l.take k) < 2 ^ (8*k):=by
          have:=zze (zl8 hb k)
          rw [List.length_take,Nat.min_eq_left (by omega)] at this
          rw [Nat.pow_mul];exact this
        have hpow:2 ^ (8*k)≤2 ^ 48:=Nat.pow_le_pow_right (by decide) (by omega)
        have hxp:x*2 ^ (8*k)≤255*2 ^ 48:=Nat.mul_le_mul (by omega) hpow
        have hor:=zLC (leN (l.take k)) x (8*k) hA (by omega)
        have w8:IntKind.i64.wrap (8*(k:Int))=((8*k:Nat):Int):=(wrap_i64 (by omega) (by omega)).trans (by omega)
        have hsh:zdY .shl (.int .i64 (x:Int)) (.int .i64 ((8*k:Nat):Int))=some (.int .i64 ((x*2 ^ (8*k):Nat):Int)):=by
          rw [zlT]
          have e1:¬(((8*k:Nat):Int) < 0):=by omega
          have e2:min ((8*k:Nat):Int).toNat IntKind.i64.bits=8*k:=by rw [Int.toNat_natCast];exact Nat.min_eq_left (by show 8*k≤64;omega)
          unfold zkt
          rw [if_neg e1]
          simp only [e2]
          have e3:(x:Int)*2 ^ (8*k)=((x*2 ^ (8*k):Nat):Int):=by rw [Int.natCast_mul,Int.natCast_pow];rfl
          rw [e3,wrap_i64 (by omega) (by omega)]
        have wx:IntKind.i64.wrap (x:Int)=x:=wrap_i64 (by omega) (by omega)
        rw [hx] at ik
        rw [← hsn] at hor
        generalize x*2 ^ (8*k)=y at*
        generalize 8*k=k8 at*
        generalize hq2:leN (l.take (k+1))=q2 at*
        generalize leN (l.take k)=q at*
        simp -implicitDefEqProofs [zct,g5,g10,g11,g12,hlt,w0,ik,w8,hsh,wx,hor,hq2, -zEc, -zlT]
      · have : k = l.length := by omega
        subst this
        simp only [List.take_length] at g5
        simp [zct,g5,g11,g12])
  exact ⟨fr',rfl,g5⟩
theorem zl7 (L:Lim) (h:zab) (bs:List (List zaa)) (ts:List Nat) (i:Nat) (r:Rd) (n:Nat) (hr:inB r.b) (hn:n≤7) (hb:bs[i]?=some (rdC r)) (hL:L.rob≤h.blks.length):
    zag ctx L za2 [pA h.blks.length i 0,.int .i64 (n:Int)] (hx h bs ts)=some (.int .i64 (leN (rdT r n):Int),hx h (bs.set i (rdC (rdR r n))) ts):=by
  rw [zka]
  have hT:=fun L hL=>zCJ L h bs ts i r n hb hL
  have hin:inB (rdT r n):=by
    unfold rdT;split
    · exact fun i hi=>by simp at hi
    · exact zl8 hr n
  have hlen:=zIw r n
  have hlo:=fun L fr H R=>zCK (L:=L) (fr:=fr) (H:=H) (R:=R) (rdT r n) hin (by omega)
  have htr:=fun cs=>zh9 h bs ts i cs
  generalize rdC (rdR r n)=r2 at*
  generalize rdT r n=l at*
  simp -implicitDefEqProofs [zef,zam,zak,hT,hL]
  generalize hF:run ctx _ (.loop _) _ _=R
  obtain ⟨fr1,rfl,f5⟩:=hlo _ _ _ _ hF (by simp) (by simp) (by simp) (by simp)
  simp -implicitDefEqProofs [f5,zam,zak,htr]
end Go.Av
namespace Go.Av
theorem zC3 (L:Lim) (h:zab) (c:Bool) (l:List Int) (hl:l.length < 1000000000):zag ctx L zbP [.vsl c (eI .u8 l)] h=some (.vsl false (eI .u8 l),h):=
  zyY (sz:=1) (z:=[.int .u8 0]) rfl rfl rfl _ _ rfl rfl (zCp c _) (by simp) (by simp) (by simp [zas];omega)
theorem zC4 (L:Lim) (h:zab) (l:List Int) (hl:l.length < 1000000000):zag ctx L zbP [.vsl false (eI .u8 l)] h=some (.vsl false (eI .u8 l),h):=zC3 L h false l hl
theorem zuY (nb nt:Nat):∀ l:List It,zaw nb nt (l.map It.cells)=true
  | []=>by simp [zaw]
  | x :: l => by
    have ih:=zuY nb nt l
    simp [zaw,ih,It.cells,zap,zaa.under]
theorem zIL (l:List It):zfe 4 (l.map It.cells)=true:=by cases l <;> simp [zfe,It.cells]
theorem zC6 (L:Lim) (h:zab) (c:Bool) (l:List It) (hl:l.length < 1000000000):zag ctx L zbn [.vsl c (l.map It.cells)] h=some (.vsl false (l.map It.cells),h):=
  zyY (sz:=4) (z:=[.int .i64 0,.int .i64 0,.int .i64 0,.str ⟨#[]⟩]) rfl rfl rfl _ _ rfl rfl (zCp c _) (zIL l) (zuY _ _ l) (by simp [zas];omega)
end Go.Av
namespace Go.Av
def zIt:It:=⟨0,0,0,⟨#[]⟩⟩
def rd1 (b:List Int):Rd:=rdR ⟨b,false⟩ 1
def rd2 (b:List Int):Rd:=rdR (rd1 b) 1
def rd3 (b:List Int):Rd:=rdR (rd2 b) 4
def rd4 (b:List Int):Rd:=rdR (rd3 b) 2
def zDb (b:List Int):Nat:=leN (rdT (rd3 b) 2)
def rd5 (b:List Int):Rd:=rdR (rd4 b) (zDb b)
def dIt (b:List Int):It:=⟨leN (rdT ⟨b,false⟩ 1),leN (rdT (rd1 b) 1),leN (rdT (rd2 b) 4),byA (rdT (rd4 b) (zDb b))⟩
def zsQ (b:List Int):It × List Int × Int:=
  if (rd5 b).s=true then (zIt,[],2) else if chk (dIt b)=0 then (dIt b,(rd5 b).b,0) else (zIt,[],chk (dIt b))
theorem zj7 {r:Rd} (h:inB r.b) (n:Nat):inB (rdR r n).b:=by
  unfold rdR;split
  · exact h
  · exact zqZ h n
theorem ziM (r:Rd) (n:Nat):(rdR r n).b.length≤r.b.length:=by
  unfold rdR;split
  · exact Nat.le_refl _
  · simp
theorem zDf (L:Lim) (h:zab) (b:List Int) (hb:inB b) (hl:b.length < 1000000000):
    zag ctx L zhn [.vsl false (eI .u8 b)] h=some (.tup [.agg (zsQ b).1.cells,.vsl false (eI .u8 (zsQ b).2.1),.int .i64 (zsQ b).2.2],h):=by
  rw [zqE]
  have hf:=zCz h false (eI .u8 b)
  have b1:inB (rd1 b).b:=zj7 hb 1
  have b2:inB (rd2 b).b:=zj7 b1 1
  have b3:inB (rd3 b).b:=zj7 b2 4
  have b4:inB (rd4 b).b:=zj7 b3 2
  have hrob:(zau h).rob≤h.blks.length:=Nat.le_refl _
  have hz:[zaa.int .i64 0,.int .i64 0,.int .i64 0,.str ⟨#[]⟩]=zIt.cells:=rfl
  have n1:=fun z=>zl7 (zau h) h [z,rdC ⟨b,false⟩] [] 1 ⟨b,false⟩ 1 hb (by decide) rfl hrob
  have n2:=fun z=>zl7 (zau h) h [z,rdC (rd1 b)] [] 1 (rd1 b) 1 b1 (by decide) rfl hrob
  have n3:=fun z=>zl7 (zau h) h [z,rdC (rd2 b)] [] 1 (rd2 b) 4 b2 (by decide) rfl hrob
  have n4:=fun z x=>zl7 (zau h) h [z,rdC (rd3 b),x] [] 1 (rd3 b) 2 b3 (by decide) rfl hrob
  have n5:=fun z x=>zCJ (zau h) h [z,rdC (rd4 b),x] [] 1 (rd4 b) (zDb b) rfl hrob
  rw [show rdR ⟨b,false⟩ 1=rd1 b from rfl] at n1
  rw [show rdR (rd1 b) 1=rd2 b from rfl] at n2
  rw [show rdR (rd2 b) 4=rd3 b from rfl] at n3
  rw [show rdR (rd3 b) 2=rd4 b from rfl,show leN (rdT (rd3 b) 2)=zDb b from rfl] at n4
  rw [show rdR (rd4 b) (zDb b)=rd5 b from rfl] at n5
  simp only [zau,List.set_cons_zero,List.set_cons_succ,Int.cast_ofNat_Int,Int.natCast_one] at n1 n2 n3 n4 n5
  have hC:=fun L h=>zvc L h (dIt b)
  have hdc:(dIt b).cells=[.int .i64 (leN (rdT ⟨b,false⟩ 1):Int),.int .i64 (leN (rdT (rd1 b) 1):Int),.int .i64 (leN (rdT (rd2 b) 4):Int),.str (byA (rdT (rd4 b) (zDb b)))]:=rfl
  have hl5:(rd5 b).b.length < 1000000000:=by
    have e1:(rd1 b).b.length≤b.length:=ziM ⟨b,false⟩ 1
    have e2:(rd2 b).b.length≤(rd1 b).b.length:=ziM (rd1 b) 1
    have e3:(rd3 b).b.length≤(rd2 b).b.length:=ziM (rd2 b) 4
    have e4:(rd4 b).b.length≤(rd3 b).b.length:=ziM (rd3 b) 2
    have e5:(rd5 b).b.length≤(rd4 b).b.length:=ziM (rd4 b) (zDb b)
    omega
  have hK:=fun L h=>zC4 L h (rd5 b).b hl5
  have r5:rdC (rd5 b)=[.vsl false (eI .u8 (rd5 b).b),.bool (rd5 b).s]:=rfl
  have r0:rdC ⟨b,false⟩=[.vsl false (eI .u8 b),.bool false]:=rfl
  have hfr:∀ (x:It) (hh:zab) nb nt m,frz hh nb nt (m+1) (.agg x.cells)=some (.agg x.cells):=fun x hh nb nt m=>zjZ hh nb nt m x.cells_flat
  have hun:∀ x:It,zap 0 0 x.cells=true:=fun x=>rfl
  have hzc:zIt.cells=[.int .i64 0,.int .i64 0,.int .i64 0,.str ⟨#[]⟩]:=rfl
  generalize rdC (rd1 b)=c1 at*
  generalize rdC (rd2 b)=c2 at*
  generalize rdC (rd3 b)=c3 at*
  generalize rdC (rd4 b)=c4 at*
  by_cases hs:(rd5 b).s=true
  · have hd:zsQ b=(zIt,[],2):=if_pos hs
    rw [hd]
    rw [hs] at r5
    generalize zDb b=dl at*
    generalize (rd5 b).b=b5 at*
    simp -implicitDefEqProofs [zfo,zau,hf,← r0,zay,setAt,zd9,n1,n2,n3,n4,n5,r5,zae,zbB,zah,zaf,hzc,zjZ,zb4,zaa.flat]
  · have hs' : (rd5 b).s = false := by simpa using hs
    rw [hs'] at r5
    by_cases hc:chk (dIt b)=0
    · have hd : zsQ b = (dIt b, (rd5 b).b, 0) := by unfold zsQ; rw [if_neg hs, if_pos hc]
      rw [hd]
      rw [hc] at hC
      rw [hdc] at hC ⊢
      generalize zDb b=dl at*
      generalize (rd5 b).b=b5 at*
      simp -implicitDefEqProofs [zfo,zau,hf,← r0,zay,setAt,zd9,n1,n2,n3,n4,n5,r5,zae,zbB,zah,zaf,hzc,zjZ,zb4,zaa.flat,hC,hK]
    · have hd : zsQ b = (zIt, [], chk (dIt b)) := by unfold zsQ; rw [if_neg hs, if_neg hc]
      have hcb:(chk (dIt b) !=0)=true:=bne_iff_ne.2 hc
      rw [hd]
      generalize chk (dIt b)=ck at*
      rw [hdc] at hC
      generalize zDb b=dl at*
      generalize (rd5 b).b=b5 at*
      simp -implicitDefEqProofs [zfo,zau,hf,← r0,zay,setAt,zd9,n1,n2,n3,n4,n5,r5,zae,zbB,zah,zaf,hzc,zjZ,zb4,zaa.flat,hC,hcb]
end Go.Av
namespace Go.Av
def zDj:Nat→List Int→Nat→List It→List It × Int × Int
  | 0,_,_,acc=>(acc, -1,0)
  | f + 1, b, k, acc => if b = [] then (acc, -1, 0) else if k = 1024 then ([], (k : Int), 9) else
    if (zsQ b).2.2=0 then zDj f (zsQ b).2.1 (k+1) (acc++[(zsQ b).1]) else ([],(k:Int),(zsQ b).2.2)
def ziv (b:List Int):List It × Int × Int:=zDj 1026 b 0 []
theorem zDm (b:List Int) (hb:inB b):inB (zsQ b).2.1∧(zsQ b).2.1.length≤b.length:=by
  have b1:inB (rd1 b).b:=zj7 hb 1
  have b2:inB (rd2 b).b:=zj7 b1 1
  have b3:inB (rd3 b).b:=zj7 b2 4
  have b4:inB (rd4 b).b:=zj7 b3 2
  have b5:inB (rd5 b).b:=zj7 b4 _
  have e1:(rd1 b).b.length≤b.length:=ziM ⟨b,false⟩ 1
  have e2:(rd2 b).b.length≤(rd1 b).b.length:=ziM (rd1 b) 1
  have e3:(rd3 b).b.length≤(rd2 b).b.length:=ziM (rd2 b) 4
  have e4:(rd4 b).b.length≤(rd3 b).b.length:=ziM (rd3 b) 2
  have e5:(rd5 b).b.length≤(rd4 b).b.length:=ziM (rd4 b) (zDb b)
  unfold zsQ
  split
  · exact ⟨fun i hi=>by simp at hi,by simp⟩
  · split
    · exact ⟨b5,by simp only;omega⟩
    · exact ⟨fun i hi=>by simp at hi,by simp⟩
theorem zAv {fr:Fr} {h:zab} {R:Option (AEx × Fr × zab)} (hF:run ctx (zau h) (.loop zco) fr (hx h [] [])=R) (b0:List Int) (hb0:inB b0) (hl0:b0.length < 1000000000)
    (h0:fr 0=.vsl false (eI .u8 b0)) (h5:fr 5=.nsl) (h6:fr 6=.int .i64 0):
    ∃ e fr' bs ts,R=some (e,fr',hx h bs ts)∧(e=.exit 0∧fr' 5=gL .nsl h.toks.length 0 ((ziv b0).1.map It.cells)∧(ziv b0).2=(-1,0)∨e=.ret∧fr' 2=.nsl∧(ziv b0).1=[]∧fr' 3=.int .i64 (ziv b0).2.1∧fr' 4=.int .i64 (ziv b0).2.2):=by
  obtain ⟨e,fr',h',rfl,⟨⟨bs,ts,rfl⟩,hp⟩,hk⟩:=zaj hF 1024
    (fun k fr hh=>fr 6=.int .i64 (k:Int)∧∃ b acc bs,fr 0=.vsl false (eI .u8 b)∧inB b∧b.length < 1000000000∧fr 5=gL .nsl h.toks.length 0 (acc.map It.cells)∧hh=hx h bs (gT (acc.map It.cells))∧acc.length=k∧ziv b0=zDj (1026 - k) b k acc)
    (fun e fr hh=>(∃ bs ts,hh=hx h bs ts)∧(e=.exit 0∧fr 5=gL .nsl h.toks.length 0 ((ziv b0).1.map It.cells)∧(ziv b0).2=(-1,0)∨e=.ret∧fr 2=.nsl∧(ziv b0).1=[]∧fr 3=.int .i64 (ziv b0).2.1∧fr 4=.int .i64 (ziv b0).2.2))
    ⟨h6, b0, [], [], h0, hb0, hl0, by simpa [gL] using h5, by simp [gT], rfl, rfl⟩ (by
      rintro k fr1 hh hkN hkeep ⟨g6,b,acc,bs,g0,hb,hl,g5,rfl,hak,hpar⟩
      obtain ⟨f,hf⟩:∃ f,1026 - k=f+1:=⟨1026 - k - 1,by omega⟩
      rw [hf,zDj] at hpar
      by_cases hnil:b=[]
      · rw [if_pos hnil] at hpar
        subst hnil
        simp only [zHA] at g0
        rw [hpar]
        simp [zco,g0,g5]
        exact ⟨_,_,rfl⟩
      · rw [if_neg hnil] at hpar
        have hpos:0 < b.length:=List.length_pos_iff.2 hnil
        by_cases hk:k=1024
        · rw [if_pos hk] at hpar
          rw [hpar]
          have bk:((k:Int)==1024)=true:=by simp;omega
          simp [zco,g0,g6,hpos,bk]
          exact ⟨_,_,rfl⟩
        · rw [if_neg hk] at hpar
          have bk:((k:Int)==1024)=false:=by simp;omega
          have hD:=fun L h=>zDf L h b hb hl
          obtain ⟨hr1,hr2⟩:=zDm b hb
          have w1:IntKind.i64.wrap ((k:Int)+1)=k+1:=wrap_i64 (by omega) (by omega)
          generalize zsQ b=D at*
          obtain ⟨x,rest,er⟩:=D
          simp only at hD hr1 hr2 hpar
          by_cases he:er=0
          · rw [if_pos he] at hpar
            have be:(er==0)=true:=by simp [he]
            have hxc:x.cells.length=4:=rfl
            have hsz:=zAF acc
            have hx1:zfe 4 [x.cells]=true:=rfl
            have hmp:(acc++[x]).map It.cells=acc.map It.cells++[x.cells]:=by simp
            have hz4:([zaa.int .i64 0,.int .i64 0,.int .i64 0,.str ⟨#[]⟩]).length=x.cells.length:=rfl
            have hfil:zay (rep [zaa.int .i64 0,.int .i64 0,.int .i64 0,.str ⟨#[]⟩] 1) [(0,4,.agg x.cells)]=some x.cells:=rfl
            have hchk:chunks 4 1 x.cells=[x.cells]:=rfl
            generalize It.cells x=xc at*
            simp -implicitDefEqProofs [zco,zau,g0,g5,g6,hpos,bk,hD,bne,be,zaf,zbB,zah,hxc,hfil,hchk,zpM,hsz,hx1,zas,hak,show k+1 < 274877906944 by omega,w1]
            refine ⟨by omega,rest,rfl,hr1,by omega,acc++[x],by rw [hmp],⟨_,by rw [hmp]⟩,by simp [hak],?_⟩
            rw [hpar,show 1025 - k=f by omega]
          · rw [if_neg he] at hpar
            have be:(er==0)=false:=by simpa using he
            rw [hpar]
            have hxc:x.cells.length=4:=rfl
            generalize It.cells x=xc at*
            simp -implicitDefEqProofs [zco,zau,g0,g5,g6,hpos,bk,hD,bne,be,zaf,zbB,zah,hxc]
            exact ⟨_,_,rfl⟩)
  exact ⟨e,fr',bs,ts,rfl,hp⟩
theorem zGd (L:Lim) (h:zab) (c:Bool) (b:List Int) (hb:inB b) (hl:b.length < 1000000000):
    zag ctx L zfx [.vsl c (eI .u8 b)] h=some (.tup [.vsl false ((ziv b).1.map It.cells),.int .i64 (ziv b).2.1,.int .i64 (ziv b).2.2],h):=by
  rw [zor]
  simp [zh8]
  generalize hF:run ctx _ (.loop _) _ _=R
  obtain ⟨e,fr',bs,ts,rfl,⟨rfl,h5,h6⟩ | ⟨rfl,h2,h3,h4,h5⟩⟩:=zAv hF b hb hl (by simp) (by simp) (by simp)
  · have hfz := fun hh n => zoI (h1 := hh) (nb := h.blks.length) (nt := h.toks.length) (n := n) (s := .nsl) (.inl rfl) (zsk h.blks.length h.toks.length (ziv b).1)
    rw [h6]
    simp -implicitDefEqProofs [h5,hfz]
  · rw [h3]
    simp [h2,h4,h5]
end Go.Av
namespace Go.Av
def zI7 (p:List Int):Gd:=⟨(ziv p).1,0,0⟩
theorem zI8 (L:Lim) (h:zab) (bs:List (List zaa)) (ts:List Nat) (c:Bool) (p:List Int) (hp:inB p) (hl:p.length < 1000000000):
    zag ctx L zj3 [.vsl c (eI .u8 p)] (hx h bs ts)=
      if (ziv p).2.2=0 then some (.tup [pA h.blks.length bs.length 0,.int .i64 (-1),.int .i64 0],hx h (bs++[guC (zI7 p)]) ts)
      else some (.tup [.nilp,.int .i64 (ziv p).2.1,.int .i64 (ziv p).2.2],hx h bs ts):=by
  rw [ztf]
  have hP:=fun L h=>zGd L h c p hp hl
  have hg:guC (zI7 p)=[.vsl false ((ziv p).1.map It.cells),.int .i64 0,.nilp]:=rfl
  rw [hg]
  generalize (ziv p).1.map It.cells=it at*
  generalize ziv p=q at*
  obtain ⟨q1,q2,q3⟩:=q
  simp only at*
  by_cases he:q3=0
  · rw [if_pos he]
    have be:(q3==0)=true:=by simp [he]
    simp -implicitDefEqProofs [zki,hP,bne,be,zay,setAt,zd9,zaa.okV,zaa.cells]
  · rw [if_neg he]
    have be:(q3==0)=false:=by simp [he]
    simp -implicitDefEqProofs [zki,hP,bne,be,zay,setAt]
theorem zDr (L:Lim) (h:zab) (p:zaa) (b:Nat) (g:Gd) (hp:p=.ptr b 0) (hb:h.blks[b]?=some (guC g)) (hl:g.l.length < 1000000000):
    zag ctx L zb6 [p] h=some (.vsl false (g.l.map It.cells),h):=by
  subst hp
  rw [zkT]
  have hC:=fun L h c=>zC6 L h c g.l hl
  simp only [guC] at hb
  have hfz:=fun n=>zhO (hx h [] []) h.blks.length h.toks.length n false (zuY h.blks.length h.toks.length g.l)
  generalize g.l.map It.cells=it at*
  have h1:=fun bs ts=>zop h bs ts b 0 1 false _ hb
  have hf:fzA h (.ptr b 0)=some (.ptr b 0,false):=by simp only [fzA]
  simp -implicitDefEqProofs [zeV,zau,hf,h1,zae,hC,hfz]
theorem zJa (L:Lim) (h:zab) (bs:List (List zaa)) (ts:List Nat) (c:Bool) (l:List Int) (hl:l.length=32) (hL:L.rob≤h.blks.length):
    zag ctx L zeN [.iface 230 (.agg []),.vsl c (eI .u8 l)] (hx h bs ts)=some (.tup [pA h.blks.length (bs.length+1) 0,.int .i64 0],hx h (bs++[cI .u8 (zyF l).S,spO h.blks.length bs.length (zyF l)]) ts):=by
  rw [znA]
  have e1:spO h.blks.length bs.length (zyF l)=[.iface 230 (.agg []),sA h.blks.length bs.length 0 1 200 (some 200),.int .i64 0,.int .i64 136,.int .i64 0]:=rfl
  have e2:(zyF l).S=putAt (tab 200 fun _=>0) 136 l:=rfl
  rw [e1,e2]
  have hg1:=fun x y=>zdm bs [x,y] bs.length 0 rfl
  have hg2:=fun x y=>zdm bs [x,y] bs.length 1 rfl
  simp only [Nat.add_zero,List.getElem?_cons_zero,List.getElem?_cons_succ] at hg1 hg2
  have hsl:=zEf 1 h.blks.length bs.length 200 136 (some 200) .i64 (by decide)
  simp only [Int.cast_ofNat_Int] at hsl
  have hel:=fun w=>zB0 (hx h (bs++w) ts) 1 c (eI .u8 l)
  have hcp:=fun b=>zEd L h (bs++[cI .u8 (tab 200 fun _=>0),b]) ts bs.length 136 64 (some 64) .u8 l (tab 200 fun _=>0) (.vsl c (eI .u8 l)) (hel _) (by rw [List.getElem?_append_right (Nat.le_refl _)];simp) (by simp;omega) hL
  rw [show min l.length 64=32 by omega,List.take_of_length_le (by omega)] at hcp
  have hs1:=fun x y v=>zeI bs [x,y] bs.length 0 v rfl
  simp only [Nat.add_zero,List.set_cons_zero,List.set_cons_succ] at hs1
  simp only [hs1] at hcp
  generalize putAt (tab 200 fun _=>(0:Int)) 136 l=m at*
  generalize hz:(tab 200 fun _=>(0:Int))=zz at*
  simp -implicitDefEqProofs [zgM,zqT,zCF,hl,zlu,zas,zf9,zgf,hz,zd9,zay,setAt,hg1,hg2,hsl,hcp,show IntKind.i64.wrap 64=64 by decide,show IntKind.i64.wrap 1=1 by decide]
theorem zDt (L:Lim) (h:zab) (bs:List (List zaa)) (ts:List Nat) (c:Bool) (l:List Int) (hl:l.length=32) (hL:L.rob≤h.blks.length):
    zag ctx L zfy [.iface 230 (.agg []),.vsl c (eI .u8 l)] (hx h bs ts)=some (pA h.blks.length (bs.length+1) 0,hx h (bs++[cI .u8 (zyF l).S,spO h.blks.length bs.length (zyF l)]) ts):=by
  rw [zos]
  simp -implicitDefEqProofs [zib,zJa,hl,hL]
theorem zDu (L:Lim) (h:zab):zag ctx L zfz [] h=some (.iface 230 (.agg []),h):=by
  rw [zot]
  have hf:zay [] []=some []:=rfl
  have hz : ∀ nb nt n, frz (hx h [] []) nb nt (n + 2) (.iface 230 (.agg [])) = some (.iface 230 (.agg [])) := fun nb nt n => by
    rw [frz.eq_def];simp [frz,zb4]
  simp [zic,hf,hz]
theorem zGk (k:IntKind) (n:Nat) (l:List Int) (hl:l.length=n):zdB (.arr n) 1 (.vptr (cI k l) 0) none none none=some (.vsl true (eI k l)):=by
  have e:=zl6 n (cI k l) (by simpa using hl)
  rw [zqS] at e
  simp [zdB,zit,hl,e,zwq,List.take_of_length_le]
theorem zyi (L:Lim) (h:zab) (bs:List (List zaa)) (ts:List Nat) (l:List Int) (hl:l.length=32) (hL:L.rob≤h.blks.length):
    zag ctx L zhi [.agg (cI .u8 l)] (hx h bs ts)=some (pA h.blks.length (bs.length+1) 0,hx h (bs++[cI .u8 (zyF l).S,spO h.blks.length bs.length (zyF l)]) ts):=by
  rw [zqD]
  have hbox:zmB (.agg (cI .u8 l))=some (.vptr (cI .u8 l) 0):=rfl
  have hsl:=zGk .u8 32 l hl
  simp -implicitDefEqProofs [zkj,hbox,hsl,zDu,zDt,hl,hL]
end Go.Av
namespace Go.Av
theorem zGq {s:Sp} (ha:s.a=136) (u:Int):zlR s u=⟨(zmL s.S).set 0 u,1,136,s.c+1⟩:=by
  unfold zlR zEJ;rw [if_pos ha];rfl
theorem zGs {s:Sp} (ha:¬s.a=136) (u:Int):zlR s u=⟨s.S.set s.a u,s.a+1,136,s.c⟩:=by
  unfold zlR zEJ;rw [if_neg ha]
theorem zsg {s:Sp} (hs:s.ok) (l:List Int):(zbH s l).c≤s.c+l.length+1:=by
  obtain ⟨h1,h2,_,_⟩:=zxl (l:=l) (s:=s) hs.2.2.1
  have:=hs.2.2.1
  omega
theorem zMo {l : List Int} (h : inB l) (n : Nat) : inB (l.take n) := fun i hi => by
  rw [zC5 (by simp at hi;omega)];exact h i (by simp at hi;omega)
theorem zvS {L:Lim} {fr:Fr} {h:zab} {R:Option (AEx × Fr × zab)} (bs:List (List zaa)) (ts:List Nat) (i j:Nat) (s:Sp) (hs:s.ok) (c:Bool) (l:List Int) (hl:inB l) (hn:l.length < 100000000) (hc:s.c < 100000000)
    (hi:i < bs.length) (hj:j < bs.length) (hij:i≠j) (hL:L.rob≤h.blks.length)
    (hF:run ctx L (.loop zaN) fr (hx h (spH bs i j h.blks.length s) ts)=R)
    (h0:fr 0=pA h.blks.length i 0) (h4:fr 4=.int .i64 136) (h12:fr 12=.vsl c (eI .u8 l)) (h13:fr 13=.int .i64 l.length) (h14:fr 14=.int .i64 0):
    ∃ fr',R=some (.exit 0,fr',hx h (spH bs i j h.blks.length (zbH s l)) ts):=by
  obtain ⟨e,fr',h',rfl,⟨rfl,rfl⟩,hk⟩:=zaj hF l.length
    (fun k fr hh=>fr 14=.int .i64 k∧hh=hx h (spH bs i j h.blks.length (zbH s (l.take k))) ts)
    (fun e fr hh=>e=.exit 0∧hh=hx h (spH bs i j h.blks.length (zbH s l)) ts)
    ⟨h14, by simp [zbH]⟩ (by
      rintro k fr1 hh hkN hkeep ⟨g14,rfl⟩
      have g0:=(hkeep 0 (by decide)).trans h0
      have g4:=(hkeep 4 (by decide)).trans h4
      have g12:=(hkeep 12 (by decide)).trans h12
      have g13:=(hkeep 13 (by decide)).trans h13
      by_cases hlt:k < l.length
      · have w0 : IntKind.i64.wrap ((k : Int) + 1) = k + 1 := wrap_i64 (by omega) (by omega)
        have hok:=zhr (l:=l.take k) hs (zMo hl k)
        have hck:=zsg hs (l.take k)
        simp only [List.length_take] at hck
        have hsn:=zA6 s l k hlt
        have g1:=zCC hi hij
        have g2:=zFs (i:=i) hj
        have g3:=zy0 (bs:=bs) hij
        have g5:=zy1 (bs:=bs) (i:=i) (j:=j)
        have ik:=zxS .u8 .i64 c l k (decide_eq_true hlt)
        generalize zbH s (l.take k)=q at*
        generalize gd l 0 k=u at*
        have hP:=znq L h bs ts i j q hok (by omega) hi hj hij hL
        obtain ⟨o1,o2,o3,o4⟩:=hok
        have w1':IntKind.i64.wrap 1=1:=by decide
        by_cases ha:q.a=136
        · rw [zGq ha] at hsn
          have htl:(zmL q.S).length=200:=zra _
          have ia:=zrS h.blks.length j 0 1 200 0 (some 200) .i64 (by decide)
          obtain ⟨S,a,b,d⟩:=q
          simp only at*
          subst ha
          simp only [spH,spO,zo4,Int.natCast_zero,Int.cast_ofNat_Int] at*
          generalize zmL S=S1 at*
          generalize d+1=d1 at*
          simp -implicitDefEqProofs [zaN,g0,g4,g12,g13,g14,hlt,w0,w1',hP,g1,g2,g3,g5,zan,hL,setAt,ik,ia,zae,hsn,htl]
        · rw [zGs ha] at hsn
          have haI:((q.a:Int)==136)=false:=beq_false_of_ne (by omega)
          have ia:=zrS h.blks.length j 0 1 200 q.a (some 200) .i64 (decide_eq_true (by omega))
          have w1:IntKind.i64.wrap ((q.a:Int)+1)=((q.a+1:Nat):Int):=(wrap_i64 (by omega) (by omega)).trans (by omega)
          have halt:0+q.a*1+1≤q.S.length:=by omega
          obtain ⟨S,a,b,d⟩:=q
          simp only [spH,spO] at*
          have hst:(cI .u8 S).set (0+a*1) (.int .u8 u)=cI .u8 (S.set a u):=by rw [zK6];simp
          generalize a+1=a1 at*
          generalize 0+a*1=a0 at*
          simp -implicitDefEqProofs [zaN,g0,g4,g12,g13,g14,hlt,w0,w1,haI,g1,g2,g3,g5,zan,hL,setAt,ik,ia,zae,hsn,hst,halt]
      · have : k = l.length := by omega
        subst this
        simp [zaN,g13,g14])
  exact ⟨fr',rfl⟩
theorem zz5 (L:Lim) (h:zab) (bs:List (List zaa)) (ts:List Nat) (i j:Nat) (s:Sp) (hs:s.ok) (c:Bool) (l:List Int) (hl:inB l) (hn:l.length < 100000000) (hc:s.c < 100000000)
    (hi:i < bs.length) (hj:j < bs.length) (hij:i≠j) (hL:L.rob≤h.blks.length):
    zag ctx L zbr [pA h.blks.length i 0,.vsl c (eI .u8 l)] (hx h (spH bs i j h.blks.length s) ts)=some (.tup [],hx h (spH bs i j h.blks.length (zbH s l)) ts):=by
  rw [zgP]
  have hlo:=fun fr R=>zvS (L:=⟨L.rob,L.rot,h.blks.length+bs.length,h.toks.length+ts.length⟩) (fr:=fr) (h:=h) (R:=R) bs ts i j s hs c l hl hn hc hi hj hij hL
  have htr:=zpw h bs ts i j (spO h.blks.length j (zbH s l)) (cI .u8 (zbH s l).S)
  have g1:=zCC hi hij
  simp only [spH] at*
  generalize zbH s l=s2 at*
  generalize hy:spO h.blks.length j s2=y at*
  simp only [spO] at*
  simp -implicitDefEqProofs [zcj,zam,zak,g1,zae,zqT]
  generalize hF:run ctx _ (.loop _) _ _=R
  obtain ⟨fr1,rfl⟩:=hlo _ _ hF (by simp) (by simp) (by simp) (by simp) (by simp)
  simp -implicitDefEqProofs [htr,zam,zak]
theorem zxI (L:Lim) (h:zab) (bs:List (List zaa)) (ts:List Nat) (i j:Nat) (s:Sp) (hs:s.ok) (hc:s.c < 100000000) (hi:i < bs.length) (hj:j < bs.length) (hij:i≠j) (hL:L.rob≤h.blks.length):
    zag ctx L zaP [pA h.blks.length i 0] (hx h (spH bs i j h.blks.length s) ts)=some (.tup [],hx h (spH bs i j h.blks.length (zEK s)) ts):=by
  rw [zgj]
  have hP:=fun L hL=>znq L h bs ts i j s hs (by omega) hi hj hij hL
  have g1:=zCC hi hij
  have g2:=zFs (i:=i) hj
  have g3:=zy0 (bs:=bs) hij
  have g4:=zy1 (bs:=bs) (i:=i) (j:=j)
  have g5:=zpw h bs ts i j
  have hsl:=zwu 1 h.blks.length j 200 136 (some 200) .i64 (by decide)
  simp only [Int.cast_ofNat_Int] at hsl
  have hcl:=fun L hL x=>zG2 L h (sp2 bs i j x (cI .u8 (zmL s.S))) ts j 0 136 (some 200) .u8 0 (zmL s.S) (g2 x _) (by rw [zra];decide) hL
  simp only [g4] at hcl
  have e1:(zEK s).S=putAt (zmL s.S) 0 (tab 136 fun _=>0):=rfl
  have e2:spO h.blks.length j (zEK s)=[.iface 230 (.agg []),sA h.blks.length j 0 1 200 (some 200),.int .i64 0,.int .i64 136,.int .i64 ((s.c+1:Nat):Int)]:=rfl
  simp only [spH] at*
  rw [e1,e2]
  have e3:spO h.blks.length j (zo4 s)=[.iface 230 (.agg []),sA h.blks.length j 0 1 200 (some 200),.int .i64 0,.int .i64 s.b,.int .i64 ((s.c+1:Nat):Int)]:=rfl
  have e4:(zo4 s).S=zmL s.S:=rfl
  rw [e3,e4] at hP
  generalize putAt (zmL s.S) 0 (tab 136 fun _=>0)=S2 at*
  generalize zmL s.S=S1 at*
  generalize ((s.c+1:Nat):Int)=c2 at*
  generalize hy:spO h.blks.length j s=y at*
  simp -implicitDefEqProofs [zb0,zam,zak,hP,hL,g1,g2,g3,g4,g5,zae,zqT,hsl,hcl,zan,setAt]
end Go.Av
