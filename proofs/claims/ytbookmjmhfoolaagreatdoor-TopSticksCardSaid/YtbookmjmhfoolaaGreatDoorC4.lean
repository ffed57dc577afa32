/- The sponge of bytes; items read off bytes; a new guard. -/
import Derived.Test.YtbookmjmhfoolaaGreatDoorC3
import Derived.Test.YtbookmjmhfoolaaGreatDoorC1
import Derived.Test.YtbookmjmhfoolaaGreatDoorC2
set_option linter.unusedSimpArgs false
set_option linter.unusedVariables false
set_option maxHeartbeats 2000000
set_option maxRecDepth 20000
namespace Go.Av
end Go.Av
namespace Go.Av
theorem zzM {s:Sp} (hb:s.b=136):zxb s=⟨zmS s.S,0,1,s.c+1⟩∧zMc s=gd (zmS s.S) 0 0:=by
  unfold zxb zMc zDG;rw [if_pos hb];exact ⟨rfl,rfl⟩
theorem zzN {s:Sp} (hb:¬s.b=136):zxb s=⟨s.S,s.a,s.b+1,s.c⟩∧zMc s=gd s.S 0 s.b:=by
  unfold zxb zMc zDG;rw [if_neg hb];exact ⟨rfl,rfl⟩
theorem zr0 (s:Sp):∀ n,(zdr s n).c≤s.c+n
  | 0=>Nat.le_refl _
  | n + 1 => by
    have:=zr0 s n
    rw [zdr]
    by_cases hb:(zdr s n).b=136
    · rw [(zzM hb).1];simp only [];omega
    · rw [(zzN hb).1];simp only [];omega
end Go.Av
namespace Go.Av
theorem zI7 (b:List Int) (hb:inB b) (hl:b.length=200):∀ k,k≤200→∀ q,q < 25→(gd (obK b 200 k) 0#64 q).toNat=leN ((b.take (8*q+8)).drop (max (200 - k) (8*q)))
  | 0,_,q,hq=>by rw [obK,zkQ hq,List.drop_eq_nil_of_le (by simp;omega)];rfl
  | k + 1, hk, q, hq => by
    have ih:=zI7 b hb hl k (by omega) q hq
    obtain ⟨i,hi⟩:∃ i,i=199 - k:=⟨_,rfl⟩
    have hi2:200 - (k+1)=i:=by omega
    have hi3:200 - k=i+1:=by omega
    have hbi:=hb i (by omega)
    rw [obK,show 200 - 1 - k=i by omega,hi2]
    rw [hi3] at ih
    rw [zmc _ _ _ _ _ (by simp;omega)]
    by_cases h:i / 8=q
    · rw [if_pos h,h]
      obtain ⟨v,hv⟩:∃ v:Nat,gd b 0 i=(v:Int):=⟨(gd b 0 i).toNat,by omega⟩
      have e1:max (i+1) (8*q)=i+1:=by omega
      have e2:max i (8*q)=i:=by omega
      rw [e1] at ih
      rw [e2]
      have hil:i < (b.take (8*q+8)).length:=by simp;omega
      have hcons:(b.take (8*q+8)).drop i=gd b 0 i :: (b.take (8*q+8)).drop (i+1):=by
        rw [List.drop_eq_getElem_cons hil]
        congr 1
        simp [gd,List.getD,List.getElem_take,show i < b.length by omega]
      have hB:=zrH (zmu hb (8*q+8)) i
      have hlt:=zAH hB
      rw [hcons] at hlt ⊢
      have hlen:((b.take (8*q+8)).drop (i+1)).length≤7:=by simp;omega
      simp only [leN,List.length_cons] at hlt ⊢
      have hp:(256:Nat) ^ (((b.take (8*q+8)).drop (i+1)).length+1)≤2 ^ 64:=by
        rw [show (2:Nat) ^ 64=256 ^ 8 from rfl];exact Nat.pow_le_pow_right (by decide) (by omega)
      rw [BitVec.toNat_add,BitVec.toNat_mul,ih,hv,zJi v (by omega)]
      rw [hv] at hlt
      simp only [Int.toNat_natCast] at hlt ⊢
      rw [show (256#64:W64).toNat=256 from rfl,Nat.mod_add_mod,Nat.mod_eq_of_lt (by omega)]
      omega
    · rw [if_neg h,ih]
      by_cases h2:i < 8*q
      · rw [show max (i+1) (8*q)=max i (8*q) by omega]
      · rw [List.drop_eq_nil_of_le (by simp;omega),List.drop_eq_nil_of_le (by simp;omega)]
theorem zEh (b:List Int) (hb:inB b) (hl:b.length=200):wdP b 25 200=zgt b:=by
  refine List.ext_getElem? fun q=>?_
  by_cases hq:q < 25
  · rw [zql (d := 0#64) (by rw [zv4]; exact hq), zql (d := 0#64) (by rw [ze2]; exact hq)]
    refine congrArg some ?_
    apply BitVec.eq_of_toNat_eq
    rw [zFc b hb 25 200 (by omega) (by omega) q hq,zgt,zI7 b hb hl 200 (by omega) q hq]
    unfold bck
    rw [show min 200 (8*q+8)=8*q+8 by omega,show max (200 - 200) (8*q)=8*q by omega]
  · rw [List.getElem?_eq_none (by rw [zv4];omega),List.getElem?_eq_none (by rw [ze2];omega)]
end Go.Av
namespace Go.Av
theorem zLt (L:Lim) (h:zab) (x:zaa) (cp:Bool) (b:List Int) (hx1:fzA h x=some (.vsl false (eI .u8 b),cp)) (hl:b.length=200) (hb:inB b):
    zag ctx L zeT [x] h=some (.tup [.agg (cW (zgt b)),.int .i64 0],h):=by
  rw [znH]
  have hW:=fun L h=>zvu L h (.vsl false (eI .u8 b)) b (RdI.vsl _ _ _ _) (by omega)
  rw [hl,zEh b hb hl] at hW
  have hwl:(zgt b).length=25:=ze2 b
  have h2a:=zxc 25 false (zgt b) (by decide) (by rw [hwl];decide)
  rw [List.take_of_length_le (by omega)] at h2a
  have hfl:(zaa.tup [.agg (cW (zgt b)),.int .i64 0]).flat=true:=by simp [zaa.flat,zck]
  have hend:=fun h=>zyb h _ hfl
  generalize zgt b=w at*
  cases cp <;> simp -implicitDefEqProofs [zgS,zau,hx1,hl,hW,h2a,zbk,zaf,hwl,zbF,zah,hend]
theorem zFq {α:Type} (m l:List α) (h:m.length=l.length):putAt m 0 l=l:=by
  unfold putAt;simp;omega
theorem zFs (L:Lim) (h:zab) (bs:List (List zaa)) (ts:List Nat) (i n:Nat) (cap:Option Nat) (k:IntKind) (l m:List Int) (y:zaa) (hy:zay (hx h bs ts) 1 y=some (eI k l)) (hb:bs[i]?=some (cI k m))
    (hl:l.length=n) (hm:m.length=n) (hL:L.rob≤h.blks.length):
    zBw L (hx h bs ts) 1 (sA h.blks.length i 0 1 n cap) y=some (.int .i64 n,hx h (bs.set i (cI k l)) ts):=by
  have:=zD1 L h bs ts i 0 n cap k l m y hy hb (by omega) hL
  rw [hl,Nat.min_self,List.take_of_length_le (by omega),zFq _ _ (by omega)] at this
  exact this
theorem zIu (L:Lim) (h:zab) (bs:List (List zaa)) (ts:List Nat) (j:Nat) (cap:Option Nat) (S:List Int) (hS:S.length=200) (hb:inB S) (hj:bs[j]?=some (cI .u8 S)) (hL:L.rob≤h.blks.length):
    zag ctx L zbw [.agg [],sA h.blks.length j 0 1 200 cap] (hx h bs ts)=some (.tup [],hx h (bs.set j (cI .u8 (zmS S))) ts):=by
  rw [ziX]
  obtain ⟨hjl,_⟩:=List.getElem?_eq_some_iff.1 hj
  have hf:=zJn h bs ts j 200 cap .u8 S hj hS
  have hK:=fun L=>zLt L _ _ true S hf hS hb
  have hP:=fun L h=>zpI L h (zgt S) (ze2 S)
  have hB:=fun L h=>zuY L h (zol (zgt S)) (by rw [zez];exact ze2 S)
  rw [show zdk (zol (zgt S))=zmS S from rfl] at hB
  have l1:(zgt S).length=25:=ze2 S
  have l2:(zol (zgt S)).length=25:=by rw [zez];exact l1
  have l3:(zmS S).length=200:=zrt S
  have hbox:znl (.agg [])=some (.vptr [] 0):=rfl
  have hsl:=zli 200 1 h.blks.length (bs.length+1) 0 (by decide)
  have hel : ∀ w : List zaa, zay (hx h (bs ++ [w, cI .u8 (zmS S)]) ts) 1 (sA h.blks.length (bs.length + 1) 0 1 200 (some 200)) = some (eI .u8 (zmS S)) := fun w => by
    have:=zv7 h (bs++[w,cI .u8 (zmS S)]) ts (bs.length+1) 200 (cI .u8 (zmS S)) (some 200) (by rw [List.getElem?_append_right (by omega)];simp) (by simp)
    rw [this,zrK]
  have hcp : ∀ (L : Lim) (w : List zaa), L.rob ≤ h.blks.length → zBw L (hx h (bs ++ [w, cI .u8 (zmS S)]) ts) 1 (sA h.blks.length j 0 1 200 cap) (sA h.blks.length (bs.length + 1) 0 1 200 (some 200)) = some (.int .i64 200, hx h (bs.set j (cI .u8 (zmS S)) ++ [w, cI .u8 (zmS S)]) ts) := fun L w hL => by
    have:=zFs L h (bs++[w,cI .u8 (zmS S)]) ts j 200 cap .u8 (zmS S) S _ (hel w) (by rw [List.getElem?_append_left hjl];exact hj) l3 hS hL
    rw [this,List.set_append_left _ _ hjl];rfl
  generalize zmS S=T at*
  generalize zol (zgt S)=p at*
  generalize zgt S=w at*
  have htr:=fun js=>zoU h (bs.set j (cI .u8 T)) js ts bs.length (by simp)
  have hg0:=fun x=>zdv bs [x] bs.length 0 rfl
  have hg1:=fun x y=>zdv bs [x,y] bs.length 0 rfl
  have hg2:=fun x y=>zdv bs [x,y] bs.length 1 rfl
  have hs0:=fun x v=>zeQ bs [x] bs.length 0 v rfl
  have hs1:=fun x y v=>zeQ bs [x,y] bs.length 1 v rfl
  simp only [Nat.add_zero,List.getElem?_cons_zero,List.getElem?_cons_succ,List.set_cons_zero,List.set_cons_succ] at hg0 hg1 hg2 hs0 hs1
  simp -implicitDefEqProofs [zdp,zan,zak,hbox,hK,zbk,zgL,zbF,zah,zam,hL,hP,hB,l1,l2,l3,hg0,hg1,hg2,hs0,hs1,zaf,hsl,hcp,htr]
def spO (n j:Nat) (s:Sp):List zaa:=[.iface 230 (.agg []),sA n j 0 1 200 (some 200),.int .i64 s.a,.int .i64 s.b,.int .i64 s.c]
def sp2 (bs:List (List zaa)) (i j:Nat) (x y:List zaa):List (List zaa):=(bs.set i x).set j y
@[simp] theorem zRa (bs:List (List zaa)) (i j:Nat) (x y:List zaa):(sp2 bs i j x y).length=bs.length:=by simp [sp2]
theorem zFw {bs:List (List zaa)} {i j:Nat} (hi:i < bs.length) (hij:i≠j) (x y:List zaa):(sp2 bs i j x y)[i]?=some x:=by
  unfold sp2;rw [List.getElem?_set_ne (Ne.symm hij),List.getElem?_set_self hi]
theorem zIx {bs:List (List zaa)} {i j:Nat} (hj:j < bs.length) (x y:List zaa):(sp2 bs i j x y)[j]?=some y:=by
  unfold sp2;rw [List.getElem?_set_self (by simpa using hj)]
theorem zAR {bs:List (List zaa)} {i j:Nat} (hij:i≠j) (x y x':List zaa):(sp2 bs i j x y).set i x'=sp2 bs i j x' y:=by
  unfold sp2;rw [List.set_comm _ _ (Ne.symm hij),List.set_set]
theorem zAS {bs:List (List zaa)} {i j:Nat} (x y y':List zaa):(sp2 bs i j x y).set j y'=sp2 bs i j x y':=by
  unfold sp2;rw [List.set_set]
theorem zJs (h:zab) (bs:List (List zaa)) (ts us:List Nat) (i j:Nat) (x y:List zaa):zdW (hx h (sp2 bs i j x y) (ts++us)) (h.blks.length+bs.length) (h.toks.length+ts.length)=hx h (sp2 bs i j x y) ts:=by
  unfold zdW hx
  simp only
  rw [List.take_of_length_le (by simp),← List.append_assoc,List.take_left' (by simp)]
theorem zqu (h:zab) (bs:List (List zaa)) (ts:List Nat) (i j:Nat) (x y:List zaa):zdW (hx h (sp2 bs i j x y) ts) (h.blks.length+bs.length) (h.toks.length+ts.length)=hx h (sp2 bs i j x y) ts:=by
  have:=zJs h bs ts [] i j x y
  rwa [List.append_nil] at this
def spH (bs:List (List zaa)) (i j n:Nat) (s:Sp):List (List zaa):=sp2 bs i j (spO n j s) (cI .u8 s.S)
theorem zn8 (L:Lim) (h:zab) (bs:List (List zaa)) (ts:List Nat) (i j:Nat) (s:Sp) (hs:s.ok) (hc:s.c < 1000000000) (hi:i < bs.length) (hj:j < bs.length) (hij:i≠j) (hL:L.rob≤h.blks.length):
    zag ctx L zaG [pA h.blks.length i 0] (hx h (spH bs i j h.blks.length s) ts)=some (.tup [],hx h (spH bs i j h.blks.length (zoL s)) ts):=by
  rw [zgq]
  unfold spH
  have g1:=zFw hi hij
  have g2:=zIx (i:=i) hj
  have g3:=zAR (bs:=bs) hij
  have g4:=zAS (bs:=bs) (i:=i) (j:=j)
  have g5:=zqu h bs ts i j
  have hP:=fun L hL x=>zIu L h (sp2 bs i j x (cI .u8 s.S)) ts j (some 200) s.S hs.1 hs.2.1 (g2 x _) hL
  simp only [g4] at hP
  have w1:IntKind.i64.wrap ((s.c:Int)+1)=((s.c+1:Nat):Int):=(wrap_i64 (by omega) (by omega)).trans (by omega)
  have e1:spO h.blks.length j (zoL s)=[.iface 230 (.agg []),sA h.blks.length j 0 1 200 (some 200),.int .i64 0,.int .i64 s.b,.int .i64 ((s.c+1:Nat):Int)]:=rfl
  have e2:spO h.blks.length j s=[.iface 230 (.agg []),sA h.blks.length j 0 1 200 (some 200),.int .i64 s.a,.int .i64 s.b,.int .i64 s.c]:=rfl
  rw [e1,e2,show (zoL s).S=zmS s.S from rfl]
  generalize ((s.c+1:Nat):Int)=c2 at*
  simp -implicitDefEqProofs [zcb,zan,zak,g1,g2,g3,g4,g5,hP,hL,zam,w1,setAt]
end Go.Av
namespace Go.Av
theorem zrM (L:Lim) (h:zab):zag ctx L zce [.agg []] h=some (.int .i64 136,h):=by
  have hf:fzA h (.agg [])=some (.agg [],false):=rfl
  rw [zk2];simp [zeX,znl,zaa.okV,zaa.cells,hf]
theorem zFC (L:Lim) (h:zab):zag ctx L zbQ [.agg []] h=some (.int .i64 200,h):=by
  have hf:fzA h (.agg [])=some (.agg [],false):=rfl
  rw [zj2];simp [zel,znl,zaa.okV,zaa.cells,hf]
theorem zLw (s:zaa) (n m:Nat) (es:List (List zaa)):gL s (n+m) 0 es=gL s n m es:=by
  unfold gL;split
  · rfl
  · rw [zNI,Nat.add_zero]
theorem zwe {L:Lim} {fr:Fr} {h:zab} {R:Option (AEx × Fr × zab)} (bs:List (List zaa)) (ts:List Nat) (i j:Nat) (s:Sp) (hs:s.ok) (N:Int) (n:Nat) (hN:n=N.toNat) (hn:n < 1000000) (hc:s.c < 100000000)
    (hi:i < bs.length) (hj:j < bs.length) (hij:i≠j) (hL:L.rob≤h.blks.length) (hT:L.rot≤h.toks.length)
    (hF:run ctx L (.loop zaN) fr (hx h (spH bs i j h.blks.length s) ts)=R)
    (h0:fr 0=pA h.blks.length i 0) (h7:fr 7=.int .i64 N) (h5:fr 5=.nsl) (h8:fr 8=.int .i64 0):
    ∃ fr',R=some (.exit 0,fr',hx h (spH bs i j h.blks.length (zdr s n)) (ts++gT (eI .u8 (zjq s n))))∧fr' 5=gL .nsl h.toks.length ts.length (eI .u8 (zjq s n)):=by
  obtain ⟨e,fr',h',rfl,⟨rfl,rfl,g5⟩,hk⟩:=zaj hF n
    (fun k fr hh=>fr 8=.int .i64 k∧hh=hx h (spH bs i j h.blks.length (zdr s k)) (ts++gT (eI .u8 (zjq s k)))∧fr 5=gL .nsl h.toks.length ts.length (eI .u8 (zjq s k)))
    (fun e fr hh=>e=.exit 0∧hh=hx h (spH bs i j h.blks.length (zdr s n)) (ts++gT (eI .u8 (zjq s n)))∧fr 5=gL .nsl h.toks.length ts.length (eI .u8 (zjq s n)))
    ⟨h8, by simp [zdr, zjq, tab, gT], h5⟩ (by
      rintro k fr1 hh hkN hkeep ⟨g8,rfl,g5⟩
      have g0:=(hkeep 0 (by decide)).trans h0
      have g7:=(hkeep 7 (by decide)).trans h7
      by_cases hlt:k < n
      · have hltI : (k : Int) < N := by omega
        have w0:IntKind.i64.wrap ((k:Int)+1)=k+1:=wrap_i64 (by omega) (by omega)
        have hok:=zmo hs k
        have hck:=zr0 s k
        have hsn:=zDW s k
        have hll:=zoR s k
        have hgs:zdr s (k+1)=zxb (zdr s k):=rfl
        have hroom:((zjq s k).length+1 < zat):=by rw [hll];unfold zat;omega
        have hap:=fun bs' v=>zy3 L h bs' ts 1 true (eI .u8 (zjq s k)) (eI .u8 [v]) (by simp [hT,hroom])
        have hst:=fun q=>spH bs i j h.blks.length q
        have g1:=zFw hi hij
        have g2:=zIx (i:=i) hj
        have g3:=zAR (bs:=bs) hij
        have g4:=zAS (bs:=bs) (i:=i) (j:=j)
        generalize zjq s k=l at*
        generalize zdr s k=q at*
        have hP:=fun ts=>zn8 L h bs ts i j q hok (by omega) hi hj hij hL
        obtain ⟨o1,o2,o3,o4⟩:=hok
        have hR:=zrM
        by_cases hb:q.b=136
        · obtain ⟨e1,e2⟩:=zzM hb
          rw [e1] at hgs
          rw [e2] at hsn
          have htl:(zmS q.S).length=200:=zrt _
          have ia:=ztc h.blks.length j 0 1 200 0 (some 200) .i64 (by decide)
          have gt:=zFo (k:=.u8) (l:=zmS q.S) (i:=0) (by omega)
          obtain ⟨S,a,b,c⟩:=q
          simp only at*
          subst hb
          simp only [spH,spO,zoL,Int.natCast_zero,Int.cast_ofNat_Int] at*
          generalize zmS S=S1 at*
          generalize c+1=c1 at*
          simp -implicitDefEqProofs [zaN,g0,g5,g7,g8,hltI,w0,hP,hR,g1,g2,g3,g4,zam,hL,setAt,ia,gt,zae,zaA,rep,chunks,zii,hap,hsn,hgs,hlt,show IntKind.i64.wrap 1=1 by decide]
        · obtain ⟨e1,e2⟩:=zzN hb
          rw [e1] at hgs
          rw [e2] at hsn
          have hbI:((q.b:Int)==136)=false:=beq_false_of_ne (by omega)
          have ia:=ztc h.blks.length j 0 1 200 q.b (some 200) .i64 (decide_eq_true (by omega))
          have gt:=zFo (k:=.u8) (l:=q.S) (i:=q.b) (by omega)
          have w1:IntKind.i64.wrap ((q.b:Int)+1)=((q.b+1:Nat):Int):=(wrap_i64 (by omega) (by omega)).trans (by omega)
          obtain ⟨S,a,b,c⟩:=q
          simp only [spH,spO] at*
          generalize b+1=b1 at*
          simp -implicitDefEqProofs [zaN,g0,g5,g7,g8,hltI,w0,w1,hbI,hR,g1,g2,g3,g4,zam,hL,setAt,ia,gt,zae,zaA,rep,chunks,zii,hap,hsn,hgs,hlt,show IntKind.i64.wrap 1=1 by decide]
      · have : k = n := by omega
        subst this
        have hltI:¬(k:Int) < N:=by omega
        simp [zaN,g5,g7,g8,hltI])
  exact ⟨fr',rfl,g5⟩
theorem zth (L:Lim) (h:zab) (bs:List (List zaa)) (ts:List Nat) (i j:Nat) (s:Sp) (hs:s.ok) (N:Int) (n:Nat) (hN:n=N.toNat) (hn:n < 1000000) (hc:s.c < 100000000)
    (hi:i < bs.length) (hj:j < bs.length) (hij:i≠j) (hL:L.rob≤h.blks.length) (hT:L.rot≤h.toks.length):
    zag ctx L zaU [pA h.blks.length i 0,.int .i64 N] (hx h (spH bs i j h.blks.length s) ts)=some (.vsl false (eI .u8 (zjq s n)),hx h (spH bs i j h.blks.length (zdr s n)) ts):=by
  rw [zgs]
  obtain ⟨M,hM⟩:∃ M:Int,M=max N 0:=⟨_,rfl⟩
  have hmx:zrh true (.int .i64 N) [.int .i64 0]=some (.int .i64 M):=by
    simp only [zrh,zOi,bind,Option.bind_some,if_true]
    rw [hM]
    by_cases h0:(0:Int) > N
    · rw [if_pos h0,show max N 0=0 by omega]
    · rw [if_neg h0,show max N 0=N by omega]
  have hlo:=fun fr R=>zwe (L:=⟨L.rob,L.rot,h.blks.length+bs.length,h.toks.length+ts.length⟩) (fr:=fr) (h:=h) (R:=R) bs ts i j s hs M n (by omega) hn hc hi hj hij hL hT
  have hlen:(spH bs i j h.blks.length s).length=bs.length:=by simp [spH]
  have htr:∀ us,zdW (hx h (spH bs i j h.blks.length (zdr s n)) (ts++us)) (h.blks.length+bs.length) (h.toks.length+ts.length)=hx h (spH bs i j h.blks.length (zdr s n)) ts:=fun us=>zJs _ _ _ _ _ _ _ _
  have hfz:=fun hh m=>zpo (h1:=hh) (nb:=h.blks.length+bs.length) (nt:=h.toks.length+ts.length) (n:=m) (s:=.nsl) (es:=eI .u8 (zjq s n)) (.inl rfl) (by simp)
  simp only [zLw] at hfz
  generalize zjq s n=l at*
  generalize spH bs i j h.blks.length (zdr s n)=b2 at*
  generalize spH bs i j h.blks.length s=b1 at*
  simp -implicitDefEqProofs [zcd,zan,zak,hlen,hmx]
  generalize hF:run ctx _ (.loop _) _ _=R
  obtain ⟨fr1,rfl,f5⟩:=hlo _ _ hF (by simp) (by simp) (by simp) (by simp)
  simp -implicitDefEqProofs [f5,hfz,htr,zan,zak,hlen]
end Go.Av
namespace Go.Av
theorem zON (a b s:Nat) (ha:a < 2 ^ s) (hlt:a+b*2 ^ s < 2 ^ 62):zew .or (.int .i64 (a:Int)) (.int .i64 ((b*2 ^ s:Nat):Int))=some (.int .i64 ((a+b*2 ^ s:Nat):Int)):=by
  rw [zED]
  have h1:BitVec.ofInt 64 ((a:Nat):Int)=BitVec.ofNat 64 a:=by simp
  have h2:BitVec.ofInt 64 ((b*2 ^ s:Nat):Int)=BitVec.ofNat 64 (b*2 ^ s):=by
    rw [BitVec.ofInt_natCast]
  have hbits:IntKind.i64.bits=64:=rfl
  have e:(BitVec.ofInt 64 ((a:Nat):Int)|||BitVec.ofInt 64 ((b*2 ^ s:Nat):Int)).toNat=a+b*2 ^ s:=by
    rw [h1,h2,BitVec.toNat_or,BitVec.toNat_ofNat,BitVec.toNat_ofNat,Nat.mod_eq_of_lt (by omega),Nat.mod_eq_of_lt (by omega),Nat.or_comm,Nat.mul_comm b,← Nat.two_pow_add_eq_or_of_lt ha,Nat.add_comm]
  show some (zaa.int .i64 (IntKind.i64.wrap ((BitVec.ofInt 64 ((a:Nat):Int)|||BitVec.ofInt 64 ((b*2 ^ s:Nat):Int)).toNat:Int)))=_
  rw [e,wrap_i64 (by omega) (by omega)]
theorem zAV (k kd kd':IntKind) (c:Bool) (l:List Int) (n:Nat) (hn:n≤l.length):zc0 .slc 1 (.vsl c (eI k l)) none (some (.int kd (n:Int))) (some (.int kd' (n:Int)))=some (.vsl true (eI k (l.take n))):=by
  have e:(eI k l).take n=eI k (l.take n):=by simp [eI]
  simp [zc0,zio,hn,zwz,e]
theorem zAW (k kd:IntKind) (l:List Int) (n:Nat) (hn:n≤l.length):zc0 .slc 1 (.vsl false (eI k l)) (some (.int kd (n:Int))) none none=some (.vsl false (eI k (l.drop n))):=by
  have e:((eI k l).take l.length).drop n=eI k (l.drop n):=by
    rw [List.take_of_length_le (by simp)];simp [eI]
  simp [zc0,zio,hn,zwz,e]
structure Rd where
  b:List Int
  s:Bool
def rdC (r:Rd):List zaa:=[.vsl false (eI .u8 r.b),.bool r.s]
def rdT (r:Rd) (n:Nat):List Int:=if r.b.length < n then [] else r.b.take n
def rdR (r:Rd) (n:Nat):Rd:=if r.b.length < n then ⟨r.b,true⟩ else ⟨r.b.drop n,r.s⟩
theorem zLB (r:Rd) (n:Nat):(rdT r n).length≤n:=by unfold rdT;split <;> simp <;> omega
theorem zFJ (L:Lim) (h:zab) (bs:List (List zaa)) (ts:List Nat) (i:Nat) (r:Rd) (n:Nat) (hb:bs[i]?=some (rdC r)) (hL:L.rob≤h.blks.length):
    zag ctx L zcv [pA h.blks.length i 0,.int .i64 (n:Int)] (hx h bs ts)=some (.vsl false (eI .u8 (rdT r n)),hx h (bs.set i (rdC (rdR r n))) ts):=by
  rw [zlO]
  have hi:=(List.getElem?_eq_some_iff.1 hb).1
  have hgs:∀ x:List zaa,(bs.set i x)[i]?=some x:=fun x=>List.getElem?_set_self hi
  have htr:=fun cs=>zik h bs ts i cs
  obtain ⟨b,s⟩:=r
  simp only [rdC] at hb
  have hu:∀ l:List Int,zap 0 0 [zaa.vsl false (eI .u8 l)]=true:=fun l=>by simp [zap,zaa.under]
  by_cases hs:b.length < n
  · have hsI : (b.length : Int) < (n : Int) := by omega
    have e1:rdT ⟨b,s⟩ n=[]:=if_pos hs
    have e2:rdR ⟨b,s⟩ n=⟨b,true⟩:=if_pos hs
    rw [e1,e2]
    have t0:=zAV .u8 .i64 .i64 false b 0 (Nat.zero_le _)
    have d0:=zAW .u8 .i64 b 0 (Nat.zero_le _)
    rw [List.take_zero] at t0
    rw [List.drop_zero] at d0
    simp only [Int.natCast_zero] at t0 d0
    have hfz:=fun hh nb nt m=>zhF hh nb nt m true (es:=[]) (by simp [zax])
    simp -implicitDefEqProofs [zdx,zan,zak,hb,hgs,zae,hsI,zam,hL,setAt,t0,d0,hu,htr,rdC,hfz]
  · have hsI : ¬ (b.length : Int) < (n : Int) := by omega
    have e1:rdT ⟨b,s⟩ n=b.take n:=if_neg hs
    have e2:rdR ⟨b,s⟩ n=⟨b.drop n,s⟩:=if_neg hs
    rw [e1,e2]
    have t0:=zAV .u8 .i64 .i64 false b n (by omega)
    have d0:=zAW .u8 .i64 b n (by omega)
    simp -implicitDefEqProofs [zdx,zan,zak,hb,hgs,zae,hsI,zam,hL,setAt,t0,d0,hu,htr,rdC]
theorem zFK {L:Lim} {fr:Fr} {H:zab} {R:Option (AEx × Fr × zab)} (l:List Int) (hb:inB l) (hn:l.length≤7)
    (hF:run ctx L (.loop zcB) fr H=R)
    (h5:fr 5=.int .i64 0) (h10:fr 10=.vsl false (eI .u8 l)) (h11:fr 11=.int .i64 l.length) (h12:fr 12=.int .i64 0):
    ∃ fr',R=some (.exit 0,fr',H)∧fr' 5=.int .i64 (leN l:Int):=by
  obtain ⟨e,fr',h',rfl,⟨rfl,rfl,g5⟩,hk⟩:=zaj hF l.length
    (fun k fr hh=>fr 12=.int .i64 k∧hh=H∧fr 5=.int .i64 (leN (l.take k):Int))
    (fun e fr hh=>e=.exit 0∧hh=H∧fr 5=.int .i64 (leN l:Int))
    ⟨h12, rfl, by simpa [leN] using h5⟩ (by
      rintro k fr1 hh hkN hkeep ⟨g12,rfl,g5⟩
      have g10:=(hkeep 10 (by decide)).trans h10
      have g11:=(hkeep 11 (by decide)).trans h11
      by_cases hlt:k < l.length
      · have w0 : IntKind.i64.wrap ((k : Int) + 1) = k + 1 := wrap_i64 (by omega) (by omega)
        have ik:=zzt .u8 .i64 false l k (decide_eq_true hlt)
        obtain ⟨x,hx⟩:∃ x:Nat,gd l 0 k=(x:Int):=⟨(gd l 0 k).toNat,by have:=hb k hlt;omega⟩
        have hx256:x < 256:=by have:=hb k hlt;omega
        have hsn:leN (l.take (k+1))=leN (l.take k)+x*2 ^ (8*k):=by
          rw [zlr 0 hlt,zv3,hx,List.length_take,Nat.min_eq_left (by omega),Int.toNat_natCast,Nat.pow_mul]
        have hA:leN (l.take k) < 2 ^ (8*k):=by
          have:=zAH (zmu hb k)
          rw [List.length_take,Nat.min_eq_left (by omega)] at this
          rw [Nat.pow_mul];exact this
        have hpow:2 ^ (8*k)≤2 ^ 48:=Nat.pow_le_pow_right (by decide) (by omega)
        have hxp:x*2 ^ (8*k)≤255*2 ^ 48:=Nat.mul_le_mul (by omega) hpow
        have hor:=zON (leN (l.take k)) x (8*k) hA (by omega)
        have w8:IntKind.i64.wrap (8*(k:Int))=((8*k:Nat):Int):=(wrap_i64 (by omega) (by omega)).trans (by omega)
        have hsh:zew .shl (.int .i64 (x:Int)) (.int .i64 ((8*k:Nat):Int))=some (.int .i64 ((x*2 ^ (8*k):Nat):Int)):=by
          rw [zl0]
          have e1:¬(((8*k:Nat):Int) < 0):=by omega
          have e2:min ((8*k:Nat):Int).toNat IntKind.i64.bits=8*k:=by rw [Int.toNat_natCast];exact Nat.min_eq_left (by show 8*k≤64;omega)
          unfold zkP
          rw [if_neg e1]
          simp only [e2]
          have e3:(x:Int)*2 ^ (8*k)=((x*2 ^ (8*k):Nat):Int):=by rw [Int.natCast_mul,Int.natCast_pow];rfl
          rw [e3,wrap_i64 (by omega) (by omega)]
        have wx:IntKind.i64.wrap (x:Int)=x:=wrap_i64 (by omega) (by omega)
        rw [hx] at ik
        rw [← hsn] at hor
        generalize x*2 ^ (8*k)=y at*
        generalize 8*k=k8 at*
        generalize hq2:leN (l.take (k+1))=q2 at*
        generalize leN (l.take k)=q at*
        simp -implicitDefEqProofs [zcB,g5,g10,g11,g12,hlt,w0,ik,w8,hsh,wx,hor,hq2, -zED, -zl0]
      · have : k = l.length := by omega
        subst this
        simp only [List.take_length] at g5
        simp [zcB,g5,g11,g12])
  exact ⟨fr',rfl,g5⟩
theorem zmy (L:Lim) (h:zab) (bs:List (List zaa)) (ts:List Nat) (i:Nat) (r:Rd) (n:Nat) (hr:inB r.b) (hn:n≤7) (hb:bs[i]?=some (rdC r)) (hL:L.rob≤h.blks.length):
    zag ctx L za4 [pA h.blks.length i 0,.int .i64 (n:Int)] (hx h bs ts)=some (.int .i64 (leN (rdT r n):Int),hx h (bs.set i (rdC (rdR r n))) ts):=by
  rw [zj8]
  have hT:=fun L hL=>zFJ L h bs ts i r n hb hL
  have hin:inB (rdT r n):=by
    unfold rdT;split
    · exact fun i hi=>by simp at hi
    · exact zmu hr n
  have hlen:=zLB r n
  have hlo:=fun L fr H R=>zFK (L:=L) (fr:=fr) (H:=H) (R:=R) (rdT r n) hin (by omega)
  have htr:=fun cs=>zik h bs ts i cs
  generalize rdC (rdR r n)=r2 at*
  generalize rdT r n=l at*
  simp -implicitDefEqProofs [zeu,zan,zak,hT,hL]
  generalize hF:run ctx _ (.loop _) _ _=R
  obtain ⟨fr1,rfl,f5⟩:=hlo _ _ _ _ hF (by simp) (by simp) (by simp) (by simp)
  simp -implicitDefEqProofs [f5,zan,zak,htr]
end Go.Av
namespace Go.Av
theorem zFM (L:Lim) (h:zab) (c:Bool) (l:List Int) (hl:l.length < 1000000000):zag ctx L zbT [.vsl c (eI .u8 l)] h=some (.vsl false (eI .u8 l),h):=
  zzC (sz:=1) (z:=[.int .u8 0]) rfl rfl rfl _ _ rfl rfl (zCF c _) (by simp) (by simp) (by simp [zat];omega)
theorem zFN (L:Lim) (h:zab) (l:List Int) (hl:l.length < 1000000000):zag ctx L zbT [.vsl false (eI .u8 l)] h=some (.vsl false (eI .u8 l),h):=zFM L h false l hl
theorem zwn (nb nt:Nat):∀ l:List It,zax nb nt (l.map It.cells)=true
  | []=>by simp [zax]
  | x :: l => by
    have ih:=zwn nb nt l
    simp [zax,ih,It.cells,zap,zaa.under]
theorem zLI (l:List It):zeH 4 (l.map It.cells)=true:=by cases l <;> simp [zeH,It.cells]
theorem zFO (L:Lim) (h:zab) (c:Bool) (l:List It) (hl:l.length < 1000000000):zag ctx L zbq [.vsl c (l.map It.cells)] h=some (.vsl false (l.map It.cells),h):=
  zzC (sz:=4) (z:=[.int .i64 0,.int .i64 0,.int .i64 0,.str ⟨#[]⟩]) rfl rfl rfl _ _ rfl rfl (zCF c _) (zLI l) (zwn _ _ l) (by simp [zat];omega)
end Go.Av
namespace Go.Av
def zIt:It:=⟨0,0,0,⟨#[]⟩⟩
def rd1 (b:List Int):Rd:=rdR ⟨b,false⟩ 1
def rd2 (b:List Int):Rd:=rdR (rd1 b) 1
def rd3 (b:List Int):Rd:=rdR (rd2 b) 4
def rd4 (b:List Int):Rd:=rdR (rd3 b) 2
def zC6 (b:List Int):Nat:=leN (rdT (rd3 b) 2)
def rd5 (b:List Int):Rd:=rdR (rd4 b) (zC6 b)
def dIt (b:List Int):It:=⟨leN (rdT ⟨b,false⟩ 1),leN (rdT (rd1 b) 1),leN (rdT (rd2 b) 4),byA (rdT (rd4 b) (zC6 b))⟩
def zts (b:List Int):It × List Int × Int:=
  if (rd5 b).s=true then (zIt,[],2) else if chk (dIt b)=0 then (dIt b,(rd5 b).b,0) else (zIt,[],chk (dIt b))
theorem zjZ {r:Rd} (h:inB r.b) (n:Nat):inB (rdR r n).b:=by
  unfold rdR;split
  · exact h
  · exact zrH h n
theorem ziV (r:Rd) (n:Nat):(rdR r n).b.length≤r.b.length:=by
  unfold rdR;split
  · exact Nat.le_refl _
  · simp
theorem zDa (L:Lim) (h:zab) (b:List Int) (hb:inB b) (hl:b.length < 1000000000):
    zag ctx L zhp [.vsl false (eI .u8 b)] h=some (.tup [.agg (zts b).1.cells,.vsl false (eI .u8 (zts b).2.1),.int .i64 (zts b).2.2],h):=by
  rw [zq2]
  have hf:=zFH h false (eI .u8 b)
  have b1:inB (rd1 b).b:=zjZ hb 1
  have b2:inB (rd2 b).b:=zjZ b1 1
  have b3:inB (rd3 b).b:=zjZ b2 4
  have b4:inB (rd4 b).b:=zjZ b3 2
  have hrob:(zau h).rob≤h.blks.length:=Nat.le_refl _
  have hz:[zaa.int .i64 0,.int .i64 0,.int .i64 0,.str ⟨#[]⟩]=zIt.cells:=rfl
  have n1:=fun z=>zmy (zau h) h [z,rdC ⟨b,false⟩] [] 1 ⟨b,false⟩ 1 hb (by decide) rfl hrob
  have n2:=fun z=>zmy (zau h) h [z,rdC (rd1 b)] [] 1 (rd1 b) 1 b1 (by decide) rfl hrob
  have n3:=fun z=>zmy (zau h) h [z,rdC (rd2 b)] [] 1 (rd2 b) 4 b2 (by decide) rfl hrob
  have n4:=fun z x=>zmy (zau h) h [z,rdC (rd3 b),x] [] 1 (rd3 b) 2 b3 (by decide) rfl hrob
  have n5:=fun z x=>zFJ (zau h) h [z,rdC (rd4 b),x] [] 1 (rd4 b) (zC6 b) rfl hrob
  rw [show rdR ⟨b,false⟩ 1=rd1 b from rfl] at n1
  rw [show rdR (rd1 b) 1=rd2 b from rfl] at n2
  rw [show rdR (rd2 b) 4=rd3 b from rfl] at n3
  rw [show rdR (rd3 b) 2=rd4 b from rfl,show leN (rdT (rd3 b) 2)=zC6 b from rfl] at n4
  rw [show rdR (rd4 b) (zC6 b)=rd5 b from rfl] at n5
  simp only [zau,List.set_cons_zero,List.set_cons_succ,Int.cast_ofNat_Int,Int.natCast_one] at n1 n2 n3 n4 n5
  have hC:=fun L h=>zvJ L h (dIt b)
  have hdc:(dIt b).cells=[.int .i64 (leN (rdT ⟨b,false⟩ 1):Int),.int .i64 (leN (rdT (rd1 b) 1):Int),.int .i64 (leN (rdT (rd2 b) 4):Int),.str (byA (rdT (rd4 b) (zC6 b)))]:=rfl
  have hl5:(rd5 b).b.length < 1000000000:=by
    have e1:(rd1 b).b.length≤b.length:=ziV ⟨b,false⟩ 1
    have e2:(rd2 b).b.length≤(rd1 b).b.length:=ziV (rd1 b) 1
    have e3:(rd3 b).b.length≤(rd2 b).b.length:=ziV (rd2 b) 4
    have e4:(rd4 b).b.length≤(rd3 b).b.length:=ziV (rd3 b) 2
    have e5:(rd5 b).b.length≤(rd4 b).b.length:=ziV (rd4 b) (zC6 b)
    omega
  have hK:=fun L h=>zFN L h (rd5 b).b hl5
  have r5:rdC (rd5 b)=[.vsl false (eI .u8 (rd5 b).b),.bool (rd5 b).s]:=rfl
  have r0:rdC ⟨b,false⟩=[.vsl false (eI .u8 b),.bool false]:=rfl
  have hfr:∀ (x:It) (hh:zab) nb nt m,frz hh nb nt (m+1) (.agg x.cells)=some (.agg x.cells):=fun x hh nb nt m=>zjS hh nb nt m x.cells_flat
  have hun:∀ x:It,zap 0 0 x.cells=true:=fun x=>rfl
  have hzc:zIt.cells=[.int .i64 0,.int .i64 0,.int .i64 0,.str ⟨#[]⟩]:=rfl
  generalize rdC (rd1 b)=c1 at*
  generalize rdC (rd2 b)=c2 at*
  generalize rdC (rd3 b)=c3 at*
  generalize rdC (rd4 b)=c4 at*
  by_cases hs:(rd5 b).s=true
  · have hd:zts b=(zIt,[],2):=if_pos hs
    rw [hd]
    rw [hs] at r5
    generalize zC6 b=dl at*
    generalize (rd5 b).b=b5 at*
    simp -implicitDefEqProofs [zfo,zau,hf,← r0,zaA,setAt,zee,n1,n2,n3,n4,n5,r5,zae,zbF,zah,zaf,hzc,zjS,zck,zaa.flat]
  · have hs' : (rd5 b).s = false := by simpa using hs
    rw [hs'] at r5
    by_cases hc:chk (dIt b)=0
    · have hd : zts b = (dIt b, (rd5 b).b, 0) := by unfold zts; rw [if_neg hs, if_pos hc]
      rw [hd]
      rw [hc] at hC
      rw [hdc] at hC ⊢
      generalize zC6 b=dl at*
      generalize (rd5 b).b=b5 at*
      simp -implicitDefEqProofs [zfo,zau,hf,← r0,zaA,setAt,zee,n1,n2,n3,n4,n5,r5,zae,zbF,zah,zaf,hzc,zjS,zck,zaa.flat,hC,hK]
    · have hd : zts b = (zIt, [], chk (dIt b)) := by unfold zts; rw [if_neg hs, if_neg hc]
      have hcb:(chk (dIt b) !=0)=true:=bne_iff_ne.2 hc
      rw [hd]
      generalize chk (dIt b)=ck at*
      rw [hdc] at hC
      generalize zC6 b=dl at*
      generalize (rd5 b).b=b5 at*
      simp -implicitDefEqProofs [zfo,zau,hf,← r0,zaA,setAt,zee,n1,n2,n3,n4,n5,r5,zae,zbF,zah,zaf,hzc,zjS,zck,zaa.flat,hC,hcb]
end Go.Av
namespace Go.Av
def zDb:Nat→List Int→Nat→List It→List It × Int × Int
  | 0,_,_,acc=>(acc, -1,0)
  | f + 1, b, k, acc => if b = [] then (acc, -1, 0) else if k = 1024 then ([], (k : Int), 9) else
    if (zts b).2.2=0 then zDb f (zts b).2.1 (k+1) (acc++[(zts b).1]) else ([],(k:Int),(zts b).2.2)
def zhX (b:List Int):List It × Int × Int:=zDb 1026 b 0 []
theorem zDc (b:List Int) (hb:inB b):inB (zts b).2.1∧(zts b).2.1.length≤b.length:=by
  have b1:inB (rd1 b).b:=zjZ hb 1
  have b2:inB (rd2 b).b:=zjZ b1 1
  have b3:inB (rd3 b).b:=zjZ b2 4
  have b4:inB (rd4 b).b:=zjZ b3 2
  have b5:inB (rd5 b).b:=zjZ b4 _
  have e1:(rd1 b).b.length≤b.length:=ziV ⟨b,false⟩ 1
  have e2:(rd2 b).b.length≤(rd1 b).b.length:=ziV (rd1 b) 1
  have e3:(rd3 b).b.length≤(rd2 b).b.length:=ziV (rd2 b) 4
  have e4:(rd4 b).b.length≤(rd3 b).b.length:=ziV (rd3 b) 2
  have e5:(rd5 b).b.length≤(rd4 b).b.length:=ziV (rd4 b) (zC6 b)
  unfold zts
  split
  · exact ⟨fun i hi=>by simp at hi,by simp⟩
  · split
    · exact ⟨b5,by simp only;omega⟩
    · exact ⟨fun i hi=>by simp at hi,by simp⟩
theorem zA6 {fr:Fr} {h:zab} {R:Option (AEx × Fr × zab)} (hF:run ctx (zau h) (.loop zco) fr (hx h [] [])=R) (b0:List Int) (hb0:inB b0) (hl0:b0.length < 1000000000)
    (h0:fr 0=.vsl false (eI .u8 b0)) (h5:fr 5=.nsl) (h6:fr 6=.int .i64 0):
    ∃ e fr' bs ts,R=some (e,fr',hx h bs ts)∧(e=.exit 0∧fr' 5=gL .nsl h.toks.length 0 ((zhX b0).1.map It.cells)∧(zhX b0).2=(-1,0)∨e=.ret∧fr' 2=.nsl∧(zhX b0).1=[]∧fr' 3=.int .i64 (zhX b0).2.1∧fr' 4=.int .i64 (zhX b0).2.2):=by
  obtain ⟨e,fr',h',rfl,⟨⟨bs,ts,rfl⟩,hp⟩,hk⟩:=zaj hF 1024
    (fun k fr hh=>fr 6=.int .i64 (k:Int)∧∃ b acc bs,fr 0=.vsl false (eI .u8 b)∧inB b∧b.length < 1000000000∧fr 5=gL .nsl h.toks.length 0 (acc.map It.cells)∧hh=hx h bs (gT (acc.map It.cells))∧acc.length=k∧zhX b0=zDb (1026 - k) b k acc)
    (fun e fr hh=>(∃ bs ts,hh=hx h bs ts)∧(e=.exit 0∧fr 5=gL .nsl h.toks.length 0 ((zhX b0).1.map It.cells)∧(zhX b0).2=(-1,0)∨e=.ret∧fr 2=.nsl∧(zhX b0).1=[]∧fr 3=.int .i64 (zhX b0).2.1∧fr 4=.int .i64 (zhX b0).2.2))
    ⟨h6, b0, [], [], h0, hb0, hl0, by simpa [gL] using h5, by simp [gT], rfl, rfl⟩ (by
      rintro k fr1 hh hkN hkeep ⟨g6,b,acc,bs,g0,hb,hl,g5,rfl,hak,hpar⟩
      obtain ⟨f,hf⟩:∃ f,1026 - k=f+1:=⟨1026 - k - 1,by omega⟩
      rw [hf,zDb] at hpar
      by_cases hnil:b=[]
      · rw [if_pos hnil] at hpar
        subst hnil
        simp only [zJl] at g0
        rw [hpar]
        simp [zco,g0,g5]
        exact ⟨_,_,rfl⟩
      · rw [if_neg hnil] at hpar
        have hpos:0 < b.length:=List.length_pos_iff.2 hnil
        by_cases hk:k=1024
        · rw [if_pos hk] at hpar
          rw [hpar]
          have bk:((k:Int)==1024)=true:=by simp;omega
          simp [zco,g0,g6,hpos,bk]
          exact ⟨_,_,rfl⟩
        · rw [if_neg hk] at hpar
          have bk:((k:Int)==1024)=false:=by simp;omega
          have hD:=fun L h=>zDa L h b hb hl
          obtain ⟨hr1,hr2⟩:=zDc b hb
          have w1:IntKind.i64.wrap ((k:Int)+1)=k+1:=wrap_i64 (by omega) (by omega)
          generalize zts b=D at*
          obtain ⟨x,rest,er⟩:=D
          simp only at hD hr1 hr2 hpar
          by_cases he:er=0
          · rw [if_pos he] at hpar
            have be:(er==0)=true:=by simp [he]
            have hxc:x.cells.length=4:=rfl
            have hsz:=zBB acc
            have hx1:zeH 4 [x.cells]=true:=rfl
            have hmp:(acc++[x]).map It.cells=acc.map It.cells++[x.cells]:=by simp
            have hz4:([zaa.int .i64 0,.int .i64 0,.int .i64 0,.str ⟨#[]⟩]).length=x.cells.length:=rfl
            have hfil:zaA (rep [zaa.int .i64 0,.int .i64 0,.int .i64 0,.str ⟨#[]⟩] 1) [(0,4,.agg x.cells)]=some x.cells:=rfl
            have hchk:chunks 4 1 x.cells=[x.cells]:=rfl
            generalize It.cells x=xc at*
            simp -implicitDefEqProofs [zco,zau,g0,g5,g6,hpos,bk,hD,bne,be,zaf,zbF,zah,hxc,hfil,hchk,zqq,hsz,hx1,zat,hak,show k+1 < 274877906944 by omega,w1]
            refine ⟨by omega,rest,rfl,hr1,by omega,acc++[x],by rw [hmp],⟨_,by rw [hmp]⟩,by simp [hak],?_⟩
            rw [hpar,show 1025 - k=f by omega]
          · rw [if_neg he] at hpar
            have be:(er==0)=false:=by simpa using he
            rw [hpar]
            have hxc:x.cells.length=4:=rfl
            generalize It.cells x=xc at*
            simp -implicitDefEqProofs [zco,zau,g0,g5,g6,hpos,bk,hD,bne,be,zaf,zbF,zah,hxc]
            exact ⟨_,_,rfl⟩)
  exact ⟨e,fr',bs,ts,rfl,hp⟩
theorem zGB (L:Lim) (h:zab) (c:Bool) (b:List Int) (hb:inB b) (hl:b.length < 1000000000):
    zag ctx L zfE [.vsl c (eI .u8 b)] h=some (.tup [.vsl false ((zhX b).1.map It.cells),.int .i64 (zhX b).2.1,.int .i64 (zhX b).2.2],h):=by
  rw [zoB]
  simp [zhK]
  generalize hF:run ctx _ (.loop _) _ _=R
  obtain ⟨e,fr',bs,ts,rfl,⟨rfl,h5,h6⟩ | ⟨rfl,h2,h3,h4,h5⟩⟩:=zA6 hF b hb hl (by simp) (by simp) (by simp)
  · have hfz := fun hh n => zpo (h1 := hh) (nb := h.blks.length) (nt := h.toks.length) (n := n) (s := .nsl) (.inl rfl) (zsp h.blks.length h.toks.length (zhX b).1)
    rw [h6]
    simp -implicitDefEqProofs [h5,hfz]
  · rw [h3]
    simp [h2,h4,h5]
end Go.Av
namespace Go.Av
def zIU (p:List Int):Gd:=⟨(zhX p).1,0,0⟩
theorem zJP (L:Lim) (h:zab) (bs:List (List zaa)) (ts:List Nat) (c:Bool) (p:List Int) (hp:inB p) (hl:p.length < 1000000000):
    zag ctx L zkt [.vsl c (eI .u8 p)] (hx h bs ts)=
      if (zhX p).2.2=0 then some (.tup [pA h.blks.length bs.length 0,.int .i64 (-1),.int .i64 0],hx h (bs++[guC (zIU p)]) ts)
      else some (.tup [.nilp,.int .i64 (zhX p).2.1,.int .i64 (zhX p).2.2],hx h bs ts):=by
  rw [ztH]
  have hP:=fun L h=>zGB L h c p hp hl
  have hg:guC (zIU p)=[.vsl false ((zhX p).1.map It.cells),.int .i64 0,.nilp]:=rfl
  rw [hg]
  generalize (zhX p).1.map It.cells=it at*
  generalize zhX p=q at*
  obtain ⟨q1,q2,q3⟩:=q
  simp only at*
  by_cases he:q3=0
  · rw [if_pos he]
    have be:(q3==0)=true:=by simp [he]
    simp -implicitDefEqProofs [zky,hP,bne,be,zaA,setAt,zee,zaa.okV,zaa.cells]
  · rw [if_neg he]
    have be:(q3==0)=false:=by simp [he]
    simp -implicitDefEqProofs [zky,hP,bne,be,zaA,setAt]
theorem zDd (L:Lim) (h:zab) (p:zaa) (b:Nat) (g:Gd) (hp:p=.ptr b 0) (hb:h.blks[b]?=some (guC g)) (hl:g.l.length < 1000000000):
    zag ctx L zcf [p] h=some (.vsl false (g.l.map It.cells),h):=by
  subst hp
  rw [zkZ]
  have hC:=fun L h c=>zFO L h c g.l hl
  simp only [guC] at hb
  have hfz:=fun n=>zhF (hx h [] []) h.blks.length h.toks.length n false (zwn h.blks.length h.toks.length g.l)
  generalize g.l.map It.cells=it at*
  have h1:=fun bs ts=>zhN h bs ts b 0 1 false _ hb
  have hf:fzA h (.ptr b 0)=some (.ptr b 0,false):=by simp only [fzA]
  simp -implicitDefEqProofs [zeW,zau,hf,h1,zae,hC,hfz]
theorem zJQ (L:Lim) (h:zab) (bs:List (List zaa)) (ts:List Nat) (c:Bool) (l:List Int) (hl:l.length=32) (hL:L.rob≤h.blks.length):
    zag ctx L zeL [.iface 230 (.agg []),.vsl c (eI .u8 l)] (hx h bs ts)=some (.tup [pA h.blks.length (bs.length+1) 0,.int .i64 0],hx h (bs++[cI .u8 (zy0 l).S,spO h.blks.length bs.length (zy0 l)]) ts):=by
  rw [znG]
  have e1:spO h.blks.length bs.length (zy0 l)=[.iface 230 (.agg []),sA h.blks.length bs.length 0 1 200 (some 200),.int .i64 0,.int .i64 136,.int .i64 0]:=rfl
  have e2:(zy0 l).S=putAt (tab 200 fun _=>0) 136 l:=rfl
  rw [e1,e2]
  have hg1:=fun x y=>zdv bs [x,y] bs.length 0 rfl
  have hg2:=fun x y=>zdv bs [x,y] bs.length 1 rfl
  simp only [Nat.add_zero,List.getElem?_cons_zero,List.getElem?_cons_succ] at hg1 hg2
  have hsl:=zD4 1 h.blks.length bs.length 200 136 (some 200) .i64 (by decide)
  simp only [Int.cast_ofNat_Int] at hsl
  have hel:=fun w=>zFd (hx h (bs++w) ts) 1 c (eI .u8 l)
  have hcp:=fun b=>zD1 L h (bs++[cI .u8 (tab 200 fun _=>0),b]) ts bs.length 136 64 (some 64) .u8 l (tab 200 fun _=>0) (.vsl c (eI .u8 l)) (hel _) (by rw [List.getElem?_append_right (Nat.le_refl _)];simp) (by simp;omega) hL
  rw [show min l.length 64=32 by omega,List.take_of_length_le (by omega)] at hcp
  have hs1:=fun x y v=>zeQ bs [x,y] bs.length 0 v rfl
  simp only [Nat.add_zero,List.set_cons_zero,List.set_cons_succ] at hs1
  simp only [hs1] at hcp
  generalize putAt (tab 200 fun _=>(0:Int)) 136 l=m at*
  generalize hz:(tab 200 fun _=>(0:Int))=zz at*
  simp -implicitDefEqProofs [zgY,zrM,zFC,hl,zlx,zat,zgd,zgL,hz,zee,zaA,setAt,hg1,hg2,hsl,hcp,show IntKind.i64.wrap 64=64 by decide,show IntKind.i64.wrap 1=1 by decide]
theorem zDe (L:Lim) (h:zab) (bs:List (List zaa)) (ts:List Nat) (c:Bool) (l:List Int) (hl:l.length=32) (hL:L.rob≤h.blks.length):
    zag ctx L zfF [.iface 230 (.agg []),.vsl c (eI .u8 l)] (hx h bs ts)=some (pA h.blks.length (bs.length+1) 0,hx h (bs++[cI .u8 (zy0 l).S,spO h.blks.length bs.length (zy0 l)]) ts):=by
  rw [zoC]
  simp -implicitDefEqProofs [zhP,zJQ,hl,hL]
theorem zDf (L:Lim) (h:zab):zag ctx L zfG [] h=some (.iface 230 (.agg []),h):=by
  rw [zoD]
  have hf:zaA [] []=some []:=rfl
  have hz : ∀ nb nt n, frz (hx h [] []) nb nt (n + 2) (.iface 230 (.agg [])) = some (.iface 230 (.agg [])) := fun nb nt n => by
    rw [frz.eq_def];simp [frz,zck]
  simp [zhQ,hf,hz]
theorem zGG (k:IntKind) (n:Nat) (l:List Int) (hl:l.length=n):zc0 (.arr n) 1 (.vptr (cI k l) 0) none none none=some (.vsl true (eI k l)):=by
  have e:=zmv n (cI k l) (by simpa using hl)
  rw [zrK] at e
  simp [zc0,zio,hl,e,zwz,List.take_of_length_le]
theorem zyJ (L:Lim) (h:zab) (bs:List (List zaa)) (ts:List Nat) (l:List Int) (hl:l.length=32) (hL:L.rob≤h.blks.length):
    zag ctx L zhx [.agg (cI .u8 l)] (hx h bs ts)=some (pA h.blks.length (bs.length+1) 0,hx h (bs++[cI .u8 (zy0 l).S,spO h.blks.length bs.length (zy0 l)]) ts):=by
  rw [zq1]
  have hbox:znl (.agg (cI .u8 l))=some (.vptr (cI .u8 l) 0):=rfl
  have hsl:=zGG .u8 32 l hl
  simp -implicitDefEqProofs [zjQ,hbox,hsl,zDf,zDe,hl,hL]
end Go.Av
namespace Go.Av
theorem zGH {s:Sp} (ha:s.a=136) (u:Int):zlH s u=⟨(zmS s.S).set 0 u,1,136,s.c+1⟩:=by
  unfold zlH zF4;rw [if_pos ha];rfl
theorem zGI {s:Sp} (ha:¬s.a=136) (u:Int):zlH s u=⟨s.S.set s.a u,s.a+1,136,s.c⟩:=by
  unfold zlH zF4;rw [if_neg ha]
theorem zr2 {s:Sp} (hs:s.ok) (l:List Int):(zbH s l).c≤s.c+l.length+1:=by
  obtain ⟨h1,h2,_,_⟩:=zxi (l:=l) (s:=s) hs.2.2.1
  have:=hs.2.2.1
  omega
theorem zMU {l : List Int} (h : inB l) (n : Nat) : inB (l.take n) := fun i hi => by
  rw [zCM (by simp at hi;omega)];exact h i (by simp at hi;omega)
theorem zwW {L:Lim} {fr:Fr} {h:zab} {R:Option (AEx × Fr × zab)} (bs:List (List zaa)) (ts:List Nat) (i j:Nat) (s:Sp) (hs:s.ok) (c:Bool) (l:List Int) (hl:inB l) (hn:l.length < 100000000) (hc:s.c < 100000000)
    (hi:i < bs.length) (hj:j < bs.length) (hij:i≠j) (hL:L.rob≤h.blks.length)
    (hF:run ctx L (.loop zaR) fr (hx h (spH bs i j h.blks.length s) ts)=R)
    (h0:fr 0=pA h.blks.length i 0) (h4:fr 4=.int .i64 136) (h12:fr 12=.vsl c (eI .u8 l)) (h13:fr 13=.int .i64 l.length) (h14:fr 14=.int .i64 0):
    ∃ fr',R=some (.exit 0,fr',hx h (spH bs i j h.blks.length (zbH s l)) ts):=by
  obtain ⟨e,fr',h',rfl,⟨rfl,rfl⟩,hk⟩:=zaj hF l.length
    (fun k fr hh=>fr 14=.int .i64 k∧hh=hx h (spH bs i j h.blks.length (zbH s (l.take k))) ts)
    (fun e fr hh=>e=.exit 0∧hh=hx h (spH bs i j h.blks.length (zbH s l)) ts)
    ⟨h14, by simp [zbH]⟩ (by
      rintro k fr1 hh hkN hkeep ⟨g14,rfl⟩
      have g0:=(hkeep 0 (by decide)).trans h0
      have g4:=(hkeep 4 (by decide)).trans h4
      have g12:=(hkeep 12 (by decide)).trans h12
      have g13:=(hkeep 13 (by decide)).trans h13
      by_cases hlt:k < l.length
      · have w0 : IntKind.i64.wrap ((k : Int) + 1) = k + 1 := wrap_i64 (by omega) (by omega)
        have hok:=zge (l:=l.take k) hs (zMU hl k)
        have hck:=zr2 hs (l.take k)
        simp only [List.length_take] at hck
        have hsn:=zBu s l k hlt
        have g1:=zFw hi hij
        have g2:=zIx (i:=i) hj
        have g3:=zAR (bs:=bs) hij
        have g5:=zAS (bs:=bs) (i:=i) (j:=j)
        have ik:=zzt .u8 .i64 c l k (decide_eq_true hlt)
        generalize zbH s (l.take k)=q at*
        generalize gd l 0 k=u at*
        have hP:=zn8 L h bs ts i j q hok (by omega) hi hj hij hL
        obtain ⟨o1,o2,o3,o4⟩:=hok
        have w1':IntKind.i64.wrap 1=1:=by decide
        by_cases ha:q.a=136
        · rw [zGH ha] at hsn
          have htl:(zmS q.S).length=200:=zrt _
          have ia:=ztc h.blks.length j 0 1 200 0 (some 200) .i64 (by decide)
          obtain ⟨S,a,b,d⟩:=q
          simp only at*
          subst ha
          simp only [spH,spO,zoL,Int.natCast_zero,Int.cast_ofNat_Int] at*
          generalize zmS S=S1 at*
          generalize d+1=d1 at*
          simp -implicitDefEqProofs [zaR,g0,g4,g12,g13,g14,hlt,w0,w1',hP,g1,g2,g3,g5,zam,hL,setAt,ik,ia,zae,hsn,htl]
        · rw [zGI ha] at hsn
          have haI:((q.a:Int)==136)=false:=beq_false_of_ne (by omega)
          have ia:=ztc h.blks.length j 0 1 200 q.a (some 200) .i64 (decide_eq_true (by omega))
          have w1:IntKind.i64.wrap ((q.a:Int)+1)=((q.a+1:Nat):Int):=(wrap_i64 (by omega) (by omega)).trans (by omega)
          have halt:0+q.a*1+1≤q.S.length:=by omega
          obtain ⟨S,a,b,d⟩:=q
          simp only [spH,spO] at*
          have hst:(cI .u8 S).set (0+a*1) (.int .u8 u)=cI .u8 (S.set a u):=by rw [zOl];simp
          generalize a+1=a1 at*
          generalize 0+a*1=a0 at*
          simp -implicitDefEqProofs [zaR,g0,g4,g12,g13,g14,hlt,w0,w1,haI,g1,g2,g3,g5,zam,hL,setAt,ik,ia,zae,hsn,hst,halt]
      · have : k = l.length := by omega
        subst this
        simp [zaR,g13,g14])
  exact ⟨fr',rfl⟩
theorem zBb (L:Lim) (h:zab) (bs:List (List zaa)) (ts:List Nat) (i j:Nat) (s:Sp) (hs:s.ok) (c:Bool) (l:List Int) (hl:inB l) (hn:l.length < 100000000) (hc:s.c < 100000000)
    (hi:i < bs.length) (hj:j < bs.length) (hij:i≠j) (hL:L.rob≤h.blks.length):
    zag ctx L zbv [pA h.blks.length i 0,.vsl c (eI .u8 l)] (hx h (spH bs i j h.blks.length s) ts)=some (.tup [],hx h (spH bs i j h.blks.length (zbH s l)) ts):=by
  rw [zgX]
  have hlo:=fun fr R=>zwW (L:=⟨L.rob,L.rot,h.blks.length+bs.length,h.toks.length+ts.length⟩) (fr:=fr) (h:=h) (R:=R) bs ts i j s hs c l hl hn hc hi hj hij hL
  have htr:=zqu h bs ts i j (spO h.blks.length j (zbH s l)) (cI .u8 (zbH s l).S)
  have g1:=zFw hi hij
  simp only [spH] at*
  generalize zbH s l=s2 at*
  generalize hy:spO h.blks.length j s2=y at*
  simp only [spO] at*
  simp -implicitDefEqProofs [zcn,zan,zak,g1,zae,zrM]
  generalize hF:run ctx _ (.loop _) _ _=R
  obtain ⟨fr1,rfl⟩:=hlo _ _ hF (by simp) (by simp) (by simp) (by simp) (by simp)
  simp -implicitDefEqProofs [htr,zan,zak]
theorem zyL (L:Lim) (h:zab) (bs:List (List zaa)) (ts:List Nat) (i j:Nat) (s:Sp) (hs:s.ok) (hc:s.c < 100000000) (hi:i < bs.length) (hj:j < bs.length) (hij:i≠j) (hL:L.rob≤h.blks.length):
    zag ctx L zaS [pA h.blks.length i 0] (hx h (spH bs i j h.blks.length s) ts)=some (.tup [],hx h (spH bs i j h.blks.length (zF5 s)) ts):=by
  rw [zgo]
  have hP:=fun L hL=>zn8 L h bs ts i j s hs (by omega) hi hj hij hL
  have g1:=zFw hi hij
  have g2:=zIx (i:=i) hj
  have g3:=zAR (bs:=bs) hij
  have g4:=zAS (bs:=bs) (i:=i) (j:=j)
  have g5:=zqu h bs ts i j
  have hsl:=zwK 1 h.blks.length j 200 136 (some 200) .i64 (by decide)
  simp only [Int.cast_ofNat_Int] at hsl
  have hcl:=fun L hL x=>zHj L h (sp2 bs i j x (cI .u8 (zmS s.S))) ts j 0 136 (some 200) .u8 0 (zmS s.S) (g2 x _) (by rw [zrt];decide) hL
  simp only [g4] at hcl
  have e1:(zF5 s).S=putAt (zmS s.S) 0 (tab 136 fun _=>0):=rfl
  have e2:spO h.blks.length j (zF5 s)=[.iface 230 (.agg []),sA h.blks.length j 0 1 200 (some 200),.int .i64 0,.int .i64 136,.int .i64 ((s.c+1:Nat):Int)]:=rfl
  simp only [spH] at*
  rw [e1,e2]
  have e3:spO h.blks.length j (zoL s)=[.iface 230 (.agg []),sA h.blks.length j 0 1 200 (some 200),.int .i64 0,.int .i64 s.b,.int .i64 ((s.c+1:Nat):Int)]:=rfl
  have e4:(zoL s).S=zmS s.S:=rfl
  rw [e3,e4] at hP
  generalize putAt (zmS s.S) 0 (tab 136 fun _=>0)=S2 at*
  generalize zmS s.S=S1 at*
  generalize ((s.c+1:Nat):Int)=c2 at*
  generalize hy:spO h.blks.length j s=y at*
  simp -implicitDefEqProofs [zca,zan,zak,hP,hL,g1,g2,g3,g4,g5,zae,zrM,hsl,hcl,zam,setAt]
end Go.Av
