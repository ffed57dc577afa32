/- Items and patterns; the field's arithmetic of the program is that of the numbers modulo the prime. -/
import Derived.Test.YtbookmjmhfoolaaGreatDoorC0
set_option linter.unusedSimpArgs false
set_option linter.unusedVariables false
set_option maxHeartbeats 2000000
set_option maxRecDepth 20000
namespace Go.Av
structure It where
  kind:Int
  typ:Int
  count:Int
  label:ByteArray
def It.cells (x:It):List zaa:=[.int .i64 x.kind,.int .i64 x.typ,.int .i64 x.count,.str x.label]
@[simp] theorem It.cells_len (x:It):x.cells.length=4:=rfl
@[simp] theorem It.cells_flat (x:It):zck x.cells=true:=rfl
theorem zBB (l:List It):zeH 4 (l.map It.cells)=true:=by cases l <;> simp [zeH]
theorem zsp (nb nt:Nat):∀ l:List It,zax nb nt (l.map It.cells)=true
  | []=>by simp [zax]
  | x :: l=>by simp [zax,zsp nb nt l,It.cells,zap,zaa.under]
end Go.Av
namespace Go.Av
def zuA (k:Int):List Int:=if k=1 then [1,2,3,4] else if k=2 then [1,3] else if k=3 then [0] else []
def most (k:Int):Int:=if k=1 then 1048576 else if k=2 then 1048576 else if k=3 then 1 else 0
theorem zHF (L:Lim) (h:zab) (k:Int):zag ctx L ziC [.int .i64 k] h=some (.tup [.vsl false (eI .i64 (zuA k)),.int .i64 (most k)],h):=by
  rw [zsE]
  simp [zln]
  by_cases h1:k=1
  · subst h1
    simp [zaA,rep,zaa.cells,zaa.okV,chunks,zhF,zax,zap,zaa.under,zuA,most,eI]
  · by_cases h2:k=2
    · subst h2
      simp [zaA,rep,zaa.cells,zaa.okV,chunks,zhF,zax,zap,zaa.under,zuA,most,eI]
    · by_cases h3:k=3
      · subst h3
        simp [zaA,rep,zaa.cells,zaa.okV,chunks,zhF,zax,zap,zaa.under,zuA,most,eI]
      · simp [zuA,most,h1,h2,h3,eI,beq_false_of_ne h1,beq_false_of_ne h2,beq_false_of_ne h3]
def idxOf (v:Int):List Int→Nat→Int
  | [],_=> -1
  | x :: l,i=>if v=x then i else idxOf v l (i+1)
theorem zBD (v:Int) (l:List Int) (k:Nat) (hk:k < l.length):idxOf v (l.drop k) k=if v=l[k] then (k:Int) else idxOf v (l.drop (k+1)) (k+1):=by
  rw [List.drop_eq_getElem_cons hk,idxOf]
theorem zBH {fr:Fr} {h:zab} {R:Option (AEx × Fr × zab)} (hF:run ctx (zau h) (.loop zcg) fr (hx h [] [])=R) (l:List Int) (v:Int) (hl:l.length < 274877906944)
    (h0:fr 0=.vsl false (eI .i64 l)) (h1:fr 1=.int .i64 v) (h7:fr 7=.int .i64 l.length) (h8:fr 8=.int .i64 0):
    ∃ e fr',R=some (e,fr',hx h [] [])∧((e=.exit 0∧idxOf v l 0= -1)∨(e=.ret∧fr' 4=.int .i64 (idxOf v l 0))):=by
  obtain ⟨e,fr',h',rfl,⟨rfl,hp⟩,hk⟩:=zaj hF l.length
    (fun k fr hh=>fr 8=.int .i64 k∧hh=hx h [] []∧idxOf v l 0=idxOf v (l.drop k) k)
    (fun e fr hh=>hh=hx h [] []∧((e=.exit 0∧idxOf v l 0= -1)∨(e=.ret∧fr 4=.int .i64 (idxOf v l 0))))
    ⟨h8, rfl, by simp⟩ (by
      rintro k fr1 hh hkN hkeep ⟨g8,rfl,gi⟩
      have g0:=(hkeep 0 (by decide)).trans h0
      have g1:=(hkeep 1 (by decide)).trans h1
      have g7:=(hkeep 7 (by decide)).trans h7
      by_cases hlt:k < l.length
      · have hget:l[k]?=some l[k]:=List.getElem?_eq_getElem hlt
        rw [zBD v l k hlt] at gi
        simp [zcg,g8,g7,g0,g1,hlt,zbP,asI,zJk,hget]
        cases hb:(v==l[k])
        · have hne : ¬ v = l[k] := by simpa using hb
          simp [g8,hlt]
          exact ⟨wrap_i64 (by omega) (by omega),by rw [gi,if_neg hne]⟩
        · have he : v = l[k] := by simpa using hb
          rw [if_pos he] at gi
          simp [gi]
      · have : k = l.length := by omega
        subst this
        simp [zcg,g8,g7]
        rw [gi];simp [idxOf])
  exact ⟨e,fr',rfl,hp⟩
theorem zHI (L:Lim) (h:zab) (l:List Int) (v:Int) (hl:l.length < 274877906944):zag ctx L zcy [.vsl false (eI .i64 l),.int .i64 v] h=some (.int .i64 (idxOf v l 0),h):=by
  rw [zi9]
  simp [zdL]
  generalize hF:run ctx _ (.loop _) _ _=R
  obtain ⟨e,fr',rfl,⟨rfl,hi⟩ | ⟨rfl,hi⟩⟩:=zBH hF l v hl (by simp) (by simp) (by simp) (by simp)
  · simp [hi]
  · simp [hi]
theorem zAh (v:Int):∀ (l:List Int) (i:Nat),decide (idxOf v l i≥0)=l.contains v
  | [],i=>by simp [idxOf]
  | x :: l, i => by
    rw [idxOf,List.contains_cons,← zAh v l (i+1)]
    by_cases h:v=x
    · simp [h]
    · simp [h,beq_false_of_ne h]
theorem zf3 (L:Lim) (h:zab) (l:List Int) (v:Int) (hl:l.length < 274877906944):zag ctx L zbD [.vsl false (eI .i64 l),.int .i64 v] h=some (.bool (l.contains v),h):=by
  rw [zia]
  simp [zcQ,zHI,hl]
  simpa using zAh v l 0
def chk (x:It):Int:=
  if (zuA x.kind).length=0 then 5 else if (zuA x.kind).contains x.typ=false then 6
  else if x.count < 1 then 7 else if x.count > most x.kind then 7 else if (x.label.size:Int) > 255 then 8 else 0
theorem zhB (k:Int):(zuA k).length < 274877906944:=by
  unfold zuA;split <;> (try split) <;> (try split) <;> simp
theorem zvJ (L:Lim) (h:zab) (x:It):zag ctx L zdH [.agg x.cells] h=some (.int .i64 (chk x),h):=by
  rw [zso]
  simp [It.cells,zwl,zlW,zHF,zf3,zhB]
  by_cases h1:(zuA x.kind).length=0
  · have b1 : (((zuA x.kind).length : Int) == 0) = true := by simp [h1]
    simp [b1,chk,h1]
  · have b1 : (((zuA x.kind).length : Int) == 0) = false := beq_false_of_ne (by omega)
    by_cases b2:x.typ∈zuA x.kind
    case neg=>simp [b1,chk,h1,b2,zf3,zhB]
    case pos=>
      by_cases h3:x.count < 1
      · simp [b1,chk,h1,b2,zf3,zhB,h3]
      · by_cases h4:x.count > most x.kind
        · simp [b1,chk,h1,b2,zf3,zhB,h3,h4]
        · by_cases h5:(x.label.size:Int) > 255
          · simp [b1,chk,h1,b2,zf3,zhB,h3,h4,h5]
          · simp [b1,chk,h1,b2,zf3,zhB,h3,h4,h5]
end Go.Av
namespace Go.Av
def le (n:Int):Nat→List Int
  | 0=>[]
  | k+1=>le n k++[IntKind.u8.wrap (n.fdiv (2 ^ (8*k)))]
@[simp] theorem zN3 (n:Int):∀ k,(le n k).length=k
  | 0=>rfl
  | k+1=>by simp [le,zN3 n k]
theorem zzd {L:Lim} {fr:Fr} {h:zab} {R:Option (AEx × Fr × zab)} (hF:run ctx ⟨L.rob,L.rot,h.blks.length,h.toks.length⟩ (.loop zbX) fr (hx h [] [])=R) (b0:List Int) (n:Int) (m:Nat) (hm:m≤8) (hb:b0.length < 200000000000) (hL:L.rot≤h.toks.length)
    (h0:fr 0=.vsl true (eI .u8 b0)) (h1:fr 1=.int .i64 n) (h8:fr 8=.int .i64 m) (h9:fr 9=.int .i64 0):
    ∃ fr',R=some (.exit 0,fr',hx h [] (if m=0 then [] else [b0.length+m]))∧fr' 0=if m=0 then .vsl true (eI .u8 b0) else gA h.toks.length 0 (eI .u8 (b0++le n m)):=by
  obtain ⟨e,fr',h',rfl,⟨rfl,rfl,h3'⟩,hk⟩:=zaj hF m
    (fun k fr hh=>fr 9=.int .i64 k∧fr 0=(if k=0 then .vsl true (eI .u8 b0) else gA h.toks.length 0 (eI .u8 (b0++le n k)))∧hh=hx h [] (if k=0 then [] else [b0.length+k]))
    (fun e fr hh=>e=.exit 0∧hh=hx h [] (if m=0 then [] else [b0.length+m])∧fr 0=if m=0 then .vsl true (eI .u8 b0) else gA h.toks.length 0 (eI .u8 (b0++le n m)))
    ⟨h9, by simpa using h0, by simp⟩ (by
      rintro k fr1 hh hkN hkeep ⟨g9,g0,rfl⟩
      have g1:=(hkeep 1 (by decide)).trans h1
      have g8:=(hkeep 8 (by decide)).trans h8
      by_cases hlt:k < m
      · have w1 : IntKind.i64.wrap (8 * (k : Int)) = 8 * k := wrap_i64 (by omega) (by omega)
        have w2:IntKind.i64.wrap ((k:Int)+1)=k+1:=wrap_i64 (by omega) (by omega)
        by_cases hk0:k=0
        · subst hk0
          simp [zbX,g9,g8,g0,g1,hlt,w1,w2,zaA,rep,zaa.cells,zaa.okV,chunks,zii,zOA,IntKind.bits,zxW,zat,show b0.length+1 < 274877906944 by omega,le]
          exact wrap_i64 (by omega) (by omega)
        · simp [zbX, g9, g8, g0, g1, hlt, hk0, w1, w2, zaA, rep, zaa.cells, zaa.okV, chunks, zii, zOA, IntKind.bits, zE9, zat, hL, show b0.length + k + 1 < 274877906944 by omega, show (0 : Int) ≤ 8 * k by omega, show (8 : Int) * k ≤ 64 by omega, show 0 < b0.length + k by omega, le]
          rw [show (8*(k:Int)).toNat=8*k by omega]
          exact ⟨rfl,rfl⟩
      · have : k = m := by omega
        subst this
        simp [zbX,g9,g8,g0])
  exact ⟨fr',rfl,h3'⟩
theorem zvL (L:Lim) (h:zab) (b0:List Int) (n:Int) (m:Nat) (hm0:0 < m) (hm:m≤8) (hb:b0.length < 200000000000) (hL:L.rot≤h.toks.length):
    zag ctx L zcw [.vsl true (eI .u8 b0),.int .i64 n,.int .i64 m] h=some (.gsl h.toks.length (eI .u8 (b0++le n m)),ptok h (b0.length+m)):=by
  rw [zkM]
  simp [zhv]
  generalize hF:run ctx _ (.loop _) _ _=R
  obtain ⟨fr',rfl,h3⟩:=zzd hF b0 n m hm hb hL (by simp) (by simp) (by simp) (by simp)
  have hm1:¬m=0:=by omega
  simp [h3,hm1,zGL]
theorem zsy {L:Lim} {fr:Fr} {h:zab} {R:Option (AEx × Fr × zab)} (hF:run ctx ⟨L.rob,L.rot,h.blks.length,h.toks.length⟩ (.loop zbX) fr (hx h [] [])=R) (t:Nat) (b0:List Int) (n:Int) (m:Nat) (hm:m≤8) (hb:b0.length < 200000000000) (hb0:0 < b0.length) (hL:L.rot≤t) (ht:h.toks[t]?=some b0.length)
    (h0:fr 0=.gsl t (eI .u8 b0)) (h1:fr 1=.int .i64 n) (h8:fr 8=.int .i64 m) (h9:fr 9=.int .i64 0):
    ∃ fr',R=some (.exit 0,fr',hx (zu1 h t (b0.length+m)) [] [])∧fr' 0=.gsl t (eI .u8 (b0++le n m)):=by
  have hlt0:=(List.getElem?_eq_some_iff.1 ht).1
  have hself:zu1 h t b0.length=h:=by
    unfold zu1
    rw [show h.toks.set t b0.length=h.toks from ?_]
    refine List.ext_getElem? fun i=>?_
    by_cases e:t=i
    · subst e;rw [List.getElem?_set_self hlt0,ht]
    · rw [List.getElem?_set_ne e]
  obtain ⟨e,fr',h',rfl,⟨rfl,rfl,h3'⟩,hk⟩:=zaj hF m
    (fun k fr hh=>fr 9=.int .i64 k∧fr 0=.gsl t (eI .u8 (b0++le n k))∧hh=hx (zu1 h t (b0.length+k)) [] [])
    (fun e fr hh=>e=.exit 0∧hh=hx (zu1 h t (b0.length+m)) [] []∧fr 0=.gsl t (eI .u8 (b0++le n m)))
    ⟨h9, by simpa [le] using h0, by simp [hself]⟩ (by
      rintro k fr1 hh hkN hkeep ⟨g9,g0,rfl⟩
      have g1:=(hkeep 1 (by decide)).trans h1
      have g8:=(hkeep 8 (by decide)).trans h8
      by_cases hlt:k < m
      · have w1 : IntKind.i64.wrap (8 * (k : Int)) = 8 * k := wrap_i64 (by omega) (by omega)
        have w2:IntKind.i64.wrap ((k:Int)+1)=k+1:=wrap_i64 (by omega) (by omega)
        have ht':(zu1 h t (b0.length+k)).toks[t]?=some (eI .u8 (b0++le n k)).length:=by simp [zu1,hlt0]
        have ha:=zGA ⟨L.rob,L.rot,h.blks.length,h.toks.length⟩ (zu1 h t (b0.length+k)) [] [] 1 t true (eI .u8 (b0++le n k)) (eI .u8 [IntKind.u8.wrap (n.fdiv (2 ^ (8*k)))]) ht'
          (by simp [zat,hL];omega)
        have hs:zu1 (zu1 h t (b0.length+k)) t (b0.length+k+1)=zu1 h t (b0.length+(k+1)):=by simp [zu1,Nat.add_assoc]
        simp [hs] at ha
        simp [zbX,g9,g8,g0,g1,hlt,w1,w2,zaA,rep,zaa.cells,zaa.okV,chunks,zii,zOA,IntKind.bits,show (0:Int)≤8*k by omega,show (8:Int)*k≤64 by omega,show (8*(k:Int)).toNat=8*k by omega,ha,le]
      · have : k = m := by omega
        subst this
        simp [zbX,g9,g8,g0])
  exact ⟨fr',rfl,h3'⟩
theorem zvM (L:Lim) (h:zab) (t:Nat) (b0:List Int) (n:Int) (m:Nat) (hm:m≤8) (hb:b0.length < 200000000000) (hb0:0 < b0.length) (hL:L.rot≤t) (ht:h.toks[t]?=some b0.length):
    zag ctx L zcw [.gsl t (eI .u8 b0),.int .i64 n,.int .i64 m] h=some (.gsl t (eI .u8 (b0++le n m)),zu1 h t (b0.length+m)):=by
  rw [zkM]
  simp [zhv]
  generalize hF:run ctx _ (.loop _) _ _=R
  obtain ⟨fr',rfl,h3⟩:=zsy hF t b0 n m hm hb hb0 hL ht (by simp) (by simp) (by simp) (by simp)
  have hlt0:=(List.getElem?_eq_some_iff.1 ht).1
  simp [h3,zGF,hlt0]
theorem zBK (L:Lim) (h:zab) (bs:List (List zaa)) (ts:List Nat) (b0:List Int) (n m:Int) (hc:(decide (0 < m)&&decide (m≤8)&&decide (b0.length < 200000000000)&&decide (L.rot≤h.toks.length))=true):
    zag ctx L zcw [.vsl true (eI .u8 b0),.int .i64 n,.int .i64 m] (hx h bs ts)=some (gA h.toks.length ts.length (eI .u8 (b0++le n m.toNat)),hx h bs (ts++[b0.length+m.toNat])):=by
  simp only [Bool.and_eq_true,decide_eq_true_eq] at hc
  obtain ⟨k,rfl⟩:∃ k:Nat,m=k:=⟨m.toNat,by omega⟩
  rw [zvL L (hx h bs ts) b0 n k (by omega) (by omega) hc.1.2 (by rw [zak];omega),zJR,zak]
  rfl
theorem zBL (L:Lim) (h:zab) (bs:List (List zaa)) (ts:List Nat) (i:Nat) (b0:List Int) (n m:Int)
    (hc:(decide (0≤m)&&decide (m≤8)&&decide (b0.length < 200000000000)&&decide (0 < b0.length)&&decide (L.rot≤h.toks.length)&&(ts[i]?==some b0.length))=true):
    zag ctx L zcw [gA h.toks.length i (eI .u8 b0),.int .i64 n,.int .i64 m] (hx h bs ts)=some (gA h.toks.length i (eI .u8 (b0++le n m.toNat)),hx h bs (ts.set i (b0.length+m.toNat))):=by
  simp only [Bool.and_eq_true,decide_eq_true_eq,beq_iff_eq] at hc
  obtain ⟨⟨⟨⟨⟨c0,c1⟩,c2⟩,c3⟩,c4⟩,c5⟩:=hc
  obtain ⟨k,rfl⟩:∃ k:Nat,m=k:=⟨m.toNat,by omega⟩
  have ht:(hx h bs ts).toks[h.toks.length+i]?=some b0.length:=by
    simp only [hx];rw [List.getElem?_append_right (Nat.le_add_right _ _),Nat.add_sub_cancel_left];exact c5
  unfold gA
  rw [zvM L (hx h bs ts) (h.toks.length+i) b0 n k (by omega) c2 c3 (by omega) ht,zLu]
  rfl
end Go.Av
namespace Go.Av
def zJb (x:It):List Int:=[IntKind.u8.wrap x.kind,IntKind.u8.wrap x.typ]++le x.count 4++le x.label.size 2++bts x.label
theorem zHP (k t c:Int) (lb:ByteArray) (h:k < 1∨k > 3):chk ⟨k,t,c,lb⟩=5:=by
  have h1:k≠1:=by omega
  have h2:k≠2:=by omega
  have h3:k≠3:=by omega
  simp [chk,zuA,h1,h2,h3]
theorem zKP (k t c:Int) (lb:ByteArray) (hk:k=1∨k=2∨k=3) (h:k=1∧(t < 1∨t > 4)∨k=2∧t≠1∧t≠3∨k=3∧t≠0):chk ⟨k,t,c,lb⟩=6:=by
  rcases hk with rfl | rfl | rfl
  · simp [chk,zuA];omega
  · simp [chk,zuA];omega
  · simp [chk,zuA];omega
theorem zHN (k t c:Int) (lb:ByteArray) (hk:k=1∨k=2∨k=3) (h:¬(k=1∧(t < 1∨t > 4)∨k=2∧t≠1∧t≠3∨k=3∧t≠0)):
    chk ⟨k,t,c,lb⟩=if c < 1∨c > 1048576∨k=3∧c≠1 then 7 else if (lb.size:Int) > 255 then 8 else 0:=by
  have hmem:(zuA k).contains t=true:=by
    rcases hk with rfl | rfl | rfl <;> simp [zuA] <;> omega
  have hlen : ¬ (zuA k).length = 0 := fun h => by
    have:=List.eq_nil_of_length_eq_zero h;rw [this] at hmem;simp at hmem
  unfold chk
  simp only [hlen,if_false,hmem,Bool.true_eq_false]
  by_cases c1:c < 1
  · simp [c1]
  · rcases hk with rfl | rfl | rfl
    · simp [c1,most]
    · simp [c1,most]
    · by_cases c2:c=1
      · simp [c2,most]
      · simp [c1,c2,most]
        intro h;omega
theorem zo9 {x:It} (h:chk x=0):1≤x.kind∧x.kind≤3∧0≤x.typ∧x.typ≤4∧1≤x.count∧x.count≤1048576∧x.label.size≤255:=by
  obtain ⟨k,t,c,lb⟩:=x
  by_cases hk:k < 1∨k > 3
  · rw [zHP k t c lb hk] at h;omega
  · have hk' : k = 1 ∨ k = 2 ∨ k = 3 := by omega
    by_cases hb:k=1∧(t < 1∨t > 4)∨k=2∧t≠1∧t≠3∨k=3∧t≠0
    · rw [zKP k t c lb hk' hb] at h;omega
    · rw [zHN k t c lb hk' hb] at h
      split at h
      · omega
      · split at h
        · omega
        · simp only;omega
theorem zxD (L:Lim) (h:zab) (x:It):zag ctx L zhq [.agg x.cells] h=
    some (if chk x=0 then .tup [.vsl false (eI .u8 (zJb x)),.int .i64 0] else .tup [.vsl false [],.int .i64 (chk x)],h):=by
  rw [zq3]
  have e:zck [zaa.int .i64 x.kind,.int .i64 x.typ,.int .i64 x.count,.str x.label]=true:=rfl
  have hck:=zvJ
  simp only [It.cells] at hck ⊢
  simp [zwl,zjX,zaf,hck]
  by_cases h0:chk x=0
  · have b0 : (chk x == 0) = true := by simp [h0]
    have hs:x.label.size < 1000000000:=by have:=(zo9 h0).2.2.2.2.2.2;omega
    simp [h0,zaA,rep,zaa.cells,zaa.okV,chunks,zBK,zBL,zau,zii,zs9,le,zGC,zat,show 8+x.label.size < 274877906944 by omega,zyw,zJb]
  · have b0 : (chk x == 0) = false := by simp [h0]
    simp [bne,b0]
    exact fun e=>absurd e h0
end Go.Av
namespace Go.Av
@[simp] theorem zHW (x:It):(zJb x).length=8+x.label.size:=by simp [zJb];omega
def znP:List It→Nat→List Int→List Int × Int × Int
  | [],_,out=>(out, -1,0)
  | x :: l,k,out=>if k=1024 then ([],k,9) else if chk x=0 then znP l (k+1) (out++zJb x) else ([],k,chk x)
theorem zEG (l:List It) (k:Nat) (out:List Int) (hk:k < l.length):znP (l.drop k) k out=if k=1024 then ([],(k:Int),9) else if chk l[k]=0 then znP (l.drop (k+1)) (k+1) (out++zJb l[k]) else ([],(k:Int),chk l[k]):=by
  rw [List.drop_eq_getElem_cons hk,znP]
theorem zHY {fr:Fr} {h:zab} {R:Option (AEx × Fr × zab)} (l:List It) (hn:l.length≤2000)
    (hF:run ctx (zau h) (.loop zbu) fr (hx h [] [])=R)
    (h5:fr 5=.nsl) (h10:fr 10=.vsl false (l.map It.cells)) (h11:fr 11=.int .i64 l.length) (h12:fr 12=.int .i64 0):
    ∃ e fr' bs ts,R=some (e,fr',hx h bs ts)∧((e=.exit 0∧∃ out,znP l 0 []=(out, -1,0)∧fr' 5=gL .nsl h.toks.length 0 (eI .u8 out))∨(e=.ret∧fr' 2=.nsl∧(znP l 0 []).1=[]∧fr' 3=.int .i64 (znP l 0 []).2.1∧fr' 4=.int .i64 (znP l 0 []).2.2)):=by
  obtain ⟨e,fr',h',rfl,⟨bs,ts,rfl,hp⟩,hk⟩:=zaj hF l.length
    (fun k fr hh=>fr 12=.int .i64 k∧∃ bs out,hh=hx h bs (gT (eI .u8 out))∧fr 5=gL .nsl h.toks.length 0 (eI .u8 out)∧znP l 0 []=znP (l.drop k) k out∧out.length≤k*1000008)
    (fun e fr hh=>∃ bs ts,hh=hx h bs ts∧((e=.exit 0∧∃ out,znP l 0 []=(out, -1,0)∧fr 5=gL .nsl h.toks.length 0 (eI .u8 out))∨(e=.ret∧fr 2=.nsl∧(znP l 0 []).1=[]∧fr 3=.int .i64 (znP l 0 []).2.1∧fr 4=.int .i64 (znP l 0 []).2.2)))
    ⟨h12, [], [], by simp [gT], by simpa [gL] using h5, by simp, by simp⟩ (by
      rintro k fr1 hh hkN hkeep ⟨g12,bs,out,rfl,g5,gs,go⟩
      have g10:=(hkeep 10 (by decide)).trans h10
      have g11:=(hkeep 11 (by decide)).trans h11
      by_cases hlt:k < l.length
      · have w1 : IntKind.i64.wrap ((k : Int) + 1) = k + 1 := wrap_i64 (by omega) (by omega)
        have hget:l[k]?=some l[k]:=List.getElem?_eq_getElem hlt
        rw [zEG l k out hlt] at gs
        by_cases h1024:k=1024
        · rw [if_pos h1024] at gs
          subst h1024
          simp [zbu,g12,g11,g10,g5,hlt,show (1024:Int) < l.length by omega,zbP,asI,hget,zaf,zbF,zau,zah]
          exact ⟨⟨_,_,rfl⟩,by rw [gs],by rw [gs];rfl,by rw [gs]⟩
        · rw [if_neg h1024] at gs
          have b1024:((k:Int)==1024)=false:=beq_false_of_ne (by omega)
          by_cases hc:chk l[k]=0
          · rw [if_pos hc] at gs
            have hsz:=(zo9 hc).2.2.2.2.2.2
            have hroom:out.length+(8+l[k].label.size) < 274877906944:=by omega
            simp [zbu,g12,g11,g10,g5,hlt,show (k:Int) < l.length by omega,zbP,asI,hget,zaf,zbF,zau,zah,b1024,zxD,hc,zqq,zat,hroom,w1]
            exact ⟨_,out++zJb l[k],rfl,rfl,gs,by simp;omega⟩
          · rw [if_neg hc] at gs
            have bc:(chk l[k]==0)=false:=beq_false_of_ne hc
            simp [zbu,g12,g11,g10,g5,hlt,show (k:Int) < l.length by omega,zbP,asI,hget,zaf,zbF,zau,zah,b1024,zxD,hc,bne,bc]
            exact ⟨⟨_,_,rfl⟩,by rw [gs],by rw [gs],by rw [gs]⟩
      · have : k = l.length := by omega
        subst this
        simp [zbu,g12,g11,g5]
        exact ⟨⟨_,_,rfl⟩,out,by rw [gs];simp [znP],rfl⟩)
  exact ⟨e,fr',bs,ts,rfl,hp⟩
theorem zOb (L:Lim) (h:zab) (l:List It) (hn:l.length≤2000):
    zag ctx L zdb [.vsl false (l.map It.cells)] h=some (.tup [.vsl false (eI .u8 (znP l 0 []).1),.int .i64 (znP l 0 []).2.1,.int .i64 (znP l 0 []).2.2],h):=by
  rw [zk0]
  simp [zeZ, -List.map_take]
  generalize hF:run ctx _ (.loop _) _ _=R
  obtain ⟨e,fr',bs,ts,rfl,⟨rfl,out,e1,e2⟩ | ⟨rfl,e1,e2,e3,e4⟩⟩:=zHY l hn hF (by simp) (by simp) (by simp) (by simp)
  · rw [e1];simp [e2,zpo]
  · rw [e2];simp [e1,e3,e4]
end Go.Av
namespace Go.Av
theorem zFj (k m:Nat):(k:Int).tmod (m:Int)=((k % m:Nat):Int):=by rw [Int.tmod_eq_emod_of_nonneg (by omega)];omega
theorem zyC (k m:Nat):(k:Int).tdiv (m:Int)=((k / m:Nat):Int):=by rw [Int.tdiv_eq_ediv_of_nonneg (by omega)];omega
theorem zQh (k:Nat):(k:Int).tdiv 2=((k / 2:Nat):Int):=zyC k 2
theorem zit (n:Nat) (h:n < 9223372036854775808):IntKind.i64.wrap (n:Int)=n:=wrap_i64 (by omega) (by omega)
def inB (l:List Int):Prop:=∀ i,i < l.length→0≤gd l 0 i∧gd l 0 i < 256
theorem zmc {α:Type} (l:List α) (d v:α) (i j:Nat) (hi:i < l.length):gd (l.set i v) d j=if i=j then v else gd l d j:=by
  unfold gd
  simp only [List.getD,List.getElem?_set]
  split <;> simp_all
theorem zE7 {α:Type} (l m:List α) (d:α) (j:Nat) (hj:j < l.length):gd (l++m) d j=gd l d j:=by
  unfold gd;simp only [List.getD,List.getElem?_append_left hj]
theorem zE8 {α:Type} (l m:List α) (d:α) (j:Nat) (hj:l.length≤j):gd (l++m) d j=gd m d (j - l.length):=by
  unfold gd;simp only [List.getD,List.getElem?_append_right hj]
theorem zJi (v:Nat) (hv:v < 256):(bw (v:Int)).toNat=v:=by unfold bw;rw [BitVec.toNat_ofInt];omega
def leN:List Int→Nat
  | []=>0
  | x :: l=>x.toNat+256*leN l
theorem zuQ {l : List Int} (h : inB l) : ∀ x ∈ l, 0 ≤ x ∧ x < 256 := fun x hx => by
  obtain ⟨i,hi,rfl⟩:=List.getElem_of_mem hx
  have:=h i hi
  rwa [gd,List.getD,List.getElem?_eq_getElem hi] at this
theorem zqQ {l : List Int} (h : ∀ x ∈ l, 0 ≤ x ∧ x < 256) : inB l := fun i hi => by
  rw [gd,List.getD,List.getElem?_eq_getElem hi];exact h _ (List.getElem_mem hi)
theorem zAH:∀ {l:List Int},inB l→leN l < 256 ^ l.length
  | [],_=>by simp [leN]
  | x :: l, h => by
    have h1:=zuQ h x (by simp)
    have h2:=zAH (zqQ (l:=l) fun y hy=>zuQ h y (by simp [hy]))
    simp only [leN,List.length_cons,Nat.pow_succ]
    omega
theorem zv3:∀ (l:List Int) (x:Int),leN (l++[x])=leN l+x.toNat*256 ^ l.length
  | [],x=>by simp [leN]
  | y :: l, x => by
    simp only [List.cons_append,leN,zv3 l x,List.length_cons,Nat.pow_succ,Nat.mul_add,Nat.add_assoc,Nat.mul_comm,Nat.mul_left_comm]
theorem zmu {l:List Int} (h:inB l) (n:Nat):inB (l.take n):=zqQ fun x hx=>zuQ h x (List.mem_of_mem_take hx)
theorem zrH {l:List Int} (h:inB l) (n:Nat):inB (l.drop n):=zqQ fun x hx=>zuQ h x (List.mem_of_mem_drop hx)
def bck (b:List Int) (q k:Nat):List Int:=(b.take (min k (8*q+8))).drop (8*q)
theorem zLl (b:List Int) (q k:Nat) (hk:k≤b.length):(bck b q k).length=min k (8*q+8) - 8*q:=by simp [bck];omega
def wdP (b:List Int) (n:Nat):Nat→List W64
  | 0=>tab n fun _=>0#64
  | k+1=>(wdP b n k).set (k / 8) (gd (wdP b n k) 0#64 (k / 8)|||(bw (gd b 0 k) <<< (8*(k % 8))))
@[simp] theorem zv4 (b:List Int) (n:Nat):∀ k,(wdP b n k).length=n
  | 0=>by simp [wdP]
  | k+1=>by simp [wdP,zv4 b n k]
theorem zOv (w:W64) (v m:Nat) (hv:v < 256) (hm:m < 8) (hw:w.toNat < 256 ^ m):(w|||(bw (v:Int) <<< (8*m))).toNat=w.toNat+v*256 ^ m:=by
  have e:256 ^ m=2 ^ (8*m):=by rw [show (256:Nat)=2 ^ 8 from rfl,← Nat.pow_mul]
  rw [e] at hw ⊢
  have h8:(2:Nat) ^ (8*m)*256≤2 ^ 64:=by
    rw [show (256:Nat)=2 ^ 8 from rfl,← Nat.pow_add];exact Nat.pow_le_pow_right (by decide) (by omega)
  have hlt:v <<< (8*m) < 2 ^ 64:=by
    rw [Nat.shiftLeft_eq]
    calc v*2 ^ (8*m) < 256*2 ^ (8*m):=Nat.mul_lt_mul_of_pos_right hv (Nat.two_pow_pos _)
      _≤2 ^ 64:=by rw [Nat.mul_comm];exact h8
  rw [BitVec.toNat_or,BitVec.toNat_shiftLeft,zJi v hv,Nat.mod_eq_of_lt hlt,Nat.or_comm,← Nat.shiftLeft_add_eq_or_of_lt hw,Nat.shiftLeft_eq,Nat.add_comm]
theorem zFc (b:List Int) (hb:inB b) (n:Nat):∀ k,k≤b.length→k≤8*n→∀ q,q < n→(gd (wdP b n k) 0#64 q).toNat=leN (bck b q k)
  | 0,_,_,q,hq=>by rw [wdP,zkQ hq];simp [bck,leN]
  | k + 1, hk, hn, q, hq => by
    have ih:=zFc b hb n k (by omega) (by omega) q hq
    have hlen:=zLl b q k (by omega)
    have hlt:=zAH (zrH (zmu hb (min k (8*q+8))) (8*q))
    have hbk:=hb k (by omega)
    rw [wdP]
    rw [zmc _ _ _ _ _ (by simp;omega)]
    by_cases h:k / 8=q
    · rw [if_pos h,h]
      obtain ⟨v,hv⟩:∃ v:Nat,gd b 0 k=(v:Int):=⟨(gd b 0 k).toNat,by omega⟩
      have hm:(bck b q k).length=k % 8:=by rw [hlen];omega
      have hsn:bck b q (k+1)=bck b q k++[gd b 0 k]:=by
        unfold bck
        rw [show min (k+1) (8*q+8)=k+1 by omega,show min k (8*q+8)=k by omega,zlr 0 (by omega),List.drop_append_of_le_length (by simp;omega)]
      rw [hsn,zv3,hm,← ih,hv,zOv _ v _ (by omega) (by omega) ?_]
      · simp
      · rw [ih,← hm];exact hlt
    · rw [if_neg h,ih]
      congr 1
      unfold bck
      by_cases h2:k < 8*q
      · rw [List.drop_eq_nil_of_le (by simp;omega),List.drop_eq_nil_of_le (by simp;omega)]
      · rw [show min (k+1) (8*q+8)=min k (8*q+8) by omega]
end Go.Av
namespace Go.Av
def val:List W64→Nat
  | []=>0
  | w :: l=>w.toNat+18446744073709551616*val l
def pN:Nat:=21888242871839275222246405745257275088548364400416034343698204186575808495617
def rN:Nat:=115792089237316195423570985008687907853269984665640564039457584007913129639936
def pW:List W64:=[0x43e1f593f0000001#64,0x2833e84879b97091#64,0xb85045b68181585d#64,0x30644e72e131a029#64]
def ztd:W64:=14042775128853446655#64
theorem zOz:val pW=pN:=by decide +kernel
theorem zQ3:(1+ztd.toNat*(0x43e1f593f0000001:Nat)) % 18446744073709551616=0:=by decide +kernel
def w4 (x:Nat):List W64:=[BitVec.ofNat 64 x,BitVec.ofNat 64 (x / 18446744073709551616),BitVec.ofNat 64 (x / 340282366920938463463374607431768211456),BitVec.ofNat 64 (x / 6277101735386680763835789423207666416102355444464034512896)]
@[simp] theorem zpr (x:Nat):(w4 x).length=4:=rfl
theorem zuv (x:Nat) (h:x < rN):val (w4 x)=x:=by
  simp only [w4,val,BitVec.toNat_ofNat]
  unfold rN at h
  omega
theorem znI {l:List W64} (h:l.length=4):∃ a b c d,l=[a,b,c,d]:=by
  match l,h with
  | [a,b,c,d],_=>exact ⟨a,b,c,d,rfl⟩
theorem zDZ {l:List W64} (h:l.length=5):∃ a b c d e,l=[a,b,c,d,e]:=by
  match l,h with
  | [a,b,c,d,e],_=>exact ⟨a,b,c,d,e,rfl⟩
theorem zyZ {l:List W64} (h:l.length=4):val l < rN:=by
  obtain ⟨a,b,c,d,rfl⟩:=znI h
  have:=a.isLt;have:=b.isLt;have:=c.isLt;have:=d.isLt
  simp only [val];unfold rN;omega
theorem zDT {l:List W64} (h:l.length=4):w4 (val l)=l:=by
  obtain ⟨a,b,c,d,rfl⟩:=znI h
  have h1:=a.isLt;have h2:=b.isLt;have h3:=c.isLt;have h4:=d.isLt
  have e : ∀ (w : W64) (n : Nat), n % 18446744073709551616 = w.toNat → BitVec.ofNat 64 n = w := fun w n hn => by
    apply BitVec.eq_of_toNat_eq
    rw [BitVec.toNat_ofNat];exact hn
  simp only [val,w4]
  rw [e a _ (by omega),e b _ (by omega),e c _ (by omega),e d _ (by omega)]
def lnL (a x y c:W64):W64:=BitVec.ofNat 64 (a.toNat+x.toNat*y.toNat+c.toNat)
def lnH (a x y c:W64):W64:=BitVec.ofNat 64 ((a.toNat+x.toNat*y.toNat+c.toNat) / 18446744073709551616)
theorem zsb (a x y c:W64):(lnL a x y c).toNat+18446744073709551616*(lnH a x y c).toNat=a.toNat+x.toNat*y.toNat+c.toNat:=by
  have h1:=a.isLt;have h2:=x.isLt;have h3:=y.isLt;have h4:=c.isLt
  have h5:x.toNat*y.toNat≤18446744073709551615*18446744073709551615:=Nat.mul_le_mul (by omega) (by omega)
  simp only [lnL,lnH,BitVec.toNat_ofNat]
  omega
def zdf (t:List W64) (x:W64) (b:List W64):Nat→List W64 × W64
  | 0=>(t,0#64)
  | j+1=>((zdf t x b j).1.set j (lnL (gd (zdf t x b j).1 0#64 j) x (gd b 0#64 j) (zdf t x b j).2),lnH (gd (zdf t x b j).1 0#64 j) x (gd b 0#64 j) (zdf t x b j).2)
def znJ (t:List W64) (k:W64):Nat→List W64 × W64
  | 0=>(t,lnH (gd t 0#64 0) k (gd pW 0#64 0) 0#64)
  | j+1=>((znJ t k j).1.set j (lnL (gd (znJ t k j).1 0#64 (j+1)) k (gd pW 0#64 (j+1)) (znJ t k j).2),lnH (gd (znJ t k j).1 0#64 (j+1)) k (gd pW 0#64 (j+1)) (znJ t k j).2)
def adS (t:List W64) (c:W64):List W64:=t.set 4 (gd t 0#64 4+c)
def zMn (u:List W64) (c:W64):List W64:=(u.set 3 (BitVec.ofNat 64 ((gd u 0#64 4).toNat+c.toNat))).set 4 (BitVec.ofNat 64 (((gd u 0#64 4).toNat+c.toNat) / 18446744073709551616))
def zqH (t:List W64) (x:W64) (b:List W64):List W64:=
  zMn (znJ (adS (zdf t x b 4).1 (zdf t x b 4).2) (gd (adS (zdf t x b 4).1 (zdf t x b 4).2) 0#64 0*ztd) 3).1 (znJ (adS (zdf t x b 4).1 (zdf t x b 4).2) (gd (adS (zdf t x b 4).1 (zdf t x b 4).2) 0#64 0*ztd) 3).2
def ziY (a b:List W64):Nat→List W64
  | 0=>tab 5 fun _=>0#64
  | i+1=>zqH (ziY a b i) (gd a 0#64 i) b
@[simp] theorem zj7 (t:List W64) (x:W64) (b:List W64):∀ j,(zdf t x b j).1.length=t.length
  | 0=>rfl
  | j+1=>by simp [zdf,zj7 t x b j]
@[simp] theorem zvG (t:List W64) (k:W64):∀ j,(znJ t k j).1.length=t.length
  | 0=>rfl
  | j+1=>by simp [znJ,zvG t k j]
@[simp] theorem zKy (t:List W64) (c:W64):(adS t c).length=t.length:=by simp [adS]
@[simp] theorem zPs (t:List W64) (c:W64):(zMn t c).length=t.length:=by simp [zMn]
@[simp] theorem zMa (t:List W64) (x:W64) (b:List W64):(zqH t x b).length=t.length:=by simp [zqH]
@[simp] theorem zlI (a b:List W64):∀ i,(ziY a b i).length=5
  | 0=>rfl
  | i+1=>by simp [ziY,zlI a b i]
theorem zKd (t0 t1 t2 t3 t4 x b0 b1 b2 b3:W64):∃ l0 l1 l2 l3 c,zdf [t0,t1,t2,t3,t4] x [b0,b1,b2,b3] 4=([l0,l1,l2,l3,t4],c)∧
    l0.toNat+18446744073709551616*(l1.toNat+18446744073709551616*(l2.toNat+18446744073709551616*(l3.toNat+18446744073709551616*c.toNat)))=
      t0.toNat+18446744073709551616*(t1.toNat+18446744073709551616*(t2.toNat+18446744073709551616*t3.toNat))+x.toNat*val [b0,b1,b2,b3]:=by
  refine ⟨_,_,_,_,_,rfl,?_⟩
  simp only [gd,List.getD_cons_zero,List.getD_cons_succ,List.set_cons_zero,List.set_cons_succ,zdf]
  have q0:=zsb t0 x b0 0#64
  generalize lnL t0 x b0 0#64=l0 at*
  generalize lnH t0 x b0 0#64=c0 at*
  have q1:=zsb t1 x b1 c0
  generalize lnL t1 x b1 c0=l1 at*
  generalize lnH t1 x b1 c0=c1 at*
  have q2:=zsb t2 x b2 c1
  generalize lnL t2 x b2 c1=l2 at*
  generalize lnH t2 x b2 c1=c2 at*
  have q3:=zsb t3 x b3 c2
  generalize lnL t3 x b3 c2=l3 at*
  generalize lnH t3 x b3 c2=c3 at*
  simp only [val,Nat.mul_add,Nat.mul_zero,Nat.add_zero,BitVec.toNat_zero] at*
  have e1:x.toNat*(18446744073709551616*b1.toNat)=18446744073709551616*(x.toNat*b1.toNat):=by rw [Nat.mul_left_comm]
  have e2:x.toNat*(18446744073709551616*(18446744073709551616*b2.toNat))=18446744073709551616*(18446744073709551616*(x.toNat*b2.toNat)):=by rw [Nat.mul_left_comm,Nat.mul_left_comm x.toNat]
  have e3:x.toNat*(18446744073709551616*(18446744073709551616*(18446744073709551616*b3.toNat)))=18446744073709551616*(18446744073709551616*(18446744073709551616*(x.toNat*b3.toNat))):=by
    rw [Nat.mul_left_comm,Nat.mul_left_comm x.toNat,Nat.mul_left_comm x.toNat]
  rw [e1,e2,e3]
  generalize x.toNat*b0.toNat=m0 at*
  generalize x.toNat*b1.toNat=m1 at*
  generalize x.toNat*b2.toNat=m2 at*
  generalize x.toNat*b3.toNat=m3 at*
  omega
theorem zKe (t0 t1 t2 t3 t4:W64):∃ r0 r1 r2 t3' c,znJ [t0,t1,t2,t3,t4] (t0*ztd) 3=([r0,r1,r2,t3',t4],c)∧
    18446744073709551616*(r0.toNat+18446744073709551616*(r1.toNat+18446744073709551616*(r2.toNat+18446744073709551616*c.toNat)))=
      t0.toNat+18446744073709551616*(t1.toNat+18446744073709551616*(t2.toNat+18446744073709551616*t3.toNat))+(t0*ztd).toNat*pN:=by
  refine ⟨_,_,_,_,_,rfl,?_⟩
  have hk:(t0.toNat+(t0*ztd).toNat*0x43e1f593f0000001) % 18446744073709551616=0:=by
    rw [BitVec.toNat_mul]
    have:=zQ3
    rw [show ztd.toNat=14042775128853446655 from rfl] at this ⊢
    omega
  generalize t0*ztd=k at*
  simp only [gd,List.getD_cons_zero,List.getD_cons_succ,List.set_cons_zero,List.set_cons_succ,znJ,pW]
  have q0:=zsb t0 k 0x43e1f593f0000001#64 0#64
  generalize lnL t0 k 0x43e1f593f0000001#64 0#64=l0 at*
  generalize lnH t0 k 0x43e1f593f0000001#64 0#64=c0 at*
  have q1:=zsb t1 k 0x2833e84879b97091#64 c0
  generalize lnL t1 k 0x2833e84879b97091#64 c0=l1 at*
  generalize lnH t1 k 0x2833e84879b97091#64 c0=c1 at*
  have q2:=zsb t2 k 0xb85045b68181585d#64 c1
  generalize lnL t2 k 0xb85045b68181585d#64 c1=l2 at*
  generalize lnH t2 k 0xb85045b68181585d#64 c1=c2 at*
  have q3:=zsb t3 k 0x30644e72e131a029#64 c2
  generalize lnL t3 k 0x30644e72e131a029#64 c2=l3 at*
  generalize lnH t3 k 0x30644e72e131a029#64 c2=c3 at*
  have z0:l0.toNat < 18446744073709551616:=l0.isLt
  rw [show (0x43e1f593f0000001#64:W64).toNat=0x43e1f593f0000001 from rfl,show (0#64:W64).toNat=0 from rfl] at q0
  rw [show (0x2833e84879b97091#64:W64).toNat=0x2833e84879b97091 from rfl] at q1
  rw [show (0xb85045b68181585d#64:W64).toNat=0xb85045b68181585d from rfl] at q2
  rw [show (0x30644e72e131a029#64:W64).toNat=0x30644e72e131a029 from rfl] at q3
  have hl0:l0.toNat=0:=by omega
  unfold pN
  omega
theorem zDI {t b:List W64} (ht:t.length=5) (hb:b.length=4) (x:W64) (h1:val t < 2*pN) (h2:val b < pN):
    ∃ k,18446744073709551616*val (zqH t x b)=val t+x.toNat*val b+k*pN∧val (zqH t x b) < 2*pN:=by
  obtain ⟨t0,t1,t2,t3,t4,rfl⟩:=zDZ ht
  obtain ⟨b0,b1,b2,b3,rfl⟩:=znI hb
  obtain ⟨l0,l1,l2,l3,c,e1,q1⟩:=zKd t0 t1 t2 t3 t4 x b0 b1 b2 b3
  have hx:=x.isLt
  have hm:x.toNat*val [b0,b1,b2,b3]≤18446744073709551615*(pN - 1):=Nat.mul_le_mul (by omega) (by omega)
  unfold zqH
  rw [e1]
  simp only [adS,gd,List.getD_cons_zero,List.getD_cons_succ,List.set_cons_zero,List.set_cons_succ]
  generalize val [b0,b1,b2,b3]=vb at*
  obtain ⟨r0,r1,r2,t3',c',e2,q2⟩:=zKe l0 l1 l2 l3 (t4+c)
  rw [e2]
  have hkl:(l0*ztd).toNat≤18446744073709551615:=by have:=(l0*ztd).isLt;omega
  have hkp:(l0*ztd).toNat*pN≤18446744073709551615*pN:=Nat.mul_le_mul_right _ hkl
  refine ⟨(l0*ztd).toNat,?_⟩
  generalize (l0*ztd).toNat*pN=kp at*
  generalize x.toNat*vb=m at*
  have h4:=t4.isLt;have hc:=c.isLt;have hc':=c'.isLt
  have z0:=l0.isLt;have z1:=l1.isLt;have z2:=l2.isLt;have z3:=l3.isLt
  have y0:=r0.isLt;have y1:=r1.isLt;have y2:=r2.isLt
  simp only [val,Nat.mul_zero,Nat.add_zero,pN] at h1 hm hkp
  have e4:(t4+c).toNat=t4.toNat+c.toNat:=by
    rw [BitVec.toNat_add]
    omega
  simp only [zMn,gd,List.getD_cons_zero,List.getD_cons_succ,List.set_cons_zero,List.set_cons_succ,val,BitVec.toNat_ofNat,e4,Nat.mul_zero,Nat.add_zero,pN]
  omega
theorem zzZ:∀ (l:List W64) (w:W64),val (l++[w])=val l+w.toNat*18446744073709551616 ^ l.length
  | [],w=>by simp [val]
  | a :: l, w => by
    simp only [List.cons_append,val,zzZ l w,List.length_cons,Nat.pow_succ,Nat.mul_add,Nat.add_assoc,Nat.mul_comm,Nat.mul_left_comm]
theorem zz0 {a b:List W64} (ha:a.length=4) (hb:b.length=4) (h2:val b < pN):∀ i,i≤4→val (ziY a b i) < 2*pN∧∃ k,18446744073709551616 ^ i*val (ziY a b i)=val (a.take i)*val b+k*pN
  | 0, _ => by
    have h0:val (ziY a b 0)=0:=(show val (tab 5 fun _=>0#64)=0 by decide +kernel)
    exact ⟨by rw [h0];decide +kernel,0,by rw [h0];simp [val]⟩
  | i + 1, hi => by
    obtain ⟨h3,k,hk⟩:=zz0 ha hb h2 i (by omega)
    obtain ⟨k',hk',hlt⟩:=zDI (zlI a b i) hb (gd a 0#64 i) h3 h2
    refine ⟨hlt,k+k'*18446744073709551616 ^ i,?_⟩
    have hil:i < a.length:=by omega
    rw [zlr 0#64 hil,zzZ,List.length_take,Nat.min_eq_left (by omega)]
    show 18446744073709551616 ^ (i+1)*val (zqH (ziY a b i) (gd a 0#64 i) b)=_
    rw [Nat.pow_succ,Nat.mul_assoc,hk']
    generalize 18446744073709551616 ^ i=q at*
    generalize val (ziY a b i)=v at*
    generalize val b=vb at*
    generalize (gd a 0#64 i).toNat=g at*
    generalize val (a.take i)=va at*
    grind
end Go.Av
namespace Go.Av
def zIi:Nat:=9915499612839321149637521777990102151350674507940716049588462388200839649614
theorem zNu:rN*zIi % pN=1:=by decide +kernel
def zyY (a b:Nat):Nat:=a*b*zIi % pN
theorem zx1:0 < pN:=by decide
def zux (x:Nat):Nat:=if x < pN then x else x - pN
theorem zvy {x:Nat} (h:x < 2*pN):zux x=x % pN:=by
  unfold zux
  split
  · rw [Nat.mod_eq_of_lt (by assumption)]
  · rw [Nat.mod_eq_sub_mod (by omega),Nat.mod_eq_of_lt (by omega)]
theorem zKl {x:Nat} (h:x < 2*pN):zux x < pN:=by rw [zvy h];exact Nat.mod_lt _ zx1
theorem zBt {a b:List W64} (ha:a.length=4) (hb:b.length=4) (h2:val b < pN):val ((ziY a b 4).take 4) < 2*pN∧zux (val ((ziY a b 4).take 4))=zyY (val a) (val b):=by
  obtain ⟨h3,k,hk⟩:=zz0 ha hb h2 4 (by omega)
  have h4:=zlI a b 4
  generalize ziY a b 4=t at*
  obtain ⟨t0,t1,t2,t3,t4,rfl⟩:=zDZ h4
  have e4:t4.toNat=0:=by
    simp only [val,pN] at h3
    omega
  have e5:val (List.take 4 [t0,t1,t2,t3,t4])=val [t0,t1,t2,t3,t4]:=by
    simp [val,e4]
  rw [e5]
  refine ⟨h3,?_⟩
  rw [List.take_of_length_le (by omega)] at hk
  have hb':=zKl h3
  have hm:=zvy h3
  have hdiv:=Nat.div_add_mod (val [t0,t1,t2,t3,t4]) pN
  generalize val [t0,t1,t2,t3,t4]=v at*
  rw [← hm] at hdiv
  rw [show (18446744073709551616:Nat) ^ 4=rN from rfl] at hk
  have hrp:rN*zux v+rN*(pN*(v / pN))=val a*val b+k*pN:=by rw [← Nat.mul_add,Nat.add_comm (zux v),hdiv];exact hk
  have h5:rN*zux v % pN=val a*val b % pN:=by
    have e1:(rN*zux v+rN*(pN*(v / pN))) % pN=rN*zux v % pN:=by
      rw [show rN*(pN*(v / pN))=(rN*(v / pN))*pN by rw [Nat.mul_left_comm,Nat.mul_comm]]
      exact Nat.add_mul_mod_self_right _ _ _
    rw [← e1,hrp,Nat.add_mul_mod_self_right]
  unfold zyY
  calc zux v=zux v % pN:=(Nat.mod_eq_of_lt hb').symm
    _=(1*zux v) % pN:=by rw [Nat.one_mul]
    _=(rN*zIi % pN*zux v) % pN:=by rw [zNu]
    _=(rN*zIi*zux v) % pN:=by rw [Nat.mod_mul_mod]
    _=(rN*zux v*zIi) % pN:=by rw [Nat.mul_right_comm]
    _=(rN*zux v % pN*zIi) % pN:=by rw [Nat.mod_mul_mod]
    _=(val a*val b % pN*zIi) % pN:=by rw [h5]
    _=val a*val b*zIi % pN:=by rw [Nat.mod_mul_mod]
def fe (x:Nat):List W64:=w4 (x*rN % pN)
@[simp] theorem zz5 (x:Nat):(fe x).length=4:=rfl
theorem zNw (x:Nat):val (fe x)=x*rN % pN:=zuv _ (Nat.lt_trans (Nat.mod_lt _ zx1) (by decide))
theorem zI1 (x:Nat):fe (x % pN)=fe x:=by unfold fe;rw [Nat.mod_mul_mod]
theorem zI2 (x:Nat):x*rN % pN*zIi % pN=x % pN:=by
  rw [Nat.mod_mul_mod,Nat.mul_assoc,← Nat.mul_mod_mod,zNu,Nat.mul_one]
theorem zKp (a:Nat):zyY a (rN*rN % pN)=a*rN % pN:=by
  unfold zyY
  rw [Nat.mul_assoc,← Nat.mul_mod_mod,zI2,Nat.mul_mod_mod]
theorem zHg (x:Nat):zyY (val (fe x)) 1=x % pN:=by
  unfold zyY
  rw [zNw,Nat.mul_one,zI2]
end Go.Av
namespace Go.Av
theorem wd0:zaa.int .u64 0=wd 0#64:=rfl
theorem wd1:zaa.int .u64 1=wd 1#64:=rfl
def adL (x y c:W64):W64:=BitVec.ofNat 64 (x.toNat+y.toNat+c.toNat)
def adH (x y c:W64):W64:=BitVec.ofNat 64 ((x.toNat+y.toNat+c.toNat) / 18446744073709551616)
def sbL (x y c:W64):W64:=BitVec.ofNat 64 (x.toNat+18446744073709551616 - y.toNat - c.toNat)
def sbH (x y c:W64):W64:=if x.toNat < y.toNat+c.toNat then 1#64 else 0#64
theorem zy2 (x y c:W64) (hc:c.toNat≤1):(adL x y c).toNat+18446744073709551616*(adH x y c).toNat=x.toNat+y.toNat+c.toNat∧(adH x y c).toNat≤1:=by
  have h1:=x.isLt;have h2:=y.isLt
  simp only [adL,adH,BitVec.toNat_ofNat]
  omega
theorem zvE (x y c:W64) (hc:c.toNat≤1):(sbL x y c).toNat+y.toNat+c.toNat=x.toNat+18446744073709551616*(sbH x y c).toNat∧(sbH x y c).toNat≤1:=by
  have h1:=x.isLt;have h2:=y.isLt
  simp only [sbL,sbH,BitVec.toNat_ofNat]
  split
  · rw [show (1#64:W64).toNat=1 from rfl];omega
  · rw [show (0#64:W64).toNat=0 from rfl];omega
theorem zmq (L:Lim) (h:zab) (x y c:W64) (hc:decide (c.toNat≤1)=true):zag ctx L zaJ [wd x,wd y,wd c] h=some (.tup [wd (adL x y c),wd (adH x y c)],h):=by
  have hc':c.toNat≤1:=by simpa using hc
  have:=zEj (L:=L) (h:=h) znw x y c.toNat hc'
  rw [show zaa.int .u64 (c.toNat:Int)=wd c from rfl] at this
  rw [this]
  have h1:=x.isLt;have h2:=y.isLt
  rw [zOr _ (by omega)]
  rfl
theorem zAa (L:Lim) (h:zab) (x y c:W64) (hc:decide (c.toNat≤1)=true):zag ctx L zb2 [wd x,wd y,wd c] h=some (.tup [wd (sbL x y c),wd (sbH x y c)],h):=by
  have hc':c.toNat≤1:=by simpa using hc
  have:=zEk (L:=L) (h:=h) znx x y c.toNat hc'
  rw [show zaa.int .u64 (c.toNat:Int)=wd c from rfl] at this
  rw [this]
  unfold sbL sbH
  split <;> rfl
def zNG (x y:W64):W64:=BitVec.ofNat 64 (x.toNat*y.toNat / 18446744073709551616)
theorem zKv (x y:W64):(x >>> 32)*(y >>> 32)+(((x >>> 32)*(y&&&4294967295#64)+((x&&&4294967295#64)*(y&&&4294967295#64)) >>> 32) >>> 32) +
    ((((x >>> 32)*(y&&&4294967295#64)+((x&&&4294967295#64)*(y&&&4294967295#64)) >>> 32)&&&4294967295#64)+(x&&&4294967295#64)*(y >>> 32)) >>> 32=zNG x y:=by
  have hm : ∀ w : W64, (w &&& 4294967295#64).toNat = w.toNat % 4294967296 := fun w => by
    rw [BitVec.toNat_and,show (4294967295#64:W64).toNat=2 ^ 32 - 1 from rfl,Nat.and_two_pow_sub_one_eq_mod]
  have hs : ∀ w : W64, (w >>> 32).toNat = w.toNat / 4294967296 := fun w => by
    rw [BitVec.toNat_ushiftRight,Nat.shiftRight_eq_div_pow]
  apply BitVec.eq_of_toNat_eq
  simp only [zNG,BitVec.toNat_add,BitVec.toNat_mul,hm,hs,BitVec.toNat_ofNat]
  have h1:=x.isLt;have h2:=y.isLt
  generalize x.toNat=a at*
  generalize y.toNat=b at*
  have ea:a=a / 4294967296*4294967296+a % 4294967296:=by omega
  have eb:b=b / 4294967296*4294967296+b % 4294967296:=by omega
  have b1:a / 4294967296≤4294967295:=by omega
  have b2:a % 4294967296≤4294967295:=by omega
  have b3:b / 4294967296≤4294967295:=by omega
  have b4:b % 4294967296≤4294967295:=by omega
  generalize a / 4294967296=a1 at*
  generalize a % 4294967296=a0 at*
  generalize b / 4294967296=b1' at*
  generalize b % 4294967296=b0 at*
  have em:a*b=a1*b1'*18446744073709551616+(a1*b0+a0*b1')*4294967296+a0*b0:=by
    subst ea eb;grind
  have c1:a1*b1'≤4294967295*4294967295:=Nat.mul_le_mul b1 b3
  have c2:a1*b0≤4294967295*4294967295:=Nat.mul_le_mul b1 b4
  have c3:a0*b1'≤4294967295*4294967295:=Nat.mul_le_mul b2 b3
  have c4:a0*b0≤4294967295*4294967295:=Nat.mul_le_mul b2 b4
  rw [em]
  generalize a1*b1'=p at*
  generalize a1*b0=q at*
  generalize a0*b1'=r at*
  generalize a0*b0=s at*
  omega
theorem zAc (L:Lim) (h:zab) (x y:W64):zag ctx L zcX [wd x,wd y] h=some (.tup [wd (zNG x y),wd (x*y)],h):=by
  rw [zmA]
  have hm:zaa.int .u64 4294967295=wd 4294967295#64:=rfl
  have h32:∀ x:W64,zew .shr (wd x) (.int .u64 32)=some (wd (x >>> 32)):=fun x=>znj x .u64 32 (by decide)
  have e:=zKv x y
  simp [zfX,hm,h32, -zdO]
  exact congrArg wd e
theorem zy4 (L:Lim) (h:zab) (a x y c:W64):zag ctx L zfa [wd a,wd x,wd y,wd c] h=some (.tup [wd (lnL a x y c),wd (lnH a x y c)],h):=by
  rw [zsC]
  have h0:(0#64:W64).toNat=0:=rfl
  simp [zlk,zau,wd0,zAc,zmq,h0]
  have h1:=a.isLt;have h2:=x.isLt;have h3:=y.isLt;have h4:=c.isLt
  have h5:x.toNat*y.toNat≤18446744073709551615*18446744073709551615:=Nat.mul_le_mul (by omega) (by omega)
  have e1:(x*y).toNat=x.toNat*y.toNat % 18446744073709551616:=by rw [BitVec.toNat_mul]
  constructor
  · congr 1
    apply BitVec.eq_of_toNat_eq
    simp only [lnL,adL,BitVec.toNat_ofNat,e1,h0]
    omega
  · congr 1
    apply BitVec.eq_of_toNat_eq
    simp only [lnH,adL,adH,zNG,BitVec.toNat_ofNat,BitVec.toNat_add,e1,h0]
    generalize x.toNat*y.toNat=m at*
    omega
theorem zHq:cW pW=[.int .u64 4891460686036598785,.int .u64 2896914383306846353,.int .u64 13281191951274694749,.int .u64 3486998266802970665]:=rfl
theorem zmr (L:Lim) (h:zab):zag ctx L zbU [] h=some (.agg (cW pW),h):=by
  rw [zra]
  simp [zkd,zau,zaV,zaA,zbF,zah,zaf,zjS,zHq]
end Go.Av
namespace Go.Av
def plK (a b:List W64):Nat→List W64 × W64
  | 0=>(tab 4 fun _=>0#64,0#64)
  | k+1=>((plK a b k).1.set k (adL (gd a 0#64 k) (gd b 0#64 k) (plK a b k).2),adH (gd a 0#64 k) (gd b 0#64 k) (plK a b k).2)
def boK (a b:List W64):Nat→List W64 × W64
  | 0=>(tab 4 fun _=>0#64,0#64)
  | k+1=>((boK a b k).1.set k (sbL (gd a 0#64 k) (gd b 0#64 k) (boK a b k).2),sbH (gd a 0#64 k) (gd b 0#64 k) (boK a b k).2)
@[simp] theorem zza (a b:List W64):∀ k,(plK a b k).1.length=4
  | 0=>rfl
  | k+1=>by simp [plK,zza a b k]
@[simp] theorem zy8 (a b:List W64):∀ k,(boK a b k).1.length=4
  | 0=>rfl
  | k+1=>by simp [boK,zy8 a b k]
theorem zNR (a b:List W64):∀ k,(plK a b k).2.toNat≤1
  | 0=>by simp [plK]
  | k+1=>(zy2 _ _ _ (zNR a b k)).2
theorem zKz (a b:List W64):∀ k,(boK a b k).2.toNat≤1
  | 0=>by simp [boK]
  | k+1=>(zvE _ _ _ (zKz a b k)).2
theorem zG2 (a b:List W64) (k:Nat):plK a b (k+1)=((plK a b k).1.set k (adL (gd a 0#64 k) (gd b 0#64 k) (plK a b k).2),adH (gd a 0#64 k) (gd b 0#64 k) (plK a b k).2):=by rw [plK]
theorem zG3 (a b:List W64) (k:Nat):boK a b (k+1)=((boK a b k).1.set k (sbL (gd a 0#64 k) (gd b 0#64 k) (boK a b k).2),sbH (gd a 0#64 k) (gd b 0#64 k) (boK a b k).2):=by rw [boK]
theorem zJX (a b:List W64) (ha:a.length=4) (hb:b.length=4) (h:val a+val b < rN):(plK a b 4).1=w4 (val a+val b):=by
  obtain ⟨a0,a1,a2,a3,rfl⟩:=znI ha
  obtain ⟨b0,b1,b2,b3,rfl⟩:=znI hb
  rw [← zDT (zza [a0,a1,a2,a3] [b0,b1,b2,b3] 4)]
  congr 1
  simp only [plK,gd,List.getD_cons_zero,List.getD_cons_succ,List.set_cons_zero,List.set_cons_succ,show tab 4 (fun _=>0#64)=[0#64,0#64,0#64,0#64] from rfl]
  have q0:=zy2 a0 b0 0#64 (by decide)
  generalize adL a0 b0 0#64=l0 at*
  generalize adH a0 b0 0#64=c0 at*
  have q1:=zy2 a1 b1 c0 q0.2
  generalize adL a1 b1 c0=l1 at*
  generalize adH a1 b1 c0=c1 at*
  have q2:=zy2 a2 b2 c1 q1.2
  generalize adL a2 b2 c1=l2 at*
  generalize adH a2 b2 c1=c2 at*
  have q3:=zy2 a3 b3 c2 q2.2
  generalize adL a3 b3 c2=l3 at*
  generalize adH a3 b3 c2=c3 at*
  have z0:=l0.isLt;have z1:=l1.isLt;have z2:=l2.isLt;have z3:=l3.isLt
  simp only [val,BitVec.toNat_zero,rN] at*
  omega
theorem zJZ (a b:List W64) (ha:a.length=4) (hb:b.length=4):(boK a b 4).1=w4 (if val a < val b then val a+rN - val b else val a - val b)∧(boK a b 4).2=if val a < val b then 1#64 else 0#64:=by
  have hva:=zyZ ha
  have hvb:=zyZ hb
  obtain ⟨a0,a1,a2,a3,rfl⟩:=znI ha
  obtain ⟨b0,b1,b2,b3,rfl⟩:=znI hb
  have key:val (boK [a0,a1,a2,a3] [b0,b1,b2,b3] 4).1+val [b0,b1,b2,b3]=val [a0,a1,a2,a3] + rN*(boK [a0,a1,a2,a3] [b0,b1,b2,b3] 4).2.toNat:=by
    simp only [boK,gd,List.getD_cons_zero,List.getD_cons_succ,List.set_cons_zero,List.set_cons_succ,show tab 4 (fun _=>0#64)=[0#64,0#64,0#64,0#64] from rfl]
    have q0:=zvE a0 b0 0#64 (by decide)
    generalize sbL a0 b0 0#64=l0 at*
    generalize sbH a0 b0 0#64=c0 at*
    have q1:=zvE a1 b1 c0 q0.2
    generalize sbL a1 b1 c0=l1 at*
    generalize sbH a1 b1 c0=c1 at*
    have q2:=zvE a2 b2 c1 q1.2
    generalize sbL a2 b2 c1=l2 at*
    generalize sbH a2 b2 c1=c2 at*
    have q3:=zvE a3 b3 c2 q2.2
    generalize sbL a3 b3 c2=l3 at*
    generalize sbH a3 b3 c2=c3 at*
    simp only [val,BitVec.toNat_zero,rN] at*
    omega
  have hc:=zKz [a0,a1,a2,a3] [b0,b1,b2,b3] 4
  have hl:=zy8 [a0,a1,a2,a3] [b0,b1,b2,b3] 4
  have hv:=zyZ hl
  generalize boK [a0,a1,a2,a3] [b0,b1,b2,b3] 4=q at*
  obtain ⟨l,c⟩:=q
  simp only at*
  generalize val [a0,a1,a2,a3]=va at*
  generalize val [b0,b1,b2,b3]=vb at*
  rw [← zDT hl]
  rcases (show c.toNat=0∨c.toNat=1 by omega) with h0 | h0
  · rw [h0,Nat.mul_zero] at key
    have h:¬va < vb:=by omega
    rw [if_neg h,if_neg h]
    exact ⟨congrArg w4 (by omega),BitVec.eq_of_toNat_eq h0⟩
  · rw [h0,Nat.mul_one] at key
    have h:va < vb:=by omega
    rw [if_pos h,if_pos h]
    exact ⟨congrArg w4 (by omega),BitVec.eq_of_toNat_eq h0⟩
theorem zDl {fr:Fr} {h:zab} {R:Option (AEx × Fr × zab)} (a b:List W64) (ha:a.length=4) (hb:b.length=4)
    (hF:run ctx (zau h) (.loop zdY) fr (hx h [cW (plK a b 0).1] [])=R)
    (h2:fr 2=.vptr (cW a) 0) (h3:fr 3=.vptr (cW b) 0) (h4:fr 4=pA h.blks.length 0 0) (h5:fr 5=wd 0#64) (h7:fr 7=.int .i64 0):
    ∃ fr',R=some (.exit 0,fr',hx h [cW (plK a b 4).1] [])∧∀ t,t∉wr zdY→fr' t=fr t:=by
  obtain ⟨e,fr',h',rfl,⟨rfl,rfl⟩,hk⟩:=zaj hF 4
    (fun k fr hh=>fr 7=.int .i64 k∧fr 5=wd (plK a b k).2∧hh=hx h [cW (plK a b k).1] [])
    (fun e fr hh=>e=.exit 0∧hh=hx h [cW (plK a b 4).1] [])
    ⟨h7,h5,rfl⟩ (by
      rintro k fr1 hh hkN hkeep ⟨g7,g5,rfl⟩
      have g2:=(hkeep 2 (by decide)).trans h2
      have g3:=(hkeep 3 (by decide)).trans h3
      have g4:=(hkeep 4 (by decide)).trans h4
      by_cases hlt:k < 4
      · have w1 : IntKind.i64.wrap ((k : Int) + 1) = k + 1 := wrap_i64 (by omega) (by omega)
        have hc:=zNR a b k
        have hl:=zza a b k
        have hst:=zG2 a b k
        generalize plK a b k=q at*
        simp [zdY,zau,g7,g5,g2,g3,g4,hlt,show (k:Int) < 4 by omega,show k≤3 by omega,w1,zgb,ztb,ha,hb,zmq,hc,hl,hst]
      · have : k = 4 := by omega
        subst this
        simp [zdY,g7])
  exact ⟨fr',rfl,hk⟩
theorem zJ0 (L:Lim) (h:zab) (a b:List W64) (ha:a.length=4) (hb:b.length=4) (hs:val a+val b < rN):zag ctx L zgy [.agg (cW a),.agg (cW b)] h=some (.agg (cW (w4 (val a+val b))),h):=by
  rw [zsK]
  have e0:cW (tab 4 fun _=>0#64)=cW (plK a b 0).1:=rfl
  simp [zlu,zau,zbk,e0]
  generalize hF:run ctx _ (.loop _) _ _=R
  obtain ⟨fr1,rfl,hk1⟩:=zDl a b ha hb hF (by simp) (by simp) (by simp) (by simp [wd0]) (by simp)
  simp [hk1,wr,zdY,zgR,zaf,zbF,zah,zJX a b ha hb hs]
theorem zyS {fr:Fr} {h:zab} {R:Option (AEx × Fr × zab)} (a b:List W64) (ha:a.length=4) (hb:b.length=4)
    (hF:run ctx (zau h) (.loop zcT) fr (hx h [cW (boK a b 0).1] [])=R)
    (h2:fr 2=.vptr (cW a) 0) (h3:fr 3=.vptr (cW b) 0) (h4:fr 4=pA h.blks.length 0 0) (h5:fr 5=wd 0#64) (h7:fr 7=.int .i64 0):
    ∃ fr',R=some (.exit 0,fr',hx h [cW (boK a b 4).1] [])∧fr' 5=wd (boK a b 4).2∧∀ t,t∉wr zcT→fr' t=fr t:=by
  obtain ⟨e,fr',h',rfl,⟨rfl,rfl,h5'⟩,hk⟩:=zaj hF 4
    (fun k fr hh=>fr 7=.int .i64 k∧fr 5=wd (boK a b k).2∧hh=hx h [cW (boK a b k).1] [])
    (fun e fr hh=>e=.exit 0∧hh=hx h [cW (boK a b 4).1] []∧fr 5=wd (boK a b 4).2)
    ⟨h7,h5,rfl⟩ (by
      rintro k fr1 hh hkN hkeep ⟨g7,g5,rfl⟩
      have g2:=(hkeep 2 (by decide)).trans h2
      have g3:=(hkeep 3 (by decide)).trans h3
      have g4:=(hkeep 4 (by decide)).trans h4
      by_cases hlt:k < 4
      · have w1 : IntKind.i64.wrap ((k : Int) + 1) = k + 1 := wrap_i64 (by omega) (by omega)
        have hc:=zKz a b k
        have hl:=zy8 a b k
        have hst:=zG3 a b k
        have hS:=fun L h=>zAa L h (gd a 0#64 k) (gd b 0#64 k) (boK a b k).2 (by simpa using hc)
        generalize boK a b k=q at*
        generalize sbL (gd a 0#64 k) (gd b 0#64 k) q.2=u at*
        generalize sbH (gd a 0#64 k) (gd b 0#64 k) q.2=v at*
        simp -implicitDefEqProofs [zcT,zau,g7,g5,g2,g3,g4,hlt,show (k:Int) < 4 by omega,show k≤3 by omega,w1,zgb,ztb,ha,hb,hS,hc,hl,hst]
      · have : k = 4 := by omega
        subst this
        simp [zcT,g7,g5])
  exact ⟨fr',rfl,h5',hk⟩
theorem zw3 (L:Lim) (h:zab) (a b:List W64) (ha:a.length=4) (hb:b.length=4):zag ctx L zeE [.agg (cW a),.agg (cW b)] h=
    some (.tup [.agg (cW (w4 (if val a < val b then val a+rN - val b else val a - val b))),wd (if val a < val b then 1#64 else 0#64)],h):=by
  rw [zqg]
  have e0:cW (tab 4 fun _=>0#64)=cW (boK a b 0).1:=rfl
  simp [ziS,zau,zbk,e0]
  generalize hF:run ctx _ (.loop _) _ _=R
  obtain ⟨fr1,rfl,h5,hk1⟩:=zyS a b ha hb hF (by simp) (by simp) (by simp) (by simp [wd0]) (by simp)
  obtain ⟨e1,e2⟩:=zJZ a b ha hb
  rw [e2] at h5
  simp [hk1,h5,wr,zcT,zgR,zaf,zbF,zah,e1]
theorem zzT (L:Lim) (h:zab) (a:List W64) (ha:a.length=4):zag ctx L zd3 [.agg (cW a)] h=some (.agg (cW (w4 (zux (val a)))),h):=by
  rw [zrd]
  have hb:=fun L h=>zw3 L h a pW ha rfl
  simp only [zOz] at hb
  by_cases hlt:val a < pN
  · simp only [if_pos hlt] at hb
    have he:(wd 1#64=zaa.int .u64 1):=rfl
    simp [zhn,zau,zbk,zmr,zaf,zbF,zah,hb,ha,he]
    rw [zux,if_pos hlt,zDT ha]
  · simp only [if_neg hlt] at hb
    have he:(wd 0#64=zaa.int .u64 0):=rfl
    simp [zhn,zau,zbk,zmr,zaf,zbF,zah,hb,ha,he]
    rw [zux,if_neg hlt]
end Go.Av
namespace Go.Av
def zF3:Nat→W64
  | 0=>1#64
  | k+1=>zF3 k*(2#64 - 0x43e1f593f0000001#64*zF3 k)
theorem zDs (k:Nat):zF3 (k+1)=zF3 k*(2#64 - 0x43e1f593f0000001#64*zF3 k):=rfl
theorem zGS: -zF3 6=ztd:=by decide +kernel
theorem zw4 {L:Lim} {fr:Fr} {H:zab} {R:Option (AEx × Fr × zab)} (hF:run ctx L (.loop zcq) fr H=R)
    (h1:fr 1=wd 0x43e1f593f0000001#64) (h2:fr 2=wd 1#64) (h5:fr 5=.int .i64 0):
    ∃ fr',R=some (.exit 0,fr',H)∧fr' 2=wd (zF3 6)∧∀ t,t∉wr zcq→fr' t=fr t:=by
  obtain ⟨e,fr',h',rfl,⟨rfl,rfl,h2'⟩,hk⟩:=zaj hF 6
    (fun k fr hh=>fr 5=.int .i64 k∧fr 2=wd (zF3 k)∧hh=H)
    (fun e fr hh=>e=.exit 0∧hh=H∧fr 2=wd (zF3 6))
    ⟨h5,h2,rfl⟩ (by
      rintro k fr1 hh hkN hkeep ⟨g5,g2,rfl⟩
      have g1:=(hkeep 1 (by decide)).trans h1
      by_cases hlt:k < 6
      · have w1 : IntKind.i64.wrap ((k : Int) + 1) = k + 1 := wrap_i64 (by omega) (by omega)
        have e2:zaa.int .u64 2=wd 2#64:=rfl
        have hst:=zDs k
        generalize zF3 k=q at*
        simp [zcq,g5,g2,g1,hlt,show (k:Int) < 6 by omega,w1,e2,hst]
      · have : k = 6 := by omega
        subst this
        simp [zcq,g5,g2])
  exact ⟨fr',rfl,h2',hk⟩
theorem zw6 (x:W64):unA .neg (wd x)=some (wd (0#64 - x)):=by
  have:=zOu 0#64 x
  rw [← this]
  rfl
theorem zBh (L:Lim) (h:zab):zag ctx L zfs [] h=some (wd ztd,h):=by
  rw [zo6]
  have hp:(cW pW)[0]?=some (wd 0x43e1f593f0000001#64):=rfl
  simp [zhC,zau,zmr,zQa,zae,hp]
  generalize hF:run ctx _ (.loop _) _ _=R
  obtain ⟨fr1,rfl,h2,hk1⟩:=zw4 hF (by simp) (by simp [wd1]) (by simp)
  simp [hk1,h2,wr,zcq,zgR,zw6,zGS]
theorem zBi {fr:Fr} {h:zab} {R:Option (AEx × Fr × zab)} (t b:List W64) (x:W64) (z y:List zaa) (ht:t.length=5) (hb:b.length=4)
    (hF:run ctx (zau h) (.loop zaW) fr (hx h [z,y,cW t] [])=R)
    (h7:fr 7=pA h.blks.length 2 0) (h9:fr 9=wd x) (h10:fr 10=wd 0#64) (h21:fr 21=.agg (cW b)) (h22:fr 22=.int .i64 0):
    ∃ fr',R=some (.exit 2,fr',hx h [z,y,cW (zdf t x b 4).1] [])∧fr' 10=wd (zdf t x b 4).2∧∀ t,t∉wr zaW→fr' t=fr t:=by
  obtain ⟨e,fr',h',rfl,⟨rfl,rfl,h10'⟩,hk⟩:=zaj hF 4
    (fun k fr hh=>fr 22=.int .i64 k∧fr 10=wd (zdf t x b k).2∧hh=hx h [z,y,cW (zdf t x b k).1] [])
    (fun e fr hh=>e=.exit 2∧hh=hx h [z,y,cW (zdf t x b 4).1] []∧fr 10=wd (zdf t x b 4).2)
    ⟨h22,h10,rfl⟩ (by
      rintro k fr1 hh hkN hkeep ⟨g22,g10,rfl⟩
      have g7:=(hkeep 7 (by decide)).trans h7
      have g9:=(hkeep 9 (by decide)).trans h9
      have g21:=(hkeep 21 (by decide)).trans h21
      by_cases hlt:k < 4
      · have w1 : IntKind.i64.wrap ((k : Int) + 1) = k + 1 := wrap_i64 (by omega) (by omega)
        have hl:=zj7 t x b k
        have hst:zdf t x b (k+1)=((zdf t x b k).1.set k (lnL (gd (zdf t x b k).1 0#64 k) x (gd b 0#64 k) (zdf t x b k).2),lnH (gd (zdf t x b k).1 0#64 k) x (gd b 0#64 k) (zdf t x b k).2):=by rw [zdf]
        generalize zdf t x b k=q at*
        obtain ⟨u,c⟩:=q
        simp only at hl g10 hst
        have hl5:u.length=5:=hl.trans ht
        simp -implicitDefEqProofs [zaW,zau,g22,g10,g7,g9,g21,hlt,show (k:Int) < 4 by omega,show k≤3 by omega,show k < 5 by omega,show k≤4 by omega,w1,zgb,zzs,zae,hb,zy4,hl5,hst]
      · have : k = 4 := by omega
        subst this
        simp [zaW,g22,g10])
  exact ⟨fr',rfl,h10',hk⟩
theorem zBj {fr:Fr} {h:zab} {R:Option (AEx × Fr × zab)} (t:List W64) (kk:W64) (z:List zaa) (ht:t.length=5)
    (hF:run ctx (zau h) (.loop zbI) fr (hx h [z,cW pW,cW t] [])=R)
    (h5:fr 5=pA h.blks.length 1 0) (h7:fr 7=pA h.blks.length 2 0) (h13:fr 13=wd kk) (h10:fr 10=wd (znJ t kk 0).2) (h14:fr 14=.int .i64 1):
    ∃ fr',R=some (.exit 4,fr',hx h [z,cW pW,cW (znJ t kk 3).1] [])∧fr' 10=wd (znJ t kk 3).2∧∀ t,t∉wr zbI→fr' t=fr t:=by
  obtain ⟨e,fr',h',rfl,⟨rfl,rfl,h10'⟩,hk⟩:=zaj hF 3
    (fun k fr hh=>fr 14=.int .i64 ((k+1:Nat):Int)∧fr 10=wd (znJ t kk k).2∧hh=hx h [z,cW pW,cW (znJ t kk k).1] [])
    (fun e fr hh=>e=.exit 4∧hh=hx h [z,cW pW,cW (znJ t kk 3).1] []∧fr 10=wd (znJ t kk 3).2)
    ⟨h14,h10,rfl⟩ (by
      rintro k fr1 hh hkN hkeep ⟨g14,g10,rfl⟩
      have g5:=(hkeep 5 (by decide)).trans h5
      have g7:=(hkeep 7 (by decide)).trans h7
      have g13:=(hkeep 13 (by decide)).trans h13
      by_cases hlt:k < 3
      · have hl:=zvG t kk k
        have hst:znJ t kk (k+1)=((znJ t kk k).1.set k (lnL (gd (znJ t kk k).1 0#64 (k+1)) kk (gd pW 0#64 (k+1)) (znJ t kk k).2),lnH (gd (znJ t kk k).1 0#64 (k+1)) kk (gd pW 0#64 (k+1)) (znJ t kk k).2):=by rw [znJ]
        generalize znJ t kk k=q at*
        obtain ⟨u,c⟩:=q
        simp only at hl g10 hst
        have hl5:u.length=5:=hl.trans ht
        obtain ⟨j,hj⟩:∃ j,j=k+1:=⟨_,rfl⟩
        rw [← hj] at g14 hst
        have hpl:pW.length=4:=rfl
        have w1:IntKind.i64.wrap ((j:Int)+1)=((j+1:Nat):Int):=wrap_i64 (by omega) (by omega)
        have w2:IntKind.i64.wrap ((j:Int) - 1)=((k:Nat):Int):=by rw [← zit k (by omega)];congr 1;omega
        simp -implicitDefEqProofs [zbI,zau,g14,g10,g5,g7,g13,hlt,show (j:Int) < 4 by omega,show j≤3 by omega,show k < 5 by omega,show k≤4 by omega,show j < 5 by omega,show j < 4 by omega,show j≤4 by omega,show j≤5 by omega,w1,w2,zgb,zy4,hl5,hpl,hst,← hj]
      · have : k = 3 := by omega
        subst this
        simp [zbI,g14,g10])
  exact ⟨fr',rfl,h10',hk⟩
end Go.Av
namespace Go.Av
theorem zBl {fr:Fr} {h:zab} {R:Option (AEx × Fr × zab)} (a b:List W64) (z:List zaa) (ha:a.length=4) (hb:b.length=4)
    (hF:run ctx (zau h) (.loop zcp) fr (hx h [z,cW pW,cW (ziY a b 0)] [])=R)
    (h3:fr 3=.vptr (cW b) 0) (h5:fr 5=pA h.blks.length 1 0) (h6:fr 6=wd ztd) (h7:fr 7=pA h.blks.length 2 0) (h17:fr 17=.agg (cW a)) (h18:fr 18=.int .i64 0):
    ∃ fr',R=some (.exit 0,fr',hx h [z,cW pW,cW (ziY a b 4)] [])∧∀ t,t∉wr zcp→fr' t=fr t:=by
  obtain ⟨e,fr',h',rfl,⟨rfl,rfl⟩,hk⟩:=zaj hF 4
    (fun k fr hh=>fr 18=.int .i64 k∧hh=hx h [z,cW pW,cW (ziY a b k)] [])
    (fun e fr hh=>e=.exit 0∧hh=hx h [z,cW pW,cW (ziY a b 4)] [])
    ⟨h18,rfl⟩ (by
      rintro k fr1 hh hkN hkeep ⟨g18,rfl⟩
      have g3:=(hkeep 3 (by decide)).trans h3
      have g5:=(hkeep 5 (by decide)).trans h5
      have g6:=(hkeep 6 (by decide)).trans h6
      have g7:=(hkeep 7 (by decide)).trans h7
      have g17:=(hkeep 17 (by decide)).trans h17
      by_cases hlt:k < 4
      · have w1 : IntKind.i64.wrap ((k : Int) + 1) = k + 1 := wrap_i64 (by omega) (by omega)
        have hl:=zlI a b k
        have hst:ziY a b (k+1)=zqH (ziY a b k) (gd a 0#64 k) b:=rfl
        generalize hq:ziY a b k=t at*
        have h0:(0#64:W64).toNat=0:=rfl
        simp [zcp,g18,g17,g3,hlt,show (k:Int) < 4 by omega,show k≤3 by omega,zzs,zae,ha,hb,zaf,wd0]
        generalize hF:run ctx _ (.loop _) _ _=R
        obtain ⟨fr2,rfl,q10,q1⟩:=zBi t b (gd a 0#64 k) z (cW pW) hl hb hF (by simp [g7]) (by simp) (by simp) (by simp) (by simp)
        have hlm:(zdf t (gd a 0#64 k) b 4).1.length=5:=(zj7 _ _ _ _).trans hl
        have hr:ziY a b (k+1)=zMn (znJ (adS (zdf t (gd a 0#64 k) b 4).1 (zdf t (gd a 0#64 k) b 4).2) (gd (adS (zdf t (gd a 0#64 k) b 4).1 (zdf t (gd a 0#64 k) b 4).2) 0#64 0*ztd) 3).1 (znJ (adS (zdf t (gd a 0#64 k) b 4).1 (zdf t (gd a 0#64 k) b 4).2) (gd (adS (zdf t (gd a 0#64 k) b 4).1 (zdf t (gd a 0#64 k) b 4).2) 0#64 0*ztd) 3).2:=hst
        generalize zdf t (gd a 0#64 k) b 4=m at*
        obtain ⟨u,c⟩:=m
        simp only at hlm q10 hr
        have had:u.set 4 (gd u 0#64 4+c)=adS u c:=rfl
        have hlu:(adS u c).length=5:=(zKy u c).trans hlm
        generalize hv:adS u c=v at*
        have hred0:(znJ v (gd v 0#64 0*ztd) 0)=(v,lnH (gd v 0#64 0) (gd v 0#64 0*ztd) (gd pW 0#64 0) 0#64):=rfl
        have hpl:pW.length=4:=rfl
        have k4:∀ (i n off:Nat),zbP (some 5) 1 (pA i n off) (.int .i64 4)=some (pA i n (off+4)):=fun i n off=>by simpa using zgb 5 1 i n off 4 .i64 (by decide)
        have k3:∀ (i n off:Nat),zbP (some 5) 1 (pA i n off) (.int .i64 3)=some (pA i n (off+3)):=fun i n off=>by simpa using zgb 5 1 i n off 3 .i64 (by decide)
        simp -implicitDefEqProofs [q10,q1,wr,zaW,zgR,zau,g5,g6,g7,k4,hlm,had,hlu,hpl,zy4]
        generalize hF:run ctx _ (.loop _) _ _=R
        obtain ⟨fr3,rfl,p10,p1⟩:=zBj v (gd v 0#64 0*ztd) z hlu hF (by simp [q1,wr,zaW,zgR,g5]) (by simp [q1,wr,zaW,zgR,g7]) (by simp) (by simp [hred0]) (by simp)
        have hlr:(znJ v (gd v 0#64 0*ztd) 3).1.length=5:=(zvG _ _ _).trans hlu
        generalize znJ v (gd v 0#64 0*ztd) 3=m2 at*
        obtain ⟨u2,c2⟩:=m2
        simp only at hlr p10 hr
        have he:(u2.set 3 (adL (gd u2 0#64 4) c2 0#64)).set 4 (adH (gd u2 0#64 4) c2 0#64)=zMn u2 c2:=rfl
        simp -implicitDefEqProofs [p10,p1,q1,wr,zaW,zbI,zgR,zau,g5,g6,g7,g18,k4,k3,hlr,wd0,zmq,w1,he,hr]
        exact hlt
      · have : k = 4 := by omega
        subst this
        simp [zcp,g18])
  exact ⟨fr',rfl,hk⟩
theorem zuu (L:Lim) (h:zab) (a b:List W64) (ha:a.length=4) (hb:b.length=4) (hp:val b < pN):
    zag ctx L zcU [.agg (cW a),.agg (cW b)] h=some (.agg (cW (w4 (zyY (val a) (val b)))),h):=by
  rw [zoG]
  have e0:cW (tab 5 fun _=>0#64)=cW (ziY a b 0):=rfl
  have hpl:pW.length=4:=rfl
  simp -implicitDefEqProofs [zh6,zau,zbk,zmr,zBh,zaf,zbF,zah,ha,hb,hpl]
  rw [e0]
  generalize hF:run ctx _ (.loop _) _ _=R
  obtain ⟨fr1,rfl,hk1⟩:=zBl a b _ ha hb hF (by simp) (by simp) (by simp) (by simp) (by simp) (by simp)
  obtain ⟨e1,e2⟩:=zBt ha hb hp
  have hl:=zlI a b 4
  have hsl:=zt8 5 1 h.blks.length 2 0 4 .i64 (by decide)
  simp only [Int.cast_ofNat_Int] at hsl
  generalize ziY a b 4=t at*
  have hl4:(t.take 4).length=4:=by simp [hl]
  have hbe:=fun L h=>zzT L h (t.take 4) hl4
  simp only [e2] at hbe
  simp -implicitDefEqProofs [hk1,wr,zcp,zaW,zbI,zgR,hsl,zIM,zGk,hl,hbe,zbF,zah,zaf]
end Go.Av
namespace Go.Av
def dbl (k:Nat):Nat:=2 ^ k % pN
theorem zIV (k:Nat):dbl k < pN:=Nat.mod_lt _ zx1
theorem zGZ (k:Nat):zux (dbl k+dbl k)=dbl (k+1):=by
  unfold dbl
  have h:=Nat.mod_lt (2 ^ k) zx1
  rw [zvy (by omega),← Nat.add_mod,Nat.pow_succ,Nat.mul_two]
theorem zJ7:dbl 512=rN*rN % pN:=by decide +kernel
theorem zBm {fr:Fr} {h:zab} {R:Option (AEx × Fr × zab)} (z:List zaa)
    (hF:run ctx (zau h) (.loop zdn) fr (hx h [z,cW (w4 (dbl 0))] [])=R)
    (h3:fr 3=pA h.blks.length 1 0) (h5:fr 5=.int .i64 0):
    ∃ fr',R=some (.exit 0,fr',hx h [z,cW (w4 (dbl 512))] [])∧∀ t,t∉wr zdn→fr' t=fr t:=by
  obtain ⟨e,fr',h',rfl,⟨rfl,rfl⟩,hk⟩:=zaj hF 512
    (fun k fr hh=>fr 5=.int .i64 k∧hh=hx h [z,cW (w4 (dbl k))] [])
    (fun e fr hh=>e=.exit 0∧hh=hx h [z,cW (w4 (dbl 512))] [])
    ⟨h5,rfl⟩ (by
      rintro k fr1 hh hkN hkeep ⟨g5,rfl⟩
      have g3:=(hkeep 3 (by decide)).trans h3
      by_cases hlt:k < 512
      · have w1 : IntKind.i64.wrap ((k : Int) + 1) = k + 1 := wrap_i64 (by omega) (by omega)
        have hst:=zGZ k
        have hb:=zIV k
        have hb2:=zIV (k+1)
        generalize hv:dbl k=v at*
        generalize hv':dbl (k+1)=v' at*
        have hvl:v < rN:=Nat.lt_trans hb (by decide)
        have hs2:v+v < rN:=Nat.lt_trans (Nat.add_lt_add hb hb) (by decide)
        have hp:=fun L h=>zJ0 L h (w4 v) (w4 v) rfl rfl (by rw [zuv v hvl];exact hs2)
        have hbe:=fun L h=>zzT L h (w4 (v+v)) rfl
        simp only [zuv v hvl] at hp
        simp only [zuv (v+v) hs2,hst] at hbe
        have l1:=zpr v
        have l2:=zpr (v+v)
        have l3:=zpr v'
        generalize w4 v=a at*
        generalize w4 (v+v)=b at*
        generalize hc:w4 v'=c at*
        simp -implicitDefEqProofs [zdn,zau,g5,g3,hlt,show (k:Int) < 512 by omega,w1,zaf,zbF,zah,hp,hbe,l1,l3,hv',hc]
      · have : k = 512 := by omega
        subst this
        simp [zdn,g5])
  exact ⟨fr',rfl,hk⟩
theorem zG0 (L:Lim) (h:zab) (a:List W64) (ha:a.length=4):zag ctx L zd2 [.agg (cW a)] h=some (.agg (cW (fe (val a))),h):=by
  rw [zrb]
  have e0:(cW (tab 4 fun _=>0#64)).set 0 (wd 1#64)=cW (w4 (dbl 0)):=rfl
  have l0:=zpr (dbl 0)
  simp -implicitDefEqProofs [zkg,zau,zbk,zaA,wd1,zbF,zah,e0,l0]
  generalize hF:run ctx _ (.loop _) _ _=R
  obtain ⟨fr1,rfl,hk1⟩:=zBm _ hF (by simp) (by simp)
  rw [zJ7]
  have hlt:rN*rN % pN < pN:=Nat.mod_lt _ zx1
  have hv:=zuv (rN*rN % pN) (Nat.lt_trans hlt (by decide))
  have hp:=fun L h=>zuu L h a (w4 (rN*rN % pN)) ha rfl (by rw [hv];exact hlt)
  simp only [hv,zKp] at hp
  have hfe:w4 (val a*rN % pN)=fe (val a):=rfl
  simp only [hfe] at hp
  have l1:=zpr (rN*rN % pN)
  have l2:=zz5 (val a)
  generalize w4 (rN*rN % pN)=sq at*
  generalize fe (val a)=r at*
  simp -implicitDefEqProofs [hk1,wr,zdn,zgR,zaf,zbF,zah,hp,ha,l1,l2,zaA]
end Go.Av
