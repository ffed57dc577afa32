/- Items and patterns; the field's arithmetic of the program is that of the numbers modulo the prime. -/
import Derived.Test.YtbookmjmhfoolaaGreatDoorMC0
set_option linter.unusedSimpArgs false
set_option linter.unusedVariables false
set_option maxHeartbeats 2000000
set_option maxRecDepth 20000
namespace Go.Av
structure It where
  kind:Int
  typ:Int
  count:Int
  label:ByteArray
def It.cells (x:It):List zaa:=[.int .i64 x.kind,.int .i64 x.typ,.int .i64 x.count,.str x.label]
@[simp] theorem It.cells_len (x:It):x.cells.length=4:=rfl
@[simp] theorem It.cells_flat (x:It):zb4 x.cells=true:=rfl
theorem zAO (l:List It):zeZ 4 (l.map It.cells)=true:=by cases l <;> simp [zeZ]
theorem zso (nb nt:Nat):∀ l:List It,zaw nb nt (l.map It.cells)=true
  | []=>by simp [zaw]
  | x :: l=>by simp [zaw,zso nb nt l,It.cells,zap,zaa.under]
end Go.Av
namespace Go.Av
def zuc (k:Int):List Int:=if k=1 then [1,2,3,4] else if k=2 then [1,3] else if k=3 then [0] else []
def most (k:Int):Int:=if k=1 then 1048576 else if k=2 then 1048576 else if k=3 then 1 else 0
theorem zGT (L:Lim) (h:zab) (k:Int):zag ctx L zip [.int .i64 k] h=some (.tup [.vsl false (eI .i64 (zuc k)),.int .i64 (most k)],h):=by
  rw [zsx]
  simp [zlQ]
  by_cases h1:k=1
  · subst h1
    simp [zay,rep,zaa.cells,zaa.okV,chunks,zhO,zaw,zap,zaa.under,zuc,most,eI]
  · by_cases h2:k=2
    · subst h2
      simp [zay,rep,zaa.cells,zaa.okV,chunks,zhO,zaw,zap,zaa.under,zuc,most,eI]
    · by_cases h3:k=3
      · subst h3
        simp [zay,rep,zaa.cells,zaa.okV,chunks,zhO,zaw,zap,zaa.under,zuc,most,eI]
      · simp [zuc,most,h1,h2,h3,eI,beq_false_of_ne h1,beq_false_of_ne h2,beq_false_of_ne h3]
def idxOf (v:Int):List Int→Nat→Int
  | [],_=> -1
  | x :: l,i=>if v=x then i else idxOf v l (i+1)
theorem zAR (v:Int) (l:List Int) (k:Nat) (hk:k < l.length):idxOf v (l.drop k) k=if v=l[k] then (k:Int) else idxOf v (l.drop (k+1)) (k+1):=by
  rw [List.drop_eq_getElem_cons hk,idxOf]
theorem zAT {fr:Fr} {h:zab} {R:Option (AEx × Fr × zab)} (hF:run ctx (zau h) (.loop zcc) fr (hx h [] [])=R) (l:List Int) (v:Int) (hl:l.length < 274877906944)
    (h0:fr 0=.vsl false (eI .i64 l)) (h1:fr 1=.int .i64 v) (h7:fr 7=.int .i64 l.length) (h8:fr 8=.int .i64 0):
    ∃ e fr',R=some (e,fr',hx h [] [])∧((e=.exit 0∧idxOf v l 0= -1)∨(e=.ret∧fr' 4=.int .i64 (idxOf v l 0))):=by
  obtain ⟨e,fr',h',rfl,⟨rfl,hp⟩,hk⟩:=zaj hF l.length
    (fun k fr hh=>fr 8=.int .i64 k∧hh=hx h [] []∧idxOf v l 0=idxOf v (l.drop k) k)
    (fun e fr hh=>hh=hx h [] []∧((e=.exit 0∧idxOf v l 0= -1)∨(e=.ret∧fr 4=.int .i64 (idxOf v l 0))))
    ⟨h8, rfl, by simp⟩ (by
      rintro k fr1 hh hkN hkeep ⟨g8,rfl,gi⟩
      have g0:=(hkeep 0 (by decide)).trans h0
      have g1:=(hkeep 1 (by decide)).trans h1
      have g7:=(hkeep 7 (by decide)).trans h7
      by_cases hlt:k < l.length
      · have hget:l[k]?=some l[k]:=List.getElem?_eq_getElem hlt
        rw [zAR v l k hlt] at gi
        simp [zcc,g8,g7,g0,g1,hlt,zcZ,asI,zHO,hget]
        cases hb:(v==l[k])
        · have hne : ¬ v = l[k] := by simpa using hb
          simp [g8,hlt]
          exact ⟨wrap_i64 (by omega) (by omega),by rw [gi,if_neg hne]⟩
        · have he : v = l[k] := by simpa using hb
          rw [if_pos he] at gi
          simp [gi]
      · have : k = l.length := by omega
        subst this
        simp [zcc,g8,g7]
        rw [gi];simp [idxOf])
  exact ⟨e,fr',rfl,hp⟩
theorem zGU (L:Lim) (h:zab) (l:List Int) (v:Int) (hl:l.length < 274877906944):zag ctx L zcq [.vsl false (eI .i64 l),.int .i64 v] h=some (.int .i64 (idxOf v l 0),h):=by
  rw [zi2]
  simp [zdE]
  generalize hF:run ctx _ (.loop _) _ _=R
  obtain ⟨e,fr',rfl,⟨rfl,hi⟩ | ⟨rfl,hi⟩⟩:=zAT hF l v hl (by simp) (by simp) (by simp) (by simp)
  · simp [hi]
  · simp [hi]
theorem zzE (v:Int):∀ (l:List Int) (i:Nat),decide (idxOf v l i≥0)=l.contains v
  | [],i=>by simp [idxOf]
  | x :: l, i => by
    rw [idxOf,List.contains_cons,← zzE v l (i+1)]
    by_cases h:v=x
    · simp [h]
    · simp [h,beq_false_of_ne h]
theorem zf4 (L:Lim) (h:zab) (l:List Int) (v:Int) (hl:l.length < 274877906944):zag ctx L zbA [.vsl false (eI .i64 l),.int .i64 v] h=some (.bool (l.contains v),h):=by
  rw [zh1]
  simp [zcT,zGU,hl]
  simpa using zzE v l 0
def chk (x:It):Int:=
  if (zuc x.kind).length=0 then 5 else if (zuc x.kind).contains x.typ=false then 6
  else if x.count < 1 then 7 else if x.count > most x.kind then 7 else if (x.label.size:Int) > 255 then 8 else 0
theorem zht (k:Int):(zuc k).length < 274877906944:=by
  unfold zuc;split <;> (try split) <;> (try split) <;> simp
theorem zvp (L:Lim) (h:zab) (x:It):zag ctx L zdw [.agg x.cells] h=some (.int .i64 (chk x),h):=by
  rw [zsm]
  simp [It.cells,zuO,zln,zGT,zf4,zht]
  by_cases h1:(zuc x.kind).length=0
  · have b1 : (((zuc x.kind).length : Int) == 0) = true := by simp [h1]
    simp [b1,chk,h1]
  · have b1 : (((zuc x.kind).length : Int) == 0) = false := beq_false_of_ne (by omega)
    by_cases b2:x.typ∈zuc x.kind
    case neg=>simp [b1,chk,h1,b2,zf4,zht]
    case pos=>
      by_cases h3:x.count < 1
      · simp [b1,chk,h1,b2,zf4,zht,h3]
      · by_cases h4:x.count > most x.kind
        · simp [b1,chk,h1,b2,zf4,zht,h3,h4]
        · by_cases h5:(x.label.size:Int) > 255
          · simp [b1,chk,h1,b2,zf4,zht,h3,h4,h5]
          · simp [b1,chk,h1,b2,zf4,zht,h3,h4,h5]
end Go.Av
namespace Go.Av
def le (n:Int):Nat→List Int
  | 0=>[]
  | k+1=>le n k++[IntKind.u8.wrap (n.fdiv (2 ^ (8*k)))]
@[simp] theorem zM0 (n:Int):∀ k,(le n k).length=k
  | 0=>rfl
  | k+1=>by simp [le,zM0 n k]
theorem zyF {L:Lim} {fr:Fr} {h:zab} {R:Option (AEx × Fr × zab)} (hF:run ctx ⟨L.rob,L.rot,h.blks.length,h.toks.length⟩ (.loop zbS) fr (hx h [] [])=R) (b0:List Int) (n:Int) (m:Nat) (hm:m≤8) (hb:b0.length < 200000000000) (hL:L.rot≤h.toks.length)
    (h0:fr 0=.vsl true (eI .u8 b0)) (h1:fr 1=.int .i64 n) (h8:fr 8=.int .i64 m) (h9:fr 9=.int .i64 0):
    ∃ fr',R=some (.exit 0,fr',hx h [] (if m=0 then [] else [b0.length+m]))∧fr' 0=if m=0 then .vsl true (eI .u8 b0) else gA h.toks.length 0 (eI .u8 (b0++le n m)):=by
  obtain ⟨e,fr',h',rfl,⟨rfl,rfl,h3'⟩,hk⟩:=zaj hF m
    (fun k fr hh=>fr 9=.int .i64 k∧fr 0=(if k=0 then .vsl true (eI .u8 b0) else gA h.toks.length 0 (eI .u8 (b0++le n k)))∧hh=hx h [] (if k=0 then [] else [b0.length+k]))
    (fun e fr hh=>e=.exit 0∧hh=hx h [] (if m=0 then [] else [b0.length+m])∧fr 0=if m=0 then .vsl true (eI .u8 b0) else gA h.toks.length 0 (eI .u8 (b0++le n m)))
    ⟨h9, by simpa using h0, by simp⟩ (by
      rintro k fr1 hh hkN hkeep ⟨g9,g0,rfl⟩
      have g1:=(hkeep 1 (by decide)).trans h1
      have g8:=(hkeep 8 (by decide)).trans h8
      by_cases hlt:k < m
      · have w1 : IntKind.i64.wrap (8 * (k : Int)) = 8 * k := wrap_i64 (by omega) (by omega)
        have w2:IntKind.i64.wrap ((k:Int)+1)=k+1:=wrap_i64 (by omega) (by omega)
        by_cases hk0:k=0
        · subst hk0
          simp [zbS,g9,g8,g0,g1,hlt,w1,w2,zay,rep,zaa.cells,zaa.okV,chunks,zhT,zNz,IntKind.bits,zwF,zas,show b0.length+1 < 274877906944 by omega,le]
          exact wrap_i64 (by omega) (by omega)
        · simp [zbS, g9, g8, g0, g1, hlt, hk0, w1, w2, zay, rep, zaa.cells, zaa.okV, chunks, zhT, zNz, IntKind.bits, zDt, zas, hL, show b0.length + k + 1 < 274877906944 by omega, show (0 : Int) ≤ 8 * k by omega, show (8 : Int) * k ≤ 64 by omega, show 0 < b0.length + k by omega, le]
          rw [show (8*(k:Int)).toNat=8*k by omega]
          exact ⟨rfl,rfl⟩
      · have : k = m := by omega
        subst this
        simp [zbS,g9,g8,g0])
  exact ⟨fr',rfl,h3'⟩
theorem zvr (L:Lim) (h:zab) (b0:List Int) (n:Int) (m:Nat) (hm0:0 < m) (hm:m≤8) (hb:b0.length < 200000000000) (hL:L.rot≤h.toks.length):
    zag ctx L zcp [.vsl true (eI .u8 b0),.int .i64 n,.int .i64 m] h=some (.gsl h.toks.length (eI .u8 (b0++le n m)),ptok h (b0.length+m)):=by
  rw [zky]
  simp [zhg]
  generalize hF:run ctx _ (.loop _) _ _=R
  obtain ⟨fr',rfl,h3⟩:=zyF hF b0 n m hm hb hL (by simp) (by simp) (by simp) (by simp)
  have hm1:¬m=0:=by omega
  simp [h3,hm1,zGn]
theorem zsr {L:Lim} {fr:Fr} {h:zab} {R:Option (AEx × Fr × zab)} (hF:run ctx ⟨L.rob,L.rot,h.blks.length,h.toks.length⟩ (.loop zbS) fr (hx h [] [])=R) (t:Nat) (b0:List Int) (n:Int) (m:Nat) (hm:m≤8) (hb:b0.length < 200000000000) (hb0:0 < b0.length) (hL:L.rot≤t) (ht:h.toks[t]?=some b0.length)
    (h0:fr 0=.gsl t (eI .u8 b0)) (h1:fr 1=.int .i64 n) (h8:fr 8=.int .i64 m) (h9:fr 9=.int .i64 0):
    ∃ fr',R=some (.exit 0,fr',hx (ztQ h t (b0.length+m)) [] [])∧fr' 0=.gsl t (eI .u8 (b0++le n m)):=by
  have hlt0:=(List.getElem?_eq_some_iff.1 ht).1
  have hself:ztQ h t b0.length=h:=by
    unfold ztQ
    rw [show h.toks.set t b0.length=h.toks from ?_]
    refine List.ext_getElem? fun i=>?_
    by_cases e:t=i
    · subst e;rw [List.getElem?_set_self hlt0,ht]
    · rw [List.getElem?_set_ne e]
  obtain ⟨e,fr',h',rfl,⟨rfl,rfl,h3'⟩,hk⟩:=zaj hF m
    (fun k fr hh=>fr 9=.int .i64 k∧fr 0=.gsl t (eI .u8 (b0++le n k))∧hh=hx (ztQ h t (b0.length+k)) [] [])
    (fun e fr hh=>e=.exit 0∧hh=hx (ztQ h t (b0.length+m)) [] []∧fr 0=.gsl t (eI .u8 (b0++le n m)))
    ⟨h9, by simpa [le] using h0, by simp [hself]⟩ (by
      rintro k fr1 hh hkN hkeep ⟨g9,g0,rfl⟩
      have g1:=(hkeep 1 (by decide)).trans h1
      have g8:=(hkeep 8 (by decide)).trans h8
      by_cases hlt:k < m
      · have w1 : IntKind.i64.wrap (8 * (k : Int)) = 8 * k := wrap_i64 (by omega) (by omega)
        have w2:IntKind.i64.wrap ((k:Int)+1)=k+1:=wrap_i64 (by omega) (by omega)
        have ht':(ztQ h t (b0.length+k)).toks[t]?=some (eI .u8 (b0++le n k)).length:=by simp [ztQ,hlt0]
        have ha:=zGc ⟨L.rob,L.rot,h.blks.length,h.toks.length⟩ (ztQ h t (b0.length+k)) [] [] 1 t true (eI .u8 (b0++le n k)) (eI .u8 [IntKind.u8.wrap (n.fdiv (2 ^ (8*k)))]) ht'
          (by simp [zas,hL];omega)
        have hs:ztQ (ztQ h t (b0.length+k)) t (b0.length+k+1)=ztQ h t (b0.length+(k+1)):=by simp [ztQ,Nat.add_assoc]
        simp [hs] at ha
        simp [zbS,g9,g8,g0,g1,hlt,w1,w2,zay,rep,zaa.cells,zaa.okV,chunks,zhT,zNz,IntKind.bits,show (0:Int)≤8*k by omega,show (8:Int)*k≤64 by omega,show (8*(k:Int)).toNat=8*k by omega,ha,le]
      · have : k = m := by omega
        subst this
        simp [zbS,g9,g8,g0])
  exact ⟨fr',rfl,h3'⟩
theorem zvs (L:Lim) (h:zab) (t:Nat) (b0:List Int) (n:Int) (m:Nat) (hm:m≤8) (hb:b0.length < 200000000000) (hb0:0 < b0.length) (hL:L.rot≤t) (ht:h.toks[t]?=some b0.length):
    zag ctx L zcp [.gsl t (eI .u8 b0),.int .i64 n,.int .i64 m] h=some (.gsl t (eI .u8 (b0++le n m)),ztQ h t (b0.length+m)):=by
  rw [zky]
  simp [zhg]
  generalize hF:run ctx _ (.loop _) _ _=R
  obtain ⟨fr',rfl,h3⟩:=zsr hF t b0 n m hm hb hb0 hL ht (by simp) (by simp) (by simp) (by simp)
  have hlt0:=(List.getElem?_eq_some_iff.1 ht).1
  simp [h3,zGr,hlt0]
theorem zAX (L:Lim) (h:zab) (bs:List (List zaa)) (ts:List Nat) (b0:List Int) (n m:Int) (hc:(decide (0 < m)&&decide (m≤8)&&decide (b0.length < 200000000000)&&decide (L.rot≤h.toks.length))=true):
    zag ctx L zcp [.vsl true (eI .u8 b0),.int .i64 n,.int .i64 m] (hx h bs ts)=some (gA h.toks.length ts.length (eI .u8 (b0++le n m.toNat)),hx h bs (ts++[b0.length+m.toNat])):=by
  simp only [Bool.and_eq_true,decide_eq_true_eq] at hc
  obtain ⟨k,rfl⟩:∃ k:Nat,m=k:=⟨m.toNat,by omega⟩
  rw [zvr L (hx h bs ts) b0 n k (by omega) (by omega) hc.1.2 (by rw [zal];omega),zIY,zal]
  rfl
theorem zAY (L:Lim) (h:zab) (bs:List (List zaa)) (ts:List Nat) (i:Nat) (b0:List Int) (n m:Int)
    (hc:(decide (0≤m)&&decide (m≤8)&&decide (b0.length < 200000000000)&&decide (0 < b0.length)&&decide (L.rot≤h.toks.length)&&(ts[i]?==some b0.length))=true):
    zag ctx L zcp [gA h.toks.length i (eI .u8 b0),.int .i64 n,.int .i64 m] (hx h bs ts)=some (gA h.toks.length i (eI .u8 (b0++le n m.toNat)),hx h bs (ts.set i (b0.length+m.toNat))):=by
  simp only [Bool.and_eq_true,decide_eq_true_eq,beq_iff_eq] at hc
  obtain ⟨⟨⟨⟨⟨c0,c1⟩,c2⟩,c3⟩,c4⟩,c5⟩:=hc
  obtain ⟨k,rfl⟩:∃ k:Nat,m=k:=⟨m.toNat,by omega⟩
  have ht:(hx h bs ts).toks[h.toks.length+i]?=some b0.length:=by
    simp only [hx];rw [List.getElem?_append_right (Nat.le_add_right _ _),Nat.add_sub_cancel_left];exact c5
  unfold gA
  rw [zvs L (hx h bs ts) (h.toks.length+i) b0 n k (by omega) c2 c3 (by omega) ht,zJN]
  rfl
end Go.Av
namespace Go.Av
def zH1 (x:It):List Int:=[IntKind.u8.wrap x.kind,IntKind.u8.wrap x.typ]++le x.count 4++le x.label.size 2++bts x.label
theorem zG4 (k t c:Int) (lb:ByteArray) (h:k < 1∨k > 3):chk ⟨k,t,c,lb⟩=5:=by
  have h1:k≠1:=by omega
  have h2:k≠2:=by omega
  have h3:k≠3:=by omega
  simp [chk,zuc,h1,h2,h3]
theorem zJQ (k t c:Int) (lb:ByteArray) (hk:k=1∨k=2∨k=3) (h:k=1∧(t < 1∨t > 4)∨k=2∧t≠1∧t≠3∨k=3∧t≠0):chk ⟨k,t,c,lb⟩=6:=by
  rcases hk with rfl | rfl | rfl
  · simp [chk,zuc];omega
  · simp [chk,zuc];omega
  · simp [chk,zuc];omega
theorem zG2 (k t c:Int) (lb:ByteArray) (hk:k=1∨k=2∨k=3) (h:¬(k=1∧(t < 1∨t > 4)∨k=2∧t≠1∧t≠3∨k=3∧t≠0)):
    chk ⟨k,t,c,lb⟩=if c < 1∨c > 1048576∨k=3∧c≠1 then 7 else if (lb.size:Int) > 255 then 8 else 0:=by
  have hmem:(zuc k).contains t=true:=by
    rcases hk with rfl | rfl | rfl <;> simp [zuc] <;> omega
  have hlen : ¬ (zuc k).length = 0 := fun h => by
    have:=List.eq_nil_of_length_eq_zero h;rw [this] at hmem;simp at hmem
  unfold chk
  simp only [hlen,if_false,hmem,Bool.true_eq_false]
  by_cases c1:c < 1
  · simp [c1]
  · rcases hk with rfl | rfl | rfl
    · simp [c1,most]
    · simp [c1,most]
    · by_cases c2:c=1
      · simp [c2,most]
      · simp [c1,c2,most]
        intro h;omega
theorem zo2 {x:It} (h:chk x=0):1≤x.kind∧x.kind≤3∧0≤x.typ∧x.typ≤4∧1≤x.count∧x.count≤1048576∧x.label.size≤255:=by
  obtain ⟨k,t,c,lb⟩:=x
  by_cases hk:k < 1∨k > 3
  · rw [zG4 k t c lb hk] at h;omega
  · have hk' : k = 1 ∨ k = 2 ∨ k = 3 := by omega
    by_cases hb:k=1∧(t < 1∨t > 4)∨k=2∧t≠1∧t≠3∨k=3∧t≠0
    · rw [zJQ k t c lb hk' hb] at h;omega
    · rw [zG2 k t c lb hk' hb] at h
      split at h
      · omega
      · split at h
        · omega
        · simp only;omega
theorem zxa (L:Lim) (h:zab) (x:It):zag ctx L zhp [.agg x.cells] h=
    some (if chk x=0 then .tup [.vsl false (eI .u8 (zH1 x)),.int .i64 0] else .tup [.vsl false [],.int .i64 (chk x)],h):=by
  rw [zqL]
  have e:zb4 [zaa.int .i64 x.kind,.int .i64 x.typ,.int .i64 x.count,.str x.label]=true:=rfl
  have hck:=zvp
  simp only [It.cells] at hck ⊢
  simp [zuO,zjV,zaf,hck]
  by_cases h0:chk x=0
  · have b0 : (chk x == 0) = true := by simp [h0]
    have hs:x.label.size < 1000000000:=by have:=(zo2 h0).2.2.2.2.2.2;omega
    simp [h0,zay,rep,zaa.cells,zaa.okV,chunks,zAX,zAY,zau,zhT,zse,le,zF4,zas,show 8+x.label.size < 274877906944 by omega,zx6,zH1]
  · have b0 : (chk x == 0) = false := by simp [h0]
    simp [bne,b0]
    exact fun e=>absurd e h0
end Go.Av
namespace Go.Av
@[simp] theorem zFN (x:It):(zH1 x).length=8+x.label.size:=by simp [zH1];omega
def znp:List It→Nat→List Int→List Int × Int × Int
  | [],_,out=>(out, -1,0)
  | x :: l,k,out=>if k=1024 then ([],k,9) else if chk x=0 then znp l (k+1) (out++zH1 x) else ([],k,chk x)
theorem zEb (l:List It) (k:Nat) (out:List Int) (hk:k < l.length):znp (l.drop k) k out=if k=1024 then ([],(k:Int),9) else if chk l[k]=0 then znp (l.drop (k+1)) (k+1) (out++zH1 l[k]) else ([],(k:Int),chk l[k]):=by
  rw [List.drop_eq_getElem_cons hk,znp]
theorem zFO {fr:Fr} {h:zab} {R:Option (AEx × Fr × zab)} (l:List It) (hn:l.length≤2000)
    (hF:run ctx (zau h) (.loop zbq) fr (hx h [] [])=R)
    (h5:fr 5=.nsl) (h10:fr 10=.vsl false (l.map It.cells)) (h11:fr 11=.int .i64 l.length) (h12:fr 12=.int .i64 0):
    ∃ e fr' bs ts,R=some (e,fr',hx h bs ts)∧((e=.exit 0∧∃ out,znp l 0 []=(out, -1,0)∧fr' 5=gL .nsl h.toks.length 0 (eI .u8 out))∨(e=.ret∧fr' 2=.nsl∧(znp l 0 []).1=[]∧fr' 3=.int .i64 (znp l 0 []).2.1∧fr' 4=.int .i64 (znp l 0 []).2.2)):=by
  obtain ⟨e,fr',h',rfl,⟨bs,ts,rfl,hp⟩,hk⟩:=zaj hF l.length
    (fun k fr hh=>fr 12=.int .i64 k∧∃ bs out,hh=hx h bs (gT (eI .u8 out))∧fr 5=gL .nsl h.toks.length 0 (eI .u8 out)∧znp l 0 []=znp (l.drop k) k out∧out.length≤k*1000008)
    (fun e fr hh=>∃ bs ts,hh=hx h bs ts∧((e=.exit 0∧∃ out,znp l 0 []=(out, -1,0)∧fr 5=gL .nsl h.toks.length 0 (eI .u8 out))∨(e=.ret∧fr 2=.nsl∧(znp l 0 []).1=[]∧fr 3=.int .i64 (znp l 0 []).2.1∧fr 4=.int .i64 (znp l 0 []).2.2)))
    ⟨h12, [], [], by simp [gT], by simpa [gL] using h5, by simp, by simp⟩ (by
      rintro k fr1 hh hkN hkeep ⟨g12,bs,out,rfl,g5,gs,go⟩
      have g10:=(hkeep 10 (by decide)).trans h10
      have g11:=(hkeep 11 (by decide)).trans h11
      by_cases hlt:k < l.length
      · have w1 : IntKind.i64.wrap ((k : Int) + 1) = k + 1 := wrap_i64 (by omega) (by omega)
        have hget:l[k]?=some l[k]:=List.getElem?_eq_getElem hlt
        rw [zEb l k out hlt] at gs
        by_cases h1024:k=1024
        · rw [if_pos h1024] at gs
          subst h1024
          simp [zbq,g12,g11,g10,g5,hlt,show (1024:Int) < l.length by omega,zcZ,asI,hget,zaf,zbG,zau,zah]
          exact ⟨⟨_,_,rfl⟩,by rw [gs],by rw [gs];rfl,by rw [gs]⟩
        · rw [if_neg h1024] at gs
          have b1024:((k:Int)==1024)=false:=beq_false_of_ne (by omega)
          by_cases hc:chk l[k]=0
          · rw [if_pos hc] at gs
            have hsz:=(zo2 hc).2.2.2.2.2.2
            have hroom:out.length+(8+l[k].label.size) < 274877906944:=by omega
            simp [zbq,g12,g11,g10,g5,hlt,show (k:Int) < l.length by omega,zcZ,asI,hget,zaf,zbG,zau,zah,b1024,zxa,hc,zpQ,zas,hroom,w1]
            exact ⟨_,out++zH1 l[k],rfl,rfl,gs,by simp;omega⟩
          · rw [if_neg hc] at gs
            have bc:(chk l[k]==0)=false:=beq_false_of_ne hc
            simp [zbq,g12,g11,g10,g5,hlt,show (k:Int) < l.length by omega,zcZ,asI,hget,zaf,zbG,zau,zah,b1024,zxa,hc,bne,bc]
            exact ⟨⟨_,_,rfl⟩,by rw [gs],by rw [gs],by rw [gs]⟩
      · have : k = l.length := by omega
        subst this
        simp [zbq,g12,g11,g5]
        exact ⟨⟨_,_,rfl⟩,out,by rw [gs];simp [znp],rfl⟩)
  exact ⟨e,fr',bs,ts,rfl,hp⟩
theorem zLT (L:Lim) (h:zab) (l:List It) (hn:l.length≤2000):
    zag ctx L zc4 [.vsl false (l.map It.cells)] h=some (.tup [.vsl false (eI .u8 (znp l 0 []).1),.int .i64 (znp l 0 []).2.1,.int .i64 (znp l 0 []).2.2],h):=by
  rw [zkW]
  simp [zeV, -List.map_take]
  generalize hF:run ctx _ (.loop _) _ _=R
  obtain ⟨e,fr',bs,ts,rfl,⟨rfl,out,e1,e2⟩ | ⟨rfl,e1,e2,e3,e4⟩⟩:=zFO l hn hF (by simp) (by simp) (by simp) (by simp)
  · rw [e1];simp [e2,zoN]
  · rw [e2];simp [e1,e3,e4]
end Go.Av
namespace Go.Av
theorem zC0 (k m:Nat):(k:Int).tmod (m:Int)=((k % m:Nat):Int):=by rw [Int.tmod_eq_emod_of_nonneg (by omega)];omega
theorem zyx (k m:Nat):(k:Int).tdiv (m:Int)=((k / m:Nat):Int):=by rw [Int.tdiv_eq_ediv_of_nonneg (by omega)];omega
theorem zPK (k:Nat):(k:Int).tdiv 2=((k / 2:Nat):Int):=zyx k 2
theorem zij (n:Nat) (h:n < 9223372036854775808):IntKind.i64.wrap (n:Int)=n:=wrap_i64 (by omega) (by omega)
def inB (l:List Int):Prop:=∀ i,i < l.length→0≤gd l 0 i∧gd l 0 i < 256
theorem zlD {α:Type} (l:List α) (d v:α) (i j:Nat) (hi:i < l.length):gd (l.set i v) d j=if i=j then v else gd l d j:=by
  unfold gd
  simp only [List.getD,List.getElem?_set]
  split <;> simp_all
theorem zDU {α:Type} (l m:List α) (d:α) (j:Nat) (hj:j < l.length):gd (l++m) d j=gd l d j:=by
  unfold gd;simp only [List.getD,List.getElem?_append_left hj]
theorem zDI {α:Type} (l m:List α) (d:α) (j:Nat) (hj:l.length≤j):gd (l++m) d j=gd m d (j - l.length):=by
  unfold gd;simp only [List.getD,List.getElem?_append_right hj]
theorem zH2 (v:Nat) (hv:v < 256):(bw (v:Int)).toNat=v:=by unfold bw;rw [BitVec.toNat_ofInt];omega
def leN:List Int→Nat
  | []=>0
  | x :: l=>x.toNat+256*leN l
theorem zui {l : List Int} (h : inB l) : ∀ x ∈ l, 0 ≤ x ∧ x < 256 := fun x hx => by
  obtain ⟨i,hi,rfl⟩:=List.getElem_of_mem hx
  have:=h i hi
  rwa [gd,List.getD,List.getElem?_eq_getElem hi] at this
theorem zuj {l : List Int} (h : ∀ x ∈ l, 0 ≤ x ∧ x < 256) : inB l := fun i hi => by
  rw [gd,List.getD,List.getElem?_eq_getElem hi];exact h _ (List.getElem_mem hi)
theorem zzN:∀ {l:List Int},inB l→leN l < 256 ^ l.length
  | [],_=>by simp [leN]
  | x :: l, h => by
    have h1:=zui h x (by simp)
    have h2:=zzN (zuj (l:=l) fun y hy=>zui h y (by simp [hy]))
    simp only [leN,List.length_cons,Nat.pow_succ]
    omega
theorem zvz:∀ (l:List Int) (x:Int),leN (l++[x])=leN l+x.toNat*256 ^ l.length
  | [],x=>by simp [leN]
  | y :: l, x => by
    simp only [List.cons_append,leN,zvz l x,List.length_cons,Nat.pow_succ,Nat.mul_add,Nat.add_assoc,Nat.mul_comm,Nat.mul_left_comm]
theorem zmh {l:List Int} (h:inB l) (n:Nat):inB (l.take n):=zuj fun x hx=>zui h x (List.mem_of_mem_take hx)
theorem zre {l:List Int} (h:inB l) (n:Nat):inB (l.drop n):=zuj fun x hx=>zui h x (List.mem_of_mem_drop hx)
def bck (b:List Int) (q k:Nat):List Int:=(b.take (min k (8*q+8))).drop (8*q)
theorem zJ4 (b:List Int) (q k:Nat) (hk:k≤b.length):(bck b q k).length=min k (8*q+8) - 8*q:=by simp [bck];omega
def wdP (b:List Int) (n:Nat):Nat→List W64
  | 0=>tab n fun _=>0#64
  | k+1=>(wdP b n k).set (k / 8) (gd (wdP b n k) 0#64 (k / 8)|||(bw (gd b 0 k) <<< (8*(k % 8))))
@[simp] theorem zvA (b:List Int) (n:Nat):∀ k,(wdP b n k).length=n
  | 0=>by simp [wdP]
  | k+1=>by simp [wdP,zvA b n k]
theorem zNe (w:W64) (v m:Nat) (hv:v < 256) (hm:m < 8) (hw:w.toNat < 256 ^ m):(w|||(bw (v:Int) <<< (8*m))).toNat=w.toNat+v*256 ^ m:=by
  have e:256 ^ m=2 ^ (8*m):=by rw [show (256:Nat)=2 ^ 8 from rfl,← Nat.pow_mul]
  rw [e] at hw ⊢
  have h8:(2:Nat) ^ (8*m)*256≤2 ^ 64:=by
    rw [show (256:Nat)=2 ^ 8 from rfl,← Nat.pow_add];exact Nat.pow_le_pow_right (by decide) (by omega)
  have hlt:v <<< (8*m) < 2 ^ 64:=by
    rw [Nat.shiftLeft_eq]
    calc v*2 ^ (8*m) < 256*2 ^ (8*m):=Nat.mul_lt_mul_of_pos_right hv (Nat.two_pow_pos _)
      _≤2 ^ 64:=by rw [Nat.mul_comm];exact h8
  rw [BitVec.toNat_or,BitVec.toNat_shiftLeft,zH2 v hv,Nat.mod_eq_of_lt hlt,Nat.or_comm,← Nat.shiftLeft_add_eq_or_of_lt hw,Nat.shiftLeft_eq,Nat.add_comm]
theorem zEj (b:List Int) (hb:inB b) (n:Nat):∀ k,k≤b.length→k≤8*n→∀ q,q < n→(gd (wdP b n k) 0#64 q).toNat=leN (bck b q k)
  | 0,_,_,q,hq=>by rw [wdP,zk6 hq];simp [bck,leN]
  | k + 1, hk, hn, q, hq => by
    have ih:=zEj b hb n k (by omega) (by omega) q hq
    have hlen:=zJ4 b q k (by omega)
    have hlt:=zzN (zre (zmh hb (min k (8*q+8))) (8*q))
    have hbk:=hb k (by omega)
    rw [wdP]
    rw [zlD _ _ _ _ _ (by simp;omega)]
    by_cases h:k / 8=q
    · rw [if_pos h,h]
      obtain ⟨v,hv⟩:∃ v:Nat,gd b 0 k=(v:Int):=⟨(gd b 0 k).toNat,by omega⟩
      have hm:(bck b q k).length=k % 8:=by rw [hlen];omega
      have hsn:bck b q (k+1)=bck b q k++[gd b 0 k]:=by
        unfold bck
        rw [show min (k+1) (8*q+8)=k+1 by omega,show min k (8*q+8)=k by omega,zlz 0 (by omega),List.drop_append_of_le_length (by simp;omega)]
      rw [hsn,zvz,hm,← ih,hv,zNe _ v _ (by omega) (by omega) ?_]
      · simp
      · rw [ih,← hm];exact hlt
    · rw [if_neg h,ih]
      congr 1
      unfold bck
      by_cases h2:k < 8*q
      · rw [List.drop_eq_nil_of_le (by simp;omega),List.drop_eq_nil_of_le (by simp;omega)]
      · rw [show min (k+1) (8*q+8)=min k (8*q+8) by omega]
end Go.Av
namespace Go.Av
def val:List W64→Nat
  | []=>0
  | w :: l=>w.toNat+18446744073709551616*val l
def pN:Nat:=21888242871839275222246405745257275088548364400416034343698204186575808495617
def rN:Nat:=115792089237316195423570985008687907853269984665640564039457584007913129639936
def pW:List W64:=[0x43e1f593f0000001#64,0x2833e84879b97091#64,0xb85045b68181585d#64,0x30644e72e131a029#64]
def zsB:W64:=14042775128853446655#64
theorem zNm:val pW=pN:=by decide +kernel
theorem zPO:(1+zsB.toNat*(0x43e1f593f0000001:Nat)) % 18446744073709551616=0:=by decide +kernel
def w4 (x:Nat):List W64:=[BitVec.ofNat 64 x,BitVec.ofNat 64 (x / 18446744073709551616),BitVec.ofNat 64 (x / 340282366920938463463374607431768211456),BitVec.ofNat 64 (x / 6277101735386680763835789423207666416102355444464034512896)]
@[simp] theorem zo6 (x:Nat):(w4 x).length=4:=rfl
theorem zxc (x:Nat) (h:x < rN):val (w4 x)=x:=by
  simp only [w4,val,BitVec.toNat_ofNat]
  unfold rN at h
  omega
theorem znR {l:List W64} (h:l.length=4):∃ a b c d,l=[a,b,c,d]:=by
  match l,h with
  | [a,b,c,d],_=>exact ⟨a,b,c,d,rfl⟩
theorem zEo {l:List W64} (h:l.length=5):∃ a b c d e,l=[a,b,c,d,e]:=by
  match l,h with
  | [a,b,c,d,e],_=>exact ⟨a,b,c,d,e,rfl⟩
theorem zyI {l:List W64} (h:l.length=4):val l < rN:=by
  obtain ⟨a,b,c,d,rfl⟩:=znR h
  have:=a.isLt;have:=b.isLt;have:=c.isLt;have:=d.isLt
  simp only [val];unfold rN;omega
theorem zEq {l:List W64} (h:l.length=4):w4 (val l)=l:=by
  obtain ⟨a,b,c,d,rfl⟩:=znR h
  have h1:=a.isLt;have h2:=b.isLt;have h3:=c.isLt;have h4:=d.isLt
  have e : ∀ (w : W64) (n : Nat), n % 18446744073709551616 = w.toNat → BitVec.ofNat 64 n = w := fun w n hn => by
    apply BitVec.eq_of_toNat_eq
    rw [BitVec.toNat_ofNat];exact hn
  simp only [val,w4]
  rw [e a _ (by omega),e b _ (by omega),e c _ (by omega),e d _ (by omega)]
def lnL (a x y c:W64):W64:=BitVec.ofNat 64 (a.toNat+x.toNat*y.toNat+c.toNat)
def lnH (a x y c:W64):W64:=BitVec.ofNat 64 ((a.toNat+x.toNat*y.toNat+c.toNat) / 18446744073709551616)
theorem zsD (a x y c:W64):(lnL a x y c).toNat+18446744073709551616*(lnH a x y c).toNat=a.toNat+x.toNat*y.toNat+c.toNat:=by
  have h1:=a.isLt;have h2:=x.isLt;have h3:=y.isLt;have h4:=c.isLt
  have h5:x.toNat*y.toNat≤18446744073709551615*18446744073709551615:=Nat.mul_le_mul (by omega) (by omega)
  simp only [lnL,lnH,BitVec.toNat_ofNat]
  omega
def zdc (t:List W64) (x:W64) (b:List W64):Nat→List W64 × W64
  | 0=>(t,0#64)
  | j+1=>((zdc t x b j).1.set j (lnL (gd (zdc t x b j).1 0#64 j) x (gd b 0#64 j) (zdc t x b j).2),lnH (gd (zdc t x b j).1 0#64 j) x (gd b 0#64 j) (zdc t x b j).2)
def znT (t:List W64) (k:W64):Nat→List W64 × W64
  | 0=>(t,lnH (gd t 0#64 0) k (gd pW 0#64 0) 0#64)
  | j+1=>((znT t k j).1.set j (lnL (gd (znT t k j).1 0#64 (j+1)) k (gd pW 0#64 (j+1)) (znT t k j).2),lnH (gd (znT t k j).1 0#64 (j+1)) k (gd pW 0#64 (j+1)) (znT t k j).2)
def adS (t:List W64) (c:W64):List W64:=t.set 4 (gd t 0#64 4+c)
def zLa (u:List W64) (c:W64):List W64:=(u.set 3 (BitVec.ofNat 64 ((gd u 0#64 4).toNat+c.toNat))).set 4 (BitVec.ofNat 64 (((gd u 0#64 4).toNat+c.toNat) / 18446744073709551616))
def zqq (t:List W64) (x:W64) (b:List W64):List W64:=
  zLa (znT (adS (zdc t x b 4).1 (zdc t x b 4).2) (gd (adS (zdc t x b 4).1 (zdc t x b 4).2) 0#64 0*zsB) 3).1 (znT (adS (zdc t x b 4).1 (zdc t x b 4).2) (gd (adS (zdc t x b 4).1 (zdc t x b 4).2) 0#64 0*zsB) 3).2
def ziT (a b:List W64):Nat→List W64
  | 0=>tab 5 fun _=>0#64
  | i+1=>zqq (ziT a b i) (gd a 0#64 i) b
@[simp] theorem zj9 (t:List W64) (x:W64) (b:List W64):∀ j,(zdc t x b j).1.length=t.length
  | 0=>rfl
  | j+1=>by simp [zdc,zj9 t x b j]
@[simp] theorem zvc (t:List W64) (k:W64):∀ j,(znT t k j).1.length=t.length
  | 0=>rfl
  | j+1=>by simp [znT,zvc t k j]
@[simp] theorem zI8 (t:List W64) (c:W64):(adS t c).length=t.length:=by simp [adS]
@[simp] theorem zN1 (t:List W64) (c:W64):(zLa t c).length=t.length:=by simp [zLa]
@[simp] theorem zKK (t:List W64) (x:W64) (b:List W64):(zqq t x b).length=t.length:=by simp [zqq]
@[simp] theorem zlB (a b:List W64):∀ i,(ziT a b i).length=5
  | 0=>rfl
  | i+1=>by simp [ziT,zlB a b i]
theorem zJa (t0 t1 t2 t3 t4 x b0 b1 b2 b3:W64):∃ l0 l1 l2 l3 c,zdc [t0,t1,t2,t3,t4] x [b0,b1,b2,b3] 4=([l0,l1,l2,l3,t4],c)∧
    l0.toNat+18446744073709551616*(l1.toNat+18446744073709551616*(l2.toNat+18446744073709551616*(l3.toNat+18446744073709551616*c.toNat)))=
      t0.toNat+18446744073709551616*(t1.toNat+18446744073709551616*(t2.toNat+18446744073709551616*t3.toNat))+x.toNat*val [b0,b1,b2,b3]:=by
  refine ⟨_,_,_,_,_,rfl,?_⟩
  simp only [gd,List.getD_cons_zero,List.getD_cons_succ,List.set_cons_zero,List.set_cons_succ,zdc]
  have q0:=zsD t0 x b0 0#64
  generalize lnL t0 x b0 0#64=l0 at*
  generalize lnH t0 x b0 0#64=c0 at*
  have q1:=zsD t1 x b1 c0
  generalize lnL t1 x b1 c0=l1 at*
  generalize lnH t1 x b1 c0=c1 at*
  have q2:=zsD t2 x b2 c1
  generalize lnL t2 x b2 c1=l2 at*
  generalize lnH t2 x b2 c1=c2 at*
  have q3:=zsD t3 x b3 c2
  generalize lnL t3 x b3 c2=l3 at*
  generalize lnH t3 x b3 c2=c3 at*
  simp only [val,Nat.mul_add,Nat.mul_zero,Nat.add_zero,BitVec.toNat_zero] at*
  have e1:x.toNat*(18446744073709551616*b1.toNat)=18446744073709551616*(x.toNat*b1.toNat):=by rw [Nat.mul_left_comm]
  have e2:x.toNat*(18446744073709551616*(18446744073709551616*b2.toNat))=18446744073709551616*(18446744073709551616*(x.toNat*b2.toNat)):=by rw [Nat.mul_left_comm,Nat.mul_left_comm x.toNat]
  have e3:x.toNat*(18446744073709551616*(18446744073709551616*(18446744073709551616*b3.toNat)))=18446744073709551616*(18446744073709551616*(18446744073709551616*(x.toNat*b3.toNat))):=by
    rw [Nat.mul_left_comm,Nat.mul_left_comm x.toNat,Nat.mul_left_comm x.toNat]
  rw [e1,e2,e3]
  generalize x.toNat*b0.toNat=m0 at*
  generalize x.toNat*b1.toNat=m1 at*
  generalize x.toNat*b2.toNat=m2 at*
  generalize x.toNat*b3.toNat=m3 at*
  omega
theorem zJc (t0 t1 t2 t3 t4:W64):∃ r0 r1 r2 t3' c,znT [t0,t1,t2,t3,t4] (t0*zsB) 3=([r0,r1,r2,t3',t4],c)∧
    18446744073709551616*(r0.toNat+18446744073709551616*(r1.toNat+18446744073709551616*(r2.toNat+18446744073709551616*c.toNat)))=
      t0.toNat+18446744073709551616*(t1.toNat+18446744073709551616*(t2.toNat+18446744073709551616*t3.toNat))+(t0*zsB).toNat*pN:=by
  refine ⟨_,_,_,_,_,rfl,?_⟩
  have hk:(t0.toNat+(t0*zsB).toNat*0x43e1f593f0000001) % 18446744073709551616=0:=by
    rw [BitVec.toNat_mul]
    have:=zPO
    rw [show zsB.toNat=14042775128853446655 from rfl] at this ⊢
    omega
  generalize t0*zsB=k at*
  simp only [gd,List.getD_cons_zero,List.getD_cons_succ,List.set_cons_zero,List.set_cons_succ,znT,pW]
  have q0:=zsD t0 k 0x43e1f593f0000001#64 0#64
  generalize lnL t0 k 0x43e1f593f0000001#64 0#64=l0 at*
  generalize lnH t0 k 0x43e1f593f0000001#64 0#64=c0 at*
  have q1:=zsD t1 k 0x2833e84879b97091#64 c0
  generalize lnL t1 k 0x2833e84879b97091#64 c0=l1 at*
  generalize lnH t1 k 0x2833e84879b97091#64 c0=c1 at*
  have q2:=zsD t2 k 0xb85045b68181585d#64 c1
  generalize lnL t2 k 0xb85045b68181585d#64 c1=l2 at*
  generalize lnH t2 k 0xb85045b68181585d#64 c1=c2 at*
  have q3:=zsD t3 k 0x30644e72e131a029#64 c2
  generalize lnL t3 k 0x30644e72e131a029#64 c2=l3 at*
  generalize lnH t3 k 0x30644e72e131a029#64 c2=c3 at*
  have z0:l0.toNat < 18446744073709551616:=l0.isLt
  rw [show (0x43e1f593f0000001#64:W64).toNat=0x43e1f593f0000001 from rfl,show (0#64:W64).toNat=0 from rfl] at q0
  rw [show (0x2833e84879b97091#64:W64).toNat=0x2833e84879b97091 from rfl] at q1
  rw [show (0xb85045b68181585d#64:W64).toNat=0xb85045b68181585d from rfl] at q2
  rw [show (0x30644e72e131a029#64:W64).toNat=0x30644e72e131a029 from rfl] at q3
  have hl0:l0.toNat=0:=by omega
  unfold pN
  omega
theorem zDo {t b:List W64} (ht:t.length=5) (hb:b.length=4) (x:W64) (h1:val t < 2*pN) (h2:val b < pN):
    ∃ k,18446744073709551616*val (zqq t x b)=val t+x.toNat*val b+k*pN∧val (zqq t x b) < 2*pN:=by
  obtain ⟨t0,t1,t2,t3,t4,rfl⟩:=zEo ht
  obtain ⟨b0,b1,b2,b3,rfl⟩:=znR hb
  obtain ⟨l0,l1,l2,l3,c,e1,q1⟩:=zJa t0 t1 t2 t3 t4 x b0 b1 b2 b3
  have hx:=x.isLt
  have hm:x.toNat*val [b0,b1,b2,b3]≤18446744073709551615*(pN - 1):=Nat.mul_le_mul (by omega) (by omega)
  unfold zqq
  rw [e1]
  simp only [adS,gd,List.getD_cons_zero,List.getD_cons_succ,List.set_cons_zero,List.set_cons_succ]
  generalize val [b0,b1,b2,b3]=vb at*
  obtain ⟨r0,r1,r2,t3',c',e2,q2⟩:=zJc l0 l1 l2 l3 (t4+c)
  rw [e2]
  have hkl:(l0*zsB).toNat≤18446744073709551615:=by have:=(l0*zsB).isLt;omega
  have hkp:(l0*zsB).toNat*pN≤18446744073709551615*pN:=Nat.mul_le_mul_right _ hkl
  refine ⟨(l0*zsB).toNat,?_⟩
  generalize (l0*zsB).toNat*pN=kp at*
  generalize x.toNat*vb=m at*
  have h4:=t4.isLt;have hc:=c.isLt;have hc':=c'.isLt
  have z0:=l0.isLt;have z1:=l1.isLt;have z2:=l2.isLt;have z3:=l3.isLt
  have y0:=r0.isLt;have y1:=r1.isLt;have y2:=r2.isLt
  simp only [val,Nat.mul_zero,Nat.add_zero,pN] at h1 hm hkp
  have e4:(t4+c).toNat=t4.toNat+c.toNat:=by
    rw [BitVec.toNat_add]
    omega
  simp only [zLa,gd,List.getD_cons_zero,List.getD_cons_succ,List.set_cons_zero,List.set_cons_succ,val,BitVec.toNat_ofNat,e4,Nat.mul_zero,Nat.add_zero,pN]
  omega
theorem zzp:∀ (l:List W64) (w:W64),val (l++[w])=val l+w.toNat*18446744073709551616 ^ l.length
  | [],w=>by simp [val]
  | a :: l, w => by
    simp only [List.cons_append,val,zzp l w,List.length_cons,Nat.pow_succ,Nat.mul_add,Nat.add_assoc,Nat.mul_comm,Nat.mul_left_comm]
theorem zzq {a b:List W64} (ha:a.length=4) (hb:b.length=4) (h2:val b < pN):∀ i,i≤4→val (ziT a b i) < 2*pN∧∃ k,18446744073709551616 ^ i*val (ziT a b i)=val (a.take i)*val b+k*pN
  | 0, _ => by
    have h0:val (ziT a b 0)=0:=(show val (tab 5 fun _=>0#64)=0 by decide +kernel)
    exact ⟨by rw [h0];decide +kernel,0,by rw [h0];simp [val]⟩
  | i + 1, hi => by
    obtain ⟨h3,k,hk⟩:=zzq ha hb h2 i (by omega)
    obtain ⟨k',hk',hlt⟩:=zDo (zlB a b i) hb (gd a 0#64 i) h3 h2
    refine ⟨hlt,k+k'*18446744073709551616 ^ i,?_⟩
    have hil:i < a.length:=by omega
    rw [zlz 0#64 hil,zzp,List.length_take,Nat.min_eq_left (by omega)]
    show 18446744073709551616 ^ (i+1)*val (zqq (ziT a b i) (gd a 0#64 i) b)=_
    rw [Nat.pow_succ,Nat.mul_assoc,hk']
    generalize 18446744073709551616 ^ i=q at*
    generalize val (ziT a b i)=v at*
    generalize val b=vb at*
    generalize (gd a 0#64 i).toNat=g at*
    generalize val (a.take i)=va at*
    grind
end Go.Av
namespace Go.Av
def zHa:Nat:=9915499612839321149637521777990102151350674507940716049588462388200839649614
theorem zMn:rN*zHa % pN=1:=by decide +kernel
def zyu (a b:Nat):Nat:=a*b*zHa % pN
theorem zxb:0 < pN:=by decide
def zt4 (x:Nat):Nat:=if x < pN then x else x - pN
theorem zvg {x:Nat} (h:x < 2*pN):zt4 x=x % pN:=by
  unfold zt4
  split
  · rw [Nat.mod_eq_of_lt (by assumption)]
  · rw [Nat.mod_eq_sub_mod (by omega),Nat.mod_eq_of_lt (by omega)]
theorem zJi {x:Nat} (h:x < 2*pN):zt4 x < pN:=by rw [zvg h];exact Nat.mod_lt _ zxb
theorem zAH {a b:List W64} (ha:a.length=4) (hb:b.length=4) (h2:val b < pN):val ((ziT a b 4).take 4) < 2*pN∧zt4 (val ((ziT a b 4).take 4))=zyu (val a) (val b):=by
  obtain ⟨h3,k,hk⟩:=zzq ha hb h2 4 (by omega)
  have h4:=zlB a b 4
  generalize ziT a b 4=t at*
  obtain ⟨t0,t1,t2,t3,t4,rfl⟩:=zEo h4
  have e4:t4.toNat=0:=by
    simp only [val,pN] at h3
    omega
  have e5:val (List.take 4 [t0,t1,t2,t3,t4])=val [t0,t1,t2,t3,t4]:=by
    simp [val,e4]
  rw [e5]
  refine ⟨h3,?_⟩
  rw [List.take_of_length_le (by omega)] at hk
  have hb':=zJi h3
  have hm:=zvg h3
  have hdiv:=Nat.div_add_mod (val [t0,t1,t2,t3,t4]) pN
  generalize val [t0,t1,t2,t3,t4]=v at*
  rw [← hm] at hdiv
  rw [show (18446744073709551616:Nat) ^ 4=rN from rfl] at hk
  have hrp:rN*zt4 v+rN*(pN*(v / pN))=val a*val b+k*pN:=by rw [← Nat.mul_add,Nat.add_comm (zt4 v),hdiv];exact hk
  have h5:rN*zt4 v % pN=val a*val b % pN:=by
    have e1:(rN*zt4 v+rN*(pN*(v / pN))) % pN=rN*zt4 v % pN:=by
      rw [show rN*(pN*(v / pN))=(rN*(v / pN))*pN by rw [Nat.mul_left_comm,Nat.mul_comm]]
      exact Nat.add_mul_mod_self_right _ _ _
    rw [← e1,hrp,Nat.add_mul_mod_self_right]
  unfold zyu
  calc zt4 v=zt4 v % pN:=(Nat.mod_eq_of_lt hb').symm
    _=(1*zt4 v) % pN:=by rw [Nat.one_mul]
    _=(rN*zHa % pN*zt4 v) % pN:=by rw [zMn]
    _=(rN*zHa*zt4 v) % pN:=by rw [Nat.mod_mul_mod]
    _=(rN*zt4 v*zHa) % pN:=by rw [Nat.mul_right_comm]
    _=(rN*zt4 v % pN*zHa) % pN:=by rw [Nat.mod_mul_mod]
    _=(val a*val b % pN*zHa) % pN:=by rw [h5]
    _=val a*val b*zHa % pN:=by rw [Nat.mod_mul_mod]
def fe (x:Nat):List W64:=w4 (x*rN % pN)
@[simp] theorem zzt (x:Nat):(fe x).length=4:=rfl
theorem zMs (x:Nat):val (fe x)=x*rN % pN:=zxc _ (Nat.lt_trans (Nat.mod_lt _ zxb) (by decide))
theorem zHS (x:Nat):x*rN % pN*zHa % pN=x % pN:=by
  rw [Nat.mod_mul_mod,Nat.mul_assoc,← Nat.mul_mod_mod,zMn,Nat.mul_one]
theorem zJs (a:Nat):zyu a (rN*rN % pN)=a*rN % pN:=by
  unfold zyu
  rw [Nat.mul_assoc,← Nat.mul_mod_mod,zHS,Nat.mul_mod_mod]
theorem zGw (x:Nat):zyu (val (fe x)) 1=x % pN:=by
  unfold zyu
  rw [zMs,Nat.mul_one,zHS]
end Go.Av
namespace Go.Av
theorem wd0:zaa.int .u64 0=wd 0#64:=rfl
theorem wd1:zaa.int .u64 1=wd 1#64:=rfl
def adL (x y c:W64):W64:=BitVec.ofNat 64 (x.toNat+y.toNat+c.toNat)
def adH (x y c:W64):W64:=BitVec.ofNat 64 ((x.toNat+y.toNat+c.toNat) / 18446744073709551616)
def sbL (x y c:W64):W64:=BitVec.ofNat 64 (x.toNat+18446744073709551616 - y.toNat - c.toNat)
def sbH (x y c:W64):W64:=if x.toNat < y.toNat+c.toNat then 1#64 else 0#64
theorem zyj (x y c:W64) (hc:c.toNat≤1):(adL x y c).toNat+18446744073709551616*(adH x y c).toNat=x.toNat+y.toNat+c.toNat∧(adH x y c).toNat≤1:=by
  have h1:=x.isLt;have h2:=y.isLt
  simp only [adL,adH,BitVec.toNat_ofNat]
  omega
theorem zu9 (x y c:W64) (hc:c.toNat≤1):(sbL x y c).toNat+y.toNat+c.toNat=x.toNat+18446744073709551616*(sbH x y c).toNat∧(sbH x y c).toNat≤1:=by
  have h1:=x.isLt;have h2:=y.isLt
  simp only [sbL,sbH,BitVec.toNat_ofNat]
  split
  · rw [show (1#64:W64).toNat=1 from rfl];omega
  · rw [show (0#64:W64).toNat=0 from rfl];omega
theorem zme (L:Lim) (h:zab) (x y c:W64) (hc:decide (c.toNat≤1)=true):zag ctx L zaH [wd x,wd y,wd c] h=some (.tup [wd (adL x y c),wd (adH x y c)],h):=by
  have hc':c.toNat≤1:=by simpa using hc
  have:=zD3 (L:=L) (h:=h) znb x y c.toNat hc'
  rw [show zaa.int .u64 (c.toNat:Int)=wd c from rfl] at this
  rw [this]
  have h1:=x.isLt;have h2:=y.isLt
  rw [zLv _ (by omega)]
  rfl
theorem zzn (L:Lim) (h:zab) (x y c:W64) (hc:decide (c.toNat≤1)=true):zag ctx L zbX [wd x,wd y,wd c] h=some (.tup [wd (sbL x y c),wd (sbH x y c)],h):=by
  have hc':c.toNat≤1:=by simpa using hc
  have:=zD5 (L:=L) (h:=h) znc x y c.toNat hc'
  rw [show zaa.int .u64 (c.toNat:Int)=wd c from rfl] at this
  rw [this]
  unfold sbL sbH
  split <;> rfl
def zL4 (x y:W64):W64:=BitVec.ofNat 64 (x.toNat*y.toNat / 18446744073709551616)
theorem zIZ (x y:W64):(x >>> 32)*(y >>> 32)+(((x >>> 32)*(y&&&4294967295#64)+((x&&&4294967295#64)*(y&&&4294967295#64)) >>> 32) >>> 32) +
    ((((x >>> 32)*(y&&&4294967295#64)+((x&&&4294967295#64)*(y&&&4294967295#64)) >>> 32)&&&4294967295#64)+(x&&&4294967295#64)*(y >>> 32)) >>> 32=zL4 x y:=by
  have hm : ∀ w : W64, (w &&& 4294967295#64).toNat = w.toNat % 4294967296 := fun w => by
    rw [BitVec.toNat_and,show (4294967295#64:W64).toNat=2 ^ 32 - 1 from rfl,Nat.and_two_pow_sub_one_eq_mod]
  have hs : ∀ w : W64, (w >>> 32).toNat = w.toNat / 4294967296 := fun w => by
    rw [BitVec.toNat_ushiftRight,Nat.shiftRight_eq_div_pow]
  apply BitVec.eq_of_toNat_eq
  simp only [zL4,BitVec.toNat_add,BitVec.toNat_mul,hm,hs,BitVec.toNat_ofNat]
  have h1:=x.isLt;have h2:=y.isLt
  generalize x.toNat=a at*
  generalize y.toNat=b at*
  have ea:a=a / 4294967296*4294967296+a % 4294967296:=by omega
  have eb:b=b / 4294967296*4294967296+b % 4294967296:=by omega
  have b1:a / 4294967296≤4294967295:=by omega
  have b2:a % 4294967296≤4294967295:=by omega
  have b3:b / 4294967296≤4294967295:=by omega
  have b4:b % 4294967296≤4294967295:=by omega
  generalize a / 4294967296=a1 at*
  generalize a % 4294967296=a0 at*
  generalize b / 4294967296=b1' at*
  generalize b % 4294967296=b0 at*
  have em:a*b=a1*b1'*18446744073709551616+(a1*b0+a0*b1')*4294967296+a0*b0:=by
    subst ea eb;grind
  have c1:a1*b1'≤4294967295*4294967295:=Nat.mul_le_mul b1 b3
  have c2:a1*b0≤4294967295*4294967295:=Nat.mul_le_mul b1 b4
  have c3:a0*b1'≤4294967295*4294967295:=Nat.mul_le_mul b2 b3
  have c4:a0*b0≤4294967295*4294967295:=Nat.mul_le_mul b2 b4
  rw [em]
  generalize a1*b1'=p at*
  generalize a1*b0=q at*
  generalize a0*b1'=r at*
  generalize a0*b0=s at*
  omega
theorem zzo (L:Lim) (h:zab) (x y:W64):zag ctx L zcL [wd x,wd y] h=some (.tup [wd (zL4 x y),wd (x*y)],h):=by
  rw [zmn]
  have hm:zaa.int .u64 4294967295=wd 4294967295#64:=rfl
  have h32:∀ x:W64,zdX .shr (wd x) (.int .u64 32)=some (wd (x >>> 32)):=fun x=>zmT x .u64 32 (by decide)
  have e:=zIZ x y
  simp [zf0,hm,h32, -zdL]
  exact congrArg wd e
theorem zyl (L:Lim) (h:zab) (a x y c:W64):zag ctx L zeX [wd a,wd x,wd y,wd c] h=some (.tup [wd (lnL a x y c),wd (lnH a x y c)],h):=by
  rw [zsu]
  have h0:(0#64:W64).toNat=0:=rfl
  simp [zlN,zau,wd0,zzo,zme,h0]
  have h1:=a.isLt;have h2:=x.isLt;have h3:=y.isLt;have h4:=c.isLt
  have h5:x.toNat*y.toNat≤18446744073709551615*18446744073709551615:=Nat.mul_le_mul (by omega) (by omega)
  have e1:(x*y).toNat=x.toNat*y.toNat % 18446744073709551616:=by rw [BitVec.toNat_mul]
  constructor
  · congr 1
    apply BitVec.eq_of_toNat_eq
    simp only [lnL,adL,BitVec.toNat_ofNat,e1,h0]
    omega
  · congr 1
    apply BitVec.eq_of_toNat_eq
    simp only [lnH,adL,adH,zL4,BitVec.toNat_ofNat,BitVec.toNat_add,e1,h0]
    generalize x.toNat*y.toNat=m at*
    omega
theorem zF9:cW pW=[.int .u64 4891460686036598785,.int .u64 2896914383306846353,.int .u64 13281191951274694749,.int .u64 3486998266802970665]:=rfl
theorem zmf (L:Lim) (h:zab):zag ctx L zbP [] h=some (.agg (cW pW),h):=by
  rw [zqQ]
  simp [zj1,zau,zaR,zay,zbG,zah,zaf,zj0,zF9]
end Go.Av
namespace Go.Av
def plK (a b:List W64):Nat→List W64 × W64
  | 0=>(tab 4 fun _=>0#64,0#64)
  | k+1=>((plK a b k).1.set k (adL (gd a 0#64 k) (gd b 0#64 k) (plK a b k).2),adH (gd a 0#64 k) (gd b 0#64 k) (plK a b k).2)
def boK (a b:List W64):Nat→List W64 × W64
  | 0=>(tab 4 fun _=>0#64,0#64)
  | k+1=>((boK a b k).1.set k (sbL (gd a 0#64 k) (gd b 0#64 k) (boK a b k).2),sbH (gd a 0#64 k) (gd b 0#64 k) (boK a b k).2)
@[simp] theorem zyo (a b:List W64):∀ k,(plK a b k).1.length=4
  | 0=>rfl
  | k+1=>by simp [plK,zyo a b k]
@[simp] theorem zym (a b:List W64):∀ k,(boK a b k).1.length=4
  | 0=>rfl
  | k+1=>by simp [boK,zym a b k]
theorem zLX (a b:List W64):∀ k,(plK a b k).2.toNat≤1
  | 0=>by simp [plK]
  | k+1=>(zyj _ _ _ (zLX a b k)).2
theorem zIS (a b:List W64):∀ k,(boK a b k).2.toNat≤1
  | 0=>by simp [boK]
  | k+1=>(zu9 _ _ _ (zIS a b k)).2
theorem zFX (a b:List W64) (k:Nat):plK a b (k+1)=((plK a b k).1.set k (adL (gd a 0#64 k) (gd b 0#64 k) (plK a b k).2),adH (gd a 0#64 k) (gd b 0#64 k) (plK a b k).2):=by rw [plK]
theorem zFY (a b:List W64) (k:Nat):boK a b (k+1)=((boK a b k).1.set k (sbL (gd a 0#64 k) (gd b 0#64 k) (boK a b k).2),sbH (gd a 0#64 k) (gd b 0#64 k) (boK a b k).2):=by rw [boK]
theorem zIT (a b:List W64) (ha:a.length=4) (hb:b.length=4) (h:val a+val b < rN):(plK a b 4).1=w4 (val a+val b):=by
  obtain ⟨a0,a1,a2,a3,rfl⟩:=znR ha
  obtain ⟨b0,b1,b2,b3,rfl⟩:=znR hb
  rw [← zEq (zyo [a0,a1,a2,a3] [b0,b1,b2,b3] 4)]
  congr 1
  simp only [plK,gd,List.getD_cons_zero,List.getD_cons_succ,List.set_cons_zero,List.set_cons_succ,show tab 4 (fun _=>0#64)=[0#64,0#64,0#64,0#64] from rfl]
  have q0:=zyj a0 b0 0#64 (by decide)
  generalize adL a0 b0 0#64=l0 at*
  generalize adH a0 b0 0#64=c0 at*
  have q1:=zyj a1 b1 c0 q0.2
  generalize adL a1 b1 c0=l1 at*
  generalize adH a1 b1 c0=c1 at*
  have q2:=zyj a2 b2 c1 q1.2
  generalize adL a2 b2 c1=l2 at*
  generalize adH a2 b2 c1=c2 at*
  have q3:=zyj a3 b3 c2 q2.2
  generalize adL a3 b3 c2=l3 at*
  generalize adH a3 b3 c2=c3 at*
  have z0:=l0.isLt;have z1:=l1.isLt;have z2:=l2.isLt;have z3:=l3.isLt
  simp only [val,BitVec.toNat_zero,rN] at*
  omega
theorem zIV (a b:List W64) (ha:a.length=4) (hb:b.length=4):(boK a b 4).1=w4 (if val a < val b then val a+rN - val b else val a - val b)∧(boK a b 4).2=if val a < val b then 1#64 else 0#64:=by
  have hva:=zyI ha
  have hvb:=zyI hb
  obtain ⟨a0,a1,a2,a3,rfl⟩:=znR ha
  obtain ⟨b0,b1,b2,b3,rfl⟩:=znR hb
  have key:val (boK [a0,a1,a2,a3] [b0,b1,b2,b3] 4).1+val [b0,b1,b2,b3]=val [a0,a1,a2,a3] + rN*(boK [a0,a1,a2,a3] [b0,b1,b2,b3] 4).2.toNat:=by
    simp only [boK,gd,List.getD_cons_zero,List.getD_cons_succ,List.set_cons_zero,List.set_cons_succ,show tab 4 (fun _=>0#64)=[0#64,0#64,0#64,0#64] from rfl]
    have q0:=zu9 a0 b0 0#64 (by decide)
    generalize sbL a0 b0 0#64=l0 at*
    generalize sbH a0 b0 0#64=c0 at*
    have q1:=zu9 a1 b1 c0 q0.2
    generalize sbL a1 b1 c0=l1 at*
    generalize sbH a1 b1 c0=c1 at*
    have q2:=zu9 a2 b2 c1 q1.2
    generalize sbL a2 b2 c1=l2 at*
    generalize sbH a2 b2 c1=c2 at*
    have q3:=zu9 a3 b3 c2 q2.2
    generalize sbL a3 b3 c2=l3 at*
    generalize sbH a3 b3 c2=c3 at*
    simp only [val,BitVec.toNat_zero,rN] at*
    omega
  have hc:=zIS [a0,a1,a2,a3] [b0,b1,b2,b3] 4
  have hl:=zym [a0,a1,a2,a3] [b0,b1,b2,b3] 4
  have hv:=zyI hl
  generalize boK [a0,a1,a2,a3] [b0,b1,b2,b3] 4=q at*
  obtain ⟨l,c⟩:=q
  simp only at*
  generalize val [a0,a1,a2,a3]=va at*
  generalize val [b0,b1,b2,b3]=vb at*
  rw [← zEq hl]
  rcases (show c.toNat=0∨c.toNat=1 by omega) with h0 | h0
  · rw [h0,Nat.mul_zero] at key
    have h:¬va < vb:=by omega
    rw [if_neg h,if_neg h]
    exact ⟨congrArg w4 (by omega),BitVec.eq_of_toNat_eq h0⟩
  · rw [h0,Nat.mul_one] at key
    have h:va < vb:=by omega
    rw [if_pos h,if_pos h]
    exact ⟨congrArg w4 (by omega),BitVec.eq_of_toNat_eq h0⟩
theorem zC9 {fr:Fr} {h:zab} {R:Option (AEx × Fr × zab)} (a b:List W64) (ha:a.length=4) (hb:b.length=4)
    (hF:run ctx (zau h) (.loop zd1) fr (hx h [cW (plK a b 0).1] [])=R)
    (h2:fr 2=.vptr (cW a) 0) (h3:fr 3=.vptr (cW b) 0) (h4:fr 4=pA h.blks.length 0 0) (h5:fr 5=wd 0#64) (h7:fr 7=.int .i64 0):
    ∃ fr',R=some (.exit 0,fr',hx h [cW (plK a b 4).1] [])∧∀ t,t∉wr zd1→fr' t=fr t:=by
  obtain ⟨e,fr',h',rfl,⟨rfl,rfl⟩,hk⟩:=zaj hF 4
    (fun k fr hh=>fr 7=.int .i64 k∧fr 5=wd (plK a b k).2∧hh=hx h [cW (plK a b k).1] [])
    (fun e fr hh=>e=.exit 0∧hh=hx h [cW (plK a b 4).1] [])
    ⟨h7,h5,rfl⟩ (by
      rintro k fr1 hh hkN hkeep ⟨g7,g5,rfl⟩
      have g2:=(hkeep 2 (by decide)).trans h2
      have g3:=(hkeep 3 (by decide)).trans h3
      have g4:=(hkeep 4 (by decide)).trans h4
      by_cases hlt:k < 4
      · have w1 : IntKind.i64.wrap ((k : Int) + 1) = k + 1 := wrap_i64 (by omega) (by omega)
        have hc:=zLX a b k
        have hl:=zyo a b k
        have hst:=zFX a b k
        generalize plK a b k=q at*
        simp [zd1,zau,g7,g5,g2,g3,g4,hlt,show (k:Int) < 4 by omega,show k≤3 by omega,w1,zfT,zry,ha,hb,zme,hc,hl,hst]
      · have : k = 4 := by omega
        subst this
        simp [zd1,g7])
  exact ⟨fr',rfl,hk⟩
theorem zIW (L:Lim) (h:zab) (a b:List W64) (ha:a.length=4) (hb:b.length=4) (hs:val a+val b < rN):zag ctx L zgh [.agg (cW a),.agg (cW b)] h=some (.agg (cW (w4 (val a+val b))),h):=by
  rw [zrv]
  have e0:cW (tab 4 fun _=>0#64)=cW (plK a b 0).1:=rfl
  simp [zlR,zau,zbh,e0]
  generalize hF:run ctx _ (.loop _) _ _=R
  obtain ⟨fr1,rfl,hk1⟩:=zC9 a b ha hb hF (by simp) (by simp) (by simp) (by simp [wd0]) (by simp)
  simp [hk1,wr,zd1,zgI,zaf,zbG,zah,zIT a b ha hb hs]
theorem zyh {fr:Fr} {h:zab} {R:Option (AEx × Fr × zab)} (a b:List W64) (ha:a.length=4) (hb:b.length=4)
    (hF:run ctx (zau h) (.loop zcU) fr (hx h [cW (boK a b 0).1] [])=R)
    (h2:fr 2=.vptr (cW a) 0) (h3:fr 3=.vptr (cW b) 0) (h4:fr 4=pA h.blks.length 0 0) (h5:fr 5=wd 0#64) (h7:fr 7=.int .i64 0):
    ∃ fr',R=some (.exit 0,fr',hx h [cW (boK a b 4).1] [])∧fr' 5=wd (boK a b 4).2∧∀ t,t∉wr zcU→fr' t=fr t:=by
  obtain ⟨e,fr',h',rfl,⟨rfl,rfl,h5'⟩,hk⟩:=zaj hF 4
    (fun k fr hh=>fr 7=.int .i64 k∧fr 5=wd (boK a b k).2∧hh=hx h [cW (boK a b k).1] [])
    (fun e fr hh=>e=.exit 0∧hh=hx h [cW (boK a b 4).1] []∧fr 5=wd (boK a b 4).2)
    ⟨h7,h5,rfl⟩ (by
      rintro k fr1 hh hkN hkeep ⟨g7,g5,rfl⟩
      have g2:=(hkeep 2 (by decide)).trans h2
      have g3:=(hkeep 3 (by decide)).trans h3
      have g4:=(hkeep 4 (by decide)).trans h4
      by_cases hlt:k < 4
      · have w1 : IntKind.i64.wrap ((k : Int) + 1) = k + 1 := wrap_i64 (by omega) (by omega)
        have hc:=zIS a b k
        have hl:=zym a b k
        have hst:=zFY a b k
        have hS:=fun L h=>zzn L h (gd a 0#64 k) (gd b 0#64 k) (boK a b k).2 (by simpa using hc)
        generalize boK a b k=q at*
        generalize sbL (gd a 0#64 k) (gd b 0#64 k) q.2=u at*
        generalize sbH (gd a 0#64 k) (gd b 0#64 k) q.2=v at*
        simp -implicitDefEqProofs [zcU,zau,g7,g5,g2,g3,g4,hlt,show (k:Int) < 4 by omega,show k≤3 by omega,w1,zfT,zry,ha,hb,hS,hc,hl,hst]
      · have : k = 4 := by omega
        subst this
        simp [zcU,g7,g5])
  exact ⟨fr',rfl,h5',hk⟩
theorem zwy (L:Lim) (h:zab) (a b:List W64) (ha:a.length=4) (hb:b.length=4):zag ctx L zep [.agg (cW a),.agg (cW b)] h=
    some (.tup [.agg (cW (w4 (if val a < val b then val a+rN - val b else val a - val b))),wd (if val a < val b then 1#64 else 0#64)],h):=by
  rw [zpl]
  have e0:cW (tab 4 fun _=>0#64)=cW (boK a b 0).1:=rfl
  simp [ziS,zau,zbh,e0]
  generalize hF:run ctx _ (.loop _) _ _=R
  obtain ⟨fr1,rfl,h5,hk1⟩:=zyh a b ha hb hF (by simp) (by simp) (by simp) (by simp [wd0]) (by simp)
  obtain ⟨e1,e2⟩:=zIV a b ha hb
  rw [e2] at h5
  simp [hk1,h5,wr,zcU,zgI,zaf,zbG,zah,e1]
theorem zzj (L:Lim) (h:zab) (a:List W64) (ha:a.length=4):zag ctx L zdQ [.agg (cW a)] h=some (.agg (cW (w4 (zt4 (val a)))),h):=by
  rw [zqS]
  have hb:=fun L h=>zwy L h a pW ha rfl
  simp only [zNm] at hb
  by_cases hlt:val a < pN
  · simp only [if_pos hlt] at hb
    have he:(wd 1#64=zaa.int .u64 1):=rfl
    simp [zhr,zau,zbh,zmf,zaf,zbG,zah,hb,ha,he]
    rw [zt4,if_pos hlt,zEq ha]
  · simp only [if_neg hlt] at hb
    have he:(wd 0#64=zaa.int .u64 0):=rfl
    simp [zhr,zau,zbh,zmf,zaf,zbG,zah,hb,ha,he]
    rw [zt4,if_neg hlt]
end Go.Av
namespace Go.Av
def zEW:Nat→W64
  | 0=>1#64
  | k+1=>zEW k*(2#64 - 0x43e1f593f0000001#64*zEW k)
theorem zDa (k:Nat):zEW (k+1)=zEW k*(2#64 - 0x43e1f593f0000001#64*zEW k):=rfl
theorem zF1: -zEW 6=zsB:=by decide +kernel
theorem zwA {L:Lim} {fr:Fr} {H:zab} {R:Option (AEx × Fr × zab)} (hF:run ctx L (.loop zcl) fr H=R)
    (h1:fr 1=wd 0x43e1f593f0000001#64) (h2:fr 2=wd 1#64) (h5:fr 5=.int .i64 0):
    ∃ fr',R=some (.exit 0,fr',H)∧fr' 2=wd (zEW 6)∧∀ t,t∉wr zcl→fr' t=fr t:=by
  obtain ⟨e,fr',h',rfl,⟨rfl,rfl,h2'⟩,hk⟩:=zaj hF 6
    (fun k fr hh=>fr 5=.int .i64 k∧fr 2=wd (zEW k)∧hh=H)
    (fun e fr hh=>e=.exit 0∧hh=H∧fr 2=wd (zEW 6))
    ⟨h5,h2,rfl⟩ (by
      rintro k fr1 hh hkN hkeep ⟨g5,g2,rfl⟩
      have g1:=(hkeep 1 (by decide)).trans h1
      by_cases hlt:k < 6
      · have w1 : IntKind.i64.wrap ((k : Int) + 1) = k + 1 := wrap_i64 (by omega) (by omega)
        have e2:zaa.int .u64 2=wd 2#64:=rfl
        have hst:=zDa k
        generalize zEW k=q at*
        simp [zcl,g5,g2,g1,hlt,show (k:Int) < 6 by omega,w1,e2,hst]
      · have : k = 6 := by omega
        subst this
        simp [zcl,g5,g2])
  exact ⟨fr',rfl,h2',hk⟩
theorem zwB (x:W64):unA .neg (wd x)=some (wd (0#64 - x)):=by
  have:=zLx 0#64 x
  rw [← this]
  rfl
theorem zAz (L:Lim) (h:zab):zag ctx L zfi [] h=some (wd zsB,h):=by
  rw [zoZ]
  have hp:(cW pW)[0]?=some (wd 0x43e1f593f0000001#64):=rfl
  simp [zh2,zau,zmf,zOa,zae,hp]
  generalize hF:run ctx _ (.loop _) _ _=R
  obtain ⟨fr1,rfl,h2,hk1⟩:=zwA hF (by simp) (by simp [wd1]) (by simp)
  simp [hk1,h2,wr,zcl,zgI,zwB,zF1]
theorem zAA {fr:Fr} {h:zab} {R:Option (AEx × Fr × zab)} (t b:List W64) (x:W64) (z y:List zaa) (ht:t.length=5) (hb:b.length=4)
    (hF:run ctx (zau h) (.loop zaT) fr (hx h [z,y,cW t] [])=R)
    (h7:fr 7=pA h.blks.length 2 0) (h9:fr 9=wd x) (h10:fr 10=wd 0#64) (h21:fr 21=.agg (cW b)) (h22:fr 22=.int .i64 0):
    ∃ fr',R=some (.exit 2,fr',hx h [z,y,cW (zdc t x b 4).1] [])∧fr' 10=wd (zdc t x b 4).2∧∀ t,t∉wr zaT→fr' t=fr t:=by
  obtain ⟨e,fr',h',rfl,⟨rfl,rfl,h10'⟩,hk⟩:=zaj hF 4
    (fun k fr hh=>fr 22=.int .i64 k∧fr 10=wd (zdc t x b k).2∧hh=hx h [z,y,cW (zdc t x b k).1] [])
    (fun e fr hh=>e=.exit 2∧hh=hx h [z,y,cW (zdc t x b 4).1] []∧fr 10=wd (zdc t x b 4).2)
    ⟨h22,h10,rfl⟩ (by
      rintro k fr1 hh hkN hkeep ⟨g22,g10,rfl⟩
      have g7:=(hkeep 7 (by decide)).trans h7
      have g9:=(hkeep 9 (by decide)).trans h9
      have g21:=(hkeep 21 (by decide)).trans h21
      by_cases hlt:k < 4
      · have w1 : IntKind.i64.wrap ((k : Int) + 1) = k + 1 := wrap_i64 (by omega) (by omega)
        have hl:=zj9 t x b k
        have hst:zdc t x b (k+1)=((zdc t x b k).1.set k (lnL (gd (zdc t x b k).1 0#64 k) x (gd b 0#64 k) (zdc t x b k).2),lnH (gd (zdc t x b k).1 0#64 k) x (gd b 0#64 k) (zdc t x b k).2):=by rw [zdc]
        generalize zdc t x b k=q at*
        obtain ⟨u,c⟩:=q
        simp only at hl g10 hst
        have hl5:u.length=5:=hl.trans ht
        simp -implicitDefEqProofs [zaT,zau,g22,g10,g7,g9,g21,hlt,show (k:Int) < 4 by omega,show k≤3 by omega,show k < 5 by omega,show k≤4 by omega,w1,zfT,zxS,zae,hb,zyl,hl5,hst]
      · have : k = 4 := by omega
        subst this
        simp [zaT,g22,g10])
  exact ⟨fr',rfl,h10',hk⟩
theorem zAB {fr:Fr} {h:zab} {R:Option (AEx × Fr × zab)} (t:List W64) (kk:W64) (z:List zaa) (ht:t.length=5)
    (hF:run ctx (zau h) (.loop zbC) fr (hx h [z,cW pW,cW t] [])=R)
    (h5:fr 5=pA h.blks.length 1 0) (h7:fr 7=pA h.blks.length 2 0) (h13:fr 13=wd kk) (h10:fr 10=wd (znT t kk 0).2) (h14:fr 14=.int .i64 1):
    ∃ fr',R=some (.exit 4,fr',hx h [z,cW pW,cW (znT t kk 3).1] [])∧fr' 10=wd (znT t kk 3).2∧∀ t,t∉wr zbC→fr' t=fr t:=by
  obtain ⟨e,fr',h',rfl,⟨rfl,rfl,h10'⟩,hk⟩:=zaj hF 3
    (fun k fr hh=>fr 14=.int .i64 ((k+1:Nat):Int)∧fr 10=wd (znT t kk k).2∧hh=hx h [z,cW pW,cW (znT t kk k).1] [])
    (fun e fr hh=>e=.exit 4∧hh=hx h [z,cW pW,cW (znT t kk 3).1] []∧fr 10=wd (znT t kk 3).2)
    ⟨h14,h10,rfl⟩ (by
      rintro k fr1 hh hkN hkeep ⟨g14,g10,rfl⟩
      have g5:=(hkeep 5 (by decide)).trans h5
      have g7:=(hkeep 7 (by decide)).trans h7
      have g13:=(hkeep 13 (by decide)).trans h13
      by_cases hlt:k < 3
      · have hl:=zvc t kk k
        have hst:znT t kk (k+1)=((znT t kk k).1.set k (lnL (gd (znT t kk k).1 0#64 (k+1)) kk (gd pW 0#64 (k+1)) (znT t kk k).2),lnH (gd (znT t kk k).1 0#64 (k+1)) kk (gd pW 0#64 (k+1)) (znT t kk k).2):=by rw [znT]
        generalize znT t kk k=q at*
        obtain ⟨u,c⟩:=q
        simp only at hl g10 hst
        have hl5:u.length=5:=hl.trans ht
        obtain ⟨j,hj⟩:∃ j,j=k+1:=⟨_,rfl⟩
        rw [← hj] at g14 hst
        have hpl:pW.length=4:=rfl
        have w1:IntKind.i64.wrap ((j:Int)+1)=((j+1:Nat):Int):=wrap_i64 (by omega) (by omega)
        have w2:IntKind.i64.wrap ((j:Int) - 1)=((k:Nat):Int):=by rw [← zij k (by omega)];congr 1;omega
        simp -implicitDefEqProofs [zbC,zau,g14,g10,g5,g7,g13,hlt,show (j:Int) < 4 by omega,show j≤3 by omega,show k < 5 by omega,show k≤4 by omega,show j < 5 by omega,show j < 4 by omega,show j≤4 by omega,show j≤5 by omega,w1,w2,zfT,zyl,hl5,hpl,hst,← hj]
      · have : k = 3 := by omega
        subst this
        simp [zbC,g14,g10])
  exact ⟨fr',rfl,h10',hk⟩
end Go.Av
namespace Go.Av
theorem zA8 {fr:Fr} {h:zab} {R:Option (AEx × Fr × zab)} (a b:List W64) (z:List zaa) (ha:a.length=4) (hb:b.length=4)
    (hF:run ctx (zau h) (.loop zcj) fr (hx h [z,cW pW,cW (ziT a b 0)] [])=R)
    (h3:fr 3=.vptr (cW b) 0) (h5:fr 5=pA h.blks.length 1 0) (h6:fr 6=wd zsB) (h7:fr 7=pA h.blks.length 2 0) (h17:fr 17=.agg (cW a)) (h18:fr 18=.int .i64 0):
    ∃ fr',R=some (.exit 0,fr',hx h [z,cW pW,cW (ziT a b 4)] [])∧∀ t,t∉wr zcj→fr' t=fr t:=by
  obtain ⟨e,fr',h',rfl,⟨rfl,rfl⟩,hk⟩:=zaj hF 4
    (fun k fr hh=>fr 18=.int .i64 k∧hh=hx h [z,cW pW,cW (ziT a b k)] [])
    (fun e fr hh=>e=.exit 0∧hh=hx h [z,cW pW,cW (ziT a b 4)] [])
    ⟨h18,rfl⟩ (by
      rintro k fr1 hh hkN hkeep ⟨g18,rfl⟩
      have g3:=(hkeep 3 (by decide)).trans h3
      have g5:=(hkeep 5 (by decide)).trans h5
      have g6:=(hkeep 6 (by decide)).trans h6
      have g7:=(hkeep 7 (by decide)).trans h7
      have g17:=(hkeep 17 (by decide)).trans h17
      by_cases hlt:k < 4
      · have w1 : IntKind.i64.wrap ((k : Int) + 1) = k + 1 := wrap_i64 (by omega) (by omega)
        have hl:=zlB a b k
        have hst:ziT a b (k+1)=zqq (ziT a b k) (gd a 0#64 k) b:=rfl
        generalize hq:ziT a b k=t at*
        have h0:(0#64:W64).toNat=0:=rfl
        simp [zcj,g18,g17,g3,hlt,show (k:Int) < 4 by omega,show k≤3 by omega,zxS,zae,ha,hb,zaf,wd0]
        generalize hF:run ctx _ (.loop _) _ _=R
        obtain ⟨fr2,rfl,q10,q1⟩:=zAA t b (gd a 0#64 k) z (cW pW) hl hb hF (by simp [g7]) (by simp) (by simp) (by simp) (by simp)
        have hlm:(zdc t (gd a 0#64 k) b 4).1.length=5:=(zj9 _ _ _ _).trans hl
        have hr:ziT a b (k+1)=zLa (znT (adS (zdc t (gd a 0#64 k) b 4).1 (zdc t (gd a 0#64 k) b 4).2) (gd (adS (zdc t (gd a 0#64 k) b 4).1 (zdc t (gd a 0#64 k) b 4).2) 0#64 0*zsB) 3).1 (znT (adS (zdc t (gd a 0#64 k) b 4).1 (zdc t (gd a 0#64 k) b 4).2) (gd (adS (zdc t (gd a 0#64 k) b 4).1 (zdc t (gd a 0#64 k) b 4).2) 0#64 0*zsB) 3).2:=hst
        generalize zdc t (gd a 0#64 k) b 4=m at*
        obtain ⟨u,c⟩:=m
        simp only at hlm q10 hr
        have had:u.set 4 (gd u 0#64 4+c)=adS u c:=rfl
        have hlu:(adS u c).length=5:=(zI8 u c).trans hlm
        generalize hv:adS u c=v at*
        have hred0:(znT v (gd v 0#64 0*zsB) 0)=(v,lnH (gd v 0#64 0) (gd v 0#64 0*zsB) (gd pW 0#64 0) 0#64):=rfl
        have hpl:pW.length=4:=rfl
        have k4:∀ (i n off:Nat),zcZ (some 5) 1 (pA i n off) (.int .i64 4)=some (pA i n (off+4)):=fun i n off=>by simpa using zfT 5 1 i n off 4 .i64 (by decide)
        have k3:∀ (i n off:Nat),zcZ (some 5) 1 (pA i n off) (.int .i64 3)=some (pA i n (off+3)):=fun i n off=>by simpa using zfT 5 1 i n off 3 .i64 (by decide)
        simp -implicitDefEqProofs [q10,q1,wr,zaT,zgI,zau,g5,g6,g7,k4,hlm,had,hlu,hpl,zyl]
        generalize hF:run ctx _ (.loop _) _ _=R
        obtain ⟨fr3,rfl,p10,p1⟩:=zAB v (gd v 0#64 0*zsB) z hlu hF (by simp [q1,wr,zaT,zgI,g5]) (by simp [q1,wr,zaT,zgI,g7]) (by simp) (by simp [hred0]) (by simp)
        have hlr:(znT v (gd v 0#64 0*zsB) 3).1.length=5:=(zvc _ _ _).trans hlu
        generalize znT v (gd v 0#64 0*zsB) 3=m2 at*
        obtain ⟨u2,c2⟩:=m2
        simp only at hlr p10 hr
        have he:(u2.set 3 (adL (gd u2 0#64 4) c2 0#64)).set 4 (adH (gd u2 0#64 4) c2 0#64)=zLa u2 c2:=rfl
        simp -implicitDefEqProofs [p10,p1,q1,wr,zaT,zbC,zgI,zau,g5,g6,g7,g18,k4,k3,hlr,wd0,zme,w1,he,hr]
        exact hlt
      · have : k = 4 := by omega
        subst this
        simp [zcj,g18])
  exact ⟨fr',rfl,hk⟩
theorem zum (L:Lim) (h:zab) (a b:List W64) (ha:a.length=4) (hb:b.length=4) (hp:val b < pN):
    zag ctx L zcS [.agg (cW a),.agg (cW b)] h=some (.agg (cW (w4 (zyu (val a) (val b)))),h):=by
  rw [zoT]
  have e0:cW (tab 5 fun _=>0#64)=cW (ziT a b 0):=rfl
  have hpl:pW.length=4:=rfl
  simp -implicitDefEqProofs [zhM,zau,zbh,zmf,zAz,zaf,zbG,zah,ha,hb,hpl]
  rw [e0]
  generalize hF:run ctx _ (.loop _) _ _=R
  obtain ⟨fr1,rfl,hk1⟩:=zA8 a b _ ha hb hF (by simp) (by simp) (by simp) (by simp) (by simp) (by simp)
  obtain ⟨e1,e2⟩:=zAH ha hb hp
  have hl:=zlB a b 4
  have hsl:=ztL 5 1 h.blks.length 2 0 4 .i64 (by decide)
  simp only [Int.cast_ofNat_Int] at hsl
  generalize ziT a b 4=t at*
  have hl4:(t.take 4).length=4:=by simp [hl]
  have hbe:=fun L h=>zzj L h (t.take 4) hl4
  simp only [e2] at hbe
  simp -implicitDefEqProofs [hk1,wr,zcj,zaT,zbC,zgI,hsl,zHH,zFz,hl,hbe,zbG,zah,zaf]
end Go.Av
namespace Go.Av
def dbl (k:Nat):Nat:=2 ^ k % pN
theorem zH6 (k:Nat):dbl k < pN:=Nat.mod_lt _ zxb
theorem zHi (k:Nat):zt4 (dbl k+dbl k)=dbl (k+1):=by
  unfold dbl
  have h:=Nat.mod_lt (2 ^ k) zxb
  rw [zvg (by omega),← Nat.add_mod,Nat.pow_succ,Nat.mul_two]
theorem zKb:dbl 512=rN*rN % pN:=by decide +kernel
theorem zBa {fr:Fr} {h:zab} {R:Option (AEx × Fr × zab)} (z:List zaa)
    (hF:run ctx (zau h) (.loop zdg) fr (hx h [z,cW (w4 (dbl 0))] [])=R)
    (h3:fr 3=pA h.blks.length 1 0) (h5:fr 5=.int .i64 0):
    ∃ fr',R=some (.exit 0,fr',hx h [z,cW (w4 (dbl 512))] [])∧∀ t,t∉wr zdg→fr' t=fr t:=by
  obtain ⟨e,fr',h',rfl,⟨rfl,rfl⟩,hk⟩:=zaj hF 512
    (fun k fr hh=>fr 5=.int .i64 k∧hh=hx h [z,cW (w4 (dbl k))] [])
    (fun e fr hh=>e=.exit 0∧hh=hx h [z,cW (w4 (dbl 512))] [])
    ⟨h5,rfl⟩ (by
      rintro k fr1 hh hkN hkeep ⟨g5,rfl⟩
      have g3:=(hkeep 3 (by decide)).trans h3
      by_cases hlt:k < 512
      · have w1 : IntKind.i64.wrap ((k : Int) + 1) = k + 1 := wrap_i64 (by omega) (by omega)
        have hst:=zHi k
        have hb:=zH6 k
        have hb2:=zH6 (k+1)
        generalize hv:dbl k=v at*
        generalize hv':dbl (k+1)=v' at*
        have hvl:v < rN:=Nat.lt_trans hb (by decide)
        have hs2:v+v < rN:=Nat.lt_trans (Nat.add_lt_add hb hb) (by decide)
        have hp:=fun L h=>zIW L h (w4 v) (w4 v) rfl rfl (by rw [zxc v hvl];exact hs2)
        have hbe:=fun L h=>zzj L h (w4 (v+v)) rfl
        simp only [zxc v hvl] at hp
        simp only [zxc (v+v) hs2,hst] at hbe
        have l1:=zo6 v
        have l2:=zo6 (v+v)
        have l3:=zo6 v'
        generalize w4 v=a at*
        generalize w4 (v+v)=b at*
        generalize hc:w4 v'=c at*
        simp -implicitDefEqProofs [zdg,zau,g5,g3,hlt,show (k:Int) < 512 by omega,w1,zaf,zbG,zah,hp,hbe,l1,l3,hv',hc]
      · have : k = 512 := by omega
        subst this
        simp [zdg,g5])
  exact ⟨fr',rfl,hk⟩
theorem zHk (L:Lim) (h:zab) (a:List W64) (ha:a.length=4):zag ctx L zdP [.agg (cW a)] h=some (.agg (cW (fe (val a))),h):=by
  rw [zqR]
  have e0:(cW (tab 4 fun _=>0#64)).set 0 (wd 1#64)=cW (w4 (dbl 0)):=rfl
  have l0:=zo6 (dbl 0)
  simp -implicitDefEqProofs [zkf,zau,zbh,zay,wd1,zbG,zah,e0,l0]
  generalize hF:run ctx _ (.loop _) _ _=R
  obtain ⟨fr1,rfl,hk1⟩:=zBa _ hF (by simp) (by simp)
  rw [zKb]
  have hlt:rN*rN % pN < pN:=Nat.mod_lt _ zxb
  have hv:=zxc (rN*rN % pN) (Nat.lt_trans hlt (by decide))
  have hp:=fun L h=>zum L h a (w4 (rN*rN % pN)) ha rfl (by rw [hv];exact hlt)
  simp only [hv,zJs] at hp
  have hfe:w4 (val a*rN % pN)=fe (val a):=rfl
  simp only [hfe] at hp
  have l1:=zo6 (rN*rN % pN)
  have l2:=zzt (val a)
  generalize w4 (rN*rN % pN)=sq at*
  generalize fe (val a)=r at*
  simp -implicitDefEqProofs [hk1,wr,zdg,zgI,zaf,zbG,zah,hp,ha,l1,l2,zay]
end Go.Av
