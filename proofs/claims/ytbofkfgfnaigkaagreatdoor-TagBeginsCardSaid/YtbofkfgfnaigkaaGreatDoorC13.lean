/- Items and patterns are checked, written and tagged as plain functions of lists say. -/
import Derived.Test.YtbofkfgfnaigkaaGreatDoorC0
import Derived.Test.YtbofkfgfnaigkaaGreatDoorC11
set_option linter.unusedSimpArgs false
set_option linter.unusedVariables false
set_option maxHeartbeats 2000000
set_option maxRecDepth 100000
namespace Go.Av
structure It where
  kind:Int
  typ:Int
  count:Int
  label:ByteArray
def It.cells (x:It):List zaa:=[.int .i64 x.kind,.int .i64 x.typ,.int .i64 x.count,.str x.label]
@[simp] theorem It.cells_len (x:It):x.cells.length=4:=rfl
@[simp] theorem It.cells_flat (x:It):zdE x.cells=true:=rfl
end Go.Av
namespace Go.Av
def zyj (k:Int):List Int:=if k=1 then [1,2,3,4] else if k=2 then [1,3] else if k=3 then [0] else []
def most (k:Int):Int:=if k=1 then 1048576 else if k=2 then 1048576 else if k=3 then 1 else 0
theorem zNk (L:Lim) (h:zab) (k:Int):zag ctx L zl2 [.int .i64 k] h=some (.tup [.vsl false (eI .i64 (zyj k)),.int .i64 (most k)],h):=by
  rw [zvX]
  simp [zqh]
  by_cases h1:k=1
  · subst h1
    simp [zaA,rep,zaa.cells,zaa.okV,chunks,zhq,zaq,zap,zaa.under,zyj,most,eI]
  · by_cases h2:k=2
    · subst h2
      simp [zaA,rep,zaa.cells,zaa.okV,chunks,zhq,zaq,zap,zaa.under,zyj,most,eI]
    · by_cases h3:k=3
      · subst h3
        simp [zaA,rep,zaa.cells,zaa.okV,chunks,zhq,zaq,zap,zaa.under,zyj,most,eI]
      · simp [zyj,most,h1,h2,h3,eI,beq_false_of_ne h1,beq_false_of_ne h2,beq_false_of_ne h3]
def idxOf (v:Int):List Int→Nat→Int
  | [],_=> -1
  | x :: l,i=>if v=x then i else idxOf v l (i+1)
theorem zGD (v:Int) (l:List Int) (k:Nat) (hk:k < l.length):idxOf v (l.drop k) k=if v=l[k] then (k:Int) else idxOf v (l.drop (k+1)) (k+1):=by
  rw [List.drop_eq_getElem_cons hk,idxOf]
theorem zGF {fr:Fr} {h:zab} {R:Option (AEx × Fr × zab)} (hF:run ctx (zak h) (.loop zdU) fr (hx h [] [])=R) (l:List Int) (v:Int) (hl:l.length < 274877906944)
    (h0:fr 0=.vsl false (eI .i64 l)) (h1:fr 1=.int .i64 v) (h7:fr 7=.int .i64 l.length) (h8:fr 8=.int .i64 0):
    ∃ e fr',R=some (e,fr',hx h [] [])∧((e=.exit 0∧idxOf v l 0= -1)∨(e=.ret∧fr' 4=.int .i64 (idxOf v l 0))):=by
  obtain ⟨e,fr',h',rfl,⟨rfl,hp⟩,hk⟩:=zaf hF l.length
    (fun k fr hh=>fr 8=.int .i64 k∧hh=hx h [] []∧idxOf v l 0=idxOf v (l.drop k) k)
    (fun e fr hh=>hh=hx h [] []∧((e=.exit 0∧idxOf v l 0= -1)∨(e=.ret∧fr 4=.int .i64 (idxOf v l 0))))
    ⟨h8, rfl, by simp⟩ (by
      rintro k fr1 hh hkN hkeep ⟨g8,rfl,gi⟩
      have g0:=(hkeep 0 (by decide)).trans h0
      have g1:=(hkeep 1 (by decide)).trans h1
      have g7:=(hkeep 7 (by decide)).trans h7
      by_cases hlt:k < l.length
      · have hget:l[k]?=some l[k]:=List.getElem?_eq_getElem hlt
        rw [zGD v l k hlt] at gi
        simp [zdU,g8,g7,g0,g1,hlt,zcP,asI,zPn,hget]
        cases hb:(v==l[k])
        · have hne : ¬ v = l[k] := by simpa using hb
          simp [g8,hlt]
          exact ⟨wrap_i64 (by omega) (by omega),by rw [gi,if_neg hne]⟩
        · have he : v = l[k] := by simpa using hb
          rw [if_pos he] at gi
          simp [gi]
      · have : k = l.length := by omega
        subst this
        simp [zdU,g8,g7]
        rw [gi];simp [idxOf])
  exact ⟨e,fr',rfl,hp⟩
theorem zNm (L:Lim) (h:zab) (l:List Int) (v:Int) (hl:l.length < 274877906944):zag ctx L zee [.vsl false (eI .i64 l),.int .i64 v] h=some (.int .i64 (idxOf v l 0),h):=by
  rw [zmO]
  simp [zf8]
  generalize hF:run ctx _ (.loop _) _ _=R
  obtain ⟨e,fr',rfl,⟨rfl,hi⟩ | ⟨rfl,hi⟩⟩:=zGF hF l v hl (by simp) (by simp) (by simp) (by simp)
  · simp [hi]
  · simp [hi]
theorem zFg (v:Int):∀ (l:List Int) (i:Nat),decide (idxOf v l i≥0)=l.contains v
  | [],i=>by simp [idxOf]
  | x :: l, i => by
    rw [idxOf,List.contains_cons,← zFg v l (i+1)]
    by_cases h:v=x
    · simp [h]
    · simp [h,beq_false_of_ne h]
theorem ziY (L:Lim) (h:zab) (l:List Int) (v:Int) (hl:l.length < 274877906944):zag ctx L zcX [.vsl false (eI .i64 l),.int .i64 v] h=some (.bool (l.contains v),h):=by
  rw [zkU]
  simp [zeW,zNm,hl]
  simpa using zFg v l 0
def chk (x:It):Int:=
  if (zyj x.kind).length=0 then 5 else if (zyj x.kind).contains x.typ=false then 6
  else if x.count < 1 then 7 else if x.count > most x.kind then 7 else if (x.label.size:Int) > 255 then 8 else 0
theorem zkK (k:Int):(zyj k).length < 274877906944:=by
  unfold zyj;split <;> (try split) <;> (try split) <;> simp
theorem zNp (L:Lim) (h:zab) (x:It):zag ctx L zl0 [.agg x.cells] h=some (.int .i64 (chk x),h):=by
  rw [zw6]
  simp [It.cells,zvO,zqz,zNk,ziY,zkK]
  by_cases h1:(zyj x.kind).length=0
  · have b1 : (((zyj x.kind).length : Int) == 0) = true := by simp [h1]
    simp [b1,chk,h1]
  · have b1 : (((zyj x.kind).length : Int) == 0) = false := beq_false_of_ne (by omega)
    by_cases b2:x.typ∈zyj x.kind
    case neg=>simp [b1,chk,h1,b2,ziY,zkK]
    case pos=>
      by_cases h3:x.count < 1
      · simp [b1,chk,h1,b2,ziY,zkK,h3]
      · by_cases h4:x.count > most x.kind
        · simp [b1,chk,h1,b2,ziY,zkK,h3,h4]
        · by_cases h5:(x.label.size:Int) > 255
          · simp [b1,chk,h1,b2,ziY,zkK,h3,h4,h5]
          · simp [b1,chk,h1,b2,ziY,zkK,h3,h4,h5]
end Go.Av
namespace Go.Av
def le (n:Int):Nat→List Int
  | 0=>[]
  | k+1=>le n k++[IntKind.u8.wrap (n.fdiv (2 ^ (8*k)))]
@[simp] theorem zT7 (n:Int):∀ k,(le n k).length=k
  | 0=>rfl
  | k+1=>by simp [le,zT7 n k]
theorem zDW {L:Lim} {fr:Fr} {h:zab} {R:Option (AEx × Fr × zab)} (hF:run ctx ⟨L.rob,L.rot,h.blks.length,h.toks.length⟩ (.loop zdq) fr (hx h [] [])=R) (b0:List Int) (n:Int) (m:Nat) (hm:m≤8) (hb:b0.length < 200000000000) (hL:L.rot≤h.toks.length)
    (h0:fr 0=.vsl true (eI .u8 b0)) (h1:fr 1=.int .i64 n) (h8:fr 8=.int .i64 m) (h9:fr 9=.int .i64 0):
    ∃ fr',R=some (.exit 0,fr',hx h [] (if m=0 then [] else [b0.length+m]))∧fr' 0=if m=0 then .vsl true (eI .u8 b0) else gA h.toks.length 0 (eI .u8 (b0++le n m)):=by
  obtain ⟨e,fr',h',rfl,⟨rfl,rfl,h3'⟩,hk⟩:=zaf hF m
    (fun k fr hh=>fr 9=.int .i64 k∧fr 0=(if k=0 then .vsl true (eI .u8 b0) else gA h.toks.length 0 (eI .u8 (b0++le n k)))∧hh=hx h [] (if k=0 then [] else [b0.length+k]))
    (fun e fr hh=>e=.exit 0∧hh=hx h [] (if m=0 then [] else [b0.length+m])∧fr 0=if m=0 then .vsl true (eI .u8 b0) else gA h.toks.length 0 (eI .u8 (b0++le n m)))
    ⟨h9, by simpa using h0, by simp⟩ (by
      rintro k fr1 hh hkN hkeep ⟨g9,g0,rfl⟩
      have g1:=(hkeep 1 (by decide)).trans h1
      have g8:=(hkeep 8 (by decide)).trans h8
      by_cases hlt:k < m
      · have w1 : IntKind.i64.wrap (8 * (k : Int)) = 8 * k := wrap_i64 (by omega) (by omega)
        have w2:IntKind.i64.wrap ((k:Int)+1)=k+1:=wrap_i64 (by omega) (by omega)
        by_cases hk0:k=0
        · subst hk0
          simp [zdq,g9,g8,g0,g1,hlt,w1,w2,zaA,rep,zaa.cells,zaa.okV,chunks,zly,zVe,IntKind.bits,zCF,zam,show b0.length+1 < 274877906944 by omega,le]
          exact wrap_i64 (by omega) (by omega)
        · simp [zdq, g9, g8, g0, g1, hlt, hk0, w1, w2, zaA, rep, zaa.cells, zaa.okV, chunks, zly, zVe, IntKind.bits, zw2, zam, hL, show b0.length + k + 1 < 274877906944 by omega, show (0 : Int) ≤ 8 * k by omega, show (8 : Int) * k ≤ 64 by omega, show 0 < b0.length + k by omega, le]
          rw [show (8*(k:Int)).toNat=8*k by omega]
          exact ⟨rfl,rfl⟩
      · have : k = m := by omega
        subst this
        simp [zdq,g9,g8,g0])
  exact ⟨fr',rfl,h3'⟩
theorem zzS (L:Lim) (h:zab) (b0:List Int) (n:Int) (m:Nat) (hm0:0 < m) (hm:m≤8) (hb:b0.length < 200000000000) (hL:L.rot≤h.toks.length):
    zag ctx L zeb [.vsl true (eI .u8 b0),.int .i64 n,.int .i64 m] h=some (.gsl h.toks.length (eI .u8 (b0++le n m)),ptok h (b0.length+m)):=by
  rw [zoE]
  simp [zkD]
  generalize hF:run ctx _ (.loop _) _ _=R
  obtain ⟨fr',rfl,h3⟩:=zDW hF b0 n m hm hb hL (by simp) (by simp) (by simp) (by simp)
  have hm1:¬m=0:=by omega
  simp [h3,hm1,zFv]
theorem zwu {L:Lim} {fr:Fr} {h:zab} {R:Option (AEx × Fr × zab)} (hF:run ctx ⟨L.rob,L.rot,h.blks.length,h.toks.length⟩ (.loop zdq) fr (hx h [] [])=R) (t:Nat) (b0:List Int) (n:Int) (m:Nat) (hm:m≤8) (hb:b0.length < 200000000000) (hb0:0 < b0.length) (hL:L.rot≤t) (ht:h.toks[t]?=some b0.length)
    (h0:fr 0=.gsl t (eI .u8 b0)) (h1:fr 1=.int .i64 n) (h8:fr 8=.int .i64 m) (h9:fr 9=.int .i64 0):
    ∃ fr',R=some (.exit 0,fr',hx (zxf h t (b0.length+m)) [] [])∧fr' 0=.gsl t (eI .u8 (b0++le n m)):=by
  have hlt0:=(List.getElem?_eq_some_iff.1 ht).1
  have hself:zxf h t b0.length=h:=by
    unfold zxf
    rw [show h.toks.set t b0.length=h.toks from ?_]
    refine List.ext_getElem? fun i=>?_
    by_cases e:t=i
    · subst e;rw [List.getElem?_set_self hlt0,ht]
    · rw [List.getElem?_set_ne e]
  obtain ⟨e,fr',h',rfl,⟨rfl,rfl,h3'⟩,hk⟩:=zaf hF m
    (fun k fr hh=>fr 9=.int .i64 k∧fr 0=.gsl t (eI .u8 (b0++le n k))∧hh=hx (zxf h t (b0.length+k)) [] [])
    (fun e fr hh=>e=.exit 0∧hh=hx (zxf h t (b0.length+m)) [] []∧fr 0=.gsl t (eI .u8 (b0++le n m)))
    ⟨h9, by simpa [le] using h0, by simp [hself]⟩ (by
      rintro k fr1 hh hkN hkeep ⟨g9,g0,rfl⟩
      have g1:=(hkeep 1 (by decide)).trans h1
      have g8:=(hkeep 8 (by decide)).trans h8
      by_cases hlt:k < m
      · have w1 : IntKind.i64.wrap (8 * (k : Int)) = 8 * k := wrap_i64 (by omega) (by omega)
        have w2:IntKind.i64.wrap ((k:Int)+1)=k+1:=wrap_i64 (by omega) (by omega)
        have ht':(zxf h t (b0.length+k)).toks[t]?=some (eI .u8 (b0++le n k)).length:=by simp [zxf,hlt0]
        have ha:=zFt ⟨L.rob,L.rot,h.blks.length,h.toks.length⟩ (zxf h t (b0.length+k)) [] [] 1 t true (eI .u8 (b0++le n k)) (eI .u8 [IntKind.u8.wrap (n.fdiv (2 ^ (8*k)))]) ht'
          (by simp [zam,hL];omega)
        have hs:zxf (zxf h t (b0.length+k)) t (b0.length+k+1)=zxf h t (b0.length+(k+1)):=by simp [zxf,Nat.add_assoc]
        simp [hs] at ha
        simp [zdq,g9,g8,g0,g1,hlt,w1,w2,zaA,rep,zaa.cells,zaa.okV,chunks,zly,zVe,IntKind.bits,show (0:Int)≤8*k by omega,show (8:Int)*k≤64 by omega,show (8*(k:Int)).toNat=8*k by omega,ha,le]
      · have : k = m := by omega
        subst this
        simp [zdq,g9,g8,g0])
  exact ⟨fr',rfl,h3'⟩
theorem zzT (L:Lim) (h:zab) (t:Nat) (b0:List Int) (n:Int) (m:Nat) (hm:m≤8) (hb:b0.length < 200000000000) (hb0:0 < b0.length) (hL:L.rot≤t) (ht:h.toks[t]?=some b0.length):
    zag ctx L zeb [.gsl t (eI .u8 b0),.int .i64 n,.int .i64 m] h=some (.gsl t (eI .u8 (b0++le n m)),zxf h t (b0.length+m)):=by
  rw [zoE]
  simp [zkD]
  generalize hF:run ctx _ (.loop _) _ _=R
  obtain ⟨fr',rfl,h3⟩:=zwu hF t b0 n m hm hb hb0 hL ht (by simp) (by simp) (by simp) (by simp)
  have hlt0:=(List.getElem?_eq_some_iff.1 ht).1
  simp [h3,zFs,hlt0]
theorem zGV (L:Lim) (h:zab) (bs:List (List zaa)) (ts:List Nat) (b0:List Int) (n m:Int) (hc:(decide (0 < m)&&decide (m≤8)&&decide (b0.length < 200000000000)&&decide (L.rot≤h.toks.length))=true):
    zag ctx L zeb [.vsl true (eI .u8 b0),.int .i64 n,.int .i64 m] (hx h bs ts)=some (gA h.toks.length ts.length (eI .u8 (b0++le n m.toNat)),hx h bs (ts++[b0.length+m.toNat])):=by
  simp only [Bool.and_eq_true,decide_eq_true_eq] at hc
  obtain ⟨k,rfl⟩:∃ k:Nat,m=k:=⟨m.toNat,by omega⟩
  rw [zzS L (hx h bs ts) b0 n k (by omega) (by omega) hc.1.2 (by rw [zaQ];omega),zLd,zaQ]
  rfl
theorem zGW (L:Lim) (h:zab) (bs:List (List zaa)) (ts:List Nat) (i:Nat) (b0:List Int) (n m:Int)
    (hc:(decide (0≤m)&&decide (m≤8)&&decide (b0.length < 200000000000)&&decide (0 < b0.length)&&decide (L.rot≤h.toks.length)&&(ts[i]?==some b0.length))=true):
    zag ctx L zeb [gA h.toks.length i (eI .u8 b0),.int .i64 n,.int .i64 m] (hx h bs ts)=some (gA h.toks.length i (eI .u8 (b0++le n m.toNat)),hx h bs (ts.set i (b0.length+m.toNat))):=by
  simp only [Bool.and_eq_true,decide_eq_true_eq,beq_iff_eq] at hc
  obtain ⟨⟨⟨⟨⟨c0,c1⟩,c2⟩,c3⟩,c4⟩,c5⟩:=hc
  obtain ⟨k,rfl⟩:∃ k:Nat,m=k:=⟨m.toNat,by omega⟩
  have ht:(hx h bs ts).toks[h.toks.length+i]?=some b0.length:=by
    simp only [hx];rw [List.getElem?_append_right (Nat.le_add_right _ _),Nat.add_sub_cancel_left];exact c5
  unfold gA
  rw [zzT L (hx h bs ts) (h.toks.length+i) b0 n k (by omega) c2 c3 (by omega) ht,zDi]
  rfl
end Go.Av
namespace Go.Av
def zPc (x:It):List Int:=[IntKind.u8.wrap x.kind,IntKind.u8.wrap x.typ]++le x.count 4++le x.label.size 2++bts x.label
theorem zNL (k t c:Int) (lb:ByteArray) (h:k < 1∨k > 3):chk ⟨k,t,c,lb⟩=5:=by
  have h1:k≠1:=by omega
  have h2:k≠2:=by omega
  have h3:k≠3:=by omega
  simp [chk,zyj,h1,h2,h3]
theorem zQ7 (k t c:Int) (lb:ByteArray) (hk:k=1∨k=2∨k=3) (h:k=1∧(t < 1∨t > 4)∨k=2∧t≠1∧t≠3∨k=3∧t≠0):chk ⟨k,t,c,lb⟩=6:=by
  rcases hk with rfl | rfl | rfl
  · simp [chk,zyj];omega
  · simp [chk,zyj];omega
  · simp [chk,zyj];omega
theorem zNK (k t c:Int) (lb:ByteArray) (hk:k=1∨k=2∨k=3) (h:¬(k=1∧(t < 1∨t > 4)∨k=2∧t≠1∧t≠3∨k=3∧t≠0)):
    chk ⟨k,t,c,lb⟩=if c < 1∨c > 1048576∨k=3∧c≠1 then 7 else if (lb.size:Int) > 255 then 8 else 0:=by
  have hmem:(zyj k).contains t=true:=by
    rcases hk with rfl | rfl | rfl <;> simp [zyj] <;> omega
  have hlen : ¬ (zyj k).length = 0 := fun h => by
    have:=List.eq_nil_of_length_eq_zero h;rw [this] at hmem;simp at hmem
  unfold chk
  simp only [hlen,if_false,hmem,Bool.true_eq_false]
  by_cases c1:c < 1
  · simp [c1]
  · rcases hk with rfl | rfl | rfl
    · simp [c1,most]
    · simp [c1,most]
    · by_cases c2:c=1
      · simp [c2,most]
      · simp [c1,c2,most]
        intro h;omega
theorem zzY {x:It} (h:chk x=0):1≤x.kind∧x.kind≤3∧0≤x.typ∧x.typ≤4∧1≤x.count∧x.count≤1048576∧x.label.size≤255:=by
  obtain ⟨k,t,c,lb⟩:=x
  by_cases hk:k < 1∨k > 3
  · rw [zNL k t c lb hk] at h;omega
  · have hk' : k = 1 ∨ k = 2 ∨ k = 3 := by omega
    by_cases hb:k=1∧(t < 1∨t > 4)∨k=2∧t≠1∧t≠3∨k=3∧t≠0
    · rw [zQ7 k t c lb hk' hb] at h;omega
    · rw [zNK k t c lb hk' hb] at h
      split at h
      · omega
      · split at h
        · omega
        · simp only;omega
theorem zB6 (L:Lim) (h:zab) (x:It):zag ctx L zkE [.agg x.cells] h=
    some (if chk x=0 then .tup [.vsl false (eI .u8 (zPc x)),.int .i64 0] else .tup [.vsl false [],.int .i64 (chk x)],h):=by
  rw [zve]
  have e:zdE [zaa.int .i64 x.kind,.int .i64 x.typ,.int .i64 x.count,.str x.label]=true:=rfl
  have hck:=zNp
  simp only [It.cells] at hck ⊢
  simp [zvO,zoy,zaj,hck]
  by_cases h0:chk x=0
  · have b0 : (chk x == 0) = true := by simp [h0]
    have hs:x.label.size < 1000000000:=by have:=(zzY h0).2.2.2.2.2.2;omega
    simp [h0,zaA,rep,zaa.cells,zaa.okV,chunks,zGV,zGW,zak,zly,zLm,le,zOe,zam,show 8+x.label.size < 274877906944 by omega,zDz,zPc]
  · have b0 : (chk x == 0) = false := by simp [h0]
    simp [bne,b0]
    exact fun e=>absurd e h0
end Go.Av
namespace Go.Av
@[simp] theorem zNM (x:It):(zPc x).length=8+x.label.size:=by simp [zPc];omega
def zrJ:List It→Nat→List Int→List Int × Int × Int
  | [],_,out=>(out, -1,0)
  | x :: l,k,out=>if k=1024 then ([],k,9) else if chk x=0 then zrJ l (k+1) (out++zPc x) else ([],k,chk x)
theorem zKp (l:List It) (k:Nat) (out:List Int) (hk:k < l.length):zrJ (l.drop k) k out=if k=1024 then ([],(k:Int),9) else if chk l[k]=0 then zrJ (l.drop (k+1)) (k+1) (out++zPc l[k]) else ([],(k:Int),chk l[k]):=by
  rw [List.drop_eq_getElem_cons hk,zrJ]
theorem zNN {fr:Fr} {h:zab} {R:Option (AEx × Fr × zab)} (l:List It) (hn:l.length≤2000)
    (hF:run ctx (zak h) (.loop zck) fr (hx h [] [])=R)
    (h5:fr 5=.nsl) (h10:fr 10=.vsl false (l.map It.cells)) (h11:fr 11=.int .i64 l.length) (h12:fr 12=.int .i64 0):
    ∃ e fr' bs ts,R=some (e,fr',hx h bs ts)∧((e=.exit 0∧∃ out,zrJ l 0 []=(out, -1,0)∧fr' 5=gL .nsl h.toks.length 0 (eI .u8 out))∨(e=.ret∧fr' 2=.nsl∧(zrJ l 0 []).1=[]∧fr' 3=.int .i64 (zrJ l 0 []).2.1∧fr' 4=.int .i64 (zrJ l 0 []).2.2)):=by
  obtain ⟨e,fr',h',rfl,⟨bs,ts,rfl,hp⟩,hk⟩:=zaf hF l.length
    (fun k fr hh=>fr 12=.int .i64 k∧∃ bs out,hh=hx h bs (gT (eI .u8 out))∧fr 5=gL .nsl h.toks.length 0 (eI .u8 out)∧zrJ l 0 []=zrJ (l.drop k) k out∧out.length≤k*1000008)
    (fun e fr hh=>∃ bs ts,hh=hx h bs ts∧((e=.exit 0∧∃ out,zrJ l 0 []=(out, -1,0)∧fr 5=gL .nsl h.toks.length 0 (eI .u8 out))∨(e=.ret∧fr 2=.nsl∧(zrJ l 0 []).1=[]∧fr 3=.int .i64 (zrJ l 0 []).2.1∧fr 4=.int .i64 (zrJ l 0 []).2.2)))
    ⟨h12, [], [], by simp [gT], by simpa [gL] using h5, by simp, by simp⟩ (by
      rintro k fr1 hh hkN hkeep ⟨g12,bs,out,rfl,g5,gs,go⟩
      have g10:=(hkeep 10 (by decide)).trans h10
      have g11:=(hkeep 11 (by decide)).trans h11
      by_cases hlt:k < l.length
      · have w1 : IntKind.i64.wrap ((k : Int) + 1) = k + 1 := wrap_i64 (by omega) (by omega)
        have hget:l[k]?=some l[k]:=List.getElem?_eq_getElem hlt
        rw [zKp l k out hlt] at gs
        by_cases h1024:k=1024
        · rw [if_pos h1024] at gs
          subst h1024
          simp [zck,g12,g11,g10,g5,hlt,show (1024:Int) < l.length by omega,zcP,asI,hget,zaj,zbp,zak,zai]
          exact ⟨⟨_,_,rfl⟩,by rw [gs],by rw [gs];rfl,by rw [gs]⟩
        · rw [if_neg h1024] at gs
          have b1024:((k:Int)==1024)=false:=beq_false_of_ne (by omega)
          by_cases hc:chk l[k]=0
          · rw [if_pos hc] at gs
            have hsz:=(zzY hc).2.2.2.2.2.2
            have hroom:out.length+(8+l[k].label.size) < 274877906944:=by omega
            simp [zck,g12,g11,g10,g5,hlt,show (k:Int) < l.length by omega,zcP,asI,hget,zaj,zbp,zak,zai,b1024,zB6,hc,zw1,zam,hroom,w1]
            exact ⟨_,out++zPc l[k],rfl,rfl,gs,by simp;omega⟩
          · rw [if_neg hc] at gs
            have bc:(chk l[k]==0)=false:=beq_false_of_ne hc
            simp [zck,g12,g11,g10,g5,hlt,show (k:Int) < l.length by omega,zcP,asI,hget,zaj,zbp,zak,zai,b1024,zB6,hc,bne,bc]
            exact ⟨⟨_,_,rfl⟩,by rw [gs],by rw [gs],by rw [gs]⟩
      · have : k = l.length := by omega
        subst this
        simp [zck,g12,g11,g5]
        exact ⟨⟨_,_,rfl⟩,out,by rw [gs];simp [zrJ],rfl⟩)
  exact ⟨e,fr',bs,ts,rfl,hp⟩
theorem zUB (L:Lim) (h:zab) (l:List It) (hn:l.length≤2000):
    zag ctx L zfr [.vsl false (l.map It.cells)] h=some (.tup [.vsl false (eI .u8 (zrJ l 0 []).1),.int .i64 (zrJ l 0 []).2.1,.int .i64 (zrJ l 0 []).2.2],h):=by
  rw [zo3]
  simp [zhw, -List.map_take]
  generalize hF:run ctx _ (.loop _) _ _=R
  obtain ⟨e,fr',bs,ts,rfl,⟨rfl,out,e1,e2⟩ | ⟨rfl,e1,e2,e3,e4⟩⟩:=zNN l hn hF (by simp) (by simp) (by simp) (by simp)
  · rw [e1];simp [e2,zrM]
  · rw [e2];simp [e1,e3,e4]
end Go.Av
namespace Go.Av
def zxN:List Int:=[97,118,111,117,99,104,47,116,114,97,110,115,99,114,105,112,116,47,49]
def zEb:List Int:=tab 32 fun _=>0
def zKt (b:Int) (l:List It):List Int × Int × Int:=
  if b≠1∧b≠2 then (zEb, -1,15)
  else if (zrJ l 0 []).2.2≠0 then (zEb,(zrJ l 0 []).2.1,(zrJ l 0 []).2.2)
  else (zC0 (zxN++([IntKind.u8.wrap b]++(zrJ l 0 []).1)), -1,0)
theorem zyz:∀ (l:List It) (k:Nat) (out:List Int),(zrJ l k out).1.length≤out.length+l.length*1000008
  | [],k,out=>by simp [zrJ]
  | x :: l, k, out => by
    rw [zrJ]
    split
    · simp
    · split
      · rename_i hc
        have h1:=zyz l (k+1) (out++zPc x)
        have h2:=(zzY hc).2.2.2.2.2.2
        simp only [List.length_append,zNM,List.length_cons] at h1 ⊢
        omega
      · simp
theorem zB9:[zaa.int .u8 97,zaa.int .u8 118,zaa.int .u8 111,zaa.int .u8 117,zaa.int .u8 99,zaa.int .u8 104,zaa.int .u8 47,zaa.int .u8 116,zaa.int .u8 114,zaa.int .u8 97,zaa.int .u8 110,zaa.int .u8 115,zaa.int .u8 99,zaa.int .u8 114,zaa.int .u8 105,zaa.int .u8 112,zaa.int .u8 116,zaa.int .u8 47,zaa.int .u8 49]=cI .u8 zxN:=rfl
theorem zCa (L:Lim) (h:zab) (z:List zaa) (b:Int) (r:List Int) (hr:r.length < 200000000000):
    zag ctx L zjL [.vsl true [[sA h.blks.length 1 0 1 19 (some 19)],[.vsl true (eI .u8 [b])],[.vsl false (eI .u8 r)]]] (hx h [z,cI .u8 zxN] [])=some (.agg (cI .u8 (zC0 (zxN++([b]++r)))),hx h [z,cI .u8 zxN] []):=by
  have h1 := zRk L (hx h [z, cI .u8 zxN] []) true [(sA h.blks.length 1 0 1 19 (some 19), zxN), (.vsl true (eI .u8 [b]), [b]), (.vsl false (eI .u8 r), r)] (by simp) (by
    intro p hp
    simp only [List.mem_cons,List.not_mem_nil,or_false] at hp
    rcases hp with rfl | rfl | rfl
    · exact ⟨RdI.sA [] .u8 1 19 _ zxN rfl (by simp),by simp [zxN]⟩
    · exact ⟨RdI.vsl _ .u8 true [b],by simp⟩
    · exact ⟨RdI.vsl _ .u8 false r,hr⟩)
  have h2:msg [(sA h.blks.length 1 0 1 19 (some 19),zxN),(.vsl true (eI .u8 [b]),[b]),(.vsl false (eI .u8 r),r)]=zxN++([b]++r):=by simp [msg]
  rw [h2] at h1
  exact h1
@[simp] theorem zFq (l:List Int):(zC0 l).length=32:=by
  obtain ⟨c1,c2⟩:=zm4 l (q:=(tab 25 fun _=>0#64,0)) (by simp) (by simp)
  simp [zC0,zRf,zfv,c1]
theorem zPd (L:Lim) (h:zab) (b:Int) (l:List It) (hn:l.length≤2000):
    zag ctx L zlm [.int .i64 b,.vsl false (l.map It.cells)] h=some (.tup [.agg (cI .u8 (zKt b l).1),.int .i64 (zKt b l).2.1,.int .i64 (zKt b l).2.2],h):=by
  rw [zp5]
  have hser:=fun L h=>zUB L h l hn
  by_cases hb:b≠1∧b≠2
  · have e1 : zKt b l = (zEb, -1, 15) := by unfold zKt; rw [if_pos hb]
    rw [e1]
    simp [zkW, -List.map_take,zak,zjs,bne,beq_false_of_ne hb.1,beq_false_of_ne hb.2,zaA,zbp,zai,zaj,zEb]
  · have hb' : b = 1 ∨ b = 2 := by omega
    by_cases h0:(zrJ l 0 []).2.2=0
    · have e1 : zKt b l = (zC0 (zxN ++ ([IntKind.u8.wrap b] ++ (zrJ l 0 []).1)), -1, 0) := by unfold zKt; rw [if_neg hb, if_neg (by simpa using h0)]
      rw [e1]
      have hlen:(zrJ l 0 []).1.length < 200000000000:=by
        have:=zyz l 0 [];simp at this;omega
      rcases hb' with rfl | rfl
      · simp [zkW, -List.map_take,zak,zjs,hser,h0,zaA,rep,chunks,zly,zB9,zCa,hlen,zbp,zai,zaj]
      · simp [zkW, -List.map_take,zak,zjs,hser,h0,zaA,rep,chunks,zly,zB9,zCa,hlen,zbp,zai,zaj]
    · have e1 : zKt b l = (zEb, (zrJ l 0 []).2.1, (zrJ l 0 []).2.2) := by unfold zKt; rw [if_neg hb, if_pos h0]
      rw [e1]
      have b0:((zrJ l 0 []).2.2==0)=false:=beq_false_of_ne h0
      rcases hb' with rfl | rfl
      · simp [zkW, -List.map_take,zak,zjs,hser,bne,b0,zaA,zbp,zai,zaj,zEb]
      · simp [zkW, -List.map_take,zak,zjs,hser,bne,b0,zaA,zbp,zai,zaj,zEb]
end Go.Av
namespace Go.Av
theorem zNQ:zC0 (zxN++[1])≠zC0 (zxN++[2]):=by decide +kernel
end Go.Av
namespace Go.Av
theorem zKB (b:Int) (hb:b=1∨b=2):zKt b []=(zC0 (zxN++[b]), -1,0):=by
  unfold zKt
  rw [if_neg (by omega)]
  have hw:IntKind.u8.wrap b=b:=by rcases hb with rfl | rfl <;> decide
  simp [zrJ,hw]
theorem zKC (L:Lim) (h:zab) (b:Int):zag ctx L zlm [.int .i64 b,.nsl] h=zag ctx L zlm [.int .i64 b,.vsl false []] h:=by
  rw [zp5,zp5];simp
theorem zKD (L:Lim) (h:zab):zag ctx L zeD [] h=some (.bool true,h):=by
  rw [znR]
  have t1:=fun L h=>(zKC L h 1).trans (zPd L h 1 [] (by simp))
  have t2:=fun L h=>(zKC L h 2).trans (zPd L h 2 [] (by simp))
  rw [zKB 1 (.inl rfl)] at t1
  rw [zKB 2 (.inr rfl)] at t2
  have hne:(zC0 (zxN++[1])==zC0 (zxN++[2]))=false:=beq_false_of_ne zNQ
  have h1:(zC0 (zxN++[1])).length=32:=zFq _
  have h2:(zC0 (zxN++[2])).length=32:=zFq _
  generalize zC0 (zxN++[1])=a at*
  generalize zC0 (zxN++[2])=b at*
  simp [zgN,zak,t1,t2,zjs,zbp,zai,h1,h2,zaj,zO9,hne, -zEr]
end Go.Av
