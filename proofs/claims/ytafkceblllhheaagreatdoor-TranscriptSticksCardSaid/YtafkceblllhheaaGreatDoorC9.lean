/- The law's own functions, walked. -/
import Derived.Test.YtafkceblllhheaaGreatDoorC8
set_option linter.unusedSimpArgs false
set_option linter.unusedVariables false
set_option maxHeartbeats 4000000
set_option maxRecDepth 20000
namespace Go.Av
theorem zAB {L:Lim} {H:zab} {sz:Nat} {ref:Bool} {x y:zaa} {ys:List (List zaa)} (hy:zaK H sz y=some ys) (hs:ziC sz y=true):zrj L H sz ref x y=zrj L H sz ref x (.vsl false ys):=by
  unfold zrj
  rw [hy,show zaK H sz (.vsl false ys)=some ys by simp only [zaK],hs,show ziC sz (.vsl false ys)=true by simp only [ziC]]
theorem zIm (kd:IntKind) (c:Bool) (xs:List Nat) (i:Nat) (h:i < xs.length):zc1 none 4 (.vsl c ((xs.map fe).map cW)) (.int kd (i:Int))=some (.vptr (cW (fe (gd xs 0 i))) 0):=by
  simp [zc1,asI,gd,List.getD,h]
def zzg (xs:List Nat):List Int:=xs.flatMap feB
theorem zCi (xs:List Nat) (k:Nat) (h:k < xs.length):zzg (xs.take (k+1))=zzg (xs.take k)++feB (gd xs 0 k):=by
  have:xs.take (k+1)=xs.take k++[gd xs 0 k]:=by rw [List.take_add_one];simp [gd,List.getD,h]
  rw [this];simp [zzg]
theorem zFm (xs:List Nat):(zzg xs).length=32*xs.length:=by
  induction xs with
  | nil=>rfl
  | cons x xs ih=>simp [zzg] at ih ⊢;omega
theorem zIn {L:Lim} {fr:Fr} {h:zab} {R:Option (AEx × Fr × zab)} (B:List (List zaa)) (ts:List Nat) (xs:List Nat) (hxs:xs.length < 100000) (hL:L.rob≤h.blks.length) (hT:L.rot≤h.toks.length)
    (hF:run ctx L (.loop zd4) fr (hx h B ts)=R)
    (h42:fr 42=.vsl false ((xs.map fe).map cW)) (h43:fr 43=.int .i64 (xs.length:Int)) (h7:fr 7=.nsl) (h44:fr 44=.int .i64 0):
    ∃ fr' jk us,R=some (.exit 1,fr',hx h (B++jk) (ts++us))∧fr' 7=gL .nsl h.toks.length ts.length (eI .u8 (zzg xs))∧fr' 8=fr 8:=by
  obtain ⟨e,fr',h',rfl,⟨rfl,jk,us,rfl,hp⟩,hk⟩:=zan hF xs.length
    (fun k fr hh=>fr 44=.int .i64 (k:Int)∧∃ jk,fr 7=gL .nsl h.toks.length ts.length (eI .u8 (zzg (xs.take k)))∧hh=hx h (B++jk) (ts++gT (eI .u8 (zzg (xs.take k)))))
    (fun e fr hh=>e=.exit 1∧∃ jk us,hh=hx h (B++jk) (ts++us)∧fr 7=gL .nsl h.toks.length ts.length (eI .u8 (zzg xs)))
    ⟨h44, [], by simpa [zzg, gL] using h7, by simp [zzg, gT]⟩ (by
      rintro k fr1 hh hkN hkeep ⟨g44,jk,g7,rfl⟩
      have g42:=(hkeep 42 (by decide)).trans h42
      have g43:=(hkeep 43 (by decide)).trans h43
      by_cases hlt:k < xs.length
      · have hltI : (k : Int) < (xs.length : Int) := by omega
        have w0:IntKind.i64.wrap ((k:Int)+1)=k+1:=wrap_i64 (by omega) (by omega)
        have ia:=zIm .i64 false xs k hlt
        have hsu:=zCi xs k hlt
        have hfl:=zFm (xs.take k)
        rw [List.length_take,Nat.min_eq_left (Nat.le_of_lt hlt)] at hfl
        have hBy:=fun L h=>zFs L h (gd xs 0 k)
        have hbl:=zCO (gd xs 0 k)
        have hcl:(cW (fe (gd xs 0 k))).length=4:=rfl
        have hfl4:(fe (gd xs 0 k)).length=4:=rfl
        generalize feB (gd xs 0 k)=b at*
        generalize fe (gd xs 0 k)=f4 at*
        generalize (xs.map fe).map cW=lw at*
        generalize zzg (xs.take k)=acc at*
        have hroom:acc.length+b.length < zau:=by unfold zau;omega
        have hap : ∀ (B : List (List zaa)) i, B[i]? = some (cI .u8 b) → zrj L (hx h B (ts ++ gT (eI .u8 acc))) 1 false (gL .nsl h.toks.length ts.length (eI .u8 acc)) (sA h.blks.length i 0 1 32 (some 32)) = some (gL .nsl h.toks.length ts.length (eI .u8 (acc ++ b)), hx h B (ts ++ gT (eI .u8 (acc ++ b)))) := fun B i hB => by
          rw [zAB (ys:=eI .u8 b) (by rw [zuP h B _ i 32 (cI .u8 b) (some 32) hB (by simpa using hbl),zq5]) (by simp [ziC,sA])]
          have:=zyx L h B ts 1 false (eI .u8 acc) (eI .u8 b) (by simp [hT,hroom])
          simpa using this
        have gA:=fun x=>zoI B jk [x] B.length 0 rfl
        have sA1:=fun x v=>zoJ B jk [x] B.length 0 v rfl
        have gB:=fun x y=>zoI B jk [x,y] B.length 1 rfl
        have sB1:=fun x y v=>zoJ B jk [x,y] B.length 1 v rfl
        simp only [Nat.add_zero,List.getElem?_cons_zero,List.set_cons_zero,List.getElem?_cons_succ,List.set_cons_succ] at gA sA1 gB sB1
        have hsl:=fun i=>zlh 32 1 h.blks.length i 0 (by decide)
        have hap1:=fun x=>hap (B++(jk++[x,cI .u8 b])) (B.length+(jk.length+1)) (gB _ _)
        have hz4:(cW (tab 4 fun _=>0#64)).length=4:=rfl
        simp -implicitDefEqProofs [zd4,g7,g42,g43,g44,hltI,zal,zaj,ia,hBy,zgl,zbj,hL,hT,zao,zbV,zai,zag,hcl,hfl4,hbl,hz4,hsl,gA,sA1,gB,sB1,hap1,w0]
        exact ⟨hlt,by rw [hsu],_,by rw [hsu]⟩
      · have : k = xs.length := by omega
        subst this
        rw [List.take_length] at g7
        simp [zd4,g43,g44,g7]
        exact ⟨jk,_,rfl⟩)
  exact ⟨fr',jk,us,rfl,hp,hk 8 (by decide)⟩
theorem zOB (L:Lim) (h:zab) (bs js:List (List zaa)) (ts:List Nat) (t:Tc) (ht:t.ok) (hc:t.s.c < 10000000) (d ty N:Int) (c:Bool) (b:List Int) (hb:inB b) (hl:b.length≤400) (hN:N≤1048576→N≤100) (hL:L.rob≤h.blks.length) (hT:L.rot≤h.toks.length):
    zae ctx L zeK [pA h.blks.length (bs.length+1) 0,.agg [.int .i64 d,.int .i64 ty,.int .i64 N,.vsl c (eI .u8 b)]] (hx h (trB h.blks.length bs t js) ts)=some (.tup [.int .i64 (doT t d ty N b).1.1,.vsl false (eI .u8 (doT t d ty N b).1.2)],hx h (trB h.blks.length bs (doT t d ty N b).2 js) ts):=by
  rw [znF]
  have hk:t.g.k < 1000000000:=by have:=ht.k;have:=ht.l;omega
  have hA:=fun L hL=>zpq L h bs js ts t ty c b hb (by omega) hk ht.s hc ht.tg hL
  have hS:=fun L hL hT=>zm8 L h bs js ts t N hk ht.s hc ht.tg (fun h0=>by have:=hN (ht.count h0);omega) hL hT
  have hC:=fun L hL hT=>zuJ L h bs js ts t N hk ht.s hc ht.tg (fun h0=>by have:=hN (ht.count h0);omega) hL hT
  have hR:=fun L hL=>zxV L h bs js ts t hk ht.s hc ht.tg hL
  have hle:=zJl t N 100 (fun h0=>by have:=hN (ht.count h0);omega)
  rw [zDJ] at hC
  have hl1:=zbP h.blks.length bs t js
  have htr:=fun t w us=>zBW h.blks.length bs t js h ts us w
  have htr0:=fun t=>zrF h.blks.length bs t js h ts
  by_cases h0:d=0
  · have hd:doT t d ty N b=(((zmi t ty b).2,[]),(zmi t ty b).1):=if_pos h0
    rw [hd]
    subst h0
    simp -implicitDefEqProofs [zcp,zal,zaj,hl1,zpP,zaa.okV,zaa.cells,zaf,hA,hL,htr0]
  · have b0 : (d == 0) = false := by simp [h0]
    by_cases h1:d=1
    · have hd : doT t d ty N b = (((zm7 t N).1.2, (zm7 t N).1.1), (zm7 t N).2) := by unfold doT; rw [if_neg h0, if_pos h1]
      rw [hd]
      subst h1
      simp -implicitDefEqProofs [zcp,zal,zaj,hl1,zpP,zaa.okV,zaa.cells,zaf,hS,hL,hT,htr0]
    · have b1 : (d == 1) = false := by simp [h1]
      by_cases h2:d=2
      · have hd : doT t d ty N b = (((zpo t N).1.2, zzg (xsT t N)), (zpo t N).2) := by unfold doT; rw [if_neg h0, if_neg h1, if_pos h2]; rfl
        rw [hd]
        subst h2
        have hlen:(((xsT t N).map fe).map cW).length=(xsT t N).length:=by simp
        have hlo:=fun L hL hT fr R=>zIn (L:=L) (fr:=fr) (h:=h) (R:=R) (trB h.blks.length bs (zpo t N).2 js) ts (xsT t N) (by omega) hL hT
        have hfz:=fun hh m=>zsL (h1:=hh) (nb:=h.blks.length+(bs.length+(4+js.length))) (nt:=h.toks.length+ts.length) (n:=m) (s:=.nsl) (es:=eI .u8 (zzg (xsT t N))) (.inl rfl) (by simp)
        simp only [zIf] at hfz
        generalize xsT t N=xs at*
        generalize hlw:(xs.map fe).map cW=lw at*
        simp -implicitDefEqProofs [zcp,zal,zaj,hl1,zpP,zaa.okV,zaa.cells,zaf,hC,hL,hT,hlen]
        generalize hF:run ctx _ (.loop _) _ _=R
        obtain ⟨fr',jk,us,rfl,f7,f8⟩:=hlo _ (by first | exact hL | simpa using hL) (by first | exact hT | simpa using hT) _ _ hF (by simp) (by simp) (by simp) (by simp)
        simp at f8
        simp -implicitDefEqProofs [f7,f8,hfz,zm4,htr,zal,zaj,hl1]
      · have b2 : (d == 2) = false := by simp [h2]
        have hd:doT t d ty N b=(((zy0 t).2,[]),(zy0 t).1):=by unfold doT;rw [if_neg h0,if_neg h1,if_neg h2]
        rw [hd]
        simp -implicitDefEqProofs [zcp,zal,zaj,hl1,zpP,zaa.okV,zaa.cells,zaf,b0,b1,b2,hR,hL,htr0]
end Go.Av
namespace Go.Av
theorem zCJ {l m:List Int} (hl:inB l) (hm:inB m) (h:byA l=byA m):l=m:=by
  unfold byA at h
  have h1 : l.map (fun n => UInt8.ofNat n.toNat) = m.map fun n => UInt8.ofNat n.toNat := by
    have:=congrArg (fun s:ByteArray=>s.data.toList) h
    simpa using this
  have hlen:l.length=m.length:=by simpa using congrArg List.length h1
  rw [← zHf l 0,← zHf m 0,← hlen]
  refine zfv fun i hi=>?_
  have h2:(l.map (fun n=>UInt8.ofNat n.toNat))[i]?=(m.map fun n=>UInt8.ofNat n.toNat)[i]?:=by rw [h1]
  rw [List.getElem?_map,List.getElem?_map,zsp (d:=0) hi,zsp (d:=0) (by omega)] at h2
  simp only [Option.map_some,Option.some.injEq] at h2
  have r1:=hl i hi
  have r2:=hm i (by omega)
  have h3:=congrArg UInt8.toNat h2
  simp only [UInt8.toNat_ofNat'] at h3
  omega
def W2 (n:Nat) (a b:Tc):List (List zaa):=trW n 0 a++trW n 4 b
theorem zOC (n:Nat) (a:Tc):trB n [] a []=trW n 0 a:=by simp [trB]
theorem zLz (n:Nat) (a b:Tc):trB n [] a (trW n 4 b)=W2 n a b:=by simp [trB,W2]
theorem zKM (n:Nat) (a b:Tc):trB n (trW n 0 a) b []=W2 n a b:=by simp [trB,W2,trW]
theorem zHO (n B:Nat) (a:Tc):(trW n B a).length=4:=rfl
theorem zxK (L:Lim) (h:zab):zae ctx L zbL [] h=some (.bool true,h):=by
  rw [zj8]
  have hb1:inB [1]:=fun i hi=>by simp at hi;subst hi;decide
  have hb2:inB [2]:=fun i hi=>by simp at hi;subst hi;decide
  have hp0:inB p0:=ztY (by decide)
  have heq:∀ i,eqA .ptr (pA h.blks.length i 0) .nilp=some false:=fun i=>rfl
  have k0:=zDC p0 hp0
  have a1:=zyp k0 1 hb1
  have a2:=zyp k0 1 hb2
  have c0:=zHj p0
  have e1:=zOs
  have e2:=zOw
  have s1:=zOx
  have s2:=zOy
  have l1:=zOr
  have l2:=zOz
  have ne:=zOA
  have hN1:=fun L hL hnb=>zx8 L h [] [] true p0 hp0 (by decide) hL hnb
  have hN2:=fun L hL hnb=>zx8 L h (trW h.blks.length 0 (zna p0)) [] true p0 hp0 (by decide) hL hnb
  simp only [if_pos zPI] at hN1 hN2
  have hA1:=fun L hL=>zpq L h [] (trW h.blks.length 4 (zna p0)) [] (zna p0) 1 true [1] hb1 (by decide) (by decide) k0.s (by omega) k0.tg hL
  have hA2:=fun L hL=>zpq L h (trW h.blks.length 0 (zmi (zna p0) 1 [1]).1) [] [] (zna p0) 1 true [2] hb2 (by decide) (by decide) k0.s (by omega) k0.tg hL
  have hS1:=fun L hL hT=>zm8 L h [] (trW h.blks.length 4 (zmi (zna p0) 1 [2]).1) [] (zmi (zna p0) 1 [1]).1 32 (by have:=a1.1.k;have:=a1.1.l;omega) a1.1.s (by have:=a1.2;simp at this;omega) a1.1.tg (fun _=>by decide) hL hT
  have hS2:=fun L hL hT=>zm8 L h (trW h.blks.length 0 (zm7 (zmi (zna p0) 1 [1]).1 32).2) [] [] (zmi (zna p0) 1 [2]).1 32 (by have:=a2.1.k;have:=a2.1.l;omega) a2.1.s (by have:=a2.2;simp at this;omega) a2.1.tg (fun _=>by decide) hL hT
  have q1:inB (zm7 (zmi (zna p0) 1 [1]).1 32).1.1:=zDx a1.1 32
  have q2:inB (zm7 (zmi (zna p0) 1 [2]).1 32).1.1:=zDx a2.1 32
  rw [e1] at hA1
  rw [e2] at hA2
  rw [s1] at hS1
  rw [s2] at hS2
  generalize zm7 (zmi (zna p0) 1 [1]).1 32=r1 at*
  generalize zm7 (zmi (zna p0) 1 [2]).1 32=r2 at*
  generalize zmi (zna p0) 1 [1]=u1 at*
  generalize zmi (zna p0) 1 [2]=u2 at*
  generalize zna p0=t0 at*
  have hby:(byA r1.1.1==byA r2.1.1)=false:=by
    cases hc:byA r1.1.1==byA r2.1.1 with
    | false=>rfl
    | true=>exact absurd (zCJ q1 q2 ((Go.MapKept.bytes_beq _ _).1 hc)) ne
  simp only [zOC,zLz,zKM,zHO,List.length_nil] at hN1 hN2 hA1 hA2 hS1 hS2
  have hslP:zaE (rep [zaa.int .u8 0] 16) [(0,1,.int .u8 1),(1,1,.int .u8 1),(2,1,.int .u8 1),(3,1,.int .u8 0),(4,1,.int .u8 0),(5,1,.int .u8 0),(6,1,.int .u8 0),(7,1,.int .u8 0),(8,1,.int .u8 2),(9,1,.int .u8 1),(10,1,.int .u8 32),(11,1,.int .u8 0),(12,1,.int .u8 0),(13,1,.int .u8 0),(14,1,.int .u8 0),(15,1,.int .u8 0)]=some (cI .u8 p0):=rfl
  have hch:chunks 1 16 (cI .u8 p0)=eI .u8 p0:=rfl
  have hsl1:zaE (rep [zaa.int .u8 0] 1) [(0,1,.int .u8 1)]=some (cI .u8 [1]):=rfl
  have hsl2:zaE (rep [zaa.int .u8 0] 1) [(0,1,.int .u8 2)]=some (cI .u8 [2]):=rfl
  have hch1:∀ x,chunks 1 1 (cI .u8 [x])=eI .u8 [x]:=fun x=>rfl
  generalize p0=p at*
  simp -implicitDefEqProofs [zel,zav,hslP,hch,hsl1,hsl2,hch1,hN1,hN2,hA1,hA2,hS1,hS2,bne,heq,l1,l2,hby]
end Go.Av
namespace Go.Av
structure zdW where
  d:Int
  ty:Int
  n:Int
  b:List Int
def zdW.cells (x:zdW):List zaa:=[.int .i64 x.d,.int .i64 x.ty,.int .i64 x.n,.vsl false (eI .u8 x.b)]
def zmN:zdW:=⟨0,0,0,[]⟩
def zdW.few (x:zdW):Prop:=x.b.length≤400∧(x.n≤1048576→x.n≤100)
theorem zv4 (kd:IntKind) (c:Bool) (l:List zdW) (i:Nat) (h:i < l.length):zc1 none 4 (.vsl c (l.map zdW.cells)) (.int kd (i:Int))=some (.vptr (gd l zmN i).cells 0):=by
  simp [zc1,asI,gd,List.getD,h,zdW.cells]
theorem zEY {fr:Fr} {h:zab} {R:Option (AEx × Fr × zab)} (hF:run ctx (zav h) (.loop zbq) fr (hx h [] [])=R) (l:List zdW) (hl:l.length < 9223372036854775808)
    (h7:fr 7=.vsl false (l.map zdW.cells)) (h8:fr 8=.int .i64 (l.length:Int)) (h9:fr 9=.int .i64 0):
    ∃ e fr' bs,R=some (e,fr',hx h bs [])∧(e=.exit 0∧(∀ x∈l,x.few)∧fr' 0=fr 0∧fr' 1=fr 1∨e=.ret∧fr' 4=.bool false∧¬∀ x∈l,x.few):=by
  obtain ⟨e,fr',h',rfl,⟨bs,rfl,hp⟩,hk⟩:=zan hF l.length
    (fun k fr hh=>fr 9=.int .i64 (k:Int)∧∃ bs,hh=hx h bs []∧∀ i,i < k→(gd l zmN i).few)
    (fun e fr hh=>∃ bs,hh=hx h bs []∧(e=.exit 0∧(∀ x∈l,x.few)∨e=.ret∧fr 4=.bool false∧¬∀ x∈l,x.few))
    ⟨h9, [], rfl, fun i hi => by omega⟩ (by
      rintro k fr1 hh hkN hkeep ⟨g9,bs,rfl,hall⟩
      have g7:=(hkeep 7 (by decide)).trans h7
      have g8:=(hkeep 8 (by decide)).trans h8
      by_cases hlt:k < l.length
      · have hltI : (k : Int) < (l.length : Int) := by omega
        have w0:IntKind.i64.wrap ((k:Int)+1)=k+1:=wrap_i64 (by omega) (by omega)
        have ia:=zv4 .i64 false l k hlt
        have hm:=zDr (d:=zmN) hlt
        have hstep : (gd l zmN k).few → ∀ i, i < k + 1 → (gd l zmN i).few := fun hf i hi => by
          by_cases e:i=k
          · rw [e];exact hf
          · exact hall i (by omega)
        have hno:¬(gd l zmN k).few→¬∀ x∈l,x.few:=fun hn ha=>hn (ha _ hm)
        generalize gd l zmN k=x at*
        obtain ⟨d,ty,n,b⟩:=x
        simp only [zdW.cells] at ia
        have hno2:=fun hn:¬zdW.few ⟨d,ty,n,b⟩=>hno hn
        simp only [zdW.few] at hstep
        generalize l.map zdW.cells=lc at*
        by_cases h1:400 < b.length
        · have h1' : (400 : Int) < (b.length : Int) := by omega
          simp -implicitDefEqProofs [zbq,zav,g7,g8,g9,hltI,ia,zag,zaf,zbV,zai,h1']
          refine ⟨⟨_,rfl⟩,?_⟩
          have:=hno2 (fun hf=>by have h5:=hf.1;have h6:=hf.2;simp only at h5 h6;omega)
          simpa using this
        · have h1' : ¬ (400 : Int) < (b.length : Int) := by omega
          by_cases h2:100 < n
          · by_cases h3:n≤1048576
            · simp -implicitDefEqProofs [zbq,zav,g7,g8,g9,hltI,ia,zag,zaf,zbV,zai,h1',h2,h3]
              refine ⟨⟨_,rfl⟩,?_⟩
              have:=hno2 (fun hf=>by have h5:=hf.1;have h6:=hf.2;simp only at h5 h6;omega)
              simpa using this
            · simp -implicitDefEqProofs [zbq,zav,g7,g8,g9,hltI,ia,zag,zaf,zbV,zai,h1',h2,h3,w0]
              exact ⟨hlt,⟨_,rfl⟩,hstep (by omega)⟩
          · simp -implicitDefEqProofs [zbq,zav,g7,g8,g9,hltI,ia,zag,zaf,zbV,zai,h1',h2,w0]
            exact ⟨hlt,⟨_,rfl⟩,hstep (by omega)⟩
      · have : k = l.length := by omega
        subst this
        simp [zbq,g8,g9]
        refine ⟨⟨_,rfl⟩,fun x hx=>?_⟩
        obtain ⟨i,hi,rfl⟩:=List.mem_iff_getElem.1 hx
        have:=hall i hi
        rwa [show gd l zmN i=l[i] by simp [gd,List.getD,hi]] at this)
  refine ⟨e,fr',bs,rfl,?_⟩
  rcases hp with ⟨rfl,h1⟩ | h2
  · exact .inl ⟨rfl,h1,hk 0 (by decide),hk 1 (by decide)⟩
  · exact .inr h2
theorem zGZ (L:Lim) (h:zab) (l:List zdW) (hl:l.length < 9223372036854775808) (m:Int):∃ q:Bool,(q=true↔(∀ x∈l,x.few)∧(l.length:Int)≤m)∧zae ctx L zcS [.vsl false (l.map zdW.cells),.int .i64 m] h=some (.bool q,h):=by
  have hlen:(l.map zdW.cells).length=l.length:=by simp
  have hlo:=fun fr R=>zEY (fr:=fr) (h:=h) (R:=R)
  by_cases hq:(∀ x∈l,x.few)∧(l.length:Int)≤m
  · refine ⟨true, ⟨fun _ => hq, fun _ => rfl⟩, ?_⟩
    rw [zhc]
    simp -implicitDefEqProofs [zd7,zav, -List.length_map,hlen]
    generalize hF:run ctx _ (.loop _) _ _=R
    obtain ⟨e,fr',bs,rfl,⟨rfl,h1,f0,f1⟩ | ⟨rfl,f4,h1⟩⟩:=hlo _ _ hF l hl (by simp) (by simp [-List.length_map,hlen]) (by simp)
    · have hm:=hq.2
      simp at f0 f1
      simp -implicitDefEqProofs [f0,f1, -List.length_map,hlen,hm]
    · exact absurd hq.1 h1
  · refine ⟨false, ⟨fun hh => by simp at hh, fun hh => absurd hh hq⟩, ?_⟩
    rw [zhc]
    simp -implicitDefEqProofs [zd7,zav, -List.length_map,hlen]
    generalize hF:run ctx _ (.loop _) _ _=R
    obtain ⟨e,fr',bs,rfl,⟨rfl,h1,f0,f1⟩ | ⟨rfl,f4,h1⟩⟩:=hlo _ _ hF l hl (by simp) (by simp [-List.length_map,hlen]) (by simp)
    · have hm : ¬ (l.length : Int) ≤ m := fun hm => hq ⟨h1, hm⟩
      simp at f0 f1
      simp -implicitDefEqProofs [f0,f1, -List.length_map,hlen,hm]
    · simp -implicitDefEqProofs [f4]
end Go.Av
namespace Go.Av
theorem zN8 (n:Nat) (bs:List (List zaa)) (t:Tc) (js:List (List zaa)):(trB n bs t js)[bs.length+3]?=some (spO n (bs.length+2) t.s):=zc6 bs _ bs.length 3 rfl
noncomputable def stepT (t:Tc) (x:zdW):(Int × List Int) × Tc:=
  if x.d < 0∨x.d > 3 then (((zvA t.g).e,[]),{t with g:=zvA t.g}) else doT t x.d x.ty x.n x.b
theorem zHV (t:Tc) (x:zdW):(stepT t x).2.g.e=(stepT t x).1.1:=by
  unfold stepT
  split
  · rfl
  · exact zOU _ _ _ _ _
theorem zxM {t:Tc} (h:¬t.g.e=0) (x:zdW):stepT t x=((t.g.e,[]),t):=by
  unfold stepT
  split
  · rw [zua h]
  · exact zDM h _ _ _ _
theorem zEZ {t:Tc} (h:t.ok) {x:zdW} (hb:inB x.b) (hx:x.few):(stepT t x).2.ok∧(stepT t x).2.s.c≤t.s.c+300000:=by
  unfold stepT
  split
  · exact ⟨zJa h,by simp only;omega⟩
  · exact zKK h _ _ _ hb hx.1 hx.2
theorem zxN {fr:Fr} {h:zab} {R:Option (AEx × Fr × zab)} (l:List zdW) (hl:l.length≤20) (hb:∀ x∈l,inB x.b) (hf:∀ x∈l,x.few) (t0:Tc) (ht0:t0.ok) (hc0:t0.s.c=0)
    (hF:run ctx (zav h) (.loop zak) fr (hx h (trB h.blks.length [] t0 []) [])=R)
    (h5:fr 5=pA h.blks.length 1 0) (h40:fr 40=.vsl false (l.map zdW.cells)) (h41:fr 41=.int .i64 (l.length:Int)) (h42:fr 42=.int .i64 0):
    ∃ fr' bs ts,R=some (.exit 0,fr',hx h bs ts):=by
  obtain ⟨e,fr',h',rfl,⟨rfl,bs,ts,rfl⟩,hk⟩:=zan hF l.length
    (fun k fr hh=>fr 42=.int .i64 (k:Int)∧∃ t js,hh=hx h (trB h.blks.length [] t js) []∧t.ok∧t.s.c≤300000*k)
    (fun e fr hh=>e=.exit 0∧∃ bs ts,hh=hx h bs ts)
    ⟨h42, t0, [], rfl, ht0, by omega⟩ (by
      rintro k fr1 hh hkN hkeep ⟨g42,t,js,rfl,ht,hc⟩
      have g5:=(hkeep 5 (by decide)).trans h5
      have g40:=(hkeep 40 (by decide)).trans h40
      have g41:=(hkeep 41 (by decide)).trans h41
      by_cases hlt:k < l.length
      · have hltI : (k : Int) < (l.length : Int) := by omega
        have w0:IntKind.i64.wrap ((k:Int)+1)=k+1:=wrap_i64 (by omega) (by omega)
        have ia:=zv4 .i64 false l k hlt
        have hm:=zDr (d:=zmN) hlt
        have hxb:=hb _ hm
        have hxf:=hf _ hm
        generalize gd l zmN k=x at*
        generalize l.map zdW.cells=lc at*
        have hs1:=zEZ ht hxb hxf
        have hs2:=zHV t x
        have hs3:=fun h=>zxM (t:=t) h x
        have hEr:=fun L hL t js=>zBY L h [] js [] t hL
        have hCa:∀ L (t:Tc) (ht:t.tg.length=32) js,zae ctx L zaB [pA h.blks.length 1 0] (hx h (trB h.blks.length [] t js) [])=some (.int .i64 t.s.c,hx h (trB h.blks.length [] t js) []):=fun L t ht js=>zB0 L (hx h (trB h.blks.length [] t js) []) (h.blks.length+1) h.blks.length 0 t.s t.tg ht (zqb [] (zsZ h.blks.length [] t js)) (zqb [] (zN8 h.blks.length [] t js))
        have hAt:∀ L t js,zae ctx L zaM [pA h.blks.length 1 0] (hx h (trB h.blks.length [] t js) [])=some (.int .i64 t.g.k,hx h (trB h.blks.length [] t js) []):=fun L t js=>zK6 L (hx h (trB h.blks.length [] t js) []) (h.blks.length+1) h.blks.length 0 t.g t.tg (zqb [] (zsZ h.blks.length [] t js)) (zqb [] (zxO h.blks.length [] t js))
        have hFi:=fun L hL js=>zAn L h [] js [] t hL
        have hDo:=fun L hL hT js=>zOB L h [] js [] t ht (by omega) x.d x.ty x.n false x.b hxb hxf.1 hxf.2 hL hT
        have hgw:=fun t js y=>zKY h.blks.length [] t js [y] 0
        have hsw:=fun t js y v=>zwa h.blks.length [] t js [y] 0 v
        have hgwG:=fun t js y hh=>zwd h.blks.length [] t js y hh
        have happ:=fun t js w=>zm4 h.blks.length [] t js w
        have hln:=fun t js=>zbP h.blks.length [] t js
        simp only [List.length_nil,Nat.zero_add,Nat.add_zero,List.getElem?_cons_zero,List.set_cons_zero] at hEr hFi hDo hgw hsw hgwG hln
        have hcl:x.cells=[.int .i64 x.d,.int .i64 x.ty,.int .i64 x.n,.vsl false (eI .u8 x.b)]:=rfl
        have h2c:x.cells.length=4:=rfl
        rw [hcl] at ia
        by_cases hd:x.d < 0∨x.d > 3
        · have hst:stepT t x=(((zvA t.g).e,[]),{t with g:=zvA t.g}):=if_pos hd
          rw [hst] at hs1 hs2 hs3
          by_cases he:t.g.e=0
          · obtain ⟨u,hu⟩:∃ u:Tc,u={t with g:=zvA t.g}:=⟨_,rfl⟩
            rw [← hu] at hs1 hs2 hFi
            simp only at hs2
            generalize (zvA t.g).e=e at*
            rcases hd with hd | hd
            · simp -implicitDefEqProofs [zak,zav,g5,g40,g41,g42,hltI,ia,zal,zaj,hln,happ,hgw,hsw,hgwG,zag,zaf,zbV,zai,zao,zas,zaa.under,hEr,hCa,hAt,w0,bne,ht.tg,he,hd,hFi,hs2]
              exact ⟨hlt,u,⟨_,rfl⟩,hs1.1,by have:=hs1.2;simp only at this;omega⟩
            · have hd0 : ¬ x.d < 0 := by omega
              simp -implicitDefEqProofs [zak,zav,g5,g40,g41,g42,hltI,ia,zal,zaj,hln,happ,hgw,hsw,hgwG,zag,zaf,zbV,zai,zao,zas,zaa.under,hEr,hCa,hAt,w0,bne,ht.tg,he,hd,hd0,hFi,hs2]
              exact ⟨hlt,u,⟨_,rfl⟩,hs1.1,by have:=hs1.2;simp only at this;omega⟩
          · have hfs:=zua he
            rw [hfs] at hFi
            have hb0:(t.g.e==0)=false:=by simp [he]
            rcases hd with hd | hd
            · simp -implicitDefEqProofs [zak,zav,g5,g40,g41,g42,hltI,ia,zal,zaj,hln,happ,hgw,hsw,hgwG,zag,zaf,zbV,zai,zao,zas,zaa.under,hEr,hCa,hAt,w0,bne,ht.tg,he,hb0,hd,hFi]
              exact ⟨hlt,t,⟨_,rfl⟩,ht,by omega⟩
            · have hd0 : ¬ x.d < 0 := by omega
              simp -implicitDefEqProofs [zak,zav,g5,g40,g41,g42,hltI,ia,zal,zaj,hln,happ,hgw,hsw,hgwG,zag,zaf,zbV,zai,zao,zas,zaa.under,hEr,hCa,hAt,w0,bne,ht.tg,he,hb0,hd,hd0,hFi]
              exact ⟨hlt,t,⟨_,rfl⟩,ht,by omega⟩
        · have hst:stepT t x=doT t x.d x.ty x.n x.b:=if_neg hd
          rw [hst] at hs1 hs2 hs3
          have hd0:¬x.d < 0:=by omega
          have hd3:¬3 < x.d:=by omega
          by_cases he:t.g.e=0
          · generalize doT t x.d x.ty x.n x.b=r at*
            simp -implicitDefEqProofs [zak,zav,g5,g40,g41,g42,hltI,ia,zal,zaj,hln,happ,hgw,hsw,hgwG,zag,zaf,zbV,zai,zao,zas,zaa.under,hEr,hCa,hAt,w0,bne,ht.tg,he,hd0,hd3,hDo,hs2]
            exact ⟨hlt,r.2,⟨_,rfl⟩,hs1.1,by have:=hs1.2;omega⟩
          · rw [hs3 he] at hDo
            have hb0:(t.g.e==0)=false:=by simp [he]
            simp -implicitDefEqProofs [zak,zav,g5,g40,g41,g42,hltI,ia,zal,zaj,hln,happ,hgw,hsw,hgwG,zag,zaf,zbV,zai,zao,zas,zaa.under,hEr,hCa,hAt,w0,bne,ht.tg,he,hb0,hd0,hd3,hDo]
            exact ⟨hlt,t,⟨_,rfl⟩,ht,by omega⟩
      · have : k = l.length := by omega
        subst this
        simp [zak,g41,g42]
        exact ⟨_,_,rfl⟩)
  exact ⟨fr',bs,ts,rfl⟩
theorem zBU (L:Lim) (h:zab) (p:List Int) (hp:inB p) (l:List zdW) (hl:l.length < 9223372036854775808) (hb:∀ x∈l,inB x.b):
    zae ctx L za7 [.vsl false (eI .u8 p),.vsl false (l.map zdW.cells)] h=some (.bool true,h):=by
  obtain ⟨q,hq1,hq2⟩:∃ q:Bool,(q=true↔(∀ x∈l,x.few)∧(l.length:Int)≤20)∧∀ L h,zae ctx L zcS [.vsl false (l.map zdW.cells),.int .i64 20] h=some (.bool q,h):=by
    by_cases hc:(∀ x∈l,x.few)∧(l.length:Int)≤20
    · refine ⟨true, ⟨fun _ => hc, fun _ => rfl⟩, fun L h => ?_⟩
      obtain ⟨q,h1,h2⟩:=zGZ L h l hl 20
      rw [h2,h1.2 hc]
    · refine ⟨false, ⟨fun hh => by simp at hh, fun hh => absurd hh hc⟩, fun L h => ?_⟩
      obtain ⟨q,h1,h2⟩:=zGZ L h l hl 20
      cases q with
      | false=>exact h2
      | true=>exact absurd (h1.1 rfl) hc
  rw [zfw]
  have hlen:(l.map zdW.cells).length=l.length:=by simp
  have hSp:=zxK
  by_cases hpl:p.length≤1000
  · have hpI : ¬ (1000 : Int) < (p.length : Int) := by omega
    cases q with
    | false=>
      generalize hlc:l.map zdW.cells=lc at*
      simp -implicitDefEqProofs [zaA,zav,hSp,hpI,hq2]
    | true=>
      obtain ⟨hf,hl20⟩:=hq1.1 rfl
      have hN:=fun L hL hnb=>zx8 L h [] [] false p hp (by omega) hL hnb
      by_cases he:(zkC p).2.2=0
      · simp only [if_pos he] at hN
        have hlo:=fun fr R=>zxN (fr:=fr) (h:=h) (R:=R) l (by omega) hb hf (zna p) (zDC p hp) (zHj p)
        have heq:eqA .ptr (pA h.blks.length 1 0) .nilp=some false:=rfl
        generalize zna p=t0 at*
        simp only [List.length_nil,Nat.zero_add,Nat.add_zero] at hN
        generalize hlc:l.map zdW.cells=lc at*
        simp -implicitDefEqProofs [zaA,zav,hSp,hpI,hq2,hN,bne,heq]
        generalize hF:run ctx _ (.loop _) _ _=R
        obtain ⟨fr',bs,ts,rfl⟩:=hlo _ _ hF (by simp) (by simp [hlc]) (by simp [hlen]) (by simp)
        simp
      · simp only [if_neg he] at hN
        have be:((zkC p).2.2==0)=false:=by simp [he]
        generalize hlc:l.map zdW.cells=lc at*
        have heq:eqA .ptr .nilp .nilp=some true:=rfl
        simp -implicitDefEqProofs [zaA,zav,hSp,hpI,hq2,hN,bne,be,heq]
  · have hpI : (1000 : Int) < (p.length : Int) := by omega
    simp -implicitDefEqProofs [zaA,zav,hSp,hpI]
end Go.Av
