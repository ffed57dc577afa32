/- How a law's arguments are read, and equations by which the machine's runs are reckoned. -/
import Derived.Test.YtbookmjmhfoolaaGreatDoorMV4
import Derived.Carry
import Derived.OpenShut
import Derived.MapKept
set_option linter.unusedSimpArgs false
set_option linter.unusedVariables false
namespace Go.Av
open Go.RowKit
inductive Ty where
  | bool | int (k:IntKind) | str | sl (e:List Ty)
mutual
inductive zmZ:Ty→zaa→Prop
  | bool (b:Bool):zmZ .bool (.bool b)
  | int (k:IntKind) (n:Int) (h:(Lit.int k n).wf=true):zmZ (.int k) (.int k n)
  | str (x:ByteArray) (h:x.size≤maxLen):zmZ .str (.str x)
  | sl (ts:List Ty) (es:List (List zaa)) (hl:es.length≤maxLen) (h:ziM ts es):zmZ (.sl ts) (.vsl false es)
inductive zdD:List Ty→List zaa→Prop
  | nil:zdD [] []
  | cons (t:Ty) (ts:List Ty) (c:zaa) (cs:List zaa) (h:zmZ t c) (ht:zdD ts cs):zdD (t :: ts) (c :: cs)
inductive ziM:List Ty→List (List zaa)→Prop
  | nil (ts:List Ty):ziM ts []
  | cons (ts:List Ty) (e:List zaa) (es:List (List zaa)) (h:zdD ts e) (ht:ziM ts es):ziM ts (e :: es)
end
theorem zmZ.cell {t:Ty} {c:zaa} (h:zmZ t c):c.isCell=true:=by cases h <;> rfl
theorem zdD.cell:∀ {ts:List Ty} {cs:List zaa},zdD ts cs→∀ c∈cs,c.isCell=true
  | _,_,.nil=>by simp
  | _, _, .cons t ts c cs h ht => fun x hx => by
    rcases List.mem_cons.1 hx with rfl | hx
    · exact h.cell
    · exact ht.cell x hx
theorem zdD.length:∀ {ts:List Ty} {cs:List zaa},zdD ts cs→cs.length=ts.length
  | _,_,.nil=>rfl
  | _,_,.cons t ts c cs h ht=>by simp [ht.length]
theorem zdD.append:∀ {ts us:List Ty} {cs ds:List zaa},zdD ts cs→zdD us ds→zdD (ts++us) (cs++ds)
  | _,_,_,_,.nil,h=>h
  | _,_,_,_,.cons t ts c cs h ht,h'=>.cons t _ c _ h (ht.append h')
def shF (P:Program) (rec:TypeId→Option (List Ty)) (z:Nat):Nat→List Field→Option (List Ty)
  | o,[]=>if o=z then some [] else none
  | o, f :: fs => if f.offset = o then
      match rec f.type with
      | some l=>if l.length=P.cellsOf f.type then (shF P rec z (o+P.cellsOf f.type) fs).map (l++·) else none
      | none=>none
    else none
def shT (P:Program):Nat→TypeId→Option (List Ty)
  | 0,_=>none
  | d + 1, t => match P.underlying t with
    | some .bool=>some [.bool]
    | some (.int k)=>some [.int k]
    | some .string=>some [.str]
    | some (.slice e) => match shT P d e with
      | some l=>if l.length=P.cellsOf e∧0 < l.length then some [.sl l] else none
      | none=>none
    | some (.struct fs)=>shF P (shT P d) (P.cellsOf t) 0 fs.toList
    | some (.array n e) => match shT P d e with
      | some l=>if P.cellsOf t=n*P.cellsOf e∧l.length=P.cellsOf e then some (zHG l n) else none
      | none=>none
    | _=>none
def st0 (W:World):St:=⟨W,⟨[],[]⟩,[],[],0,0⟩
theorem zQi (W:World) (X o:Nat):Imm (st0 W) X o:=⟨fun b _ h=>by simp [st0] at h,fun t sz n _ h=>by simp [st0] at h⟩
section
variable {H:Type} {enc:TypeId × Value→H} {P:Program} {W:World} {base:Nat} {spare:Nat→Bool} {held:Bool}
theorem zGg {X o:Nat} {avs:List zaa} {cs:List Value} (hr:zbw (st0 W) avs cs) (hk:∀ c∈avs,c.isCell=true) (hc:∀ (i:Nat) v,cs[i]?=some v→World.at W X (o+i)=some v):zeO (st0 W) X o avs:=by
  refine zeO.of_get fun i c hi=>?_
  obtain ⟨v,hv,hrep⟩:=hr.get i c hi
  exact ⟨v,hc i v hv,zQi W _ _,hk c (List.mem_of_getElem? hi),hrep⟩
theorem zMh (a:Addr) (k:Nat):(a.add k).block=a.block∧(a.add k).off=a.off+k:=by
  unfold Addr.add
  split <;> simp_all
theorem zDn {a:Addr} {n:Nat} {cs:List Value} (h:W.cells? base a n=some cs) (hn:0 < n):a.spot=none∧cs.length=n∧∀ (i:Nat) v,cs[i]?=some v→World.at W a.block (a.off+i)=some v:=by
  unfold World.cells? at h
  split at h
  · have hlen : cs.length = n := by simpa using mapM_some_length h
    have key:∀ i:Nat,i < n→W.cell? (a.add i)=cs[i]?:=fun i hi=>mapM_some_get h i i (by simp [hi])
    have hs:a.spot=none:=by
      have h0:=key 0 hn
      rw [List.getElem?_eq_getElem (by omega)] at h0
      unfold World.cell? at h0
      split at h0
      · split at h0
        · simp at h0
        · rename_i hsp
          simpa [Addr.add] using hsp
      · simp at h0
    refine ⟨hs,hlen,fun i v hi=>?_⟩
    have hlt:=(List.getElem?_eq_some_iff.1 hi).1
    have:=key i (by omega)
    rw [hi] at this
    unfold World.at
    rw [← this]
    congr 1
    simp [Addr.add,hs]
    intro h0
    subst h0
    cases a
    simp at hs
    subst hs
    rfl
  · simp at h
def sEq (W:World) (tys:List Ty) (cs:List Value):Prop:=∃ avs,zdD tys avs∧zbw (st0 W) avs cs
theorem sEq.append {t u:List Ty} {a b:List Value} (h:sEq W t a) (k:sEq W u b):sEq W (t++u) (a++b):=by
  obtain ⟨x,h1,h2⟩:=h
  obtain ⟨y,k1,k2⟩:=k
  exact ⟨x++y,h1.append k1,h2.append k2⟩
theorem ziM.of_all {ts:List Ty}:∀ {es:List (List zaa)},(∀ e∈es,zdD ts e)→ziM ts es
  | [],_=>.nil ts
  | e :: es,h=>.cons ts e es (h e (by simp)) (ziM.of_all fun x hx=>h x (by simp [hx]))
theorem zz0 {n:Nat} {cs:List Value} {rec:TypeId→Option (List Ty)} {z:Nat} (hz:cs.length=z)
    (ih:∀ (t:TypeId) (tys:List Ty) (cs':List Value),rec t=some tys→(∃ x,DataW.trod enc P W base spare held n t cs'=some x)→sEq W tys cs'):
    ∀ (fs:List Field) (o:Nat) (tys:List Ty),shF P rec z o fs=some tys→(∀ f∈fs,∃ x,DataW.trod enc P W base spare held n f.type ((cs.drop f.offset).take (P.cellsOf f.type))=some x)→
      sEq W tys (cs.drop o)
  | [], o, tys, h, _ => by
    simp only [shF] at h
    split at h
    · rename_i ho
      obtain rfl:=Option.some.inj h
      rw [List.drop_eq_nil_of_le (by omega)]
      exact ⟨[],.nil,.nil⟩
    · simp at h
  | f :: fs, o, tys, h, hf => by
    simp only [shF] at h
    split at h
    · rename_i ho
      split at h
      · rename_i l hl
        split at h
        · obtain ⟨r,hr,rfl⟩:=map_some h
          have h1:=ih f.type l _ hl (hf f (by simp))
          rw [ho] at h1
          have h2:=zz0 hz ih fs _ r hr fun g hg=>hf g (by simp [hg])
          have:=h1.append h2
          rwa [← List.drop_drop,List.take_append_drop] at this
        · simp at h
      · simp at h
    · simp at h
theorem zz1 {n sz:Nat} {cs:List Value} {l:List Ty} (hz:cs.length=n*sz) (hi:∀ i,i < n→sEq W l ((cs.drop (i*sz)).take sz)):∀ k,k≤n→sEq W (zHG l k) (cs.drop ((n - k)*sz))
  | 0, _ => by
    rw [Nat.sub_zero,List.drop_eq_nil_of_le (by omega)]
    exact ⟨[],.nil,.nil⟩
  | k + 1, hk => by
    have h1:=hi (n - (k+1)) (by omega)
    have h2:=zz1 hz hi k (by omega)
    have:=h1.append h2
    have e:(n - k)*sz=(n - (k+1))*sz+sz:=by
      rw [← Nat.succ_mul];congr 1;omega
    rwa [e,← List.drop_drop,List.take_append_drop] at this
theorem zmj:∀ (d:Nat) {t:TypeId} {tys:List Ty} {fuel:Nat} {cs:List Value} {x:DataW H × List MemPlace},shT P d t=some tys→
    DataW.trod enc P W base spare held fuel t cs=some x→sEq W tys cs
  | 0,t,tys,fuel,cs,x,hs,h=>by simp [shT] at hs
  | d + 1, t, tys, fuel, cs, x, hs, h => by
    simp only [shT] at hs
    split at hs
    · rename_i hu
      obtain rfl:=Option.some.inj hs
      cases fuel with
      | zero=>simp [DataW.trod] at h
      | succ n=>
        unfold DataW.trod at h
        rw [hu] at h
        split at h <;> simp_all
        exact ⟨_,.cons _ _ _ _ (.bool _) .nil,.cons _ _ _ _ (.bool _) .nil⟩
    · rename_i k hu
      obtain rfl:=Option.some.inj hs
      cases fuel with
      | zero=>simp [DataW.trod] at h
      | succ n=>
        unfold DataW.trod at h
        rw [hu] at h
        split at h <;> simp_all
        obtain ⟨⟨rfl,hw⟩,_⟩:=h
        exact ⟨_,.cons _ _ _ _ (.int _ _ hw) .nil,.cons _ _ _ _ (.int _ _) .nil⟩
    · rename_i hu
      obtain rfl:=Option.some.inj hs
      cases fuel with
      | zero=>simp [DataW.trod] at h
      | succ n=>
        unfold DataW.trod at h
        rw [hu] at h
        split at h <;> simp_all
        exact ⟨_,.cons _ _ _ _ (.str _ h.1) .nil,.cons _ _ _ _ (.str _) .nil⟩
    · rename_i e hu
      split at hs
      · rename_i l hl
        split at hs
        · rename_i hlen
          obtain rfl:=Option.some.inj hs
          rcases DataW.trod_slice hu h with ⟨rfl,_⟩ | ⟨a,len,cap,elems,rest,n,rfl,rfl,_,hb,hlc,hcm,hel,hget,_⟩
          · exact ⟨[.vsl false []],.cons _ _ _ _ (.sl l [] (by simp) (.nil l)) .nil,.cons _ _ _ _ (.vsl0 false none 0 (by simp) (fun _=>rfl)) .nil⟩
          · subst hel
            have key : ∀ i : Nat, i < elems.length → (a.add (i * P.cellsOf e)).spot = none ∧ ∃ x : List zaa, zdD l x ∧ zeO (st0 W) a.block (a.off + i * P.cellsOf e) x := fun i hi => by
              have h1:=hget i hi
              rw [List.getElem?_eq_getElem hi] at h1
              obtain ⟨cs',h2,h3⟩:=Option.bind_eq_some_iff.1 h1
              obtain ⟨avs,g1,g2⟩:=zmj d hl h3
              obtain ⟨k1,k2,k3⟩:=zDn h2 (by omega)
              obtain ⟨b1,b2⟩:=zMh a (i*P.cellsOf e)
              refine ⟨k1,avs,g1,zGg g2 g1.cell fun j v hj=>?_⟩
              have:=k3 j v hj
              rw [b1,b2] at this
              exact this
            by_cases h0:elems.length=0
            · rw [h0]
              exact ⟨[.vsl false []],.cons _ _ _ _ (.sl l [] (by simp) (.nil l)) .nil,.cons _ _ _ _ (.vsl0 false (some a) cap (by simp) (by simp)) .nil⟩
            · let f : Nat → List zaa := fun i => if h : i < elems.length then (key i h).2.choose else []
              have hf : ∀ i, i < elems.length → zdD l (f i) ∧ zeO (st0 W) a.block (a.off + i * P.cellsOf e) (f i) := fun i hi => by
                simp only [f,dif_pos hi]
                exact (key i hi).2.choose_spec
              have hsp:=(key 0 (by omega)).1
              rw [Nat.zero_mul] at hsp
              replace hsp:a.spot=none:=by simpa [Addr.add] using hsp
              obtain ⟨X,o,sp⟩:=a
              simp only [] at hsp
              subst hsp
              refine ⟨[.vsl false ((List.range elems.length).map f)],.cons _ _ _ _ (.sl l _ (by simp;omega) (.of_all fun y he=>?_)) .nil,.cons _ _ _ _ (.vsl false _ X o (P.cellsOf e) cap elems.length (zg0.of_get fun i y he=>?_) (by simp) hlc (by simp)) .nil⟩
              · obtain ⟨i,hi,rfl⟩:=List.mem_map.1 he
                exact (hf i (by simpa using hi)).1
              · have hi : i < elems.length := by have := (List.getElem?_eq_some_iff.1 he).1; simpa using this
                rw [List.getElem?_map,List.getElem?_range hi] at he
                obtain rfl:=Option.some.inj he
                exact ⟨by rw [(hf i hi).1.length];exact hlen.1,(hf i hi).2⟩
        · simp at hs
      · simp at hs
    · rename_i fs hu
      obtain ⟨xs,n,rfl,_,hl,hlen,hf⟩:=DataW.trod_struct hu h
      have := zz0 (enc := enc) (base := base) (spare := spare) (held := held) (n := n) hl (fun t tys cs' h1 ⟨x, h2⟩ => zmj d h1 h2) fs.toList 0 tys hs fun f hfm => by
        obtain ⟨i,hi⟩:=List.mem_iff_getElem?.1 hfm
        have hi':fs[i]?=some f:=by simpa using hi
        have hlt:=(Array.getElem?_eq_some_iff.1 hi').1
        exact ⟨_,(hf i f hi').trans (List.getElem?_eq_getElem (by omega))⟩
      simpa using this
    · rename_i n e hu
      split at hs
      · rename_i l hl
        split at hs
        · rename_i hz
          obtain rfl:=Option.some.inj hs
          obtain ⟨xs,m,rfl,_,hlc,hlen,hget⟩:=DataW.trod_array hu h
          have:=zz1 (W:=W) (n:=n) (sz:=P.cellsOf e) (cs:=cs) (l:=l) (by rw [hlc];exact hz.1) (fun i hi=>zmj d hl ((hget i hi).trans (List.getElem?_eq_getElem (by omega)))) n (Nat.le_refl _)
          simpa using this
        · simp at hs
      · simp at hs
    · simp at hs
theorem zz2 {d:Nat} {t:TypeId} {tys:List Ty} {v:Value} {dd:DataW H} {ps:List MemPlace} (hs:shT P d t=some tys) (hok:Value.okWide P W .any base t v) (h:DataW.Trod enc P W 0 spare held t v dd ps):
    (∃ avs,zdD tys avs∧Rep (st0 W) (.agg avs) v∧∃ cs,v=.agg cs)∨(∃ ty c,tys=[ty]∧zmZ ty c∧Rep (st0 W) c v∧∀ cs,v≠.agg cs):=by
  obtain ⟨fuel,h⟩:=h
  obtain ⟨avs,h1,h2⟩:=zmj d hs h
  by_cases hv:∃ cs,v=.agg cs
  · obtain ⟨cs,rfl⟩:=hv
    exact .inl ⟨avs,h1,.agg avs cs (by simpa [Value.cells] using h2) h1.cell,cs,rfl⟩
  · right
    have e:v.cells=#[v]:=by
      cases v <;> first | rfl | exact (hv ⟨_,rfl⟩).elim
    rw [e] at h2
    cases h2 with
    | cons c _ cs _ hc ht=>
      cases ht
      cases h1 with
      | cons ty ts _ _ g1 g2=>
        cases g2
        exact ⟨ty,c,rfl,g1,hc,fun cs hcs=>hv ⟨cs,hcs⟩⟩
end
theorem zHu {C:Ctx} {P:Program} (hC:zwq C P) {W:World} {f:FuncId} {F:AFn} {args:List zaa} {cargs:Array Value} {h':zab} (hF:C.fns f=some F)
    (hv:zag C ⟨0,0,0,0⟩ f args ⟨[],[]⟩=some (.bool true,h')) (hg:∀ g cs,C.glob g=some cs→zpn (st0 W) g cs) (hargs:zbw (st0 W) args cargs.toList):
    Calls P f cargs W fun e W'=>e=.returned (.bool true)∧Below W.heap.size W W':=by
  obtain ⟨⟨_,hc⟩,_⟩:=zHq hC hv
  have hsim:Sim C (st0 W):=⟨rfl,rfl,fun b X cs hb=>by simp [st0] at hb,fun b b' X hb=>by simp [st0] at hb,fun t t' X z z' ht=>by simp [st0] at ht,fun b t X z hb=>by simp [st0] at hb,fun t X z ht=>by simp [st0] at ht,hg⟩
  obtain ⟨nx,w',h1,h2⟩:=hc (st0 W) cargs rfl hsim ⟨Nat.le_refl _,Nat.le_refl _,Nat.le_refl _,Nat.le_refl _⟩ hargs
  obtain ⟨fn,fl,g1,g2,g3⟩:=hC.fns f F hF
  have hb:∃ x,fn.body=some x:=by
    unfold cfn at g2
    cases hx:fn.body with
    | some x=>exact ⟨x,rfl⟩
    | none=>rw [hx] at g2;simp at g2
  obtain ⟨x,hx⟩:=hb
  have he:=zr3 g1 hx g3 cargs W
  have h1':(callFunc f cargs).run P W=.ok nx w':=h1
  rw [he] at h1'
  injection h1' with e1 e2
  subst e1 e2
  rcases h2 with ⟨cv,h3 | h3,_⟩ | ⟨f',args',h3,h4⟩
  · simp at h3
  · simp at h3
  · injection h3 with e1 e2
    subst e1 e2
    refine h4.mono fun e W' hgd=>?_
    cases e with
    | returned cv=>
      obtain ⟨s',rfl,_,_,hle,hrep⟩:=hgd
      cases hrep
      have hk:=hle.kept
      exact ⟨rfl, hk.os, hk.tape, hk.out, hk.size, fun k hlt => hk.heap k hlt fun ht => by
        rcases ht with ⟨b,hb⟩ | ⟨t,z,hz⟩
        · simp [st0] at hb
        · simp [st0] at hz⟩
    | panicked _=>exact hgd.elim
    | outgrown=>exact hgd.elim
end Go.Av
namespace Go.Av
abbrev iv (d:Nat) (o:VOp):AI:=⟨some d,.v o,none,[],0,0⟩
abbrev ir (d:Nat) (o:ROp):AI:=⟨some d,.r o,none,[],0,0⟩
abbrev ic (d:Nat) (o:COp):AI:=⟨some d,.c o,none,[],0,0⟩
abbrev jc (o:COp):AI:=⟨none,.c o,none,[],0,0⟩
def zaR {α:Type} (x:α):Nat→List α
  | 0=>[]
  | n+1=>x :: zaR x n
def ifK {α:Type} (b:Bool) (x y:α):α:=if b=true then x else y
@[simp] theorem zOb {α:Type} (x y:α):ifK true x y=x:=rfl
@[simp] theorem zMt {α:Type} (x y:α):ifK false x y=y:=rfl
noncomputable section
variable (C:Ctx) (L:Lim) (fr:Fr) (h:zab)
def zJp (r:Option (AEx × Fr × zab)) (b:AC):Option (AEx × Fr × zab):=
  r.bind fun r => match r.1 with
    | .normal=>run C L b r.2.1 r.2.2
    | _=>some r
@[simp] theorem zMv (b:AC):zJp C L none b=none:=rfl
@[simp] theorem zJr (b:AC):zJp C L (some (.normal,fr,h)) b=run C L b fr h:=rfl
@[simp] theorem zMx (b:AC) (i:Nat):zJp C L (some (.exit i,fr,h)) b=some (.exit i,fr,h):=rfl
@[simp] theorem zMz (b:AC) (i:Nat):zJp C L (some (.goto i,fr,h)) b=some (.goto i,fr,h):=rfl
@[simp] theorem zOf (b:AC):zJp C L (some (.ret,fr,h)) b=some (.ret,fr,h):=rfl
@[simp] theorem zOh:run C L .skip fr h=some (.normal,fr,h):=by rw [run.eq_def]
@[simp] theorem zOj (i:Nat):run C L (.exit i) fr h=some (.exit i,fr,h):=by rw [run.eq_def]
@[simp] theorem zPz:run C L .ret fr h=some (.ret,fr,h):=by rw [run.eq_def]
@[simp] theorem zOk (a b:AC):run C L (.seq a b) fr h=zJp C L (run C L a fr h) b:=by rw [run.eq_def];rfl
def zM2 (id:Nat) (r:Option (AEx × Fr × zab)):Option (AEx × Fr × zab):=r.map fun r=>if r.1=.exit id then (.normal,r.2) else r
@[simp] theorem zM3 (id:Nat):zM2 id none=none:=rfl
@[simp] theorem zM4 (id:Nat) (e:AEx):zM2 id (some (e,fr,h))=some (if e=.exit id then .normal else e,fr,h):=by
  unfold zM2;simp only [Option.map_some];split <;> simp_all
@[simp] theorem zOu (id:Nat) (a:AC):run C L (.blk id a) fr h=zM2 id (run C L a fr h):=by
  rw [run.eq_def]
  simp only [zM2]
  cases run C L a fr h with
  | none=>rfl
  | some r=>simp only [bind,Option.bind_some,Option.map_some];split <;> rfl
def zEe:zaa→Option Bool
  | .bool b=>some b
  | _=>none
@[simp] theorem zJZ (b:Bool):zEe (.bool b)=some b:=rfl
def zG9 (b:Bool) (x y:AC):Option (AEx × Fr × zab):=if b=true then run C L x fr h else run C L y fr h
@[simp] theorem zK0 (x y:AC):zG9 C L fr h true x y=run C L x fr h:=rfl
@[simp] theorem zJ1 (x y:AC):zG9 C L fr h false x y=run C L y fr h:=rfl
def zNb (c:Option Bool) (x y:AC):Option (AEx × Fr × zab):=c.bind fun c=>zG9 C L fr h c x y
@[simp] theorem zK1 (b:Bool) (x y:AC):zNb C L fr h (some b) x y=zG9 C L fr h b x y:=rfl
@[simp] theorem zNc (c:AO) (a b:AC):run C L (.cond c a b) fr h=zNb C L fr h (zEe (C.ev fr c)) a b:=by
  rw [run.eq_def]
  simp only
  generalize C.ev fr c=v
  cases v <;> first | rfl | (rename_i b;cases b <;> rfl)
theorem zsz (a:AC):run C L (.loop a) fr h=zJp C L (run C L a fr h) (.loop a):=by
  rw [run.eq_def]
  rfl
def zQw (r:Option (Fr × zab)):Option (AEx × Fr × zab):=r.map fun r=>(.normal,r.1,r.2)
@[simp] theorem zNd:zQw (some (fr,h))=some (.normal,fr,h):=rfl
@[simp] theorem zOv (ops:List AI):run C L (.reg ops) fr h=zQw (zp4 C L ops fr h):=by
  rw [run.eq_def];simp only;cases zp4 C L ops fr h <;> rfl
@[simp] theorem zNf:zp4 C L [] fr h=some (fr,h):=by rw [zp4.eq_def]
theorem zjx (i : AI) (rest : List AI) : zp4 C L (i :: rest) fr h = if zbp fr i.grd = true then (step1 C L i.op fr h).bind fun r => zp4 C L rest (put fr i.dst r.1) r.2 else zp4 C L rest (put fr i.dst zaJ) h := by
  rw [zp4.eq_def];rfl
def opV (d:Option Nat) (rest:List AI) (r:Option zaa):Option (Fr × zab):=r.bind fun v=>zp4 C L rest (put fr d v) h
@[simp] theorem zOw (d:Option Nat) (rest:List AI) (v:zaa):opV C L fr h d rest (some v)=zp4 C L rest (put fr d v) h:=rfl
def opC (d:Option Nat) (rest:List AI) (r:Option (zaa × zab)):Option (Fr × zab):=r.bind fun r=>zp4 C L rest (put fr d r.1) r.2
@[simp] theorem zOx (d:Option Nat) (rest:List AI) (v:zaa):opC C L fr d rest (some (v,h))=zp4 C L rest (put fr d v) h:=rfl
@[simp] theorem zQx (d:Option Nat) (o:VOp) (rest:List AI) (u:List Nat) (x y:Nat):zp4 C L (⟨d,.v o,none,u,x,y⟩ :: rest) fr h=opV C L fr h d rest (zbZ C fr o):=by
  rw [zjx,step1.eq_def]
  simp only [zbp,if_true]
  cases zbZ C fr o <;> rfl
@[simp] theorem zQy (d:Option Nat) (o:ROp) (rest:List AI) (u:List Nat) (x y:Nat):zp4 C L (⟨d,.r o,none,u,x,y⟩ :: rest) fr h=opV C L fr h d rest (zkm C L o fr h):=by
  rw [zjx,step1.eq_def]
  simp only [zbp,if_true]
  cases zkm C L o fr h <;> rfl
@[simp] theorem zQz (d:Option Nat) (o:COp) (rest:List AI) (u:List Nat) (x y:Nat):zp4 C L (⟨d,.c o,none,u,x,y⟩ :: rest) fr h=opC C L fr d rest (zf7 C L o fr h):=by
  rw [zjx,step1.eq_def]
  simp only [zbp,if_true]
  rfl
def zHb (v:zaa) (b:Bool):Bool:=match v with | .bool c=>c==b | _=>false
@[simp] theorem zNg (c:Bool):zHb (.bool c) true=c:=by cases c <;> rfl
@[simp] theorem zK2 (c:Bool):zHb (.bool c) false=!c:=by cases c <;> rfl
def zOy (g:Bool) (d:Option Nat) (o:AOp) (rest:List AI):Option (Fr × zab):=if g=true then zp4 C L (⟨d,o,none,[],0,0⟩ :: rest) fr h else zp4 C L rest (put fr d zaJ) h
@[simp] theorem zNj (d:Option Nat) (o:AOp) (rest:List AI):zOy C L fr h true d o rest=zp4 C L (⟨d,o,none,[],0,0⟩ :: rest) fr h:=rfl
@[simp] theorem zK3 (d:Option Nat) (o:AOp) (rest:List AI):zOy C L fr h false d o rest=zp4 C L rest (put fr d zaJ) h:=rfl
@[simp] theorem zQA (d:Option Nat) (o:AOp) (t:Nat) (b:Bool) (rest:List AI) (u:List Nat) (x y:Nat):zp4 C L (⟨d,o,some (t,b),u,x,y⟩ :: rest) fr h=
    zOy C L fr h (zHb (fr t) b) d o rest:=by
  unfold zOy
  rw [zjx,zjx]
  simp only [zbp,if_true,zHb]
  rfl
@[simp] theorem zOz (n:Nat) (g:Bool) (x:AO):zkm C L (.ld n g x) fr h=zkN h (C.ev fr x) n g:=by rw [zkm.eq_def];rfl
@[simp] theorem zNk (x:AO):zkm C L (.b2s x) fr h=zzZ C fr h (.b2s x):=by rw [zkm.eq_def]
@[simp] theorem zK4 (x:AO):zkm C L (.mark x) fr h=zzZ C fr h (.mark x):=by rw [zkm.eq_def]
def zK5 (q:Bool) (r:Option (zaa × zab)):Option zaa:=if q=true then r.map (·.1) else none
@[simp] theorem zNl (v:zaa):zK5 true (some (v,h))=some v:=rfl
@[simp] theorem zK6 (f:FuncId) (as:List AO):zkm C L (.call f as) fr h=zK5 (zac C f) (zag C L f (as.map (C.ev fr)) h):=by
  rw [zkm.eq_def];simp only [zK5];split
  · cases zag C L f (as.map (C.ev fr)) h <;> rfl
  · rfl
@[simp] theorem zK7 (f:FuncId) (as:List AO):zf7 C L (.call f as) fr h=zag C L f (as.map (C.ev fr)) h:=by rw [zf7.eq_def]
def zH4 (x:zaa) (as:List zaa):Option (zaa × zab):=match x with
  | .fn (.func f) a b=>zag C L f (a++as++b) h
  | _=>none
@[simp] theorem zNn (f:FuncId) (a b as:List zaa):zH4 C L h (.fn (.func f) a b) as=zag C L f (a++as++b) h:=rfl
@[simp] theorem zJ6 (x:AO) (as:List AO):zf7 C L (.callv x as) fr h=zH4 C L h (C.ev fr x) (as.map (C.ev fr)):=by
  rw [zf7.eq_def];rfl
@[simp] theorem zJ7 (z:List zaa):zf7 C L (.alloc z) fr h=zhS C L fr h (.alloc z):=by rw [zf7.eq_def]
@[simp] theorem zNo (x:AO):zf7 C L (.box x) fr h=zhS C L fr h (.box x):=by rw [zf7.eq_def]
@[simp] theorem zK8 (a b:Nat) (z:List zaa) (p:List (Nat × AO)):zf7 C L (.slit a b z p) fr h=zhS C L fr h (.slit a b z p):=by rw [zf7.eq_def]
@[simp] theorem zOA (a:Nat) (z:List zaa) (x:AO):zf7 C L (.mk a z x) fr h=zhS C L fr h (.mk a z x):=by rw [zf7.eq_def]
@[simp] theorem zOB (n:Nat) (x y:AO):zf7 C L (.st n x y) fr h=zhS C L fr h (.st n x y):=by rw [zf7.eq_def]
@[simp] theorem zNp (n:Nat) (r:Bool) (x y:AO):zf7 C L (.app n r x y) fr h=zhS C L fr h (.app n r x y):=by rw [zf7.eq_def]
@[simp] theorem zK9 (n:Nat) (x y:AO):zf7 C L (.copy n x y) fr h=zhS C L fr h (.copy n x y):=by rw [zf7.eq_def]
@[simp] theorem zJ8 (z:List zaa) (x:AO):zf7 C L (.clear z x) fr h=zhS C L fr h (.clear z x):=by rw [zf7.eq_def]
@[simp] theorem zQI (n:Nat):C.ev fr (.t n)=fr n:=rfl
@[simp] theorem zQJ (v:zaa):C.ev fr (.k v)=v:=rfl
@[simp] theorem zOC (d:Nat) (v:zaa):put fr (some d) v=upd fr d v:=rfl
@[simp] theorem zOD (v:zaa):put fr none v=fr:=rfl
@[simp] theorem zOl (u:List Nat) (i:Nat):ziP u fr i=ifK (u.contains i) (fr i) zaJ:=rfl
def zAK (v:zaa) (r:Option (Fr × List zab × List zaa)):Option (Fr × List zab × List zaa):=r.map fun q=>(q.1,q.2.1,v :: q.2.2)
def zDK (h:zab) (v:zaa) (r:Option (Fr × List zab × List zaa)):Option (Fr × List zab × List zaa):=r.map fun q=>(q.1,h :: q.2.1,v :: q.2.2)
@[simp] theorem zKQ (v:zaa) (fr:Fr) (hs:List zab) (vs:List zaa):zAK v (some (fr,hs,vs))=some (fr,hs,v :: vs):=rfl
@[simp] theorem zKR (h:zab) (v:zaa) (fr:Fr) (hs:List zab) (vs:List zaa):zDK h v (some (fr,hs,vs))=some (fr,h :: hs,v :: vs):=rfl
def zGI (u:Option Unit):Option (AEx × Fr × zab):=u.map fun _=>(.normal,fr,h)
@[simp] theorem zKS:zGI fr h (some ())=some (.normal,fr,h):=rfl
def zJy (ops:List AI) (r:Option (Fr × List zab × List zaa)):Option (AEx × Fr × zab):=
  r.bind fun r=>zGI r.1 (r.2.1.getLastD h) (zpg C L ops r.2.2 fr (h :: r.2.1))
@[simp] theorem zKT (ops:List AI) (fr':Fr) (hs:List zab) (vs:List zaa):zJy C L fr h ops (some (fr',hs,vs))=zGI fr' (hs.getLastD h) (zpg C L ops vs fr (h :: hs)):=rfl
@[simp] theorem zMI (ops:List AI):run C L (.draw ops) fr h=zJy C L fr h ops (zk4 C L ops fr h):=by
  rw [run.eq_def]
  simp only [zJy,zGI]
  cases zk4 C L ops fr h with
  | none=>rfl
  | some r=>simp only [bind,Option.bind_some];cases zpg C L ops r.2.2 fr (h :: r.2.1) <;> rfl
@[simp] theorem zML:zk4 C L [] fr h=some (fr,[],[]):=by rw [zk4.eq_def]
def dV (d:Option Nat) (rest:List AI) (r:Option zaa):Option (Fr × List zab × List zaa):=r.bind fun v=>zAK v (zk4 C L rest (put fr d v) h)
@[simp] theorem zPE (d:Option Nat) (rest:List AI) (v:zaa):dV C L fr h d rest (some v)=zAK v (zk4 C L rest (put fr d v) h):=rfl
def dC (d:Option Nat) (rest:List AI) (r:Option (zaa × zab)):Option (Fr × List zab × List zaa):=r.bind fun r=>zDK r.2 r.1 (zk4 C L rest (put fr d r.1) r.2)
@[simp] theorem zPF (d:Option Nat) (rest:List AI) (v:zaa):dC C L fr d rest (some (v,h))=zDK h v (zk4 C L rest (put fr d v) h):=rfl
@[simp] theorem zQp (d:Option Nat) (o:VOp) (rest:List AI) (u:List Nat) (x y:Nat):zk4 C L (⟨d,.v o,none,u,x,y⟩ :: rest) fr h=
    dV C L fr h d rest (zbZ C (ziP u fr) o):=by
  rw [zk4.eq_def]
  simp only [zbp,if_true]
  rw [step1.eq_def]
  simp only
  cases zbZ C (ziP u fr) o with
  | none=>rfl
  | some v=>simp only [bind,Option.bind_some,dV];cases zk4 C L rest (put fr d v) h <;> rfl
@[simp] theorem zQq (d:Option Nat) (o:ROp) (rest:List AI) (u:List Nat) (x y:Nat):zk4 C L (⟨d,.r o,none,u,x,y⟩ :: rest) fr h=
    dV C L fr h d rest (zkm C L o (ziP u fr) h):=by
  rw [zk4.eq_def]
  simp only [zbp,if_true]
  rw [step1.eq_def]
  simp only
  cases zkm C L o (ziP u fr) h with
  | none=>rfl
  | some v=>simp only [bind,Option.bind_some,dV];cases zk4 C L rest (put fr d v) h <;> rfl
@[simp] theorem zQr (d:Option Nat) (o:COp) (rest:List AI) (u:List Nat) (x y:Nat):zk4 C L (⟨d,.c o,none,u,x,y⟩ :: rest) fr h=
    dC C L fr d rest (zf7 C L o (ziP u fr) h):=by
  rw [zk4.eq_def]
  simp only [zbp,if_true]
  rw [step1.eq_def]
  simp only
  cases zf7 C L o (ziP u fr) h with
  | none=>rfl
  | some r=>simp only [bind,Option.bind_some,dC];cases zk4 C L rest (put fr d r.1) r.2 <;> rfl
def zKX (g:Bool) (d:Option Nat) (o:AOp) (u:List Nat) (x y:Nat) (rest:List AI):Option (Fr × List zab × List zaa):=
  if g=true then zk4 C L (⟨d,o,none,u,x,y⟩ :: rest) fr h else (if isC o=true then zDK h zaJ (zk4 C L rest (put fr d zaJ) h) else zAK zaJ (zk4 C L rest (put fr d zaJ) h))
@[simp] theorem zMP (d:Option Nat) (o:AOp) (u:List Nat) (x y:Nat) (rest:List AI):zKX C L fr h true d o u x y rest=zk4 C L (⟨d,o,none,u,x,y⟩ :: rest) fr h:=rfl
@[simp] theorem zJF (d:Option Nat) (o:VOp) (u:List Nat) (x y:Nat) (rest:List AI):zKX C L fr h false d (.v o) u x y rest=zAK zaJ (zk4 C L rest (put fr d zaJ) h):=rfl
@[simp] theorem zJG (d:Option Nat) (o:ROp) (u:List Nat) (x y:Nat) (rest:List AI):zKX C L fr h false d (.r o) u x y rest=zAK zaJ (zk4 C L rest (put fr d zaJ) h):=rfl
@[simp] theorem zJI (d:Option Nat) (o:COp) (u:List Nat) (x y:Nat) (rest:List AI):zKX C L fr h false d (.c o) u x y rest=zDK h zaJ (zk4 C L rest (put fr d zaJ) h):=rfl
@[simp] theorem zQs (d:Option Nat) (o:AOp) (t:Nat) (b:Bool) (rest:List AI) (u:List Nat) (x y:Nat):zk4 C L (⟨d,o,some (t,b),u,x,y⟩ :: rest) fr h=
    zKX C L fr h (zHb (fr t) b) d o u x y rest:=by
  unfold zKX
  rw [zk4.eq_def]
  conv=>rhs;rw [zk4.eq_def]
  simp only [zbp,if_true]
  show (if zHb (fr t) b=true then _ else _)=(if zHb (fr t) b=true then _ else _)
  split
  · rfl
  · cases zk4 C L rest (put fr d zaJ) h with
    | none=>cases o <;> rfl
    | some q=>cases o <;> rfl
@[simp] theorem zMQ (vs:List zaa) (hs:List zab):zpg C L [] vs fr hs=some ():=by rw [zpg.eq_def]
@[simp] theorem zQt (d:Option Nat) (o:VOp) (g:Option (Nat × Bool)) (rest:List AI) (u:List Nat) (x y:Nat) (v:zaa) (vs:List zaa) (hs:List zab):
    zpg C L (⟨d,.v o,g,u,x,y⟩ :: rest) (v :: vs) fr hs=zpg C L rest vs (put fr d v) hs:=by rw [zpg.eq_def]
@[simp] theorem zQu (d:Option Nat) (o:COp) (g:Option (Nat × Bool)) (rest:List AI) (u:List Nat) (x y:Nat) (v:zaa) (vs:List zaa) (hs:List zab):
    zpg C L (⟨d,.c o,g,u,x,y⟩ :: rest) (v :: vs) fr hs=zpg C L rest vs (put fr d v) hs:=by rw [zpg.eq_def]
def zPG (rest:List AI) (vs:List zaa) (hs:List zab) (r:Option Unit):Option Unit:=r.bind fun _=>zpg C L rest vs fr hs
@[simp] theorem zMS (rest:List AI) (vs:List zaa) (hs:List zab):zPG C L fr rest vs hs (some ())=zpg C L rest vs fr hs:=rfl
def zMT (g:Bool) (o:ROp) (u:List Nat) (x y:Nat) (d:Option Nat) (v:zaa) (rest:List AI) (vs:List zaa) (hs:List zab):Option Unit:=
  if g=true then zPG C L (put fr d v) rest vs hs (zBG C L o (ziP u fr) ((hs.take (y+1)).drop x) v) else zpg C L rest vs (put fr d v) hs
@[simp] theorem zMU (o:ROp) (u:List Nat) (x y:Nat) (d:Option Nat) (v:zaa) (rest:List AI) (vs:List zaa) (hs:List zab):
    zMT C L fr true o u x y d v rest vs hs=zPG C L (put fr d v) rest vs hs (zBG C L o (ziP u fr) ((hs.take (y+1)).drop x) v):=rfl
@[simp] theorem zKY (o:ROp) (u:List Nat) (x y:Nat) (d:Option Nat) (v:zaa) (rest:List AI) (vs:List zaa) (hs:List zab):
    zMT C L fr false o u x y d v rest vs hs=zpg C L rest vs (put fr d v) hs:=rfl
theorem zHZ (d:Option Nat) (o:ROp) (g:Option (Nat × Bool)) (rest:List AI) (u:List Nat) (x y:Nat) (v:zaa) (vs:List zaa) (hs:List zab):
    zpg C L (⟨d,.r o,g,u,x,y⟩ :: rest) (v :: vs) fr hs=zMT C L fr (zbp fr g&&decide (x < y)) o u x y d v rest vs hs:=by
  rw [zpg.eq_def];rfl
@[simp] theorem zPH (d:Option Nat) (o:ROp) (rest:List AI) (u:List Nat) (x y:Nat) (v:zaa) (vs:List zaa) (hs:List zab):
    zpg C L (⟨d,.r o,none,u,x,y⟩ :: rest) (v :: vs) fr hs=zMT C L fr (decide (x < y)) o u x y d v rest vs hs:=by
  rw [zHZ];simp [zbp]
@[simp] theorem zPI (d:Option Nat) (o:ROp) (t:Nat) (b:Bool) (rest:List AI) (u:List Nat) (x y:Nat) (v:zaa) (vs:List zaa) (hs:List zab):
    zpg C L (⟨d,.r o,some (t,b),u,x,y⟩ :: rest) (v :: vs) fr hs=zMT C L fr (zHb (fr t) b&&decide (x < y)) o u x y d v rest vs hs:=by
  rw [zHZ];rfl
@[simp] theorem zOq (o:ROp) (v:zaa):zBG C L o fr [] v=some ():=by rw [zBG.eq_def]
open Classical in
def zPJ (o:ROp) (hs:List zab) (v:zaa) (u:Option zaa):Option Unit:=u.bind fun u=>if u=v then zBG C L o fr hs v else none
@[simp] theorem zMY (o:ROp) (hs:List zab) (v:zaa):zPJ C L fr o hs v (some v)=zBG C L o fr hs v:=by simp [zPJ]
@[simp] theorem zMZ (o:ROp) (v:zaa) (h:zab) (hs:List zab):zBG C L o fr (h :: hs) v=zPJ C L fr o hs v (zkm C L o fr h):=by rw [zBG.eq_def];rfl
theorem zGY {f:FuncId} {F:AFn} (hx:C.ext f=none) (hf:C.fns f=some F) (hp:F.pre=none) (args:List zaa):zag C L f args h=
    (zkl (C.mode f) h args).bind fun a => (run C (zc0 (C.mode f) L h) F.code (fun i => a.1.getD i zaJ) h).bind fun r =>
      if (r.1=.normal∨r.1=.ret)∧a.1.length≤F.n then
        (zri r.2.1 r.2.2 F.res).bind fun vs=>(zsZ (C.mode f) h r.2.2 (zxK vs)).bind fun o=>if (a.2&&!o.1.flat)=true then none else some o
      else none:=by
  rw [zag.eq_def]
  simp only [hx,hf,hp,bind,Option.bind_some,ztx]
theorem zss {f : FuncId} {g : zJh} (hx : C.ext f = some g) (args : List zaa) : zag C L f args h = (g.pre L args h).bind fun q => match q with
    | .inl r=>some r
    | .inr q=>(zag C L q.1 q.2.1 q.2.2).bind fun r=>g.post args r.1 r.2:=by
  rw [zag.eq_def]
  simp only [hx,bind]
  congr 1
end
end Go.Av
namespace Go.Av
section
variable (C:Ctx) (fr:Fr)
theorem zI6 (d:Nat) (v:zaa) (i:Nat):upd fr d v i=ifK (i==d) v (fr i):=by
  unfold upd ifK
  by_cases h:i=d
  · subst h;simp
  · simp [h]
attribute [simp] zI6
def zmH:zaa→Option zaa
  | .tup _=>none
  | .agg cs=>some (.vptr cs 0)
  | v=>some (.vptr [v] 0)
theorem zI5 (x:AO):zbZ C fr (.boxv x)=zmH (C.ev fr x):=by
  simp only [zbZ]
  cases C.ev fr x <;> simp [zmH,zaa.okV,zaa.cells]
theorem zMa (x:AO):zbZ C fr (.mv x)=some (C.ev fr x):=by simp only [zbZ]
def zI7 (c:Option Bool) (a b:zaa):Option zaa:=c.map fun t=>ifK t a b
@[simp] theorem zKI (t:Bool) (a b:zaa):zI7 (some t) a b=some (ifK t a b):=by unfold zI7;exact rfl
theorem zGf (c a b:AO):zbZ C fr (.pick c a b)=zI7 (zEe (C.ev fr c)) (C.ev fr a) (C.ev fr b):=by
  simp only [zbZ]
  cases C.ev fr c <;> rfl
theorem zI9 (op:BinOp) (x y:AO):zbZ C fr (.bin op x y)=zdX op (C.ev fr x) (C.ev fr y):=by simp only [zbZ]
theorem zMf (c : zKN) (n : Bool) (x y : AO) : zbZ C fr (.eq c n x y) = (eqA c (C.ev fr x) (C.ev fr y)).map fun b => .bool (n ^^ b) := by
  simp only [zbZ]
  cases n <;> cases eqA c (C.ev fr x) (C.ev fr y) <;> simp
def zPr:zaa→Option zaa
  | .bool b=>some (.bool !b)
  | _=>none
theorem zJb (x:AO):zbZ C fr (.un .not x)=zPr (C.ev fr x):=by
  simp only [zbZ]
  cases C.ev fr x <;> rfl
theorem zJd (x:AO):zbZ C fr (.un .neg x)=unA .neg (C.ev fr x):=by simp only [zbZ]
def zKM (k:IntKind):zaa→Option zaa
  | .int _ n=>some (.int k (k.wrap n))
  | _=>none
theorem zJe (k:IntKind) (x:AO):zbZ C fr (.i2i k x)=zKM k (C.ev fr x):=by
  simp only [zbZ];cases C.ev fr x <;> rfl
def zPu:zaa→Option ByteArray
  | .str s=>some s
  | _=>none
theorem zGj (x : AO) : zbZ C fr (.lenS x) = (zPu (C.ev fr x)).map fun s => .int .i64 s.size := by
  simp only [zbZ];cases C.ev fr x <;> rfl
theorem zGk (x:AO):zbZ C fr (.lenL x)=(zwS (C.ev fr x)).map fun (n:Nat)=>zaa.int .i64 (n:Int):=by simp only [zbZ]
theorem zGl (t:TypeId) (x:AO):zbZ C fr (.mkif t x)=some (.iface t (C.ev fr x)):=by simp only [zbZ]
theorem zGm (f:Fn) (a b:List AO):zbZ C fr (.mkfn f a b)=some (.fn f (a.map (C.ev fr)) (b.map (C.ev fr))):=by simp only [zbZ]
theorem zDw (k:SK) (sz:Nat) (x:AO) (lo hi mx:Option AO):zbZ C fr (.slice k sz x lo hi mx)=zcN k sz (C.ev fr x) (lo.map (C.ev fr)) (hi.map (C.ev fr)) (mx.map (C.ev fr)):=by simp only [zbZ]
def zwJ (off:Nat):zaa→Option zaa
  | .ptr b o=>some (.ptr b (o+off))
  | .vptr cs o=>some (.vptr cs (o+off))
  | _=>none
theorem zGp (off:Nat) (x:AO):zbZ C fr (.fadr off x)=zwJ off (C.ev fr x):=by
  simp only [zbZ];cases C.ev fr x <;> rfl
def zEX:zaa→Option zaa
  | .ptr b o=>some (.ptr b o)
  | .vptr cs o=>some (.vptr cs o)
  | .iface t v=>some (.iface t v)
  | _=>none
theorem zJg (x:AO):zbZ C fr (.nck x)=zEX (C.ev fr x):=by
  simp only [zbZ];cases C.ev fr x <;> rfl
def zN9 (off sz:Nat) (agg:Bool):zaa→Option zaa
  | .agg cs=>zei agg cs off sz
  | _=>none
theorem zJj (off sz:Nat) (agg:Bool) (x:AO):zbZ C fr (.fld off sz agg x)=zN9 off sz agg (C.ev fr x):=by
  simp only [zbZ];cases C.ev fr x <;> rfl
theorem zGs (a:Option Nat) (sz:Nat) (x i:AO):zbZ C fr (.iadr a sz x i)=zcZ a sz (C.ev fr x) (C.ev fr i):=by simp only [zbZ]
def zOa (len sz:Nat) (agg:Bool):zaa→zaa→Option zaa
  | .agg cs,.int _ i=>if 0≤i∧i < len then zei agg cs (i.toNat*sz) sz else none
  | _,_=>none
theorem zGt (len sz:Nat) (agg:Bool) (x i:AO):zbZ C fr (.idxA len sz agg x i)=zOa len sz agg (C.ev fr x) (C.ev fr i):=by
  simp only [zbZ]
  generalize C.ev fr x=a
  generalize C.ev fr i=b
  cases a <;> cases b <;> rfl
def zJl:zaa→zaa→Option zaa
  | .str s,.int _ i=>if 0≤i then (s.data.toList[i.toNat]?).map fun b=>.int .u8 b.toNat else none
  | _,_=>none
theorem zGu (x i:AO):zbZ C fr (.idxS x i)=zJl (C.ev fr x) (C.ev fr i):=by
  simp only [zbZ]
  generalize C.ev fr x=a
  generalize C.ev fr i=b
  cases a <;> cases b <;> rfl
def zPy (i:Nat):zaa→Option zaa
  | .tup vs=>vs[i]?
  | _=>none
theorem zJn (x:AO) (i:Nat):zbZ C fr (.ext x i)=zPy i (C.ev fr x):=by
  simp only [zbZ];cases C.ev fr x <;> rfl
def zMu (n:Nat):zaa→Option zaa
  | .sl b off _ len _=>if n≤len then some (.ptr b off) else none
  | .vsl _ es=>if n≤es.length∧0 < n then some (.vptr (es.take n).flatten 0) else none
  | .gsl _ es=>if n≤es.length∧0 < n then some (.vptr (es.take n).flatten 0) else none
  | _=>none
theorem zJq (n:Nat) (x:AO):zbZ C fr (.s2a n x)=zMu n (C.ev fr x):=by
  simp only [zbZ];cases C.ev fr x <;> rfl
theorem zDF (z : List zaa) (ps : List (Nat × Nat × AO)) : zbZ C fr (.build z ps) = (zay z (ps.map fun p => (p.1, p.2.1, C.ev fr p.2.2))).map .agg := by
  simp only [zbZ];cases zay z (ps.map fun p=>(p.1,p.2.1,C.ev fr p.2.2)) <;> rfl
theorem zGx (sz len : Nat) (z : List zaa) (ps : List (Nat × AO)) : zbZ C fr (.slit sz len z ps) = (zay (rep z len) (ps.map fun p => (p.1 * sz, sz, C.ev fr p.2))).map fun cs => .vsl true (chunks sz len cs) := by
  simp only [zbZ];cases zay (rep z len) (ps.map fun p=>(p.1*sz,sz,C.ev fr p.2)) <;> rfl
theorem zGz (m:Bool) (x:AO) (xs:List AO):zbZ C fr (.mxmn m (x :: xs))=zqB m (C.ev fr x) (xs.map (C.ev fr)):=by simp only [zbZ,List.map_cons]
end
section
variable (k:IntKind) (a b:Int)
@[simp] theorem zOi (cs:List zaa):zmH (.agg cs)=some (.vptr cs 0):=by unfold zmH;exact rfl
@[simp] theorem zNq (b:Bool):zPr (.bool b)=some (.bool !b):=by unfold zPr;exact rfl
@[simp] theorem zd3 (k':IntKind):zKM k' (.int k a)=some (.int k' (k'.wrap a)):=by unfold zKM;exact rfl
@[simp] theorem zOE (s:ByteArray):zPu (.str s)=some s:=by unfold zPu;exact rfl
@[simp] theorem zOF (c:Bool) (es:List (List zaa)):zwS (.vsl c es)=some es.length:=by unfold zwS;exact rfl
@[simp] theorem zPP (x off sz n:Nat) (c:Option Nat):zwS (.sl x off sz n c)=some n:=by unfold zwS;exact rfl
@[simp] theorem zNs (off x o:Nat):zwJ off (.ptr x o)=some (.ptr x (o+off)):=by unfold zwJ;exact rfl
@[simp] theorem zLb (off o:Nat) (cs:List zaa):zwJ off (.vptr cs o)=some (.vptr cs (o+off)):=by unfold zwJ;exact rfl
@[simp] theorem zOG (x o:Nat):zEX (.ptr x o)=some (.ptr x o):=by unfold zEX;exact rfl
@[simp] theorem zPQ (t:TypeId) (v:zaa):zEX (.iface t v)=some (.iface t v):=by unfold zEX;exact rfl
@[simp] theorem zNt (o:Nat) (cs:List zaa):zEX (.vptr cs o)=some (.vptr cs o):=by unfold zEX;exact rfl
@[simp] theorem zOH (off sz:Nat) (g:Bool) (cs:List zaa):zN9 off sz g (.agg cs)=zei g cs off sz:=by unfold zN9;exact rfl
@[simp] theorem zOI (i:Nat) (vs:List zaa):zPy i (.tup vs)=vs[i]?:=by unfold zPy;exact rfl
@[simp] theorem zKd:zdX .add (.int k a) (.int k b)=some (.int k (k.wrap (a+b))):=by simp [zdX,zfN]
@[simp] theorem zyK:zdX .sub (.int k a) (.int k b)=some (.int k (k.wrap (a - b))):=by simp [zdX,zfN]
@[simp] theorem zKe:zdX .mul (.int k a) (.int k b)=some (.int k (k.wrap (a*b))):=by simp [zdX,zfN]
theorem zlW (h:b≠0):zdX .quo (.int k a) (.int k b)=some (.int k (k.wrap (a.tdiv b))):=by simp [zdX,zfN,h]
theorem zgY (h:b≠0):zdX .rem (.int k a) (.int k b)=some (.int k (a.tmod b)):=by simp [zdX,zfN,h]
@[simp] theorem zlX:zdX .and (.int k a) (.int k b)=some (.int k (k.wrap (BitVec.ofInt k.bits a&&&BitVec.ofInt k.bits b).toNat)):=by simp [zdX,zfN]
@[simp] theorem zEy:zdX .or (.int k a) (.int k b)=some (.int k (k.wrap (BitVec.ofInt k.bits a|||BitVec.ofInt k.bits b).toNat)):=by simp [zdX,zfN]
@[simp] theorem zKg:zdX .xor (.int k a) (.int k b)=some (.int k (k.wrap (BitVec.ofInt k.bits a ^^^ BitVec.ofInt k.bits b).toNat)):=by simp [zdX,zfN]
@[simp] theorem zBe:zdX .andNot (.int k a) (.int k b)=some (.int k (k.wrap (BitVec.ofInt k.bits a&&&~~~ (BitVec.ofInt k.bits b)).toNat)):=by simp [zdX,zfN]
@[simp] theorem zKh:zdX .eql (.int k a) (.int k b)=some (.bool (a==b)):=by simp [zdX,zfN]
@[simp] theorem zvB:zdX .neq (.int k a) (.int k b)=some (.bool (a !=b)):=by simp [zdX,zfN]
@[simp] theorem zKi:zdX .lss (.int k a) (.int k b)=some (.bool (decide (a < b))):=by simp [zdX,zfN]
@[simp] theorem zPR:zdX .leq (.int k a) (.int k b)=some (.bool (decide (a≤b))):=by simp [zdX,zfN]
@[simp] theorem zKl:zdX .gtr (.int k a) (.int k b)=some (.bool (decide (a > b))):=by simp [zdX,zfN]
@[simp] theorem zkj:zdX .geq (.int k a) (.int k b)=some (.bool (decide (a≥b))):=by simp [zdX,zfN]
@[simp] theorem zlZ (k':IntKind):zdX .shl (.int k a) (.int k' b)=zkx .shl k a b:=by simp [zdX]
@[simp] theorem zdL (k':IntKind):zdX .shr (.int k a) (.int k' b)=zkx .shr k a b:=by simp [zdX]
@[simp] theorem zOK (s t:ByteArray):zdX .eql (.str s) (.str t)=some (.bool (s==t)):=by simp [zdX]
@[simp] theorem zKp (sh:List CK) (xs ys:List zaa):eqA (.agg sh) (.agg xs) (.agg ys)=zbm sh xs ys:=by simp [eqA]
theorem zae (cs:List zaa) (off n:Nat):zei false cs off n=cs[off]?:=by unfold zei;simp
theorem zxk {cs:List zaa} {n:Nat} (h:cs.length=n):zei true cs 0 n=some (.agg cs):=by
  unfold zei;subst h;simp
@[simp] theorem zLe (h:zab) (cs:List zaa) (off n:Nat) (g:Bool):zkN h (.vptr cs off) n g=zei g cs off n:=by unfold zkN;exact rfl
theorem zxl:∀ (cs pre old:List zaa),old.length=cs.length→setAt (pre++old) pre.length cs=pre++cs
  | [],pre,old,h=>by simp at h;subst h;rfl
  | c :: cs,pre,[],h=>by simp at h
  | c :: cs, pre, x :: old, h => by
    have:=zxl cs (pre++[c]) old (by simpa using h)
    simp only [setAt]
    rw [List.set_append_right _ _ (Nat.le_refl _),Nat.sub_self,List.set_cons_zero]
    simpa using this
theorem zBh {cs old:List zaa} (h:old.length=cs.length):setAt old 0 cs=cs:=zxl cs [] old h
@[simp] theorem zNx (cs:List zaa) (off:Nat) (v:zaa):setAt cs off [v]=cs.set off v:=by simp only [setAt]
def hx (h:zab) (bs:List (List zaa)) (ts:List Nat):zab:=⟨h.blks++bs,h.toks++ts⟩
theorem zxm (h:zab):hx h [] []=h:=by simp [hx]
def pA (n i off:Nat):zaa:=.ptr (n+i) off
def sA (n i off sz len:Nat) (cap:Option Nat):zaa:=.sl (n+i) off sz len cap
def gA (n i:Nat) (es:List (List zaa)):zaa:=.gsl (n+i) es
def zau (h:zab):Lim:=⟨h.blks.length,h.toks.length,h.blks.length,h.toks.length⟩
variable (h:zab) (bs:List (List zaa)) (ts:List Nat) (L:Lim)
@[simp] theorem zOM (n off i o:Nat):zwJ off (pA n i o)=some (pA n i (o+off)):=by unfold zwJ pA;exact rfl
@[simp] theorem zPS (n i o:Nat):zEX (pA n i o)=some (pA n i o):=by unfold zEX pA;exact rfl
def zHv (cs:Option (List zaa)) (g:Bool) (off n:Nat):Option zaa:=cs.bind fun cs=>zei g cs off n
@[simp] theorem zLf (cs:List zaa) (g:Bool) (off n:Nat):zHv (some cs) g off n=zei g cs off n:=by unfold zHv;exact rfl
@[simp] theorem zHw (i off n:Nat) (g:Bool):zkN (hx h bs ts) (pA h.blks.length i off) n g=zHv bs[i]? g off n:=by
  unfold zkN pA hx zHv
  simp only
  rw [List.getElem?_append_right (Nat.le_add_right _ _),Nat.add_sub_cancel_left]
def stI (h:zab) (bs:List (List zaa)) (ts:List Nat) (i off:Nat) (cs old:List zaa) (b:Bool):Option zab:=if b=true then some (hx h (bs.set i (setAt old off cs)) ts) else none
@[simp] theorem zz3 (i off:Nat) (cs old:List zaa):stI h bs ts i off cs old true=some (hx h (bs.set i (setAt old off cs)) ts):=by unfold stI;exact rfl
def stO (h:zab) (bs:List (List zaa)) (ts:List Nat) (i off:Nat) (cs:List zaa) (old:Option (List zaa)):Option zab:=old.bind fun old=>stI h bs ts i off cs old (decide (off+cs.length≤old.length))
@[simp] theorem zz4 (i off:Nat) (cs old:List zaa):stO h bs ts i off cs (some old)=stI h bs ts i off cs old (decide (off+cs.length≤old.length)):=by unfold stO;exact rfl
@[simp] theorem zNy (i off:Nat) (cs:List zaa) (r1 r2 r3 r4:Nat) (h1:r1≤h.blks.length) (h3:r3≤h.blks.length):
    zcw ⟨r1,r2,r3,r4⟩ (hx h bs ts) (pA h.blks.length i off) cs=stO h bs ts i off cs bs[i]?:=by
  unfold zcw pA stO stI hx
  simp only
  rw [List.getElem?_append_right (Nat.le_add_right _ _),Nat.add_sub_cancel_left]
  cases bs[i]? with
  | none=>rfl
  | some old=>
    simp only [Option.bind_some]
    by_cases hc:off+cs.length≤old.length
    · rw [if_pos ⟨by omega, hc, .inl (by omega)⟩, if_pos (by simpa using hc)]
      rw [List.set_append_right _ _ (Nat.le_add_right _ _),Nat.add_sub_cancel_left]
    · rw [if_neg (fun h=>hc h.2.1),if_neg (by simpa using hc)]
@[simp] theorem zLg (C:Ctx) (fr:Fr) (z:List zaa):zhS C L fr (hx h bs ts) (.alloc z)=some (pA h.blks.length bs.length 0,hx h (bs++[z]) ts):=by
  simp only [zhS]
  simp [hx,pA,push]
theorem zd7 (C:Ctx) (fr:Fr) (x:AO) (hv:(C.ev fr x).okV=true):zhS C L fr (hx h bs ts) (.box x)=some (pA h.blks.length bs.length 0,hx h (bs++[(C.ev fr x).cells]) ts):=by
  simp only [zhS,hv,if_true]
  simp [hx,pA,push]
def stM (r:Option zab):Option (zaa × zab):=r.map fun h=>(zaJ,h)
@[simp] theorem zOO:stM (some h)=some (zaJ,h):=by unfold stM;exact rfl
def stK (L:Lim) (h:zab) (n:Nat) (p v:zaa):Option (zaa × zab):=if (decide (v.cells.length=n)&&v.okV)=true then stM (zcw L h p v.cells) else none
@[simp] theorem zPT (C:Ctx) (fr:Fr) (n:Nat) (x y:AO):zhS C L fr h (.st n x y)=stK L h n (C.ev fr x) (C.ev fr y):=by
  simp only [zhS,stK,stM]
  by_cases h1:(C.ev fr y).cells.length=n <;> cases h2:(C.ev fr y).okV <;> simp [h1,h2]
@[simp] theorem zO8 (p:zaa):stK L h 1 p (.int k a)=stM (zcw L h p [.int k a]):=by simp [stK,zaa.cells,zaa.okV]
@[simp] theorem zNI (p:zaa) (b:Bool):stK L h 1 p (.bool b)=stM (zcw L h p [.bool b]):=by simp [stK,zaa.cells,zaa.okV]
@[simp] theorem zO9 (p:zaa) (b:ByteArray):stK L h 1 p (.str b)=stM (zcw L h p [.str b]):=by simp [stK,zaa.cells,zaa.okV]
@[simp] theorem zPa (p:zaa) (c:Bool) (es:List (List zaa)):stK L h 1 p (.vsl c es)=stM (zcw L h p [.vsl c es]):=by simp [stK,zaa.cells,zaa.okV]
theorem zID {cs:List zaa} {n:Nat} (p:zaa) (hn:cs.length=n):stK L h n p (.agg cs)=stM (zcw L h p cs):=by simp [stK,zaa.cells,zaa.okV,hn]
@[simp] theorem zKv:zc0 Mode.pure L h=zau h:=by simp [zc0,Mode.pure,zau]
@[simp] theorem ztN (args:List zaa):zkl Mode.pure h args=zfJ h args:=by simp [zkl,Mode.pure]
@[simp] theorem ztO:zfJ h []=some ([],false):=by simp only [zfJ]
def fzK (a:Option (zaa × Bool)) (b:Option (List zaa × Bool)):Option (List zaa × Bool):=a.bind fun a=>b.bind fun b=>some (a.1 :: b.1,a.2||b.2)
@[simp] theorem zy5 (v:zaa) (c:Bool) (vs:List zaa) (d:Bool):fzK (some (v,c)) (some (vs,d))=some (v :: vs,c||d):=by unfold fzK;exact rfl
@[simp] theorem zrV (v:zaa) (vs:List zaa):zfJ h (v :: vs)=fzK (fzA h v) (zfJ h vs):=by simp only [zfJ,fzK,bind]
@[simp] theorem zPb:fzA h (.int k a)=some (.int k a,false):=by simp only [fzA]
@[simp] theorem zCE (c:Bool) (es:List (List zaa)):fzA h (.vsl c es)=some (.vsl false es,false):=by simp only [fzA]
@[simp] theorem zPd:fzA h .nsl=some (.vsl false [],false):=by simp only [fzA]
@[simp] theorem zPf (x o:Nat):fzA h (.ptr x o)=some (.ptr x o,false):=by simp only [fzA]
@[simp] theorem zNJ (cs:List zaa) (o:Nat):fzA h (.vptr cs o)=some (.vptr cs o,false):=by simp only [fzA]
theorem zuO {cs:List zaa} (hc:zb4 cs=true):fzA h (.agg cs)=some (.agg cs,false):=by simp only [fzA,hc,if_true]
def zuP (a:Option zaa) (b:Option (List zaa)):Option (List zaa):=a.bind fun a=>b.map fun b=>a :: b
@[simp] theorem zKw (v:zaa) (vs:List zaa):zuP (some v) (some vs)=some (v :: vs):=by unfold zuP;exact rfl
@[simp] theorem zNK (fr:Fr):zri fr h []=some []:=by simp only [zri]
@[simp] theorem zNL (fr:Fr) (t:Nat) (rs:List zwI):zri fr h (.tmp t :: rs)=zuP (some (fr t)) (zri fr h rs):=by
  simp only [zri,zuP,bind,Option.bind_some]
  cases zri fr h rs <;> rfl
@[simp] theorem zLJ (fr:Fr) (t n:Nat) (g:Bool) (rs:List zwI):zri fr h (.cell t n g :: rs)=zuP (zkN h (fr t) n g) (zri fr h rs):=by
  simp only [zri,zuP,bind]
  cases zkN h (fr t) n g <;> cases zri fr h rs <;> rfl
@[simp] theorem zNM:zxK []=.tup []:=by simp only [zxK]
@[simp] theorem zNN (v:zaa):zxK [v]=v:=by simp only [zxK]
@[simp] theorem zNO (v w:zaa) (vs:List zaa):zxK (v :: w :: vs)=.tup (v :: w :: vs):=by simp only [zxK]
def zIG (c:Bool) (o:Option (zaa × zab)):Option (zaa × zab):=o.bind fun o=>if (c&&!o.1.flat)=true then none else some o
@[simp] theorem zAm (o:Option (zaa × zab)):zIG false o=o:=by unfold zIG;cases o <;> simp
theorem zwk (v:zaa) (hv:v.flat=true):zIG true (some (v,h))=some (v,h):=by simp [zIG,hv]
def zKy (m:Mode) (h:zab) (c:Bool) (h1:zab) (vs:Option (List zaa)):Option (zaa × zab):=vs.bind fun vs=>zIG c (zsZ m h h1 (zxK vs))
@[simp] theorem zLN (m:Mode) (c:Bool) (h1:zab) (vs:List zaa):zKy m h c h1 (some vs)=zIG c (zsZ m h h1 (zxK vs)):=by unfold zKy;exact rfl
def zII (b:Bool) (m:Mode) (h:zab) (res:List zwI) (c:Bool) (fr:Fr) (h1:zab):Option (zaa × zab):=if b=true then zKy m h c h1 (zri fr h1 res) else none
@[simp] theorem zLO (m:Mode) (res:List zwI) (c:Bool) (fr:Fr) (h1:zab):zII true m h res c fr h1=zKy m h c h1 (zri fr h1 res):=by unfold zII;exact rfl
def zEU (m:Mode) (h:zab) (n:Nat) (res:List zwI) (as:List zaa) (c:Bool) (r:Option (AEx × Fr × zab)):Option (zaa × zab):=
  r.bind fun r=>zII (decide ((r.1=.normal∨r.1=.ret)∧as.length≤n)) m h res c r.2.1 r.2.2
@[simp] theorem zNQ (m:Mode) (n:Nat) (res:List zwI) (as:List zaa) (c:Bool) (fr:Fr) (h1:zab):zEU m h n res as c (some (.ret,fr,h1))=zII (decide (as.length≤n)) m h res c fr h1:=by
  simp [zEU]
@[simp] theorem zIJ (m:Mode) (n:Nat) (res:List zwI) (as:List zaa) (c:Bool) (fr:Fr) (h1:zab):zEU m h n res as c (some (.normal,fr,h1))=zII (decide (as.length≤n)) m h res c fr h1:=by
  simp [zEU]
def frm (as:List zaa):Fr:=fun i=>as.getD i zaJ
@[simp] theorem zQg (as:List zaa) (i:Nat):frm as i=as.getD i zaJ:=by unfold frm;exact rfl
noncomputable def zCT (C:Ctx) (L:Lim) (m:Mode) (h:zab) (n:Nat) (code:AC) (res:List zwI) (a:Option (List zaa × Bool)):Option (zaa × zab):=
  a.bind fun a=>zEU m h n res a.1 a.2 (run C (zc0 m L h) code (frm a.1) (hx h [] []))
@[simp] theorem ztT (C:Ctx) (m:Mode) (n:Nat) (code:AC) (res:List zwI) (as:List zaa) (c:Bool):zCT C L m h n code res (some (as,c))=zEU m h n res as c (run C (zc0 m L h) code (frm as) (hx h [] [])):=by unfold zCT;exact rfl
theorem zad {C:Ctx} {f:FuncId} {n:Nat} {code:AC} {res:List zwI} (hx':C.ext f=none) (hf:C.fns f=some ⟨n,code,res,none⟩) (args:List zaa):zag C L f args h=
    zCT C L (C.mode f) h n code res (zkl (C.mode f) h args):=by
  rw [zGY C L h hx' hf rfl args]
  unfold zCT zEU zII zKy zIG frm
  rw [zxm]
  cases zkl (C.mode f) h args with
  | none=>rfl
  | some a=>
    simp only [Option.bind_some]
    cases run C (zc0 (C.mode f) L h) code (fun i=>a.1.getD i zaJ) h with
    | none=>rfl
    | some r=>
      simp only [Option.bind_some]
      by_cases hc:(r.1=.normal∨r.1=.ret)∧a.1.length≤n
      · rw [if_pos hc,if_pos (by simpa using hc)]
      · rw [if_neg hc,if_neg (by simpa using hc)]
def ztf (v:Option zaa) (h:zab):Option (zaa × zab):=v.map fun v=>(v,h)
@[simp] theorem zKC (v:zaa):ztf (some v) h=some (v,h):=by unfold ztf;exact rfl
@[simp] theorem zLQ (h1:zab) (v:zaa):zsZ Mode.pure h h1 v=ztf (frz h1 h.blks.length h.toks.length 12 v) h:=by
  simp [zsZ,Mode.pure,ztf]
section
variable (nb nt n:Nat)
@[simp] theorem zPh:frz h nb nt (n+1) (.int k a)=some (.int k a):=by simp only [frz]
@[simp] theorem zNR (b:Bool):frz h nb nt (n+1) (.bool b)=some (.bool b):=by simp only [frz]
@[simp] theorem zPi:frz h nb nt (n+1) .nsl=some (.vsl false []):=by simp only [frz]
theorem zhO (c:Bool) {es:List (List zaa)} (he:zaw nb nt es=true):frz h nb nt (n+1) (.vsl c es)=some (.vsl false es):=by simp [frz,zBt,he]
theorem zx6 {t:Nat} {es:List (List zaa)} (ht:nt≤t) (he:zaw nb nt es=true):frz h nb nt (n+1) (.gsl t es)=some (.vsl false es):=by
  simp [frz,zBt,he];omega
theorem zj0 {cs:List zaa} (hc:zb4 cs=true):frz h nb nt (n+1) (.agg cs)=some (.agg cs):=by simp [frz,hc]
def zBu (h:zab) (nb nt n:Nat):List zaa→Option (List zaa)
  | []=>some []
  | c :: cs=>zuP (frz h nb nt n c) (zBu h nb nt n cs)
@[simp] theorem zNS:zBu h nb nt n []=some []:=by unfold zBu;exact rfl
@[simp] theorem zCX (c:zaa) (cs:List zaa):zBu h nb nt n (c :: cs)=zuP (frz h nb nt n c) (zBu h nb nt n cs):=by rw [zBu]
theorem zx8:∀ cs:List zaa,cs.mapM (frz h nb nt n)=zBu h nb nt n cs
  | []=>by simp
  | c :: cs => by
    rw [zCX,List.mapM_cons,zx8 cs,zuP]
    cases frz h nb nt n c with
    | none=>rfl
    | some v=>cases zBu h nb nt n cs <;> rfl
@[simp] theorem zPj (cs:List zaa):frz h nb nt (n+1) (.tup cs)=(zBu h nb nt n cs).map .tup:=by
  simp only [frz];rw [zx8]
end
@[simp] theorem zLS:zb4 []=true:=by simp only [zb4]
@[simp] theorem zKD (c:zaa) (cs:List zaa):zb4 (c :: cs)=(c.flat&&zb4 cs):=by simp only [zb4]
@[simp] theorem zNT:(zaa.int k a).flat=true:=by simp only [zaa.flat]
@[simp] theorem zNU (b:ByteArray):(zaa.str b).flat=true:=by simp only [zaa.flat]
attribute [simp] zI5 zMa zGf zI9 zMf zJb zJd zJe zGj zGk zGl zGm zDw zGp zJg zJj zGs zGt zGu zJn zJq zDF zGx zGz
attribute [simp] zae
end
end Go.Av
namespace Go.Av
def wr:AC→List Nat
  | .reg ops=>zgI ops
  | .draw ops=>zgI ops
  | .draw2 a _ _=>zgI a
  | .seq a b=>wr a++wr b
  | .cond _ a b=>wr a++wr b
  | .blk _ a=>wr a
  | .loop a=>wr a
  | .scope a=>wr a
  | _=>[]
theorem zxs {i:AI} {is:List AI} {t:Nat} (h:t∉zgI (i :: is)):i.dst≠some t∧t∉zgI is:=by
  simp only [zgI] at h
  cases hd:i.dst with
  | none=>rw [hd] at h;exact ⟨by simp,h⟩
  | some d=>rw [hd] at h;simp at h;exact ⟨by simp;exact fun e=>h.1 e.symm,h.2⟩
theorem zrl {fr:Fr} {d:Option Nat} {v:zaa} {t:Nat} (h:d≠some t):put fr d v t=fr t:=by
  cases d with
  | none=>rfl
  | some d=>
    have:t≠d:=fun e=>h (by rw [e])
    simp [put,upd,this]
theorem zBk {l:Nat}:∀ {a r:AC},zem a l=some r→∀ t,t∈wr r→t∈wr a:=by
  intro a
  induction a with
  | seq a b ih1 ih2=>
    intro r h t ht
    simp only [zem] at h
    split at h
    · rename_i r1 h1
      obtain rfl:=Option.some.inj h
      simp only [wr,List.mem_append] at ht ⊢
      exact ht.imp (ih1 h1 t) id
    · simp only [wr,List.mem_append]
      exact .inr (ih2 h t ht)
  | label l'=>
    intro r h t ht
    simp only [zem] at h
    split at h
    · obtain rfl:=Option.some.inj h;simp [wr] at ht
    · simp at h
  | _=>intro r h;simp [zem] at h
theorem zz5 {C:Ctx} {L:Lim} {c:AC} {fr:Fr} {h:zab} {r:AEx × Fr × zab} (hv:run C L c fr h=some r):∀ t,t∉wr c→r.2.1 t=fr t:=by
  refine (zag.mutual_partial_correctness C
    (fun _ _ _ _ _=>True)
    (fun L c fr h r=>∀ t,t∉wr c→r.2.1 t=fr t)
    (fun L a e fr h r=>∀ t,t∉wr a→r.2.1 t=fr t)
    (fun _ _ _ _ _ _=>True) (fun _ _ _ _ _ _=>True) (fun _ _ _ _ _=>True)
    (fun L ops fr h r=>∀ t,t∉zgI ops→r.1 t=fr t)
    (fun _ _ _ _ _=>True) (fun _ _ _ _ _=>True)
    (fun L ops fr h r=>∀ t,t∉zgI ops→r.1 t=fr t)
    ?_ ?_ ?_ ?_ ?_ ?_ ?_ ?_ ?_ ?_).2.1 L c fr h r hv
  · intros;trivial
  · intro run zuo zpg zk4 zp4 hrun hscope hchk hrunD hrunO L c fr h r hv t ht
    split at hv
    · obtain rfl:=Option.some.inj hv;rfl
    · obtain rfl:=Option.some.inj hv;rfl
    · obtain ⟨r1,hr1,hv⟩:=bind_some hv
      obtain rfl:=Option.some.inj hv
      exact hrunO _ _ _ _ _ hr1 t ht
    · obtain ⟨r1,hr1,hv⟩:=bind_some hv
      obtain ⟨u,hu,hv⟩:=bind_some hv
      obtain rfl:=Option.some.inj hv
      exact hrunD _ _ _ _ _ hr1 t ht
    · obtain ⟨r1,hr1,hv⟩:=bind_some hv
      obtain ⟨u,hu,hv⟩:=bind_some hv
      obtain ⟨r2,hr2,hv⟩:=bind_some hv
      obtain ⟨u2,hu2,hv⟩:=bind_some hv
      split at hv
      · obtain rfl:=Option.some.inj hv
        exact hrunD _ _ _ _ _ hr1 t ht
      · simp at hv
    · obtain ⟨r1,hr1,hv⟩:=bind_some hv
      simp only [wr,List.mem_append,not_or] at ht
      have k1:=hrun _ _ _ _ _ hr1 t ht.1
      split at hv
      · exact (hrun _ _ _ _ _ hv t ht.2).trans k1
      · obtain rfl:=Option.some.inj hv;exact k1
    · simp only [wr,List.mem_append,not_or] at ht
      split at hv
      · exact hrun _ _ _ _ _ hv t ht.1
      · exact hrun _ _ _ _ _ hv t ht.2
      · simp at hv
    · obtain ⟨r1,hr1,hv⟩:=bind_some hv
      have k1:=hrun _ _ _ _ _ hr1 t ht
      split at hv
      · obtain rfl:=Option.some.inj hv;exact k1
      · obtain rfl:=Option.some.inj hv;exact k1
    · obtain ⟨r1,hr1,hv⟩:=bind_some hv
      have k1:=hrun _ _ _ _ _ hr1 t ht
      split at hv
      · exact (hrun _ _ _ _ _ hv t ht).trans k1
      · obtain rfl:=Option.some.inj hv;exact k1
    · obtain rfl:=Option.some.inj hv;rfl
    · obtain ⟨r1,hr1,hv⟩:=bind_some hv
      exact (hscope _ _ _ _ _ _ hv t ht).trans (hrun _ _ _ _ _ hr1 t ht)
    · obtain rfl:=Option.some.inj hv;rfl
    · obtain rfl:=Option.some.inj hv;rfl
  · intro run zuo hrun hscope L a e fr h r hv t ht
    split at hv
    · split at hv
      · rename_i rest hl
        obtain ⟨r1,hr1,hv⟩:=bind_some hv
        exact (hscope _ _ _ _ _ _ hv t ht).trans (hrun _ _ _ _ _ hr1 t fun hx=>ht (zBk hl t hx))
      · obtain rfl:=Option.some.inj hv;rfl
    · obtain rfl:=Option.some.inj hv;rfl
  · intros;trivial
  · intros;trivial
  · intros;trivial
  · intro zk4 step1 hrunD hstep1 L ops fr h r hv t ht
    split at hv
    · obtain rfl:=Option.some.inj hv;rfl
    · rename_i i rest
      obtain ⟨t1,t2⟩:=zxs ht
      split at hv
      · obtain ⟨r1,hr1,hv⟩:=bind_some hv
        obtain ⟨q,hq,hv⟩:=bind_some hv
        obtain rfl:=Option.some.inj hv
        exact (hrunD _ _ _ _ _ hq t t2).trans (zrl t1)
      · obtain ⟨q,hq,hv⟩:=bind_some hv
        obtain rfl:=Option.some.inj hv
        exact (hrunD _ _ _ _ _ hq t t2).trans (zrl t1)
  · intros;trivial
  · intros;trivial
  · intro step1 zp4 hstep1 hrunO L ops fr h r hv t ht
    split at hv
    · obtain rfl:=Option.some.inj hv;rfl
    · rename_i i rest
      obtain ⟨t1,t2⟩:=zxs ht
      split at hv
      · obtain ⟨r1,hr1,hv⟩:=bind_some hv
        exact (hrunO _ _ _ _ _ hv t t2).trans (zrl t1)
      · exact (hrunO _ _ _ _ _ hv t t2).trans (zrl t1)
theorem zaf (cs:List zaa) (n:Nat) (h:(cs.length==n)=true):zei true cs 0 n=some (.agg cs):=zxk (by simpa using h)
theorem zbG (L:Lim) (h:zab) (cs:List zaa) (n:Nat) (p:zaa) (hn:(cs.length==n)=true):stK L h n p (.agg cs)=stM (zcw L h p cs):=zID h L p (by simpa using hn)
theorem zah (cs old:List zaa) (h:(old.length==cs.length)=true):setAt old 0 cs=cs:=zBh (by simpa using h)
theorem zNz (k:IntKind) (a b:Int) (h:(decide (0≤b)&&decide (b≤k.bits))=true):zkx .shr k a b=some (.int k (a.fdiv (2 ^ b.toNat))):=by
  simp only [Bool.and_eq_true,decide_eq_true_eq] at h
  unfold zkx
  rw [if_neg (by omega),Nat.min_eq_left (by omega)]
theorem zQH (k:IntKind) (a b:Int) (h:(decide (0≤b)&&decide (b≤k.bits))=true):zkx .shl k a b=some (.int k (k.wrap (a*2 ^ b.toNat))):=by
  simp only [Bool.and_eq_true,decide_eq_true_eq] at h
  unfold zkx
  rw [if_neg (by omega),Nat.min_eq_left (by omega)]
@[simp] theorem wrap_zero (k:IntKind):k.wrap 0=0:=by cases k <;> decide
theorem wrap_i64 {n:Int} (h1: -9223372036854775808≤n) (h2:n≤9223372036854775807):IntKind.i64.wrap n=n:=by
  simp [IntKind.wrap,IntKind.signed,IntKind.bits];omega
theorem wrap_u64 {n:Int} (h1:0≤n) (h2:n≤18446744073709551615):IntKind.u64.wrap n=n:=by
  simp [IntKind.wrap,IntKind.signed,IntKind.bits];omega
theorem wrap_u8 {n:Int} (h1:0≤n) (h2:n≤255):IntKind.u8.wrap n=n:=by
  simp [IntKind.wrap,IntKind.signed,IntKind.bits];omega
def Ends {α:Type} (x:Option α) (P:α→Prop):Prop:=∃ r,x=some r∧P r
@[simp] theorem zL9 {α:Type} (r:α) (P:α→Prop):Ends (some r) P↔P r:=by simp [Ends]
@[congr] theorem zKH {α:Type} {x y:Option α} (P:α→Prop) (h:x=y):Ends x P=Ends y P:=by rw [h]
def zyp (N k:Nat) (I:Nat→Fr→zab→Prop) (zsX:AEx→Fr→zab→Prop) (r:AEx × Fr × zab):Prop:=
  match r.1 with
  | .normal=>k < N∧I (k+1) r.2.1 r.2.2
  | e=>zsX e r.2.1 r.2.2
@[simp] theorem zqh (N k:Nat) (I:Nat→Fr→zab→Prop) (zsX:AEx→Fr→zab→Prop) (fr:Fr) (h:zab):zyp N k I zsX (.normal,fr,h)↔(k < N∧I (k+1) fr h):=by unfold zyp;exact Iff.rfl
@[simp] theorem zKJ (N k:Nat) (I:Nat→Fr→zab→Prop) (zsX:AEx→Fr→zab→Prop) (i:Nat) (fr:Fr) (h:zab):zyp N k I zsX (.exit i,fr,h)↔zsX (.exit i) fr h:=by unfold zyp;exact Iff.rfl
@[simp] theorem zMe (N k:Nat) (I:Nat→Fr→zab→Prop) (zsX:AEx→Fr→zab→Prop) (fr:Fr) (h:zab):zyp N k I zsX (.ret,fr,h)↔zsX .ret fr h:=by unfold zyp;exact Iff.rfl
theorem zaj {C:Ctx} {L:Lim} {B:AC} {fr0:Fr} {h0:zab} {R:Option (AEx × Fr × zab)} (hF:run C L (.loop B) fr0 h0=R) (N:Nat) (I:Nat→Fr→zab→Prop) (zsX:AEx→Fr→zab→Prop) (hI:I 0 fr0 h0)
    (step:∀ k fr h,k≤N→(∀ t,t∉wr B→fr t=fr0 t)→I k fr h→Ends (run C L B fr h) (zyp N k I zsX)):
    ∃ e fr h,R=some (e,fr,h)∧zsX e fr h∧(∀ t,t∉wr B→fr t=fr0 t):=by
  subst hF
  have key:∀ m k fr h,N - k=m→k≤N→(∀ t,t∉wr B→fr t=fr0 t)→I k fr h→
      ∃ e fr' h',run C L (.loop B) fr h=some (e,fr',h')∧zsX e fr' h'∧(∀ t,t∉wr B→fr' t=fr0 t):=by
    intro m
    induction m with
    | zero=>
      intro k fr h hm hk hkeep hi
      obtain ⟨⟨e,fr1,h1⟩,hr,hp⟩:=step k fr h hk hkeep hi
      have hkp:=zz5 hr
      rw [zsz,hr]
      cases e with
      | normal=>have:=(zqh N k I zsX fr1 h1).1 hp;omega
      | exit i=>exact ⟨_,_,_,rfl,hp,fun t ht=>(hkp t ht).trans (hkeep t ht)⟩
      | goto l=>exact ⟨_,_,_,rfl,hp,fun t ht=>(hkp t ht).trans (hkeep t ht)⟩
      | ret=>exact ⟨_,_,_,rfl,hp,fun t ht=>(hkp t ht).trans (hkeep t ht)⟩
    | succ m ih=>
      intro k fr h hm hk hkeep hi
      obtain ⟨⟨e,fr1,h1⟩,hr,hp⟩:=step k fr h hk hkeep hi
      have hkp:=zz5 hr
      rw [zsz,hr]
      cases e with
      | normal=>
        have:=(zqh N k I zsX fr1 h1).1 hp
        exact ih (k+1) fr1 h1 (by omega) (by omega) (fun t ht=>(hkp t ht).trans (hkeep t ht)) this.2
      | exit i=>exact ⟨_,_,_,rfl,hp,fun t ht=>(hkp t ht).trans (hkeep t ht)⟩
      | goto l=>exact ⟨_,_,_,rfl,hp,fun t ht=>(hkp t ht).trans (hkeep t ht)⟩
      | ret=>exact ⟨_,_,_,rfl,hp,fun t ht=>(hkp t ht).trans (hkeep t ht)⟩
  exact key N 0 fr0 h0 rfl (Nat.zero_le _) (fun _ _=>rfl) hI
def gL (s:zaa) (n i:Nat) (es:List (List zaa)):zaa:=if es=[] then s else gA n i es
def gT (es:List (List zaa)):List Nat:=if es=[] then [] else [es.length]
theorem zMg {C:Ctx} {fr:Fr} {L:Lim} {h:zab} {bs:List (List zaa)} {sz:Nat} {x y:AO} {s:zaa} {es ys:List (List zaa)} (hs:s=.nsl∨s=.vsl true [])
    (hx':C.ev fr x=gL s h.toks.length 0 es) (hy:zaz (hx h bs (gT es)) sz (C.ev fr y)=some ys) (hstr:zfe sz (C.ev fr y)=true)
    (hsz:zeZ sz ys=true) (hse:zeZ sz es=true) (hr:L.rot≤h.toks.length) (hroom:es.length+ys.length < zas):
    zhS C L fr (hx h bs (gT es)) (.app sz false x y)=some (gL s h.toks.length 0 (es++ys),hx h bs (gT (es++ys))):=by
  simp only [zhS,bind,hy,Option.bind_some,hstr,if_true]
  rw [hx']
  unfold zBq
  rw [if_pos hsz]
  by_cases he:es=[]
  · subst he
    have h1:gL s h.toks.length 0 []=s:=by simp [gL]
    rw [h1]
    by_cases hy0:ys=[]
    · subst hy0
      rcases hs with rfl | rfl <;> simp [gL,gT,zeZ]
    · have hroom' : ys.length < zas := by simpa using hroom
      rcases hs with rfl | rfl <;> simp [gL,gT,zeZ,hy0,hroom',zeB,gA,hx,ptok]
  · have h1 : gL s h.toks.length 0 es = gA h.toks.length 0 es := by simp [gL, he]
    rw [h1]
    have h2:gT es=[es.length]:=by simp [gT,he]
    have h3:gL s h.toks.length 0 (es++ys)=gA h.toks.length 0 (es++ys):=by simp [gL,he]
    have h4:gT (es++ys)=[es.length+ys.length]:=by simp [gT,he]
    rw [h3,h2,h4]
    simp only [gA,Nat.add_zero]
    have h5:(hx h bs [es.length]).toks[h.toks.length]?=some es.length:=by simp [hx]
    rw [if_pos ⟨trivial,he,hse,hr,h5,hroom⟩]
    simp [hx]
def zq6 (L:Lim) (h:zab) (sz:Nat) (ref:Bool) (x y:zaa):Option (zaa × zab):=
  (zaz h sz y).bind fun ys=>if zfe sz y=true then zBq L ref sz h x ys else none
@[simp] theorem zGi (C:Ctx) (fr:Fr) (L:Lim) (h:zab) (sz:Nat) (ref:Bool) (x y:AO):zhS C L fr h (.app sz ref x y)=zq6 L h sz ref (C.ev fr x) (C.ev fr y):=by
  simp only [zhS,zq6,bind]
theorem zDp {L:Lim} {h:zab} {bs:List (List zaa)} {sz:Nat} {s y:zaa} {es ys:List (List zaa)} (hs:s=.nsl∨s=.vsl true [])
    (hy:zaz (hx h bs (gT es)) sz y=some ys) (hstr:zfe sz y=true) (hsz:zeZ sz ys=true) (hse:zeZ sz es=true) (hr:L.rot≤h.toks.length) (hroom:es.length+ys.length < zas):
    zq6 L (hx h bs (gT es)) sz false (gL s h.toks.length 0 es) y=some (gL s h.toks.length 0 (es++ys),hx h bs (gT (es++ys))):=by
  let C:Ctx:={fns:=fun _=>none,mode:=fun _=>Mode.pure,glob:=fun _=>none,meth:=fun _ _=>none,ext:=fun _=>none}
  have:=zMg (C:=C) (fr:=fun _=>zaJ) (x:=.k (gL s h.toks.length 0 es)) (y:=.k y) hs rfl hy hstr hsz hse hr hroom
  rw [zGi] at this
  exact this
theorem zpQ (L:Lim) (h:zab) (bs:List (List zaa)) (sz:Nat) (c:Bool) (es ys:List (List zaa))
    (hc:(zeZ sz ys&&zeZ sz es&&decide (L.rot≤h.toks.length)&&decide (es.length+ys.length < zas))=true):
    zq6 L (hx h bs (gT es)) sz false (gL .nsl h.toks.length 0 es) (.vsl c ys)=some (gL .nsl h.toks.length 0 (es++ys),hx h bs (gT (es++ys))):=by
  simp only [Bool.and_eq_true,decide_eq_true_eq] at hc
  exact zDp (.inl rfl) (by simp only [zaz]) (by simp only [zfe]) hc.1.1.1 hc.1.1.2 hc.1.2 hc.2
theorem zwF (L:Lim) (h:zab) (bs:List (List zaa)) (ts:List Nat) (sz:Nat) (c:Bool) (es ys:List (List zaa))
    (hc:(zeZ sz ys&&zeZ sz es&&decide (es.length+ys.length < zas)&&decide (0 < ys.length))=true):
    zq6 L (hx h bs ts) sz false (.vsl true es) (.vsl c ys)=some (gA h.toks.length ts.length (es++ys),hx h bs (ts++[es.length+ys.length])):=by
  simp only [Bool.and_eq_true,decide_eq_true_eq] at hc
  have hy:ys≠[]:=fun e=>by have:=hc.2;simp [e] at this
  simp [zq6,zaz,zfe,zBq,hc.1.1.1,hc.1.1.2,hc.1.2,hy,zeB,gA,hx,ptok]
theorem zDt (L:Lim) (h:zab) (bs:List (List zaa)) (ts:List Nat) (sz i:Nat) (c:Bool) (es ys:List (List zaa))
    (hc:(zeZ sz ys&&zeZ sz es&&decide (es.length+ys.length < zas)&&decide (0 < es.length)&&decide (L.rot≤h.toks.length)&&(ts[i]?==some es.length))=true):
    zq6 L (hx h bs ts) sz false (gA h.toks.length i es) (.vsl c ys)=some (gA h.toks.length i (es++ys),hx h bs (ts.set i (es.length+ys.length))):=by
  simp only [Bool.and_eq_true,decide_eq_true_eq,beq_iff_eq] at hc
  obtain ⟨⟨⟨⟨⟨c1,c2⟩,c3⟩,c4⟩,c5⟩,c6⟩:=hc
  have he:es≠[]:=fun e=>by simp [e] at c4
  have h5:(hx h bs ts).toks[h.toks.length+i]?=some es.length:=by
    simp only [hx];rw [List.getElem?_append_right (Nat.le_add_right _ _),Nat.add_sub_cancel_left];exact c6
  simp only [zq6,zaz,zfe,zBq,gA,c1,c2,Option.bind_some,if_true]
  rw [if_pos ⟨trivial,he,by trivial,by omega,h5,c3⟩]
  simp only [hx]
  rw [List.set_append_right _ _ (Nat.le_add_right _ _),Nat.add_sub_cancel_left]
theorem zoN {h1:zab} {nb nt n:Nat} {s:zaa} {es:List (List zaa)} (hs:s=.nsl∨s=.vsl true []) (he:zaw nb nt es=true):frz h1 nb nt (n+1) (gL s nt 0 es)=some (.vsl false es):=by
  unfold gL
  split
  · rename_i h0
    subst h0
    rcases hs with rfl | rfl
    · simp
    · exact zhO h1 nb nt n true (by simp [zaw])
  · exact zx6 h1 nb nt n (by simp) he
end Go.Av
namespace Go.Av
def eI (k:IntKind) (l:List Int):List (List zaa):=l.map fun n=>[.int k n]
@[simp] theorem zL1 (k:IntKind) (l:List Int):(eI k l).length=l.length:=by simp [eI]
@[simp] theorem zIX (k:IntKind) (l:List Int):zeZ 1 (eI k l)=true:=by cases l <;> simp [eI,zeZ]
@[simp] theorem zu8 (k:IntKind) (nb nt:Nat):∀ l:List Int,zaw nb nt (eI k l)=true
  | []=>by simp [eI,zaw]
  | x :: l => by
    have:=zu8 k nb nt l
    simp only [eI] at this
    simp [eI,zaw,zap,zaa.under,this]
@[simp] theorem zL2 (k:IntKind) (l m:List Int):eI k l++eI k m=eI k (l++m):=by simp [eI]
theorem zHO (k:IntKind) (l:List Int) (i:Nat):(eI k l)[i]?=(l[i]?).map fun n=>[.int k n]:=by simp [eI]
theorem zhT (k:IntKind) (n:Int):[[zaa.int k n]]=eI k [n]:=rfl
theorem zse (k:IntKind) (n:Int) (l:List Int):[zaa.int k n] :: eI k l=eI k (n :: l):=rfl
@[simp] theorem zHP (k:IntKind):eI k []=[]:=rfl
def bts (s:ByteArray):List Int:=s.data.toList.map fun b=>(b.toNat:Int)
theorem zI1 (s:ByteArray):(s.data.toList.map fun b=>[zaa.int .u8 b.toNat])=eI .u8 (bts s):=by unfold bts eI;rw [List.map_map];rfl
@[simp] theorem zPl (s:ByteArray):(bts s).length=s.size:=by unfold bts;rw [List.length_map];rfl
@[simp] theorem zNZ (sz:Nat) (x:List zaa):zeZ sz [x]=(x.length==sz):=rfl
abbrev zOp:Mode:=⟨false,false,false,true⟩
section
variable (L:Lim) (h:zab) (bs:List (List zaa)) (ts:List Nat)
def ztQ (h:zab) (t n:Nat):zab:=⟨h.blks,h.toks.set t n⟩
@[simp] theorem zLP (t n:Nat):(ztQ h t n).blks=h.blks:=rfl
@[simp] theorem zOL (t n:Nat):(ztQ h t n).toks.length=h.toks.length:=by simp [ztQ]
@[simp] theorem zzY:zdN (hx h bs ts) h.blks.length h.toks.length=h:=by simp [zdN,hx]
@[simp] theorem zMo (args:List zaa):zkl zOp h args=some (args,false):=by simp [zkl]
@[simp] theorem zMp:zc0 zOp L h=⟨L.rob,L.rot,h.blks.length,h.toks.length⟩:=by simp [zc0]
theorem zGn (es:List (List zaa)) (hu:(zaw h.blks.length h.toks.length es&&(ts[0]?==some es.length))=true):
    zsZ zOp h (hx h bs ts) (gA h.toks.length 0 es)=some (.gsl h.toks.length es,ptok h es.length):=by
  simp only [Bool.and_eq_true,beq_iff_eq] at hu
  obtain ⟨u1,u2⟩:=hu
  have h5:(hx h bs ts).toks[h.toks.length]?=some es.length:=by
    simp only [hx];rw [List.getElem?_append_right (Nat.le_refl _),Nat.sub_self];exact u2
  unfold zsZ
  simp only [gA,Nat.add_zero,h5,u1,zzY]
  simp
theorem zGr (t:Nat) (es:List (List zaa)) (h':zab) (hl:h'.blks.length=h.blks.length∧h'.toks.length=h.toks.length) (ht:t < h.toks.length) (hu:zaw h.blks.length h.toks.length es=true):
    zsZ zOp h (hx h' bs ts) (.gsl t es)=some (.gsl t es,h'):=by
  have e:zdN (hx h' bs ts) h.blks.length h.toks.length=h':=by rw [← hl.1,← hl.2];exact zzY h' bs ts
  unfold zsZ
  simp only [e]
  have hnot:¬h.toks.length≤t:=by omega
  simp [hnot,frz,zBt,hu,ht]
theorem zGc (sz t:Nat) (c:Bool) (es ys:List (List zaa)) (ht:h.toks[t]?=some es.length)
    (hc:(zeZ sz ys&&zeZ sz es&&decide (es.length+ys.length < zas)&&decide (0 < es.length)&&decide (L.rot≤t))=true):
    zq6 L (hx h bs ts) sz false (.gsl t es) (.vsl c ys)=some (.gsl t (es++ys),hx (ztQ h t (es.length+ys.length)) bs ts):=by
  simp only [Bool.and_eq_true,decide_eq_true_eq] at hc
  obtain ⟨⟨⟨⟨c1,c2⟩,c3⟩,c4⟩,c5⟩:=hc
  have he:es≠[]:=fun e=>by simp [e] at c4
  have hlt:=(List.getElem?_eq_some_iff.1 ht).1
  have h5:(hx h bs ts).toks[t]?=some es.length:=by
    simp only [hx];rw [List.getElem?_append_left hlt];exact ht
  simp only [zq6,zaz,zfe,zBq,c1,c2,Option.bind_some,if_true]
  rw [if_pos ⟨trivial,he,by trivial,c5,h5,c3⟩]
  simp only [hx,ztQ]
  rw [List.set_append_left _ _ hlt]
theorem zF4 (i:Nat) (es:List Int) (s:ByteArray)
    (hc:(decide (es.length+s.size < zas)&&decide (0 < es.length)&&decide (L.rot≤h.toks.length)&&(ts[i]?==some es.length))=true):
    zq6 L (hx h bs ts) 1 false (gA h.toks.length i (eI .u8 es)) (.str s)=some (gA h.toks.length i (eI .u8 (es++bts s)),hx h bs (ts.set i (es.length+s.size))):=by
  have hs:zq6 L (hx h bs ts) 1 false (gA h.toks.length i (eI .u8 es)) (.str s)=zq6 L (hx h bs ts) 1 false (gA h.toks.length i (eI .u8 es)) (.vsl false (eI .u8 (bts s))):=by
    simp [zq6,zaz,zfe,zI1]
  have h1:=zDt L h bs ts 1 i false (eI .u8 es) (eI .u8 (bts s)) (by simpa using hc)
  rw [hs,h1]
  simp
theorem zIY (n:Nat):ptok (hx h bs ts) n=hx h bs (ts++[n]):=by simp [ptok,hx]
theorem zal:(hx h bs ts).toks.length=h.toks.length+ts.length:=by simp [hx]
theorem zan:(hx h bs ts).blks.length=h.blks.length+bs.length:=by simp [hx]
theorem zJN (i n:Nat):ztQ (hx h bs ts) (h.toks.length+i) n=hx h bs (ts.set i n):=by
  simp only [ztQ,hx]
  rw [List.set_append_right _ _ (Nat.le_add_right _ _),Nat.add_sub_cancel_left]
end
end Go.Av
namespace Go.Av
def tab {α:Type} (n:Nat) (f:Nat→α):List α:=(List.range n).map f
@[simp] theorem zyi {α:Type} (n:Nat) (f:Nat→α):(tab n f).length=n:=by simp [tab]
theorem ziu {α:Type} (n:Nat) (f:Nat→α) (i:Nat):(tab n f)[i]?=if i < n then some (f i) else none:=by
  unfold tab
  by_cases h:i < n
  · rw [List.getElem?_map,List.getElem?_range h,if_pos h];rfl
  · rw [if_neg h];simp;omega
theorem zLZ {α:Type} {n:Nat} {f:Nat→α} {i:Nat} (h:i < n):(tab n f)[i]?=some (f i):=by rw [ziu,if_pos h]
theorem zgx {α:Type} {n:Nat} {f g:Nat→α} (h:∀ i,i < n→f i=g i):tab n f=tab n g:=by
  unfold tab;exact List.map_congr_left fun i hi=>h i (by simpa using hi)
theorem zu6 {α : Type} (n : Nat) (f : Nat → α) (i : Nat) (v : α) : (tab n f).set i v = tab n (fun j => if j = i then v else f j) := by
  refine List.ext_getElem? fun j=>?_
  rw [List.getElem?_set,zyi,ziu,ziu]
  by_cases h:i=j
  · subst h;simp
  · simp [h,Ne.symm h]
theorem zF2 {α : Type} (l : List α) (d : α) : tab l.length (fun i => l.getD i d) = l := by
  refine List.ext_getElem? fun j=>?_
  rw [ziu]
  by_cases h:j < l.length
  · rw [if_pos h,List.getElem?_eq_getElem h];simp [List.getD,h]
  · rw [if_neg h,List.getElem?_eq_none (by omega)]
theorem zDb {α:Type} {l:List α} {n:Nat} (d:α) (h:l.length=n):l=tab n (fun i=>l.getD i d):=by subst h;exact (zF2 l d).symm
theorem zF3 {α:Type} {n:Nat} {f:Nat→α} {i:Nat} {d:α} (h:i < n):(tab n f).getD i d=f i:=by
  rw [List.getD,zLZ h];rfl
theorem zBH {α β : Type} (n : Nat) (f : Nat → α) (g : α → β) : (tab n f).map g = tab n (fun i => g (f i)) := by
  simp [tab,Function.comp_def]
theorem zyQ {α : Type} (x : α) (n : Nat) : zaR x n = tab n (fun _ => x) := by
  refine List.ext_getElem? fun j=>?_
  have key:∀ n j:Nat,(zaR x n)[j]?=if j < n then some x else none:=by
    intro n
    induction n with
    | zero=>intro j;simp [zaR]
    | succ n ih=>
      intro j
      cases j with
      | zero=>simp [zaR]
      | succ j=>simp only [zaR,List.getElem?_cons_succ,ih];simp
  rw [key,ziu]
def gd {α:Type} (l:List α) (d:α) (i:Nat):α:=l.getD i d
theorem zk6 {α:Type} {n:Nat} {f:Nat→α} {i:Nat} {d:α} (h:i < n):gd (tab n f) d i=f i:=zF3 h
theorem zBP {α:Type} {l:List α} {n:Nat} (d:α) (h:l.length=n):l=tab n (gd l d):=zDb d h
theorem zut {α:Type} {l:List α} {i:Nat} {d:α} (h:i < l.length):l[i]?=some (gd l d i):=by
  unfold gd;simp [List.getD,h]
def zBm {α:Type} (n:Nat) (f g:Nat→α) (k:Nat):List α:=tab n fun j=>if j < k then f j else g j
@[simp] theorem zNB {α:Type} (n:Nat) (f g:Nat→α) (k:Nat):(zBm n f g k).length=n:=by simp [zBm]
theorem zE6 {α:Type} (n:Nat) (f g:Nat→α) (k:Nat):(zBm n f g k).set k (f k)=zBm n f g (k+1):=by
  unfold zBm
  rw [zu6]
  refine zgx fun j hj=>?_
  by_cases h1:j=k
  · subst h1;simp
  · by_cases h2:j < k
    · rw [if_neg h1,if_pos h2,if_pos (by omega)]
    · rw [if_neg h1,if_neg h2,if_neg (by omega)]
theorem zBT {α:Type} (n:Nat) (f g:Nat→α):zBm n f g 0=tab n g:=zgx fun j hj=>by simp
theorem zE7 {α:Type} (n:Nat) (f g:Nat→α):zBm n f g n=tab n f:=zgx fun j hj=>by simp [hj]
theorem zIh {α:Type} {n:Nat} {f g:Nat→α} {k:Nat} {d:α} (h:k < n):gd (zBm n f g k) d k=g k:=by
  unfold zBm;rw [zk6 h];simp
abbrev W64:=BitVec 64
def wd (x:W64):zaa:=.int .u64 x.toNat
def cW (l:List W64):List zaa:=l.map wd
def cB (l:List Bool):List zaa:=l.map zaa.bool
def cI (k:IntKind) (l:List Int):List zaa:=l.map fun n=>.int k n
@[simp] theorem zPV (l:List W64):(cW l).length=l.length:=by simp [cW]
@[simp] theorem zHB (k:IntKind) (l:List Int):(cI k l).length=l.length:=by simp [cI]
theorem zrq:∀ {l:List zaa},zb4 l=true↔∀ c∈l,c.flat=true
  | []=>by simp [zb4]
  | c :: cs=>by simp [zb4,zrq (l:=cs)]
@[simp] theorem zuu (l : List W64) : zb4 (cW l) = true := zrq.2 fun c h => by
  simp only [cW,List.mem_map] at h;obtain ⟨x,_,rfl⟩:=h;rfl
@[simp] theorem zBW (k : IntKind) (l : List Int) : zb4 (cI k l) = true := zrq.2 fun c h => by
  simp only [cI,List.mem_map] at h;obtain ⟨x,_,rfl⟩:=h;rfl
theorem zFb {l:List W64} {i:Nat} (h:i < l.length):(cW l)[i]?=some (wd (gd l 0#64 i)):=by
  simp [cW,gd,List.getD,h]
theorem zLq (l:List W64) (i:Nat) (h:decide (i < l.length)=true):(cW l)[i]?=some (wd (gd l 0#64 i)):=zFb (by simpa using h)
@[simp] theorem zOQ (l:List W64) (i:Nat) (h:i < (cW l).length):(cW l)[i]=wd (gd l 0#64 i):=by
  have:=zFb (l:=l) (i:=i) (by simpa using h)
  rw [List.getElem?_eq_getElem h] at this
  exact Option.some.inj this
@[simp] theorem zPW (l:List W64) (i:Nat) (x:W64):(cW l).set i (wd x)=cW (l.set i x):=by simp [cW,List.map_set]
@[simp] theorem zLt (k:IntKind) (l:List Int) (i:Nat) (x:Int):(cI k l).set i (.int k x)=cI k (l.set i x):=by simp [cI,List.map_set]
@[simp] theorem zOS (l:List W64) (n:Nat):(cW l).take n=cW (l.take n):=by simp [cW]
@[simp] theorem zOT (l:List W64) (n:Nat):(cW l).drop n=cW (l.drop n):=by simp [cW]
theorem zbh (n:Nat):zaR (.int .u64 0) n=cW (tab n fun _=>0#64):=by rw [zyQ,cW,zBH];rfl
theorem zgg (k:IntKind) (x:Int) (n:Nat):zaR (.int k x) n=cI k (tab n fun _=>x):=by rw [zyQ,cI,zBH]
@[simp] theorem zNC (x:W64):(wd x).cells=[wd x]:=rfl
@[simp] theorem zPY (x:W64):(wd x).okV=true:=rfl
@[simp] theorem zOX (x:W64):(wd x).flat=true:=rfl
@[simp] theorem zP0 (x:W64):asI (wd x)=some (x.toNat:Int):=rfl
theorem zLv (n:Nat) (h:n < 18446744073709551616):zaa.int .u64 (n:Int)=wd (BitVec.ofNat 64 n):=by
  unfold wd;rw [BitVec.toNat_ofNat,Nat.mod_eq_of_lt (by simpa using h)]
theorem zxO (n:Nat) (h:n < 18446744073709551616):IntKind.u64.wrap (n:Int)=n:=wrap_u64 (by omega) (by omega)
theorem zdz (x:W64):BitVec.ofInt 64 (x.toNat:Int)=x:=by
  apply BitVec.eq_of_toNat_eq
  rw [BitVec.toNat_ofInt]
  have:=x.isLt
  omega
theorem zyU (x:W64):x.toNat < 18446744073709551616:=x.isLt
@[simp] theorem zP1 (x y:W64):zdX .xor (wd x) (wd y)=some (wd (x ^^^ y)):=by
  unfold wd
  rw [zKg]
  show some (zaa.int .u64 (IntKind.u64.wrap ((BitVec.ofInt 64 (x.toNat:Int) ^^^ BitVec.ofInt 64 (y.toNat:Int):BitVec 64).toNat:Int)))=_
  rw [zdz,zdz,zxO _ (zyU _)]
@[simp] theorem zn1 (x y:W64):zdX .and (wd x) (wd y)=some (wd (x&&&y)):=by
  unfold wd
  rw [zlX]
  show some (zaa.int .u64 (IntKind.u64.wrap ((BitVec.ofInt 64 (x.toNat:Int)&&&BitVec.ofInt 64 (y.toNat:Int):BitVec 64).toNat:Int)))=_
  rw [zdz,zdz,zxO _ (zyU _)]
@[simp] theorem zQG (x y:W64):zdX .or (wd x) (wd y)=some (wd (x|||y)):=by
  unfold wd
  rw [zEy]
  show some (zaa.int .u64 (IntKind.u64.wrap ((BitVec.ofInt 64 (x.toNat:Int)|||BitVec.ofInt 64 (y.toNat:Int):BitVec 64).toNat:Int)))=_
  rw [zdz,zdz,zxO _ (zyU _)]
@[simp] theorem zLw (x y:W64):zdX .andNot (wd x) (wd y)=some (wd (x&&&~~~ y)):=by
  unfold wd
  rw [zBe]
  show some (zaa.int .u64 (IntKind.u64.wrap ((BitVec.ofInt 64 (x.toNat:Int)&&&~~~ (BitVec.ofInt 64 (y.toNat:Int)):BitVec 64).toNat:Int)))=_
  rw [zdz,zdz,zxO _ (zyU _)]
theorem zfk (n:Int):IntKind.u64.wrap n=n % 18446744073709551616:=by
  unfold IntKind.wrap
  simp [IntKind.signed,IntKind.bits]
@[simp] theorem zP2 (x y:W64):zdX .add (wd x) (wd y)=some (wd (x+y)):=by
  unfold wd
  rw [zKd,zfk,BitVec.toNat_add,Int.natCast_emod,Int.natCast_add];rfl
@[simp] theorem zP3 (x y:W64):zdX .mul (wd x) (wd y)=some (wd (x*y)):=by
  unfold wd
  rw [zKe,zfk,BitVec.toNat_mul,Int.natCast_emod,Int.natCast_mul];rfl
@[simp] theorem zLx (x y:W64):zdX .sub (wd x) (wd y)=some (wd (x - y)):=by
  unfold wd
  rw [zyK,zfk]
  congr 2
  have h1:=x.isLt
  have h2:=y.isLt
  rw [BitVec.toNat_sub]
  omega
theorem zv0 (x:W64) (k:IntKind) (n:Nat) (h:decide (n≤64)=true):zdX .shl (wd x) (.int k (n:Int))=some (wd (x <<< n)):=by
  have h':n≤64:=by simpa using h
  unfold wd
  rw [zlZ,zQH _ _ _ (by simp only [show ((IntKind.u64.bits:Nat):Int)=64 from rfl,Bool.and_eq_true,decide_eq_true_eq];exact ⟨Int.natCast_nonneg n,by omega⟩)]
  rw [zfk,BitVec.toNat_shiftLeft,Int.toNat_natCast,Nat.shiftLeft_eq,Int.natCast_emod,Int.natCast_mul,Int.natCast_pow];rfl
theorem zmT (x:W64) (k:IntKind) (n:Nat) (h:decide (n≤64)=true):zdX .shr (wd x) (.int k (n:Int))=some (wd (x >>> n)):=by
  have h':n≤64:=by simpa using h
  unfold wd
  rw [zdL,zNz _ _ _ (by simp only [show ((IntKind.u64.bits:Nat):Int)=64 from rfl,Bool.and_eq_true,decide_eq_true_eq];exact ⟨Int.natCast_nonneg n,by omega⟩)]
  rw [BitVec.toNat_ushiftRight,Int.toNat_natCast,Nat.shiftRight_eq_div_pow,Int.fdiv_eq_ediv_of_nonneg _ (by exact Int.pow_nonneg (by decide)),Int.natCast_ediv,Int.natCast_pow];rfl
def bw (n:Int):W64:=BitVec.ofInt 64 n
@[simp] theorem zP4 (k:IntKind) (n:Int):zKM .u64 (.int k n)=some (wd (bw n)):=by
  rw [zd3,zfk]
  unfold wd bw
  congr 2
  rw [BitVec.toNat_ofInt]
  omega
theorem zB3 (h:zab) (nb nt n i:Nat) (es:List (List zaa)) (he:zaw nb nt es=true):frz h nb nt (n+1) (gA nt i es)=some (.vsl false es):=zx6 h nb nt n (by simp) he
@[simp] theorem zP6 (h:zab) (nb nt n i:Nat) (k:IntKind) (l:List Int):frz h nb nt (n+1) (gA nt i (eI k l))=some (.vsl false (eI k l)):=zB3 h nb nt n i _ (by simp)
@[simp] theorem zO2 (h:zab) (nb nt n:Nat) (c:Bool) (k:IntKind) (l:List Int):frz h nb nt (n+1) (.vsl c (eI k l))=some (.vsl false (eI k l)):=zhO h nb nt n c (by simp)
@[simp] theorem zP7 (h:zab) (nb nt n:Nat) (x:W64):frz h nb nt (n+1) (wd x)=some (wd x):=by unfold wd;simp
@[simp] theorem zP8 (h:zab) (x:W64):fzA h (wd x)=some (wd x,false):=by unfold wd;simp
@[simp] theorem zP9 (h:zab) (nb nt n:Nat) (l:List W64):frz h nb nt (n+1) (.agg (cW l))=some (.agg (cW l)):=zj0 h nb nt n (zuu l)
@[simp] theorem zQa (h:zab) (nb nt n:Nat) (k:IntKind) (l:List Int):frz h nb nt (n+1) (.agg (cI k l))=some (.agg (cI k l)):=zj0 h nb nt n (zBW k l)
@[simp] theorem zQb (h:zab) (l:List W64):fzA h (.agg (cW l))=some (.agg (cW l),false):=zuO h (zuu l)
@[simp] theorem zQc (h:zab) (k:IntKind) (l:List Int):fzA h (.agg (cI k l))=some (.agg (cI k l),false):=zuO h (zBW k l)
@[simp] theorem zQd (L:Lim) (h:zab) (p:zaa) (x:W64):stK L h 1 p (wd x)=stM (zcw L h p [wd x]):=by simp [stK]
@[simp] theorem zO3 (x:W64):zmH (wd x)=some (.vptr [wd x] 0):=rfl
theorem zfT (n sz m i off k:Nat) (kd:IntKind) (h:decide (k < n)=true):zcZ (some n) sz (pA m i off) (.int kd (k:Int))=some (pA m i (off+k*sz)):=by
  have:k < n:=by simpa using h
  simp [zcZ,asI,pA,this]
theorem zry (n sz off k:Nat) (cs:List zaa) (kd:IntKind) (h:decide (k < n)=true):zcZ (some n) sz (.vptr cs off) (.int kd (k:Int))=some (.vptr cs (off+k*sz)):=by
  have:k < n:=by simpa using h
  simp [zcZ,asI,this]
@[simp] theorem zNE (n sz m i off:Nat) (kd:IntKind):zcZ (some (n+1)) sz (pA m i off) (.int kd 0)=some (pA m i off):=by simp [zcZ,asI,pA]
@[simp] theorem zNF (n sz off:Nat) (cs:List zaa) (kd:IntKind):zcZ (some (n+1)) sz (.vptr cs off) (.int kd 0)=some (.vptr cs off):=by simp [zcZ,asI]
theorem zrB (n i off sz len k:Nat) (cap:Option Nat) (kd:IntKind) (h:decide (k < len)=true):zcZ none sz (sA n i off sz len cap) (.int kd (k:Int))=some (pA n i (off+k*sz)):=by
  have:k < len:=by simpa using h
  simp [zcZ,asI,sA,pA,this]
theorem zxS (n k:Nat) (g:Bool) (cs:List zaa) (sz:Nat) (kd:IntKind) (h:decide (k < n)=true):zOa n sz g (.agg cs) (.int kd (k:Int))=zei g cs (k*sz) sz:=by
  have:k < n:=by simpa using h
  unfold zOa;simp [this]
theorem zxT (k' kd:IntKind) (c:Bool) (l:List Int) (i:Nat) (h:decide (i < l.length)=true):zcZ none 1 (.vsl c (eI k' l)) (.int kd (i:Int))=some (.vptr [.int k' (gd l 0 i)] 0):=by
  have h':i < l.length:=by simpa using h
  simp [zcZ,asI,zHO,h',gd,List.getD]
@[simp] theorem zO4 (n i off sz len:Nat) (cap:Option Nat):zwS (sA n i off sz len cap)=some len:=rfl
@[simp] theorem zO5 (n i:Nat) (es:List (List zaa)):zwS (gA n i es)=some es.length:=rfl
@[simp] theorem zQe (L:Lim) (h:zab) (p:zaa) (n i off sz len:Nat) (cap:Option Nat):stK L h 1 p (sA n i off sz len cap)=stM (zcw L h p [sA n i off sz len cap]):=by simp [stK,sA,zaa.cells,zaa.okV]
section
variable (L:Lim) (h:zab) (bs:List (List zaa)) (ts:List Nat)
theorem zl9 : ∀ (n : Nat) (cs : List zaa), cs.length = n → chunks 1 n cs = cs.map fun c => [c]
  | 0,[],_=>rfl
  | n+1,c :: cs,h=>by simp [chunks,zl9 n cs (by simpa using h)]
theorem zuD (i n : Nat) (cs : List zaa) (cap : Option Nat) (hb : bs[i]? = some cs) (hl : cs.length = n) : zaz (hx h bs ts) 1 (sA h.blks.length i 0 1 n cap) = some (cs.map fun c => [c]) := by
  simp only [zaz,sA,hx]
  rw [List.getElem?_append_right (Nat.le_add_right _ _),Nat.add_sub_cancel_left,hb]
  simp [hl,zl9]
theorem zqV (k:IntKind) (l:List Int):(cI k l).map (fun c=>[c])=eI k l:=by simp [cI,eI]
theorem zCe (k:IntKind) (l:List Int):(eI k l).flatten=cI k l:=by
  induction l with
  | nil=>rfl
  | cons x l ih=>simp only [eI,List.map_cons,List.flatten_cons] at ih ⊢;rw [ih];rfl
end
end Go.Av
namespace Go.Av
abbrev wrM:Mode:=⟨false,false,false,false⟩
abbrev roM:Mode:=⟨true,false,false,false⟩
abbrev zPk:Mode:=⟨false,false,true,false⟩
section
variable (L:Lim) (h:zab) (bs bs':List (List zaa)) (ts ts':List Nat)
@[simp] theorem zNW (args:List zaa):zkl wrM h args=some (args,false):=by simp [zkl]
@[simp] theorem zF6 (args:List zaa):zkl roM h args=some (args,false):=by simp [zkl]
@[simp] theorem zL5 (args:List zaa):zkl zPk h args=some (args,false):=by simp [zkl]
@[simp] theorem zNY:zc0 wrM L h=⟨L.rob,L.rot,h.blks.length,h.toks.length⟩:=by simp [zc0]
@[simp] theorem zGd:zc0 roM L h=zau h:=by simp [zc0,zau]
@[simp] theorem zMl:zc0 zPk L h=L:=by simp [zc0]
@[simp] theorem zPw (h1:zab) (v:zaa):zsZ wrM h h1 v=ztf (frz h1 h.blks.length h.toks.length 12 v) (zdN h1 h.blks.length h.toks.length):=by
  simp [zsZ,ztf]
@[simp] theorem zPx (h1:zab) (v:zaa):zsZ roM h h1 v=ztf (frz h1 h.blks.length h.toks.length 12 v) h:=by
  simp [zsZ,ztf]
@[simp] theorem zON (h1:zab) (v:zaa):zsZ zPk h h1 v=some (v,h1):=by
  simp [zsZ]
@[simp] theorem zEE:hx (hx h bs ts) bs' ts'=hx h (bs++bs') (ts++ts'):=by simp [hx]
theorem zBg {h1:zab} (h2:h1.blks.length=h.blks.length) (h3:h1.toks.length=h.toks.length):zdN h1 h.blks.length h.toks.length=h1:=by
  unfold zdN
  rw [← h2,← h3,List.take_length,List.take_length]
theorem zh9 (i:Nat) (cs:List zaa):zdN (hx h (bs.set i cs) ts) (h.blks.length+bs.length) (h.toks.length+ts.length)=hx h (bs.set i cs) ts:=by
  have:=zBg (hx h bs ts) (h1:=hx h (bs.set i cs) ts) (by simp [hx]) (by simp [hx])
  rwa [zan,zal] at this
theorem zak (L:Lim) (i off:Nat) (cs:List zaa) (h1:(decide (L.rob≤h.blks.length)&&zap 0 0 cs)=true):
    zcw L (hx h bs ts) (pA h.blks.length i off) cs=stO h bs ts i off cs bs[i]?:=by
  simp only [Bool.and_eq_true,decide_eq_true_eq] at h1
  unfold zcw pA stO stI hx
  simp only
  rw [List.getElem?_append_right (Nat.le_add_right _ _),Nat.add_sub_cancel_left]
  cases bs[i]? with
  | none=>rfl
  | some old=>
    simp only [Option.bind_some]
    by_cases hc:off+cs.length≤old.length
    · rw [if_pos ⟨by omega, hc, .inr h1.2⟩, if_pos (by simpa using hc)]
      rw [List.set_append_right _ _ (Nat.le_add_right _ _),Nat.add_sub_cancel_left]
    · rw [if_neg (fun h=>hc h.2.1),if_neg (by simpa using hc)]
theorem zsM:∀ {l:List zaa},(∀ c∈l,c.under 0 0=true)→zap 0 0 l=true
  | [],_=>rfl
  | c :: cs,h=>by simp only [zap,Bool.and_eq_true];exact ⟨h c (by simp),zsM fun c hc=>h c (by simp [hc])⟩
@[simp] theorem zD6 (l : List W64) : zap 0 0 (cW l) = true := zsM fun c hc => by
  simp only [cW,List.mem_map] at hc;obtain ⟨x,_,rfl⟩:=hc;rfl
@[simp] theorem zLY (x:W64):zap 0 0 [wd x]=true:=rfl
@[simp] theorem zKE (k:IntKind) (x:Int):zap 0 0 [.int k x]=true:=rfl
@[simp] theorem zIR (x:Bool):zap 0 0 [.bool x]=true:=rfl
theorem zos (b off n:Nat) (g:Bool) (cs:List zaa) (hb:h.blks[b]?=some cs):zkN (hx h bs ts) (.ptr b off) n g=zei g cs off n:=by
  unfold zkN hx
  simp only
  rw [List.getElem?_append_left (List.getElem?_eq_some_iff.1 hb).1,hb]
  rfl
def RdI (h:zab) (k:IntKind) (x:zaa) (l:List Int):Prop:=
  zwS x=some l.length∧∃ p:Nat→zaa,(∀ i,i < l.length→zcZ none 1 x (.int .i64 (i:Int))=some (p i))∧∀ i bs ts,i < l.length→zkN (hx h bs ts) (p i) 1 false=some (.int k (gd l 0 i))
def RdW (h:zab) (x:zaa) (l:List W64):Prop:=
  zwS x=some l.length∧∃ p:Nat→zaa,(∀ i,i < l.length→zcZ none 1 x (.int .i64 (i:Int))=some (p i))∧∀ i bs ts,i < l.length→zkN (hx h bs ts) (p i) 1 false=some (wd (gd l 0#64 i))
theorem RdW.ext {h:zab} {x:zaa} {l:List W64} (hr:RdW h x l) (bs:List (List zaa)) (ts:List Nat):RdW (hx h bs ts) x l:=by
  obtain ⟨h1,p,h2,h3⟩:=hr
  exact ⟨h1,p,h2,fun i bs' ts' hi=>by rw [zEE];exact h3 i _ _ hi⟩
theorem RdI.vsl (h:zab) (k:IntKind) (c:Bool) (l:List Int):RdI h k (.vsl c (eI k l)) l:=
  ⟨by simp,fun i=>.vptr [.int k (gd l 0 i)] 0,fun i hi=>zxT k .i64 c l i (by simpa using hi),fun i bs ts hi=>by simp⟩
def eW (l:List W64):List (List zaa):=l.map fun x=>[wd x]
@[simp] theorem zLD (l:List W64):(eW l).length=l.length:=by simp [eW]
theorem zHF (l:List W64) (i:Nat):(eW l)[i]?=(l[i]?).map fun n=>[wd n]:=by simp [eW]
theorem RdW.vsl (h:zab) (c:Bool) (l:List W64):RdW h (.vsl c (eW l)) l:=
  ⟨by simp,fun i=>.vptr [wd (gd l 0#64 i)] 0,fun i hi=>by simp [zcZ,asI,zHF,hi,gd,List.getD],fun i bs ts hi=>by simp⟩
theorem zCk {k:IntKind} {l:List Int} {i:Nat} (h:i < l.length):(cI k l)[i]?=some (.int k (gd l 0 i)):=by
  simp [cI,gd,List.getD,h]
theorem RdW.sl (h:zab) (b n:Nat) (cap:Option Nat) (l:List W64) (hl:l.length=n) (hb:h.blks[b]?=some (cW l)):RdW h (.sl b 0 1 n cap) l:=
  ⟨by simp [hl], fun i => .ptr b (0 + i * 1), fun i hi => by simp [zcZ, asI]; omega, fun i bs ts hi => by
    rw [zos h bs ts b _ _ _ _ hb,zae,Nat.zero_add,Nat.mul_one];exact zFb hi⟩
theorem RdI.sl (h:zab) (k:IntKind) (b n:Nat) (cap:Option Nat) (l:List Int) (hl:l.length=n) (hb:h.blks[b]?=some (cI k l)):RdI h k (.sl b 0 1 n cap) l:=
  ⟨by simp [hl], fun i => .ptr b (0 + i * 1), fun i hi => by simp [zcZ, asI]; omega, fun i bs ts hi => by
    rw [zos h bs ts b _ _ _ _ hb,zae,Nat.zero_add,Nat.mul_one];exact zCk hi⟩
end
theorem zlf (n sz m i off:Nat) (h:decide (0 < n)=true):zcN (.arr n) sz (pA m i off) none none none=some (sA m i off sz n (some n)):=by
  have h':0 < n:=by simpa using h
  have:¬n=0:=by omega
  simp [zcN,pA,sA,zil,this]
theorem ztL (n sz m i off c:Nat) (kd:IntKind) (h:(decide (0 < c)&&decide (c≤n))=true):zcN (.arr n) sz (pA m i off) none (some (.int kd (c:Int))) none=some (sA m i off sz c (some n)):=by
  simp only [Bool.and_eq_true,decide_eq_true_eq] at h
  have h0:¬c=0:=by omega
  simp [zcN,pA,sA,zil,h0,h.2]
theorem RdW.sA {h:zab} {bs:List (List zaa)} (ts:List Nat) (i n:Nat) (cap:Option Nat) (l:List W64) (hl:l.length=n) (hb:bs[i]?=some (cW l)):RdW (hx h bs ts) (sA h.blks.length i 0 1 n cap) l:=
  RdW.sl _ _ n cap l hl (by simp only [hx];rw [List.getElem?_append_right (Nat.le_add_right _ _),Nat.add_sub_cancel_left];exact hb)
theorem RdI.sA {h:zab} {bs:List (List zaa)} (ts:List Nat) (k:IntKind) (i n:Nat) (cap:Option Nat) (l:List Int) (hl:l.length=n) (hb:bs[i]?=some (cI k l)):RdI (hx h bs ts) k (sA h.blks.length i 0 1 n cap) l:=
  RdI.sl _ k _ n cap l hl (by simp only [hx];rw [List.getElem?_append_right (Nat.le_add_right _ _),Nat.add_sub_cancel_left];exact hb)
theorem zy2 (n:Nat) (c:Bool) (k:IntKind) (l:List Int) (h:(decide (0 < n)&&decide (n≤l.length))=true):zMu n (.vsl c (eI k l))=some (.vptr (cI k (l.take n)) 0):=by
  simp only [Bool.and_eq_true,decide_eq_true_eq] at h
  show (if n≤(eI k l).length∧0 < n then some (zaa.vptr (List.take n (eI k l)).flatten 0) else none)=_
  rw [if_pos ⟨by simpa using h.2,h.1⟩]
  have:(eI k l).take n=eI k (l.take n):=by simp [eI]
  rw [this,zCe]
theorem zHH (n m i off len:Nat) (cap:Option Nat) (h:decide (n≤len)=true):zMu n (sA m i off 1 len cap)=some (pA m i off):=by
  have:n≤len:=by simpa using h
  unfold zMu;simp [sA,pA,this]
@[simp] theorem zO6 (k:IntKind) (l:List Int) (n:Nat):(cI k l).take n=cI k (l.take n):=by simp [cI]
@[simp] theorem zO7 (k:IntKind) (l:List Int) (n:Nat):(cI k l).drop n=cI k (l.drop n):=by simp [cI]
theorem zy3 {h:zab} {bs:List (List zaa)} (ts:List Nat) {i:Nat} {cs:List zaa} (hb:bs[i]?=some cs):(hx h bs ts).blks[h.blks.length+i]?=some cs:=by
  simp only [hx];rw [List.getElem?_append_right (Nat.le_add_right _ _),Nat.add_sub_cancel_left];exact hb
theorem zFw (k:IntKind) (l:List Int) (off sz:Nat) (h:decide (off+sz≤l.length)=true):zei true (cI k l) off sz=some (.agg (cI k ((l.drop off).take sz))):=by
  have h':off+sz≤l.length:=by simpa using h
  unfold zei;simp [h']
theorem zFz (l:List W64) (off sz:Nat) (h:decide (off+sz≤l.length)=true):zei true (cW l) off sz=some (.agg (cW ((l.drop off).take sz))):=by
  have h':off+sz≤l.length:=by simpa using h
  unfold zei;simp [h']
@[simp] theorem zKF (b:Bool):zHb zaJ b=false:=rfl
@[simp] theorem zNX {α:Type} (n:Nat) (f:Nat→α):tab n f++[f n]=tab (n+1) f:=by simp [tab,List.range_succ]
theorem zDh {α:Type} {l:List α} {n i:Nat} {d:α} (h:i < n):gd (l.take n) d i=gd l d i:=by
  unfold gd;simp [List.getD,List.getElem?_take,h]
theorem zlz {α:Type} {l:List α} {k:Nat} (d:α) (h:k < l.length):l.take (k+1)=l.take k++[gd l d k]:=by
  rw [List.take_add_one,zut (d:=d) h];rfl
end Go.Av
namespace Go.Av
def mkK (h:zab) (sz:Nat) (zero:List zaa):zaa→Option (zaa × zab)
  | .int _ n=>if 0≤n∧n < zas then some (.sl h.blks.length 0 sz n.toNat (some n.toNat),push h (rep zero n.toNat)) else none
  | _=>none
@[simp] theorem zPm (C:Ctx) (L:Lim) (fr:Fr) (h:zab) (sz:Nat) (z:List zaa) (x:AO):zhS C L fr h (.mk sz z x)=mkK h sz z (C.ev fr x):=by
  simp only [zhS]
  cases C.ev fr x <;> rfl
theorem zlA (h:zab) (bs:List (List zaa)) (ts:List Nat) (sz:Nat) (z:List zaa) (k:IntKind) (n:Int) (hc:(decide (0≤n)&&decide (n < zas))=true):
    mkK (hx h bs ts) sz z (.int k n)=some (sA h.blks.length bs.length 0 sz n.toNat (some n.toNat),hx h (bs++[rep z n.toNat]) ts):=by
  simp only [Bool.and_eq_true,decide_eq_true_eq] at hc
  unfold mkK
  simp only [if_pos hc]
  simp [sA,hx,push]
theorem zga (x:zaa):∀ n,rep [x] n=zaR x n
  | 0=>rfl
  | n+1=>by simp [rep,zaR,zga x n]
theorem zwC (sz m i len c:Nat) (cap:Option Nat) (kd:IntKind) (h:(decide (0 < c)&&decide (c≤len)&&decide (len≤cap.getD len))=true):zcN .slc sz (sA m i 0 sz len cap) none (some (.int kd (c:Int))) none=some (sA m i 0 sz c cap):=by
  simp only [Bool.and_eq_true,decide_eq_true_eq] at h
  obtain ⟨⟨h1,h2⟩,h3⟩:=h
  have h0:¬c=0:=by omega
  have h4:c≤cap.getD len:=by omega
  simp [zcN,sA,zil,h0,h4]
@[simp] theorem zL7 (k:IntKind) (a:Int):zaa.cells (zaa.int k a)=[.int k a]:=rfl
@[simp] theorem zPn (k:IntKind) (a:Int):zaa.okV (zaa.int k a)=true:=rfl
@[simp] theorem zKG (b:Bool):zaa.cells (zaa.bool b)=[.bool b]:=rfl
@[simp] theorem zN0 (b:Bool):zaa.okV (zaa.bool b)=true:=rfl
@[simp] theorem zMb (b:ByteArray):zaa.cells (zaa.str b)=[.str b]:=rfl
@[simp] theorem zPo (b:ByteArray):zaa.okV (zaa.str b)=true:=rfl
@[simp] theorem zMc (c:Bool) (es:List (List zaa)):zaa.cells (zaa.vsl c es)=[.vsl c es]:=rfl
@[simp] theorem zPp (c:Bool) (es:List (List zaa)):zaa.okV (zaa.vsl c es)=true:=rfl
@[simp] theorem zMd:zaa.cells (zaa.nsl)=[.nsl]:=rfl
@[simp] theorem zPq:zaa.okV (zaa.nsl)=true:=rfl
@[simp] theorem zKL:zaa.cells (zaa.nilp)=[.nilp]:=rfl
@[simp] theorem zN2:zaa.okV (zaa.nilp)=true:=rfl
@[simp] theorem zMi:zaa.cells (zaa.nfn)=[.nfn]:=rfl
@[simp] theorem zPs:zaa.okV (zaa.nfn)=true:=rfl
@[simp] theorem zMj:zaa.cells (zaa.nif)=[.nif]:=rfl
@[simp] theorem zPt:zaa.okV (zaa.nif)=true:=rfl
@[simp] theorem zJf (t:TypeId) (v:zaa):zaa.cells (zaa.iface t v)=[.iface t v]:=rfl
@[simp] theorem zMk (t:TypeId) (v:zaa):zaa.okV (zaa.iface t v)=true:=rfl
@[simp] theorem zN3 (f:Fn) (a b:List zaa):zaa.cells (zaa.fn f a b)=[.fn f a b]:=rfl
@[simp] theorem zQj (f:Fn) (a b:List zaa):zaa.okV (zaa.fn f a b)=true:=rfl
@[simp] theorem zKO (cs:List zaa) (o:Nat):zaa.cells (zaa.vptr cs o)=[.vptr cs o]:=rfl
@[simp] theorem zN5 (cs:List zaa) (o:Nat):zaa.okV (zaa.vptr cs o)=true:=rfl
@[simp] theorem zN6 (n i off sz len:Nat) (cap:Option Nat):zaa.cells (sA n i off sz len cap:zaa)=[sA n i off sz len cap]:=rfl
@[simp] theorem zQk (n i off sz len:Nat) (cap:Option Nat):zaa.okV (sA n i off sz len cap:zaa)=true:=rfl
@[simp] theorem zN7 (n i off:Nat):zaa.cells (pA n i off:zaa)=[pA n i off]:=rfl
@[simp] theorem zQl (n i off:Nat):zaa.okV (pA n i off:zaa)=true:=rfl
@[simp] theorem zN8 (n i:Nat) (es:List (List zaa)):zaa.cells (gA n i es:zaa)=[gA n i es]:=rfl
@[simp] theorem zQm (n i:Nat) (es:List (List zaa)):zaa.okV (gA n i es:zaa)=true:=rfl
@[simp] theorem zDz (cs:List zaa):zaa.cells (zaa.agg cs)=cs:=rfl
@[simp] theorem zJk (cs:List zaa):zaa.okV (zaa.agg cs)=true:=rfl
theorem zt5 (k:IntKind):∀ (n:Nat) (l m:List Int),l.length=n→m.length=n→zbm (zaR .i n) (cI k l) (cI k m)=some (l==m)
  | 0,[],[],_,_=>by simp [zaR,cI,zbm]
  | n + 1, x :: l, y :: m, h1, h2 => by
    have:=zt5 k n l m (by simpa using h1) (by simpa using h2)
    simp only [cI] at this
    simp only [zaR,cI,List.map_cons,zbm,zsh,bind,if_true,Option.bind_some,this]
    congr 1
theorem zMr (k:IntKind) (n:Nat) (l m:List Int) (h1:(l.length==n)=true) (h2:(m.length==n)=true):eqA (.agg (zaR .i n)) (.agg (cI k l)) (.agg (cI k m))=some (l==m):=by
  rw [zKp];exact zt5 k n l m (by simpa using h1) (by simpa using h2)
def byA (l:List Int):ByteArray:=⟨(l.map fun n=>UInt8.ofNat n.toNat).toArray⟩
theorem zwL : ∀ l : List Int, zja (eI .u8 l) = some (l.map fun n => UInt8.ofNat n.toNat)
  | []=>rfl
  | x :: l => by
    have:=zwL l
    simp only [eI] at this
    simp only [eI,List.map_cons,zja,this,bind,Option.bind_some]
def zOc (h:zab) (x:zaa):Option zaa:=(zaz h 1 x).bind fun es=>(zja es).map fun bs=>.str ⟨bs.toArray⟩
@[simp] theorem zOd (C:Ctx) (fr:Fr) (h:zab) (x:AO):zzZ C fr h (.b2s x)=zOc h (C.ev fr x):=by
  simp only [zzZ,zOc,bind]
  congr 1
  funext es
  cases zja es <;> rfl
@[simp] theorem zOe (h:zab) (c:Bool) (l:List Int):zOc h (.vsl c (eI .u8 l))=some (.str (byA l)):=by
  simp [zOc,zaz,zwL,byA]
def zMy:zaa→Option zaa
  | .sl b off sz n c=>some (.sl b off sz n c)
  | _=>none
@[simp] theorem zMA (C:Ctx) (fr:Fr) (h:zab) (x:AO):zzZ C fr h (.mark x)=zMy (C.ev fr x):=by
  simp only [zzZ]
  cases C.ev fr x <;> rfl
@[simp] theorem zOg (n i off sz len:Nat) (cap:Option Nat):zMy (sA n i off sz len cap)=some (sA n i off sz len cap):=rfl
def zGB (h:zab) (sz len:Nat) (cs:Option (List zaa)):Option (zaa × zab):=cs.map fun cs=>(.sl h.blks.length 0 sz len (some len),push h cs)
@[simp] theorem zMB (C:Ctx) (L:Lim) (fr:Fr) (h:zab) (sz len:Nat) (z:List zaa) (ps:List (Nat × AO)):
    zhS C L fr h (.slit sz len z ps)=zGB h sz len (zay (rep z len) (ps.map fun p=>(p.1*sz,sz,C.ev fr p.2))):=by
  simp only [zhS,zGB]
  cases zay (rep z len) (ps.map fun p=>(p.1*sz,sz,C.ev fr p.2)) <;> rfl
@[simp] theorem zKP (h:zab) (bs:List (List zaa)) (ts:List Nat) (sz len:Nat) (cs:List zaa):zGB (hx h bs ts) sz len (some cs)=some (sA h.blks.length bs.length 0 sz len (some len),hx h (bs++[cs]) ts):=by
  simp [zGB,sA,hx,push]
end Go.Av
