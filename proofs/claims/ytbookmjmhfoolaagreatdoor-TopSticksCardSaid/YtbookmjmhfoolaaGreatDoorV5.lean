/- How a law's arguments are read, and equations by which the machine's runs are reckoned. -/
import Derived.Test.YtbookmjmhfoolaaGreatDoorV4
import Derived.Carry
import Derived.OpenShut
import Derived.MapKept
set_option linter.unusedSimpArgs false
set_option linter.unusedVariables false
namespace Go.Av
open Go.RowKit
inductive Ty where
  | bool | int (k:IntKind) | str | sl (e:List Ty)
mutual
inductive zne:Ty→zaa→Prop
  | bool (b:Bool):zne .bool (.bool b)
  | int (k:IntKind) (n:Int) (h:(Lit.int k n).wf=true):zne (.int k) (.int k n)
  | str (x:ByteArray) (h:x.size≤maxLen):zne .str (.str x)
  | sl (ts:List Ty) (es:List (List zaa)) (hl:es.length≤maxLen) (h:ziW ts es):zne (.sl ts) (.vsl false es)
inductive zdI:List Ty→List zaa→Prop
  | nil:zdI [] []
  | cons (t:Ty) (ts:List Ty) (c:zaa) (cs:List zaa) (h:zne t c) (ht:zdI ts cs):zdI (t :: ts) (c :: cs)
inductive ziW:List Ty→List (List zaa)→Prop
  | nil (ts:List Ty):ziW ts []
  | cons (ts:List Ty) (e:List zaa) (es:List (List zaa)) (h:zdI ts e) (ht:ziW ts es):ziW ts (e :: es)
end
theorem zne.cell {t:Ty} {c:zaa} (h:zne t c):c.isCell=true:=by cases h <;> rfl
theorem zdI.cell:∀ {ts:List Ty} {cs:List zaa},zdI ts cs→∀ c∈cs,c.isCell=true
  | _,_,.nil=>by simp
  | _, _, .cons t ts c cs h ht => fun x hx => by
    rcases List.mem_cons.1 hx with rfl | hx
    · exact h.cell
    · exact ht.cell x hx
theorem zdI.length:∀ {ts:List Ty} {cs:List zaa},zdI ts cs→cs.length=ts.length
  | _,_,.nil=>rfl
  | _,_,.cons t ts c cs h ht=>by simp [ht.length]
theorem zdI.append:∀ {ts us:List Ty} {cs ds:List zaa},zdI ts cs→zdI us ds→zdI (ts++us) (cs++ds)
  | _,_,_,_,.nil,h=>h
  | _,_,_,_,.cons t ts c cs h ht,h'=>.cons t _ c _ h (ht.append h')
def shF (P:Program) (rec:TypeId→Option (List Ty)) (z:Nat):Nat→List Field→Option (List Ty)
  | o,[]=>if o=z then some [] else none
  | o, f :: fs => if f.offset = o then
      match rec f.type with
      | some l=>if l.length=P.cellsOf f.type then (shF P rec z (o+P.cellsOf f.type) fs).map (l++·) else none
      | none=>none
    else none
def shT (P:Program):Nat→TypeId→Option (List Ty)
  | 0,_=>none
  | d + 1, t => match P.underlying t with
    | some .bool=>some [.bool]
    | some (.int k)=>some [.int k]
    | some .string=>some [.str]
    | some (.slice e) => match shT P d e with
      | some l=>if l.length=P.cellsOf e∧0 < l.length then some [.sl l] else none
      | none=>none
    | some (.struct fs)=>shF P (shT P d) (P.cellsOf t) 0 fs.toList
    | some (.array n e) => match shT P d e with
      | some l=>if P.cellsOf t=n*P.cellsOf e∧l.length=P.cellsOf e then some (zI8 l n) else none
      | none=>none
    | _=>none
def st0 (W:World):St:=⟨W,⟨[],[]⟩,[],[],0,0⟩
theorem zRt (W:World) (X o:Nat):Imm (st0 W) X o:=⟨fun b _ h=>by simp [st0] at h,fun t sz n _ h=>by simp [st0] at h⟩
section
variable {H:Type} {enc:TypeId × Value→H} {P:Program} {W:World} {base:Nat} {spare:Nat→Bool} {held:Bool}
theorem zGJ {X o:Nat} {avs:List zaa} {cs:List Value} (hr:zbz (st0 W) avs cs) (hk:∀ c∈avs,c.isCell=true) (hc:∀ (i:Nat) v,cs[i]?=some v→World.at W X (o+i)=some v):ze3 (st0 W) X o avs:=by
  refine ze3.of_get fun i c hi=>?_
  obtain ⟨v,hv,hrep⟩:=hr.get i c hi
  exact ⟨v,hc i v hv,zRt W _ _,hk c (List.mem_of_getElem? hi),hrep⟩
theorem zMV (a:Addr) (k:Nat):(a.add k).block=a.block∧(a.add k).off=a.off+k:=by
  unfold Addr.add
  split <;> simp_all
theorem zDh {a:Addr} {n:Nat} {cs:List Value} (h:W.cells? base a n=some cs) (hn:0 < n):a.spot=none∧cs.length=n∧∀ (i:Nat) v,cs[i]?=some v→World.at W a.block (a.off+i)=some v:=by
  unfold World.cells? at h
  split at h
  · have hlen : cs.length = n := by simpa using mapM_some_length h
    have key:∀ i:Nat,i < n→W.cell? (a.add i)=cs[i]?:=fun i hi=>mapM_some_get h i i (by simp [hi])
    have hs:a.spot=none:=by
      have h0:=key 0 hn
      rw [List.getElem?_eq_getElem (by omega)] at h0
      unfold World.cell? at h0
      split at h0
      · split at h0
        · simp at h0
        · rename_i hsp
          simpa [Addr.add] using hsp
      · simp at h0
    refine ⟨hs,hlen,fun i v hi=>?_⟩
    have hlt:=(List.getElem?_eq_some_iff.1 hi).1
    have:=key i (by omega)
    rw [hi] at this
    unfold World.at
    rw [← this]
    congr 1
    simp [Addr.add,hs]
    intro h0
    subst h0
    cases a
    simp at hs
    subst hs
    rfl
  · simp at h
def sEq (W:World) (tys:List Ty) (cs:List Value):Prop:=∃ avs,zdI tys avs∧zbz (st0 W) avs cs
theorem sEq.append {t u:List Ty} {a b:List Value} (h:sEq W t a) (k:sEq W u b):sEq W (t++u) (a++b):=by
  obtain ⟨x,h1,h2⟩:=h
  obtain ⟨y,k1,k2⟩:=k
  exact ⟨x++y,h1.append k1,h2.append k2⟩
theorem ziW.of_all {ts:List Ty}:∀ {es:List (List zaa)},(∀ e∈es,zdI ts e)→ziW ts es
  | [],_=>.nil ts
  | e :: es,h=>.cons ts e es (h e (by simp)) (ziW.of_all fun x hx=>h x (by simp [hx]))
theorem zAw {n:Nat} {cs:List Value} {rec:TypeId→Option (List Ty)} {z:Nat} (hz:cs.length=z)
    (ih:∀ (t:TypeId) (tys:List Ty) (cs':List Value),rec t=some tys→(∃ x,DataW.trod enc P W base spare held n t cs'=some x)→sEq W tys cs'):
    ∀ (fs:List Field) (o:Nat) (tys:List Ty),shF P rec z o fs=some tys→(∀ f∈fs,∃ x,DataW.trod enc P W base spare held n f.type ((cs.drop f.offset).take (P.cellsOf f.type))=some x)→
      sEq W tys (cs.drop o)
  | [], o, tys, h, _ => by
    simp only [shF] at h
    split at h
    · rename_i ho
      obtain rfl:=Option.some.inj h
      rw [List.drop_eq_nil_of_le (by omega)]
      exact ⟨[],.nil,.nil⟩
    · simp at h
  | f :: fs, o, tys, h, hf => by
    simp only [shF] at h
    split at h
    · rename_i ho
      split at h
      · rename_i l hl
        split at h
        · obtain ⟨r,hr,rfl⟩:=map_some h
          have h1:=ih f.type l _ hl (hf f (by simp))
          rw [ho] at h1
          have h2:=zAw hz ih fs _ r hr fun g hg=>hf g (by simp [hg])
          have:=h1.append h2
          rwa [← List.drop_drop,List.take_append_drop] at this
        · simp at h
      · simp at h
    · simp at h
theorem zAx {n sz:Nat} {cs:List Value} {l:List Ty} (hz:cs.length=n*sz) (hi:∀ i,i < n→sEq W l ((cs.drop (i*sz)).take sz)):∀ k,k≤n→sEq W (zI8 l k) (cs.drop ((n - k)*sz))
  | 0, _ => by
    rw [Nat.sub_zero,List.drop_eq_nil_of_le (by omega)]
    exact ⟨[],.nil,.nil⟩
  | k + 1, hk => by
    have h1:=hi (n - (k+1)) (by omega)
    have h2:=zAx hz hi k (by omega)
    have:=h1.append h2
    have e:(n - k)*sz=(n - (k+1))*sz+sz:=by
      rw [← Nat.succ_mul];congr 1;omega
    rwa [e,← List.drop_drop,List.take_append_drop] at this
theorem zms:∀ (d:Nat) {t:TypeId} {tys:List Ty} {fuel:Nat} {cs:List Value} {x:DataW H × List MemPlace},shT P d t=some tys→
    DataW.trod enc P W base spare held fuel t cs=some x→sEq W tys cs
  | 0,t,tys,fuel,cs,x,hs,h=>by simp [shT] at hs
  | d + 1, t, tys, fuel, cs, x, hs, h => by
    simp only [shT] at hs
    split at hs
    · rename_i hu
      obtain rfl:=Option.some.inj hs
      cases fuel with
      | zero=>simp [DataW.trod] at h
      | succ n=>
        unfold DataW.trod at h
        rw [hu] at h
        split at h <;> simp_all
        exact ⟨_,.cons _ _ _ _ (.bool _) .nil,.cons _ _ _ _ (.bool _) .nil⟩
    · rename_i k hu
      obtain rfl:=Option.some.inj hs
      cases fuel with
      | zero=>simp [DataW.trod] at h
      | succ n=>
        unfold DataW.trod at h
        rw [hu] at h
        split at h <;> simp_all
        obtain ⟨⟨rfl,hw⟩,_⟩:=h
        exact ⟨_,.cons _ _ _ _ (.int _ _ hw) .nil,.cons _ _ _ _ (.int _ _) .nil⟩
    · rename_i hu
      obtain rfl:=Option.some.inj hs
      cases fuel with
      | zero=>simp [DataW.trod] at h
      | succ n=>
        unfold DataW.trod at h
        rw [hu] at h
        split at h <;> simp_all
        exact ⟨_,.cons _ _ _ _ (.str _ h.1) .nil,.cons _ _ _ _ (.str _) .nil⟩
    · rename_i e hu
      split at hs
      · rename_i l hl
        split at hs
        · rename_i hlen
          obtain rfl:=Option.some.inj hs
          rcases DataW.trod_slice hu h with ⟨rfl,_⟩ | ⟨a,len,cap,elems,rest,n,rfl,rfl,_,hb,hlc,hcm,hel,hget,_⟩
          · exact ⟨[.vsl false []],.cons _ _ _ _ (.sl l [] (by simp) (.nil l)) .nil,.cons _ _ _ _ (.vsl0 false none 0 (by simp) (fun _=>rfl)) .nil⟩
          · subst hel
            have key : ∀ i : Nat, i < elems.length → (a.add (i * P.cellsOf e)).spot = none ∧ ∃ x : List zaa, zdI l x ∧ ze3 (st0 W) a.block (a.off + i * P.cellsOf e) x := fun i hi => by
              have h1:=hget i hi
              rw [List.getElem?_eq_getElem hi] at h1
              obtain ⟨cs',h2,h3⟩:=Option.bind_eq_some_iff.1 h1
              obtain ⟨avs,g1,g2⟩:=zms d hl h3
              obtain ⟨k1,k2,k3⟩:=zDh h2 (by omega)
              obtain ⟨b1,b2⟩:=zMV a (i*P.cellsOf e)
              refine ⟨k1,avs,g1,zGJ g2 g1.cell fun j v hj=>?_⟩
              have:=k3 j v hj
              rw [b1,b2] at this
              exact this
            by_cases h0:elems.length=0
            · rw [h0]
              exact ⟨[.vsl false []],.cons _ _ _ _ (.sl l [] (by simp) (.nil l)) .nil,.cons _ _ _ _ (.vsl0 false (some a) cap (by simp) (by simp)) .nil⟩
            · let f : Nat → List zaa := fun i => if h : i < elems.length then (key i h).2.choose else []
              have hf : ∀ i, i < elems.length → zdI l (f i) ∧ ze3 (st0 W) a.block (a.off + i * P.cellsOf e) (f i) := fun i hi => by
                simp only [f,dif_pos hi]
                exact (key i hi).2.choose_spec
              have hsp:=(key 0 (by omega)).1
              rw [Nat.zero_mul] at hsp
              replace hsp:a.spot=none:=by simpa [Addr.add] using hsp
              obtain ⟨X,o,sp⟩:=a
              simp only [] at hsp
              subst hsp
              refine ⟨[.vsl false ((List.range elems.length).map f)],.cons _ _ _ _ (.sl l _ (by simp;omega) (.of_all fun y he=>?_)) .nil,.cons _ _ _ _ (.vsl false _ X o (P.cellsOf e) cap elems.length (zg1.of_get fun i y he=>?_) (by simp) hlc (by simp)) .nil⟩
              · obtain ⟨i,hi,rfl⟩:=List.mem_map.1 he
                exact (hf i (by simpa using hi)).1
              · have hi : i < elems.length := by have := (List.getElem?_eq_some_iff.1 he).1; simpa using this
                rw [List.getElem?_map,List.getElem?_range hi] at he
                obtain rfl:=Option.some.inj he
                exact ⟨by rw [(hf i hi).1.length];exact hlen.1,(hf i hi).2⟩
        · simp at hs
      · simp at hs
    · rename_i fs hu
      obtain ⟨xs,n,rfl,_,hl,hlen,hf⟩:=DataW.trod_struct hu h
      have := zAw (enc := enc) (base := base) (spare := spare) (held := held) (n := n) hl (fun t tys cs' h1 ⟨x, h2⟩ => zms d h1 h2) fs.toList 0 tys hs fun f hfm => by
        obtain ⟨i,hi⟩:=List.mem_iff_getElem?.1 hfm
        have hi':fs[i]?=some f:=by simpa using hi
        have hlt:=(Array.getElem?_eq_some_iff.1 hi').1
        exact ⟨_,(hf i f hi').trans (List.getElem?_eq_getElem (by omega))⟩
      simpa using this
    · rename_i n e hu
      split at hs
      · rename_i l hl
        split at hs
        · rename_i hz
          obtain rfl:=Option.some.inj hs
          obtain ⟨xs,m,rfl,_,hlc,hlen,hget⟩:=DataW.trod_array hu h
          have:=zAx (W:=W) (n:=n) (sz:=P.cellsOf e) (cs:=cs) (l:=l) (by rw [hlc];exact hz.1) (fun i hi=>zms d hl ((hget i hi).trans (List.getElem?_eq_getElem (by omega)))) n (Nat.le_refl _)
          simpa using this
        · simp at hs
      · simp at hs
    · simp at hs
theorem zH3 {d:Nat} {t:TypeId} {tys:List Ty} {v:Value} {dd:DataW H} {ps:List MemPlace} (hs:shT P d t=some tys) (hok:Value.okWide P W .any base t v) (h:DataW.Trod enc P W 0 spare held t v dd ps):
    (∃ avs,zdI tys avs∧Rep (st0 W) (.agg avs) v∧∃ cs,v=.agg cs)∨(∃ ty c,tys=[ty]∧zne ty c∧Rep (st0 W) c v∧∀ cs,v≠.agg cs):=by
  obtain ⟨fuel,h⟩:=h
  obtain ⟨avs,h1,h2⟩:=zms d hs h
  by_cases hv:∃ cs,v=.agg cs
  · obtain ⟨cs,rfl⟩:=hv
    exact .inl ⟨avs,h1,.agg avs cs (by simpa [Value.cells] using h2) h1.cell,cs,rfl⟩
  · right
    have e:v.cells=#[v]:=by
      cases v <;> first | rfl | exact (hv ⟨_,rfl⟩).elim
    rw [e] at h2
    cases h2 with
    | cons c _ cs _ hc ht=>
      cases ht
      cases h1 with
      | cons ty ts _ _ g1 g2=>
        cases g2
        exact ⟨ty,c,rfl,g1,hc,fun cs hcs=>hv ⟨cs,hcs⟩⟩
end
theorem zH4 {C:Ctx} {P:Program} (hC:zxe C P) {W:World} {f:FuncId} {F:AFn} {args:List zaa} {cargs:Array Value} {h':zab} (hF:C.fns f=some F)
    (hv:zag C ⟨0,0,0,0⟩ f args ⟨[],[]⟩=some (.bool true,h')) (hg:∀ g cs,C.glob g=some cs→zqd (st0 W) g cs) (hargs:zbz (st0 W) args cargs.toList):
    Calls P f cargs W fun e W'=>e=.returned (.bool true)∧Below W.heap.size W W':=by
  obtain ⟨⟨_,hc⟩,_⟩:=zH0 hC hv
  have hsim:Sim C (st0 W):=⟨rfl,rfl,fun b X cs hb=>by simp [st0] at hb,fun b b' X hb=>by simp [st0] at hb,fun t t' X z z' ht=>by simp [st0] at ht,fun b t X z hb=>by simp [st0] at hb,fun t X z ht=>by simp [st0] at ht,hg⟩
  obtain ⟨nx,w',h1,h2⟩:=hc (st0 W) cargs rfl hsim ⟨Nat.le_refl _,Nat.le_refl _,Nat.le_refl _,Nat.le_refl _⟩ hargs
  obtain ⟨fn,fl,g1,g2,g3⟩:=hC.fns f F hF
  have hb:∃ x,fn.body=some x:=by
    unfold cfn at g2
    cases hx:fn.body with
    | some x=>exact ⟨x,rfl⟩
    | none=>rw [hx] at g2;simp at g2
  obtain ⟨x,hx⟩:=hb
  have he:=zoQ g1 hx g3 cargs W
  have h1':(callFunc f cargs).run P W=.ok nx w':=h1
  rw [he] at h1'
  injection h1' with e1 e2
  subst e1 e2
  rcases h2 with ⟨cv,h3 | h3,_⟩ | ⟨f',args',h3,h4⟩
  · simp at h3
  · simp at h3
  · injection h3 with e1 e2
    subst e1 e2
    refine h4.mono fun e W' hgd=>?_
    cases e with
    | returned cv=>
      obtain ⟨s',rfl,_,_,hle,hrep⟩:=hgd
      cases hrep
      have hk:=hle.kept
      exact ⟨rfl, hk.os, hk.tape, hk.out, hk.size, fun k hlt => hk.heap k hlt fun ht => by
        rcases ht with ⟨b,hb⟩ | ⟨t,z,hz⟩
        · simp [st0] at hb
        · simp [st0] at hz⟩
    | panicked _=>exact hgd.elim
    | outgrown=>exact hgd.elim
end Go.Av
namespace Go.Av
abbrev iv (d:Nat) (o:VOp):AI:=⟨some d,.v o,none,[],0,0⟩
abbrev ir (d:Nat) (o:ROp):AI:=⟨some d,.r o,none,[],0,0⟩
abbrev ic (d:Nat) (o:COp):AI:=⟨some d,.c o,none,[],0,0⟩
abbrev jc (o:COp):AI:=⟨none,.c o,none,[],0,0⟩
def zaV {α:Type} (x:α):Nat→List α
  | 0=>[]
  | n+1=>x :: zaV x n
def ifK {α:Type} (b:Bool) (x y:α):α:=if b=true then x else y
@[simp] theorem zPd {α:Type} (x y:α):ifK true x y=x:=rfl
@[simp] theorem zM0 {α:Type} (x y:α):ifK false x y=y:=rfl
noncomputable section
variable (C:Ctx) (L:Lim) (fr:Fr) (h:zab)
def zJU (r:Option (AEx × Fr × zab)) (b:AC):Option (AEx × Fr × zab):=
  r.bind fun r => match r.1 with
    | .normal=>run C L b r.2.1 r.2.2
    | _=>some r
@[simp] theorem zM1 (b:AC):zJU C L none b=none:=rfl
@[simp] theorem zJW (b:AC):zJU C L (some (.normal,fr,h)) b=run C L b fr h:=rfl
@[simp] theorem zM2 (b:AC) (i:Nat):zJU C L (some (.exit i,fr,h)) b=some (.exit i,fr,h):=rfl
@[simp] theorem zM3 (b:AC) (i:Nat):zJU C L (some (.goto i,fr,h)) b=some (.goto i,fr,h):=rfl
@[simp] theorem zPe (b:AC):zJU C L (some (.ret,fr,h)) b=some (.ret,fr,h):=rfl
@[simp] theorem zPf:run C L .skip fr h=some (.normal,fr,h):=by rw [run.eq_def]
@[simp] theorem zPg (i:Nat):run C L (.exit i) fr h=some (.exit i,fr,h):=by rw [run.eq_def]
@[simp] theorem zQs:run C L .ret fr h=some (.ret,fr,h):=by rw [run.eq_def]
@[simp] theorem zPi (a b:AC):run C L (.seq a b) fr h=zJU C L (run C L a fr h) b:=by rw [run.eq_def];rfl
def zM7 (id:Nat) (r:Option (AEx × Fr × zab)):Option (AEx × Fr × zab):=r.map fun r=>if r.1=.exit id then (.normal,r.2) else r
@[simp] theorem zM8 (id:Nat):zM7 id none=none:=rfl
@[simp] theorem zM9 (id:Nat) (e:AEx):zM7 id (some (e,fr,h))=some (if e=.exit id then .normal else e,fr,h):=by
  unfold zM7;simp only [Option.map_some];split <;> simp_all
@[simp] theorem zPj (id:Nat) (a:AC):run C L (.blk id a) fr h=zM7 id (run C L a fr h):=by
  rw [run.eq_def]
  simp only [zM7]
  cases run C L a fr h with
  | none=>rfl
  | some r=>simp only [bind,Option.bind_some,Option.map_some];split <;> rfl
def zDk:zaa→Option Bool
  | .bool b=>some b
  | _=>none
@[simp] theorem zJY (b:Bool):zDk (.bool b)=some b:=rfl
def zGP (b:Bool) (x y:AC):Option (AEx × Fr × zab):=if b=true then run C L x fr h else run C L y fr h
@[simp] theorem zL2 (x y:AC):zGP C L fr h true x y=run C L x fr h:=rfl
@[simp] theorem zJ1 (x y:AC):zGP C L fr h false x y=run C L y fr h:=rfl
def zNb (c:Option Bool) (x y:AC):Option (AEx × Fr × zab):=c.bind fun c=>zGP C L fr h c x y
@[simp] theorem zL3 (b:Bool) (x y:AC):zNb C L fr h (some b) x y=zGP C L fr h b x y:=rfl
@[simp] theorem zNc (c:AO) (a b:AC):run C L (.cond c a b) fr h=zNb C L fr h (zDk (C.ev fr c)) a b:=by
  rw [run.eq_def]
  simp only
  generalize C.ev fr c=v
  cases v <;> first | rfl | (rename_i b;cases b <;> rfl)
theorem zr7 (a:AC):run C L (.loop a) fr h=zJU C L (run C L a fr h) (.loop a):=by
  rw [run.eq_def]
  rfl
def zRu (r:Option (Fr × zab)):Option (AEx × Fr × zab):=r.map fun r=>(.normal,r.1,r.2)
@[simp] theorem zNd:zRu (some (fr,h))=some (.normal,fr,h):=rfl
@[simp] theorem zPl (ops:List AI):run C L (.reg ops) fr h=zRu (zqs C L ops fr h):=by
  rw [run.eq_def];simp only;cases zqs C L ops fr h <;> rfl
@[simp] theorem zNe:zqs C L [] fr h=some (fr,h):=by rw [zqs.eq_def]
theorem zjp (i : AI) (rest : List AI) : zqs C L (i :: rest) fr h = if zbs fr i.grd = true then (step1 C L i.op fr h).bind fun r => zqs C L rest (put fr i.dst r.1) r.2 else zqs C L rest (put fr i.dst zaK) h := by
  rw [zqs.eq_def];rfl
def opV (d:Option Nat) (rest:List AI) (r:Option zaa):Option (Fr × zab):=r.bind fun v=>zqs C L rest (put fr d v) h
@[simp] theorem zPm (d:Option Nat) (rest:List AI) (v:zaa):opV C L fr h d rest (some v)=zqs C L rest (put fr d v) h:=rfl
def opC (d:Option Nat) (rest:List AI) (r:Option (zaa × zab)):Option (Fr × zab):=r.bind fun r=>zqs C L rest (put fr d r.1) r.2
@[simp] theorem zPn (d:Option Nat) (rest:List AI) (v:zaa):opC C L fr d rest (some (v,h))=zqs C L rest (put fr d v) h:=rfl
@[simp] theorem zRv (d:Option Nat) (o:VOp) (rest:List AI) (u:List Nat) (x y:Nat):zqs C L (⟨d,.v o,none,u,x,y⟩ :: rest) fr h=opV C L fr h d rest (zb4 C fr o):=by
  rw [zjp,step1.eq_def]
  simp only [zbs,if_true]
  cases zb4 C fr o <;> rfl
@[simp] theorem zRw (d:Option Nat) (o:ROp) (rest:List AI) (u:List Nat) (x y:Nat):zqs C L (⟨d,.r o,none,u,x,y⟩ :: rest) fr h=opV C L fr h d rest (zku C L o fr h):=by
  rw [zjp,step1.eq_def]
  simp only [zbs,if_true]
  cases zku C L o fr h <;> rfl
@[simp] theorem zRx (d:Option Nat) (o:COp) (rest:List AI) (u:List Nat) (x y:Nat):zqs C L (⟨d,.c o,none,u,x,y⟩ :: rest) fr h=opC C L fr d rest (zgc C L o fr h):=by
  rw [zjp,step1.eq_def]
  simp only [zbs,if_true]
  rfl
def zGW (v:zaa) (b:Bool):Bool:=match v with | .bool c=>c==b | _=>false
@[simp] theorem zNh (c:Bool):zGW (.bool c) true=c:=by cases c <;> rfl
@[simp] theorem zL4 (c:Bool):zGW (.bool c) false=!c:=by cases c <;> rfl
def zPo (g:Bool) (d:Option Nat) (o:AOp) (rest:List AI):Option (Fr × zab):=if g=true then zqs C L (⟨d,o,none,[],0,0⟩ :: rest) fr h else zqs C L rest (put fr d zaK) h
@[simp] theorem zNi (d:Option Nat) (o:AOp) (rest:List AI):zPo C L fr h true d o rest=zqs C L (⟨d,o,none,[],0,0⟩ :: rest) fr h:=rfl
@[simp] theorem zL5 (d:Option Nat) (o:AOp) (rest:List AI):zPo C L fr h false d o rest=zqs C L rest (put fr d zaK) h:=rfl
@[simp] theorem zRy (d:Option Nat) (o:AOp) (t:Nat) (b:Bool) (rest:List AI) (u:List Nat) (x y:Nat):zqs C L (⟨d,o,some (t,b),u,x,y⟩ :: rest) fr h=
    zPo C L fr h (zGW (fr t) b) d o rest:=by
  unfold zPo
  rw [zjp,zjp]
  simp only [zbs,if_true,zGW]
  rfl
@[simp] theorem zPq (n:Nat) (g:Bool) (x:AO):zku C L (.ld n g x) fr h=zkn h (C.ev fr x) n g:=by rw [zku.eq_def];rfl
@[simp] theorem zNj (x:AO):zku C L (.b2s x) fr h=zzX C fr h (.b2s x):=by rw [zku.eq_def]
@[simp] theorem zL6 (x:AO):zku C L (.mark x) fr h=zzX C fr h (.mark x):=by rw [zku.eq_def]
def zL7 (q:Bool) (r:Option (zaa × zab)):Option zaa:=if q=true then r.map (·.1) else none
@[simp] theorem zNk (v:zaa):zL7 true (some (v,h))=some v:=rfl
@[simp] theorem zL8 (f:FuncId) (as:List AO):zku C L (.call f as) fr h=zL7 (zac C f) (zag C L f (as.map (C.ev fr)) h):=by
  rw [zku.eq_def];simp only [zL7];split
  · cases zag C L f (as.map (C.ev fr)) h <;> rfl
  · rfl
@[simp] theorem zL9 (f:FuncId) (as:List AO):zgc C L (.call f as) fr h=zag C L f (as.map (C.ev fr)) h:=by rw [zgc.eq_def]
def zIX (x:zaa) (as:List zaa):Option (zaa × zab):=match x with
  | .fn (.func f) a b=>zag C L f (a++as++b) h
  | _=>none
@[simp] theorem zNm (f:FuncId) (a b as:List zaa):zIX C L h (.fn (.func f) a b) as=zag C L f (a++as++b) h:=rfl
@[simp] theorem zKa (x:AO) (as:List AO):zgc C L (.callv x as) fr h=zIX C L h (C.ev fr x) (as.map (C.ev fr)):=by
  rw [zgc.eq_def];rfl
@[simp] theorem zKb (z:List zaa):zgc C L (.alloc z) fr h=zhZ C L fr h (.alloc z):=by rw [zgc.eq_def]
@[simp] theorem zNo (x:AO):zgc C L (.box x) fr h=zhZ C L fr h (.box x):=by rw [zgc.eq_def]
@[simp] theorem zMb (a b:Nat) (z:List zaa) (p:List (Nat × AO)):zgc C L (.slit a b z p) fr h=zhZ C L fr h (.slit a b z p):=by rw [zgc.eq_def]
@[simp] theorem zPv (a:Nat) (z:List zaa) (x:AO):zgc C L (.mk a z x) fr h=zhZ C L fr h (.mk a z x):=by rw [zgc.eq_def]
@[simp] theorem zPx (n:Nat) (x y:AO):zgc C L (.st n x y) fr h=zhZ C L fr h (.st n x y):=by rw [zgc.eq_def]
@[simp] theorem zNq (n:Nat) (r:Bool) (x y:AO):zgc C L (.app n r x y) fr h=zhZ C L fr h (.app n r x y):=by rw [zgc.eq_def]
@[simp] theorem zMd (n:Nat) (x y:AO):zgc C L (.copy n x y) fr h=zhZ C L fr h (.copy n x y):=by rw [zgc.eq_def]
@[simp] theorem zKf (z:List zaa) (x:AO):zgc C L (.clear z x) fr h=zhZ C L fr h (.clear z x):=by rw [zgc.eq_def]
@[simp] theorem zSd (n:Nat):C.ev fr (.t n)=fr n:=rfl
@[simp] theorem zSe (v:zaa):C.ev fr (.k v)=v:=rfl
@[simp] theorem zPz (d:Nat) (v:zaa):put fr (some d) v=upd fr d v:=rfl
@[simp] theorem zPA (v:zaa):put fr none v=fr:=rfl
@[simp] theorem zPB (u:List Nat) (i:Nat):zi2 u fr i=ifK (u.contains i) (fr i) zaK:=rfl
def zBq (v:zaa) (r:Option (Fr × List zab × List zaa)):Option (Fr × List zab × List zaa):=r.map fun q=>(q.1,q.2.1,v :: q.2.2)
def zDP (h:zab) (v:zaa) (r:Option (Fr × List zab × List zaa)):Option (Fr × List zab × List zaa):=r.map fun q=>(q.1,h :: q.2.1,v :: q.2.2)
@[simp] theorem zMf (v:zaa) (fr:Fr) (hs:List zab) (vs:List zaa):zBq v (some (fr,hs,vs))=some (fr,hs,v :: vs):=rfl
@[simp] theorem zMg (h:zab) (v:zaa) (fr:Fr) (hs:List zab) (vs:List zaa):zDP h v (some (fr,hs,vs))=some (fr,h :: hs,v :: vs):=rfl
def zHa (u:Option Unit):Option (AEx × Fr × zab):=u.map fun _=>(.normal,fr,h)
@[simp] theorem zMh:zHa fr h (some ())=some (.normal,fr,h):=rfl
def zKn (ops:List AI) (r:Option (Fr × List zab × List zaa)):Option (AEx × Fr × zab):=
  r.bind fun r=>zHa r.1 (r.2.1.getLastD h) (zpF C L ops r.2.2 fr (h :: r.2.1))
@[simp] theorem zMi (ops:List AI) (fr':Fr) (hs:List zab) (vs:List zaa):zKn C L fr h ops (some (fr',hs,vs))=zHa fr' (hs.getLastD h) (zpF C L ops vs fr (h :: hs)):=rfl
@[simp] theorem zNy (ops:List AI):run C L (.draw ops) fr h=zKn C L fr h ops (zld C L ops fr h):=by
  rw [run.eq_def]
  simp only [zKn,zHa]
  cases zld C L ops fr h with
  | none=>rfl
  | some r=>simp only [bind,Option.bind_some];cases zpF C L ops r.2.2 fr (h :: r.2.1) <;> rfl
@[simp] theorem zNB:zld C L [] fr h=some (fr,[],[]):=by rw [zld.eq_def]
def dV (d:Option Nat) (rest:List AI) (r:Option zaa):Option (Fr × List zab × List zaa):=r.bind fun v=>zBq v (zld C L rest (put fr d v) h)
@[simp] theorem zQB (d:Option Nat) (rest:List AI) (v:zaa):dV C L fr h d rest (some v)=zBq v (zld C L rest (put fr d v) h):=rfl
def dC (d:Option Nat) (rest:List AI) (r:Option (zaa × zab)):Option (Fr × List zab × List zaa):=r.bind fun r=>zDP r.2 r.1 (zld C L rest (put fr d r.1) r.2)
@[simp] theorem zQC (d:Option Nat) (rest:List AI) (v:zaa):dC C L fr d rest (some (v,h))=zDP h v (zld C L rest (put fr d v) h):=rfl
@[simp] theorem zRC (d:Option Nat) (o:VOp) (rest:List AI) (u:List Nat) (x y:Nat):zld C L (⟨d,.v o,none,u,x,y⟩ :: rest) fr h=
    dV C L fr h d rest (zb4 C (zi2 u fr) o):=by
  rw [zld.eq_def]
  simp only [zbs,if_true]
  rw [step1.eq_def]
  simp only
  cases zb4 C (zi2 u fr) o with
  | none=>rfl
  | some v=>simp only [bind,Option.bind_some,dV];cases zld C L rest (put fr d v) h <;> rfl
@[simp] theorem zRD (d:Option Nat) (o:ROp) (rest:List AI) (u:List Nat) (x y:Nat):zld C L (⟨d,.r o,none,u,x,y⟩ :: rest) fr h=
    dV C L fr h d rest (zku C L o (zi2 u fr) h):=by
  rw [zld.eq_def]
  simp only [zbs,if_true]
  rw [step1.eq_def]
  simp only
  cases zku C L o (zi2 u fr) h with
  | none=>rfl
  | some v=>simp only [bind,Option.bind_some,dV];cases zld C L rest (put fr d v) h <;> rfl
@[simp] theorem zRE (d:Option Nat) (o:COp) (rest:List AI) (u:List Nat) (x y:Nat):zld C L (⟨d,.c o,none,u,x,y⟩ :: rest) fr h=
    dC C L fr d rest (zgc C L o (zi2 u fr) h):=by
  rw [zld.eq_def]
  simp only [zbs,if_true]
  rw [step1.eq_def]
  simp only
  cases zgc C L o (zi2 u fr) h with
  | none=>rfl
  | some r=>simp only [bind,Option.bind_some,dC];cases zld C L rest (put fr d r.1) r.2 <;> rfl
def zMl (g:Bool) (d:Option Nat) (o:AOp) (u:List Nat) (x y:Nat) (rest:List AI):Option (Fr × List zab × List zaa):=
  if g=true then zld C L (⟨d,o,none,u,x,y⟩ :: rest) fr h else (if isC o=true then zDP h zaK (zld C L rest (put fr d zaK) h) else zBq zaK (zld C L rest (put fr d zaK) h))
@[simp] theorem zND (d:Option Nat) (o:AOp) (u:List Nat) (x y:Nat) (rest:List AI):zMl C L fr h true d o u x y rest=zld C L (⟨d,o,none,u,x,y⟩ :: rest) fr h:=rfl
@[simp] theorem zKr (d:Option Nat) (o:VOp) (u:List Nat) (x y:Nat) (rest:List AI):zMl C L fr h false d (.v o) u x y rest=zBq zaK (zld C L rest (put fr d zaK) h):=rfl
@[simp] theorem zKs (d:Option Nat) (o:ROp) (u:List Nat) (x y:Nat) (rest:List AI):zMl C L fr h false d (.r o) u x y rest=zBq zaK (zld C L rest (put fr d zaK) h):=rfl
@[simp] theorem zKt (d:Option Nat) (o:COp) (u:List Nat) (x y:Nat) (rest:List AI):zMl C L fr h false d (.c o) u x y rest=zDP h zaK (zld C L rest (put fr d zaK) h):=rfl
@[simp] theorem zRF (d:Option Nat) (o:AOp) (t:Nat) (b:Bool) (rest:List AI) (u:List Nat) (x y:Nat):zld C L (⟨d,o,some (t,b),u,x,y⟩ :: rest) fr h=
    zMl C L fr h (zGW (fr t) b) d o u x y rest:=by
  unfold zMl
  rw [zld.eq_def]
  conv=>rhs;rw [zld.eq_def]
  simp only [zbs,if_true]
  show (if zGW (fr t) b=true then _ else _)=(if zGW (fr t) b=true then _ else _)
  split
  · rfl
  · cases zld C L rest (put fr d zaK) h with
    | none=>cases o <;> rfl
    | some q=>cases o <;> rfl
@[simp] theorem zNF (vs:List zaa) (hs:List zab):zpF C L [] vs fr hs=some ():=by rw [zpF.eq_def]
@[simp] theorem zRG (d:Option Nat) (o:VOp) (g:Option (Nat × Bool)) (rest:List AI) (u:List Nat) (x y:Nat) (v:zaa) (vs:List zaa) (hs:List zab):
    zpF C L (⟨d,.v o,g,u,x,y⟩ :: rest) (v :: vs) fr hs=zpF C L rest vs (put fr d v) hs:=by rw [zpF.eq_def]
@[simp] theorem zRH (d:Option Nat) (o:COp) (g:Option (Nat × Bool)) (rest:List AI) (u:List Nat) (x y:Nat) (v:zaa) (vs:List zaa) (hs:List zab):
    zpF C L (⟨d,.c o,g,u,x,y⟩ :: rest) (v :: vs) fr hs=zpF C L rest vs (put fr d v) hs:=by rw [zpF.eq_def]
def zQD (rest:List AI) (vs:List zaa) (hs:List zab) (r:Option Unit):Option Unit:=r.bind fun _=>zpF C L rest vs fr hs
@[simp] theorem zNJ (rest:List AI) (vs:List zaa) (hs:List zab):zQD C L fr rest vs hs (some ())=zpF C L rest vs fr hs:=rfl
def zNL (g:Bool) (o:ROp) (u:List Nat) (x y:Nat) (d:Option Nat) (v:zaa) (rest:List AI) (vs:List zaa) (hs:List zab):Option Unit:=
  if g=true then zQD C L (put fr d v) rest vs hs (zCD C L o (zi2 u fr) ((hs.take (y+1)).drop x) v) else zpF C L rest vs (put fr d v) hs
@[simp] theorem zNM (o:ROp) (u:List Nat) (x y:Nat) (d:Option Nat) (v:zaa) (rest:List AI) (vs:List zaa) (hs:List zab):
    zNL C L fr true o u x y d v rest vs hs=zQD C L (put fr d v) rest vs hs (zCD C L o (zi2 u fr) ((hs.take (y+1)).drop x) v):=rfl
@[simp] theorem zMm (o:ROp) (u:List Nat) (x y:Nat) (d:Option Nat) (v:zaa) (rest:List AI) (vs:List zaa) (hs:List zab):
    zNL C L fr false o u x y d v rest vs hs=zpF C L rest vs (put fr d v) hs:=rfl
theorem zI6 (d:Option Nat) (o:ROp) (g:Option (Nat × Bool)) (rest:List AI) (u:List Nat) (x y:Nat) (v:zaa) (vs:List zaa) (hs:List zab):
    zpF C L (⟨d,.r o,g,u,x,y⟩ :: rest) (v :: vs) fr hs=zNL C L fr (zbs fr g&&decide (x < y)) o u x y d v rest vs hs:=by
  rw [zpF.eq_def];rfl
@[simp] theorem zQE (d:Option Nat) (o:ROp) (rest:List AI) (u:List Nat) (x y:Nat) (v:zaa) (vs:List zaa) (hs:List zab):
    zpF C L (⟨d,.r o,none,u,x,y⟩ :: rest) (v :: vs) fr hs=zNL C L fr (decide (x < y)) o u x y d v rest vs hs:=by
  rw [zI6];simp [zbs]
@[simp] theorem zQF (d:Option Nat) (o:ROp) (t:Nat) (b:Bool) (rest:List AI) (u:List Nat) (x y:Nat) (v:zaa) (vs:List zaa) (hs:List zab):
    zpF C L (⟨d,.r o,some (t,b),u,x,y⟩ :: rest) (v :: vs) fr hs=zNL C L fr (zGW (fr t) b&&decide (x < y)) o u x y d v rest vs hs:=by
  rw [zI6];rfl
@[simp] theorem zPF (o:ROp) (v:zaa):zCD C L o fr [] v=some ():=by rw [zCD.eq_def]
open Classical in
def zQG (o:ROp) (hs:List zab) (v:zaa) (u:Option zaa):Option Unit:=u.bind fun u=>if u=v then zCD C L o fr hs v else none
@[simp] theorem zNP (o:ROp) (hs:List zab) (v:zaa):zQG C L fr o hs v (some v)=zCD C L o fr hs v:=by simp [zQG]
@[simp] theorem zNQ (o:ROp) (v:zaa) (h:zab) (hs:List zab):zCD C L o fr (h :: hs) v=zQG C L fr o hs v (zku C L o fr h):=by rw [zCD.eq_def];rfl
theorem zHw {f:FuncId} {F:AFn} (hx:C.ext f=none) (hf:C.fns f=some F) (hp:F.pre=none) (args:List zaa):zag C L f args h=
    (ziu (C.mode f) h args).bind fun a => (run C (zc3 (C.mode f) L h) F.code (fun i => a.1.getD i zaK) h).bind fun r =>
      if (r.1=.normal∨r.1=.ret)∧a.1.length≤F.n then
        (zrL r.2.1 r.2.2 F.res).bind fun vs=>(ztz (C.mode f) h r.2.2 (zyv vs)).bind fun o=>if (a.2&&!o.1.flat)=true then none else some o
      else none:=by
  rw [zag.eq_def]
  simp only [hx,hf,hp,bind,Option.bind_some,zt3]
theorem zoW {f : FuncId} {g : zJt} (hx : C.ext f = some g) (args : List zaa) : zag C L f args h = (g.pre L args h).bind fun q => match q with
    | .inl r=>some r
    | .inr q=>(zag C L q.1 q.2.1 q.2.2).bind fun r=>g.post args r.1 r.2:=by
  rw [zag.eq_def]
  simp only [hx,bind]
  congr 1
end
end Go.Av
namespace Go.Av
section
variable (C:Ctx) (fr:Fr)
theorem zLz (d:Nat) (v:zaa) (i:Nat):upd fr d v i=ifK (i==d) v (fr i):=by
  unfold upd ifK
  by_cases h:i=d
  · subst h;simp
  · simp [h]
attribute [simp] zLz
def znl:zaa→Option zaa
  | .tup _=>none
  | .agg cs=>some (.vptr cs 0)
  | v=>some (.vptr [v] 0)
theorem zLy (x:AO):zb4 C fr (.boxv x)=znl (C.ev fr x):=by
  simp only [zb4]
  cases C.ev fr x <;> simp [znl,zaa.okV,zaa.cells]
theorem zOO (x:AO):zb4 C fr (.mv x)=some (C.ev fr x):=by simp only [zb4]
def zLA (c:Option Bool) (a b:zaa):Option zaa:=c.map fun t=>ifK t a b
@[simp] theorem zMx (t:Bool) (a b:zaa):zLA (some t) a b=some (ifK t a b):=by unfold zLA;exact rfl
theorem zIB (c a b:AO):zb4 C fr (.pick c a b)=zLA (zDk (C.ev fr c)) (C.ev fr a) (C.ev fr b):=by
  simp only [zb4]
  cases C.ev fr c <;> rfl
theorem zLC (op:BinOp) (x y:AO):zb4 C fr (.bin op x y)=zew op (C.ev fr x) (C.ev fr y):=by simp only [zb4]
theorem zOP (c : zMA) (n : Bool) (x y : AO) : zb4 C fr (.eq c n x y) = (eqA c (C.ev fr x) (C.ev fr y)).map fun b => .bool (n ^^ b) := by
  simp only [zb4]
  cases n <;> cases eqA c (C.ev fr x) (C.ev fr y) <;> simp
def zRl:zaa→Option zaa
  | .bool b=>some (.bool !b)
  | _=>none
theorem zLE (x:AO):zb4 C fr (.un .not x)=zRl (C.ev fr x):=by
  simp only [zb4]
  cases C.ev fr x <;> rfl
theorem zLF (x:AO):zb4 C fr (.un .neg x)=unA .neg (C.ev fr x):=by simp only [zb4]
def zMz (k:IntKind):zaa→Option zaa
  | .int _ n=>some (.int k (k.wrap n))
  | _=>none
theorem zLG (k:IntKind) (x:AO):zb4 C fr (.i2i k x)=zMz k (C.ev fr x):=by
  simp only [zb4];cases C.ev fr x <;> rfl
def zRm:zaa→Option ByteArray
  | .str s=>some s
  | _=>none
theorem zIC (x : AO) : zb4 C fr (.lenS x) = (zRm (C.ev fr x)).map fun s => .int .i64 s.size := by
  simp only [zb4];cases C.ev fr x <;> rfl
theorem zID (x:AO):zb4 C fr (.lenL x)=(zwy (C.ev fr x)).map fun (n:Nat)=>zaa.int .i64 (n:Int):=by simp only [zb4]
theorem zIF (t:TypeId) (x:AO):zb4 C fr (.mkif t x)=some (.iface t (C.ev fr x)):=by simp only [zb4]
theorem zIG (f:Fn) (a b:List AO):zb4 C fr (.mkfn f a b)=some (.fn f (a.map (C.ev fr)) (b.map (C.ev fr))):=by simp only [zb4]
theorem zFS (k:SK) (sz:Nat) (x:AO) (lo hi mx:Option AO):zb4 C fr (.slice k sz x lo hi mx)=zc0 k sz (C.ev fr x) (lo.map (C.ev fr)) (hi.map (C.ev fr)) (mx.map (C.ev fr)):=by simp only [zb4]
def zyf (off:Nat):zaa→Option zaa
  | .ptr b o=>some (.ptr b (o+off))
  | .vptr cs o=>some (.vptr cs (o+off))
  | _=>none
theorem zIH (off:Nat) (x:AO):zb4 C fr (.fadr off x)=zyf off (C.ev fr x):=by
  simp only [zb4];cases C.ev fr x <;> rfl
def zGc:zaa→Option zaa
  | .ptr b o=>some (.ptr b o)
  | .vptr cs o=>some (.vptr cs o)
  | .iface t v=>some (.iface t v)
  | _=>none
theorem zLN (x:AO):zb4 C fr (.nck x)=zGc (C.ev fr x):=by
  simp only [zb4];cases C.ev fr x <;> rfl
def zP9 (off sz:Nat) (agg:Bool):zaa→Option zaa
  | .agg cs=>zeb agg cs off sz
  | _=>none
theorem zLO (off sz:Nat) (agg:Bool) (x:AO):zb4 C fr (.fld off sz agg x)=zP9 off sz agg (C.ev fr x):=by
  simp only [zb4];cases C.ev fr x <;> rfl
theorem zII (a:Option Nat) (sz:Nat) (x i:AO):zb4 C fr (.iadr a sz x i)=zbP a sz (C.ev fr x) (C.ev fr i):=by simp only [zb4]
def zQa (len sz:Nat) (agg:Bool):zaa→zaa→Option zaa
  | .agg cs,.int _ i=>if 0≤i∧i < len then zeb agg cs (i.toNat*sz) sz else none
  | _,_=>none
theorem zIL (len sz:Nat) (agg:Bool) (x i:AO):zb4 C fr (.idxA len sz agg x i)=zQa len sz agg (C.ev fr x) (C.ev fr i):=by
  simp only [zb4]
  generalize C.ev fr x=a
  generalize C.ev fr i=b
  cases a <;> cases b <;> rfl
def zKA:zaa→zaa→Option zaa
  | .str s,.int _ i=>if 0≤i then (s.data.toList[i.toNat]?).map fun b=>.int .u8 b.toNat else none
  | _,_=>none
theorem zHz (x i:AO):zb4 C fr (.idxS x i)=zKA (C.ev fr x) (C.ev fr i):=by
  simp only [zb4]
  generalize C.ev fr x=a
  generalize C.ev fr i=b
  cases a <;> cases b <;> rfl
def zQH (i:Nat):zaa→Option zaa
  | .tup vs=>vs[i]?
  | _=>none
theorem zKB (x:AO) (i:Nat):zb4 C fr (.ext x i)=zQH i (C.ev fr x):=by
  simp only [zb4];cases C.ev fr x <;> rfl
def zNX (n:Nat):zaa→Option zaa
  | .sl b off _ len _=>if n≤len then some (.ptr b off) else none
  | .vsl _ es=>if n≤es.length∧0 < n then some (.vptr (es.take n).flatten 0) else none
  | .gsl _ es=>if n≤es.length∧0 < n then some (.vptr (es.take n).flatten 0) else none
  | _=>none
theorem zKC (n:Nat) (x:AO):zb4 C fr (.s2a n x)=zNX n (C.ev fr x):=by
  simp only [zb4];cases C.ev fr x <;> rfl
theorem zEm (z : List zaa) (ps : List (Nat × Nat × AO)) : zb4 C fr (.build z ps) = (zaA z (ps.map fun p => (p.1, p.2.1, C.ev fr p.2.2))).map .agg := by
  simp only [zb4];cases zaA z (ps.map fun p=>(p.1,p.2.1,C.ev fr p.2.2)) <;> rfl
theorem zHB (sz len : Nat) (z : List zaa) (ps : List (Nat × AO)) : zb4 C fr (.slit sz len z ps) = (zaA (rep z len) (ps.map fun p => (p.1 * sz, sz, C.ev fr p.2))).map fun cs => .vsl true (chunks sz len cs) := by
  simp only [zb4];cases zaA (rep z len) (ps.map fun p=>(p.1*sz,sz,C.ev fr p.2)) <;> rfl
theorem zHC (m:Bool) (x:AO) (xs:List AO):zb4 C fr (.mxmn m (x :: xs))=zrh m (C.ev fr x) (xs.map (C.ev fr)):=by simp only [zb4,List.map_cons]
end
section
variable (k:IntKind) (a b:Int)
@[simp] theorem zPG (cs:List zaa):znl (.agg cs)=some (.vptr cs 0):=by unfold znl;exact rfl
@[simp] theorem zN0 (b:Bool):zRl (.bool b)=some (.bool !b):=by unfold zRl;exact rfl
@[simp] theorem zd6 (k':IntKind):zMz k' (.int k a)=some (.int k' (k'.wrap a)):=by unfold zMz;exact rfl
@[simp] theorem zPH (s:ByteArray):zRm (.str s)=some s:=by unfold zRm;exact rfl
@[simp] theorem zPI (c:Bool) (es:List (List zaa)):zwy (.vsl c es)=some es.length:=by unfold zwy;exact rfl
@[simp] theorem zQI (x off sz n:Nat) (c:Option Nat):zwy (.sl x off sz n c)=some n:=by unfold zwy;exact rfl
@[simp] theorem zN2 (off x o:Nat):zyf off (.ptr x o)=some (.ptr x (o+off)):=by unfold zyf;exact rfl
@[simp] theorem zMo (off o:Nat) (cs:List zaa):zyf off (.vptr cs o)=some (.vptr cs (o+off)):=by unfold zyf;exact rfl
@[simp] theorem zPJ (x o:Nat):zGc (.ptr x o)=some (.ptr x o):=by unfold zGc;exact rfl
@[simp] theorem zQK (t:TypeId) (v:zaa):zGc (.iface t v)=some (.iface t v):=by unfold zGc;exact rfl
@[simp] theorem zN4 (o:Nat) (cs:List zaa):zGc (.vptr cs o)=some (.vptr cs o):=by unfold zGc;exact rfl
@[simp] theorem zPK (off sz:Nat) (g:Bool) (cs:List zaa):zP9 off sz g (.agg cs)=zeb g cs off sz:=by unfold zP9;exact rfl
@[simp] theorem zPL (i:Nat) (vs:List zaa):zQH i (.tup vs)=vs[i]?:=by unfold zQH;exact rfl
@[simp] theorem zKM:zew .add (.int k a) (.int k b)=some (.int k (k.wrap (a+b))):=by simp [zew,zgI]
@[simp] theorem zzf:zew .sub (.int k a) (.int k b)=some (.int k (k.wrap (a - b))):=by simp [zew,zgI]
@[simp] theorem zKN:zew .mul (.int k a) (.int k b)=some (.int k (k.wrap (a*b))):=by simp [zew,zgI]
theorem zlY (h:b≠0):zew .quo (.int k a) (.int k b)=some (.int k (k.wrap (a.tdiv b))):=by simp [zew,zgI,h]
theorem zi0 (h:b≠0):zew .rem (.int k a) (.int k b)=some (.int k (a.tmod b)):=by simp [zew,zgI,h]
@[simp] theorem zlZ:zew .and (.int k a) (.int k b)=some (.int k (k.wrap (BitVec.ofInt k.bits a&&&BitVec.ofInt k.bits b).toNat)):=by simp [zew,zgI]
@[simp] theorem zED:zew .or (.int k a) (.int k b)=some (.int k (k.wrap (BitVec.ofInt k.bits a|||BitVec.ofInt k.bits b).toNat)):=by simp [zew,zgI]
@[simp] theorem zKR:zew .xor (.int k a) (.int k b)=some (.int k (k.wrap (BitVec.ofInt k.bits a ^^^ BitVec.ofInt k.bits b).toNat)):=by simp [zew,zgI]
@[simp] theorem zBR:zew .andNot (.int k a) (.int k b)=some (.int k (k.wrap (BitVec.ofInt k.bits a&&&~~~ (BitVec.ofInt k.bits b)).toNat)):=by simp [zew,zgI]
@[simp] theorem zKS:zew .eql (.int k a) (.int k b)=some (.bool (a==b)):=by simp [zew,zgI]
@[simp] theorem zvP:zew .neq (.int k a) (.int k b)=some (.bool (a !=b)):=by simp [zew,zgI]
@[simp] theorem zKU:zew .lss (.int k a) (.int k b)=some (.bool (decide (a < b))):=by simp [zew,zgI]
@[simp] theorem zKY:zew .gtr (.int k a) (.int k b)=some (.bool (decide (a > b))):=by simp [zew,zgI]
@[simp] theorem zke:zew .geq (.int k a) (.int k b)=some (.bool (decide (a≥b))):=by simp [zew,zgI]
@[simp] theorem zl0 (k':IntKind):zew .shl (.int k a) (.int k' b)=zkP .shl k a b:=by simp [zew]
@[simp] theorem zdO (k':IntKind):zew .shr (.int k a) (.int k' b)=zkP .shr k a b:=by simp [zew]
@[simp] theorem zPP (s t:ByteArray):zew .neq (.str s) (.str t)=some (.bool !(s==t)):=by simp [zew]
@[simp] theorem zK2 (sh:List CK) (xs ys:List zaa):eqA (.agg sh) (.agg xs) (.agg ys)=zbo sh xs ys:=by simp [eqA]
theorem zae (cs:List zaa) (off n:Nat):zeb false cs off n=cs[off]?:=by unfold zeb;simp
theorem zxG {cs:List zaa} {n:Nat} (h:cs.length=n):zeb true cs 0 n=some (.agg cs):=by
  unfold zeb;subst h;simp
@[simp] theorem zMq (h:zab) (cs:List zaa) (off n:Nat) (g:Bool):zkn h (.vptr cs off) n g=zeb g cs off n:=by unfold zkn;exact rfl
theorem zxH:∀ (cs pre old:List zaa),old.length=cs.length→setAt (pre++old) pre.length cs=pre++cs
  | [],pre,old,h=>by simp at h;subst h;rfl
  | c :: cs,pre,[],h=>by simp at h
  | c :: cs, pre, x :: old, h => by
    have:=zxH cs (pre++[c]) old (by simpa using h)
    simp only [setAt]
    rw [List.set_append_right _ _ (Nat.le_refl _),Nat.sub_self,List.set_cons_zero]
    simpa using this
theorem zBW {cs old:List zaa} (h:old.length=cs.length):setAt old 0 cs=cs:=zxH cs [] old h
@[simp] theorem zOe (cs:List zaa) (off:Nat) (v:zaa):setAt cs off [v]=cs.set off v:=by simp only [setAt]
def hx (h:zab) (bs:List (List zaa)) (ts:List Nat):zab:=⟨h.blks++bs,h.toks++ts⟩
theorem zxK (h:zab):hx h [] []=h:=by simp [hx]
def pA (n i off:Nat):zaa:=.ptr (n+i) off
def sA (n i off sz len:Nat) (cap:Option Nat):zaa:=.sl (n+i) off sz len cap
def gA (n i:Nat) (es:List (List zaa)):zaa:=.gsl (n+i) es
def zau (h:zab):Lim:=⟨h.blks.length,h.toks.length,h.blks.length,h.toks.length⟩
variable (h:zab) (bs:List (List zaa)) (ts:List Nat) (L:Lim)
@[simp] theorem zPX (n off i o:Nat):zyf off (pA n i o)=some (pA n i (o+off)):=by unfold zyf pA;exact rfl
@[simp] theorem zQ9 (n i o:Nat):zGc (pA n i o)=some (pA n i o):=by unfold zGc pA;exact rfl
def zIs (cs:Option (List zaa)) (g:Bool) (off n:Nat):Option zaa:=cs.bind fun cs=>zeb g cs off n
@[simp] theorem zMt (cs:List zaa) (g:Bool) (off n:Nat):zIs (some cs) g off n=zeb g cs off n:=by unfold zIs;exact rfl
@[simp] theorem zIv (i off n:Nat) (g:Bool):zkn (hx h bs ts) (pA h.blks.length i off) n g=zIs bs[i]? g off n:=by
  unfold zkn pA hx zIs
  simp only
  rw [List.getElem?_append_right (Nat.le_add_right _ _),Nat.add_sub_cancel_left]
def stI (h:zab) (bs:List (List zaa)) (ts:List Nat) (i off:Nat) (cs old:List zaa) (b:Bool):Option zab:=if b=true then some (hx h (bs.set i (setAt old off cs)) ts) else none
@[simp] theorem zAP (i off:Nat) (cs old:List zaa):stI h bs ts i off cs old true=some (hx h (bs.set i (setAt old off cs)) ts):=by unfold stI;exact rfl
def stO (h:zab) (bs:List (List zaa)) (ts:List Nat) (i off:Nat) (cs:List zaa) (old:Option (List zaa)):Option zab:=old.bind fun old=>stI h bs ts i off cs old (decide (off+cs.length≤old.length))
@[simp] theorem zAQ (i off:Nat) (cs old:List zaa):stO h bs ts i off cs (some old)=stI h bs ts i off cs old (decide (off+cs.length≤old.length)):=by unfold stO;exact rfl
@[simp] theorem zOK (i off:Nat) (cs:List zaa) (r1 r2 r3 r4:Nat) (h1:r1≤h.blks.length) (h3:r3≤h.blks.length):
    zcx ⟨r1,r2,r3,r4⟩ (hx h bs ts) (pA h.blks.length i off) cs=stO h bs ts i off cs bs[i]?:=by
  unfold zcx pA stO stI hx
  simp only
  rw [List.getElem?_append_right (Nat.le_add_right _ _),Nat.add_sub_cancel_left]
  cases bs[i]? with
  | none=>rfl
  | some old=>
    simp only [Option.bind_some]
    by_cases hc:off+cs.length≤old.length
    · rw [if_pos ⟨by omega, hc, .inl (by omega)⟩, if_pos (by simpa using hc)]
      rw [List.set_append_right _ _ (Nat.le_add_right _ _),Nat.add_sub_cancel_left]
    · rw [if_neg (fun h=>hc h.2.1),if_neg (by simpa using hc)]
@[simp] theorem zMu (C:Ctx) (fr:Fr) (z:List zaa):zhZ C L fr (hx h bs ts) (.alloc z)=some (pA h.blks.length bs.length 0,hx h (bs++[z]) ts):=by
  simp only [zhZ]
  simp [hx,pA,push]
theorem zee (C:Ctx) (fr:Fr) (x:AO) (hv:(C.ev fr x).okV=true):zhZ C L fr (hx h bs ts) (.box x)=some (pA h.blks.length bs.length 0,hx h (bs++[(C.ev fr x).cells]) ts):=by
  simp only [zhZ,hv,if_true]
  simp [hx,pA,push]
def stM (r:Option zab):Option (zaa × zab):=r.map fun h=>(zaK,h)
@[simp] theorem zPY:stM (some h)=some (zaK,h):=by unfold stM;exact rfl
def stK (L:Lim) (h:zab) (n:Nat) (p v:zaa):Option (zaa × zab):=if (decide (v.cells.length=n)&&v.okV)=true then stM (zcx L h p v.cells) else none
@[simp] theorem zRb (C:Ctx) (fr:Fr) (n:Nat) (x y:AO):zhZ C L fr h (.st n x y)=stK L h n (C.ev fr x) (C.ev fr y):=by
  simp only [zhZ,stK,stM]
  by_cases h1:(C.ev fr y).cells.length=n <;> cases h2:(C.ev fr y).okV <;> simp [h1,h2]
@[simp] theorem zRd (p:zaa):stK L h 1 p (.int k a)=stM (zcx L h p [.int k a]):=by simp [stK,zaa.cells,zaa.okV]
@[simp] theorem zPZ (p:zaa) (b:Bool):stK L h 1 p (.bool b)=stM (zcx L h p [.bool b]):=by simp [stK,zaa.cells,zaa.okV]
@[simp] theorem zRg (p:zaa) (b:ByteArray):stK L h 1 p (.str b)=stM (zcx L h p [.str b]):=by simp [stK,zaa.cells,zaa.okV]
@[simp] theorem zRh (p:zaa) (c:Bool) (es:List (List zaa)):stK L h 1 p (.vsl c es)=stM (zcx L h p [.vsl c es]):=by simp [stK,zaa.cells,zaa.okV]
theorem zLx {cs:List zaa} {n:Nat} (p:zaa) (hn:cs.length=n):stK L h n p (.agg cs)=stM (zcx L h p cs):=by simp [stK,zaa.cells,zaa.okV,hn]
@[simp] theorem zMw:zc3 Mode.pure L h=zau h:=by simp [zc3,Mode.pure,zau]
@[simp] theorem zuS (args:List zaa):ziu Mode.pure h args=zgK h args:=by simp [ziu,Mode.pure]
@[simp] theorem zuT:zgK h []=some ([],false):=by simp only [zgK]
def fzK (a:Option (zaa × Bool)) (b:Option (List zaa × Bool)):Option (List zaa × Bool):=a.bind fun a=>b.bind fun b=>some (a.1 :: b.1,a.2||b.2)
@[simp] theorem zAU (v:zaa) (c:Bool) (vs:List zaa) (d:Bool):fzK (some (v,c)) (some (vs,d))=some (v :: vs,c||d):=by unfold fzK;exact rfl
@[simp] theorem ztj (v:zaa) (vs:List zaa):zgK h (v :: vs)=fzK (fzA h v) (zgK h vs):=by simp only [zgK,fzK,bind]
@[simp] theorem zRi:fzA h (.int k a)=some (.int k a,false):=by simp only [fzA]
@[simp] theorem zFH (c:Bool) (es:List (List zaa)):fzA h (.vsl c es)=some (.vsl false es,false):=by simp only [fzA]
@[simp] theorem zRj:fzA h .nsl=some (.vsl false [],false):=by simp only [fzA]
@[simp] theorem zRk (x o:Nat):fzA h (.ptr x o)=some (.ptr x o,false):=by simp only [fzA]
@[simp] theorem zP1 (cs:List zaa) (o:Nat):fzA h (.vptr cs o)=some (.vptr cs o,false):=by simp only [fzA]
theorem zwl {cs:List zaa} (hc:zck cs=true):fzA h (.agg cs)=some (.agg cs,false):=by simp only [fzA,hc,if_true]
def zwm (a:Option zaa) (b:Option (List zaa)):Option (List zaa):=a.bind fun a=>b.map fun b=>a :: b
@[simp] theorem zMy (v:zaa) (vs:List zaa):zwm (some v) (some vs)=some (v :: vs):=by unfold zwm;exact rfl
@[simp] theorem zP2 (fr:Fr):zrL fr h []=some []:=by simp only [zrL]
@[simp] theorem zP3 (fr:Fr) (t:Nat) (rs:List zyd):zrL fr h (.tmp t :: rs)=zwm (some (fr t)) (zrL fr h rs):=by
  simp only [zrL,zwm,bind,Option.bind_some]
  cases zrL fr h rs <;> rfl
@[simp] theorem zOQ (fr:Fr) (t n:Nat) (g:Bool) (rs:List zyd):zrL fr h (.cell t n g :: rs)=zwm (zkn h (fr t) n g) (zrL fr h rs):=by
  simp only [zrL,zwm,bind]
  cases zkn h (fr t) n g <;> cases zrL fr h rs <;> rfl
@[simp] theorem zP4:zyv []=.tup []:=by simp only [zyv]
@[simp] theorem zP5 (v:zaa):zyv [v]=v:=by simp only [zyv]
@[simp] theorem zP6 (v w:zaa) (vs:List zaa):zyv (v :: w :: vs)=.tup (v :: w :: vs):=by simp only [zyv]
def zLH (c:Bool) (o:Option (zaa × zab)):Option (zaa × zab):=o.bind fun o=>if (c&&!o.1.flat)=true then none else some o
@[simp] theorem zCf (o:Option (zaa × zab)):zLH false o=o:=by unfold zLH;cases o <;> simp
theorem zyb (v:zaa) (hv:v.flat=true):zLH true (some (v,h))=some (v,h):=by simp [zLH,hv]
def zMB (m:Mode) (h:zab) (c:Bool) (h1:zab) (vs:Option (List zaa)):Option (zaa × zab):=vs.bind fun vs=>zLH c (ztz m h h1 (zyv vs))
@[simp] theorem zOU (m:Mode) (c:Bool) (h1:zab) (vs:List zaa):zMB m h c h1 (some vs)=zLH c (ztz m h h1 (zyv vs)):=by unfold zMB;exact rfl
def zLL (b:Bool) (m:Mode) (h:zab) (res:List zyd) (c:Bool) (fr:Fr) (h1:zab):Option (zaa × zab):=if b=true then zMB m h c h1 (zrL fr h1 res) else none
@[simp] theorem zOV (m:Mode) (res:List zyd) (c:Bool) (fr:Fr) (h1:zab):zLL true m h res c fr h1=zMB m h c h1 (zrL fr h1 res):=by unfold zLL;exact rfl
def zGb (m:Mode) (h:zab) (n:Nat) (res:List zyd) (as:List zaa) (c:Bool) (r:Option (AEx × Fr × zab)):Option (zaa × zab):=
  r.bind fun r=>zLL (decide ((r.1=.normal∨r.1=.ret)∧as.length≤n)) m h res c r.2.1 r.2.2
@[simp] theorem zP7 (m:Mode) (n:Nat) (res:List zyd) (as:List zaa) (c:Bool) (fr:Fr) (h1:zab):zGb m h n res as c (some (.ret,fr,h1))=zLL (decide (as.length≤n)) m h res c fr h1:=by
  simp [zGb]
@[simp] theorem zLM (m:Mode) (n:Nat) (res:List zyd) (as:List zaa) (c:Bool) (fr:Fr) (h1:zab):zGb m h n res as c (some (.normal,fr,h1))=zLL (decide (as.length≤n)) m h res c fr h1:=by
  simp [zGb]
def frm (as:List zaa):Fr:=fun i=>as.getD i zaK
@[simp] theorem zR6 (as:List zaa) (i:Nat):frm as i=as.getD i zaK:=by unfold frm;exact rfl
noncomputable def zFV (C:Ctx) (L:Lim) (m:Mode) (h:zab) (n:Nat) (code:AC) (res:List zyd) (a:Option (List zaa × Bool)):Option (zaa × zab):=
  a.bind fun a=>zGb m h n res a.1 a.2 (run C (zc3 m L h) code (frm a.1) (hx h [] []))
@[simp] theorem zu2 (C:Ctx) (m:Mode) (n:Nat) (code:AC) (res:List zyd) (as:List zaa) (c:Bool):zFV C L m h n code res (some (as,c))=zGb m h n res as c (run C (zc3 m L h) code (frm as) (hx h [] [])):=by unfold zFV;exact rfl
theorem zad {C:Ctx} {f:FuncId} {n:Nat} {code:AC} {res:List zyd} (hx':C.ext f=none) (hf:C.fns f=some ⟨n,code,res,none⟩) (args:List zaa):zag C L f args h=
    zFV C L (C.mode f) h n code res (ziu (C.mode f) h args):=by
  rw [zHw C L h hx' hf rfl args]
  unfold zFV zGb zLL zMB zLH frm
  rw [zxK]
  cases ziu (C.mode f) h args with
  | none=>rfl
  | some a=>
    simp only [Option.bind_some]
    cases run C (zc3 (C.mode f) L h) code (fun i=>a.1.getD i zaK) h with
    | none=>rfl
    | some r=>
      simp only [Option.bind_some]
      by_cases hc:(r.1=.normal∨r.1=.ret)∧a.1.length≤n
      · rw [if_pos hc,if_pos (by simpa using hc)]
      · rw [if_neg hc,if_neg (by simpa using hc)]
def zt7 (v:Option zaa) (h:zab):Option (zaa × zab):=v.map fun v=>(v,h)
@[simp] theorem zLP (v:zaa):zt7 (some v) h=some (v,h):=by unfold zt7;exact rfl
@[simp] theorem zMC (h1:zab) (v:zaa):ztz Mode.pure h h1 v=zt7 (frz h1 h.blks.length h.toks.length 12 v) h:=by
  simp [ztz,Mode.pure,zt7]
section
variable (nb nt n:Nat)
@[simp] theorem zQb:frz h nb nt (n+1) (.int k a)=some (.int k a):=by simp only [frz]
@[simp] theorem zOY (b:Bool):frz h nb nt (n+1) (.bool b)=some (.bool b):=by simp only [frz]
@[simp] theorem zQd:frz h nb nt (n+1) .nsl=some (.vsl false []):=by simp only [frz]
theorem zhF (c:Bool) {es:List (List zaa)} (he:zax nb nt es=true):frz h nb nt (n+1) (.vsl c es)=some (.vsl false es):=by simp [frz,zCB,he]
theorem zyw {t:Nat} {es:List (List zaa)} (ht:nt≤t) (he:zax nb nt es=true):frz h nb nt (n+1) (.gsl t es)=some (.vsl false es):=by
  simp [frz,zCB,he];omega
theorem zjS {cs:List zaa} (hc:zck cs=true):frz h nb nt (n+1) (.agg cs)=some (.agg cs):=by simp [frz,hc]
def zCk (h:zab) (nb nt n:Nat):List zaa→Option (List zaa)
  | []=>some []
  | c :: cs=>zwm (frz h nb nt n c) (zCk h nb nt n cs)
@[simp] theorem zOZ:zCk h nb nt n []=some []:=by unfold zCk;exact rfl
@[simp] theorem zCG (c:zaa) (cs:List zaa):zCk h nb nt n (c :: cs)=zwm (frz h nb nt n c) (zCk h nb nt n cs):=by rw [zCk]
theorem zyy:∀ cs:List zaa,cs.mapM (frz h nb nt n)=zCk h nb nt n cs
  | []=>by simp
  | c :: cs => by
    rw [zCG,List.mapM_cons,zyy cs,zwm]
    cases frz h nb nt n c with
    | none=>rfl
    | some v=>cases zCk h nb nt n cs <;> rfl
@[simp] theorem zQg (cs:List zaa):frz h nb nt (n+1) (.tup cs)=(zCk h nb nt n cs).map .tup:=by
  simp only [frz];rw [zyy]
end
@[simp] theorem zME:zck []=true:=by simp only [zck]
@[simp] theorem zLU (c:zaa) (cs:List zaa):zck (c :: cs)=(c.flat&&zck cs):=by simp only [zck]
@[simp] theorem zO1:(zaa.int k a).flat=true:=by simp only [zaa.flat]
@[simp] theorem zO2 (b:ByteArray):(zaa.str b).flat=true:=by simp only [zaa.flat]
attribute [simp] zLy zOO zIB zLC zOP zLE zLF zLG zIC zID zIF zIG zFS zIH zLN zLO zII zIL zHz zKB zKC zEm zHB zHC
attribute [simp] zae
end
end Go.Av
namespace Go.Av
def wr:AC→List Nat
  | .reg ops=>zgR ops
  | .draw ops=>zgR ops
  | .draw2 a _ _=>zgR a
  | .seq a b=>wr a++wr b
  | .cond _ a b=>wr a++wr b
  | .blk _ a=>wr a
  | .loop a=>wr a
  | .scope a=>wr a
  | _=>[]
theorem zx3 {i:AI} {is:List AI} {t:Nat} (h:t∉zgR (i :: is)):i.dst≠some t∧t∉zgR is:=by
  simp only [zgR] at h
  cases hd:i.dst with
  | none=>rw [hd] at h;exact ⟨by simp,h⟩
  | some d=>rw [hd] at h;simp at h;exact ⟨by simp;exact fun e=>h.1 e.symm,h.2⟩
theorem zrJ {fr:Fr} {d:Option Nat} {v:zaa} {t:Nat} (h:d≠some t):put fr d v t=fr t:=by
  cases d with
  | none=>rfl
  | some d=>
    have:t≠d:=fun e=>h (by rw [e])
    simp [put,upd,this]
theorem zB7 {l:Nat}:∀ {a r:AC},zep a l=some r→∀ t,t∈wr r→t∈wr a:=by
  intro a
  induction a with
  | seq a b ih1 ih2=>
    intro r h t ht
    simp only [zep] at h
    split at h
    · rename_i r1 h1
      obtain rfl:=Option.some.inj h
      simp only [wr,List.mem_append] at ht ⊢
      exact ht.imp (ih1 h1 t) id
    · simp only [wr,List.mem_append]
      exact .inr (ih2 h t ht)
  | label l'=>
    intro r h t ht
    simp only [zep] at h
    split at h
    · obtain rfl:=Option.some.inj h;simp [wr] at ht
    · simp at h
  | _=>intro r h;simp [zep] at h
theorem zAL {C:Ctx} {L:Lim} {c:AC} {fr:Fr} {h:zab} {r:AEx × Fr × zab} (hv:run C L c fr h=some r):∀ t,t∉wr c→r.2.1 t=fr t:=by
  refine (zag.mutual_partial_correctness C
    (fun _ _ _ _ _=>True)
    (fun L c fr h r=>∀ t,t∉wr c→r.2.1 t=fr t)
    (fun L a e fr h r=>∀ t,t∉wr a→r.2.1 t=fr t)
    (fun _ _ _ _ _ _=>True) (fun _ _ _ _ _ _=>True) (fun _ _ _ _ _=>True)
    (fun L ops fr h r=>∀ t,t∉zgR ops→r.1 t=fr t)
    (fun _ _ _ _ _=>True) (fun _ _ _ _ _=>True)
    (fun L ops fr h r=>∀ t,t∉zgR ops→r.1 t=fr t)
    ?_ ?_ ?_ ?_ ?_ ?_ ?_ ?_ ?_ ?_).2.1 L c fr h r hv
  · intros;trivial
  · intro run zuR zpF zld zqs hrun hscope hchk hrunD hrunO L c fr h r hv t ht
    split at hv
    · obtain rfl:=Option.some.inj hv;rfl
    · obtain rfl:=Option.some.inj hv;rfl
    · obtain ⟨r1,hr1,hv⟩:=bind_some hv
      obtain rfl:=Option.some.inj hv
      exact hrunO _ _ _ _ _ hr1 t ht
    · obtain ⟨r1,hr1,hv⟩:=bind_some hv
      obtain ⟨u,hu,hv⟩:=bind_some hv
      obtain rfl:=Option.some.inj hv
      exact hrunD _ _ _ _ _ hr1 t ht
    · obtain ⟨r1,hr1,hv⟩:=bind_some hv
      obtain ⟨u,hu,hv⟩:=bind_some hv
      obtain ⟨r2,hr2,hv⟩:=bind_some hv
      obtain ⟨u2,hu2,hv⟩:=bind_some hv
      split at hv
      · obtain rfl:=Option.some.inj hv
        exact hrunD _ _ _ _ _ hr1 t ht
      · simp at hv
    · obtain ⟨r1,hr1,hv⟩:=bind_some hv
      simp only [wr,List.mem_append,not_or] at ht
      have k1:=hrun _ _ _ _ _ hr1 t ht.1
      split at hv
      · exact (hrun _ _ _ _ _ hv t ht.2).trans k1
      · obtain rfl:=Option.some.inj hv;exact k1
    · simp only [wr,List.mem_append,not_or] at ht
      split at hv
      · exact hrun _ _ _ _ _ hv t ht.1
      · exact hrun _ _ _ _ _ hv t ht.2
      · simp at hv
    · obtain ⟨r1,hr1,hv⟩:=bind_some hv
      have k1:=hrun _ _ _ _ _ hr1 t ht
      split at hv
      · obtain rfl:=Option.some.inj hv;exact k1
      · obtain rfl:=Option.some.inj hv;exact k1
    · obtain ⟨r1,hr1,hv⟩:=bind_some hv
      have k1:=hrun _ _ _ _ _ hr1 t ht
      split at hv
      · exact (hrun _ _ _ _ _ hv t ht).trans k1
      · obtain rfl:=Option.some.inj hv;exact k1
    · obtain rfl:=Option.some.inj hv;rfl
    · obtain ⟨r1,hr1,hv⟩:=bind_some hv
      exact (hscope _ _ _ _ _ _ hv t ht).trans (hrun _ _ _ _ _ hr1 t ht)
    · obtain rfl:=Option.some.inj hv;rfl
    · obtain rfl:=Option.some.inj hv;rfl
  · intro run zuR hrun hscope L a e fr h r hv t ht
    split at hv
    · split at hv
      · rename_i rest hl
        obtain ⟨r1,hr1,hv⟩:=bind_some hv
        exact (hscope _ _ _ _ _ _ hv t ht).trans (hrun _ _ _ _ _ hr1 t fun hx=>ht (zB7 hl t hx))
      · obtain rfl:=Option.some.inj hv;rfl
    · obtain rfl:=Option.some.inj hv;rfl
  · intros;trivial
  · intros;trivial
  · intros;trivial
  · intro zld step1 hrunD hstep1 L ops fr h r hv t ht
    split at hv
    · obtain rfl:=Option.some.inj hv;rfl
    · rename_i i rest
      obtain ⟨t1,t2⟩:=zx3 ht
      split at hv
      · obtain ⟨r1,hr1,hv⟩:=bind_some hv
        obtain ⟨q,hq,hv⟩:=bind_some hv
        obtain rfl:=Option.some.inj hv
        exact (hrunD _ _ _ _ _ hq t t2).trans (zrJ t1)
      · obtain ⟨q,hq,hv⟩:=bind_some hv
        obtain rfl:=Option.some.inj hv
        exact (hrunD _ _ _ _ _ hq t t2).trans (zrJ t1)
  · intros;trivial
  · intros;trivial
  · intro step1 zqs hstep1 hrunO L ops fr h r hv t ht
    split at hv
    · obtain rfl:=Option.some.inj hv;rfl
    · rename_i i rest
      obtain ⟨t1,t2⟩:=zx3 ht
      split at hv
      · obtain ⟨r1,hr1,hv⟩:=bind_some hv
        exact (hrunO _ _ _ _ _ hv t t2).trans (zrJ t1)
      · exact (hrunO _ _ _ _ _ hv t t2).trans (zrJ t1)
theorem zaf (cs:List zaa) (n:Nat) (h:(cs.length==n)=true):zeb true cs 0 n=some (.agg cs):=zxG (by simpa using h)
theorem zbF (L:Lim) (h:zab) (cs:List zaa) (n:Nat) (p:zaa) (hn:(cs.length==n)=true):stK L h n p (.agg cs)=stM (zcx L h p cs):=zLx h L p (by simpa using hn)
theorem zah (cs old:List zaa) (h:(old.length==cs.length)=true):setAt old 0 cs=cs:=zBW (by simpa using h)
theorem zOA (k:IntKind) (a b:Int) (h:(decide (0≤b)&&decide (b≤k.bits))=true):zkP .shr k a b=some (.int k (a.fdiv (2 ^ b.toNat))):=by
  simp only [Bool.and_eq_true,decide_eq_true_eq] at h
  unfold zkP
  rw [if_neg (by omega),Nat.min_eq_left (by omega)]
theorem zSb (k:IntKind) (a b:Int) (h:(decide (0≤b)&&decide (b≤k.bits))=true):zkP .shl k a b=some (.int k (k.wrap (a*2 ^ b.toNat))):=by
  simp only [Bool.and_eq_true,decide_eq_true_eq] at h
  unfold zkP
  rw [if_neg (by omega),Nat.min_eq_left (by omega)]
@[simp] theorem wrap_zero (k:IntKind):k.wrap 0=0:=by cases k <;> decide
theorem wrap_i64 {n:Int} (h1: -9223372036854775808≤n) (h2:n≤9223372036854775807):IntKind.i64.wrap n=n:=by
  simp [IntKind.wrap,IntKind.signed,IntKind.bits];omega
theorem wrap_u64 {n:Int} (h1:0≤n) (h2:n≤18446744073709551615):IntKind.u64.wrap n=n:=by
  simp [IntKind.wrap,IntKind.signed,IntKind.bits];omega
theorem wrap_u8 {n:Int} (h1:0≤n) (h2:n≤255):IntKind.u8.wrap n=n:=by
  simp [IntKind.wrap,IntKind.signed,IntKind.bits];omega
def Ends {α:Type} (x:Option α) (P:α→Prop):Prop:=∃ r,x=some r∧P r
@[simp] theorem zOB {α:Type} (r:α) (P:α→Prop):Ends (some r) P↔P r:=by simp [Ends]
@[congr] theorem zMr {α:Type} {x y:Option α} (P:α→Prop) (h:x=y):Ends x P=Ends y P:=by rw [h]
def zzu (N k:Nat) (I:Nat→Fr→zab→Prop) (zty:AEx→Fr→zab→Prop) (r:AEx × Fr × zab):Prop:=
  match r.1 with
  | .normal=>k < N∧I (k+1) r.2.1 r.2.2
  | e=>zty e r.2.1 r.2.2
@[simp] theorem zqT (N k:Nat) (I:Nat→Fr→zab→Prop) (zty:AEx→Fr→zab→Prop) (fr:Fr) (h:zab):zzu N k I zty (.normal,fr,h)↔(k < N∧I (k+1) fr h):=by unfold zzu;exact Iff.rfl
@[simp] theorem zMs (N k:Nat) (I:Nat→Fr→zab→Prop) (zty:AEx→Fr→zab→Prop) (i:Nat) (fr:Fr) (h:zab):zzu N k I zty (.exit i,fr,h)↔zty (.exit i) fr h:=by unfold zzu;exact Iff.rfl
@[simp] theorem zOC (N k:Nat) (I:Nat→Fr→zab→Prop) (zty:AEx→Fr→zab→Prop) (fr:Fr) (h:zab):zzu N k I zty (.ret,fr,h)↔zty .ret fr h:=by unfold zzu;exact Iff.rfl
theorem zaj {C:Ctx} {L:Lim} {B:AC} {fr0:Fr} {h0:zab} {R:Option (AEx × Fr × zab)} (hF:run C L (.loop B) fr0 h0=R) (N:Nat) (I:Nat→Fr→zab→Prop) (zty:AEx→Fr→zab→Prop) (hI:I 0 fr0 h0)
    (step:∀ k fr h,k≤N→(∀ t,t∉wr B→fr t=fr0 t)→I k fr h→Ends (run C L B fr h) (zzu N k I zty)):
    ∃ e fr h,R=some (e,fr,h)∧zty e fr h∧(∀ t,t∉wr B→fr t=fr0 t):=by
  subst hF
  have key:∀ m k fr h,N - k=m→k≤N→(∀ t,t∉wr B→fr t=fr0 t)→I k fr h→
      ∃ e fr' h',run C L (.loop B) fr h=some (e,fr',h')∧zty e fr' h'∧(∀ t,t∉wr B→fr' t=fr0 t):=by
    intro m
    induction m with
    | zero=>
      intro k fr h hm hk hkeep hi
      obtain ⟨⟨e,fr1,h1⟩,hr,hp⟩:=step k fr h hk hkeep hi
      have hkp:=zAL hr
      rw [zr7,hr]
      cases e with
      | normal=>have:=(zqT N k I zty fr1 h1).1 hp;omega
      | exit i=>exact ⟨_,_,_,rfl,hp,fun t ht=>(hkp t ht).trans (hkeep t ht)⟩
      | goto l=>exact ⟨_,_,_,rfl,hp,fun t ht=>(hkp t ht).trans (hkeep t ht)⟩
      | ret=>exact ⟨_,_,_,rfl,hp,fun t ht=>(hkp t ht).trans (hkeep t ht)⟩
    | succ m ih=>
      intro k fr h hm hk hkeep hi
      obtain ⟨⟨e,fr1,h1⟩,hr,hp⟩:=step k fr h hk hkeep hi
      have hkp:=zAL hr
      rw [zr7,hr]
      cases e with
      | normal=>
        have:=(zqT N k I zty fr1 h1).1 hp
        exact ih (k+1) fr1 h1 (by omega) (by omega) (fun t ht=>(hkp t ht).trans (hkeep t ht)) this.2
      | exit i=>exact ⟨_,_,_,rfl,hp,fun t ht=>(hkp t ht).trans (hkeep t ht)⟩
      | goto l=>exact ⟨_,_,_,rfl,hp,fun t ht=>(hkp t ht).trans (hkeep t ht)⟩
      | ret=>exact ⟨_,_,_,rfl,hp,fun t ht=>(hkp t ht).trans (hkeep t ht)⟩
  exact key N 0 fr0 h0 rfl (Nat.zero_le _) (fun _ _=>rfl) hI
def gL (s:zaa) (n i:Nat) (es:List (List zaa)):zaa:=if es=[] then s else gA n i es
def gT (es:List (List zaa)):List Nat:=if es=[] then [] else [es.length]
theorem zOy {C:Ctx} {fr:Fr} {L:Lim} {h:zab} {bs:List (List zaa)} {sz:Nat} {x y:AO} {s:zaa} {es ys:List (List zaa)} (hs:s=.nsl∨s=.vsl true [])
    (hx':C.ev fr x=gL s h.toks.length 0 es) (hy:zay (hx h bs (gT es)) sz (C.ev fr y)=some ys) (hstr:zeo sz (C.ev fr y)=true)
    (hsz:zeH sz ys=true) (hse:zeH sz es=true) (hr:L.rot≤h.toks.length) (hroom:es.length+ys.length < zat):
    zhZ C L fr (hx h bs (gT es)) (.app sz false x y)=some (gL s h.toks.length 0 (es++ys),hx h bs (gT (es++ys))):=by
  simp only [zhZ,bind,hy,Option.bind_some,hstr,if_true]
  rw [hx']
  unfold zCr
  rw [if_pos hsz]
  by_cases he:es=[]
  · subst he
    have h1:gL s h.toks.length 0 []=s:=by simp [gL]
    rw [h1]
    by_cases hy0:ys=[]
    · subst hy0
      rcases hs with rfl | rfl <;> simp [gL,gT,zeH]
    · have hroom' : ys.length < zat := by simpa using hroom
      rcases hs with rfl | rfl <;> simp [gL,gT,zeH,hy0,hroom',zeD,gA,hx,ptok]
  · have h1 : gL s h.toks.length 0 es = gA h.toks.length 0 es := by simp [gL, he]
    rw [h1]
    have h2:gT es=[es.length]:=by simp [gT,he]
    have h3:gL s h.toks.length 0 (es++ys)=gA h.toks.length 0 (es++ys):=by simp [gL,he]
    have h4:gT (es++ys)=[es.length+ys.length]:=by simp [gT,he]
    rw [h3,h2,h4]
    simp only [gA,Nat.add_zero]
    have h5:(hx h bs [es.length]).toks[h.toks.length]?=some es.length:=by simp [hx]
    rw [if_pos ⟨trivial,he,hse,hr,h5,hroom⟩]
    simp [hx]
def zrI (L:Lim) (h:zab) (sz:Nat) (ref:Bool) (x y:zaa):Option (zaa × zab):=
  (zay h sz y).bind fun ys=>if zeo sz y=true then zCr L ref sz h x ys else none
@[simp] theorem zIl (C:Ctx) (fr:Fr) (L:Lim) (h:zab) (sz:Nat) (ref:Bool) (x y:AO):zhZ C L fr h (.app sz ref x y)=zrI L h sz ref (C.ev fr x) (C.ev fr y):=by
  simp only [zhZ,zrI,bind]
theorem zFh {L:Lim} {h:zab} {bs:List (List zaa)} {sz:Nat} {s y:zaa} {es ys:List (List zaa)} (hs:s=.nsl∨s=.vsl true [])
    (hy:zay (hx h bs (gT es)) sz y=some ys) (hstr:zeo sz y=true) (hsz:zeH sz ys=true) (hse:zeH sz es=true) (hr:L.rot≤h.toks.length) (hroom:es.length+ys.length < zat):
    zrI L (hx h bs (gT es)) sz false (gL s h.toks.length 0 es) y=some (gL s h.toks.length 0 (es++ys),hx h bs (gT (es++ys))):=by
  let C:Ctx:={fns:=fun _=>none,mode:=fun _=>Mode.pure,glob:=fun _=>none,meth:=fun _ _=>none,ext:=fun _=>none}
  have:=zOy (C:=C) (fr:=fun _=>zaK) (x:=.k (gL s h.toks.length 0 es)) (y:=.k y) hs rfl hy hstr hsz hse hr hroom
  rw [zIl] at this
  exact this
theorem zqq (L:Lim) (h:zab) (bs:List (List zaa)) (sz:Nat) (c:Bool) (es ys:List (List zaa))
    (hc:(zeH sz ys&&zeH sz es&&decide (L.rot≤h.toks.length)&&decide (es.length+ys.length < zat))=true):
    zrI L (hx h bs (gT es)) sz false (gL .nsl h.toks.length 0 es) (.vsl c ys)=some (gL .nsl h.toks.length 0 (es++ys),hx h bs (gT (es++ys))):=by
  simp only [Bool.and_eq_true,decide_eq_true_eq] at hc
  exact zFh (.inl rfl) (by simp only [zay]) (by simp only [zeo]) hc.1.1.1 hc.1.1.2 hc.1.2 hc.2
theorem zxW (L:Lim) (h:zab) (bs:List (List zaa)) (ts:List Nat) (sz:Nat) (c:Bool) (es ys:List (List zaa))
    (hc:(zeH sz ys&&zeH sz es&&decide (es.length+ys.length < zat)&&decide (0 < ys.length))=true):
    zrI L (hx h bs ts) sz false (.vsl true es) (.vsl c ys)=some (gA h.toks.length ts.length (es++ys),hx h bs (ts++[es.length+ys.length])):=by
  simp only [Bool.and_eq_true,decide_eq_true_eq] at hc
  have hy:ys≠[]:=fun e=>by have:=hc.2;simp [e] at this
  simp [zrI,zay,zeo,zCr,hc.1.1.1,hc.1.1.2,hc.1.2,hy,zeD,gA,hx,ptok]
theorem zE9 (L:Lim) (h:zab) (bs:List (List zaa)) (ts:List Nat) (sz i:Nat) (c:Bool) (es ys:List (List zaa))
    (hc:(zeH sz ys&&zeH sz es&&decide (es.length+ys.length < zat)&&decide (0 < es.length)&&decide (L.rot≤h.toks.length)&&(ts[i]?==some es.length))=true):
    zrI L (hx h bs ts) sz false (gA h.toks.length i es) (.vsl c ys)=some (gA h.toks.length i (es++ys),hx h bs (ts.set i (es.length+ys.length))):=by
  simp only [Bool.and_eq_true,decide_eq_true_eq,beq_iff_eq] at hc
  obtain ⟨⟨⟨⟨⟨c1,c2⟩,c3⟩,c4⟩,c5⟩,c6⟩:=hc
  have he:es≠[]:=fun e=>by simp [e] at c4
  have h5:(hx h bs ts).toks[h.toks.length+i]?=some es.length:=by
    simp only [hx];rw [List.getElem?_append_right (Nat.le_add_right _ _),Nat.add_sub_cancel_left];exact c6
  simp only [zrI,zay,zeo,zCr,gA,c1,c2,Option.bind_some,if_true]
  rw [if_pos ⟨trivial,he,by trivial,by omega,h5,c3⟩]
  simp only [hx]
  rw [List.set_append_right _ _ (Nat.le_add_right _ _),Nat.add_sub_cancel_left]
theorem zpo {h1:zab} {nb nt n:Nat} {s:zaa} {es:List (List zaa)} (hs:s=.nsl∨s=.vsl true []) (he:zax nb nt es=true):frz h1 nb nt (n+1) (gL s nt 0 es)=some (.vsl false es):=by
  unfold gL
  split
  · rename_i h0
    subst h0
    rcases hs with rfl | rfl
    · simp
    · exact zhF h1 nb nt n true (by simp [zax])
  · exact zyw h1 nb nt n (by simp) he
end Go.Av
namespace Go.Av
def eI (k:IntKind) (l:List Int):List (List zaa):=l.map fun n=>[.int k n]
@[simp] theorem zOw (k:IntKind) (l:List Int):(eI k l).length=l.length:=by simp [eI]
@[simp] theorem zLm (k:IntKind) (l:List Int):zeH 1 (eI k l)=true:=by cases l <;> simp [eI,zeH]
@[simp] theorem zv6 (k:IntKind) (nb nt:Nat):∀ l:List Int,zax nb nt (eI k l)=true
  | []=>by simp [eI,zax]
  | x :: l => by
    have:=zv6 k nb nt l
    simp only [eI] at this
    simp [eI,zax,zap,zaa.under,this]
@[simp] theorem zOx (k:IntKind) (l m:List Int):eI k l++eI k m=eI k (l++m):=by simp [eI]
theorem zJk (k:IntKind) (l:List Int) (i:Nat):(eI k l)[i]?=(l[i]?).map fun n=>[.int k n]:=by simp [eI]
theorem zii (k:IntKind) (n:Int):[[zaa.int k n]]=eI k [n]:=rfl
theorem zs9 (k:IntKind) (n:Int) (l:List Int):[zaa.int k n] :: eI k l=eI k (n :: l):=rfl
@[simp] theorem zJl (k:IntKind):eI k []=[]:=rfl
def bts (s:ByteArray):List Int:=s.data.toList.map fun b=>(b.toNat:Int)
theorem zLn (s:ByteArray):(s.data.toList.map fun b=>[zaa.int .u8 b.toNat])=eI .u8 (bts s):=by unfold bts eI;rw [List.map_map];rfl
@[simp] theorem zQ0 (s:ByteArray):(bts s).length=s.size:=by unfold bts;rw [List.length_map];rfl
@[simp] theorem zO6 (sz:Nat) (x:List zaa):zeH sz [x]=(x.length==sz):=rfl
abbrev zPw:Mode:=⟨false,false,false,true⟩
section
variable (L:Lim) (h:zab) (bs:List (List zaa)) (ts:List Nat)
def zu1 (h:zab) (t n:Nat):zab:=⟨h.blks,h.toks.set t n⟩
@[simp] theorem zOc (t n:Nat):(zu1 h t n).blks=h.blks:=rfl
@[simp] theorem zPO (t n:Nat):(zu1 h t n).toks.length=h.toks.length:=by simp [zu1]
@[simp] theorem zzE:zdW (hx h bs ts) h.blks.length h.toks.length=h:=by simp [zdW,hx]
@[simp] theorem zMY (args:List zaa):ziu zPw h args=some (args,false):=by simp [ziu]
@[simp] theorem zMZ:zc3 zPw L h=⟨L.rob,L.rot,h.blks.length,h.toks.length⟩:=by simp [zc3]
theorem zGL (es:List (List zaa)) (hu:(zax h.blks.length h.toks.length es&&(ts[0]?==some es.length))=true):
    ztz zPw h (hx h bs ts) (gA h.toks.length 0 es)=some (.gsl h.toks.length es,ptok h es.length):=by
  simp only [Bool.and_eq_true,beq_iff_eq] at hu
  obtain ⟨u1,u2⟩:=hu
  have h5:(hx h bs ts).toks[h.toks.length]?=some es.length:=by
    simp only [hx];rw [List.getElem?_append_right (Nat.le_refl _),Nat.sub_self];exact u2
  unfold ztz
  simp only [gA,Nat.add_zero,h5,u1,zzE]
  simp
theorem zGF (t:Nat) (es:List (List zaa)) (h':zab) (hl:h'.blks.length=h.blks.length∧h'.toks.length=h.toks.length) (ht:t < h.toks.length) (hu:zax h.blks.length h.toks.length es=true):
    ztz zPw h (hx h' bs ts) (.gsl t es)=some (.gsl t es,h'):=by
  have e:zdW (hx h' bs ts) h.blks.length h.toks.length=h':=by rw [← hl.1,← hl.2];exact zzE h' bs ts
  unfold ztz
  simp only [e]
  have hnot:¬h.toks.length≤t:=by omega
  simp [hnot,frz,zCB,hu,ht]
theorem zGA (sz t:Nat) (c:Bool) (es ys:List (List zaa)) (ht:h.toks[t]?=some es.length)
    (hc:(zeH sz ys&&zeH sz es&&decide (es.length+ys.length < zat)&&decide (0 < es.length)&&decide (L.rot≤t))=true):
    zrI L (hx h bs ts) sz false (.gsl t es) (.vsl c ys)=some (.gsl t (es++ys),hx (zu1 h t (es.length+ys.length)) bs ts):=by
  simp only [Bool.and_eq_true,decide_eq_true_eq] at hc
  obtain ⟨⟨⟨⟨c1,c2⟩,c3⟩,c4⟩,c5⟩:=hc
  have he:es≠[]:=fun e=>by simp [e] at c4
  have hlt:=(List.getElem?_eq_some_iff.1 ht).1
  have h5:(hx h bs ts).toks[t]?=some es.length:=by
    simp only [hx];rw [List.getElem?_append_left hlt];exact ht
  simp only [zrI,zay,zeo,zCr,c1,c2,Option.bind_some,if_true]
  rw [if_pos ⟨trivial,he,by trivial,c5,h5,c3⟩]
  simp only [hx,zu1]
  rw [List.set_append_left _ _ hlt]
theorem zGC (i:Nat) (es:List Int) (s:ByteArray)
    (hc:(decide (es.length+s.size < zat)&&decide (0 < es.length)&&decide (L.rot≤h.toks.length)&&(ts[i]?==some es.length))=true):
    zrI L (hx h bs ts) 1 false (gA h.toks.length i (eI .u8 es)) (.str s)=some (gA h.toks.length i (eI .u8 (es++bts s)),hx h bs (ts.set i (es.length+s.size))):=by
  have hs:zrI L (hx h bs ts) 1 false (gA h.toks.length i (eI .u8 es)) (.str s)=zrI L (hx h bs ts) 1 false (gA h.toks.length i (eI .u8 es)) (.vsl false (eI .u8 (bts s))):=by
    simp [zrI,zay,zeo,zLn]
  have h1:=zE9 L h bs ts 1 i false (eI .u8 es) (eI .u8 (bts s)) (by simpa using hc)
  rw [hs,h1]
  simp
theorem zJR (n:Nat):ptok (hx h bs ts) n=hx h bs (ts++[n]):=by simp [ptok,hx]
theorem zak:(hx h bs ts).toks.length=h.toks.length+ts.length:=by simp [hx]
theorem zan:(hx h bs ts).blks.length=h.blks.length+bs.length:=by simp [hx]
theorem zLu (i n:Nat):zu1 (hx h bs ts) (h.toks.length+i) n=hx h bs (ts.set i n):=by
  simp only [zu1,hx]
  rw [List.set_append_right _ _ (Nat.le_add_right _ _),Nat.add_sub_cancel_left]
end
end Go.Av
namespace Go.Av
def tab {α:Type} (n:Nat) (f:Nat→α):List α:=(List.range n).map f
@[simp] theorem zzl {α:Type} (n:Nat) (f:Nat→α):(tab n f).length=n:=by simp [tab]
theorem ziK {α:Type} (n:Nat) (f:Nat→α) (i:Nat):(tab n f)[i]?=if i < n then some (f i) else none:=by
  unfold tab
  by_cases h:i < n
  · rw [List.getElem?_map,List.getElem?_range h,if_pos h];rfl
  · rw [if_neg h];simp;omega
theorem zOh {α:Type} {n:Nat} {f:Nat→α} {i:Nat} (h:i < n):(tab n f)[i]?=some (f i):=by rw [ziK,if_pos h]
theorem zfA {α:Type} {n:Nat} {f g:Nat→α} (h:∀ i,i < n→f i=g i):tab n f=tab n g:=by
  unfold tab;exact List.map_congr_left fun i hi=>h i (by simpa using hi)
theorem zvX {α : Type} (n : Nat) (f : Nat → α) (i : Nat) (v : α) : (tab n f).set i v = tab n (fun j => if j = i then v else f j) := by
  refine List.ext_getElem? fun j=>?_
  rw [List.getElem?_set,zzl,ziK,ziK]
  by_cases h:i=j
  · subst h;simp
  · simp [h,Ne.symm h]
theorem zAy {α : Type} (l : List α) (d : α) : tab l.length (fun i => l.getD i d) = l := by
  refine List.ext_getElem? fun j=>?_
  rw [ziK]
  by_cases h:j < l.length
  · rw [if_pos h,List.getElem?_eq_getElem h];simp [List.getD,h]
  · rw [if_neg h,List.getElem?_eq_none (by omega)]
theorem zET {α:Type} {l:List α} {n:Nat} (d:α) (h:l.length=n):l=tab n (fun i=>l.getD i d):=by subst h;exact (zAy l d).symm
theorem zH7 {α:Type} {n:Nat} {f:Nat→α} {i:Nat} {d:α} (h:i < n):(tab n f).getD i d=f i:=by
  rw [List.getD,zOh h];rfl
theorem zEU {α β : Type} (n : Nat) (f : Nat → α) (g : α → β) : (tab n f).map g = tab n (fun i => g (f i)) := by
  simp [tab,Function.comp_def]
theorem zAA {α : Type} (x : α) (n : Nat) : zaV x n = tab n (fun _ => x) := by
  refine List.ext_getElem? fun j=>?_
  have key:∀ n j:Nat,(zaV x n)[j]?=if j < n then some x else none:=by
    intro n
    induction n with
    | zero=>intro j;simp [zaV]
    | succ n ih=>
      intro j
      cases j with
      | zero=>simp [zaV]
      | succ j=>simp only [zaV,List.getElem?_cons_succ,ih];simp
  rw [key,ziK]
def gd {α:Type} (l:List α) (d:α) (i:Nat):α:=l.getD i d
theorem zkQ {α:Type} {n:Nat} {f:Nat→α} {i:Nat} {d:α} (h:i < n):gd (tab n f) d i=f i:=zH7 h
theorem zJe {α:Type} (l:List α) (d:α):tab l.length (gd l d)=l:=zAy l d
theorem zEV {α:Type} {l:List α} {n:Nat} (d:α) (h:l.length=n):l=tab n (gd l d):=zET d h
theorem zql {α:Type} {l:List α} {i:Nat} {d:α} (h:i < l.length):l[i]?=some (gd l d i):=by
  unfold gd;simp [List.getD,h]
def zCA {α:Type} (n:Nat) (f g:Nat→α) (k:Nat):List α:=tab n fun j=>if j < k then f j else g j
@[simp] theorem zPR {α:Type} (n:Nat) (f g:Nat→α) (k:Nat):(zCA n f g k).length=n:=by simp [zCA]
theorem zH8 {α:Type} (n:Nat) (f g:Nat→α) (k:Nat):(zCA n f g k).set k (f k)=zCA n f g (k+1):=by
  unfold zCA
  rw [zvX]
  refine zfA fun j hj=>?_
  by_cases h1:j=k
  · subst h1;simp
  · by_cases h2:j < k
    · rw [if_neg h1,if_pos h2,if_pos (by omega)]
    · rw [if_neg h1,if_neg h2,if_neg (by omega)]
theorem zEW {α:Type} (n:Nat) (f g:Nat→α):zCA n f g 0=tab n g:=zfA fun j hj=>by simp
theorem zH9 {α:Type} (n:Nat) (f g:Nat→α):zCA n f g n=tab n f:=zfA fun j hj=>by simp [hj]
theorem zK9 {α:Type} {n:Nat} {f g:Nat→α} {k:Nat} {d:α} (h:k < n):gd (zCA n f g k) d k=g k:=by
  unfold zCA;rw [zkQ h];simp
abbrev W64:=BitVec 64
def wd (x:W64):zaa:=.int .u64 x.toNat
def cW (l:List W64):List zaa:=l.map wd
def cB (l:List Bool):List zaa:=l.map zaa.bool
def cI (k:IntKind) (l:List Int):List zaa:=l.map fun n=>.int k n
@[simp] theorem zRM (l:List W64):(cW l).length=l.length:=by simp [cW]
@[simp] theorem zJg (k:IntKind) (l:List Int):(cI k l).length=l.length:=by simp [cI]
theorem zs0:∀ {l:List zaa},zck l=true↔∀ c∈l,c.flat=true
  | []=>by simp [zck]
  | c :: cs=>by simp [zck,zs0 (l:=cs)]
@[simp] theorem zv0 (l : List W64) : zck (cW l) = true := zs0.2 fun c h => by
  simp only [cW,List.mem_map] at h;obtain ⟨x,_,rfl⟩:=h;rfl
@[simp] theorem zE1 (k : IntKind) (l : List Int) : zck (cI k l) = true := zs0.2 fun c h => by
  simp only [cI,List.mem_map] at h;obtain ⟨x,_,rfl⟩:=h;rfl
theorem zIe {l:List W64} {i:Nat} (h:i < l.length):(cW l)[i]?=some (wd (gd l 0#64 i)):=by
  simp [cW,gd,List.getD,h]
theorem zOk (l:List W64) (i:Nat) (h:decide (i < l.length)=true):(cW l)[i]?=some (wd (gd l 0#64 i)):=zIe (by simpa using h)
@[simp] theorem zQR (l:List W64) (i:Nat) (h:i < (cW l).length):(cW l)[i]=wd (gd l 0#64 i):=by
  have:=zIe (l:=l) (i:=i) (by simpa using h)
  rw [List.getElem?_eq_getElem h] at this
  exact Option.some.inj this
@[simp] theorem zRO (l:List W64) (i:Nat) (x:W64):(cW l).set i (wd x)=cW (l.set i x):=by simp [cW,List.map_set]
@[simp] theorem zOl (k:IntKind) (l:List Int) (i:Nat) (x:Int):(cI k l).set i (.int k x)=cI k (l.set i x):=by simp [cI,List.map_set]
@[simp] theorem zQS (l:List W64) (n:Nat):(cW l).take n=cW (l.take n):=by simp [cW]
@[simp] theorem zQT (l:List W64) (n:Nat):(cW l).drop n=cW (l.drop n):=by simp [cW]
theorem zbk (n:Nat):zaV (.int .u64 0) n=cW (tab n fun _=>0#64):=by rw [zAA,cW,zEU];rfl
theorem zgL (k:IntKind) (x:Int) (n:Nat):zaV (.int k x) n=cI k (tab n fun _=>x):=by rw [zAA,cI,zEU]
@[simp] theorem zPS (x:W64):(wd x).cells=[wd x]:=rfl
@[simp] theorem zRP (x:W64):(wd x).okV=true:=rfl
@[simp] theorem zQU (x:W64):(wd x).flat=true:=rfl
@[simp] theorem zRQ (x:W64):asI (wd x)=some (x.toNat:Int):=rfl
theorem zOr (n:Nat) (h:n < 18446744073709551616):zaa.int .u64 (n:Int)=wd (BitVec.ofNat 64 n):=by
  unfold wd;rw [BitVec.toNat_ofNat,Nat.mod_eq_of_lt (by simpa using h)]
theorem zzq (n:Nat) (h:n < 18446744073709551616):IntKind.u64.wrap (n:Int)=n:=wrap_u64 (by omega) (by omega)
theorem zdV (x:W64):BitVec.ofInt 64 (x.toNat:Int)=x:=by
  apply BitVec.eq_of_toNat_eq
  rw [BitVec.toNat_ofInt]
  have:=x.isLt
  omega
theorem zAG (x:W64):x.toNat < 18446744073709551616:=x.isLt
@[simp] theorem zRR (x y:W64):zew .xor (wd x) (wd y)=some (wd (x ^^^ y)):=by
  unfold wd
  rw [zKR]
  show some (zaa.int .u64 (IntKind.u64.wrap ((BitVec.ofInt 64 (x.toNat:Int) ^^^ BitVec.ofInt 64 (y.toNat:Int):BitVec 64).toNat:Int)))=_
  rw [zdV,zdV,zzq _ (zAG _)]
@[simp] theorem zpn (x y:W64):zew .and (wd x) (wd y)=some (wd (x&&&y)):=by
  unfold wd
  rw [zlZ]
  show some (zaa.int .u64 (IntKind.u64.wrap ((BitVec.ofInt 64 (x.toNat:Int)&&&BitVec.ofInt 64 (y.toNat:Int):BitVec 64).toNat:Int)))=_
  rw [zdV,zdV,zzq _ (zAG _)]
@[simp] theorem zSa (x y:W64):zew .or (wd x) (wd y)=some (wd (x|||y)):=by
  unfold wd
  rw [zED]
  show some (zaa.int .u64 (IntKind.u64.wrap ((BitVec.ofInt 64 (x.toNat:Int)|||BitVec.ofInt 64 (y.toNat:Int):BitVec 64).toNat:Int)))=_
  rw [zdV,zdV,zzq _ (zAG _)]
@[simp] theorem zOs (x y:W64):zew .andNot (wd x) (wd y)=some (wd (x&&&~~~ y)):=by
  unfold wd
  rw [zBR]
  show some (zaa.int .u64 (IntKind.u64.wrap ((BitVec.ofInt 64 (x.toNat:Int)&&&~~~ (BitVec.ofInt 64 (y.toNat:Int)):BitVec 64).toNat:Int)))=_
  rw [zdV,zdV,zzq _ (zAG _)]
theorem zfC (n:Int):IntKind.u64.wrap n=n % 18446744073709551616:=by
  unfold IntKind.wrap
  simp [IntKind.signed,IntKind.bits]
@[simp] theorem zRT (x y:W64):zew .add (wd x) (wd y)=some (wd (x+y)):=by
  unfold wd
  rw [zKM,zfC,BitVec.toNat_add,Int.natCast_emod,Int.natCast_add];rfl
@[simp] theorem zRU (x y:W64):zew .mul (wd x) (wd y)=some (wd (x*y)):=by
  unfold wd
  rw [zKN,zfC,BitVec.toNat_mul,Int.natCast_emod,Int.natCast_mul];rfl
@[simp] theorem zOu (x y:W64):zew .sub (wd x) (wd y)=some (wd (x - y)):=by
  unfold wd
  rw [zzf,zfC]
  congr 2
  have h1:=x.isLt
  have h2:=y.isLt
  rw [BitVec.toNat_sub]
  omega
theorem zxY (x:W64) (k:IntKind) (n:Nat) (h:decide (n≤64)=true):zew .shl (wd x) (.int k (n:Int))=some (wd (x <<< n)):=by
  have h':n≤64:=by simpa using h
  unfold wd
  rw [zl0,zSb _ _ _ (by simp only [show ((IntKind.u64.bits:Nat):Int)=64 from rfl,Bool.and_eq_true,decide_eq_true_eq];exact ⟨Int.natCast_nonneg n,by omega⟩)]
  rw [zfC,BitVec.toNat_shiftLeft,Int.toNat_natCast,Nat.shiftLeft_eq,Int.natCast_emod,Int.natCast_mul,Int.natCast_pow];rfl
theorem znj (x:W64) (k:IntKind) (n:Nat) (h:decide (n≤64)=true):zew .shr (wd x) (.int k (n:Int))=some (wd (x >>> n)):=by
  have h':n≤64:=by simpa using h
  unfold wd
  rw [zdO,zOA _ _ _ (by simp only [show ((IntKind.u64.bits:Nat):Int)=64 from rfl,Bool.and_eq_true,decide_eq_true_eq];exact ⟨Int.natCast_nonneg n,by omega⟩)]
  rw [BitVec.toNat_ushiftRight,Int.toNat_natCast,Nat.shiftRight_eq_div_pow,Int.fdiv_eq_ediv_of_nonneg _ (by exact Int.pow_nonneg (by decide)),Int.natCast_ediv,Int.natCast_pow];rfl
def bw (n:Int):W64:=BitVec.ofInt 64 n
@[simp] theorem zRV (k:IntKind) (n:Int):zMz .u64 (.int k n)=some (wd (bw n)):=by
  rw [zd6,zfC]
  unfold wd bw
  congr 2
  rw [BitVec.toNat_ofInt]
  omega
theorem zFe (h:zab) (nb nt n i:Nat) (es:List (List zaa)) (he:zax nb nt es=true):frz h nb nt (n+1) (gA nt i es)=some (.vsl false es):=zyw h nb nt n (by simp) he
@[simp] theorem zRW (h:zab) (nb nt n i:Nat) (k:IntKind) (l:List Int):frz h nb nt (n+1) (gA nt i (eI k l))=some (.vsl false (eI k l)):=zFe h nb nt n i _ (by simp)
@[simp] theorem zQX (h:zab) (nb nt n:Nat) (c:Bool) (k:IntKind) (l:List Int):frz h nb nt (n+1) (.vsl c (eI k l))=some (.vsl false (eI k l)):=zhF h nb nt n c (by simp)
@[simp] theorem zRX (h:zab) (nb nt n:Nat) (x:W64):frz h nb nt (n+1) (wd x)=some (wd x):=by unfold wd;simp
@[simp] theorem zRY (h:zab) (x:W64):fzA h (wd x)=some (wd x,false):=by unfold wd;simp
@[simp] theorem zRZ (h:zab) (nb nt n:Nat) (l:List W64):frz h nb nt (n+1) (.agg (cW l))=some (.agg (cW l)):=zjS h nb nt n (zv0 l)
@[simp] theorem zR0 (h:zab) (nb nt n:Nat) (k:IntKind) (l:List Int):frz h nb nt (n+1) (.agg (cI k l))=some (.agg (cI k l)):=zjS h nb nt n (zE1 k l)
@[simp] theorem zR1 (h:zab) (l:List W64):fzA h (.agg (cW l))=some (.agg (cW l),false):=zwl h (zv0 l)
@[simp] theorem zR2 (h:zab) (k:IntKind) (l:List Int):fzA h (.agg (cI k l))=some (.agg (cI k l),false):=zwl h (zE1 k l)
@[simp] theorem zR3 (L:Lim) (h:zab) (p:zaa) (x:W64):stK L h 1 p (wd x)=stM (zcx L h p [wd x]):=by simp [stK]
@[simp] theorem zQ1 (x:W64):znl (wd x)=some (.vptr [wd x] 0):=rfl
theorem zgb (n sz m i off k:Nat) (kd:IntKind) (h:decide (k < n)=true):zbP (some n) sz (pA m i off) (.int kd (k:Int))=some (pA m i (off+k*sz)):=by
  have:k < n:=by simpa using h
  simp [zbP,asI,pA,this]
theorem ztb (n sz off k:Nat) (cs:List zaa) (kd:IntKind) (h:decide (k < n)=true):zbP (some n) sz (.vptr cs off) (.int kd (k:Int))=some (.vptr cs (off+k*sz)):=by
  have:k < n:=by simpa using h
  simp [zbP,asI,this]
@[simp] theorem zPV (n sz m i off:Nat) (kd:IntKind):zbP (some (n+1)) sz (pA m i off) (.int kd 0)=some (pA m i off):=by simp [zbP,asI,pA]
@[simp] theorem zPW (n sz off:Nat) (cs:List zaa) (kd:IntKind):zbP (some (n+1)) sz (.vptr cs off) (.int kd 0)=some (.vptr cs off):=by simp [zbP,asI]
theorem ztc (n i off sz len k:Nat) (cap:Option Nat) (kd:IntKind) (h:decide (k < len)=true):zbP none sz (sA n i off sz len cap) (.int kd (k:Int))=some (pA n i (off+k*sz)):=by
  have:k < len:=by simpa using h
  simp [zbP,asI,sA,pA,this]
theorem zzs (n k:Nat) (g:Bool) (cs:List zaa) (sz:Nat) (kd:IntKind) (h:decide (k < n)=true):zQa n sz g (.agg cs) (.int kd (k:Int))=zeb g cs (k*sz) sz:=by
  have:k < n:=by simpa using h
  unfold zQa;simp [this]
theorem zzt (k' kd:IntKind) (c:Bool) (l:List Int) (i:Nat) (h:decide (i < l.length)=true):zbP none 1 (.vsl c (eI k' l)) (.int kd (i:Int))=some (.vptr [.int k' (gd l 0 i)] 0):=by
  have h':i < l.length:=by simpa using h
  simp [zbP,asI,zJk,h',gd,List.getD]
@[simp] theorem zQ2 (n i off sz len:Nat) (cap:Option Nat):zwy (sA n i off sz len cap)=some len:=rfl
@[simp] theorem zQ5 (n i:Nat) (es:List (List zaa)):zwy (gA n i es)=some es.length:=rfl
@[simp] theorem zR4 (L:Lim) (h:zab) (p:zaa) (n i off sz len:Nat) (cap:Option Nat):stK L h 1 p (sA n i off sz len cap)=stM (zcx L h p [sA n i off sz len cap]):=by simp [stK,sA,zaa.cells,zaa.okV]
section
variable (L:Lim) (h:zab) (bs:List (List zaa)) (ts:List Nat)
theorem zmv : ∀ (n : Nat) (cs : List zaa), cs.length = n → chunks 1 n cs = cs.map fun c => [c]
  | 0,[],_=>rfl
  | n+1,c :: cs,h=>by simp [chunks,zmv n cs (by simpa using h)]
theorem zv7 (i n : Nat) (cs : List zaa) (cap : Option Nat) (hb : bs[i]? = some cs) (hl : cs.length = n) : zay (hx h bs ts) 1 (sA h.blks.length i 0 1 n cap) = some (cs.map fun c => [c]) := by
  simp only [zay,sA,hx]
  rw [List.getElem?_append_right (Nat.le_add_right _ _),Nat.add_sub_cancel_left,hb]
  simp [hl,zmv]
theorem zrK (k:IntKind) (l:List Int):(cI k l).map (fun c=>[c])=eI k l:=by simp [cI,eI]
theorem zFm (k:IntKind) (l:List Int):(eI k l).flatten=cI k l:=by
  induction l with
  | nil=>rfl
  | cons x l ih=>simp only [eI,List.map_cons,List.flatten_cons] at ih ⊢;rw [ih];rfl
end
end Go.Av
namespace Go.Av
abbrev wrM:Mode:=⟨false,false,false,false⟩
abbrev roM:Mode:=⟨true,false,false,false⟩
abbrev zQr:Mode:=⟨false,false,true,false⟩
section
variable (L:Lim) (h:zab) (bs bs':List (List zaa)) (ts ts':List Nat)
@[simp] theorem zPc (args:List zaa):ziu wrM h args=some (args,false):=by simp [ziu]
@[simp] theorem zH1 (args:List zaa):ziu roM h args=some (args,false):=by simp [ziu]
@[simp] theorem zOd (args:List zaa):ziu zQr h args=some (args,false):=by simp [ziu]
@[simp] theorem zPQ:zc3 wrM L h=⟨L.rob,L.rot,h.blks.length,h.toks.length⟩:=by simp [zc3]
@[simp] theorem zH2:zc3 roM L h=zau h:=by simp [zc3,zau]
@[simp] theorem zOM:zc3 zQr L h=L:=by simp [zc3]
@[simp] theorem zRe (h1:zab) (v:zaa):ztz wrM h h1 v=zt7 (frz h1 h.blks.length h.toks.length 12 v) (zdW h1 h.blks.length h.toks.length):=by
  simp [ztz,zt7]
@[simp] theorem zRf (h1:zab) (v:zaa):ztz roM h h1 v=zt7 (frz h1 h.blks.length h.toks.length 12 v) h:=by
  simp [ztz,zt7]
@[simp] theorem zP0 (h1:zab) (v:zaa):ztz zQr h h1 v=some (v,h1):=by
  simp [ztz]
@[simp] theorem zFB:hx (hx h bs ts) bs' ts'=hx h (bs++bs') (ts++ts'):=by simp [hx]
theorem zCb {h1:zab} (h2:h1.blks.length=h.blks.length) (h3:h1.toks.length=h.toks.length):zdW h1 h.blks.length h.toks.length=h1:=by
  unfold zdW
  rw [← h2,← h3,List.take_length,List.take_length]
theorem zik (i:Nat) (cs:List zaa):zdW (hx h (bs.set i cs) ts) (h.blks.length+bs.length) (h.toks.length+ts.length)=hx h (bs.set i cs) ts:=by
  have:=zCb (hx h bs ts) (h1:=hx h (bs.set i cs) ts) (by simp [hx]) (by simp [hx])
  rwa [zan,zak] at this
theorem zam (L:Lim) (i off:Nat) (cs:List zaa) (h1:(decide (L.rob≤h.blks.length)&&zap 0 0 cs)=true):
    zcx L (hx h bs ts) (pA h.blks.length i off) cs=stO h bs ts i off cs bs[i]?:=by
  simp only [Bool.and_eq_true,decide_eq_true_eq] at h1
  unfold zcx pA stO stI hx
  simp only
  rw [List.getElem?_append_right (Nat.le_add_right _ _),Nat.add_sub_cancel_left]
  cases bs[i]? with
  | none=>rfl
  | some old=>
    simp only [Option.bind_some]
    by_cases hc:off+cs.length≤old.length
    · rw [if_pos ⟨by omega, hc, .inr h1.2⟩, if_pos (by simpa using hc)]
      rw [List.set_append_right _ _ (Nat.le_add_right _ _),Nat.add_sub_cancel_left]
    · rw [if_neg (fun h=>hc h.2.1),if_neg (by simpa using hc)]
theorem zti:∀ {l:List zaa},(∀ c∈l,c.under 0 0=true)→zap 0 0 l=true
  | [],_=>rfl
  | c :: cs,h=>by simp only [zap,Bool.and_eq_true];exact ⟨h c (by simp),zti fun c hc=>h c (by simp [hc])⟩
@[simp] theorem zFt (l : List W64) : zap 0 0 (cW l) = true := zti fun c hc => by
  simp only [cW,List.mem_map] at hc;obtain ⟨x,_,rfl⟩:=hc;rfl
@[simp] theorem zOI (x:W64):zap 0 0 [wd x]=true:=rfl
@[simp] theorem zL0 (k:IntKind) (x:Int):zap 0 0 [.int k x]=true:=rfl
@[simp] theorem zJF (x:Bool):zap 0 0 [.bool x]=true:=rfl
theorem zhN (b off n:Nat) (g:Bool) (cs:List zaa) (hb:h.blks[b]?=some cs):zkn (hx h bs ts) (.ptr b off) n g=zeb g cs off n:=by
  unfold zkn hx
  simp only
  rw [List.getElem?_append_left (List.getElem?_eq_some_iff.1 hb).1,hb]
  rfl
def RdI (h:zab) (k:IntKind) (x:zaa) (l:List Int):Prop:=
  zwy x=some l.length∧∃ p:Nat→zaa,(∀ i,i < l.length→zbP none 1 x (.int .i64 (i:Int))=some (p i))∧∀ i bs ts,i < l.length→zkn (hx h bs ts) (p i) 1 false=some (.int k (gd l 0 i))
def RdW (h:zab) (x:zaa) (l:List W64):Prop:=
  zwy x=some l.length∧∃ p:Nat→zaa,(∀ i,i < l.length→zbP none 1 x (.int .i64 (i:Int))=some (p i))∧∀ i bs ts,i < l.length→zkn (hx h bs ts) (p i) 1 false=some (wd (gd l 0#64 i))
theorem RdW.ext {h:zab} {x:zaa} {l:List W64} (hr:RdW h x l) (bs:List (List zaa)) (ts:List Nat):RdW (hx h bs ts) x l:=by
  obtain ⟨h1,p,h2,h3⟩:=hr
  exact ⟨h1,p,h2,fun i bs' ts' hi=>by rw [zFB];exact h3 i _ _ hi⟩
theorem RdI.vsl (h:zab) (k:IntKind) (c:Bool) (l:List Int):RdI h k (.vsl c (eI k l)) l:=
  ⟨by simp,fun i=>.vptr [.int k (gd l 0 i)] 0,fun i hi=>zzt k .i64 c l i (by simpa using hi),fun i bs ts hi=>by simp⟩
def eW (l:List W64):List (List zaa):=l.map fun x=>[wd x]
@[simp] theorem zOF (l:List W64):(eW l).length=l.length:=by simp [eW]
theorem zJr (l:List W64) (i:Nat):(eW l)[i]?=(l[i]?).map fun n=>[wd n]:=by simp [eW]
theorem RdW.vsl (h:zab) (c:Bool) (l:List W64):RdW h (.vsl c (eW l)) l:=
  ⟨by simp,fun i=>.vptr [wd (gd l 0#64 i)] 0,fun i hi=>by simp [zbP,asI,zJr,hi,gd,List.getD],fun i bs ts hi=>by simp⟩
theorem zFo {k:IntKind} {l:List Int} {i:Nat} (h:i < l.length):(cI k l)[i]?=some (.int k (gd l 0 i)):=by
  simp [cI,gd,List.getD,h]
theorem RdW.sl (h:zab) (b n:Nat) (cap:Option Nat) (l:List W64) (hl:l.length=n) (hb:h.blks[b]?=some (cW l)):RdW h (.sl b 0 1 n cap) l:=
  ⟨by simp [hl], fun i => .ptr b (0 + i * 1), fun i hi => by simp [zbP, asI]; omega, fun i bs ts hi => by
    rw [zhN h bs ts b _ _ _ _ hb,zae,Nat.zero_add,Nat.mul_one];exact zIe hi⟩
theorem RdI.sl (h:zab) (k:IntKind) (b n:Nat) (cap:Option Nat) (l:List Int) (hl:l.length=n) (hb:h.blks[b]?=some (cI k l)):RdI h k (.sl b 0 1 n cap) l:=
  ⟨by simp [hl], fun i => .ptr b (0 + i * 1), fun i hi => by simp [zbP, asI]; omega, fun i bs ts hi => by
    rw [zhN h bs ts b _ _ _ _ hb,zae,Nat.zero_add,Nat.mul_one];exact zFo hi⟩
end
theorem zli (n sz m i off:Nat) (h:decide (0 < n)=true):zc0 (.arr n) sz (pA m i off) none none none=some (sA m i off sz n (some n)):=by
  have h':0 < n:=by simpa using h
  have:¬n=0:=by omega
  simp [zc0,pA,sA,zio,this]
theorem zt8 (n sz m i off c:Nat) (kd:IntKind) (h:(decide (0 < c)&&decide (c≤n))=true):zc0 (.arr n) sz (pA m i off) none (some (.int kd (c:Int))) none=some (sA m i off sz c (some n)):=by
  simp only [Bool.and_eq_true,decide_eq_true_eq] at h
  have h0:¬c=0:=by omega
  simp [zc0,pA,sA,zio,h0,h.2]
theorem RdW.sA {h:zab} {bs:List (List zaa)} (ts:List Nat) (i n:Nat) (cap:Option Nat) (l:List W64) (hl:l.length=n) (hb:bs[i]?=some (cW l)):RdW (hx h bs ts) (sA h.blks.length i 0 1 n cap) l:=
  RdW.sl _ _ n cap l hl (by simp only [hx];rw [List.getElem?_append_right (Nat.le_add_right _ _),Nat.add_sub_cancel_left];exact hb)
theorem RdI.sA {h:zab} {bs:List (List zaa)} (ts:List Nat) (k:IntKind) (i n:Nat) (cap:Option Nat) (l:List Int) (hl:l.length=n) (hb:bs[i]?=some (cI k l)):RdI (hx h bs ts) k (sA h.blks.length i 0 1 n cap) l:=
  RdI.sl _ k _ n cap l hl (by simp only [hx];rw [List.getElem?_append_right (Nat.le_add_right _ _),Nat.add_sub_cancel_left];exact hb)
theorem zzB (n:Nat) (c:Bool) (k:IntKind) (l:List Int) (h:(decide (0 < n)&&decide (n≤l.length))=true):zNX n (.vsl c (eI k l))=some (.vptr (cI k (l.take n)) 0):=by
  simp only [Bool.and_eq_true,decide_eq_true_eq] at h
  show (if n≤(eI k l).length∧0 < n then some (zaa.vptr (List.take n (eI k l)).flatten 0) else none)=_
  rw [if_pos ⟨by simpa using h.2,h.1⟩]
  have:(eI k l).take n=eI k (l.take n):=by simp [eI]
  rw [this,zFm]
theorem zIM (n m i off len:Nat) (cap:Option Nat) (h:decide (n≤len)=true):zNX n (sA m i off 1 len cap)=some (pA m i off):=by
  have:n≤len:=by simpa using h
  unfold zNX;simp [sA,pA,this]
@[simp] theorem zQe (k:IntKind) (l:List Int) (n:Nat):(cI k l).take n=cI k (l.take n):=by simp [cI]
@[simp] theorem zQf (k:IntKind) (l:List Int) (n:Nat):(cI k l).drop n=cI k (l.drop n):=by simp [cI]
theorem zzD {h:zab} {bs:List (List zaa)} (ts:List Nat) {i:Nat} {cs:List zaa} (hb:bs[i]?=some cs):(hx h bs ts).blks[h.blks.length+i]?=some cs:=by
  simp only [hx];rw [List.getElem?_append_right (Nat.le_add_right _ _),Nat.add_sub_cancel_left];exact hb
theorem zGj (k:IntKind) (l:List Int) (off sz:Nat) (h:decide (off+sz≤l.length)=true):zeb true (cI k l) off sz=some (.agg (cI k ((l.drop off).take sz))):=by
  have h':off+sz≤l.length:=by simpa using h
  unfold zeb;simp [h']
theorem zGk (l:List W64) (off sz:Nat) (h:decide (off+sz≤l.length)=true):zeb true (cW l) off sz=some (.agg (cW ((l.drop off).take sz))):=by
  have h':off+sz≤l.length:=by simpa using h
  unfold zeb;simp [h']
@[simp] theorem zLV (b:Bool):zGW zaK b=false:=rfl
@[simp] theorem zO3 {α:Type} (n:Nat) (f:Nat→α):tab n f++[f n]=tab (n+1) f:=by simp [tab,List.range_succ]
theorem zCM {α:Type} {l:List α} {n i:Nat} {d:α} (h:i < n):gd (l.take n) d i=gd l d i:=by
  unfold gd;simp [List.getD,List.getElem?_take,h]
theorem zlr {α:Type} {l:List α} {k:Nat} (d:α) (h:k < l.length):l.take (k+1)=l.take k++[gd l d k]:=by
  rw [List.take_add_one,zql (d:=d) h];rfl
end Go.Av
namespace Go.Av
def mkK (h:zab) (sz:Nat) (zero:List zaa):zaa→Option (zaa × zab)
  | .int _ n=>if 0≤n∧n < zat then some (.sl h.blks.length 0 sz n.toNat (some n.toNat),push h (rep zero n.toNat)) else none
  | _=>none
@[simp] theorem zQj (C:Ctx) (L:Lim) (fr:Fr) (h:zab) (sz:Nat) (z:List zaa) (x:AO):zhZ C L fr h (.mk sz z x)=mkK h sz z (C.ev fr x):=by
  simp only [zhZ]
  cases C.ev fr x <;> rfl
theorem zlx (h:zab) (bs:List (List zaa)) (ts:List Nat) (sz:Nat) (z:List zaa) (k:IntKind) (n:Int) (hc:(decide (0≤n)&&decide (n < zat))=true):
    mkK (hx h bs ts) sz z (.int k n)=some (sA h.blks.length bs.length 0 sz n.toNat (some n.toNat),hx h (bs++[rep z n.toNat]) ts):=by
  simp only [Bool.and_eq_true,decide_eq_true_eq] at hc
  unfold mkK
  simp only [if_pos hc]
  simp [sA,hx,push]
theorem zgd (x:zaa):∀ n,rep [x] n=zaV x n
  | 0=>rfl
  | n+1=>by simp [rep,zaV,zgd x n]
theorem zwK (sz m i len c:Nat) (cap:Option Nat) (kd:IntKind) (h:(decide (0 < c)&&decide (c≤len)&&decide (len≤cap.getD len))=true):zc0 .slc sz (sA m i 0 sz len cap) none (some (.int kd (c:Int))) none=some (sA m i 0 sz c cap):=by
  simp only [Bool.and_eq_true,decide_eq_true_eq] at h
  obtain ⟨⟨h1,h2⟩,h3⟩:=h
  have h0:¬c=0:=by omega
  have h4:c≤cap.getD len:=by omega
  simp [zc0,sA,zio,h0,h4]
@[simp] theorem zMG (k:IntKind) (a:Int):zaa.cells (zaa.int k a)=[.int k a]:=rfl
@[simp] theorem zQl (k:IntKind) (a:Int):zaa.okV (zaa.int k a)=true:=rfl
@[simp] theorem zLY (b:Bool):zaa.cells (zaa.bool b)=[.bool b]:=rfl
@[simp] theorem zO4 (b:Bool):zaa.okV (zaa.bool b)=true:=rfl
@[simp] theorem zMH (b:ByteArray):zaa.cells (zaa.str b)=[.str b]:=rfl
@[simp] theorem zQm (b:ByteArray):zaa.okV (zaa.str b)=true:=rfl
@[simp] theorem zMI (c:Bool) (es:List (List zaa)):zaa.cells (zaa.vsl c es)=[.vsl c es]:=rfl
@[simp] theorem zQn (c:Bool) (es:List (List zaa)):zaa.okV (zaa.vsl c es)=true:=rfl
@[simp] theorem zMK:zaa.cells (zaa.nsl)=[.nsl]:=rfl
@[simp] theorem zQo:zaa.okV (zaa.nsl)=true:=rfl
@[simp] theorem zLZ:zaa.cells (zaa.nilp)=[.nilp]:=rfl
@[simp] theorem zO5:zaa.okV (zaa.nilp)=true:=rfl
@[simp] theorem zMM:zaa.cells (zaa.nfn)=[.nfn]:=rfl
@[simp] theorem zQp:zaa.okV (zaa.nfn)=true:=rfl
@[simp] theorem zMO:zaa.cells (zaa.nif)=[.nif]:=rfl
@[simp] theorem zQq:zaa.okV (zaa.nif)=true:=rfl
@[simp] theorem zJD (t:TypeId) (v:zaa):zaa.cells (zaa.iface t v)=[.iface t v]:=rfl
@[simp] theorem zMP (t:TypeId) (v:zaa):zaa.okV (zaa.iface t v)=true:=rfl
@[simp] theorem zO7 (f:Fn) (a b:List zaa):zaa.cells (zaa.fn f a b)=[.fn f a b]:=rfl
@[simp] theorem zRo (f:Fn) (a b:List zaa):zaa.okV (zaa.fn f a b)=true:=rfl
@[simp] theorem zL1 (cs:List zaa) (o:Nat):zaa.cells (zaa.vptr cs o)=[.vptr cs o]:=rfl
@[simp] theorem zO8 (cs:List zaa) (o:Nat):zaa.okV (zaa.vptr cs o)=true:=rfl
@[simp] theorem zO9 (n i off sz len:Nat) (cap:Option Nat):zaa.cells (sA n i off sz len cap:zaa)=[sA n i off sz len cap]:=rfl
@[simp] theorem zRp (n i off sz len:Nat) (cap:Option Nat):zaa.okV (sA n i off sz len cap:zaa)=true:=rfl
@[simp] theorem zPa (n i off:Nat):zaa.cells (pA n i off:zaa)=[pA n i off]:=rfl
@[simp] theorem zRq (n i off:Nat):zaa.okV (pA n i off:zaa)=true:=rfl
@[simp] theorem zPb (n i:Nat) (es:List (List zaa)):zaa.cells (gA n i es:zaa)=[gA n i es]:=rfl
@[simp] theorem zRr (n i:Nat) (es:List (List zaa)):zaa.okV (gA n i es:zaa)=true:=rfl
@[simp] theorem zC4 (cs:List zaa):zaa.cells (zaa.agg cs)=cs:=rfl
@[simp] theorem zJG (cs:List zaa):zaa.okV (zaa.agg cs)=true:=rfl
theorem zuk (k:IntKind):∀ (n:Nat) (l m:List Int),l.length=n→m.length=n→zbo (zaV .i n) (cI k l) (cI k m)=some (l==m)
  | 0,[],[],_,_=>by simp [zaV,cI,zbo]
  | n + 1, x :: l, y :: m, h1, h2 => by
    have:=zuk k n l m (by simpa using h1) (by simpa using h2)
    simp only [cI] at this
    simp only [zaV,cI,List.map_cons,zbo,zsQ,bind,if_true,Option.bind_some,this]
    congr 1
theorem zMS (k:IntKind) (n:Nat) (l m:List Int) (h1:(l.length==n)=true) (h2:(m.length==n)=true):eqA (.agg (zaV .i n)) (.agg (cI k l)) (.agg (cI k m))=some (l==m):=by
  rw [zK2];exact zuk k n l m (by simpa using h1) (by simpa using h2)
def byA (l:List Int):ByteArray:=⟨(l.map fun n=>UInt8.ofNat n.toNat).toArray⟩
theorem zw9 : ∀ l : List Int, zjE (eI .u8 l) = some (l.map fun n => UInt8.ofNat n.toNat)
  | []=>rfl
  | x :: l => by
    have:=zw9 l
    simp only [eI] at this
    simp only [eI,List.map_cons,zjE,this,bind,Option.bind_some]
def zPr (h:zab) (x:zaa):Option zaa:=(zay h 1 x).bind fun es=>(zjE es).map fun bs=>.str ⟨bs.toArray⟩
@[simp] theorem zPt (C:Ctx) (fr:Fr) (h:zab) (x:AO):zzX C fr h (.b2s x)=zPr h (C.ev fr x):=by
  simp only [zzX,zPr,bind]
  congr 1
  funext es
  cases zjE es <;> rfl
@[simp] theorem zPu (h:zab) (c:Bool) (l:List Int):zPr h (.vsl c (eI .u8 l))=some (.str (byA l)):=by
  simp [zPr,zay,zw9,byA]
def zNp:zaa→Option zaa
  | .sl b off sz n c=>some (.sl b off sz n c)
  | _=>none
@[simp] theorem zNr (C:Ctx) (fr:Fr) (h:zab) (x:AO):zzX C fr h (.mark x)=zNp (C.ev fr x):=by
  simp only [zzX]
  cases C.ev fr x <;> rfl
@[simp] theorem zPy (n i off sz len:Nat) (cap:Option Nat):zNp (sA n i off sz len cap)=some (sA n i off sz len cap):=rfl
def zG6 (h:zab) (sz len:Nat) (cs:Option (List zaa)):Option (zaa × zab):=cs.map fun cs=>(.sl h.blks.length 0 sz len (some len),push h cs)
@[simp] theorem zNt (C:Ctx) (L:Lim) (fr:Fr) (h:zab) (sz len:Nat) (z:List zaa) (ps:List (Nat × AO)):
    zhZ C L fr h (.slit sz len z ps)=zG6 h sz len (zaA (rep z len) (ps.map fun p=>(p.1*sz,sz,C.ev fr p.2))):=by
  simp only [zhZ,zG6]
  cases zaA (rep z len) (ps.map fun p=>(p.1*sz,sz,C.ev fr p.2)) <;> rfl
@[simp] theorem zMe (h:zab) (bs:List (List zaa)) (ts:List Nat) (sz len:Nat) (cs:List zaa):zG6 (hx h bs ts) sz len (some cs)=some (sA h.blks.length bs.length 0 sz len (some len),hx h (bs++[cs]) ts):=by
  simp [zG6,sA,hx,push]
end Go.Av
