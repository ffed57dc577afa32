/- How a law's arguments are read, and equations by which the machine's runs are reckoned. -/
import Derived.Test.YtbofkfgfnaigkaaGreatDoorV4
import Derived.Carry
import Derived.OpenShut
import Derived.MapKept
set_option linter.unusedSimpArgs false
set_option linter.unusedVariables false
namespace Go.Av
open Go.RowKit
inductive Ty where
  | bool | int (k:IntKind) | str | sl (e:List Ty)
mutual
inductive ztM:Ty→zaa→Prop
  | bool (b:Bool):ztM .bool (.bool b)
  | int (k:IntKind) (n:Int) (h:(Lit.int k n).wf=true):ztM (.int k) (.int k n)
  | str (x:ByteArray) (h:x.size≤maxLen):ztM .str (.str x)
  | sl (ts:List Ty) (es:List (List zaa)) (hl:es.length≤maxLen) (h:zsu ts es):ztM (.sl ts) (.vsl false es)
inductive zfG:List Ty→List zaa→Prop
  | nil:zfG [] []
  | cons (t:Ty) (ts:List Ty) (c:zaa) (cs:List zaa) (h:ztM t c) (ht:zfG ts cs):zfG (t :: ts) (c :: cs)
inductive zsu:List Ty→List (List zaa)→Prop
  | nil (ts:List Ty):zsu ts []
  | cons (ts:List Ty) (e:List zaa) (es:List (List zaa)) (h:zfG ts e) (ht:zsu ts es):zsu ts (e :: es)
end
theorem ztM.cell {t:Ty} {c:zaa} (h:ztM t c):c.isCell=true:=by cases h <;> rfl
theorem zfG.cell:∀ {ts:List Ty} {cs:List zaa},zfG ts cs→∀ c∈cs,c.isCell=true
  | _,_,.nil=>by simp
  | _, _, .cons t ts c cs h ht => fun x hx => by
    rcases List.mem_cons.1 hx with rfl | hx
    · exact h.cell
    · exact ht.cell x hx
theorem zfG.length:∀ {ts:List Ty} {cs:List zaa},zfG ts cs→cs.length=ts.length
  | _,_,.nil=>rfl
  | _,_,.cons t ts c cs h ht=>by simp [ht.length]
theorem zfG.append:∀ {ts us:List Ty} {cs ds:List zaa},zfG ts cs→zfG us ds→zfG (ts++us) (cs++ds)
  | _,_,_,_,.nil,h=>h
  | _,_,_,_,.cons t ts c cs h ht,h'=>.cons t _ c _ h (ht.append h')
def shF (P:Program) (rec:TypeId→Option (List Ty)) (z:Nat):Nat→List Field→Option (List Ty)
  | o,[]=>if o=z then some [] else none
  | o, f :: fs => if f.offset = o then
      match rec f.type with
      | some l=>if l.length=P.cellsOf f.type then (shF P rec z (o+P.cellsOf f.type) fs).map (l++·) else none
      | none=>none
    else none
def shT (P:Program):Nat→TypeId→Option (List Ty)
  | 0,_=>none
  | d + 1, t => match P.underlying t with
    | some .bool=>some [.bool]
    | some (.int k)=>some [.int k]
    | some .string=>some [.str]
    | some (.slice e) => match shT P d e with
      | some l=>if l.length=P.cellsOf e∧0 < l.length then some [.sl l] else none
      | none=>none
    | some (.struct fs)=>shF P (shT P d) (P.cellsOf t) 0 fs.toList
    | some (.array n e) => match shT P d e with
      | some l=>if P.cellsOf t=n*P.cellsOf e∧l.length=P.cellsOf e then some (zHv l n) else none
      | none=>none
    | _=>none
def st0 (W:World):St:=⟨W,⟨[],[]⟩,[],[],0,0⟩
theorem zXT (W:World) (X o:Nat):Imm (st0 W) X o:=⟨fun b _ h=>by simp [st0] at h,fun t sz n _ h=>by simp [st0] at h⟩
section
variable {H:Type} {enc:TypeId × Value→H} {P:Program} {W:World} {base:Nat} {spare:Nat→Bool} {held:Bool}
theorem zNq {X o:Nat} {avs:List zaa} {cs:List Value} (hr:zcI (st0 W) avs cs) (hk:∀ c∈avs,c.isCell=true) (hc:∀ (i:Nat) v,cs[i]?=some v→World.at W X (o+i)=some v):zfX (st0 W) X o avs:=by
  refine zfX.of_get fun i c hi=>?_
  obtain ⟨v,hv,hrep⟩:=hr.get i c hi
  exact ⟨v,hc i v hv,zXT W _ _,hk c (List.mem_of_getElem? hi),hrep⟩
theorem zT5 (a:Addr) (k:Nat):(a.add k).block=a.block∧(a.add k).off=a.off+k:=by
  unfold Addr.add
  split <;> simp_all
theorem zJ5 {a:Addr} {n:Nat} {cs:List Value} (h:W.cells? base a n=some cs) (hn:0 < n):a.spot=none∧cs.length=n∧∀ (i:Nat) v,cs[i]?=some v→World.at W a.block (a.off+i)=some v:=by
  unfold World.cells? at h
  split at h
  · have hlen : cs.length = n := by simpa using mapM_some_length h
    have key:∀ i:Nat,i < n→W.cell? (a.add i)=cs[i]?:=fun i hi=>mapM_some_get h i i (by simp [hi])
    have hs:a.spot=none:=by
      have h0:=key 0 hn
      rw [List.getElem?_eq_getElem (by omega)] at h0
      unfold World.cell? at h0
      split at h0
      · split at h0
        · simp at h0
        · rename_i hsp
          simpa [Addr.add] using hsp
      · simp at h0
    refine ⟨hs,hlen,fun i v hi=>?_⟩
    have hlt:=(List.getElem?_eq_some_iff.1 hi).1
    have:=key i (by omega)
    rw [hi] at this
    unfold World.at
    rw [← this]
    congr 1
    simp [Addr.add,hs]
    intro h0
    subst h0
    cases a
    simp at hs
    subst hs
    rfl
  · simp at h
def sEq (W:World) (tys:List Ty) (cs:List Value):Prop:=∃ avs,zfG tys avs∧zcI (st0 W) avs cs
theorem sEq.append {t u:List Ty} {a b:List Value} (h:sEq W t a) (k:sEq W u b):sEq W (t++u) (a++b):=by
  obtain ⟨x,h1,h2⟩:=h
  obtain ⟨y,k1,k2⟩:=k
  exact ⟨x++y,h1.append k1,h2.append k2⟩
theorem zsu.of_all {ts:List Ty}:∀ {es:List (List zaa)},(∀ e∈es,zfG ts e)→zsu ts es
  | [],_=>.nil ts
  | e :: es,h=>.cons ts e es (h e (by simp)) (zsu.of_all fun x hx=>h x (by simp [hx]))
theorem zFx {n:Nat} {cs:List Value} {rec:TypeId→Option (List Ty)} {z:Nat} (hz:cs.length=z)
    (ih:∀ (t:TypeId) (tys:List Ty) (cs':List Value),rec t=some tys→(∃ x,DataW.trod enc P W base spare held n t cs'=some x)→sEq W tys cs'):
    ∀ (fs:List Field) (o:Nat) (tys:List Ty),shF P rec z o fs=some tys→(∀ f∈fs,∃ x,DataW.trod enc P W base spare held n f.type ((cs.drop f.offset).take (P.cellsOf f.type))=some x)→
      sEq W tys (cs.drop o)
  | [], o, tys, h, _ => by
    simp only [shF] at h
    split at h
    · rename_i ho
      obtain rfl:=Option.some.inj h
      rw [List.drop_eq_nil_of_le (by omega)]
      exact ⟨[],.nil,.nil⟩
    · simp at h
  | f :: fs, o, tys, h, hf => by
    simp only [shF] at h
    split at h
    · rename_i ho
      split at h
      · rename_i l hl
        split at h
        · obtain ⟨r,hr,rfl⟩:=map_some h
          have h1:=ih f.type l _ hl (hf f (by simp))
          rw [ho] at h1
          have h2:=zFx hz ih fs _ r hr fun g hg=>hf g (by simp [hg])
          have:=h1.append h2
          rwa [← List.drop_drop,List.take_append_drop] at this
        · simp at h
      · simp at h
    · simp at h
theorem zFy {n sz:Nat} {cs:List Value} {l:List Ty} (hz:cs.length=n*sz) (hi:∀ i,i < n→sEq W l ((cs.drop (i*sz)).take sz)):∀ k,k≤n→sEq W (zHv l k) (cs.drop ((n - k)*sz))
  | 0, _ => by
    rw [Nat.sub_zero,List.drop_eq_nil_of_le (by omega)]
    exact ⟨[],.nil,.nil⟩
  | k + 1, hk => by
    have h1:=hi (n - (k+1)) (by omega)
    have h2:=zFy hz hi k (by omega)
    have:=h1.append h2
    have e:(n - k)*sz=(n - (k+1))*sz+sz:=by
      rw [← Nat.succ_mul];congr 1;omega
    rwa [e,← List.drop_drop,List.take_append_drop] at this
theorem zqV:∀ (d:Nat) {t:TypeId} {tys:List Ty} {fuel:Nat} {cs:List Value} {x:DataW H × List MemPlace},shT P d t=some tys→
    DataW.trod enc P W base spare held fuel t cs=some x→sEq W tys cs
  | 0,t,tys,fuel,cs,x,hs,h=>by simp [shT] at hs
  | d + 1, t, tys, fuel, cs, x, hs, h => by
    simp only [shT] at hs
    split at hs
    · rename_i hu
      obtain rfl:=Option.some.inj hs
      cases fuel with
      | zero=>simp [DataW.trod] at h
      | succ n=>
        unfold DataW.trod at h
        rw [hu] at h
        split at h <;> simp_all
        exact ⟨_,.cons _ _ _ _ (.bool _) .nil,.cons _ _ _ _ (.bool _) .nil⟩
    · rename_i k hu
      obtain rfl:=Option.some.inj hs
      cases fuel with
      | zero=>simp [DataW.trod] at h
      | succ n=>
        unfold DataW.trod at h
        rw [hu] at h
        split at h <;> simp_all
        obtain ⟨⟨rfl,hw⟩,_⟩:=h
        exact ⟨_,.cons _ _ _ _ (.int _ _ hw) .nil,.cons _ _ _ _ (.int _ _) .nil⟩
    · rename_i hu
      obtain rfl:=Option.some.inj hs
      cases fuel with
      | zero=>simp [DataW.trod] at h
      | succ n=>
        unfold DataW.trod at h
        rw [hu] at h
        split at h <;> simp_all
        exact ⟨_,.cons _ _ _ _ (.str _ h.1) .nil,.cons _ _ _ _ (.str _) .nil⟩
    · rename_i e hu
      split at hs
      · rename_i l hl
        split at hs
        · rename_i hlen
          obtain rfl:=Option.some.inj hs
          rcases DataW.trod_slice hu h with ⟨rfl,_⟩ | ⟨a,len,cap,elems,rest,n,rfl,rfl,_,hb,hlc,hcm,hel,hget,_⟩
          · exact ⟨[.vsl false []],.cons _ _ _ _ (.sl l [] (by simp) (.nil l)) .nil,.cons _ _ _ _ (.vsl0 false none 0 (by simp) (fun _=>rfl)) .nil⟩
          · subst hel
            have key : ∀ i : Nat, i < elems.length → (a.add (i * P.cellsOf e)).spot = none ∧ ∃ x : List zaa, zfG l x ∧ zfX (st0 W) a.block (a.off + i * P.cellsOf e) x := fun i hi => by
              have h1:=hget i hi
              rw [List.getElem?_eq_getElem hi] at h1
              obtain ⟨cs',h2,h3⟩:=Option.bind_eq_some_iff.1 h1
              obtain ⟨avs,g1,g2⟩:=zqV d hl h3
              obtain ⟨k1,k2,k3⟩:=zJ5 h2 (by omega)
              obtain ⟨b1,b2⟩:=zT5 a (i*P.cellsOf e)
              refine ⟨k1,avs,g1,zNq g2 g1.cell fun j v hj=>?_⟩
              have:=k3 j v hj
              rw [b1,b2] at this
              exact this
            by_cases h0:elems.length=0
            · rw [h0]
              exact ⟨[.vsl false []],.cons _ _ _ _ (.sl l [] (by simp) (.nil l)) .nil,.cons _ _ _ _ (.vsl0 false (some a) cap (by simp) (by simp)) .nil⟩
            · let f : Nat → List zaa := fun i => if h : i < elems.length then (key i h).2.choose else []
              have hf : ∀ i, i < elems.length → zfG l (f i) ∧ zfX (st0 W) a.block (a.off + i * P.cellsOf e) (f i) := fun i hi => by
                simp only [f,dif_pos hi]
                exact (key i hi).2.choose_spec
              have hsp:=(key 0 (by omega)).1
              rw [Nat.zero_mul] at hsp
              replace hsp:a.spot=none:=by simpa [Addr.add] using hsp
              obtain ⟨X,o,sp⟩:=a
              simp only [] at hsp
              subst hsp
              refine ⟨[.vsl false ((List.range elems.length).map f)],.cons _ _ _ _ (.sl l _ (by simp;omega) (.of_all fun y he=>?_)) .nil,.cons _ _ _ _ (.vsl false _ X o (P.cellsOf e) cap elems.length (zkk.of_get fun i y he=>?_) (by simp) hlc (by simp)) .nil⟩
              · obtain ⟨i,hi,rfl⟩:=List.mem_map.1 he
                exact (hf i (by simpa using hi)).1
              · have hi : i < elems.length := by have := (List.getElem?_eq_some_iff.1 he).1; simpa using this
                rw [List.getElem?_map,List.getElem?_range hi] at he
                obtain rfl:=Option.some.inj he
                exact ⟨by rw [(hf i hi).1.length];exact hlen.1,(hf i hi).2⟩
        · simp at hs
      · simp at hs
    · rename_i fs hu
      obtain ⟨xs,n,rfl,_,hl,hlen,hf⟩:=DataW.trod_struct hu h
      have := zFx (enc := enc) (base := base) (spare := spare) (held := held) (n := n) hl (fun t tys cs' h1 ⟨x, h2⟩ => zqV d h1 h2) fs.toList 0 tys hs fun f hfm => by
        obtain ⟨i,hi⟩:=List.mem_iff_getElem?.1 hfm
        have hi':fs[i]?=some f:=by simpa using hi
        have hlt:=(Array.getElem?_eq_some_iff.1 hi').1
        exact ⟨_,(hf i f hi').trans (List.getElem?_eq_getElem (by omega))⟩
      simpa using this
    · rename_i n e hu
      split at hs
      · rename_i l hl
        split at hs
        · rename_i hz
          obtain rfl:=Option.some.inj hs
          obtain ⟨xs,m,rfl,_,hlc,hlen,hget⟩:=DataW.trod_array hu h
          have:=zFy (W:=W) (n:=n) (sz:=P.cellsOf e) (cs:=cs) (l:=l) (by rw [hlc];exact hz.1) (fun i hi=>zqV d hl ((hget i hi).trans (List.getElem?_eq_getElem (by omega)))) n (Nat.le_refl _)
          simpa using this
        · simp at hs
      · simp at hs
    · simp at hs
theorem zFz {d:Nat} {t:TypeId} {tys:List Ty} {v:Value} {dd:DataW H} {ps:List MemPlace} (hs:shT P d t=some tys) (hok:Value.okWide P W .any base t v) (h:DataW.Trod enc P W 0 spare held t v dd ps):
    (∃ avs,zfG tys avs∧Rep (st0 W) (.agg avs) v∧∃ cs,v=.agg cs)∨(∃ ty c,tys=[ty]∧ztM ty c∧Rep (st0 W) c v∧∀ cs,v≠.agg cs):=by
  obtain ⟨fuel,h⟩:=h
  obtain ⟨avs,h1,h2⟩:=zqV d hs h
  by_cases hv:∃ cs,v=.agg cs
  · obtain ⟨cs,rfl⟩:=hv
    exact .inl ⟨avs,h1,.agg avs cs (by simpa [Value.cells] using h2) h1.cell,cs,rfl⟩
  · right
    have e:v.cells=#[v]:=by
      cases v <;> first | rfl | exact (hv ⟨_,rfl⟩).elim
    rw [e] at h2
    cases h2 with
    | cons c _ cs _ hc ht=>
      cases ht
      cases h1 with
      | cons ty ts _ _ g1 g2=>
        cases g2
        exact ⟨ty,c,rfl,g1,hc,fun cs hcs=>hv ⟨cs,hcs⟩⟩
end
theorem zOo {C:Ctx} {P:Program} (hC:zFV C P) {W:World} {f:FuncId} {F:AFn} {args:List zaa} {cargs:Array Value} {h':zab} (hF:C.fns f=some F)
    (hv:zag C ⟨0,0,0,0⟩ f args ⟨[],[]⟩=some (.bool true,h')) (hg:∀ g cs,C.glob g=some cs→zfX (st0 W) g 0 cs) (hargs:zcI (st0 W) args cargs.toList):
    Calls P f cargs W fun e W'=>e=.returned (.bool true)∧Below W.heap.size W W':=by
  obtain ⟨⟨_,hc⟩,_⟩:=zNl hC hv
  have hsim:Sim C (st0 W):=⟨rfl,rfl,fun b X cs hb=>by simp [st0] at hb,fun b b' X hb=>by simp [st0] at hb,fun t t' X z z' ht=>by simp [st0] at ht,fun b t X z hb=>by simp [st0] at hb,fun t X z ht=>by simp [st0] at ht,hg⟩
  obtain ⟨nx,w',h1,h2⟩:=hc (st0 W) cargs rfl hsim ⟨Nat.le_refl _,Nat.le_refl _,Nat.le_refl _,Nat.le_refl _⟩ hargs
  obtain ⟨fn,fl,g1,g2,g3⟩:=hC.fns f F hF
  have hb:∃ x,fn.body=some x:=by
    unfold cfn at g2
    split at g2
    · rename_i x hx;exact ⟨x,hx⟩
    · simp at g2
  obtain ⟨x,hx⟩:=hb
  have he:=zvM g1 hx g3 cargs W
  have h1':(callFunc f cargs).run P W=.ok nx w':=h1
  rw [he] at h1'
  injection h1' with e1 e2
  subst e1 e2
  rcases h2 with ⟨cv,h3 | h3,_⟩ | ⟨f',args',h3,h4⟩
  · simp at h3
  · simp at h3
  · injection h3 with e1 e2
    subst e1 e2
    refine h4.mono fun e W' hgd=>?_
    cases e with
    | returned cv=>
      obtain ⟨s',rfl,_,_,hle,hrep⟩:=hgd
      cases hrep
      have hk:=hle.kept
      exact ⟨rfl, hk.os, hk.tape, hk.out, hk.size, fun k hlt => hk.heap k hlt fun ht => by
        rcases ht with ⟨b,hb⟩ | ⟨t,z,hz⟩
        · simp [st0] at hb
        · simp [st0] at hz⟩
    | panicked _=>exact hgd.elim
    | outgrown=>exact hgd.elim
end Go.Av
namespace Go.Av
abbrev iv (d:Nat) (o:VOp):AI:=⟨some d,.v o,none,[],0,0⟩
abbrev ir (d:Nat) (o:ROp):AI:=⟨some d,.r o,none,[],0,0⟩
abbrev ic (d:Nat) (o:COp):AI:=⟨some d,.c o,none,[],0,0⟩
abbrev jc (o:COp):AI:=⟨none,.c o,none,[],0,0⟩
def zaS {α:Type} (x:α):Nat→List α
  | 0=>[]
  | n+1=>x :: zaS x n
def ifK {α:Type} (b:Bool) (x y:α):α:=if b=true then x else y
@[simp] theorem zVW {α:Type} (x y:α):ifK true x y=x:=rfl
@[simp] theorem zUb {α:Type} (x y:α):ifK false x y=y:=rfl
noncomputable section
variable (C:Ctx) (L:Lim) (fr:Fr) (h:zab)
def zQY (r:Option (AEx × Fr × zab)) (b:AC):Option (AEx × Fr × zab):=
  r.bind fun r => match r.1 with
    | .normal=>run C L b r.2.1 r.2.2
    | _=>some r
@[simp] theorem zUd (b:AC):zQY C L none b=none:=rfl
@[simp] theorem zD1 (b:AC):zQY C L (some (.normal,fr,h)) b=run C L b fr h:=rfl
@[simp] theorem zUe (b:AC) (i:Nat):zQY C L (some (.exit i,fr,h)) b=some (.exit i,fr,h):=rfl
@[simp] theorem zUg (b:AC) (i:Nat):zQY C L (some (.goto i,fr,h)) b=some (.goto i,fr,h):=rfl
@[simp] theorem zVZ (b:AC):zQY C L (some (.ret,fr,h)) b=some (.ret,fr,h):=rfl
@[simp] theorem zV1:run C L .skip fr h=some (.normal,fr,h):=by rw [run.eq_def]
@[simp] theorem zUi (l:Nat):run C L (.label l) fr h=some (.normal,fr,h):=by rw [run.eq_def]
@[simp] theorem zV2 (i:Nat):run C L (.exit i) fr h=some (.exit i,fr,h):=by rw [run.eq_def]
@[simp] theorem zV3 (i:Nat):run C L (.goto i) fr h=some (.goto i,fr,h):=by rw [run.eq_def]
@[simp] theorem zXi:run C L .ret fr h=some (.ret,fr,h):=by rw [run.eq_def]
@[simp] theorem zV4 (a b:AC):run C L (.seq a b) fr h=zQY C L (run C L a fr h) b:=by rw [run.eq_def];rfl
def zUl (id:Nat) (r:Option (AEx × Fr × zab)):Option (AEx × Fr × zab):=r.map fun r=>if r.1=.exit id then (.normal,r.2) else r
@[simp] theorem zUm (id:Nat):zUl id none=none:=rfl
@[simp] theorem zUn (id:Nat) (e:AEx):zUl id (some (e,fr,h))=some (if e=.exit id then .normal else e,fr,h):=by
  unfold zUl;simp only [Option.map_some];split <;> simp_all
@[simp] theorem zV5 (id:Nat) (a:AC):run C L (.blk id a) fr h=zUl id (run C L a fr h):=by
  rw [run.eq_def]
  simp only [zUl]
  cases run C L a fr h with
  | none=>rfl
  | some r=>simp only [bind,Option.bind_some,Option.map_some];split <;> rfl
def zKj:zaa→Option Bool
  | .bool b=>some b
  | _=>none
@[simp] theorem zQ0 (b:Bool):zKj (.bool b)=some b:=rfl
def zND (b:Bool) (x y:AC):Option (AEx × Fr × zab):=if b=true then run C L x fr h else run C L y fr h
@[simp] theorem zSm (x y:AC):zND C L fr h true x y=run C L x fr h:=rfl
@[simp] theorem zQ2 (x y:AC):zND C L fr h false x y=run C L y fr h:=rfl
def zUr (c:Option Bool) (x y:AC):Option (AEx × Fr × zab):=c.bind fun c=>zND C L fr h c x y
@[simp] theorem zSp (b:Bool) (x y:AC):zUr C L fr h (some b) x y=zND C L fr h b x y:=rfl
@[simp] theorem zUt (c:AO) (a b:AC):run C L (.cond c a b) fr h=zUr C L fr h (zKj (C.ev fr c)) a b:=by
  rw [run.eq_def]
  simp only
  generalize C.ev fr c=v
  cases v <;> first | rfl | (rename_i b;cases b <;> rfl)
theorem znc (a:AC):run C L (.loop a) fr h=zQY C L (run C L a fr h) (.loop a):=by
  rw [run.eq_def]
  rfl
def zyt (a:AC) (r:Option (AEx × Fr × zab)):Option (AEx × Fr × zab):=r.bind fun r=>zoM C L a r.1 r.2.1 r.2.2
@[simp] theorem zD4 (a:AC) (e:AEx):zyt C L a (some (e,fr,h))=zoM C L a e fr h:=rfl
@[simp] theorem zSq (a:AC):run C L (.scope a) fr h=zyt C L a (run C L a fr h):=by rw [run.eq_def];rfl
@[simp] theorem zSr (a:AC):zoM C L a .ret fr h=some (.ret,fr,h):=by rw [zoM.eq_def]
theorem zD5 (a:AC) (i:Nat):zoM C L a (.goto i) fr h=match zfs a i with
    | some rest=>zyt C L a (run C L rest fr h)
    | none=>some (.goto i,fr,h):=by rw [zoM.eq_def];rfl
def zXZ (r:Option (Fr × zab)):Option (AEx × Fr × zab):=r.map fun r=>(.normal,r.1,r.2)
@[simp] theorem zUw:zXZ (some (fr,h))=some (.normal,fr,h):=rfl
@[simp] theorem zV8 (ops:List AI):run C L (.reg ops) fr h=zXZ (zuy C L ops fr h):=by
  rw [run.eq_def];simp only;cases zuy C L ops fr h <;> rfl
@[simp] theorem zUx:zuy C L [] fr h=some (fr,h):=by rw [zuy.eq_def]
theorem znh (i : AI) (rest : List AI) : zuy C L (i :: rest) fr h = if zcb fr i.grd = true then (zux C L i.op fr h).bind fun r => zuy C L rest (put fr i.dst r.1) r.2 else zuy C L rest (put fr i.dst zb5) h := by
  rw [zuy.eq_def];rfl
def opV (d:Option Nat) (rest:List AI) (r:Option zaa):Option (Fr × zab):=r.bind fun v=>zuy C L rest (put fr d v) h
@[simp] theorem zV9 (d:Option Nat) (rest:List AI) (v:zaa):opV C L fr h d rest (some v)=zuy C L rest (put fr d v) h:=rfl
def opC (d:Option Nat) (rest:List AI) (r:Option (zaa × zab)):Option (Fr × zab):=r.bind fun r=>zuy C L rest (put fr d r.1) r.2
@[simp] theorem zWa (d:Option Nat) (rest:List AI) (v:zaa):opC C L fr d rest (some (v,h))=zuy C L rest (put fr d v) h:=rfl
@[simp] theorem zX0 (d:Option Nat) (o:VOp) (rest:List AI) (u:List Nat) (x y:Nat):zuy C L (⟨d,.v o,none,u,x,y⟩ :: rest) fr h=opV C L fr h d rest (zdY C fr o):=by
  rw [znh,zux.eq_def]
  simp only [zcb,if_true]
  cases zdY C fr o <;> rfl
@[simp] theorem zX1 (d:Option Nat) (o:ROp) (rest:List AI) (u:List Nat) (x y:Nat):zuy C L (⟨d,.r o,none,u,x,y⟩ :: rest) fr h=opV C L fr h d rest (zos C L o fr h):=by
  rw [znh,zux.eq_def]
  simp only [zcb,if_true]
  cases zos C L o fr h <;> rfl
@[simp] theorem zX2 (d:Option Nat) (o:COp) (rest:List AI) (u:List Nat) (x y:Nat):zuy C L (⟨d,.c o,none,u,x,y⟩ :: rest) fr h=opC C L fr d rest (ziu C L o fr h):=by
  rw [znh,zux.eq_def]
  simp only [zcb,if_true]
  rfl
def zNI (v:zaa) (b:Bool):Bool:=match v with | .bool c=>c==b | _=>false
@[simp] theorem zUy (c:Bool):zNI (.bool c) true=c:=by cases c <;> rfl
@[simp] theorem zSt (c:Bool):zNI (.bool c) false=!c:=by cases c <;> rfl
def zWb (g:Bool) (d:Option Nat) (o:AOp) (rest:List AI):Option (Fr × zab):=if g=true then zuy C L (⟨d,o,none,[],0,0⟩ :: rest) fr h else zuy C L rest (put fr d zb5) h
@[simp] theorem zUA (d:Option Nat) (o:AOp) (rest:List AI):zWb C L fr h true d o rest=zuy C L (⟨d,o,none,[],0,0⟩ :: rest) fr h:=rfl
@[simp] theorem zSu (d:Option Nat) (o:AOp) (rest:List AI):zWb C L fr h false d o rest=zuy C L rest (put fr d zb5) h:=rfl
@[simp] theorem zX3 (d:Option Nat) (o:AOp) (t:Nat) (b:Bool) (rest:List AI) (u:List Nat) (x y:Nat):zuy C L (⟨d,o,some (t,b),u,x,y⟩ :: rest) fr h=
    zWb C L fr h (zNI (fr t) b) d o rest:=by
  unfold zWb
  rw [znh,znh]
  simp only [zcb,if_true,zNI]
  rfl
@[simp] theorem zWc (n:Nat) (g:Bool) (x:AO):zos C L (.ld n g x) fr h=zo5 h (C.ev fr x) n g:=by rw [zos.eq_def];rfl
@[simp] theorem zUD (x:AO):zos C L (.b2s x) fr h=zFu C fr h (.b2s x):=by rw [zos.eq_def]
@[simp] theorem zSv (x:AO):zos C L (.mark x) fr h=zFu C fr h (.mark x):=by rw [zos.eq_def]
def zSw (q:Bool) (r:Option (zaa × zab)):Option zaa:=if q=true then r.map (·.1) else none
@[simp] theorem zUE (v:zaa):zSw true (some (v,h))=some v:=rfl
@[simp] theorem zSx (f:FuncId) (as:List AO):zos C L (.call f as) fr h=zSw (zac C f) (zag C L f (as.map (C.ev fr)) h):=by
  rw [zos.eq_def];simp only [zSw];split
  · cases zag C L f (as.map (C.ev fr)) h <;> rfl
  · rfl
@[simp] theorem zSy (f:FuncId) (as:List AO):ziu C L (.call f as) fr h=zag C L f (as.map (C.ev fr)) h:=by rw [ziu.eq_def]
def zPf (x:zaa) (as:List zaa):Option (zaa × zab):=match x with
  | .fn (.func f) a b=>zag C L f (a++as++b) h
  | _=>none
@[simp] theorem zUF (f:FuncId) (a b as:List zaa):zPf C L h (.fn (.func f) a b) as=zag C L f (a++as++b) h:=rfl
@[simp] theorem zRm (x:AO) (as:List AO):ziu C L (.callv x as) fr h=zPf C L h (C.ev fr x) (as.map (C.ev fr)):=by
  rw [ziu.eq_def];rfl
@[simp] theorem zRn (z:List zaa):ziu C L (.alloc z) fr h=zkM C L fr h (.alloc z):=by rw [ziu.eq_def]
@[simp] theorem zUI (x:AO):ziu C L (.box x) fr h=zkM C L fr h (.box x):=by rw [ziu.eq_def]
@[simp] theorem zSz (a b:Nat) (z:List zaa) (p:List (Nat × AO)):ziu C L (.slit a b z p) fr h=zkM C L fr h (.slit a b z p):=by rw [ziu.eq_def]
@[simp] theorem zWe (a:Nat) (z:List zaa) (x:AO):ziu C L (.mk a z x) fr h=zkM C L fr h (.mk a z x):=by rw [ziu.eq_def]
@[simp] theorem zUJ (a:Nat) (z:List zaa) (x y:AO):ziu C L (.mkc a z x y) fr h=zkM C L fr h (.mkc a z x y):=by rw [ziu.eq_def]
@[simp] theorem zWf (n:Nat) (x y:AO):ziu C L (.st n x y) fr h=zkM C L fr h (.st n x y):=by rw [ziu.eq_def]
@[simp] theorem zUK (n:Nat) (r:Bool) (x y:AO):ziu C L (.app n r x y) fr h=zkM C L fr h (.app n r x y):=by rw [ziu.eq_def]
@[simp] theorem zSA (n:Nat) (x y:AO):ziu C L (.copy n x y) fr h=zkM C L fr h (.copy n x y):=by rw [ziu.eq_def]
@[simp] theorem zUN (x:AO):ziu C L (.s2b x) fr h=zkM C L fr h (.s2b x):=by rw [ziu.eq_def]
@[simp] theorem zYo (n:Nat):C.ev fr (.t n)=fr n:=rfl
@[simp] theorem zYp (v:zaa):C.ev fr (.k v)=v:=rfl
@[simp] theorem zWh (d:Nat) (v:zaa):put fr (some d) v=upd fr d v:=rfl
@[simp] theorem zWi (v:zaa):put fr none v=fr:=rfl
@[simp] theorem zWj (u:List Nat) (i:Nat):zmo u fr i=ifK (u.contains i) (fr i) zb5:=rfl
def zG4 (v:zaa) (r:Option (Fr × List zab × List zaa)):Option (Fr × List zab × List zaa):=r.map fun q=>(q.1,q.2.1,v :: q.2.2)
def zKU (h:zab) (v:zaa) (r:Option (Fr × List zab × List zaa)):Option (Fr × List zab × List zaa):=r.map fun q=>(q.1,h :: q.2.1,v :: q.2.2)
@[simp] theorem zSC (v:zaa) (fr:Fr) (hs:List zab) (vs:List zaa):zG4 v (some (fr,hs,vs))=some (fr,hs,v :: vs):=rfl
@[simp] theorem zSD (h:zab) (v:zaa) (fr:Fr) (hs:List zab) (vs:List zaa):zKU h v (some (fr,hs,vs))=some (fr,h :: hs,v :: vs):=rfl
def zOc (u:Option Unit):Option (AEx × Fr × zab):=u.map fun _=>(.normal,fr,h)
@[simp] theorem zSE:zOc fr h (some ())=some (.normal,fr,h):=rfl
def zRA (ops:List AI) (r:Option (Fr × List zab × List zaa)):Option (AEx × Fr × zab):=
  r.bind fun r=>zOc r.1 (r.2.1.getLastD h) (zrn C L ops r.2.2 fr (h :: r.2.1))
@[simp] theorem zSG (ops:List AI) (fr':Fr) (hs:List zab) (vs:List zaa):zRA C L fr h ops (some (fr',hs,vs))=zOc fr' (hs.getLastD h) (zrn C L ops vs fr (h :: hs)):=rfl
@[simp] theorem zUT (ops:List AI):run C L (.draw ops) fr h=zRA C L fr h ops (znr C L ops fr h):=by
  rw [run.eq_def]
  simp only [zRA,zOc]
  cases znr C L ops fr h with
  | none=>rfl
  | some r=>simp only [bind,Option.bind_some];cases zrn C L ops r.2.2 fr (h :: r.2.1) <;> rfl
open Classical in
def zUV (a:List AI) (ag:List (Nat × Nat)) (rA rB:Fr × List zab × List zaa) (x y:Option Unit):Option (AEx × Fr × zab):=
  x.bind fun _=>y.bind fun _=>if zCl h a ag rA rB then some (.normal,rA.1,rA.2.1.getLastD h) else none
theorem zCm {a:List AI} {ag:List (Nat × Nat)} {rA rB:Fr × List zab × List zaa} (hE:zCl h a ag rA rB):zUV h a ag rA rB (some ()) (some ())=some (.normal,rA.1,rA.2.1.getLastD h):=by
  unfold zUV;simp [hE]
def zXo (a b:List AI) (ag:List (Nat × Nat)) (x y:Option (Fr × List zab × List zaa)):Option (AEx × Fr × zab):=
  x.bind fun rA=>y.bind fun rB=>zUV h a ag rA rB (zrn C L a rA.2.2 fr (h :: rA.2.1)) (zrn C L b rB.2.2 fr (h :: rB.2.1))
@[simp] theorem zUW (a b:List AI) (ag:List (Nat × Nat)) (rA rB:Fr × List zab × List zaa):zXo C L fr h a b ag (some rA) (some rB)=
    zUV h a ag rA rB (zrn C L a rA.2.2 fr (h :: rA.2.1)) (zrn C L b rB.2.2 fr (h :: rB.2.1)):=rfl
@[simp] theorem zyD (a b:List AI) (ag:List (Nat × Nat)):run C L (.draw2 a b ag) fr h=zXo C L fr h a b ag (znr C L a fr h) (znr C L b fr h):=by
  rw [run.eq_def]
  simp only [zXo,zUV]
  cases znr C L a fr h with
  | none=>rfl
  | some rA=>
    simp only [bind,Option.bind_some]
    cases znr C L b fr h with
    | none=>cases zrn C L a rA.2.2 fr (h :: rA.2.1) <;> rfl
    | some rB=>
      simp only [Option.bind_some]
@[simp] theorem zUX:znr C L [] fr h=some (fr,[],[]):=by rw [znr.eq_def]
def dV (d:Option Nat) (rest:List AI) (r:Option zaa):Option (Fr × List zab × List zaa):=r.bind fun v=>zG4 v (znr C L rest (put fr d v) h)
@[simp] theorem zXp (d:Option Nat) (rest:List AI) (v:zaa):dV C L fr h d rest (some v)=zG4 v (znr C L rest (put fr d v) h):=rfl
def dC (d:Option Nat) (rest:List AI) (r:Option (zaa × zab)):Option (Fr × List zab × List zaa):=r.bind fun r=>zKU r.2 r.1 (znr C L rest (put fr d r.1) r.2)
@[simp] theorem zXq (d:Option Nat) (rest:List AI) (v:zaa):dC C L fr d rest (some (v,h))=zKU h v (znr C L rest (put fr d v) h):=rfl
@[simp] theorem zX6 (d:Option Nat) (o:VOp) (rest:List AI) (u:List Nat) (x y:Nat):znr C L (⟨d,.v o,none,u,x,y⟩ :: rest) fr h=
    dV C L fr h d rest (zdY C (zmo u fr) o):=by
  rw [znr.eq_def]
  simp only [zcb,if_true]
  rw [zux.eq_def]
  simp only
  cases zdY C (zmo u fr) o with
  | none=>rfl
  | some v=>simp only [bind,Option.bind_some,dV];cases znr C L rest (put fr d v) h <;> rfl
@[simp] theorem zX7 (d:Option Nat) (o:ROp) (rest:List AI) (u:List Nat) (x y:Nat):znr C L (⟨d,.r o,none,u,x,y⟩ :: rest) fr h=
    dV C L fr h d rest (zos C L o (zmo u fr) h):=by
  rw [znr.eq_def]
  simp only [zcb,if_true]
  rw [zux.eq_def]
  simp only
  cases zos C L o (zmo u fr) h with
  | none=>rfl
  | some v=>simp only [bind,Option.bind_some,dV];cases znr C L rest (put fr d v) h <;> rfl
@[simp] theorem zX8 (d:Option Nat) (o:COp) (rest:List AI) (u:List Nat) (x y:Nat):znr C L (⟨d,.c o,none,u,x,y⟩ :: rest) fr h=
    dC C L fr d rest (ziu C L o (zmo u fr) h):=by
  rw [znr.eq_def]
  simp only [zcb,if_true]
  rw [zux.eq_def]
  simp only
  cases ziu C L o (zmo u fr) h with
  | none=>rfl
  | some r=>simp only [bind,Option.bind_some,dC];cases znr C L rest (put fr d r.1) r.2 <;> rfl
def zSH (g:Bool) (d:Option Nat) (o:AOp) (u:List Nat) (x y:Nat) (rest:List AI):Option (Fr × List zab × List zaa):=
  if g=true then znr C L (⟨d,o,none,u,x,y⟩ :: rest) fr h else (if isC o=true then zKU h zb5 (znr C L rest (put fr d zb5) h) else zG4 zb5 (znr C L rest (put fr d zb5) h))
@[simp] theorem zUZ (d:Option Nat) (o:AOp) (u:List Nat) (x y:Nat) (rest:List AI):zSH C L fr h true d o u x y rest=znr C L (⟨d,o,none,u,x,y⟩ :: rest) fr h:=rfl
@[simp] theorem zRJ (d:Option Nat) (o:VOp) (u:List Nat) (x y:Nat) (rest:List AI):zSH C L fr h false d (.v o) u x y rest=zG4 zb5 (znr C L rest (put fr d zb5) h):=rfl
@[simp] theorem zRL (d:Option Nat) (o:ROp) (u:List Nat) (x y:Nat) (rest:List AI):zSH C L fr h false d (.r o) u x y rest=zG4 zb5 (znr C L rest (put fr d zb5) h):=rfl
@[simp] theorem zRM (d:Option Nat) (o:COp) (u:List Nat) (x y:Nat) (rest:List AI):zSH C L fr h false d (.c o) u x y rest=zKU h zb5 (znr C L rest (put fr d zb5) h):=rfl
@[simp] theorem zYa (d:Option Nat) (o:AOp) (t:Nat) (b:Bool) (rest:List AI) (u:List Nat) (x y:Nat):znr C L (⟨d,o,some (t,b),u,x,y⟩ :: rest) fr h=
    zSH C L fr h (zNI (fr t) b) d o u x y rest:=by
  unfold zSH
  rw [znr.eq_def]
  conv=>rhs;rw [znr.eq_def]
  simp only [zcb,if_true]
  show (if zNI (fr t) b=true then _ else _)=(if zNI (fr t) b=true then _ else _)
  split
  · rfl
  · cases znr C L rest (put fr d zb5) h with
    | none=>cases o <;> rfl
    | some q=>cases o <;> rfl
@[simp] theorem zU0 (vs:List zaa) (hs:List zab):zrn C L [] vs fr hs=some ():=by rw [zrn.eq_def]
@[simp] theorem zYb (d:Option Nat) (o:VOp) (g:Option (Nat × Bool)) (rest:List AI) (u:List Nat) (x y:Nat) (v:zaa) (vs:List zaa) (hs:List zab):
    zrn C L (⟨d,.v o,g,u,x,y⟩ :: rest) (v :: vs) fr hs=zrn C L rest vs (put fr d v) hs:=by rw [zrn.eq_def]
@[simp] theorem zYc (d:Option Nat) (o:COp) (g:Option (Nat × Bool)) (rest:List AI) (u:List Nat) (x y:Nat) (v:zaa) (vs:List zaa) (hs:List zab):
    zrn C L (⟨d,.c o,g,u,x,y⟩ :: rest) (v :: vs) fr hs=zrn C L rest vs (put fr d v) hs:=by rw [zrn.eq_def]
def zXu (rest:List AI) (vs:List zaa) (hs:List zab) (r:Option Unit):Option Unit:=r.bind fun _=>zrn C L rest vs fr hs
@[simp] theorem zU4 (rest:List AI) (vs:List zaa) (hs:List zab):zXu C L fr rest vs hs (some ())=zrn C L rest vs fr hs:=rfl
def zU5 (g:Bool) (o:ROp) (u:List Nat) (x y:Nat) (d:Option Nat) (v:zaa) (rest:List AI) (vs:List zaa) (hs:List zab):Option Unit:=
  if g=true then zXu C L (put fr d v) rest vs hs (zHx C L o (zmo u fr) ((hs.take (y+1)).drop x) v) else zrn C L rest vs (put fr d v) hs
@[simp] theorem zU6 (o:ROp) (u:List Nat) (x y:Nat) (d:Option Nat) (v:zaa) (rest:List AI) (vs:List zaa) (hs:List zab):
    zU5 C L fr true o u x y d v rest vs hs=zXu C L (put fr d v) rest vs hs (zHx C L o (zmo u fr) ((hs.take (y+1)).drop x) v):=rfl
@[simp] theorem zSJ (o:ROp) (u:List Nat) (x y:Nat) (d:Option Nat) (v:zaa) (rest:List AI) (vs:List zaa) (hs:List zab):
    zU5 C L fr false o u x y d v rest vs hs=zrn C L rest vs (put fr d v) hs:=rfl
theorem zOM (d:Option Nat) (o:ROp) (g:Option (Nat × Bool)) (rest:List AI) (u:List Nat) (x y:Nat) (v:zaa) (vs:List zaa) (hs:List zab):
    zrn C L (⟨d,.r o,g,u,x,y⟩ :: rest) (v :: vs) fr hs=zU5 C L fr (zcb fr g&&decide (x < y)) o u x y d v rest vs hs:=by
  rw [zrn.eq_def];rfl
@[simp] theorem zWM (d:Option Nat) (o:ROp) (rest:List AI) (u:List Nat) (x y:Nat) (v:zaa) (vs:List zaa) (hs:List zab):
    zrn C L (⟨d,.r o,none,u,x,y⟩ :: rest) (v :: vs) fr hs=zU5 C L fr (decide (x < y)) o u x y d v rest vs hs:=by
  rw [zOM];simp [zcb]
@[simp] theorem zWN (d:Option Nat) (o:ROp) (t:Nat) (b:Bool) (rest:List AI) (u:List Nat) (x y:Nat) (v:zaa) (vs:List zaa) (hs:List zab):
    zrn C L (⟨d,.r o,some (t,b),u,x,y⟩ :: rest) (v :: vs) fr hs=zU5 C L fr (zNI (fr t) b&&decide (x < y)) o u x y d v rest vs hs:=by
  rw [zOM];rfl
@[simp] theorem zVz (o:ROp) (v:zaa):zHx C L o fr [] v=some ():=by rw [zHx.eq_def]
open Classical in
def zWO (o:ROp) (hs:List zab) (v:zaa) (u:Option zaa):Option Unit:=u.bind fun u=>if u=v then zHx C L o fr hs v else none
@[simp] theorem zTa (o:ROp) (hs:List zab) (v:zaa):zWO C L fr o hs v (some v)=zHx C L o fr hs v:=by simp [zWO]
@[simp] theorem zTb (o:ROp) (v:zaa) (h:zab) (hs:List zab):zHx C L o fr (h :: hs) v=zWO C L fr o hs v (zos C L o fr h):=by rw [zHx.eq_def];rfl
theorem zMc {f:FuncId} {F:AFn} (hx:C.ext f=none) (hf:C.fns f=some F) (args:List zaa):zag C L f args h=
    (zqq (C.mode f) h args).bind fun a => (run C (zjb (C.mode f) L h) F.code (fun i => a.1.getD i zb5) h).bind fun r =>
      if (r.1=.normal∨r.1=.ret)∧a.1.length≤F.n then
        (zwP r.2.1 r.2.2 F.res).bind fun vs=>(zwR (C.mode f) h r.2.2 (zEl vs)).bind fun o=>if (a.2&&!o.1.flat)=true then none else some o
      else none:=by
  rw [zag.eq_def]
  simp only [hx,hf,bind,Option.bind_some]
theorem zsV {f : FuncId} {g : zQZ} (hx : C.ext f = some g) (args : List zaa) : zag C L f args h = (g.pre L args h).bind fun q => match q with
    | .inl r=>some r
    | .inr q=>(zag C L q.1 q.2.1 q.2.2).bind fun r=>g.post args r.1 r.2:=by
  rw [zag.eq_def]
  simp only [hx,bind]
  congr 1
end
end Go.Av
namespace Go.Av
section
variable (C:Ctx) (fr:Fr)
theorem zP6 (d:Nat) (v:zaa) (i:Nat):upd fr d v i=ifK (i==d) v (fr i):=by
  unfold upd ifK
  by_cases h:i=d
  · subst h;simp
  · simp [h]
attribute [simp] zP6
def zzh:zaa→Option zaa
  | .tup _=>none
  | .agg cs=>some (.vptr cs 0)
  | v=>some (.vptr [v] 0)
theorem zP5 (x:AO):zdY C fr (.boxv x)=zzh (C.ev fr x):=by
  simp only [zdY]
  cases C.ev fr x <;> simp [zzh,zaa.okV,zaa.cells]
theorem zTu (x:AO):zdY C fr (.mv x)=some (C.ev fr x):=by simp only [zdY]
def zP7 (c:Option Bool) (a b:zaa):Option zaa:=c.map fun t=>ifK t a b
@[simp] theorem zR4 (t:Bool) (a b:zaa):zP7 (some t) a b=some (ifK t a b):=by unfold zP7;exact rfl
theorem zMu (c a b:AO):zdY C fr (.pick c a b)=zP7 (zKj (C.ev fr c)) (C.ev fr a) (C.ev fr b):=by
  simp only [zdY]
  cases C.ev fr c <;> rfl
theorem zP9 (op:BinOp) (x y:AO):zdY C fr (.bin op x y)=zdj op (C.ev fr x) (C.ev fr y):=by simp only [zdY]
theorem zTw (c : zSj) (n : Bool) (x y : AO) : zdY C fr (.eq c n x y) = (eqA c (C.ev fr x) (C.ev fr y)).map fun b => .bool (n ^^ b) := by
  simp only [zdY]
  cases n <;> cases eqA c (C.ev fr x) (C.ev fr y) <;> simp
def zWS:zaa→Option zaa
  | .bool b=>some (.bool !b)
  | _=>none
theorem zQb (x:AO):zdY C fr (.un .not x)=zWS (C.ev fr x):=by
  simp only [zdY]
  cases C.ev fr x <;> rfl
theorem zQe (x:AO):zdY C fr (.un .neg x)=unA .neg (C.ev fr x):=by simp only [zdY]
def zMA (k:IntKind):zaa→Option zaa
  | .int _ n=>some (.int k (k.wrap n))
  | _=>none
theorem zQi (k:IntKind) (x:AO):zdY C fr (.i2i k x)=zMA k (C.ev fr x):=by
  simp only [zdY];cases C.ev fr x <;> rfl
def zWT:zaa→Option ByteArray
  | .str s=>some s
  | _=>none
theorem zMC (x : AO) : zdY C fr (.lenS x) = (zWT (C.ev fr x)).map fun s => .int .i64 s.size := by
  simp only [zdY];cases C.ev fr x <;> rfl
theorem zME (x:AO):zdY C fr (.lenL x)=(zBV (C.ev fr x)).map fun (n:Nat)=>zaa.int .i64 (n:Int):=by simp only [zdY]
theorem zMF (t:TypeId) (x:AO):zdY C fr (.mkif t x)=some (.iface t (C.ev fr x)):=by simp only [zdY]
theorem zMG (f:Fn) (a b:List AO):zdY C fr (.mkfn f a b)=some (.fn f (a.map (C.ev fr)) (b.map (C.ev fr))):=by simp only [zdY]
theorem zI1 (k:SK) (sz:Nat) (x:AO) (lo hi mx:Option AO):zdY C fr (.slice k sz x lo hi mx)=zhU k sz (C.ev fr x) (lo.map (C.ev fr)) (hi.map (C.ev fr)) (mx.map (C.ev fr)):=by simp only [zdY]
def zCf (off:Nat):zaa→Option zaa
  | .ptr b o=>some (.ptr b (o+off))
  | .vptr cs o=>some (.vptr cs (o+off))
  | _=>none
theorem zNW (off:Nat) (x:AO):zdY C fr (.fadr off x)=zCf off (C.ev fr x):=by
  simp only [zdY];cases C.ev fr x <;> rfl
def zLG:zaa→Option zaa
  | .ptr b o=>some (.ptr b o)
  | .vptr cs o=>some (.vptr cs o)
  | .iface t v=>some (.iface t v)
  | _=>none
theorem zRh (x:AO):zdY C fr (.nck x)=zLG (C.ev fr x):=by
  simp only [zdY];cases C.ev fr x <;> rfl
def zYn (off sz:Nat) (agg:Bool):zaa→Option zaa
  | .agg cs=>zb2 agg cs off sz
  | _=>none
theorem zNY (a:Option Nat) (sz:Nat) (x i:AO):zdY C fr (.iadr a sz x i)=zcP a sz (C.ev fr x) (C.ev fr i):=by simp only [zdY]
def zWd (len sz:Nat) (agg:Bool):zaa→zaa→Option zaa
  | .agg cs,.int _ i=>if 0≤i∧i < len then zb2 agg cs (i.toNat*sz) sz else none
  | _,_=>none
theorem zNZ (len sz:Nat) (agg:Bool) (x i:AO):zdY C fr (.idxA len sz agg x i)=zWd len sz agg (C.ev fr x) (C.ev fr i):=by
  simp only [zdY]
  generalize C.ev fr x=a
  generalize C.ev fr i=b
  cases a <;> cases b <;> rfl
def zRl:zaa→zaa→Option zaa
  | .str s,.int _ i=>if 0≤i then (s.data.toList[i.toNat]?).map fun b=>.int .u8 b.toNat else none
  | _,_=>none
theorem zN0 (x i:AO):zdY C fr (.idxS x i)=zRl (C.ev fr x) (C.ev fr i):=by
  simp only [zdY]
  generalize C.ev fr x=a
  generalize C.ev fr i=b
  cases a <;> cases b <;> rfl
def zUH (i:Nat):zaa→Option zaa
  | .tup vs=>vs[i]?
  | _=>none
theorem zRo (x:AO) (i:Nat):zdY C fr (.ext x i)=zUH i (C.ev fr x):=by
  simp only [zdY];cases C.ev fr x <;> rfl
def zRp (n:Nat):zaa→Option zaa
  | .sl b off _ len _=>if n≤len then some (.ptr b off) else none
  | .vsl _ es=>if n≤es.length∧0 < n then some (.vptr (es.take n).flatten 0) else none
  | .gsl _ es=>if n≤es.length∧0 < n then some (.vptr (es.take n).flatten 0) else none
  | _=>none
theorem zRr (n:Nat) (x:AO):zdY C fr (.s2a n x)=zRp n (C.ev fr x):=by
  simp only [zdY];cases C.ev fr x <;> rfl
theorem zKN (z : List zaa) (ps : List (Nat × Nat × AO)) : zdY C fr (.build z ps) = (zaA z (ps.map fun p => (p.1, p.2.1, C.ev fr p.2.2))).map .agg := by
  simp only [zdY];cases zaA z (ps.map fun p=>(p.1,p.2.1,C.ev fr p.2.2)) <;> rfl
theorem zN4 (sz len : Nat) (z : List zaa) (ps : List (Nat × AO)) : zdY C fr (.slit sz len z ps) = (zaA (rep z len) (ps.map fun p => (p.1 * sz, sz, C.ev fr p.2))).map fun cs => .vsl true (chunks sz len cs) := by
  simp only [zdY];cases zaA (rep z len) (ps.map fun p=>(p.1*sz,sz,C.ev fr p.2)) <;> rfl
theorem zN5 (m:Bool) (x:AO) (xs:List AO):zdY C fr (.mxmn m (x :: xs))=zu9 m (C.ev fr x) (xs.map (C.ev fr)):=by simp only [zdY,List.map_cons]
end
section
variable (k:IntKind) (a b:Int)
@[simp] theorem zWg (cs:List zaa):zzh (.agg cs)=some (.vptr cs 0):=by unfold zzh;exact rfl
@[simp] theorem zUO (b:Bool):zWS (.bool b)=some (.bool !b):=by unfold zWS;exact rfl
@[simp] theorem zdV (k':IntKind):zMA k' (.int k a)=some (.int k' (k'.wrap a)):=by unfold zMA;exact rfl
@[simp] theorem zWk (s:ByteArray):zWT (.str s)=some s:=by unfold zWT;exact rfl
@[simp] theorem zWl (c:Bool) (es:List (List zaa)):zBV (.vsl c es)=some es.length:=by unfold zBV;exact rfl
@[simp] theorem zXl (x off sz n:Nat) (c:Option Nat):zBV (.sl x off sz n c)=some n:=by unfold zBV;exact rfl
@[simp] theorem zUQ (off x o:Nat):zCf off (.ptr x o)=some (.ptr x (o+off)):=by unfold zCf;exact rfl
@[simp] theorem zSF (off o:Nat) (cs:List zaa):zCf off (.vptr cs o)=some (.vptr cs (o+off)):=by unfold zCf;exact rfl
@[simp] theorem zWm (x o:Nat):zLG (.ptr x o)=some (.ptr x o):=by unfold zLG;exact rfl
@[simp] theorem zXn (t:TypeId) (v:zaa):zLG (.iface t v)=some (.iface t v):=by unfold zLG;exact rfl
@[simp] theorem zUU (o:Nat) (cs:List zaa):zLG (.vptr cs o)=some (.vptr cs o):=by unfold zLG;exact rfl
@[simp] theorem zWn (i:Nat) (vs:List zaa):zUH i (.tup vs)=vs[i]?:=by unfold zUH;exact rfl
@[simp] theorem zRE:zdj .add (.int k a) (.int k b)=some (.int k (k.wrap (a+b))):=by simp [zdj,ziI]
@[simp] theorem zEn:zdj .sub (.int k a) (.int k b)=some (.int k (k.wrap (a - b))):=by simp [zdj,ziI]
@[simp] theorem zRG:zdj .mul (.int k a) (.int k b)=some (.int k (k.wrap (a*b))):=by simp [zdj,ziI]
theorem zc9 (h:b≠0):zdj .quo (.int k a) (.int k b)=some (.int k (k.wrap (a.tdiv b))):=by simp [zdj,ziI,h]
theorem zbs (h:b≠0):zdj .rem (.int k a) (.int k b)=some (.int k (a.tmod b)):=by simp [zdj,ziI,h]
@[simp] theorem zov:zdj .and (.int k a) (.int k b)=some (.int k (k.wrap (BitVec.ofInt k.bits a&&&BitVec.ofInt k.bits b).toNat)):=by simp [zdj,ziI]
@[simp] theorem zK4:zdj .or (.int k a) (.int k b)=some (.int k (k.wrap (BitVec.ofInt k.bits a|||BitVec.ofInt k.bits b).toNat)):=by simp [zdj,ziI]
@[simp] theorem zRI:zdj .xor (.int k a) (.int k b)=some (.int k (k.wrap (BitVec.ofInt k.bits a ^^^ BitVec.ofInt k.bits b).toNat)):=by simp [zdj,ziI]
@[simp] theorem zHb:zdj .andNot (.int k a) (.int k b)=some (.int k (k.wrap (BitVec.ofInt k.bits a&&&~~~ (BitVec.ofInt k.bits b)).toNat)):=by simp [zdj,ziI]
@[simp] theorem zqr:zdj .eql (.int k a) (.int k b)=some (.bool (a==b)):=by simp [zdj,ziI]
@[simp] theorem zuz:zdj .neq (.int k a) (.int k b)=some (.bool (a !=b)):=by simp [zdj,ziI]
@[simp] theorem zAd:zdj .lss (.int k a) (.int k b)=some (.bool (decide (a < b))):=by simp [zdj,ziI]
@[simp] theorem zXs:zdj .leq (.int k a) (.int k b)=some (.bool (decide (a≤b))):=by simp [zdj,ziI]
@[simp] theorem zK8:zdj .gtr (.int k a) (.int k b)=some (.bool (decide (a > b))):=by simp [zdj,ziI]
@[simp] theorem zhE:zdj .geq (.int k a) (.int k b)=some (.bool (decide (a≥b))):=by simp [zdj,ziI]
@[simp] theorem zuA (k':IntKind):zdj .shl (.int k a) (.int k' b)=zrH .shl k a b:=by simp [zdj]
@[simp] theorem zfH (k':IntKind):zdj .shr (.int k a) (.int k' b)=zrH .shr k a b:=by simp [zdj]
@[simp] theorem zWo (s t:ByteArray):zdj .eql (.str s) (.str t)=some (.bool (s==t)):=by simp [zdj]
@[simp] theorem zWp (s t:ByteArray):zdj .neq (.str s) (.str t)=some (.bool !(s==t)):=by simp [zdj]
@[simp] theorem zWq (x y:Bool):eqA .bool (.bool x) (.bool y)=some (x==y):=by simp [eqA]
@[simp] theorem zEr (sh:List CK) (xs ys:List zaa):eqA (.agg sh) (.agg xs) (.agg ys)=zct sh xs ys:=by simp [eqA]
theorem zat (cs:List zaa) (off n:Nat):zb2 false cs off n=cs[off]?:=by unfold zb2;simp
theorem zCu {cs:List zaa} {n:Nat} (h:cs.length=n):zb2 true cs 0 n=some (.agg cs):=by
  unfold zb2;subst h;simp
@[simp] theorem zSI (h:zab) (cs:List zaa) (off n:Nat) (g:Bool):zo5 h (.vptr cs off) n g=zb2 g cs off n:=by unfold zo5;exact rfl
theorem zCw:∀ (cs pre old:List zaa),old.length=cs.length→setAt (pre++old) pre.length cs=pre++cs
  | [],pre,old,h=>by simp at h;subst h;rfl
  | c :: cs,pre,[],h=>by simp at h
  | c :: cs, pre, x :: old, h => by
    have:=zCw cs (pre++[c]) old (by simpa using h)
    simp only [setAt]
    rw [List.set_append_right _ _ (Nat.le_refl _),Nat.sub_self,List.set_cons_zero]
    simpa using this
theorem zFM {cs old:List zaa} (h:old.length=cs.length):setAt old 0 cs=cs:=zCw cs [] old h
@[simp] theorem zvG (cs:List zaa) (off:Nat) (v:zaa):setAt cs off [v]=cs.set off v:=by simp only [setAt]
def hx (h:zab) (bs:List (List zaa)) (ts:List Nat):zab:=⟨h.blks++bs,h.toks++ts⟩
theorem zAM (h:zab):hx h [] []=h:=by simp [hx]
def pA (n i off:Nat):zaa:=.ptr (n+i) off
def sA (n i off sz len:Nat) (cap:Option Nat):zaa:=.sl (n+i) off sz len cap
def gA (n i:Nat) (es:List (List zaa)):zaa:=.gsl (n+i) es
def zak (h:zab):Lim:=⟨h.blks.length,h.toks.length,h.blks.length,h.toks.length⟩
variable (h:zab) (bs:List (List zaa)) (ts:List Nat) (L:Lim)
@[simp] theorem zVn (n off i o:Nat):zCf off (pA n i o)=some (pA n i (o+off)):=by unfold zCf pA;exact rfl
@[simp] theorem zWy (n i o:Nat):zLG (pA n i o)=some (pA n i o):=by unfold zLG pA;exact rfl
def zLN (cs:Option (List zaa)) (g:Bool) (off n:Nat):Option zaa:=cs.bind fun cs=>zb2 g cs off n
@[simp] theorem zFR (cs:List zaa) (g:Bool) (off n:Nat):zLN (some cs) g off n=zb2 g cs off n:=by unfold zLN;exact rfl
@[simp] theorem zEC (i off n:Nat) (g:Bool):zo5 (hx h bs ts) (pA h.blks.length i off) n g=zLN bs[i]? g off n:=by
  unfold zo5 pA hx zLN
  simp only
  rw [List.getElem?_append_right (Nat.le_add_right _ _),Nat.add_sub_cancel_left]
def stI (h:zab) (bs:List (List zaa)) (ts:List Nat) (i off:Nat) (cs old:List zaa) (b:Bool):Option zab:=if b=true then some (hx h (bs.set i (setAt old off cs)) ts) else none
@[simp] theorem zvg (i off:Nat) (cs old:List zaa):stI h bs ts i off cs old true=some (hx h (bs.set i (setAt old off cs)) ts):=by unfold stI;exact rfl
def stO (h:zab) (bs:List (List zaa)) (ts:List Nat) (i off:Nat) (cs:List zaa) (old:Option (List zaa)):Option zab:=old.bind fun old=>stI h bs ts i off cs old (decide (off+cs.length≤old.length))
@[simp] theorem zvh (i off:Nat) (cs old:List zaa):stO h bs ts i off cs (some old)=stI h bs ts i off cs old (decide (off+cs.length≤old.length)):=by unfold stO;exact rfl
@[simp] theorem zST (i off:Nat) (cs:List zaa) (r1 r2 r3 r4:Nat) (h1:r1≤h.blks.length) (h3:r3≤h.blks.length):
    zc2 ⟨r1,r2,r3,r4⟩ (hx h bs ts) (pA h.blks.length i off) cs=stO h bs ts i off cs bs[i]?:=by
  unfold zc2 pA stO stI hx
  simp only
  rw [List.getElem?_append_right (Nat.le_add_right _ _),Nat.add_sub_cancel_left]
  cases bs[i]? with
  | none=>rfl
  | some old=>
    simp only [Option.bind_some]
    by_cases hc:off+cs.length≤old.length
    · rw [if_pos ⟨by omega, hc, .inl (by omega)⟩, if_pos (by simpa using hc)]
      rw [List.set_append_right _ _ (Nat.le_add_right _ _),Nat.add_sub_cancel_left]
    · rw [if_neg (fun h=>hc h.2.1),if_neg (by simpa using hc)]
@[simp] theorem zRZ (C:Ctx) (fr:Fr) (z:List zaa):zkM C L fr (hx h bs ts) (.alloc z)=some (pA h.blks.length bs.length 0,hx h (bs++[z]) ts):=by
  simp only [zkM]
  simp [hx,pA,push]
theorem zbX (C:Ctx) (fr:Fr) (x:AO) (hv:(C.ev fr x).okV=true):zkM C L fr (hx h bs ts) (.box x)=some (pA h.blks.length bs.length 0,hx h (bs++[(C.ev fr x).cells]) ts):=by
  simp only [zkM,hv,if_true]
  simp [hx,pA,push]
def stM (r:Option zab):Option (zaa × zab):=r.map fun h=>(zb5,h)
@[simp] theorem zVp:stM (some h)=some (zb5,h):=by unfold stM;exact rfl
def stK (L:Lim) (h:zab) (n:Nat) (p v:zaa):Option (zaa × zab):=if (decide (v.cells.length=n)&&v.okV)=true then stM (zc2 L h p v.cells) else none
@[simp] theorem zWA (C:Ctx) (fr:Fr) (n:Nat) (x y:AO):zkM C L fr h (.st n x y)=stK L h n (C.ev fr x) (C.ev fr y):=by
  simp only [zkM,stK,stM]
  by_cases h1:(C.ev fr y).cells.length=n <;> cases h2:(C.ev fr y).okV <;> simp [h1,h2]
@[simp] theorem zWB (p:zaa):stK L h 1 p (.int k a)=stM (zc2 L h p [.int k a]):=by simp [stK,zaa.cells,zaa.okV]
@[simp] theorem zVr (p:zaa) (b:Bool):stK L h 1 p (.bool b)=stM (zc2 L h p [.bool b]):=by simp [stK,zaa.cells,zaa.okV]
@[simp] theorem zPy (p:zaa) (c:Bool) (es:List (List zaa)):stK L h 1 p (.vsl c es)=stM (zc2 L h p [.vsl c es]):=by simp [stK,zaa.cells,zaa.okV]
@[simp] theorem zXD (p:zaa) (n i:Nat) (es:List (List zaa)):stK L h 1 p (gA n i es)=stM (zc2 L h p [gA n i es]):=by simp [stK,gA,zaa.cells,zaa.okV]
theorem zPA {cs:List zaa} {n:Nat} (p:zaa) (hn:cs.length=n):stK L h n p (.agg cs)=stM (zc2 L h p cs):=by simp [stK,zaa.cells,zaa.okV,hn]
@[simp] theorem zR0:zjb Mode.pure L h=zak h:=by simp [zjb,Mode.pure,zak]
@[simp] theorem zqA (args:List zaa):zqq Mode.pure h args=znk h args:=by simp [zqq,Mode.pure]
@[simp] theorem zqB:znk h []=some ([],false):=by simp only [znk]
def fzK (a:Option (zaa × Bool)) (b:Option (List zaa × Bool)):Option (List zaa × Bool):=a.bind fun a=>b.bind fun b=>some (a.1 :: b.1,a.2||b.2)
@[simp] theorem zvi (v:zaa) (c:Bool) (vs:List zaa) (d:Bool):fzK (some (v,c)) (some (vs,d))=some (v :: vs,c||d):=by unfold fzK;exact rfl
@[simp] theorem znP (v:zaa) (vs:List zaa):znk h (v :: vs)=fzK (fzA h v) (znk h vs):=by simp only [znk,fzK,bind]
@[simp] theorem zWC:fzA h (.int k a)=some (.int k a,false):=by simp only [fzA]
@[simp] theorem zjZ (c:Bool) (es:List (List zaa)):fzA h (.vsl c es)=some (.vsl false es,false):=by simp only [fzA]
@[simp] theorem zS0 (n i:Nat) (es:List (List zaa)):fzA h (gA n i es)=some (.vsl false es,false):=by simp only [gA,fzA]
@[simp] theorem zPD:fzA h .nsl=some (.vsl false [],false):=by simp only [fzA]
@[simp] theorem zWH (x o:Nat):fzA h (.ptr x o)=some (.ptr x o,false):=by simp only [fzA]
theorem zvO {cs:List zaa} (hc:zdE cs=true):fzA h (.agg cs)=some (.agg cs,false):=by simp only [fzA,hc,if_true]
def zyX (a:Option zaa) (b:Option (List zaa)):Option (List zaa):=a.bind fun a=>b.map fun b=>a :: b
@[simp] theorem zR1 (v:zaa) (vs:List zaa):zyX (some v) (some vs)=some (v :: vs):=by unfold zyX;exact rfl
@[simp] theorem zVu (fr:Fr):zwP fr h []=some []:=by simp only [zwP]
@[simp] theorem zVv (fr:Fr) (t:Nat) (rs:List zBS):zwP fr h (.tmp t :: rs)=zyX (some (fr t)) (zwP fr h rs):=by
  simp only [zwP,zyX,bind,Option.bind_some]
  cases zwP fr h rs <;> rfl
@[simp] theorem zS2 (fr:Fr) (t n:Nat) (g:Bool) (rs:List zBS):zwP fr h (.cell t n g :: rs)=zyX (zo5 h (fr t) n g) (zwP fr h rs):=by
  simp only [zwP,zyX,bind]
  cases zo5 h (fr t) n g <;> cases zwP fr h rs <;> rfl
@[simp] theorem zVw:zEl []=.tup []:=by simp only [zEl]
@[simp] theorem zVx (v:zaa):zEl [v]=v:=by simp only [zEl]
@[simp] theorem zVy (v w:zaa) (vs:List zaa):zEl (v :: w :: vs)=.tup (v :: w :: vs):=by simp only [zEl]
def zPI (c:Bool) (o:Option (zaa × zab)):Option (zaa × zab):=o.bind fun o=>if (c&&!o.1.flat)=true then none else some o
@[simp] theorem zFZ (o:Option (zaa × zab)):zPI false o=o:=by unfold zPI;cases o <;> simp
theorem zAU (v:zaa) (hv:v.flat=true):zPI true (some (v,h))=some (v,h):=by simp [zPI,hv]
def zR2 (m:Mode) (h:zab) (c:Bool) (h1:zab) (vs:Option (List zaa)):Option (zaa × zab):=vs.bind fun vs=>zPI c (zwR m h h1 (zEl vs))
@[simp] theorem zS5 (m:Mode) (c:Bool) (h1:zab) (vs:List zaa):zR2 m h c h1 (some vs)=zPI c (zwR m h h1 (zEl vs)):=by unfold zR2;exact rfl
def zPO (b:Bool) (m:Mode) (h:zab) (res:List zBS) (c:Bool) (fr:Fr) (h1:zab):Option (zaa × zab):=if b=true then zR2 m h c h1 (zwP fr h1 res) else none
@[simp] theorem zS8 (m:Mode) (res:List zBS) (c:Bool) (fr:Fr) (h1:zab):zPO true m h res c fr h1=zR2 m h c h1 (zwP fr h1 res):=by unfold zPO;exact rfl
def zLD (m:Mode) (h:zab) (n:Nat) (res:List zBS) (as:List zaa) (c:Bool) (r:Option (AEx × Fr × zab)):Option (zaa × zab):=
  r.bind fun r=>zPO (decide ((r.1=.normal∨r.1=.ret)∧as.length≤n)) m h res c r.2.1 r.2.2
@[simp] theorem zVD (m:Mode) (n:Nat) (res:List zBS) (as:List zaa) (c:Bool) (fr:Fr) (h1:zab):zLD m h n res as c (some (.ret,fr,h1))=zPO (decide (as.length≤n)) m h res c fr h1:=by
  simp [zLD]
@[simp] theorem zQk (m:Mode) (n:Nat) (res:List zBS) (as:List zaa) (c:Bool) (fr:Fr) (h1:zab):zLD m h n res as c (some (.normal,fr,h1))=zPO (decide (as.length≤n)) m h res c fr h1:=by
  simp [zLD]
def frm (as:List zaa):Fr:=fun i=>as.getD i zb5
@[simp] theorem zXQ (as:List zaa) (i:Nat):frm as i=as.getD i zb5:=by unfold frm;exact rfl
noncomputable def zI2 (C:Ctx) (L:Lim) (m:Mode) (h:zab) (n:Nat) (code:AC) (res:List zBS) (a:Option (List zaa × Bool)):Option (zaa × zab):=
  a.bind fun a=>zLD m h n res a.1 a.2 (run C (zjb m L h) code (frm a.1) (hx h [] []))
@[simp] theorem zqK (C:Ctx) (m:Mode) (n:Nat) (code:AC) (res:List zBS) (as:List zaa) (c:Bool):zI2 C L m h n code res (some (as,c))=zLD m h n res as c (run C (zjb m L h) code (frm as) (hx h [] [])):=by unfold zI2;exact rfl
theorem zad {C:Ctx} {f:FuncId} {n:Nat} {code:AC} {res:List zBS} (hx':C.ext f=none) (hf:C.fns f=some ⟨n,code,res⟩) (args:List zaa):zag C L f args h=
    zI2 C L (C.mode f) h n code res (zqq (C.mode f) h args):=by
  rw [zMc C L h hx' hf args]
  unfold zI2 zLD zPO zR2 zPI frm
  rw [zAM]
  cases zqq (C.mode f) h args with
  | none=>rfl
  | some a=>
    simp only [Option.bind_some]
    cases run C (zjb (C.mode f) L h) code (fun i=>a.1.getD i zb5) h with
    | none=>rfl
    | some r=>
      simp only [Option.bind_some]
      by_cases hc:(r.1=.normal∨r.1=.ret)∧a.1.length≤n
      · rw [if_pos hc,if_pos (by simpa using hc)]
      · rw [if_neg hc,if_neg (by simpa using hc)]
def zBj (v:Option zaa) (h:zab):Option (zaa × zab):=v.map fun v=>(v,h)
@[simp] theorem zR5 (v:zaa):zBj (some v) h=some (v,h):=by unfold zBj;exact rfl
@[simp] theorem zTF (h1:zab) (v:zaa):zwR Mode.pure h h1 v=zBj (frz h1 h.blks.length h.toks.length 12 v) h:=by
  simp [zwR,Mode.pure,zBj]
section
variable (nb nt n:Nat)
@[simp] theorem zWW:frz h nb nt (n+1) (.int k a)=some (.int k a):=by simp only [frz]
@[simp] theorem zVE (b:Bool):frz h nb nt (n+1) (.bool b)=some (.bool b):=by simp only [frz]
@[simp] theorem zWY:frz h nb nt (n+1) .nsl=some (.vsl false []):=by simp only [frz]
theorem zhq (c:Bool) {es:List (List zaa)} (he:zaq nb nt es=true):frz h nb nt (n+1) (.vsl c es)=some (.vsl false es):=by simp [frz,zD7,he]
theorem zDz {t:Nat} {es:List (List zaa)} (ht:nt≤t) (he:zaq nb nt es=true):frz h nb nt (n+1) (.gsl t es)=some (.vsl false es):=by
  simp [frz,zD7,he];omega
theorem zzs {cs:List zaa} (hc:zdE cs=true):frz h nb nt (n+1) (.agg cs)=some (.agg cs):=by simp [frz,hc]
def zML (h:zab) (nb nt n:Nat):List zaa→Option (List zaa)
  | []=>some []
  | c :: cs=>zyX (frz h nb nt n c) (zML h nb nt n cs)
@[simp] theorem zVF:zML h nb nt n []=some []:=by unfold zML;exact rfl
@[simp] theorem zJa (c:zaa) (cs:List zaa):zML h nb nt n (c :: cs)=zyX (frz h nb nt n c) (zML h nb nt n cs):=by rw [zML]
theorem zJc:∀ cs:List zaa,cs.mapM (frz h nb nt n)=zML h nb nt n cs
  | []=>by simp
  | c :: cs => by
    rw [zJa,List.mapM_cons,zJc cs,zyX]
    cases frz h nb nt n c with
    | none=>rfl
    | some v=>cases zML h nb nt n cs <;> rfl
@[simp] theorem zWZ (cs:List zaa):frz h nb nt (n+1) (.tup cs)=(zML h nb nt n cs).map .tup:=by
  simp only [frz];rw [zJc]
end
@[simp] theorem zTG:zdE []=true:=by simp only [zdE]
@[simp] theorem zR6 (c:zaa) (cs:List zaa):zdE (c :: cs)=(c.flat&&zdE cs):=by simp only [zdE]
@[simp] theorem zVG:(zaa.int k a).flat=true:=by simp only [zaa.flat]
@[simp] theorem zVH (b:ByteArray):(zaa.str b).flat=true:=by simp only [zaa.flat]
attribute [simp] zP5 zTu zMu zP9 zTw zQb zQe zQi zMC zME zMF zMG zI1 zNW zRh zNY zNZ zN0 zRo zRr zKN zN4 zN5
attribute [simp] zat
end
end Go.Av
namespace Go.Av
def wr:AC→List Nat
  | .reg ops=>zbM ops
  | .draw ops=>zbM ops
  | .draw2 a _ _=>zbM a
  | .seq a b=>wr a++wr b
  | .cond _ a b=>wr a++wr b
  | .blk _ a=>wr a
  | .loop a=>wr a
  | .scope a=>wr a
  | _=>[]
theorem zBr {i:AI} {is:List AI} {t:Nat} (h:t∉zbM (i :: is)):i.dst≠some t∧t∉zbM is:=by
  simp only [zbM] at h
  cases hd:i.dst with
  | none=>rw [hd] at h;exact ⟨by simp,h⟩
  | some d=>rw [hd] at h;simp at h;exact ⟨by simp;exact fun e=>h.1 e.symm,h.2⟩
theorem zvr {fr:Fr} {d:Option Nat} {v:zaa} {t:Nat} (h:d≠some t):put fr d v t=fr t:=by
  cases d with
  | none=>rfl
  | some d=>
    have:t≠d:=fun e=>h (by rw [e])
    simp [put,upd,this]
theorem zHo {l:Nat}:∀ {a r:AC},zfs a l=some r→∀ t,t∈wr r→t∈wr a:=by
  intro a
  induction a with
  | seq a b ih1 ih2=>
    intro r h t ht
    simp only [zfs] at h
    split at h
    · rename_i r1 h1
      obtain rfl:=Option.some.inj h
      simp only [wr,List.mem_append] at ht ⊢
      exact ht.imp (ih1 h1 t) id
    · simp only [wr,List.mem_append]
      exact .inr (ih2 h t ht)
  | label l'=>
    intro r h t ht
    simp only [zfs] at h
    split at h
    · obtain rfl:=Option.some.inj h;simp [wr] at ht
    · simp at h
  | _=>intro r h;simp [zfs] at h
theorem zFI {C:Ctx} {L:Lim} {c:AC} {fr:Fr} {h:zab} {r:AEx × Fr × zab} (hv:run C L c fr h=some r):∀ t,t∉wr c→r.2.1 t=fr t:=by
  refine (zag.mutual_partial_correctness C
    (fun _ _ _ _ _=>True)
    (fun L c fr h r=>∀ t,t∉wr c→r.2.1 t=fr t)
    (fun L a e fr h r=>∀ t,t∉wr a→r.2.1 t=fr t)
    (fun _ _ _ _ _ _=>True) (fun _ _ _ _ _ _=>True) (fun _ _ _ _ _=>True)
    (fun L ops fr h r=>∀ t,t∉zbM ops→r.1 t=fr t)
    (fun _ _ _ _ _=>True) (fun _ _ _ _ _=>True)
    (fun L ops fr h r=>∀ t,t∉zbM ops→r.1 t=fr t)
    ?_ ?_ ?_ ?_ ?_ ?_ ?_ ?_ ?_ ?_).2.1 L c fr h r hv
  · intros;trivial
  · intro run zoM zrn znr zuy hrun hscope hchk hrunD hrunO L c fr h r hv t ht
    split at hv
    · obtain rfl:=Option.some.inj hv;rfl
    · obtain rfl:=Option.some.inj hv;rfl
    · obtain ⟨r1,hr1,hv⟩:=bind_some hv
      obtain rfl:=Option.some.inj hv
      exact hrunO _ _ _ _ _ hr1 t ht
    · obtain ⟨r1,hr1,hv⟩:=bind_some hv
      obtain ⟨u,hu,hv⟩:=bind_some hv
      obtain rfl:=Option.some.inj hv
      exact hrunD _ _ _ _ _ hr1 t ht
    · obtain ⟨r1,hr1,hv⟩:=bind_some hv
      obtain ⟨u,hu,hv⟩:=bind_some hv
      obtain ⟨r2,hr2,hv⟩:=bind_some hv
      obtain ⟨u2,hu2,hv⟩:=bind_some hv
      split at hv
      · obtain rfl:=Option.some.inj hv
        exact hrunD _ _ _ _ _ hr1 t ht
      · simp at hv
    · obtain ⟨r1,hr1,hv⟩:=bind_some hv
      simp only [wr,List.mem_append,not_or] at ht
      have k1:=hrun _ _ _ _ _ hr1 t ht.1
      split at hv
      · exact (hrun _ _ _ _ _ hv t ht.2).trans k1
      · obtain rfl:=Option.some.inj hv;exact k1
    · simp only [wr,List.mem_append,not_or] at ht
      split at hv
      · exact hrun _ _ _ _ _ hv t ht.1
      · exact hrun _ _ _ _ _ hv t ht.2
      · simp at hv
    · obtain ⟨r1,hr1,hv⟩:=bind_some hv
      have k1:=hrun _ _ _ _ _ hr1 t ht
      split at hv
      · obtain rfl:=Option.some.inj hv;exact k1
      · obtain rfl:=Option.some.inj hv;exact k1
    · obtain ⟨r1,hr1,hv⟩:=bind_some hv
      have k1:=hrun _ _ _ _ _ hr1 t ht
      split at hv
      · exact (hrun _ _ _ _ _ hv t ht).trans k1
      · obtain rfl:=Option.some.inj hv;exact k1
    · obtain rfl:=Option.some.inj hv;rfl
    · obtain ⟨r1,hr1,hv⟩:=bind_some hv
      exact (hscope _ _ _ _ _ _ hv t ht).trans (hrun _ _ _ _ _ hr1 t ht)
    · obtain rfl:=Option.some.inj hv;rfl
    · obtain rfl:=Option.some.inj hv;rfl
  · intro run zoM hrun hscope L a e fr h r hv t ht
    split at hv
    · split at hv
      · rename_i rest hl
        obtain ⟨r1,hr1,hv⟩:=bind_some hv
        exact (hscope _ _ _ _ _ _ hv t ht).trans (hrun _ _ _ _ _ hr1 t fun hx=>ht (zHo hl t hx))
      · obtain rfl:=Option.some.inj hv;rfl
    · obtain rfl:=Option.some.inj hv;rfl
  · intros;trivial
  · intros;trivial
  · intros;trivial
  · intro znr zux hrunD hstep1 L ops fr h r hv t ht
    split at hv
    · obtain rfl:=Option.some.inj hv;rfl
    · rename_i i rest
      obtain ⟨t1,t2⟩:=zBr ht
      split at hv
      · obtain ⟨r1,hr1,hv⟩:=bind_some hv
        obtain ⟨q,hq,hv⟩:=bind_some hv
        obtain rfl:=Option.some.inj hv
        exact (hrunD _ _ _ _ _ hq t t2).trans (zvr t1)
      · obtain ⟨q,hq,hv⟩:=bind_some hv
        obtain rfl:=Option.some.inj hv
        exact (hrunD _ _ _ _ _ hq t t2).trans (zvr t1)
  · intros;trivial
  · intros;trivial
  · intro zux zuy hstep1 hrunO L ops fr h r hv t ht
    split at hv
    · obtain rfl:=Option.some.inj hv;rfl
    · rename_i i rest
      obtain ⟨t1,t2⟩:=zBr ht
      split at hv
      · obtain ⟨r1,hr1,hv⟩:=bind_some hv
        exact (hrunO _ _ _ _ _ hv t t2).trans (zvr t1)
      · exact (hrunO _ _ _ _ _ hv t t2).trans (zvr t1)
theorem zaj (cs:List zaa) (n:Nat) (h:(cs.length==n)=true):zb2 true cs 0 n=some (.agg cs):=zCu (by simpa using h)
theorem zbp (L:Lim) (h:zab) (cs:List zaa) (n:Nat) (p:zaa) (hn:(cs.length==n)=true):stK L h n p (.agg cs)=stM (zc2 L h p cs):=zPA h L p (by simpa using hn)
theorem zai (cs old:List zaa) (h:(old.length==cs.length)=true):setAt old 0 cs=cs:=zFM (by simpa using h)
theorem zVe (k:IntKind) (a b:Int) (h:(decide (0≤b)&&decide (b≤k.bits))=true):zrH .shr k a b=some (.int k (a.fdiv (2 ^ b.toNat))):=by
  simp only [Bool.and_eq_true,decide_eq_true_eq] at h
  unfold zrH
  rw [if_neg (by omega),Nat.min_eq_left (by omega)]
theorem zYm (k:IntKind) (a b:Int) (h:(decide (0≤b)&&decide (b≤k.bits))=true):zrH .shl k a b=some (.int k (k.wrap (a*2 ^ b.toNat))):=by
  simp only [Bool.and_eq_true,decide_eq_true_eq] at h
  unfold zrH
  rw [if_neg (by omega),Nat.min_eq_left (by omega)]
@[simp] theorem wrap_zero (k:IntKind):k.wrap 0=0:=by cases k <;> decide
theorem wrap_i64 {n:Int} (h1: -9223372036854775808≤n) (h2:n≤9223372036854775807):IntKind.i64.wrap n=n:=by
  simp [IntKind.wrap,IntKind.signed,IntKind.bits];omega
theorem wrap_u64 {n:Int} (h1:0≤n) (h2:n≤18446744073709551615):IntKind.u64.wrap n=n:=by
  simp [IntKind.wrap,IntKind.signed,IntKind.bits];omega
theorem wrap_u8 {n:Int} (h1:0≤n) (h2:n≤255):IntKind.u8.wrap n=n:=by
  simp [IntKind.wrap,IntKind.signed,IntKind.bits];omega
def Ends {α:Type} (x:Option α) (P:α→Prop):Prop:=∃ r,x=some r∧P r
@[simp] theorem zVh {α:Type} (r:α) (P:α→Prop):Ends (some r) P↔P r:=by simp [Ends]
@[congr] theorem zSK {α:Type} {x y:Option α} (P:α→Prop) (h:x=y):Ends x P=Ends y P:=by rw [h]
def zEw (N k:Nat) (I:Nat→Fr→zab→Prop) (zxC:AEx→Fr→zab→Prop) (r:AEx × Fr × zab):Prop:=
  match r.1 with
  | .normal=>k < N∧I (k+1) r.2.1 r.2.2
  | e=>zxC e r.2.1 r.2.2
@[simp] theorem zuV (N k:Nat) (I:Nat→Fr→zab→Prop) (zxC:AEx→Fr→zab→Prop) (fr:Fr) (h:zab):zEw N k I zxC (.normal,fr,h)↔(k < N∧I (k+1) fr h):=by unfold zEw;exact Iff.rfl
@[simp] theorem zSL (N k:Nat) (I:Nat→Fr→zab→Prop) (zxC:AEx→Fr→zab→Prop) (i:Nat) (fr:Fr) (h:zab):zEw N k I zxC (.exit i,fr,h)↔zxC (.exit i) fr h:=by unfold zEw;exact Iff.rfl
@[simp] theorem zVk (N k:Nat) (I:Nat→Fr→zab→Prop) (zxC:AEx→Fr→zab→Prop) (fr:Fr) (h:zab):zEw N k I zxC (.ret,fr,h)↔zxC .ret fr h:=by unfold zEw;exact Iff.rfl
theorem zaf {C:Ctx} {L:Lim} {B:AC} {fr0:Fr} {h0:zab} {R:Option (AEx × Fr × zab)} (hF:run C L (.loop B) fr0 h0=R) (N:Nat) (I:Nat→Fr→zab→Prop) (zxC:AEx→Fr→zab→Prop) (hI:I 0 fr0 h0)
    (step:∀ k fr h,k≤N→(∀ t,t∉wr B→fr t=fr0 t)→I k fr h→Ends (run C L B fr h) (zEw N k I zxC)):
    ∃ e fr h,R=some (e,fr,h)∧zxC e fr h∧(∀ t,t∉wr B→fr t=fr0 t):=by
  subst hF
  have key:∀ m k fr h,N - k=m→k≤N→(∀ t,t∉wr B→fr t=fr0 t)→I k fr h→
      ∃ e fr' h',run C L (.loop B) fr h=some (e,fr',h')∧zxC e fr' h'∧(∀ t,t∉wr B→fr' t=fr0 t):=by
    intro m
    induction m with
    | zero=>
      intro k fr h hm hk hkeep hi
      obtain ⟨⟨e,fr1,h1⟩,hr,hp⟩:=step k fr h hk hkeep hi
      have hkp:=zFI hr
      rw [znc,hr]
      cases e with
      | normal=>have:=(zuV N k I zxC fr1 h1).1 hp;omega
      | exit i=>exact ⟨_,_,_,rfl,hp,fun t ht=>(hkp t ht).trans (hkeep t ht)⟩
      | goto l=>exact ⟨_,_,_,rfl,hp,fun t ht=>(hkp t ht).trans (hkeep t ht)⟩
      | ret=>exact ⟨_,_,_,rfl,hp,fun t ht=>(hkp t ht).trans (hkeep t ht)⟩
    | succ m ih=>
      intro k fr h hm hk hkeep hi
      obtain ⟨⟨e,fr1,h1⟩,hr,hp⟩:=step k fr h hk hkeep hi
      have hkp:=zFI hr
      rw [znc,hr]
      cases e with
      | normal=>
        have:=(zuV N k I zxC fr1 h1).1 hp
        exact ih (k+1) fr1 h1 (by omega) (by omega) (fun t ht=>(hkp t ht).trans (hkeep t ht)) this.2
      | exit i=>exact ⟨_,_,_,rfl,hp,fun t ht=>(hkp t ht).trans (hkeep t ht)⟩
      | goto l=>exact ⟨_,_,_,rfl,hp,fun t ht=>(hkp t ht).trans (hkeep t ht)⟩
      | ret=>exact ⟨_,_,_,rfl,hp,fun t ht=>(hkp t ht).trans (hkeep t ht)⟩
  exact key N 0 fr0 h0 rfl (Nat.zero_le _) (fun _ _=>rfl) hI
def gL (s:zaa) (n i:Nat) (es:List (List zaa)):zaa:=if es=[] then s else gA n i es
def gT (es:List (List zaa)):List Nat:=if es=[] then [] else [es.length]
theorem zVl {C:Ctx} {fr:Fr} {L:Lim} {h:zab} {bs:List (List zaa)} {sz:Nat} {x y:AO} {s:zaa} {es ys:List (List zaa)} (hs:s=.nsl∨s=.vsl true [])
    (hx':C.ev fr x=gL s h.toks.length 0 es) (hy:zaK (hx h bs (gT es)) sz (C.ev fr y)=some ys) (hstr:zlT sz (C.ev fr y)=true)
    (hsz:zh1 sz ys=true) (hse:zh1 sz es=true) (hr:L.rot≤h.toks.length) (hroom:es.length+ys.length < zam):
    zkM C L fr (hx h bs (gT es)) (.app sz false x y)=some (gL s h.toks.length 0 (es++ys),hx h bs (gT (es++ys))):=by
  simp only [zkM,bind,hy,Option.bind_some,hstr,if_true]
  rw [hx']
  unfold zEp
  rw [if_pos hsz]
  by_cases he:es=[]
  · subst he
    have h1:gL s h.toks.length 0 []=s:=by simp [gL]
    rw [h1]
    by_cases hy0:ys=[]
    · subst hy0
      rcases hs with rfl | rfl <;> simp [gL,gT,zh1]
    · have hroom' : ys.length < zam := by simpa using hroom
      rcases hs with rfl | rfl <;> simp [gL,gT,zh1,hy0,hroom',zgc,gA,hx,ptok]
  · have h1 : gL s h.toks.length 0 es = gA h.toks.length 0 es := by simp [gL, he]
    rw [h1]
    have h2:gT es=[es.length]:=by simp [gT,he]
    have h3:gL s h.toks.length 0 (es++ys)=gA h.toks.length 0 (es++ys):=by simp [gL,he]
    have h4:gT (es++ys)=[es.length+ys.length]:=by simp [gT,he]
    rw [h3,h2,h4]
    simp only [gA,Nat.add_zero]
    have h5:(hx h bs [es.length]).toks[h.toks.length]?=some es.length:=by simp [hx]
    rw [if_pos ⟨trivial,he,hse,hr,h5,hroom⟩]
    simp [hx]
def zqX (L:Lim) (h:zab) (sz:Nat) (ref:Bool) (x y:zaa):Option (zaa × zab):=
  (zaK h sz y).bind fun ys=>if zlT sz y=true then zEp L ref sz h x ys else none
@[simp] theorem zOE (C:Ctx) (fr:Fr) (L:Lim) (h:zab) (sz:Nat) (ref:Bool) (x y:AO):zkM C L fr h (.app sz ref x y)=zqX L h sz ref (C.ev fr x) (C.ev fr y):=by
  simp only [zkM,zqX,bind]
theorem zAB {L:Lim} {h:zab} {bs:List (List zaa)} {sz:Nat} {s y:zaa} {es ys:List (List zaa)} (hs:s=.nsl∨s=.vsl true [])
    (hy:zaK (hx h bs (gT es)) sz y=some ys) (hstr:zlT sz y=true) (hsz:zh1 sz ys=true) (hse:zh1 sz es=true) (hr:L.rot≤h.toks.length) (hroom:es.length+ys.length < zam):
    zqX L (hx h bs (gT es)) sz false (gL s h.toks.length 0 es) y=some (gL s h.toks.length 0 (es++ys),hx h bs (gT (es++ys))):=by
  let C:Ctx:={fns:=fun _=>none,mode:=fun _=>Mode.pure,glob:=fun _=>none,meth:=fun _ _=>none,ext:=fun _=>none}
  have:=zVl (C:=C) (fr:=fun _=>zb5) (x:=.k (gL s h.toks.length 0 es)) (y:=.k y) hs rfl hy hstr hsz hse hr hroom
  rw [zOE] at this
  exact this
theorem zw1 (L:Lim) (h:zab) (bs:List (List zaa)) (sz:Nat) (c:Bool) (es ys:List (List zaa))
    (hc:(zh1 sz ys&&zh1 sz es&&decide (L.rot≤h.toks.length)&&decide (es.length+ys.length < zam))=true):
    zqX L (hx h bs (gT es)) sz false (gL .nsl h.toks.length 0 es) (.vsl c ys)=some (gL .nsl h.toks.length 0 (es++ys),hx h bs (gT (es++ys))):=by
  simp only [Bool.and_eq_true,decide_eq_true_eq] at hc
  exact zAB (.inl rfl) (by simp only [zaK]) (by simp only [zlT]) hc.1.1.1 hc.1.1.2 hc.1.2 hc.2
theorem zsJ (L:Lim) (h:zab) (bs:List (List zaa)) (sz:Nat) (c:Bool) (es ys:List (List zaa))
    (hc:(zh1 sz ys&&zh1 sz es&&decide (L.rot≤h.toks.length)&&decide (es.length+ys.length < zam))=true):
    zqX L (hx h bs (gT es)) sz false (gL (.vsl true []) h.toks.length 0 es) (.vsl c ys)=some (gL (.vsl true []) h.toks.length 0 (es++ys),hx h bs (gT (es++ys))):=by
  simp only [Bool.and_eq_true,decide_eq_true_eq] at hc
  exact zAB (.inr rfl) (by simp only [zaK]) (by simp only [zlT]) hc.1.1.1 hc.1.1.2 hc.1.2 hc.2
theorem zCF (L:Lim) (h:zab) (bs:List (List zaa)) (ts:List Nat) (sz:Nat) (c:Bool) (es ys:List (List zaa))
    (hc:(zh1 sz ys&&zh1 sz es&&decide (es.length+ys.length < zam)&&decide (0 < ys.length))=true):
    zqX L (hx h bs ts) sz false (.vsl true es) (.vsl c ys)=some (gA h.toks.length ts.length (es++ys),hx h bs (ts++[es.length+ys.length])):=by
  simp only [Bool.and_eq_true,decide_eq_true_eq] at hc
  have hy:ys≠[]:=fun e=>by have:=hc.2;simp [e] at this
  simp [zqX,zaK,zlT,zEp,hc.1.1.1,hc.1.1.2,hc.1.2,hy,zgc,gA,hx,ptok]
theorem zw2 (L:Lim) (h:zab) (bs:List (List zaa)) (ts:List Nat) (sz i:Nat) (c:Bool) (es ys:List (List zaa))
    (hc:(zh1 sz ys&&zh1 sz es&&decide (es.length+ys.length < zam)&&decide (0 < es.length)&&decide (L.rot≤h.toks.length)&&(ts[i]?==some es.length))=true):
    zqX L (hx h bs ts) sz false (gA h.toks.length i es) (.vsl c ys)=some (gA h.toks.length i (es++ys),hx h bs (ts.set i (es.length+ys.length))):=by
  simp only [Bool.and_eq_true,decide_eq_true_eq,beq_iff_eq] at hc
  obtain ⟨⟨⟨⟨⟨c1,c2⟩,c3⟩,c4⟩,c5⟩,c6⟩:=hc
  have he:es≠[]:=fun e=>by simp [e] at c4
  have h5:(hx h bs ts).toks[h.toks.length+i]?=some es.length:=by
    simp only [hx];rw [List.getElem?_append_right (Nat.le_add_right _ _),Nat.add_sub_cancel_left];exact c6
  simp only [zqX,zaK,zlT,zEp,gA,c1,c2,Option.bind_some,if_true]
  rw [if_pos ⟨trivial,he,by trivial,by omega,h5,c3⟩]
  simp only [hx]
  rw [List.set_append_right _ _ (Nat.le_add_right _ _),Nat.add_sub_cancel_left]
theorem zrM {h1:zab} {nb nt n:Nat} {s:zaa} {es:List (List zaa)} (hs:s=.nsl∨s=.vsl true []) (he:zaq nb nt es=true):frz h1 nb nt (n+1) (gL s nt 0 es)=some (.vsl false es):=by
  unfold gL
  split
  · rename_i h0
    subst h0
    rcases hs with rfl | rfl
    · simp
    · exact zhq h1 nb nt n true (by simp [zaq])
  · exact zDz h1 nb nt n (by simp) he
end Go.Av
namespace Go.Av
def eI (k:IntKind) (l:List Int):List (List zaa):=l.map fun n=>[.int k n]
@[simp] theorem zLj (k:IntKind) (l:List Int):(eI k l).length=l.length:=by simp [eI]
@[simp] theorem zAl (k:IntKind) (l:List Int):zh1 1 (eI k l)=true:=by cases l <;> simp [eI,zh1]
@[simp] theorem zOs (k:IntKind) (nb nt:Nat):∀ l:List Int,zaq nb nt (eI k l)=true
  | []=>by simp [eI,zaq]
  | x :: l => by
    have:=zOs k nb nt l
    simp only [eI] at this
    simp [eI,zaq,zap,zaa.under,this]
@[simp] theorem zCB (k:IntKind) (l m:List Int):eI k l++eI k m=eI k (l++m):=by simp [eI]
theorem zPn (k:IntKind) (l:List Int) (i:Nat):(eI k l)[i]?=(l[i]?).map fun n=>[.int k n]:=by simp [eI]
theorem zly (k:IntKind) (n:Int):[[zaa.int k n]]=eI k [n]:=rfl
theorem zLm (k:IntKind) (n:Int) (l:List Int):[zaa.int k n] :: eI k l=eI k (n :: l):=rfl
@[simp] theorem zYd (k:IntKind):eI k []=[]:=rfl
def bts (s:ByteArray):List Int:=s.data.toList.map fun b=>(b.toNat:Int)
theorem zRS (s:ByteArray):(s.data.toList.map fun b=>[zaa.int .u8 b.toNat])=eI .u8 (bts s):=by unfold bts eI;rw [List.map_map];rfl
@[simp] theorem zXx (s:ByteArray):(bts s).length=s.size:=by unfold bts;rw [List.length_map];rfl
@[simp] theorem zOy (sz:Nat) (x:List zaa):zh1 sz [x]=(x.length==sz):=rfl
abbrev zWu:Mode:=⟨false,false,false,true⟩
section
variable (L:Lim) (h:zab) (bs:List (List zaa)) (ts:List Nat)
def zxf (h:zab) (t n:Nat):zab:=⟨h.blks,h.toks.set t n⟩
@[simp] theorem zUz (t n:Nat):(zxf h t n).blks=h.blks:=rfl
@[simp] theorem zVq (t n:Nat):(zxf h t n).toks.length=h.toks.length:=by simp [zxf]
@[simp] theorem zEz:zit (hx h bs ts) h.blks.length h.toks.length=h:=by simp [zit,hx]
@[simp] theorem zTk (args:List zaa):zqq zWu h args=some (args,false):=by simp [zqq]
@[simp] theorem zUG:zjb zWu L h=⟨L.rob,L.rot,h.blks.length,h.toks.length⟩:=by simp [zjb]
theorem zFv (es:List (List zaa)) (hu:(zaq h.blks.length h.toks.length es&&(ts[0]?==some es.length))=true):
    zwR zWu h (hx h bs ts) (gA h.toks.length 0 es)=some (.gsl h.toks.length es,ptok h es.length):=by
  simp only [Bool.and_eq_true,beq_iff_eq] at hu
  obtain ⟨u1,u2⟩:=hu
  have h5:(hx h bs ts).toks[h.toks.length]?=some es.length:=by
    simp only [hx];rw [List.getElem?_append_right (Nat.le_refl _),Nat.sub_self];exact u2
  unfold zwR
  simp only [gA,Nat.add_zero,h5,u1,zEz]
  simp
theorem zFs (t:Nat) (es:List (List zaa)) (h':zab) (hl:h'.blks.length=h.blks.length∧h'.toks.length=h.toks.length) (ht:t < h.toks.length) (hu:zaq h.blks.length h.toks.length es=true):
    zwR zWu h (hx h' bs ts) (.gsl t es)=some (.gsl t es,h'):=by
  have e:zit (hx h' bs ts) h.blks.length h.toks.length=h':=by rw [← hl.1,← hl.2];exact zEz h' bs ts
  unfold zwR
  simp only [e]
  have hnot:¬h.toks.length≤t:=by omega
  simp [hnot,frz,zD7,hu,ht]
theorem zFt (sz t:Nat) (c:Bool) (es ys:List (List zaa)) (ht:h.toks[t]?=some es.length)
    (hc:(zh1 sz ys&&zh1 sz es&&decide (es.length+ys.length < zam)&&decide (0 < es.length)&&decide (L.rot≤t))=true):
    zqX L (hx h bs ts) sz false (.gsl t es) (.vsl c ys)=some (.gsl t (es++ys),hx (zxf h t (es.length+ys.length)) bs ts):=by
  simp only [Bool.and_eq_true,decide_eq_true_eq] at hc
  obtain ⟨⟨⟨⟨c1,c2⟩,c3⟩,c4⟩,c5⟩:=hc
  have he:es≠[]:=fun e=>by simp [e] at c4
  have hlt:=(List.getElem?_eq_some_iff.1 ht).1
  have h5:(hx h bs ts).toks[t]?=some es.length:=by
    simp only [hx];rw [List.getElem?_append_left hlt];exact ht
  simp only [zqX,zaK,zlT,zEp,c1,c2,Option.bind_some,if_true]
  rw [if_pos ⟨trivial,he,by trivial,c5,h5,c3⟩]
  simp only [hx,zxf]
  rw [List.set_append_left _ _ hlt]
theorem zOe (i:Nat) (es:List Int) (s:ByteArray)
    (hc:(decide (es.length+s.size < zam)&&decide (0 < es.length)&&decide (L.rot≤h.toks.length)&&(ts[i]?==some es.length))=true):
    zqX L (hx h bs ts) 1 false (gA h.toks.length i (eI .u8 es)) (.str s)=some (gA h.toks.length i (eI .u8 (es++bts s)),hx h bs (ts.set i (es.length+s.size))):=by
  have hs:zqX L (hx h bs ts) 1 false (gA h.toks.length i (eI .u8 es)) (.str s)=zqX L (hx h bs ts) 1 false (gA h.toks.length i (eI .u8 es)) (.vsl false (eI .u8 (bts s))):=by
    simp [zqX,zaK,zlT,zRS]
  have h1:=zw2 L h bs ts 1 i false (eI .u8 es) (eI .u8 (bts s)) (by simpa using hc)
  rw [hs,h1]
  simp
theorem zLd (n:Nat):ptok (hx h bs ts) n=hx h bs (ts++[n]):=by simp [ptok,hx]
theorem zaQ:(hx h bs ts).toks.length=h.toks.length+ts.length:=by simp [hx]
theorem za5:(hx h bs ts).blks.length=h.blks.length+bs.length:=by simp [hx]
theorem zDi (i n:Nat):zxf (hx h bs ts) (h.toks.length+i) n=hx h bs (ts.set i n):=by
  simp only [zxf,hx]
  rw [List.set_append_right _ _ (Nat.le_add_right _ _),Nat.add_sub_cancel_left]
end
end Go.Av
namespace Go.Av
def tab {α:Type} (n:Nat) (f:Nat→α):List α:=(List.range n).map f
@[simp] theorem zwQ {α:Type} (n:Nat) (f:Nat→α):(tab n f).length=n:=by simp [tab]
theorem zhh {α:Type} (n:Nat) (f:Nat→α) (i:Nat):(tab n f)[i]?=if i < n then some (f i) else none:=by
  unfold tab
  by_cases h:i < n
  · rw [List.getElem?_map,List.getElem?_range h,if_pos h];rfl
  · rw [if_neg h];simp;omega
theorem zCi {α:Type} {n:Nat} {f:Nat→α} {i:Nat} (h:i < n):(tab n f)[i]?=some (f i):=by rw [zhh,if_pos h]
theorem zaN {α:Type} {n:Nat} {f g:Nat→α} (h:∀ i,i < n→f i=g i):tab n f=tab n g:=by
  unfold tab;exact List.map_congr_left fun i hi=>h i (by simpa using hi)
theorem zlr {α : Type} (n : Nat) (f : Nat → α) (i : Nat) (v : α) : (tab n f).set i v = tab n (fun j => if j = i then v else f j) := by
  refine List.ext_getElem? fun j=>?_
  rw [List.getElem?_set,zwQ,zhh,zhh]
  by_cases h:i=j
  · subst h;simp
  · simp [h,Ne.symm h]
theorem zN7 {α : Type} (l : List α) (d : α) : tab l.length (fun i => l.getD i d) = l := by
  refine List.ext_getElem? fun j=>?_
  rw [zhh]
  by_cases h:j < l.length
  · rw [if_pos h,List.getElem?_eq_getElem h];simp [List.getD,h]
  · rw [if_neg h,List.getElem?_eq_none (by omega)]
theorem zKS {α:Type} {l:List α} {n:Nat} (d:α) (h:l.length=n):l=tab n (fun i=>l.getD i d):=by subst h;exact (zN7 l d).symm
theorem zOa {α:Type} {n:Nat} {f:Nat→α} {i:Nat} {d:α} (h:i < n):(tab n f).getD i d=f i:=by
  rw [List.getD,zCi h];rfl
theorem zuw {α β : Type} (n : Nat) (f : Nat → α) (g : α → β) : (tab n f).map g = tab n (fun i => g (f i)) := by
  simp [tab,Function.comp_def]
theorem zor {α : Type} (n : Nat) (f : Nat → α) (o m : Nat) (h : o + m ≤ n) : ((tab n f).drop o).take m = tab m (fun i => f (o + i)) := by
  refine List.ext_getElem? fun j=>?_
  rw [zhh,List.getElem?_take]
  by_cases hj:j < m
  · rw [if_pos hj,if_pos hj,List.getElem?_drop,zCi (by omega)]
  · rw [if_neg hj,if_neg hj]
theorem zKT (f : Nat → zaa) (g : Nat → zaa) (m : Nat) : ∀ (n o : Nat), o + m ≤ n → setAt (tab n f) o (tab m g) = tab n (fun i => if o ≤ i ∧ i < o + m then g (i - o) else f i) := by
  have key:∀ (cs:List zaa) (old:List zaa) (o i:Nat),o+cs.length≤old.length→(setAt old o cs)[i]?=if o≤i∧i < o+cs.length then cs[i - o]? else old[i]?:=by
    intro cs
    induction cs with
    | nil=>intro old o i h;simp [setAt];omega
    | cons c cs ih=>
      intro old o i h
      simp only [setAt]
      simp only [List.length_cons] at h
      rw [ih _ _ _ (by simp;omega)]
      by_cases h1:o+1≤i∧i < o+1+cs.length
      · rw [if_pos h1, if_pos ⟨by omega, by simp only [List.length_cons]; omega⟩]
        rw [show i - o=(i - (o+1))+1 by omega,List.getElem?_cons_succ]
      · rw [if_neg h1]
        by_cases h2:i=o
        · subst h2
          rw [List.getElem?_set_self (by omega),if_pos ⟨Nat.le_refl _,by simp⟩];simp
        · rw [List.getElem?_set_ne (Ne.symm h2),if_neg (by simp only [List.length_cons];omega)]
  intro n o h
  refine List.ext_getElem? fun i=>?_
  rw [key _ _ _ _ (by simpa using h),zwQ,zhh,zhh,zhh]
  by_cases h1:o≤i∧i < o+m
  · rw [if_pos h1,if_pos (by omega),if_pos (by omega),if_pos h1]
  · rw [if_neg h1,if_neg h1]
theorem zvD {α : Type} (x : α) (n : Nat) : zaS x n = tab n (fun _ => x) := by
  refine List.ext_getElem? fun j=>?_
  have key:∀ n j:Nat,(zaS x n)[j]?=if j < n then some x else none:=by
    intro n
    induction n with
    | zero=>intro j;simp [zaS]
    | succ n ih=>
      intro j
      cases j with
      | zero=>simp [zaS]
      | succ j=>simp only [zaS,List.getElem?_cons_succ,ih];simp
  rw [key,zhh]
def gd {α:Type} (l:List α) (d:α) (i:Nat):α:=l.getD i d
theorem zbz {α:Type} {n:Nat} {f:Nat→α} {i:Nat} {d:α} (h:i < n):gd (tab n f) d i=f i:=zOa h
theorem zot {α:Type} {l:List α} {n:Nat} (d:α) (h:l.length=n):l=tab n (gd l d):=zKS d h
theorem zou {α:Type} {l:List α} {i:Nat} {d:α} (h:i < l.length):l[i]?=some (gd l d i):=by
  unfold gd;simp [List.getD,h]
def za6 {α:Type} (n:Nat) (f g:Nat→α) (k:Nat):List α:=tab n fun j=>if j < k then f j else g j
@[simp] theorem zz8 {α:Type} (n:Nat) (f g:Nat→α) (k:Nat):(za6 n f g k).length=n:=by simp [za6]
theorem zdn {α:Type} (n:Nat) (f g:Nat→α) (k:Nat):(za6 n f g k).set k (f k)=za6 n f g (k+1):=by
  unfold za6
  rw [zlr]
  refine zaN fun j hj=>?_
  by_cases h1:j=k
  · subst h1;simp
  · by_cases h2:j < k
    · rw [if_neg h1,if_pos h2,if_pos (by omega)]
    · rw [if_neg h1,if_neg h2,if_neg (by omega)]
theorem zcc {α:Type} (n:Nat) (f g:Nat→α):za6 n f g 0=tab n g:=zaN fun j hj=>by simp
theorem zft {α:Type} (n:Nat) (f g:Nat→α):za6 n f g n=tab n f:=zaN fun j hj=>by simp [hj]
theorem zwU {α:Type} {n:Nat} {f g:Nat→α} {k:Nat} {d:α} (h:k < n):gd (za6 n f g k) d k=g k:=by
  unfold za6;rw [zbz h];simp
abbrev W64:=BitVec 64
def wd (x:W64):zaa:=.int .u64 x.toNat
def cW (l:List W64):List zaa:=l.map wd
def cB (l:List Bool):List zaa:=l.map zaa.bool
def cI (k:IntKind) (l:List Int):List zaa:=l.map fun n=>.int k n
@[simp] theorem zCq (l:List W64):(cW l).length=l.length:=by simp [cW]
@[simp] theorem zX9 (l:List Bool):(cB l).length=l.length:=by simp [cB]
@[simp] theorem zPl (k:IntKind) (l:List Int):(cI k l).length=l.length:=by simp [cI]
theorem ztL:∀ {l:List zaa},zdE l=true↔∀ c∈l,c.flat=true
  | []=>by simp [zdE]
  | c :: cs=>by simp [zdE,ztL (l:=cs)]
@[simp] theorem zwV (l : List W64) : zdE (cW l) = true := ztL.2 fun c h => by
  simp only [cW,List.mem_map] at h;obtain ⟨x,_,rfl⟩:=h;rfl
@[simp] theorem zK9 (l : List Bool) : zdE (cB l) = true := ztL.2 fun c h => by
  simp only [cB,List.mem_map] at h;obtain ⟨x,_,rfl⟩:=h;rfl
@[simp] theorem zLb (k : IntKind) (l : List Int) : zdE (cI k l) = true := ztL.2 fun c h => by
  simp only [cI,List.mem_map] at h;obtain ⟨x,_,rfl⟩:=h;rfl
theorem zsG {l:List W64} {i:Nat} (h:i < l.length):(cW l)[i]?=some (wd (gd l 0#64 i)):=by
  simp [cW,gd,List.getD,h]
theorem zOl {l:List Bool} {i:Nat} (h:i < l.length):(cB l)[i]?=some (.bool (gd l false i)):=by
  simp [cB,gd,List.getD,h]
theorem zU2 (l:List W64) (i:Nat) (h:decide (i < l.length)=true):(cW l)[i]?=some (wd (gd l 0#64 i)):=zsG (by simpa using h)
@[simp] theorem zXv (l:List W64) (i:Nat) (h:i < (cW l).length):(cW l)[i]=wd (gd l 0#64 i):=by
  have:=zsG (l:=l) (i:=i) (by simpa using h)
  rw [List.getElem?_eq_getElem h] at this
  exact Option.some.inj this
@[simp] theorem zXw (l:List Bool) (i:Nat) (h:i < (cB l).length):(cB l)[i]=.bool (gd l false i):=by
  have:=zOl (l:=l) (i:=i) (by simpa using h)
  rw [List.getElem?_eq_getElem h] at this
  exact Option.some.inj this
@[simp] theorem zuT (l:List W64) (i:Nat) (x:W64):(cW l).set i (wd x)=cW (l.set i x):=by simp [cW,List.map_set]
@[simp] theorem zCv (l:List Bool) (i:Nat) (x:Bool):(cB l).set i (.bool x)=cB (l.set i x):=by simp [cB,List.map_set]
@[simp] theorem zU8 (k:IntKind) (l:List Int) (i:Nat) (x:Int):(cI k l).set i (.int k x)=cI k (l.set i x):=by simp [cI,List.map_set]
@[simp] theorem zC2 (l:List W64) (n:Nat):(cW l).take n=cW (l.take n):=by simp [cW]
@[simp] theorem zC3 (l:List W64) (n:Nat):(cW l).drop n=cW (l.drop n):=by simp [cW]
@[simp] theorem zWv (l:List Bool) (n:Nat):(cB l).take n=cB (l.take n):=by simp [cB]
@[simp] theorem zWw (l:List Bool) (n:Nat):(cB l).drop n=cB (l.drop n):=by simp [cB]
theorem zaI (n:Nat):zaS (.int .u64 0) n=cW (tab n fun _=>0#64):=by rw [zvD,cW,zuw];rfl
theorem zkh (n:Nat):zaS (.bool false) n=cB (tab n fun _=>false):=by rw [zvD,cB,zuw]
theorem zjs (k:IntKind) (x:Int) (n:Nat):zaS (.int k x) n=cI k (tab n fun _=>x):=by rw [zvD,cI,zuw]
@[simp] theorem zVm (x:W64):(wd x).cells=[wd x]:=rfl
@[simp] theorem zXy (x:W64):(wd x).okV=true:=rfl
@[simp] theorem zWx (x:W64):(wd x).flat=true:=rfl
@[simp] theorem zXz (x:W64):asI (wd x)=some (x.toNat:Int):=rfl
theorem zSR (n:Nat) (h:n < 18446744073709551616):zaa.int .u64 (n:Int)=wd (BitVec.ofNat 64 n):=by
  unfold wd;rw [BitVec.toNat_ofNat,Nat.mod_eq_of_lt (by simpa using h)]
theorem zxk (n:Nat) (h:n < 18446744073709551616):IntKind.u64.wrap (n:Int)=n:=wrap_u64 (by omega) (by omega)
theorem zfR (x:W64):BitVec.ofInt 64 (x.toNat:Int)=x:=by
  apply BitVec.eq_of_toNat_eq
  rw [BitVec.toNat_ofInt]
  have:=x.isLt
  omega
theorem zED (x:W64):x.toNat < 18446744073709551616:=x.isLt
@[simp] theorem zXA (x y:W64):zdj .xor (wd x) (wd y)=some (wd (x ^^^ y)):=by
  unfold wd
  rw [zRI]
  show some (zaa.int .u64 (IntKind.u64.wrap ((BitVec.ofInt 64 (x.toNat:Int) ^^^ BitVec.ofInt 64 (y.toNat:Int):BitVec 64).toNat:Int)))=_
  rw [zfR,zfR,zxk _ (zED _)]
@[simp] theorem zvJ (x y:W64):zdj .and (wd x) (wd y)=some (wd (x&&&y)):=by
  unfold wd
  rw [zov]
  show some (zaa.int .u64 (IntKind.u64.wrap ((BitVec.ofInt 64 (x.toNat:Int)&&&BitVec.ofInt 64 (y.toNat:Int):BitVec 64).toNat:Int)))=_
  rw [zfR,zfR,zxk _ (zED _)]
@[simp] theorem zYg (x y:W64):zdj .or (wd x) (wd y)=some (wd (x|||y)):=by
  unfold wd
  rw [zK4]
  show some (zaa.int .u64 (IntKind.u64.wrap ((BitVec.ofInt 64 (x.toNat:Int)|||BitVec.ofInt 64 (y.toNat:Int):BitVec 64).toNat:Int)))=_
  rw [zfR,zfR,zxk _ (zED _)]
@[simp] theorem zSU (x y:W64):zdj .andNot (wd x) (wd y)=some (wd (x&&&~~~ y)):=by
  unfold wd
  rw [zHb]
  show some (zaa.int .u64 (IntKind.u64.wrap ((BitVec.ofInt 64 (x.toNat:Int)&&&~~~ (BitVec.ofInt 64 (y.toNat:Int)):BitVec 64).toNat:Int)))=_
  rw [zfR,zfR,zxk _ (zED _)]
theorem zh6 (n:Int):IntKind.u64.wrap n=n % 18446744073709551616:=by
  unfold IntKind.wrap
  simp [IntKind.signed,IntKind.bits]
@[simp] theorem zHX (x y:W64):zdj .add (wd x) (wd y)=some (wd (x+y)):=by
  unfold wd
  rw [zRE,zh6,BitVec.toNat_add,Int.natCast_emod,Int.natCast_add];rfl
@[simp] theorem zH1 (x y:W64):zdj .mul (wd x) (wd y)=some (wd (x*y)):=by
  unfold wd
  rw [zRG,zh6,BitVec.toNat_mul,Int.natCast_emod,Int.natCast_mul];rfl
@[simp] theorem zEG (x y:W64):zdj .sub (wd x) (wd y)=some (wd (x - y)):=by
  unfold wd
  rw [zEn,zh6]
  congr 2
  have h1:=x.isLt
  have h2:=y.isLt
  rw [BitVec.toNat_sub]
  omega
theorem zEH (x:W64) (k:IntKind) (n:Nat) (h:decide (n≤64)=true):zdj .shl (wd x) (.int k (n:Int))=some (wd (x <<< n)):=by
  have h':n≤64:=by simpa using h
  unfold wd
  rw [zuA,zYm _ _ _ (by simp only [show ((IntKind.u64.bits:Nat):Int)=64 from rfl,Bool.and_eq_true,decide_eq_true_eq];exact ⟨Int.natCast_nonneg n,by omega⟩)]
  rw [zh6,BitVec.toNat_shiftLeft,Int.toNat_natCast,Nat.shiftLeft_eq,Int.natCast_emod,Int.natCast_mul,Int.natCast_pow];rfl
theorem zsR (x:W64) (k:IntKind) (n:Nat) (h:decide (n≤64)=true):zdj .shr (wd x) (.int k (n:Int))=some (wd (x >>> n)):=by
  have h':n≤64:=by simpa using h
  unfold wd
  rw [zfH,zVe _ _ _ (by simp only [show ((IntKind.u64.bits:Nat):Int)=64 from rfl,Bool.and_eq_true,decide_eq_true_eq];exact ⟨Int.natCast_nonneg n,by omega⟩)]
  rw [BitVec.toNat_ushiftRight,Int.toNat_natCast,Nat.shiftRight_eq_div_pow,Int.fdiv_eq_ediv_of_nonneg _ (by exact Int.pow_nonneg (by decide)),Int.natCast_ediv,Int.natCast_pow];rfl
def bw (n:Int):W64:=BitVec.ofInt 64 n
@[simp] theorem zH2 (k:IntKind) (n:Int):zMA .u64 (.int k n)=some (wd (bw n)):=by
  rw [zdV,zh6]
  unfold wd bw
  congr 2
  rw [BitVec.toNat_ofInt]
  omega
theorem zpp (h:zab) (nb nt n i:Nat) (es:List (List zaa)) (he:zaq nb nt es=true):frz h nb nt (n+1) (gA nt i es)=some (.vsl false es):=zDz h nb nt n (by simp) he
@[simp] theorem zXC (h:zab) (nb nt n i:Nat) (k:IntKind) (l:List Int):frz h nb nt (n+1) (gA nt i (eI k l))=some (.vsl false (eI k l)):=zpp h nb nt n i _ (by simp)
@[simp] theorem zPz (h:zab) (nb nt n:Nat) (c:Bool) (k:IntKind) (l:List Int):frz h nb nt (n+1) (.vsl c (eI k l))=some (.vsl false (eI k l)):=zhq h nb nt n c (by simp)
@[simp] theorem zXE (h:zab) (nb nt n:Nat) (x:W64):frz h nb nt (n+1) (wd x)=some (wd x):=by unfold wd;simp
@[simp] theorem zXF (h:zab) (x:W64):fzA h (wd x)=some (wd x,false):=by unfold wd;simp
@[simp] theorem zXG (h:zab) (nb nt n:Nat) (l:List W64):frz h nb nt (n+1) (.agg (cW l))=some (.agg (cW l)):=zzs h nb nt n (zwV l)
@[simp] theorem zXH (h:zab) (nb nt n:Nat) (l:List Bool):frz h nb nt (n+1) (.agg (cB l))=some (.agg (cB l)):=zzs h nb nt n (zK9 l)
@[simp] theorem zXI (h:zab) (nb nt n:Nat) (k:IntKind) (l:List Int):frz h nb nt (n+1) (.agg (cI k l))=some (.agg (cI k l)):=zzs h nb nt n (zLb k l)
@[simp] theorem zXJ (h:zab) (l:List W64):fzA h (.agg (cW l))=some (.agg (cW l),false):=zvO h (zwV l)
@[simp] theorem zXK (h:zab) (l:List Bool):fzA h (.agg (cB l))=some (.agg (cB l),false):=zvO h (zK9 l)
@[simp] theorem zXL (h:zab) (k:IntKind) (l:List Int):fzA h (.agg (cI k l))=some (.agg (cI k l),false):=zvO h (zLb k l)
@[simp] theorem zXM (L:Lim) (h:zab) (p:zaa) (x:W64):stK L h 1 p (wd x)=stM (zc2 L h p [wd x]):=by simp [stK]
@[simp] theorem zWD (x:W64):zzh (wd x)=some (.vptr [wd x] 0):=rfl
theorem zaP (n sz m i off k:Nat) (kd:IntKind) (h:decide (k < n)=true):zcP (some n) sz (pA m i off) (.int kd (k:Int))=some (pA m i (off+k*sz)):=by
  have:k < n:=by simpa using h
  simp [zcP,asI,pA,this]
theorem ze6 (n sz off k:Nat) (cs:List zaa) (kd:IntKind) (h:decide (k < n)=true):zcP (some n) sz (.vptr cs off) (.int kd (k:Int))=some (.vptr cs (off+k*sz)):=by
  have:k < n:=by simpa using h
  simp [zcP,asI,this]
@[simp] theorem zVs (n sz m i off:Nat) (kd:IntKind):zcP (some (n+1)) sz (pA m i off) (.int kd 0)=some (pA m i off):=by simp [zcP,asI,pA]
@[simp] theorem zVt (n sz off:Nat) (cs:List zaa) (kd:IntKind):zcP (some (n+1)) sz (.vptr cs off) (.int kd 0)=some (.vptr cs off):=by simp [zcP,asI]
theorem ztZ (n i off sz len k:Nat) (cap:Option Nat) (kd:IntKind) (h:decide (k < len)=true):zcP none sz (sA n i off sz len cap) (.int kd (k:Int))=some (pA n i (off+k*sz)):=by
  have:k < len:=by simpa using h
  simp [zcP,asI,sA,pA,this]
theorem zDa (n k:Nat) (g:Bool) (cs:List zaa) (sz:Nat) (kd:IntKind) (h:decide (k < n)=true):zWd n sz g (.agg cs) (.int kd (k:Int))=zb2 g cs (k*sz) sz:=by
  have:k < n:=by simpa using h
  unfold zWd;simp [this]
theorem znQ (k' kd:IntKind) (c:Bool) (l:List Int) (i:Nat) (h:decide (i < l.length)=true):zcP none 1 (.vsl c (eI k' l)) (.int kd (i:Int))=some (.vptr [.int k' (gd l 0 i)] 0):=by
  have h':i < l.length:=by simpa using h
  simp [zcP,asI,zPn,h',gd,List.getD]
@[simp] theorem zWK (n i off sz len:Nat) (cap:Option Nat):zBV (sA n i off sz len cap)=some len:=rfl
@[simp] theorem zWL (n i:Nat) (es:List (List zaa)):zBV (gA n i es)=some es.length:=rfl
@[simp] theorem zXO (L:Lim) (h:zab) (p:zaa) (n i off sz len:Nat) (cap:Option Nat):stK L h 1 p (sA n i off sz len cap)=stM (zc2 L h p [sA n i off sz len cap]):=by simp [stK,sA,zaa.cells,zaa.okV]
@[simp] theorem zXP (L:Lim) (h:zab) (p:zaa) (n i off:Nat):stK L h 1 p (pA n i off)=stM (zc2 L h p [pA n i off]):=by simp [stK,pA,zaa.cells,zaa.okV]
section
variable (L:Lim) (h:zab) (bs:List (List zaa)) (ts:List Nat)
theorem zIh (sz:Nat) (c:Bool) (es ys:List (List zaa)) (hc:(zh1 sz ys&&zh1 sz es&&decide (es.length+ys.length < zam)&&decide (0 < ys.length))=true):
    zqX L (hx h bs ts) sz true (.vsl true es) (.vsl c ys)=some (sA h.blks.length bs.length 0 sz (es.length+ys.length) none,hx h (bs++[(es++ys).flatten]) ts):=by
  simp only [Bool.and_eq_true,decide_eq_true_eq] at hc
  have hy:ys≠[]:=fun e=>by have:=hc.2;simp [e] at this
  simp [zqX,zaK,zlT,zEp,hc.1.1.1,hc.1.1.2,hc.1.2,hy,zgc,sA,hx,push]
theorem zqD : ∀ (n : Nat) (cs : List zaa), cs.length = n → chunks 1 n cs = cs.map fun c => [c]
  | 0,[],_=>rfl
  | n+1,c :: cs,h=>by simp [chunks,zqD n cs (by simpa using h)]
theorem zqE (i n : Nat) (cs : List zaa) (cap : Option Nat) (hb : bs[i]? = some cs) (hl : cs.length = n) : zaK (hx h bs ts) 1 (sA h.blks.length i 0 1 n cap) = some (cs.map fun c => [c]) := by
  simp only [zaK,sA,hx]
  rw [List.getElem?_append_right (Nat.le_add_right _ _),Nat.add_sub_cancel_left,hb]
  simp [hl,zqD]
theorem zlW (k:IntKind) (l:List Int):(cI k l).map (fun c=>[c])=eI k l:=by simp [cI,eI]
theorem zy0 (k:IntKind) (l:List Int):(eI k l).flatten=cI k l:=by
  induction l with
  | nil=>rfl
  | cons x l ih=>simp only [eI,List.map_cons,List.flatten_cons] at ih ⊢;rw [ih];rfl
theorem zPL (i n:Nat) (k:IntKind) (l m:List Int) (c:Bool) (hb:bs[i]?=some (cI k l))
    (hc:(decide (l.length=n)&&decide (0 < n)&&decide (n+m.length < zam)&&decide (L.rob≤h.blks.length)&&decide (0 < m.length))=true):
    zqX L (hx h bs ts) 1 true (sA h.blks.length i 0 1 n none) (.vsl c (eI k m))=some (sA h.blks.length bs.length 0 1 (n+m.length) none,hx h (bs.set i []++[cI k (l++m)]) ts):=by
  simp only [Bool.and_eq_true,decide_eq_true_eq] at hc
  obtain ⟨⟨⟨⟨c1,c2⟩,c3⟩,c4⟩,c5⟩:=hc
  have he:=zqE h bs ts i n (cI k l) none hb (by simpa using c1)
  rw [zlW] at he
  simp only [sA] at he
  have hm:eI k m≠[]:=fun e=>by have:=congrArg List.length e;simp at this;simp [this] at c5
  simp only [zqX,zaK,zlT,Option.bind_some,if_true,zEp,zAl,sA]
  simp only [zaK] at he
  rw [if_pos ⟨trivial,trivial,trivial,c2,by decide,by omega⟩,he,Option.bind_some,if_neg hm,if_pos (by simp [c1];exact c3)]
  have hflat:(eI k l++eI k m).flatten=cI k (l++m):=by rw [zCB,zy0]
  simp only [push,hx,hflat,zLj,c1]
  rw [List.set_append_right _ _ (Nat.le_add_right _ _),Nat.add_sub_cancel_left]
  simp
end
end Go.Av
namespace Go.Av
abbrev wrM:Mode:=⟨false,false,false,false⟩
abbrev roM:Mode:=⟨true,false,false,false⟩
abbrev zXf:Mode:=⟨false,false,true,false⟩
section
variable (L:Lim) (h:zab) (bs bs':List (List zaa)) (ts ts':List Nat)
@[simp] theorem zVP (args:List zaa):zqq wrM h args=some (args,false):=by simp [zqq]
@[simp] theorem zWr (args:List zaa):zqq roM h args=some (args,false):=by simp [zqq]
@[simp] theorem zU9 (args:List zaa):zqq zXf h args=some (args,false):=by simp [zqq]
@[simp] theorem zWs:zjb wrM L h=⟨L.rob,L.rot,h.blks.length,h.toks.length⟩:=by simp [zjb]
@[simp] theorem zWt:zjb roM L h=zak h:=by simp [zjb,zak]
@[simp] theorem zTj:zjb zXf L h=L:=by simp [zjb]
@[simp] theorem zWQ (h1:zab) (v:zaa):zwR wrM h h1 v=zBj (frz h1 h.blks.length h.toks.length 12 v) (zit h1 h.blks.length h.toks.length):=by
  simp [zwR,zBj]
@[simp] theorem zWR (h1:zab) (v:zaa):zwR roM h h1 v=zBj (frz h1 h.blks.length h.toks.length 12 v) h:=by
  simp [zwR,zBj]
@[simp] theorem zVA (h1:zab) (v:zaa):zwR zXf h h1 v=some (v,h1):=by
  simp [zwR]
@[simp] theorem zGd:hx (hx h bs ts) bs' ts'=hx h (bs++bs') (ts++ts'):=by simp [hx]
theorem zGe {h1:zab} (h2:h1.blks.length=h.blks.length) (h3:h1.toks.length=h.toks.length):zit h1 h.blks.length h.toks.length=h1:=by
  unfold zit
  rw [← h2,← h3,List.take_length,List.take_length]
theorem zs4 (i:Nat) (cs:List zaa):zit (hx h (bs.set i cs) ts) (h.blks.length+bs.length) (h.toks.length+ts.length)=hx h (bs.set i cs) ts:=by
  have:=zGe (hx h bs ts) (h1:=hx h (bs.set i cs) ts) (by simp [hx]) (by simp [hx])
  rwa [za5,zaQ] at this
theorem zah (L:Lim) (i off:Nat) (cs:List zaa) (h1:(decide (L.rob≤h.blks.length)&&zap 0 0 cs)=true):
    zc2 L (hx h bs ts) (pA h.blks.length i off) cs=stO h bs ts i off cs bs[i]?:=by
  simp only [Bool.and_eq_true,decide_eq_true_eq] at h1
  unfold zc2 pA stO stI hx
  simp only
  rw [List.getElem?_append_right (Nat.le_add_right _ _),Nat.add_sub_cancel_left]
  cases bs[i]? with
  | none=>rfl
  | some old=>
    simp only [Option.bind_some]
    by_cases hc:off+cs.length≤old.length
    · rw [if_pos ⟨by omega, hc, .inr h1.2⟩, if_pos (by simpa using hc)]
      rw [List.set_append_right _ _ (Nat.le_add_right _ _),Nat.add_sub_cancel_left]
    · rw [if_neg (fun h=>hc h.2.1),if_neg (by simpa using hc)]
theorem zvY:∀ {l:List zaa},(∀ c∈l,c.under 0 0=true)→zap 0 0 l=true
  | [],_=>rfl
  | c :: cs,h=>by simp only [zap,Bool.and_eq_true];exact ⟨h c (by simp),zvY fun c hc=>h c (by simp [hc])⟩
@[simp] theorem zIy (l : List W64) : zap 0 0 (cW l) = true := zvY fun c hc => by
  simp only [cW,List.mem_map] at hc;obtain ⟨x,_,rfl⟩:=hc;rfl
@[simp] theorem zTg (x:W64):zap 0 0 [wd x]=true:=rfl
@[simp] theorem zR8 (k:IntKind) (x:Int):zap 0 0 [.int k x]=true:=rfl
@[simp] theorem zQu (x:Bool):zap 0 0 [.bool x]=true:=rfl
theorem zk2 (b off n:Nat) (g:Bool) (cs:List zaa) (hb:h.blks[b]?=some cs):zo5 (hx h bs ts) (.ptr b off) n g=zb2 g cs off n:=by
  unfold zo5 hx
  simp only
  rw [List.getElem?_append_left (List.getElem?_eq_some_iff.1 hb).1,hb]
  rfl
def RdI (h:zab) (k:IntKind) (x:zaa) (l:List Int):Prop:=
  zBV x=some l.length∧∃ p:Nat→zaa,(∀ i,i < l.length→zcP none 1 x (.int .i64 (i:Int))=some (p i))∧∀ i bs ts,i < l.length→zo5 (hx h bs ts) (p i) 1 false=some (.int k (gd l 0 i))
def RdW (h:zab) (x:zaa) (l:List W64):Prop:=
  zBV x=some l.length∧∃ p:Nat→zaa,(∀ i,i < l.length→zcP none 1 x (.int .i64 (i:Int))=some (p i))∧∀ i bs ts,i < l.length→zo5 (hx h bs ts) (p i) 1 false=some (wd (gd l 0#64 i))
theorem RdW.ext {h:zab} {x:zaa} {l:List W64} (hr:RdW h x l) (bs:List (List zaa)) (ts:List Nat):RdW (hx h bs ts) x l:=by
  obtain ⟨h1,p,h2,h3⟩:=hr
  exact ⟨h1,p,h2,fun i bs' ts' hi=>by rw [zGd];exact h3 i _ _ hi⟩
theorem RdI.vsl (h:zab) (k:IntKind) (c:Bool) (l:List Int):RdI h k (.vsl c (eI k l)) l:=
  ⟨by simp,fun i=>.vptr [.int k (gd l 0 i)] 0,fun i hi=>znQ k .i64 c l i (by simpa using hi),fun i bs ts hi=>by simp⟩
def eW (l:List W64):List (List zaa):=l.map fun x=>[wd x]
@[simp] theorem zTP (l:List W64):(eW l).length=l.length:=by simp [eW]
theorem zO5 (l:List W64) (i:Nat):(eW l)[i]?=(l[i]?).map fun n=>[wd n]:=by simp [eW]
theorem RdW.vsl (h:zab) (c:Bool) (l:List W64):RdW h (.vsl c (eW l)) l:=
  ⟨by simp,fun i=>.vptr [wd (gd l 0#64 i)] 0,fun i hi=>by simp [zcP,asI,zO5,hi,gd,List.getD],fun i bs ts hi=>by simp⟩
theorem zQz {k:IntKind} {l:List Int} {i:Nat} (h:i < l.length):(cI k l)[i]?=some (.int k (gd l 0 i)):=by
  simp [cI,gd,List.getD,h]
theorem RdW.sl (h:zab) (b n:Nat) (cap:Option Nat) (l:List W64) (hl:l.length=n) (hb:h.blks[b]?=some (cW l)):RdW h (.sl b 0 1 n cap) l:=
  ⟨by simp [hl], fun i => .ptr b (0 + i * 1), fun i hi => by simp [zcP, asI]; omega, fun i bs ts hi => by
    rw [zk2 h bs ts b _ _ _ _ hb,zat,Nat.zero_add,Nat.mul_one];exact zsG hi⟩
theorem RdI.sl (h:zab) (k:IntKind) (b n:Nat) (cap:Option Nat) (l:List Int) (hl:l.length=n) (hb:h.blks[b]?=some (cI k l)):RdI h k (.sl b 0 1 n cap) l:=
  ⟨by simp [hl], fun i => .ptr b (0 + i * 1), fun i hi => by simp [zcP, asI]; omega, fun i bs ts hi => by
    rw [zk2 h bs ts b _ _ _ _ hb,zat,Nat.zero_add,Nat.mul_one];exact zQz hi⟩
end
theorem zg6 (n sz m i off:Nat) (h:decide (0 < n)=true):zhU (.arr n) sz (pA m i off) none none none=some (sA m i off sz n (some n)):=by
  have h':0 < n:=by simpa using h
  have:¬n=0:=by omega
  simp [zhU,pA,sA,zlN,this]
theorem zye (n sz m i off c:Nat) (kd:IntKind) (h:(decide (0 < c)&&decide (c≤n))=true):zhU (.arr n) sz (pA m i off) none (some (.int kd (c:Int))) none=some (sA m i off sz c (some n)):=by
  simp only [Bool.and_eq_true,decide_eq_true_eq] at h
  have h0:¬c=0:=by omega
  simp [zhU,pA,sA,zlN,h0,h.2]
theorem RdW.sA {h:zab} {bs:List (List zaa)} (ts:List Nat) (i n:Nat) (cap:Option Nat) (l:List W64) (hl:l.length=n) (hb:bs[i]?=some (cW l)):RdW (hx h bs ts) (sA h.blks.length i 0 1 n cap) l:=
  RdW.sl _ _ n cap l hl (by simp only [hx];rw [List.getElem?_append_right (Nat.le_add_right _ _),Nat.add_sub_cancel_left];exact hb)
theorem RdI.sA {h:zab} {bs:List (List zaa)} (ts:List Nat) (k:IntKind) (i n:Nat) (cap:Option Nat) (l:List Int) (hl:l.length=n) (hb:bs[i]?=some (cI k l)):RdI (hx h bs ts) k (sA h.blks.length i 0 1 n cap) l:=
  RdI.sl _ k _ n cap l hl (by simp only [hx];rw [List.getElem?_append_right (Nat.le_add_right _ _),Nat.add_sub_cancel_left];exact hb)
theorem zJC (n:Nat) (c:Bool) (k:IntKind) (l:List Int) (h:(decide (0 < n)&&decide (n≤l.length))=true):zRp n (.vsl c (eI k l))=some (.vptr (cI k (l.take n)) 0):=by
  simp only [Bool.and_eq_true,decide_eq_true_eq] at h
  show (if n≤(eI k l).length∧0 < n then some (zaa.vptr (List.take n (eI k l)).flatten 0) else none)=_
  rw [if_pos ⟨by simpa using h.2,h.1⟩]
  have:(eI k l).take n=eI k (l.take n):=by simp [eI]
  rw [this,zy0]
theorem zO7 (n m i off len:Nat) (cap:Option Nat) (h:decide (n≤len)=true):zRp n (sA m i off 1 len cap)=some (pA m i off):=by
  have:n≤len:=by simpa using h
  unfold zRp;simp [sA,pA,this]
@[simp] theorem zW4 (k:IntKind) (l:List Int) (n:Nat):(cI k l).take n=cI k (l.take n):=by simp [cI]
@[simp] theorem zW5 (k:IntKind) (l:List Int) (n:Nat):(cI k l).drop n=cI k (l.drop n):=by simp [cI]
theorem zoI {h:zab} {bs:List (List zaa)} (ts:List Nat) {i:Nat} {cs:List zaa} (hb:bs[i]?=some cs):(hx h bs ts).blks[h.blks.length+i]?=some cs:=by
  simp only [hx];rw [List.getElem?_append_right (Nat.le_add_right _ _),Nat.add_sub_cancel_left];exact hb
theorem zM9 (k:IntKind) (l:List Int) (off sz:Nat) (h:decide (off+sz≤l.length)=true):zb2 true (cI k l) off sz=some (.agg (cI k ((l.drop off).take sz))):=by
  have h':off+sz≤l.length:=by simpa using h
  unfold zb2;simp [h']
theorem zE9 (l:List W64) (off sz:Nat) (h:decide (off+sz≤l.length)=true):zb2 true (cW l) off sz=some (.agg (cW ((l.drop off).take sz))):=by
  have h':off+sz≤l.length:=by simpa using h
  unfold zb2;simp [h']
theorem zFa (l:List Bool) (off sz:Nat) (h:decide (off+sz≤l.length)=true):zb2 true (cB l) off sz=some (.agg (cB ((l.drop off).take sz))):=by
  have h':off+sz≤l.length:=by simpa using h
  unfold zb2;simp [h']
@[simp] theorem zSe (b:Bool):zNI zb5 b=false:=rfl
@[simp] theorem zig {α:Type} (n:Nat) (f:Nat→α):tab n f++[f n]=tab (n+1) f:=by simp [tab,List.range_succ]
theorem zss {α:Type} {l:List α} {n i:Nat} {d:α} (h:i < n):gd (l.take n) d i=gd l d i:=by
  unfold gd;simp [List.getD,List.getElem?_take,h]
theorem zto {α:Type} {l:List α} {k:Nat} (d:α) (h:k < l.length):l.take (k+1)=l.take k++[gd l d k]:=by
  rw [List.take_add_one,zou (d:=d) h];rfl
end Go.Av
namespace Go.Av
def mkK (h:zab) (sz:Nat) (zero:List zaa):zaa→Option (zaa × zab)
  | .int _ n=>if 0≤n∧n < zam then some (.sl h.blks.length 0 sz n.toNat (some n.toNat),push h (rep zero n.toNat)) else none
  | _=>none
@[simp] theorem zW7 (C:Ctx) (L:Lim) (fr:Fr) (h:zab) (sz:Nat) (z:List zaa) (x:AO):zkM C L fr h (.mk sz z x)=mkK h sz z (C.ev fr x):=by
  simp only [zkM]
  cases C.ev fr x <;> rfl
theorem zj7 (h:zab) (bs:List (List zaa)) (ts:List Nat) (sz:Nat) (z:List zaa) (k:IntKind) (n:Int) (hc:(decide (0≤n)&&decide (n < zam))=true):
    mkK (hx h bs ts) sz z (.int k n)=some (sA h.blks.length bs.length 0 sz n.toNat (some n.toNat),hx h (bs++[rep z n.toNat]) ts):=by
  simp only [Bool.and_eq_true,decide_eq_true_eq] at hc
  unfold mkK
  simp only [if_pos hc]
  simp [sA,hx,push]
theorem zjm (x:zaa):∀ n,rep [x] n=zaS x n
  | 0=>rfl
  | n+1=>by simp [rep,zaS,zjm x n]
@[simp] theorem zTW (k:IntKind) (a:Int):zaa.cells (zaa.int k a)=[.int k a]:=rfl
@[simp] theorem zW9 (k:IntKind) (a:Int):zaa.okV (zaa.int k a)=true:=rfl
@[simp] theorem zSg (b:Bool):zaa.cells (zaa.bool b)=[.bool b]:=rfl
@[simp] theorem zVM (b:Bool):zaa.okV (zaa.bool b)=true:=rfl
@[simp] theorem zTX (b:ByteArray):zaa.cells (zaa.str b)=[.str b]:=rfl
@[simp] theorem zXa (b:ByteArray):zaa.okV (zaa.str b)=true:=rfl
@[simp] theorem zTZ (c:Bool) (es:List (List zaa)):zaa.cells (zaa.vsl c es)=[.vsl c es]:=rfl
@[simp] theorem zXb (c:Bool) (es:List (List zaa)):zaa.okV (zaa.vsl c es)=true:=rfl
@[simp] theorem zT1:zaa.cells (zaa.nsl)=[.nsl]:=rfl
@[simp] theorem zXd:zaa.okV (zaa.nsl)=true:=rfl
@[simp] theorem zSh:zaa.cells (zaa.nilp)=[.nilp]:=rfl
@[simp] theorem zVO:zaa.okV (zaa.nilp)=true:=rfl
@[simp] theorem zT2:zaa.cells (zaa.nfn)=[.nfn]:=rfl
@[simp] theorem zXe:zaa.okV (zaa.nfn)=true:=rfl
@[simp] theorem zT3:zaa.cells (zaa.nif)=[.nif]:=rfl
@[simp] theorem zXg:zaa.okV (zaa.nif)=true:=rfl
@[simp] theorem zQS (t:TypeId) (v:zaa):zaa.cells (zaa.iface t v)=[.iface t v]:=rfl
@[simp] theorem zT4 (t:TypeId) (v:zaa):zaa.okV (zaa.iface t v)=true:=rfl
@[simp] theorem zVR (f:Fn) (a b:List zaa):zaa.cells (zaa.fn f a b)=[.fn f a b]:=rfl
@[simp] theorem zXU (f:Fn) (a b:List zaa):zaa.okV (zaa.fn f a b)=true:=rfl
@[simp] theorem zSi (cs:List zaa) (o:Nat):zaa.cells (zaa.vptr cs o)=[.vptr cs o]:=rfl
@[simp] theorem zVS (cs:List zaa) (o:Nat):zaa.okV (zaa.vptr cs o)=true:=rfl
@[simp] theorem zVT (n i off sz len:Nat) (cap:Option Nat):zaa.cells (sA n i off sz len cap:zaa)=[sA n i off sz len cap]:=rfl
@[simp] theorem zXV (n i off sz len:Nat) (cap:Option Nat):zaa.okV (sA n i off sz len cap:zaa)=true:=rfl
@[simp] theorem zVU (n i off:Nat):zaa.cells (pA n i off:zaa)=[pA n i off]:=rfl
@[simp] theorem zXW (n i off:Nat):zaa.okV (pA n i off:zaa)=true:=rfl
@[simp] theorem zVV (n i:Nat) (es:List (List zaa)):zaa.cells (gA n i es:zaa)=[gA n i es]:=rfl
@[simp] theorem zXX (n i:Nat) (es:List (List zaa)):zaa.okV (gA n i es:zaa)=true:=rfl
@[simp] theorem zT9 (cs:List zaa):zaa.cells (zaa.agg cs)=cs:=rfl
@[simp] theorem zii (cs:List zaa):zaa.okV (zaa.agg cs)=true:=rfl
theorem zyq (k:IntKind):∀ (n:Nat) (l m:List Int),l.length=n→m.length=n→zct (zaS .i n) (cI k l) (cI k m)=some (l==m)
  | 0,[],[],_,_=>by simp [zaS,cI,zct]
  | n + 1, x :: l, y :: m, h1, h2 => by
    have:=zyq k n l m (by simpa using h1) (by simpa using h2)
    simp only [cI] at this
    simp only [zaS,cI,List.map_cons,zct,zys,bind,if_true,Option.bind_some,this]
    congr 1
theorem zO9 (k:IntKind) (n:Nat) (l m:List Int) (h1:(l.length==n)=true) (h2:(m.length==n)=true):eqA (.agg (zaS .i n)) (.agg (cI k l)) (.agg (cI k m))=some (l==m):=by
  rw [zEr];exact zyq k n l m (by simpa using h1) (by simpa using h2)
def byA (l:List Int):ByteArray:=⟨(l.map fun n=>UInt8.ofNat n.toNat).toArray⟩
theorem zww : ∀ l : List Int, zni (eI .u8 l) = some (l.map fun n => UInt8.ofNat n.toNat)
  | []=>rfl
  | x :: l => by
    have:=zww l
    simp only [eI] at this
    simp only [eI,List.map_cons,zni,this,bind,Option.bind_some]
def zSk (h:zab) (x:zaa):Option zaa:=(zaK h 1 x).bind fun es=>(zni es).map fun bs=>.str ⟨bs.toArray⟩
@[simp] theorem zVX (C:Ctx) (fr:Fr) (h:zab) (x:AO):zFu C fr h (.b2s x)=zSk h (C.ev fr x):=by
  simp only [zFu,zSk,bind]
  congr 1
  funext es
  cases zni es <;> rfl
@[simp] theorem zVY (h:zab) (c:Bool) (l:List Int):zSk h (.vsl c (eI .u8 l))=some (.str (byA l)):=by
  simp [zSk,zaK,zww,byA]
theorem zsw (h:zab) (bs:List (List zaa)) (ts:List Nat) (i n:Nat) (cap:Option Nat) (l:List Int) (hb:bs[i]?=some (cI .u8 l)) (hl:l.length=n):zSk (hx h bs ts) (sA h.blks.length i 0 1 n cap)=some (.str (byA l)):=by
  have he:=zqE h bs ts i n (cI .u8 l) cap hb (by simpa using hl)
  rw [zlW] at he
  simp [zSk,he,zww,byA]
def zUf:zaa→Option zaa
  | .sl b off sz n c=>some (.sl b off sz n c)
  | _=>none
@[simp] theorem zUh (C:Ctx) (fr:Fr) (h:zab) (x:AO):zFu C fr h (.mark x)=zUf (C.ev fr x):=by
  simp only [zFu]
  cases C.ev fr x <;> rfl
@[simp] theorem zV0 (n i off sz len:Nat) (cap:Option Nat):zUf (sA n i off sz len cap)=some (sA n i off sz len cap):=rfl
def zNy (h:zab) (sz len:Nat) (cs:Option (List zaa)):Option (zaa × zab):=cs.map fun cs=>(.sl h.blks.length 0 sz len (some len),push h cs)
@[simp] theorem zUj (C:Ctx) (L:Lim) (fr:Fr) (h:zab) (sz len:Nat) (z:List zaa) (ps:List (Nat × AO)):
    zkM C L fr h (.slit sz len z ps)=zNy h sz len (zaA (rep z len) (ps.map fun p=>(p.1*sz,sz,C.ev fr p.2))):=by
  simp only [zkM,zNy]
  cases zaA (rep z len) (ps.map fun p=>(p.1*sz,sz,C.ev fr p.2)) <;> rfl
@[simp] theorem zSl (h:zab) (bs:List (List zaa)) (ts:List Nat) (sz len:Nat) (cs:List zaa):zNy (hx h bs ts) sz len (some cs)=some (sA h.blks.length bs.length 0 sz len (some len),hx h (bs++[cs]) ts):=by
  simp [zNy,sA,hx,push]
theorem zNz (L:Lim) (h:zab) (bs:List (List zaa)) (ts:List Nat) (i n:Nat) (k:IntKind) (l m:List Int) (c:Bool) (hb:bs[i]?=some (cI k l))
    (hc:(decide (l.length=n)&&decide (n+m.length < zam)&&decide (0 < m.length))=true):
    zqX L (hx h bs ts) 1 false (sA h.blks.length i 0 1 n (some n)) (.vsl c (eI k m))=some (gA h.toks.length ts.length (eI k (l++m)),hx h bs (ts++[n+m.length])):=by
  simp only [Bool.and_eq_true,decide_eq_true_eq] at hc
  obtain ⟨⟨c1,c3⟩,c5⟩:=hc
  have he:=zqE h bs ts i n (cI k l) (some n) hb (by simpa using c1)
  rw [zlW] at he
  simp only [sA] at he
  have hm:eI k m≠[]:=fun e=>by have:=congrArg List.length e;simp at this;simp [this] at c5
  simp only [zqX,zaK,zlT,Option.bind_some,if_true,zEp,zAl,sA]
  simp only [zaK] at he
  rw [if_pos ⟨trivial,trivial⟩,he,Option.bind_some,if_neg hm,if_pos (by simp [c1];exact c3)]
  simp [zgc,gA,hx,ptok,c1]
end Go.Av
