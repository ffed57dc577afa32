/- How a law's arguments are read, and equations by which the machine's runs are reckoned. -/
import Derived.Test.YtbookmjmhfoolaaGreatDoorV4
import Derived.Carry
import Derived.OpenShut
import Derived.MapKept
set_option linter.unusedSimpArgs false
set_option linter.unusedVariables false
namespace Go.Av
open Go.RowKit
inductive Ty where
  | bool | int (k:IntKind) | str | sl (e:List Ty)
mutual
inductive zmS:Ty→zaa→Prop
  | bool (b:Bool):zmS .bool (.bool b)
  | int (k:IntKind) (n:Int) (h:(Lit.int k n).wf=true):zmS (.int k) (.int k n)
  | str (x:ByteArray) (h:x.size≤maxLen):zmS .str (.str x)
  | sl (ts:List Ty) (es:List (List zaa)) (hl:es.length≤maxLen) (h:ziJ ts es):zmS (.sl ts) (.vsl false es)
inductive zdG:List Ty→List zaa→Prop
  | nil:zdG [] []
  | cons (t:Ty) (ts:List Ty) (c:zaa) (cs:List zaa) (h:zmS t c) (ht:zdG ts cs):zdG (t :: ts) (c :: cs)
inductive ziJ:List Ty→List (List zaa)→Prop
  | nil (ts:List Ty):ziJ ts []
  | cons (ts:List Ty) (e:List zaa) (es:List (List zaa)) (h:zdG ts e) (ht:ziJ ts es):ziJ ts (e :: es)
end
theorem zmS.cell {t:Ty} {c:zaa} (h:zmS t c):c.isCell=true:=by cases h <;> rfl
theorem zdG.cell:∀ {ts:List Ty} {cs:List zaa},zdG ts cs→∀ c∈cs,c.isCell=true
  | _,_,.nil=>by simp
  | _, _, .cons t ts c cs h ht => fun x hx => by
    rcases List.mem_cons.1 hx with rfl | hx
    · exact h.cell
    · exact ht.cell x hx
theorem zdG.length:∀ {ts:List Ty} {cs:List zaa},zdG ts cs→cs.length=ts.length
  | _,_,.nil=>rfl
  | _,_,.cons t ts c cs h ht=>by simp [ht.length]
theorem zdG.append:∀ {ts us:List Ty} {cs ds:List zaa},zdG ts cs→zdG us ds→zdG (ts++us) (cs++ds)
  | _,_,_,_,.nil,h=>h
  | _,_,_,_,.cons t ts c cs h ht,h'=>.cons t _ c _ h (ht.append h')
def shF (P:Program) (rec:TypeId→Option (List Ty)) (z:Nat):Nat→List Field→Option (List Ty)
  | o,[]=>if o=z then some [] else none
  | o, f :: fs => if f.offset = o then
      match rec f.type with
      | some l=>if l.length=P.cellsOf f.type then (shF P rec z (o+P.cellsOf f.type) fs).map (l++·) else none
      | none=>none
    else none
def shT (P:Program):Nat→TypeId→Option (List Ty)
  | 0,_=>none
  | d + 1, t => match P.underlying t with
    | some .bool=>some [.bool]
    | some (.int k)=>some [.int k]
    | some .string=>some [.str]
    | some (.slice e) => match shT P d e with
      | some l=>if l.length=P.cellsOf e∧0 < l.length then some [.sl l] else none
      | none=>none
    | some (.struct fs)=>shF P (shT P d) (P.cellsOf t) 0 fs.toList
    | some (.array n e) => match shT P d e with
      | some l=>if P.cellsOf t=n*P.cellsOf e∧l.length=P.cellsOf e then some (zHk l n) else none
      | none=>none
    | _=>none
def st0 (W:World):St:=⟨W,⟨[],[]⟩,[],[],0,0⟩
theorem zPV (W:World) (X o:Nat):Imm (st0 W) X o:=⟨fun b _ h=>by simp [st0] at h,fun t sz n _ h=>by simp [st0] at h⟩
section
variable {H:Type} {enc:TypeId × Value→H} {P:Program} {W:World} {base:Nat} {spare:Nat→Bool} {held:Bool}
theorem zFH {X o:Nat} {avs:List zaa} {cs:List Value} (hr:zbw (st0 W) avs cs) (hk:∀ c∈avs,c.isCell=true) (hc:∀ (i:Nat) v,cs[i]?=some v→World.at W X (o+i)=some v):zeO (st0 W) X o avs:=by
  refine zeO.of_get fun i c hi=>?_
  obtain ⟨v,hv,hrep⟩:=hr.get i c hi
  exact ⟨v,hc i v hv,zPV W _ _,hk c (List.mem_of_getElem? hi),hrep⟩
theorem zLG (a:Addr) (k:Nat):(a.add k).block=a.block∧(a.add k).off=a.off+k:=by
  unfold Addr.add
  split <;> simp_all
theorem zCT {a:Addr} {n:Nat} {cs:List Value} (h:W.cells? base a n=some cs) (hn:0 < n):a.spot=none∧cs.length=n∧∀ (i:Nat) v,cs[i]?=some v→World.at W a.block (a.off+i)=some v:=by
  unfold World.cells? at h
  split at h
  · have hlen : cs.length = n := by simpa using mapM_some_length h
    have key:∀ i:Nat,i < n→W.cell? (a.add i)=cs[i]?:=fun i hi=>mapM_some_get h i i (by simp [hi])
    have hs:a.spot=none:=by
      have h0:=key 0 hn
      rw [List.getElem?_eq_getElem (by omega)] at h0
      unfold World.cell? at h0
      split at h0
      · split at h0
        · simp at h0
        · rename_i hsp
          simpa [Addr.add] using hsp
      · simp at h0
    refine ⟨hs,hlen,fun i v hi=>?_⟩
    have hlt:=(List.getElem?_eq_some_iff.1 hi).1
    have:=key i (by omega)
    rw [hi] at this
    unfold World.at
    rw [← this]
    congr 1
    simp [Addr.add,hs]
    intro h0
    subst h0
    cases a
    simp at hs
    subst hs
    rfl
  · simp at h
def sEq (W:World) (tys:List Ty) (cs:List Value):Prop:=∃ avs,zdG tys avs∧zbw (st0 W) avs cs
theorem sEq.append {t u:List Ty} {a b:List Value} (h:sEq W t a) (k:sEq W u b):sEq W (t++u) (a++b):=by
  obtain ⟨x,h1,h2⟩:=h
  obtain ⟨y,k1,k2⟩:=k
  exact ⟨x++y,h1.append k1,h2.append k2⟩
theorem ziJ.of_all {ts:List Ty}:∀ {es:List (List zaa)},(∀ e∈es,zdG ts e)→ziJ ts es
  | [],_=>.nil ts
  | e :: es,h=>.cons ts e es (h e (by simp)) (ziJ.of_all fun x hx=>h x (by simp [hx]))
theorem zzN {n:Nat} {cs:List Value} {rec:TypeId→Option (List Ty)} {z:Nat} (hz:cs.length=z)
    (ih:∀ (t:TypeId) (tys:List Ty) (cs':List Value),rec t=some tys→(∃ x,DataW.trod enc P W base spare held n t cs'=some x)→sEq W tys cs'):
    ∀ (fs:List Field) (o:Nat) (tys:List Ty),shF P rec z o fs=some tys→(∀ f∈fs,∃ x,DataW.trod enc P W base spare held n f.type ((cs.drop f.offset).take (P.cellsOf f.type))=some x)→
      sEq W tys (cs.drop o)
  | [], o, tys, h, _ => by
    simp only [shF] at h
    split at h
    · rename_i ho
      obtain rfl:=Option.some.inj h
      rw [List.drop_eq_nil_of_le (by omega)]
      exact ⟨[],.nil,.nil⟩
    · simp at h
  | f :: fs, o, tys, h, hf => by
    simp only [shF] at h
    split at h
    · rename_i ho
      split at h
      · rename_i l hl
        split at h
        · obtain ⟨r,hr,rfl⟩:=map_some h
          have h1:=ih f.type l _ hl (hf f (by simp))
          rw [ho] at h1
          have h2:=zzN hz ih fs _ r hr fun g hg=>hf g (by simp [hg])
          have:=h1.append h2
          rwa [← List.drop_drop,List.take_append_drop] at this
        · simp at h
      · simp at h
    · simp at h
theorem zzO {n sz:Nat} {cs:List Value} {l:List Ty} (hz:cs.length=n*sz) (hi:∀ i,i < n→sEq W l ((cs.drop (i*sz)).take sz)):∀ k,k≤n→sEq W (zHk l k) (cs.drop ((n - k)*sz))
  | 0, _ => by
    rw [Nat.sub_zero,List.drop_eq_nil_of_le (by omega)]
    exact ⟨[],.nil,.nil⟩
  | k + 1, hk => by
    have h1:=hi (n - (k+1)) (by omega)
    have h2:=zzO hz hi k (by omega)
    have:=h1.append h2
    have e:(n - k)*sz=(n - (k+1))*sz+sz:=by
      rw [← Nat.succ_mul];congr 1;omega
    rwa [e,← List.drop_drop,List.take_append_drop] at this
theorem zmd:∀ (d:Nat) {t:TypeId} {tys:List Ty} {fuel:Nat} {cs:List Value} {x:DataW H × List MemPlace},shT P d t=some tys→
    DataW.trod enc P W base spare held fuel t cs=some x→sEq W tys cs
  | 0,t,tys,fuel,cs,x,hs,h=>by simp [shT] at hs
  | d + 1, t, tys, fuel, cs, x, hs, h => by
    simp only [shT] at hs
    split at hs
    · rename_i hu
      obtain rfl:=Option.some.inj hs
      cases fuel with
      | zero=>simp [DataW.trod] at h
      | succ n=>
        unfold DataW.trod at h
        rw [hu] at h
        split at h <;> simp_all
        exact ⟨_,.cons _ _ _ _ (.bool _) .nil,.cons _ _ _ _ (.bool _) .nil⟩
    · rename_i k hu
      obtain rfl:=Option.some.inj hs
      cases fuel with
      | zero=>simp [DataW.trod] at h
      | succ n=>
        unfold DataW.trod at h
        rw [hu] at h
        split at h <;> simp_all
        obtain ⟨⟨rfl,hw⟩,_⟩:=h
        exact ⟨_,.cons _ _ _ _ (.int _ _ hw) .nil,.cons _ _ _ _ (.int _ _) .nil⟩
    · rename_i hu
      obtain rfl:=Option.some.inj hs
      cases fuel with
      | zero=>simp [DataW.trod] at h
      | succ n=>
        unfold DataW.trod at h
        rw [hu] at h
        split at h <;> simp_all
        exact ⟨_,.cons _ _ _ _ (.str _ h.1) .nil,.cons _ _ _ _ (.str _) .nil⟩
    · rename_i e hu
      split at hs
      · rename_i l hl
        split at hs
        · rename_i hlen
          obtain rfl:=Option.some.inj hs
          rcases DataW.trod_slice hu h with ⟨rfl,_⟩ | ⟨a,len,cap,elems,rest,n,rfl,rfl,_,hb,hlc,hcm,hel,hget,_⟩
          · exact ⟨[.vsl false []],.cons _ _ _ _ (.sl l [] (by simp) (.nil l)) .nil,.cons _ _ _ _ (.vsl0 false none 0 (by simp) (fun _=>rfl)) .nil⟩
          · subst hel
            have key : ∀ i : Nat, i < elems.length → (a.add (i * P.cellsOf e)).spot = none ∧ ∃ x : List zaa, zdG l x ∧ zeO (st0 W) a.block (a.off + i * P.cellsOf e) x := fun i hi => by
              have h1:=hget i hi
              rw [List.getElem?_eq_getElem hi] at h1
              obtain ⟨cs',h2,h3⟩:=Option.bind_eq_some_iff.1 h1
              obtain ⟨avs,g1,g2⟩:=zmd d hl h3
              obtain ⟨k1,k2,k3⟩:=zCT h2 (by omega)
              obtain ⟨b1,b2⟩:=zLG a (i*P.cellsOf e)
              refine ⟨k1,avs,g1,zFH g2 g1.cell fun j v hj=>?_⟩
              have:=k3 j v hj
              rw [b1,b2] at this
              exact this
            by_cases h0:elems.length=0
            · rw [h0]
              exact ⟨[.vsl false []],.cons _ _ _ _ (.sl l [] (by simp) (.nil l)) .nil,.cons _ _ _ _ (.vsl0 false (some a) cap (by simp) (by simp)) .nil⟩
            · let f : Nat → List zaa := fun i => if h : i < elems.length then (key i h).2.choose else []
              have hf : ∀ i, i < elems.length → zdG l (f i) ∧ zeO (st0 W) a.block (a.off + i * P.cellsOf e) (f i) := fun i hi => by
                simp only [f,dif_pos hi]
                exact (key i hi).2.choose_spec
              have hsp:=(key 0 (by omega)).1
              rw [Nat.zero_mul] at hsp
              replace hsp:a.spot=none:=by simpa [Addr.add] using hsp
              obtain ⟨X,o,sp⟩:=a
              simp only [] at hsp
              subst hsp
              refine ⟨[.vsl false ((List.range elems.length).map f)],.cons _ _ _ _ (.sl l _ (by simp;omega) (.of_all fun y he=>?_)) .nil,.cons _ _ _ _ (.vsl false _ X o (P.cellsOf e) cap elems.length (zgX.of_get fun i y he=>?_) (by simp) hlc (by simp)) .nil⟩
              · obtain ⟨i,hi,rfl⟩:=List.mem_map.1 he
                exact (hf i (by simpa using hi)).1
              · have hi : i < elems.length := by have := (List.getElem?_eq_some_iff.1 he).1; simpa using this
                rw [List.getElem?_map,List.getElem?_range hi] at he
                obtain rfl:=Option.some.inj he
                exact ⟨by rw [(hf i hi).1.length];exact hlen.1,(hf i hi).2⟩
        · simp at hs
      · simp at hs
    · rename_i fs hu
      obtain ⟨xs,n,rfl,_,hl,hlen,hf⟩:=DataW.trod_struct hu h
      have := zzN (enc := enc) (base := base) (spare := spare) (held := held) (n := n) hl (fun t tys cs' h1 ⟨x, h2⟩ => zmd d h1 h2) fs.toList 0 tys hs fun f hfm => by
        obtain ⟨i,hi⟩:=List.mem_iff_getElem?.1 hfm
        have hi':fs[i]?=some f:=by simpa using hi
        have hlt:=(Array.getElem?_eq_some_iff.1 hi').1
        exact ⟨_,(hf i f hi').trans (List.getElem?_eq_getElem (by omega))⟩
      simpa using this
    · rename_i n e hu
      split at hs
      · rename_i l hl
        split at hs
        · rename_i hz
          obtain rfl:=Option.some.inj hs
          obtain ⟨xs,m,rfl,_,hlc,hlen,hget⟩:=DataW.trod_array hu h
          have:=zzO (W:=W) (n:=n) (sz:=P.cellsOf e) (cs:=cs) (l:=l) (by rw [hlc];exact hz.1) (fun i hi=>zmd d hl ((hget i hi).trans (List.getElem?_eq_getElem (by omega)))) n (Nat.le_refl _)
          simpa using this
        · simp at hs
      · simp at hs
    · simp at hs
theorem zHa {d:Nat} {t:TypeId} {tys:List Ty} {v:Value} {dd:DataW H} {ps:List MemPlace} (hs:shT P d t=some tys) (hok:Value.okWide P W .any base t v) (h:DataW.Trod enc P W 0 spare held t v dd ps):
    (∃ avs,zdG tys avs∧Rep (st0 W) (.agg avs) v∧∃ cs,v=.agg cs)∨(∃ ty c,tys=[ty]∧zmS ty c∧Rep (st0 W) c v∧∀ cs,v≠.agg cs):=by
  obtain ⟨fuel,h⟩:=h
  obtain ⟨avs,h1,h2⟩:=zmd d hs h
  by_cases hv:∃ cs,v=.agg cs
  · obtain ⟨cs,rfl⟩:=hv
    exact .inl ⟨avs,h1,.agg avs cs (by simpa [Value.cells] using h2) h1.cell,cs,rfl⟩
  · right
    have e:v.cells=#[v]:=by
      cases v <;> first | rfl | exact (hv ⟨_,rfl⟩).elim
    rw [e] at h2
    cases h2 with
    | cons c _ cs _ hc ht=>
      cases ht
      cases h1 with
      | cons ty ts _ _ g1 g2=>
        cases g2
        exact ⟨ty,c,rfl,g1,hc,fun cs hcs=>hv ⟨cs,hcs⟩⟩
end
theorem zHb {C:Ctx} {P:Program} (hC:zwe C P) {W:World} {f:FuncId} {F:AFn} {args:List zaa} {cargs:Array Value} {h':zab} (hF:C.fns f=some F)
    (hv:zag C ⟨0,0,0,0⟩ f args ⟨[],[]⟩=some (.bool true,h')) (hg:∀ g cs,C.glob g=some cs→zpf (st0 W) g cs) (hargs:zbw (st0 W) args cargs.toList):
    Calls P f cargs W fun e W'=>e=.returned (.bool true)∧Below W.heap.size W W':=by
  obtain ⟨⟨_,hc⟩,_⟩:=zG4 hC hv
  have hsim:Sim C (st0 W):=⟨rfl,rfl,fun b X cs hb=>by simp [st0] at hb,fun b b' X hb=>by simp [st0] at hb,fun t t' X z z' ht=>by simp [st0] at ht,fun b t X z hb=>by simp [st0] at hb,fun t X z ht=>by simp [st0] at ht,hg⟩
  obtain ⟨nx,w',h1,h2⟩:=hc (st0 W) cargs rfl hsim ⟨Nat.le_refl _,Nat.le_refl _,Nat.le_refl _,Nat.le_refl _⟩ hargs
  obtain ⟨fn,fl,g1,g2,g3⟩:=hC.fns f F hF
  have hb:∃ x,fn.body=some x:=by
    unfold cfn at g2
    cases hx:fn.body with
    | some x=>exact ⟨x,rfl⟩
    | none=>rw [hx] at g2;simp at g2
  obtain ⟨x,hx⟩:=hb
  have he:=zrX g1 hx g3 cargs W
  have h1':(callFunc f cargs).run P W=.ok nx w':=h1
  rw [he] at h1'
  injection h1' with e1 e2
  subst e1 e2
  rcases h2 with ⟨cv,h3 | h3,_⟩ | ⟨f',args',h3,h4⟩
  · simp at h3
  · simp at h3
  · injection h3 with e1 e2
    subst e1 e2
    refine h4.mono fun e W' hgd=>?_
    cases e with
    | returned cv=>
      obtain ⟨s',rfl,_,_,hle,hrep⟩:=hgd
      cases hrep
      have hk:=hle.kept
      exact ⟨rfl, hk.os, hk.tape, hk.out, hk.size, fun k hlt => hk.heap k hlt fun ht => by
        rcases ht with ⟨b,hb⟩ | ⟨t,z,hz⟩
        · simp [st0] at hb
        · simp [st0] at hz⟩
    | panicked _=>exact hgd.elim
    | outgrown=>exact hgd.elim
end Go.Av
namespace Go.Av
abbrev iv (d:Nat) (o:VOp):AI:=⟨some d,.v o,none,[],0,0⟩
abbrev ir (d:Nat) (o:ROp):AI:=⟨some d,.r o,none,[],0,0⟩
abbrev ic (d:Nat) (o:COp):AI:=⟨some d,.c o,none,[],0,0⟩
abbrev jc (o:COp):AI:=⟨none,.c o,none,[],0,0⟩
def zaS {α:Type} (x:α):Nat→List α
  | 0=>[]
  | n+1=>x :: zaS x n
def ifK {α:Type} (b:Bool) (x y:α):α:=if b=true then x else y
@[simp] theorem zNT {α:Type} (x y:α):ifK true x y=x:=rfl
@[simp] theorem zMg {α:Type} (x y:α):ifK false x y=y:=rfl
noncomputable section
variable (C:Ctx) (L:Lim) (fr:Fr) (h:zab)
def zJb (r:Option (AEx × Fr × zab)) (b:AC):Option (AEx × Fr × zab):=
  r.bind fun r => match r.1 with
    | .normal=>run C L b r.2.1 r.2.2
    | _=>some r
@[simp] theorem zMi (b:AC):zJb C L none b=none:=rfl
@[simp] theorem zJe (b:AC):zJb C L (some (.normal,fr,h)) b=run C L b fr h:=rfl
@[simp] theorem zMj (b:AC) (i:Nat):zJb C L (some (.exit i,fr,h)) b=some (.exit i,fr,h):=rfl
@[simp] theorem zMl (b:AC) (i:Nat):zJb C L (some (.goto i,fr,h)) b=some (.goto i,fr,h):=rfl
@[simp] theorem zNX (b:AC):zJb C L (some (.ret,fr,h)) b=some (.ret,fr,h):=rfl
@[simp] theorem zN0:run C L .skip fr h=some (.normal,fr,h):=by rw [run.eq_def]
@[simp] theorem zN2 (i:Nat):run C L (.exit i) fr h=some (.exit i,fr,h):=by rw [run.eq_def]
@[simp] theorem zO6:run C L .ret fr h=some (.ret,fr,h):=by rw [run.eq_def]
@[simp] theorem zN3 (a b:AC):run C L (.seq a b) fr h=zJb C L (run C L a fr h) b:=by rw [run.eq_def];rfl
def zMp (id:Nat) (r:Option (AEx × Fr × zab)):Option (AEx × Fr × zab):=r.map fun r=>if r.1=.exit id then (.normal,r.2) else r
@[simp] theorem zLc (id:Nat):zMp id none=none:=rfl
@[simp] theorem zLd (id:Nat) (e:AEx):zMp id (some (e,fr,h))=some (if e=.exit id then .normal else e,fr,h):=by
  unfold zMp;simp only [Option.map_some];split <;> simp_all
@[simp] theorem zNb (id:Nat) (a:AC):run C L (.blk id a) fr h=zMp id (run C L a fr h):=by
  rw [run.eq_def]
  simp only [zMp]
  cases run C L a fr h with
  | none=>rfl
  | some r=>simp only [bind,Option.bind_some,Option.map_some];split <;> rfl
def zB3:zaa→Option Bool
  | .bool b=>some b
  | _=>none
@[simp] theorem zIa (b:Bool):zB3 (.bool b)=some b:=rfl
def zE3 (b:Bool) (x y:AC):Option (AEx × Fr × zab):=if b=true then run C L x fr h else run C L y fr h
@[simp] theorem zJ9 (x y:AC):zE3 C L fr h true x y=run C L x fr h:=rfl
@[simp] theorem zIb (x y:AC):zE3 C L fr h false x y=run C L y fr h:=rfl
def zLf (c:Option Bool) (x y:AC):Option (AEx × Fr × zab):=c.bind fun c=>zE3 C L fr h c x y
@[simp] theorem zKa (b:Bool) (x y:AC):zLf C L fr h (some b) x y=zE3 C L fr h b x y:=rfl
@[simp] theorem zLg (c:AO) (a b:AC):run C L (.cond c a b) fr h=zLf C L fr h (zB3 (C.ev fr c)) a b:=by
  rw [run.eq_def]
  simp only
  generalize C.ev fr c=v
  cases v <;> first | rfl | (rename_i b;cases b <;> rfl)
theorem zry (a:AC):run C L (.loop a) fr h=zJb C L (run C L a fr h) (.loop a):=by
  rw [run.eq_def]
  rfl
def zPD (r:Option (Fr × zab)):Option (AEx × Fr × zab):=r.map fun r=>(.normal,r.1,r.2)
@[simp] theorem zLj:zPD (some (fr,h))=some (.normal,fr,h):=rfl
@[simp] theorem zNd (ops:List AI):run C L (.reg ops) fr h=zPD (zpX C L ops fr h):=by
  rw [run.eq_def];simp only;cases zpX C L ops fr h <;> rfl
@[simp] theorem zLk:zpX C L [] fr h=some (fr,h):=by rw [zpX.eq_def]
theorem zi3 (i : AI) (rest : List AI) : zpX C L (i :: rest) fr h = if zbp fr i.grd = true then (step1 C L i.op fr h).bind fun r => zpX C L rest (put fr i.dst r.1) r.2 else zpX C L rest (put fr i.dst zaK) h := by
  rw [zpX.eq_def];rfl
def opV (d:Option Nat) (rest:List AI) (r:Option zaa):Option (Fr × zab):=r.bind fun v=>zpX C L rest (put fr d v) h
@[simp] theorem zNf (d:Option Nat) (rest:List AI) (v:zaa):opV C L fr h d rest (some v)=zpX C L rest (put fr d v) h:=rfl
def opC (d:Option Nat) (rest:List AI) (r:Option (zaa × zab)):Option (Fr × zab):=r.bind fun r=>zpX C L rest (put fr d r.1) r.2
@[simp] theorem zNg (d:Option Nat) (rest:List AI) (v:zaa):opC C L fr d rest (some (v,h))=zpX C L rest (put fr d v) h:=rfl
@[simp] theorem zPE (d:Option Nat) (o:VOp) (rest:List AI) (u:List Nat) (x y:Nat):zpX C L (⟨d,.v o,none,u,x,y⟩ :: rest) fr h=opV C L fr h d rest (zbZ C fr o):=by
  rw [zi3,step1.eq_def]
  simp only [zbp,if_true]
  cases zbZ C fr o <;> rfl
@[simp] theorem zPF (d:Option Nat) (o:ROp) (rest:List AI) (u:List Nat) (x y:Nat):zpX C L (⟨d,.r o,none,u,x,y⟩ :: rest) fr h=opV C L fr h d rest (zkf C L o fr h):=by
  rw [zi3,step1.eq_def]
  simp only [zbp,if_true]
  cases zkf C L o fr h <;> rfl
@[simp] theorem zPG (d:Option Nat) (o:COp) (rest:List AI) (u:List Nat) (x y:Nat):zpX C L (⟨d,.c o,none,u,x,y⟩ :: rest) fr h=opC C L fr d rest (zf6 C L o fr h):=by
  rw [zi3,step1.eq_def]
  simp only [zbp,if_true]
  rfl
def zE9 (v:zaa) (b:Bool):Bool:=match v with | .bool c=>c==b | _=>false
@[simp] theorem zLn (c:Bool):zE9 (.bool c) true=c:=by cases c <;> rfl
@[simp] theorem zKb (c:Bool):zE9 (.bool c) false=!c:=by cases c <;> rfl
def zNh (g:Bool) (d:Option Nat) (o:AOp) (rest:List AI):Option (Fr × zab):=if g=true then zpX C L (⟨d,o,none,[],0,0⟩ :: rest) fr h else zpX C L rest (put fr d zaK) h
@[simp] theorem zLq (d:Option Nat) (o:AOp) (rest:List AI):zNh C L fr h true d o rest=zpX C L (⟨d,o,none,[],0,0⟩ :: rest) fr h:=rfl
@[simp] theorem zKc (d:Option Nat) (o:AOp) (rest:List AI):zNh C L fr h false d o rest=zpX C L rest (put fr d zaK) h:=rfl
@[simp] theorem zPI (d:Option Nat) (o:AOp) (t:Nat) (b:Bool) (rest:List AI) (u:List Nat) (x y:Nat):zpX C L (⟨d,o,some (t,b),u,x,y⟩ :: rest) fr h=
    zNh C L fr h (zE9 (fr t) b) d o rest:=by
  unfold zNh
  rw [zi3,zi3]
  simp only [zbp,if_true,zE9]
  rfl
@[simp] theorem zNi (n:Nat) (g:Bool) (x:AO):zkf C L (.ld n g x) fr h=zkH h (C.ev fr x) n g:=by rw [zkf.eq_def];rfl
@[simp] theorem zLr (x:AO):zkf C L (.b2s x) fr h=zzz C fr h (.b2s x):=by rw [zkf.eq_def]
@[simp] theorem zKd (x:AO):zkf C L (.mark x) fr h=zzz C fr h (.mark x):=by rw [zkf.eq_def]
def zKe (q:Bool) (r:Option (zaa × zab)):Option zaa:=if q=true then r.map (·.1) else none
@[simp] theorem zLs (v:zaa):zKe true (some (v,h))=some v:=rfl
@[simp] theorem zKf (f:FuncId) (as:List AO):zkf C L (.call f as) fr h=zKe (zac C f) (zag C L f (as.map (C.ev fr)) h):=by
  rw [zkf.eq_def];simp only [zKe];split
  · cases zag C L f (as.map (C.ev fr)) h <;> rfl
  · rfl
@[simp] theorem zKg (f:FuncId) (as:List AO):zf6 C L (.call f as) fr h=zag C L f (as.map (C.ev fr)) h:=by rw [zf6.eq_def]
def zHq (x:zaa) (as:List zaa):Option (zaa × zab):=match x with
  | .fn (.func f) a b=>zag C L f (a++as++b) h
  | _=>none
@[simp] theorem zLt (f:FuncId) (a b as:List zaa):zHq C L h (.fn (.func f) a b) as=zag C L f (a++as++b) h:=rfl
@[simp] theorem zIh (x:AO) (as:List AO):zf6 C L (.callv x as) fr h=zHq C L h (C.ev fr x) (as.map (C.ev fr)):=by
  rw [zf6.eq_def];rfl
@[simp] theorem zIi (z:List zaa):zf6 C L (.alloc z) fr h=zh5 C L fr h (.alloc z):=by rw [zf6.eq_def]
@[simp] theorem zLu (x:AO):zf6 C L (.box x) fr h=zh5 C L fr h (.box x):=by rw [zf6.eq_def]
@[simp] theorem zKh (a b:Nat) (z:List zaa) (p:List (Nat × AO)):zf6 C L (.slit a b z p) fr h=zh5 C L fr h (.slit a b z p):=by rw [zf6.eq_def]
@[simp] theorem zNk (a:Nat) (z:List zaa) (x:AO):zf6 C L (.mk a z x) fr h=zh5 C L fr h (.mk a z x):=by rw [zf6.eq_def]
@[simp] theorem zNl (n:Nat) (x y:AO):zf6 C L (.st n x y) fr h=zh5 C L fr h (.st n x y):=by rw [zf6.eq_def]
@[simp] theorem zLv (n:Nat) (r:Bool) (x y:AO):zf6 C L (.app n r x y) fr h=zh5 C L fr h (.app n r x y):=by rw [zf6.eq_def]
@[simp] theorem zKi (n:Nat) (x y:AO):zf6 C L (.copy n x y) fr h=zh5 C L fr h (.copy n x y):=by rw [zf6.eq_def]
@[simp] theorem zIl (z:List zaa) (x:AO):zf6 C L (.clear z x) fr h=zh5 C L fr h (.clear z x):=by rw [zf6.eq_def]
@[simp] theorem zQh (n:Nat):C.ev fr (.t n)=fr n:=rfl
@[simp] theorem zQi (v:zaa):C.ev fr (.k v)=v:=rfl
@[simp] theorem zNn (d:Nat) (v:zaa):put fr (some d) v=upd fr d v:=rfl
@[simp] theorem zNo (v:zaa):put fr none v=fr:=rfl
@[simp] theorem zN8 (u:List Nat) (i:Nat):ziL u fr i=ifK (u.contains i) (fr i) zaK:=rfl
def zAU (v:zaa) (r:Option (Fr × List zab × List zaa)):Option (Fr × List zab × List zaa):=r.map fun q=>(q.1,q.2.1,v :: q.2.2)
def zDV (h:zab) (v:zaa) (r:Option (Fr × List zab × List zaa)):Option (Fr × List zab × List zaa):=r.map fun q=>(q.1,h :: q.2.1,v :: q.2.2)
@[simp] theorem zKH (v:zaa) (fr:Fr) (hs:List zab) (vs:List zaa):zAU v (some (fr,hs,vs))=some (fr,hs,v :: vs):=rfl
@[simp] theorem zKI (h:zab) (v:zaa) (fr:Fr) (hs:List zab) (vs:List zaa):zDV h v (some (fr,hs,vs))=some (fr,h :: hs,v :: vs):=rfl
def zGQ (u:Option Unit):Option (AEx × Fr × zab):=u.map fun _=>(.normal,fr,h)
@[simp] theorem zKJ:zGQ fr h (some ())=some (.normal,fr,h):=rfl
def zJD (ops:List AI) (r:Option (Fr × List zab × List zaa)):Option (AEx × Fr × zab):=
  r.bind fun r=>zGQ r.1 (r.2.1.getLastD h) (zpd C L ops r.2.2 fr (h :: r.2.1))
@[simp] theorem zKK (ops:List AI) (fr':Fr) (hs:List zab) (vs:List zaa):zJD C L fr h ops (some (fr',hs,vs))=zGQ fr' (hs.getLastD h) (zpd C L ops vs fr (h :: hs)):=rfl
@[simp] theorem zME (ops:List AI):run C L (.draw ops) fr h=zJD C L fr h ops (zk2 C L ops fr h):=by
  rw [run.eq_def]
  simp only [zJD,zGQ]
  cases zk2 C L ops fr h with
  | none=>rfl
  | some r=>simp only [bind,Option.bind_some];cases zpd C L ops r.2.2 fr (h :: r.2.1) <;> rfl
@[simp] theorem zMF:zk2 C L [] fr h=some (fr,[],[]):=by rw [zk2.eq_def]
def dV (d:Option Nat) (rest:List AI) (r:Option zaa):Option (Fr × List zab × List zaa):=r.bind fun v=>zAU v (zk2 C L rest (put fr d v) h)
@[simp] theorem zPd (d:Option Nat) (rest:List AI) (v:zaa):dV C L fr h d rest (some v)=zAU v (zk2 C L rest (put fr d v) h):=rfl
def dC (d:Option Nat) (rest:List AI) (r:Option (zaa × zab)):Option (Fr × List zab × List zaa):=r.bind fun r=>zDV r.2 r.1 (zk2 C L rest (put fr d r.1) r.2)
@[simp] theorem zPe (d:Option Nat) (rest:List AI) (v:zaa):dC C L fr d rest (some (v,h))=zDV h v (zk2 C L rest (put fr d v) h):=rfl
@[simp] theorem zP1 (d:Option Nat) (o:VOp) (rest:List AI) (u:List Nat) (x y:Nat):zk2 C L (⟨d,.v o,none,u,x,y⟩ :: rest) fr h=
    dV C L fr h d rest (zbZ C (ziL u fr) o):=by
  rw [zk2.eq_def]
  simp only [zbp,if_true]
  rw [step1.eq_def]
  simp only
  cases zbZ C (ziL u fr) o with
  | none=>rfl
  | some v=>simp only [bind,Option.bind_some,dV];cases zk2 C L rest (put fr d v) h <;> rfl
@[simp] theorem zP2 (d:Option Nat) (o:ROp) (rest:List AI) (u:List Nat) (x y:Nat):zk2 C L (⟨d,.r o,none,u,x,y⟩ :: rest) fr h=
    dV C L fr h d rest (zkf C L o (ziL u fr) h):=by
  rw [zk2.eq_def]
  simp only [zbp,if_true]
  rw [step1.eq_def]
  simp only
  cases zkf C L o (ziL u fr) h with
  | none=>rfl
  | some v=>simp only [bind,Option.bind_some,dV];cases zk2 C L rest (put fr d v) h <;> rfl
@[simp] theorem zP3 (d:Option Nat) (o:COp) (rest:List AI) (u:List Nat) (x y:Nat):zk2 C L (⟨d,.c o,none,u,x,y⟩ :: rest) fr h=
    dC C L fr d rest (zf6 C L o (ziL u fr) h):=by
  rw [zk2.eq_def]
  simp only [zbp,if_true]
  rw [step1.eq_def]
  simp only
  cases zf6 C L o (ziL u fr) h with
  | none=>rfl
  | some r=>simp only [bind,Option.bind_some,dC];cases zk2 C L rest (put fr d r.1) r.2 <;> rfl
def zKL (g:Bool) (d:Option Nat) (o:AOp) (u:List Nat) (x y:Nat) (rest:List AI):Option (Fr × List zab × List zaa):=
  if g=true then zk2 C L (⟨d,o,none,u,x,y⟩ :: rest) fr h else (if isC o=true then zDV h zaK (zk2 C L rest (put fr d zaK) h) else zAU zaK (zk2 C L rest (put fr d zaK) h))
@[simp] theorem zMH (d:Option Nat) (o:AOp) (u:List Nat) (x y:Nat) (rest:List AI):zKL C L fr h true d o u x y rest=zk2 C L (⟨d,o,none,u,x,y⟩ :: rest) fr h:=rfl
@[simp] theorem zJH (d:Option Nat) (o:VOp) (u:List Nat) (x y:Nat) (rest:List AI):zKL C L fr h false d (.v o) u x y rest=zAU zaK (zk2 C L rest (put fr d zaK) h):=rfl
@[simp] theorem zJI (d:Option Nat) (o:ROp) (u:List Nat) (x y:Nat) (rest:List AI):zKL C L fr h false d (.r o) u x y rest=zAU zaK (zk2 C L rest (put fr d zaK) h):=rfl
@[simp] theorem zJJ (d:Option Nat) (o:COp) (u:List Nat) (x y:Nat) (rest:List AI):zKL C L fr h false d (.c o) u x y rest=zDV h zaK (zk2 C L rest (put fr d zaK) h):=rfl
@[simp] theorem zP5 (d:Option Nat) (o:AOp) (t:Nat) (b:Bool) (rest:List AI) (u:List Nat) (x y:Nat):zk2 C L (⟨d,o,some (t,b),u,x,y⟩ :: rest) fr h=
    zKL C L fr h (zE9 (fr t) b) d o u x y rest:=by
  unfold zKL
  rw [zk2.eq_def]
  conv=>rhs;rw [zk2.eq_def]
  simp only [zbp,if_true]
  show (if zE9 (fr t) b=true then _ else _)=(if zE9 (fr t) b=true then _ else _)
  split
  · rfl
  · cases zk2 C L rest (put fr d zaK) h with
    | none=>cases o <;> rfl
    | some q=>cases o <;> rfl
@[simp] theorem zMJ (vs:List zaa) (hs:List zab):zpd C L [] vs fr hs=some ():=by rw [zpd.eq_def]
@[simp] theorem zP6 (d:Option Nat) (o:VOp) (g:Option (Nat × Bool)) (rest:List AI) (u:List Nat) (x y:Nat) (v:zaa) (vs:List zaa) (hs:List zab):
    zpd C L (⟨d,.v o,g,u,x,y⟩ :: rest) (v :: vs) fr hs=zpd C L rest vs (put fr d v) hs:=by rw [zpd.eq_def]
@[simp] theorem zP7 (d:Option Nat) (o:COp) (g:Option (Nat × Bool)) (rest:List AI) (u:List Nat) (x y:Nat) (v:zaa) (vs:List zaa) (hs:List zab):
    zpd C L (⟨d,.c o,g,u,x,y⟩ :: rest) (v :: vs) fr hs=zpd C L rest vs (put fr d v) hs:=by rw [zpd.eq_def]
def zPf (rest:List AI) (vs:List zaa) (hs:List zab) (r:Option Unit):Option Unit:=r.bind fun _=>zpd C L rest vs fr hs
@[simp] theorem zMK (rest:List AI) (vs:List zaa) (hs:List zab):zPf C L fr rest vs hs (some ())=zpd C L rest vs fr hs:=rfl
def zML (g:Bool) (o:ROp) (u:List Nat) (x y:Nat) (d:Option Nat) (v:zaa) (rest:List AI) (vs:List zaa) (hs:List zab):Option Unit:=
  if g=true then zPf C L (put fr d v) rest vs hs (zBu C L o (ziL u fr) ((hs.take (y+1)).drop x) v) else zpd C L rest vs (put fr d v) hs
@[simp] theorem zMM (o:ROp) (u:List Nat) (x y:Nat) (d:Option Nat) (v:zaa) (rest:List AI) (vs:List zaa) (hs:List zab):
    zML C L fr true o u x y d v rest vs hs=zPf C L (put fr d v) rest vs hs (zBu C L o (ziL u fr) ((hs.take (y+1)).drop x) v):=rfl
@[simp] theorem zKM (o:ROp) (u:List Nat) (x y:Nat) (d:Option Nat) (v:zaa) (rest:List AI) (vs:List zaa) (hs:List zab):
    zML C L fr false o u x y d v rest vs hs=zpd C L rest vs (put fr d v) hs:=rfl
theorem zHK (d:Option Nat) (o:ROp) (g:Option (Nat × Bool)) (rest:List AI) (u:List Nat) (x y:Nat) (v:zaa) (vs:List zaa) (hs:List zab):
    zpd C L (⟨d,.r o,g,u,x,y⟩ :: rest) (v :: vs) fr hs=zML C L fr (zbp fr g&&decide (x < y)) o u x y d v rest vs hs:=by
  rw [zpd.eq_def];rfl
@[simp] theorem zPg (d:Option Nat) (o:ROp) (rest:List AI) (u:List Nat) (x y:Nat) (v:zaa) (vs:List zaa) (hs:List zab):
    zpd C L (⟨d,.r o,none,u,x,y⟩ :: rest) (v :: vs) fr hs=zML C L fr (decide (x < y)) o u x y d v rest vs hs:=by
  rw [zHK];simp [zbp]
@[simp] theorem zPh (d:Option Nat) (o:ROp) (t:Nat) (b:Bool) (rest:List AI) (u:List Nat) (x y:Nat) (v:zaa) (vs:List zaa) (hs:List zab):
    zpd C L (⟨d,.r o,some (t,b),u,x,y⟩ :: rest) (v :: vs) fr hs=zML C L fr (zE9 (fr t) b&&decide (x < y)) o u x y d v rest vs hs:=by
  rw [zHK];rfl
@[simp] theorem zN9 (o:ROp) (v:zaa):zBu C L o fr [] v=some ():=by rw [zBu.eq_def]
open Classical in
def zPi (o:ROp) (hs:List zab) (v:zaa) (u:Option zaa):Option Unit:=u.bind fun u=>if u=v then zBu C L o fr hs v else none
@[simp] theorem zMN (o:ROp) (hs:List zab) (v:zaa):zPi C L fr o hs v (some v)=zBu C L o fr hs v:=by simp [zPi]
@[simp] theorem zMO (o:ROp) (v:zaa) (h:zab) (hs:List zab):zBu C L o fr (h :: hs) v=zPi C L fr o hs v (zkf C L o fr h):=by rw [zBu.eq_def];rfl
theorem zGT {f:FuncId} {F:AFn} (hx:C.ext f=none) (hf:C.fns f=some F) (hp:F.pre=none) (args:List zaa):zag C L f args h=
    (zke (C.mode f) h args).bind fun a => (run C (zc0 (C.mode f) L h) F.code (fun i => a.1.getD i zaK) h).bind fun r =>
      if (r.1=.normal∨r.1=.ret)∧a.1.length≤F.n then
        (zq9 r.2.1 r.2.2 F.res).bind fun vs=>(zsS (C.mode f) h r.2.2 (zxA vs)).bind fun o=>if (a.2&&!o.1.flat)=true then none else some o
      else none:=by
  rw [zag.eq_def]
  simp only [hx,hf,hp,bind,Option.bind_some,ztq]
theorem zss {f : FuncId} {g : zIF} (hx : C.ext f = some g) (args : List zaa) : zag C L f args h = (g.pre L args h).bind fun q => match q with
    | .inl r=>some r
    | .inr q=>(zag C L q.1 q.2.1 q.2.2).bind fun r=>g.post args r.1 r.2:=by
  rw [zag.eq_def]
  simp only [hx,bind]
  congr 1
end
end Go.Av
namespace Go.Av
section
variable (C:Ctx) (fr:Fr)
theorem zIO (d:Nat) (v:zaa) (i:Nat):upd fr d v i=ifK (i==d) v (fr i):=by
  unfold upd ifK
  by_cases h:i=d
  · subst h;simp
  · simp [h]
attribute [simp] zIO
def zmB:zaa→Option zaa
  | .tup _=>none
  | .agg cs=>some (.vptr cs 0)
  | v=>some (.vptr [v] 0)
theorem zIN (x:AO):zbZ C fr (.boxv x)=zmB (C.ev fr x):=by
  simp only [zbZ]
  cases C.ev fr x <;> simp [zmB,zaa.okV,zaa.cells]
theorem zLZ (x:AO):zbZ C fr (.mv x)=some (C.ev fr x):=by simp only [zbZ]
def zIQ (c:Option Bool) (a b:zaa):Option zaa:=c.map fun t=>ifK t a b
@[simp] theorem zKy (t:Bool) (a b:zaa):zIQ (some t) a b=some (ifK t a b):=by unfold zIQ;exact rfl
theorem zF2 (c a b:AO):zbZ C fr (.pick c a b)=zIQ (zB3 (C.ev fr c)) (C.ev fr a) (C.ev fr b):=by
  simp only [zbZ]
  cases C.ev fr c <;> rfl
theorem zIR (op:BinOp) (x y:AO):zbZ C fr (.bin op x y)=zdY op (C.ev fr x) (C.ev fr y):=by simp only [zbZ]
theorem zL4 (c : zKs) (n : Bool) (x y : AO) : zbZ C fr (.eq c n x y) = (eqA c (C.ev fr x) (C.ev fr y)).map fun b => .bool (n ^^ b) := by
  simp only [zbZ]
  cases n <;> cases eqA c (C.ev fr x) (C.ev fr y) <;> simp
def zOZ:zaa→Option zaa
  | .bool b=>some (.bool !b)
  | _=>none
theorem zIU (x:AO):zbZ C fr (.un .not x)=zOZ (C.ev fr x):=by
  simp only [zbZ]
  cases C.ev fr x <;> rfl
theorem zIW (x:AO):zbZ C fr (.un .neg x)=unA .neg (C.ev fr x):=by simp only [zbZ]
def zKA (k:IntKind):zaa→Option zaa
  | .int _ n=>some (.int k (k.wrap n))
  | _=>none
theorem zIY (k:IntKind) (x:AO):zbZ C fr (.i2i k x)=zKA k (C.ev fr x):=by
  simp only [zbZ];cases C.ev fr x <;> rfl
def zO2:zaa→Option ByteArray
  | .str s=>some s
  | _=>none
theorem zF7 (x : AO) : zbZ C fr (.lenS x) = (zO2 (C.ev fr x)).map fun s => .int .i64 s.size := by
  simp only [zbZ];cases C.ev fr x <;> rfl
theorem zF8 (x:AO):zbZ C fr (.lenL x)=(zwo (C.ev fr x)).map fun (n:Nat)=>zaa.int .i64 (n:Int):=by simp only [zbZ]
theorem zGa (t:TypeId) (x:AO):zbZ C fr (.mkif t x)=some (.iface t (C.ev fr x)):=by simp only [zbZ]
theorem zGc (f:Fn) (a b:List AO):zbZ C fr (.mkfn f a b)=some (.fn f (a.map (C.ev fr)) (b.map (C.ev fr))):=by simp only [zbZ]
theorem zDl (k:SK) (sz:Nat) (x:AO) (lo hi mx:Option AO):zbZ C fr (.slice k sz x lo hi mx)=zdB k sz (C.ev fr x) (lo.map (C.ev fr)) (hi.map (C.ev fr)) (mx.map (C.ev fr)):=by simp only [zbZ]
def zwF (off:Nat):zaa→Option zaa
  | .ptr b o=>some (.ptr b (o+off))
  | .vptr cs o=>some (.vptr cs (o+off))
  | _=>none
theorem zGe (off:Nat) (x:AO):zbZ C fr (.fadr off x)=zwF off (C.ev fr x):=by
  simp only [zbZ];cases C.ev fr x <;> rfl
def zEG:zaa→Option zaa
  | .ptr b o=>some (.ptr b o)
  | .vptr cs o=>some (.vptr cs o)
  | .iface t v=>some (.iface t v)
  | _=>none
theorem zI3 (x:AO):zbZ C fr (.nck x)=zEG (C.ev fr x):=by
  simp only [zbZ];cases C.ev fr x <;> rfl
def zNR (off sz:Nat) (agg:Bool):zaa→Option zaa
  | .agg cs=>zdZ agg cs off sz
  | _=>none
theorem zI4 (off sz:Nat) (agg:Bool) (x:AO):zbZ C fr (.fld off sz agg x)=zNR off sz agg (C.ev fr x):=by
  simp only [zbZ];cases C.ev fr x <;> rfl
theorem zGg (a:Option Nat) (sz:Nat) (x i:AO):zbZ C fr (.iadr a sz x i)=zcG a sz (C.ev fr x) (C.ev fr i):=by simp only [zbZ]
def zNS (len sz:Nat) (agg:Bool):zaa→zaa→Option zaa
  | .agg cs,.int _ i=>if 0≤i∧i < len then zdZ agg cs (i.toNat*sz) sz else none
  | _,_=>none
theorem zGh (len sz:Nat) (agg:Bool) (x i:AO):zbZ C fr (.idxA len sz agg x i)=zNS len sz agg (C.ev fr x) (C.ev fr i):=by
  simp only [zbZ]
  generalize C.ev fr x=a
  generalize C.ev fr i=b
  cases a <;> cases b <;> rfl
def zI6:zaa→zaa→Option zaa
  | .str s,.int _ i=>if 0≤i then (s.data.toList[i.toNat]?).map fun b=>.int .u8 b.toNat else none
  | _,_=>none
theorem zGi (x i:AO):zbZ C fr (.idxS x i)=zI6 (C.ev fr x) (C.ev fr i):=by
  simp only [zbZ]
  generalize C.ev fr x=a
  generalize C.ev fr i=b
  cases a <;> cases b <;> rfl
def zO5 (i:Nat):zaa→Option zaa
  | .tup vs=>vs[i]?
  | _=>none
theorem zI9 (x:AO) (i:Nat):zbZ C fr (.ext x i)=zO5 i (C.ev fr x):=by
  simp only [zbZ];cases C.ev fr x <;> rfl
def zMh (n:Nat):zaa→Option zaa
  | .sl b off _ len _=>if n≤len then some (.ptr b off) else none
  | .vsl _ es=>if n≤es.length∧0 < n then some (.vptr (es.take n).flatten 0) else none
  | .gsl _ es=>if n≤es.length∧0 < n then some (.vptr (es.take n).flatten 0) else none
  | _=>none
theorem zJc (n:Nat) (x:AO):zbZ C fr (.s2a n x)=zMh n (C.ev fr x):=by
  simp only [zbZ];cases C.ev fr x <;> rfl
theorem zDw (z : List zaa) (ps : List (Nat × Nat × AO)) : zbZ C fr (.build z ps) = (zay z (ps.map fun p => (p.1, p.2.1, C.ev fr p.2.2))).map .agg := by
  simp only [zbZ];cases zay z (ps.map fun p=>(p.1,p.2.1,C.ev fr p.2.2)) <;> rfl
theorem zGl (sz len : Nat) (z : List zaa) (ps : List (Nat × AO)) : zbZ C fr (.slit sz len z ps) = (zay (rep z len) (ps.map fun p => (p.1 * sz, sz, C.ev fr p.2))).map fun cs => .vsl true (chunks sz len cs) := by
  simp only [zbZ];cases zay (rep z len) (ps.map fun p=>(p.1*sz,sz,C.ev fr p.2)) <;> rfl
theorem zGm (m:Bool) (x:AO) (xs:List AO):zbZ C fr (.mxmn m (x :: xs))=zqt m (C.ev fr x) (xs.map (C.ev fr)):=by simp only [zbZ,List.map_cons]
end
section
variable (k:IntKind) (a b:Int)
@[simp] theorem zN1 (cs:List zaa):zmB (.agg cs)=some (.vptr cs 0):=by unfold zmB;exact rfl
@[simp] theorem zMq (b:Bool):zOZ (.bool b)=some (.bool !b):=by unfold zOZ;exact rfl
@[simp] theorem zd5 (k':IntKind):zKA k' (.int k a)=some (.int k' (k'.wrap a)):=by unfold zKA;exact rfl
@[simp] theorem zOa (s:ByteArray):zO2 (.str s)=some s:=by unfold zO2;exact rfl
@[simp] theorem zOb (c:Bool) (es:List (List zaa)):zwo (.vsl c es)=some es.length:=by unfold zwo;exact rfl
@[simp] theorem zPk (x off sz n:Nat) (c:Option Nat):zwo (.sl x off sz n c)=some n:=by unfold zwo;exact rfl
@[simp] theorem zMS (off x o:Nat):zwF off (.ptr x o)=some (.ptr x (o+off)):=by unfold zwF;exact rfl
@[simp] theorem zKN (off o:Nat) (cs:List zaa):zwF off (.vptr cs o)=some (.vptr cs (o+off)):=by unfold zwF;exact rfl
@[simp] theorem zOe (x o:Nat):zEG (.ptr x o)=some (.ptr x o):=by unfold zEG;exact rfl
@[simp] theorem zPl (t:TypeId) (v:zaa):zEG (.iface t v)=some (.iface t v):=by unfold zEG;exact rfl
@[simp] theorem zMU (o:Nat) (cs:List zaa):zEG (.vptr cs o)=some (.vptr cs o):=by unfold zEG;exact rfl
@[simp] theorem zOf (off sz:Nat) (g:Bool) (cs:List zaa):zNR off sz g (.agg cs)=zdZ g cs off sz:=by unfold zNR;exact rfl
@[simp] theorem zOg (i:Nat) (vs:List zaa):zO5 i (.tup vs)=vs[i]?:=by unfold zO5;exact rfl
@[simp] theorem zJQ:zdY .add (.int k a) (.int k b)=some (.int k (k.wrap (a+b))):=by simp [zdY,zfN]
@[simp] theorem zyB:zdY .sub (.int k a) (.int k b)=some (.int k (k.wrap (a - b))):=by simp [zdY,zfN]
@[simp] theorem zJR:zdY .mul (.int k a) (.int k b)=some (.int k (k.wrap (a*b))):=by simp [zdY,zfN]
theorem zlP (h:b≠0):zdY .quo (.int k a) (.int k b)=some (.int k (k.wrap (a.tdiv b))):=by simp [zdY,zfN,h]
theorem ziT (h:b≠0):zdY .rem (.int k a) (.int k b)=some (.int k (a.tmod b)):=by simp [zdY,zfN,h]
@[simp] theorem zlQ:zdY .and (.int k a) (.int k b)=some (.int k (k.wrap (BitVec.ofInt k.bits a&&&BitVec.ofInt k.bits b).toNat)):=by simp [zdY,zfN]
@[simp] theorem zEc:zdY .or (.int k a) (.int k b)=some (.int k (k.wrap (BitVec.ofInt k.bits a|||BitVec.ofInt k.bits b).toNat)):=by simp [zdY,zfN]
@[simp] theorem zJT:zdY .xor (.int k a) (.int k b)=some (.int k (k.wrap (BitVec.ofInt k.bits a ^^^ BitVec.ofInt k.bits b).toNat)):=by simp [zdY,zfN]
@[simp] theorem zA1:zdY .andNot (.int k a) (.int k b)=some (.int k (k.wrap (BitVec.ofInt k.bits a&&&~~~ (BitVec.ofInt k.bits b)).toNat)):=by simp [zdY,zfN]
@[simp] theorem zJU:zdY .eql (.int k a) (.int k b)=some (.bool (a==b)):=by simp [zdY,zfN]
@[simp] theorem zvr:zdY .neq (.int k a) (.int k b)=some (.bool (a !=b)):=by simp [zdY,zfN]
@[simp] theorem zJV:zdY .lss (.int k a) (.int k b)=some (.bool (decide (a < b))):=by simp [zdY,zfN]
@[simp] theorem zPm:zdY .leq (.int k a) (.int k b)=some (.bool (decide (a≤b))):=by simp [zdY,zfN]
@[simp] theorem zJY:zdY .gtr (.int k a) (.int k b)=some (.bool (decide (a > b))):=by simp [zdY,zfN]
@[simp] theorem zkk:zdY .geq (.int k a) (.int k b)=some (.bool (decide (a≥b))):=by simp [zdY,zfN]
@[simp] theorem zlT (k':IntKind):zdY .shl (.int k a) (.int k' b)=zkt .shl k a b:=by simp [zdY]
@[simp] theorem zdO (k':IntKind):zdY .shr (.int k a) (.int k' b)=zkt .shr k a b:=by simp [zdY]
@[simp] theorem zOi (s t:ByteArray):zdY .eql (.str s) (.str t)=some (.bool (s==t)):=by simp [zdY]
@[simp] theorem zJ2 (sh:List CK) (xs ys:List zaa):eqA (.agg sh) (.agg xs) (.agg ys)=zbm sh xs ys:=by simp [eqA]
theorem zae (cs:List zaa) (off n:Nat):zdZ false cs off n=cs[off]?:=by unfold zdZ;simp
theorem zxa {cs:List zaa} {n:Nat} (h:cs.length=n):zdZ true cs 0 n=some (.agg cs):=by
  unfold zdZ;subst h;simp
@[simp] theorem zKS (h:zab) (cs:List zaa) (off n:Nat) (g:Bool):zkH h (.vptr cs off) n g=zdZ g cs off n:=by unfold zkH;exact rfl
theorem zxc:∀ (cs pre old:List zaa),old.length=cs.length→setAt (pre++old) pre.length cs=pre++cs
  | [],pre,old,h=>by simp at h;subst h;rfl
  | c :: cs,pre,[],h=>by simp at h
  | c :: cs, pre, x :: old, h => by
    have:=zxc cs (pre++[c]) old (by simpa using h)
    simp only [setAt]
    rw [List.set_append_right _ _ (Nat.le_refl _),Nat.sub_self,List.set_cons_zero]
    simpa using this
theorem zA3 {cs old:List zaa} (h:old.length=cs.length):setAt old 0 cs=cs:=zxc cs [] old h
@[simp] theorem zM4 (cs:List zaa) (off:Nat) (v:zaa):setAt cs off [v]=cs.set off v:=by simp only [setAt]
def hx (h:zab) (bs:List (List zaa)) (ts:List Nat):zab:=⟨h.blks++bs,h.toks++ts⟩
theorem zxd (h:zab):hx h [] []=h:=by simp [hx]
def pA (n i off:Nat):zaa:=.ptr (n+i) off
def sA (n i off sz len:Nat) (cap:Option Nat):zaa:=.sl (n+i) off sz len cap
def gA (n i:Nat) (es:List (List zaa)):zaa:=.gsl (n+i) es
def zau (h:zab):Lim:=⟨h.blks.length,h.toks.length,h.blks.length,h.toks.length⟩
variable (h:zab) (bs:List (List zaa)) (ts:List Nat) (L:Lim)
@[simp] theorem zOk (n off i o:Nat):zwF off (pA n i o)=some (pA n i (o+off)):=by unfold zwF pA;exact rfl
@[simp] theorem zPn (n i o:Nat):zEG (pA n i o)=some (pA n i o):=by unfold zEG pA;exact rfl
def zHd (cs:Option (List zaa)) (g:Bool) (off n:Nat):Option zaa:=cs.bind fun cs=>zdZ g cs off n
@[simp] theorem zKT (cs:List zaa) (g:Bool) (off n:Nat):zHd (some cs) g off n=zdZ g cs off n:=by unfold zHd;exact rfl
@[simp] theorem zHe (i off n:Nat) (g:Bool):zkH (hx h bs ts) (pA h.blks.length i off) n g=zHd bs[i]? g off n:=by
  unfold zkH pA hx zHd
  simp only
  rw [List.getElem?_append_right (Nat.le_add_right _ _),Nat.add_sub_cancel_left]
def stI (h:zab) (bs:List (List zaa)) (ts:List Nat) (i off:Nat) (cs old:List zaa) (b:Bool):Option zab:=if b=true then some (hx h (bs.set i (setAt old off cs)) ts) else none
@[simp] theorem zzQ (i off:Nat) (cs old:List zaa):stI h bs ts i off cs old true=some (hx h (bs.set i (setAt old off cs)) ts):=by unfold stI;exact rfl
def stO (h:zab) (bs:List (List zaa)) (ts:List Nat) (i off:Nat) (cs:List zaa) (old:Option (List zaa)):Option zab:=old.bind fun old=>stI h bs ts i off cs old (decide (off+cs.length≤old.length))
@[simp] theorem zzR (i off:Nat) (cs old:List zaa):stO h bs ts i off cs (some old)=stI h bs ts i off cs old (decide (off+cs.length≤old.length)):=by unfold stO;exact rfl
@[simp] theorem zM6 (i off:Nat) (cs:List zaa) (r1 r2 r3 r4:Nat) (h1:r1≤h.blks.length) (h3:r3≤h.blks.length):
    zcu ⟨r1,r2,r3,r4⟩ (hx h bs ts) (pA h.blks.length i off) cs=stO h bs ts i off cs bs[i]?:=by
  unfold zcu pA stO stI hx
  simp only
  rw [List.getElem?_append_right (Nat.le_add_right _ _),Nat.add_sub_cancel_left]
  cases bs[i]? with
  | none=>rfl
  | some old=>
    simp only [Option.bind_some]
    by_cases hc:off+cs.length≤old.length
    · rw [if_pos ⟨by omega, hc, .inl (by omega)⟩, if_pos (by simpa using hc)]
      rw [List.set_append_right _ _ (Nat.le_add_right _ _),Nat.add_sub_cancel_left]
    · rw [if_neg (fun h=>hc h.2.1),if_neg (by simpa using hc)]
@[simp] theorem zKU (C:Ctx) (fr:Fr) (z:List zaa):zh5 C L fr (hx h bs ts) (.alloc z)=some (pA h.blks.length bs.length 0,hx h (bs++[z]) ts):=by
  simp only [zh5]
  simp [hx,pA,push]
theorem zd9 (C:Ctx) (fr:Fr) (x:AO) (hv:(C.ev fr x).okV=true):zh5 C L fr (hx h bs ts) (.box x)=some (pA h.blks.length bs.length 0,hx h (bs++[(C.ev fr x).cells]) ts):=by
  simp only [zh5,hv,if_true]
  simp [hx,pA,push]
def stM (r:Option zab):Option (zaa × zab):=r.map fun h=>(zaK,h)
@[simp] theorem zOn:stM (some h)=some (zaK,h):=by unfold stM;exact rfl
def stK (L:Lim) (h:zab) (n:Nat) (p v:zaa):Option (zaa × zab):=if (decide (v.cells.length=n)&&v.okV)=true then stM (zcu L h p v.cells) else none
@[simp] theorem zPr (C:Ctx) (fr:Fr) (n:Nat) (x y:AO):zh5 C L fr h (.st n x y)=stK L h n (C.ev fr x) (C.ev fr y):=by
  simp only [zh5,stK,stM]
  by_cases h1:(C.ev fr y).cells.length=n <;> cases h2:(C.ev fr y).okV <;> simp [h1,h2]
@[simp] theorem zPs (p:zaa):stK L h 1 p (.int k a)=stM (zcu L h p [.int k a]):=by simp [stK,zaa.cells,zaa.okV]
@[simp] theorem zNp (p:zaa) (b:Bool):stK L h 1 p (.bool b)=stM (zcu L h p [.bool b]):=by simp [stK,zaa.cells,zaa.okV]
@[simp] theorem zOC (p:zaa) (b:ByteArray):stK L h 1 p (.str b)=stM (zcu L h p [.str b]):=by simp [stK,zaa.cells,zaa.okV]
@[simp] theorem zOD (p:zaa) (c:Bool) (es:List (List zaa)):stK L h 1 p (.vsl c es)=stM (zcu L h p [.vsl c es]):=by simp [stK,zaa.cells,zaa.okV]
theorem zIn {cs:List zaa} {n:Nat} (p:zaa) (hn:cs.length=n):stK L h n p (.agg cs)=stM (zcu L h p cs):=by simp [stK,zaa.cells,zaa.okV,hn]
@[simp] theorem zKj:zc0 Mode.pure L h=zau h:=by simp [zc0,Mode.pure,zau]
@[simp] theorem ztG (args:List zaa):zke Mode.pure h args=zfJ h args:=by simp [zke,Mode.pure]
@[simp] theorem ztH:zfJ h []=some ([],false):=by simp only [zfJ]
def fzK (a:Option (zaa × Bool)) (b:Option (List zaa × Bool)):Option (List zaa × Bool):=a.bind fun a=>b.bind fun b=>some (a.1 :: b.1,a.2||b.2)
@[simp] theorem zyZ (v:zaa) (c:Bool) (vs:List zaa) (d:Bool):fzK (some (v,c)) (some (vs,d))=some (v :: vs,c||d):=by unfold fzK;exact rfl
@[simp] theorem zrQ (v:zaa) (vs:List zaa):zfJ h (v :: vs)=fzK (fzA h v) (zfJ h vs):=by simp only [zfJ,fzK,bind]
@[simp] theorem zOF:fzA h (.int k a)=some (.int k a,false):=by simp only [fzA]
@[simp] theorem zCz (c:Bool) (es:List (List zaa)):fzA h (.vsl c es)=some (.vsl false es,false):=by simp only [fzA]
@[simp] theorem zOH:fzA h .nsl=some (.vsl false [],false):=by simp only [fzA]
@[simp] theorem zOI (x o:Nat):fzA h (.ptr x o)=some (.ptr x o,false):=by simp only [fzA]
@[simp] theorem zNs (cs:List zaa) (o:Nat):fzA h (.vptr cs o)=some (.vptr cs o,false):=by simp only [fzA]
theorem zuF {cs:List zaa} (hc:zb4 cs=true):fzA h (.agg cs)=some (.agg cs,false):=by simp only [fzA,hc,if_true]
def zuG (a:Option zaa) (b:Option (List zaa)):Option (List zaa):=a.bind fun a=>b.map fun b=>a :: b
@[simp] theorem zKk (v:zaa) (vs:List zaa):zuG (some v) (some vs)=some (v :: vs):=by unfold zuG;exact rfl
@[simp] theorem zNt (fr:Fr):zq9 fr h []=some []:=by simp only [zq9]
@[simp] theorem zNu (fr:Fr) (t:Nat) (rs:List zwj):zq9 fr h (.tmp t :: rs)=zuG (some (fr t)) (zq9 fr h rs):=by
  simp only [zq9,zuG,bind,Option.bind_some]
  cases zq9 fr h rs <;> rfl
@[simp] theorem zLw (fr:Fr) (t n:Nat) (g:Bool) (rs:List zwj):zq9 fr h (.cell t n g :: rs)=zuG (zkH h (fr t) n g) (zq9 fr h rs):=by
  simp only [zq9,zuG,bind]
  cases zkH h (fr t) n g <;> cases zq9 fr h rs <;> rfl
@[simp] theorem zNv:zxA []=.tup []:=by simp only [zxA]
@[simp] theorem zNw (v:zaa):zxA [v]=v:=by simp only [zxA]
@[simp] theorem zNx (v w:zaa) (vs:List zaa):zxA (v :: w :: vs)=.tup (v :: w :: vs):=by simp only [zxA]
def zIq (c:Bool) (o:Option (zaa × zab)):Option (zaa × zab):=o.bind fun o=>if (c&&!o.1.flat)=true then none else some o
@[simp] theorem zAc (o:Option (zaa × zab)):zIq false o=o:=by unfold zIq;cases o <;> simp
theorem zv8 (v:zaa) (hv:v.flat=true):zIq true (some (v,h))=some (v,h):=by simp [zIq,hv]
def zKn (m:Mode) (h:zab) (c:Bool) (h1:zab) (vs:Option (List zaa)):Option (zaa × zab):=vs.bind fun vs=>zIq c (zsS m h h1 (zxA vs))
@[simp] theorem zLy (m:Mode) (c:Bool) (h1:zab) (vs:List zaa):zKn m h c h1 (some vs)=zIq c (zsS m h h1 (zxA vs)):=by unfold zKn;exact rfl
def zIr (b:Bool) (m:Mode) (h:zab) (res:List zwj) (c:Bool) (fr:Fr) (h1:zab):Option (zaa × zab):=if b=true then zKn m h c h1 (zq9 fr h1 res) else none
@[simp] theorem zLz (m:Mode) (res:List zwj) (c:Bool) (fr:Fr) (h1:zab):zIr true m h res c fr h1=zKn m h c h1 (zq9 fr h1 res):=by unfold zIr;exact rfl
def zED (m:Mode) (h:zab) (n:Nat) (res:List zwj) (as:List zaa) (c:Bool) (r:Option (AEx × Fr × zab)):Option (zaa × zab):=
  r.bind fun r=>zIr (decide ((r.1=.normal∨r.1=.ret)∧as.length≤n)) m h res c r.2.1 r.2.2
@[simp] theorem zNz (m:Mode) (n:Nat) (res:List zwj) (as:List zaa) (c:Bool) (fr:Fr) (h1:zab):zED m h n res as c (some (.ret,fr,h1))=zIr (decide (as.length≤n)) m h res c fr h1:=by
  simp [zED]
@[simp] theorem zIs (m:Mode) (n:Nat) (res:List zwj) (as:List zaa) (c:Bool) (fr:Fr) (h1:zab):zED m h n res as c (some (.normal,fr,h1))=zIr (decide (as.length≤n)) m h res c fr h1:=by
  simp [zED]
def frm (as:List zaa):Fr:=fun i=>as.getD i zaK
@[simp] theorem zPU (as:List zaa) (i:Nat):frm as i=as.getD i zaK:=by unfold frm;exact rfl
noncomputable def zCG (C:Ctx) (L:Lim) (m:Mode) (h:zab) (n:Nat) (code:AC) (res:List zwj) (a:Option (List zaa × Bool)):Option (zaa × zab):=
  a.bind fun a=>zED m h n res a.1 a.2 (run C (zc0 m L h) code (frm a.1) (hx h [] []))
@[simp] theorem ztK (C:Ctx) (m:Mode) (n:Nat) (code:AC) (res:List zwj) (as:List zaa) (c:Bool):zCG C L m h n code res (some (as,c))=zED m h n res as c (run C (zc0 m L h) code (frm as) (hx h [] [])):=by unfold zCG;exact rfl
theorem zad {C:Ctx} {f:FuncId} {n:Nat} {code:AC} {res:List zwj} (hx':C.ext f=none) (hf:C.fns f=some ⟨n,code,res,none⟩) (args:List zaa):zag C L f args h=
    zCG C L (C.mode f) h n code res (zke (C.mode f) h args):=by
  rw [zGT C L h hx' hf rfl args]
  unfold zCG zED zIr zKn zIq frm
  rw [zxd]
  cases zke (C.mode f) h args with
  | none=>rfl
  | some a=>
    simp only [Option.bind_some]
    cases run C (zc0 (C.mode f) L h) code (fun i=>a.1.getD i zaK) h with
    | none=>rfl
    | some r=>
      simp only [Option.bind_some]
      by_cases hc:(r.1=.normal∨r.1=.ret)∧a.1.length≤n
      · rw [if_pos hc,if_pos (by simpa using hc)]
      · rw [if_neg hc,if_neg (by simpa using hc)]
def zte (v:Option zaa) (h:zab):Option (zaa × zab):=v.map fun v=>(v,h)
@[simp] theorem zKq (v:zaa):zte (some v) h=some (v,h):=by unfold zte;exact rfl
@[simp] theorem zLB (h1:zab) (v:zaa):zsS Mode.pure h h1 v=zte (frz h1 h.blks.length h.toks.length 12 v) h:=by
  simp [zsS,Mode.pure,zte]
section
variable (nb nt n:Nat)
@[simp] theorem zOM:frz h nb nt (n+1) (.int k a)=some (.int k a):=by simp only [frz]
@[simp] theorem zNA (b:Bool):frz h nb nt (n+1) (.bool b)=some (.bool b):=by simp only [frz]
@[simp] theorem zON:frz h nb nt (n+1) .nsl=some (.vsl false []):=by simp only [frz]
theorem zhO (c:Bool) {es:List (List zaa)} (he:zaw nb nt es=true):frz h nb nt (n+1) (.vsl c es)=some (.vsl false es):=by simp [frz,zBf,he]
theorem zxV {t:Nat} {es:List (List zaa)} (ht:nt≤t) (he:zaw nb nt es=true):frz h nb nt (n+1) (.gsl t es)=some (.vsl false es):=by
  simp [frz,zBf,he];omega
theorem zjZ {cs:List zaa} (hc:zb4 cs=true):frz h nb nt (n+1) (.agg cs)=some (.agg cs):=by simp [frz,hc]
def zBi (h:zab) (nb nt n:Nat):List zaa→Option (List zaa)
  | []=>some []
  | c :: cs=>zuG (frz h nb nt n c) (zBi h nb nt n cs)
@[simp] theorem zNB:zBi h nb nt n []=some []:=by unfold zBi;exact rfl
@[simp] theorem zCI (c:zaa) (cs:List zaa):zBi h nb nt n (c :: cs)=zuG (frz h nb nt n c) (zBi h nb nt n cs):=by rw [zBi]
theorem zxX:∀ cs:List zaa,cs.mapM (frz h nb nt n)=zBi h nb nt n cs
  | []=>by simp
  | c :: cs => by
    rw [zCI,List.mapM_cons,zxX cs,zuG]
    cases frz h nb nt n c with
    | none=>rfl
    | some v=>cases zBi h nb nt n cs <;> rfl
@[simp] theorem zOQ (cs:List zaa):frz h nb nt (n+1) (.tup cs)=(zBi h nb nt n cs).map .tup:=by
  simp only [frz];rw [zxX]
end
@[simp] theorem zLD:zb4 []=true:=by simp only [zb4]
@[simp] theorem zKr (c:zaa) (cs:List zaa):zb4 (c :: cs)=(c.flat&&zb4 cs):=by simp only [zb4]
@[simp] theorem zNC:(zaa.int k a).flat=true:=by simp only [zaa.flat]
@[simp] theorem zND (b:ByteArray):(zaa.str b).flat=true:=by simp only [zaa.flat]
attribute [simp] zIN zLZ zF2 zIR zL4 zIU zIW zIY zF7 zF8 zGa zGc zDl zGe zI3 zI4 zGg zGh zGi zI9 zJc zDw zGl zGm
attribute [simp] zae
end
end Go.Av
namespace Go.Av
def wr:AC→List Nat
  | .reg ops=>zgH ops
  | .draw ops=>zgH ops
  | .draw2 a _ _=>zgH a
  | .seq a b=>wr a++wr b
  | .cond _ a b=>wr a++wr b
  | .blk _ a=>wr a
  | .loop a=>wr a
  | .scope a=>wr a
  | _=>[]
theorem zxk {i:AI} {is:List AI} {t:Nat} (h:t∉zgH (i :: is)):i.dst≠some t∧t∉zgH is:=by
  simp only [zgH] at h
  cases hd:i.dst with
  | none=>rw [hd] at h;exact ⟨by simp,h⟩
  | some d=>rw [hd] at h;simp at h;exact ⟨by simp;exact fun e=>h.1 e.symm,h.2⟩
theorem zrf {fr:Fr} {d:Option Nat} {v:zaa} {t:Nat} (h:d≠some t):put fr d v t=fr t:=by
  cases d with
  | none=>rfl
  | some d=>
    have:t≠d:=fun e=>h (by rw [e])
    simp [put,upd,this]
theorem zA7 {l:Nat}:∀ {a r:AC},zek a l=some r→∀ t,t∈wr r→t∈wr a:=by
  intro a
  induction a with
  | seq a b ih1 ih2=>
    intro r h t ht
    simp only [zek] at h
    split at h
    · rename_i r1 h1
      obtain rfl:=Option.some.inj h
      simp only [wr,List.mem_append] at ht ⊢
      exact ht.imp (ih1 h1 t) id
    · simp only [wr,List.mem_append]
      exact .inr (ih2 h t ht)
  | label l'=>
    intro r h t ht
    simp only [zek] at h
    split at h
    · obtain rfl:=Option.some.inj h;simp [wr] at ht
    · simp at h
  | _=>intro r h;simp [zek] at h
theorem zzT {C:Ctx} {L:Lim} {c:AC} {fr:Fr} {h:zab} {r:AEx × Fr × zab} (hv:run C L c fr h=some r):∀ t,t∉wr c→r.2.1 t=fr t:=by
  refine (zag.mutual_partial_correctness C
    (fun _ _ _ _ _=>True)
    (fun L c fr h r=>∀ t,t∉wr c→r.2.1 t=fr t)
    (fun L a e fr h r=>∀ t,t∉wr a→r.2.1 t=fr t)
    (fun _ _ _ _ _ _=>True) (fun _ _ _ _ _ _=>True) (fun _ _ _ _ _=>True)
    (fun L ops fr h r=>∀ t,t∉zgH ops→r.1 t=fr t)
    (fun _ _ _ _ _=>True) (fun _ _ _ _ _=>True)
    (fun L ops fr h r=>∀ t,t∉zgH ops→r.1 t=fr t)
    ?_ ?_ ?_ ?_ ?_ ?_ ?_ ?_ ?_ ?_).2.1 L c fr h r hv
  · intros;trivial
  · intro run zuc zpd zk2 zpX hrun hscope hchk hrunD hrunO L c fr h r hv t ht
    split at hv
    · obtain rfl:=Option.some.inj hv;rfl
    · obtain rfl:=Option.some.inj hv;rfl
    · obtain ⟨r1,hr1,hv⟩:=bind_some hv
      obtain rfl:=Option.some.inj hv
      exact hrunO _ _ _ _ _ hr1 t ht
    · obtain ⟨r1,hr1,hv⟩:=bind_some hv
      obtain ⟨u,hu,hv⟩:=bind_some hv
      obtain rfl:=Option.some.inj hv
      exact hrunD _ _ _ _ _ hr1 t ht
    · obtain ⟨r1,hr1,hv⟩:=bind_some hv
      obtain ⟨u,hu,hv⟩:=bind_some hv
      obtain ⟨r2,hr2,hv⟩:=bind_some hv
      obtain ⟨u2,hu2,hv⟩:=bind_some hv
      split at hv
      · obtain rfl:=Option.some.inj hv
        exact hrunD _ _ _ _ _ hr1 t ht
      · simp at hv
    · obtain ⟨r1,hr1,hv⟩:=bind_some hv
      simp only [wr,List.mem_append,not_or] at ht
      have k1:=hrun _ _ _ _ _ hr1 t ht.1
      split at hv
      · exact (hrun _ _ _ _ _ hv t ht.2).trans k1
      · obtain rfl:=Option.some.inj hv;exact k1
    · simp only [wr,List.mem_append,not_or] at ht
      split at hv
      · exact hrun _ _ _ _ _ hv t ht.1
      · exact hrun _ _ _ _ _ hv t ht.2
      · simp at hv
    · obtain ⟨r1,hr1,hv⟩:=bind_some hv
      have k1:=hrun _ _ _ _ _ hr1 t ht
      split at hv
      · obtain rfl:=Option.some.inj hv;exact k1
      · obtain rfl:=Option.some.inj hv;exact k1
    · obtain ⟨r1,hr1,hv⟩:=bind_some hv
      have k1:=hrun _ _ _ _ _ hr1 t ht
      split at hv
      · exact (hrun _ _ _ _ _ hv t ht).trans k1
      · obtain rfl:=Option.some.inj hv;exact k1
    · obtain rfl:=Option.some.inj hv;rfl
    · obtain ⟨r1,hr1,hv⟩:=bind_some hv
      exact (hscope _ _ _ _ _ _ hv t ht).trans (hrun _ _ _ _ _ hr1 t ht)
    · obtain rfl:=Option.some.inj hv;rfl
    · obtain rfl:=Option.some.inj hv;rfl
  · intro run zuc hrun hscope L a e fr h r hv t ht
    split at hv
    · split at hv
      · rename_i rest hl
        obtain ⟨r1,hr1,hv⟩:=bind_some hv
        exact (hscope _ _ _ _ _ _ hv t ht).trans (hrun _ _ _ _ _ hr1 t fun hx=>ht (zA7 hl t hx))
      · obtain rfl:=Option.some.inj hv;rfl
    · obtain rfl:=Option.some.inj hv;rfl
  · intros;trivial
  · intros;trivial
  · intros;trivial
  · intro zk2 step1 hrunD hstep1 L ops fr h r hv t ht
    split at hv
    · obtain rfl:=Option.some.inj hv;rfl
    · rename_i i rest
      obtain ⟨t1,t2⟩:=zxk ht
      split at hv
      · obtain ⟨r1,hr1,hv⟩:=bind_some hv
        obtain ⟨q,hq,hv⟩:=bind_some hv
        obtain rfl:=Option.some.inj hv
        exact (hrunD _ _ _ _ _ hq t t2).trans (zrf t1)
      · obtain ⟨q,hq,hv⟩:=bind_some hv
        obtain rfl:=Option.some.inj hv
        exact (hrunD _ _ _ _ _ hq t t2).trans (zrf t1)
  · intros;trivial
  · intros;trivial
  · intro step1 zpX hstep1 hrunO L ops fr h r hv t ht
    split at hv
    · obtain rfl:=Option.some.inj hv;rfl
    · rename_i i rest
      obtain ⟨t1,t2⟩:=zxk ht
      split at hv
      · obtain ⟨r1,hr1,hv⟩:=bind_some hv
        exact (hrunO _ _ _ _ _ hv t t2).trans (zrf t1)
      · exact (hrunO _ _ _ _ _ hv t t2).trans (zrf t1)
theorem zaf (cs:List zaa) (n:Nat) (h:(cs.length==n)=true):zdZ true cs 0 n=some (.agg cs):=zxa (by simpa using h)
theorem zbB (L:Lim) (h:zab) (cs:List zaa) (n:Nat) (p:zaa) (hn:(cs.length==n)=true):stK L h n p (.agg cs)=stM (zcu L h p cs):=zIn h L p (by simpa using hn)
theorem zah (cs old:List zaa) (h:(old.length==cs.length)=true):setAt old 0 cs=cs:=zA3 (by simpa using h)
theorem zM7 (k:IntKind) (a b:Int) (h:(decide (0≤b)&&decide (b≤k.bits))=true):zkt .shr k a b=some (.int k (a.fdiv (2 ^ b.toNat))):=by
  simp only [Bool.and_eq_true,decide_eq_true_eq] at h
  unfold zkt
  rw [if_neg (by omega),Nat.min_eq_left (by omega)]
theorem zQg (k:IntKind) (a b:Int) (h:(decide (0≤b)&&decide (b≤k.bits))=true):zkt .shl k a b=some (.int k (k.wrap (a*2 ^ b.toNat))):=by
  simp only [Bool.and_eq_true,decide_eq_true_eq] at h
  unfold zkt
  rw [if_neg (by omega),Nat.min_eq_left (by omega)]
@[simp] theorem wrap_zero (k:IntKind):k.wrap 0=0:=by cases k <;> decide
theorem wrap_i64 {n:Int} (h1: -9223372036854775808≤n) (h2:n≤9223372036854775807):IntKind.i64.wrap n=n:=by
  simp [IntKind.wrap,IntKind.signed,IntKind.bits];omega
theorem wrap_u64 {n:Int} (h1:0≤n) (h2:n≤18446744073709551615):IntKind.u64.wrap n=n:=by
  simp [IntKind.wrap,IntKind.signed,IntKind.bits];omega
theorem wrap_u8 {n:Int} (h1:0≤n) (h2:n≤255):IntKind.u8.wrap n=n:=by
  simp [IntKind.wrap,IntKind.signed,IntKind.bits];omega
def Ends {α:Type} (x:Option α) (P:α→Prop):Prop:=∃ r,x=some r∧P r
@[simp] theorem zLW {α:Type} (r:α) (P:α→Prop):Ends (some r) P↔P r:=by simp [Ends]
@[congr] theorem zKw {α:Type} {x y:Option α} (P:α→Prop) (h:x=y):Ends x P=Ends y P:=by rw [h]
def zya (N k:Nat) (I:Nat→Fr→zab→Prop) (zsT:AEx→Fr→zab→Prop) (r:AEx × Fr × zab):Prop:=
  match r.1 with
  | .normal=>k < N∧I (k+1) r.2.1 r.2.2
  | e=>zsT e r.2.1 r.2.2
@[simp] theorem zqe (N k:Nat) (I:Nat→Fr→zab→Prop) (zsT:AEx→Fr→zab→Prop) (fr:Fr) (h:zab):zya N k I zsT (.normal,fr,h)↔(k < N∧I (k+1) fr h):=by unfold zya;exact Iff.rfl
@[simp] theorem zKx (N k:Nat) (I:Nat→Fr→zab→Prop) (zsT:AEx→Fr→zab→Prop) (i:Nat) (fr:Fr) (h:zab):zya N k I zsT (.exit i,fr,h)↔zsT (.exit i) fr h:=by unfold zya;exact Iff.rfl
@[simp] theorem zL2 (N k:Nat) (I:Nat→Fr→zab→Prop) (zsT:AEx→Fr→zab→Prop) (fr:Fr) (h:zab):zya N k I zsT (.ret,fr,h)↔zsT .ret fr h:=by unfold zya;exact Iff.rfl
theorem zaj {C:Ctx} {L:Lim} {B:AC} {fr0:Fr} {h0:zab} {R:Option (AEx × Fr × zab)} (hF:run C L (.loop B) fr0 h0=R) (N:Nat) (I:Nat→Fr→zab→Prop) (zsT:AEx→Fr→zab→Prop) (hI:I 0 fr0 h0)
    (step:∀ k fr h,k≤N→(∀ t,t∉wr B→fr t=fr0 t)→I k fr h→Ends (run C L B fr h) (zya N k I zsT)):
    ∃ e fr h,R=some (e,fr,h)∧zsT e fr h∧(∀ t,t∉wr B→fr t=fr0 t):=by
  subst hF
  have key:∀ m k fr h,N - k=m→k≤N→(∀ t,t∉wr B→fr t=fr0 t)→I k fr h→
      ∃ e fr' h',run C L (.loop B) fr h=some (e,fr',h')∧zsT e fr' h'∧(∀ t,t∉wr B→fr' t=fr0 t):=by
    intro m
    induction m with
    | zero=>
      intro k fr h hm hk hkeep hi
      obtain ⟨⟨e,fr1,h1⟩,hr,hp⟩:=step k fr h hk hkeep hi
      have hkp:=zzT hr
      rw [zry,hr]
      cases e with
      | normal=>have:=(zqe N k I zsT fr1 h1).1 hp;omega
      | exit i=>exact ⟨_,_,_,rfl,hp,fun t ht=>(hkp t ht).trans (hkeep t ht)⟩
      | goto l=>exact ⟨_,_,_,rfl,hp,fun t ht=>(hkp t ht).trans (hkeep t ht)⟩
      | ret=>exact ⟨_,_,_,rfl,hp,fun t ht=>(hkp t ht).trans (hkeep t ht)⟩
    | succ m ih=>
      intro k fr h hm hk hkeep hi
      obtain ⟨⟨e,fr1,h1⟩,hr,hp⟩:=step k fr h hk hkeep hi
      have hkp:=zzT hr
      rw [zry,hr]
      cases e with
      | normal=>
        have:=(zqe N k I zsT fr1 h1).1 hp
        exact ih (k+1) fr1 h1 (by omega) (by omega) (fun t ht=>(hkp t ht).trans (hkeep t ht)) this.2
      | exit i=>exact ⟨_,_,_,rfl,hp,fun t ht=>(hkp t ht).trans (hkeep t ht)⟩
      | goto l=>exact ⟨_,_,_,rfl,hp,fun t ht=>(hkp t ht).trans (hkeep t ht)⟩
      | ret=>exact ⟨_,_,_,rfl,hp,fun t ht=>(hkp t ht).trans (hkeep t ht)⟩
  exact key N 0 fr0 h0 rfl (Nat.zero_le _) (fun _ _=>rfl) hI
def gL (s:zaa) (n i:Nat) (es:List (List zaa)):zaa:=if es=[] then s else gA n i es
def gT (es:List (List zaa)):List Nat:=if es=[] then [] else [es.length]
theorem zL5 {C:Ctx} {fr:Fr} {L:Lim} {h:zab} {bs:List (List zaa)} {sz:Nat} {x y:AO} {s:zaa} {es ys:List (List zaa)} (hs:s=.nsl∨s=.vsl true [])
    (hx':C.ev fr x=gL s h.toks.length 0 es) (hy:zaA (hx h bs (gT es)) sz (C.ev fr y)=some ys) (hstr:zfG sz (C.ev fr y)=true)
    (hsz:zfe sz ys=true) (hse:zfe sz es=true) (hr:L.rot≤h.toks.length) (hroom:es.length+ys.length < zas):
    zh5 C L fr (hx h bs (gT es)) (.app sz false x y)=some (gL s h.toks.length 0 (es++ys),hx h bs (gT (es++ys))):=by
  simp only [zh5,bind,hy,Option.bind_some,hstr,if_true]
  rw [hx']
  unfold zBv
  rw [if_pos hsz]
  by_cases he:es=[]
  · subst he
    have h1:gL s h.toks.length 0 []=s:=by simp [gL]
    rw [h1]
    by_cases hy0:ys=[]
    · subst hy0
      rcases hs with rfl | rfl <;> simp [gL,gT,zfe]
    · have hroom' : ys.length < zas := by simpa using hroom
      rcases hs with rfl | rfl <;> simp [gL,gT,zfe,hy0,hroom',zez,gA,hx,ptok]
  · have h1 : gL s h.toks.length 0 es = gA h.toks.length 0 es := by simp [gL, he]
    rw [h1]
    have h2:gT es=[es.length]:=by simp [gT,he]
    have h3:gL s h.toks.length 0 (es++ys)=gA h.toks.length 0 (es++ys):=by simp [gL,he]
    have h4:gT (es++ys)=[es.length+ys.length]:=by simp [gT,he]
    rw [h3,h2,h4]
    simp only [gA,Nat.add_zero]
    have h5:(hx h bs [es.length]).toks[h.toks.length]?=some es.length:=by simp [hx]
    rw [if_pos ⟨trivial,he,hse,hr,h5,hroom⟩]
    simp [hx]
def zq1 (L:Lim) (h:zab) (sz:Nat) (ref:Bool) (x y:zaa):Option (zaa × zab):=
  (zaA h sz y).bind fun ys=>if zfG sz y=true then zBv L ref sz h x ys else none
@[simp] theorem zF4 (C:Ctx) (fr:Fr) (L:Lim) (h:zab) (sz:Nat) (ref:Bool) (x y:AO):zh5 C L fr h (.app sz ref x y)=zq1 L h sz ref (C.ev fr x) (C.ev fr y):=by
  simp only [zh5,zq1,bind]
theorem zDe {L:Lim} {h:zab} {bs:List (List zaa)} {sz:Nat} {s y:zaa} {es ys:List (List zaa)} (hs:s=.nsl∨s=.vsl true [])
    (hy:zaA (hx h bs (gT es)) sz y=some ys) (hstr:zfG sz y=true) (hsz:zfe sz ys=true) (hse:zfe sz es=true) (hr:L.rot≤h.toks.length) (hroom:es.length+ys.length < zas):
    zq1 L (hx h bs (gT es)) sz false (gL s h.toks.length 0 es) y=some (gL s h.toks.length 0 (es++ys),hx h bs (gT (es++ys))):=by
  let C:Ctx:={fns:=fun _=>none,mode:=fun _=>Mode.pure,glob:=fun _=>none,meth:=fun _ _=>none,ext:=fun _=>none}
  have:=zL5 (C:=C) (fr:=fun _=>zaK) (x:=.k (gL s h.toks.length 0 es)) (y:=.k y) hs rfl hy hstr hsz hse hr hroom
  rw [zF4] at this
  exact this
theorem zpM (L:Lim) (h:zab) (bs:List (List zaa)) (sz:Nat) (c:Bool) (es ys:List (List zaa))
    (hc:(zfe sz ys&&zfe sz es&&decide (L.rot≤h.toks.length)&&decide (es.length+ys.length < zas))=true):
    zq1 L (hx h bs (gT es)) sz false (gL .nsl h.toks.length 0 es) (.vsl c ys)=some (gL .nsl h.toks.length 0 (es++ys),hx h bs (gT (es++ys))):=by
  simp only [Bool.and_eq_true,decide_eq_true_eq] at hc
  exact zDe (.inl rfl) (by simp only [zaA]) (by simp only [zfG]) hc.1.1.1 hc.1.1.2 hc.1.2 hc.2
theorem zwA (L:Lim) (h:zab) (bs:List (List zaa)) (ts:List Nat) (sz:Nat) (c:Bool) (es ys:List (List zaa))
    (hc:(zfe sz ys&&zfe sz es&&decide (es.length+ys.length < zas)&&decide (0 < ys.length))=true):
    zq1 L (hx h bs ts) sz false (.vsl true es) (.vsl c ys)=some (gA h.toks.length ts.length (es++ys),hx h bs (ts++[es.length+ys.length])):=by
  simp only [Bool.and_eq_true,decide_eq_true_eq] at hc
  have hy:ys≠[]:=fun e=>by have:=hc.2;simp [e] at this
  simp [zq1,zaA,zfG,zBv,hc.1.1.1,hc.1.1.2,hc.1.2,hy,zez,gA,hx,ptok]
theorem zDg (L:Lim) (h:zab) (bs:List (List zaa)) (ts:List Nat) (sz i:Nat) (c:Bool) (es ys:List (List zaa))
    (hc:(zfe sz ys&&zfe sz es&&decide (es.length+ys.length < zas)&&decide (0 < es.length)&&decide (L.rot≤h.toks.length)&&(ts[i]?==some es.length))=true):
    zq1 L (hx h bs ts) sz false (gA h.toks.length i es) (.vsl c ys)=some (gA h.toks.length i (es++ys),hx h bs (ts.set i (es.length+ys.length))):=by
  simp only [Bool.and_eq_true,decide_eq_true_eq,beq_iff_eq] at hc
  obtain ⟨⟨⟨⟨⟨c1,c2⟩,c3⟩,c4⟩,c5⟩,c6⟩:=hc
  have he:es≠[]:=fun e=>by simp [e] at c4
  have h5:(hx h bs ts).toks[h.toks.length+i]?=some es.length:=by
    simp only [hx];rw [List.getElem?_append_right (Nat.le_add_right _ _),Nat.add_sub_cancel_left];exact c6
  simp only [zq1,zaA,zfG,zBv,gA,c1,c2,Option.bind_some,if_true]
  rw [if_pos ⟨trivial,he,by trivial,by omega,h5,c3⟩]
  simp only [hx]
  rw [List.set_append_right _ _ (Nat.le_add_right _ _),Nat.add_sub_cancel_left]
theorem zoI {h1:zab} {nb nt n:Nat} {s:zaa} {es:List (List zaa)} (hs:s=.nsl∨s=.vsl true []) (he:zaw nb nt es=true):frz h1 nb nt (n+1) (gL s nt 0 es)=some (.vsl false es):=by
  unfold gL
  split
  · rename_i h0
    subst h0
    rcases hs with rfl | rfl
    · simp
    · exact zhO h1 nb nt n true (by simp [zaw])
  · exact zxV h1 nb nt n (by simp) he
end Go.Av
namespace Go.Av
def eI (k:IntKind) (l:List Int):List (List zaa):=l.map fun n=>[.int k n]
@[simp] theorem zLU (k:IntKind) (l:List Int):(eI k l).length=l.length:=by simp [eI]
@[simp] theorem zII (k:IntKind) (l:List Int):zfe 1 (eI k l)=true:=by cases l <;> simp [eI,zfe]
@[simp] theorem zuX (k:IntKind) (nb nt:Nat):∀ l:List Int,zaw nb nt (eI k l)=true
  | []=>by simp [eI,zaw]
  | x :: l => by
    have:=zuX k nb nt l
    simp only [eI] at this
    simp [eI,zaw,zap,zaa.under,this]
@[simp] theorem zLP (k:IntKind) (l m:List Int):eI k l++eI k m=eI k (l++m):=by simp [eI]
theorem zHB (k:IntKind) (l:List Int) (i:Nat):(eI k l)[i]?=(l[i]?).map fun n=>[.int k n]:=by simp [eI]
theorem zhS (k:IntKind) (n:Int):[[zaa.int k n]]=eI k [n]:=rfl
theorem zr9 (k:IntKind) (n:Int) (l:List Int):[zaa.int k n] :: eI k l=eI k (n :: l):=rfl
@[simp] theorem zHA (k:IntKind):eI k []=[]:=rfl
def bts (s:ByteArray):List Int:=s.data.toList.map fun b=>(b.toNat:Int)
theorem zIK (s:ByteArray):(s.data.toList.map fun b=>[zaa.int .u8 b.toNat])=eI .u8 (bts s):=by unfold bts eI;rw [List.map_map];rfl
@[simp] theorem zOT (s:ByteArray):(bts s).length=s.size:=by unfold bts;rw [List.length_map];rfl
@[simp] theorem zNH (sz:Nat) (x:List zaa):zfe sz [x]=(x.length==sz):=rfl
abbrev zN7:Mode:=⟨false,false,false,true⟩
section
variable (L:Lim) (h:zab) (bs:List (List zaa)) (ts:List Nat)
def zug (h:zab) (t n:Nat):zab:=⟨h.blks,h.toks.set t n⟩
@[simp] theorem zM0 (t n:Nat):(zug h t n).blks=h.blks:=rfl
@[simp] theorem zNc (t n:Nat):(zug h t n).toks.length=h.toks.length:=by simp [zug]
@[simp] theorem zzS:zdK (hx h bs ts) h.blks.length h.toks.length=h:=by simp [zdK,hx]
@[simp] theorem zLI (args:List zaa):zke zN7 h args=some (args,false):=by simp [zke]
@[simp] theorem zLL:zc0 zN7 L h=⟨L.rob,L.rot,h.blks.length,h.toks.length⟩:=by simp [zc0]
theorem zFL (es:List (List zaa)) (hu:(zaw h.blks.length h.toks.length es&&(ts[0]?==some es.length))=true):
    zsS zN7 h (hx h bs ts) (gA h.toks.length 0 es)=some (.gsl h.toks.length es,ptok h es.length):=by
  simp only [Bool.and_eq_true,beq_iff_eq] at hu
  obtain ⟨u1,u2⟩:=hu
  have h5:(hx h bs ts).toks[h.toks.length]?=some es.length:=by
    simp only [hx];rw [List.getElem?_append_right (Nat.le_refl _),Nat.sub_self];exact u2
  unfold zsS
  simp only [gA,Nat.add_zero,h5,u1,zzS]
  simp
theorem zFM (t:Nat) (es:List (List zaa)) (h':zab) (hl:h'.blks.length=h.blks.length∧h'.toks.length=h.toks.length) (ht:t < h.toks.length) (hu:zaw h.blks.length h.toks.length es=true):
    zsS zN7 h (hx h' bs ts) (.gsl t es)=some (.gsl t es,h'):=by
  have e:zdK (hx h' bs ts) h.blks.length h.toks.length=h':=by rw [← hl.1,← hl.2];exact zzS h' bs ts
  unfold zsS
  simp only [e]
  have hnot:¬h.toks.length≤t:=by omega
  simp [hnot,frz,zBf,hu,ht]
theorem zFN (sz t:Nat) (c:Bool) (es ys:List (List zaa)) (ht:h.toks[t]?=some es.length)
    (hc:(zfe sz ys&&zfe sz es&&decide (es.length+ys.length < zas)&&decide (0 < es.length)&&decide (L.rot≤t))=true):
    zq1 L (hx h bs ts) sz false (.gsl t es) (.vsl c ys)=some (.gsl t (es++ys),hx (zug h t (es.length+ys.length)) bs ts):=by
  simp only [Bool.and_eq_true,decide_eq_true_eq] at hc
  obtain ⟨⟨⟨⟨c1,c2⟩,c3⟩,c4⟩,c5⟩:=hc
  have he:es≠[]:=fun e=>by simp [e] at c4
  have hlt:=(List.getElem?_eq_some_iff.1 ht).1
  have h5:(hx h bs ts).toks[t]?=some es.length:=by
    simp only [hx];rw [List.getElem?_append_left hlt];exact ht
  simp only [zq1,zaA,zfG,zBv,c1,c2,Option.bind_some,if_true]
  rw [if_pos ⟨trivial,he,by trivial,c5,h5,c3⟩]
  simp only [hx,zug]
  rw [List.set_append_left _ _ hlt]
theorem zFw (i:Nat) (es:List Int) (s:ByteArray)
    (hc:(decide (es.length+s.size < zas)&&decide (0 < es.length)&&decide (L.rot≤h.toks.length)&&(ts[i]?==some es.length))=true):
    zq1 L (hx h bs ts) 1 false (gA h.toks.length i (eI .u8 es)) (.str s)=some (gA h.toks.length i (eI .u8 (es++bts s)),hx h bs (ts.set i (es.length+s.size))):=by
  have hs:zq1 L (hx h bs ts) 1 false (gA h.toks.length i (eI .u8 es)) (.str s)=zq1 L (hx h bs ts) 1 false (gA h.toks.length i (eI .u8 es)) (.vsl false (eI .u8 (bts s))):=by
    simp [zq1,zaA,zfG,zIK]
  have h1:=zDg L h bs ts 1 i false (eI .u8 es) (eI .u8 (bts s)) (by simpa using hc)
  rw [hs,h1]
  simp
theorem zIx (n:Nat):ptok (hx h bs ts) n=hx h bs (ts++[n]):=by simp [ptok,hx]
theorem zak:(hx h bs ts).toks.length=h.toks.length+ts.length:=by simp [hx]
theorem zam:(hx h bs ts).blks.length=h.blks.length+bs.length:=by simp [hx]
theorem zJL (i n:Nat):zug (hx h bs ts) (h.toks.length+i) n=hx h bs (ts.set i n):=by
  simp only [zug,hx]
  rw [List.set_append_right _ _ (Nat.le_add_right _ _),Nat.add_sub_cancel_left]
end
end Go.Av
namespace Go.Av
def tab {α:Type} (n:Nat) (f:Nat→α):List α:=(List.range n).map f
@[simp] theorem zx5 {α:Type} (n:Nat) (f:Nat→α):(tab n f).length=n:=by simp [tab]
theorem zis {α:Type} (n:Nat) (f:Nat→α) (i:Nat):(tab n f)[i]?=if i < n then some (f i) else none:=by
  unfold tab
  by_cases h:i < n
  · rw [List.getElem?_map,List.getElem?_range h,if_pos h];rfl
  · rw [if_neg h];simp;omega
theorem zLO {α:Type} {n:Nat} {f:Nat→α} {i:Nat} (h:i < n):(tab n f)[i]?=some (f i):=by rw [zis,if_pos h]
theorem zgu {α:Type} {n:Nat} {f g:Nat→α} (h:∀ i,i < n→f i=g i):tab n f=tab n g:=by
  unfold tab;exact List.map_congr_left fun i hi=>h i (by simpa using hi)
theorem zuR {α : Type} (n : Nat) (f : Nat → α) (i : Nat) (v : α) : (tab n f).set i v = tab n (fun j => if j = i then v else f j) := by
  refine List.ext_getElem? fun j=>?_
  rw [List.getElem?_set,zx5,zis,zis]
  by_cases h:i=j
  · subst h;simp
  · simp [h,Ne.symm h]
theorem zFS {α : Type} (l : List α) (d : α) : tab l.length (fun i => l.getD i d) = l := by
  refine List.ext_getElem? fun j=>?_
  rw [zis]
  by_cases h:j < l.length
  · rw [if_pos h,List.getElem?_eq_getElem h];simp [List.getD,h]
  · rw [if_neg h,List.getElem?_eq_none (by omega)]
theorem zCZ {α:Type} {l:List α} {n:Nat} (d:α) (h:l.length=n):l=tab n (fun i=>l.getD i d):=by subst h;exact (zFS l d).symm
theorem zFT {α:Type} {n:Nat} {f:Nat→α} {i:Nat} {d:α} (h:i < n):(tab n f).getD i d=f i:=by
  rw [List.getD,zLO h];rfl
theorem zC0 {α β : Type} (n : Nat) (f : Nat → α) (g : α → β) : (tab n f).map g = tab n (fun i => g (f i)) := by
  simp [tab,Function.comp_def]
theorem zyH {α : Type} (x : α) (n : Nat) : zaS x n = tab n (fun _ => x) := by
  refine List.ext_getElem? fun j=>?_
  have key:∀ n j:Nat,(zaS x n)[j]?=if j < n then some x else none:=by
    intro n
    induction n with
    | zero=>intro j;simp [zaS]
    | succ n ih=>
      intro j
      cases j with
      | zero=>simp [zaS]
      | succ j=>simp only [zaS,List.getElem?_cons_succ,ih];simp
  rw [key,zis]
def gd {α:Type} (l:List α) (d:α) (i:Nat):α:=l.getD i d
theorem zk3 {α:Type} {n:Nat} {f:Nat→α} {i:Nat} {d:α} (h:i < n):gd (tab n f) d i=f i:=zFT h
theorem zBD {α:Type} {l:List α} {n:Nat} (d:α) (h:l.length=n):l=tab n (gd l d):=zCZ d h
theorem zul {α:Type} {l:List α} {i:Nat} {d:α} (h:i < l.length):l[i]?=some (gd l d i):=by
  unfold gd;simp [List.getD,h]
def zA9 {α:Type} (n:Nat) (f g:Nat→α) (k:Nat):List α:=tab n fun j=>if j < k then f j else g j
@[simp] theorem zM9 {α:Type} (n:Nat) (f g:Nat→α) (k:Nat):(zA9 n f g k).length=n:=by simp [zA9]
theorem zEM {α:Type} (n:Nat) (f g:Nat→α) (k:Nat):(zA9 n f g k).set k (f k)=zA9 n f g (k+1):=by
  unfold zA9
  rw [zuR]
  refine zgu fun j hj=>?_
  by_cases h1:j=k
  · subst h1;simp
  · by_cases h2:j < k
    · rw [if_neg h1,if_pos h2,if_pos (by omega)]
    · rw [if_neg h1,if_neg h2,if_neg (by omega)]
theorem zBI {α:Type} (n:Nat) (f g:Nat→α):zA9 n f g 0=tab n g:=zgu fun j hj=>by simp
theorem zEN {α:Type} (n:Nat) (f g:Nat→α):zA9 n f g n=tab n f:=zgu fun j hj=>by simp [hj]
theorem zHY {α:Type} {n:Nat} {f g:Nat→α} {k:Nat} {d:α} (h:k < n):gd (zA9 n f g k) d k=g k:=by
  unfold zA9;rw [zk3 h];simp
abbrev W64:=BitVec 64
def wd (x:W64):zaa:=.int .u64 x.toNat
def cW (l:List W64):List zaa:=l.map wd
def cB (l:List Bool):List zaa:=l.map zaa.bool
def cI (k:IntKind) (l:List Int):List zaa:=l.map fun n=>.int k n
@[simp] theorem zPt (l:List W64):(cW l).length=l.length:=by simp [cW]
@[simp] theorem zHi (k:IntKind) (l:List Int):(cI k l).length=l.length:=by simp [cI]
theorem zrk:∀ {l:List zaa},zb4 l=true↔∀ c∈l,c.flat=true
  | []=>by simp [zb4]
  | c :: cs=>by simp [zb4,zrk (l:=cs)]
@[simp] theorem zuo (l : List W64) : zb4 (cW l) = true := zrk.2 fun c h => by
  simp only [cW,List.mem_map] at h;obtain ⟨x,_,rfl⟩:=h;rfl
@[simp] theorem zBM (k : IntKind) (l : List Int) : zb4 (cI k l) = true := zrk.2 fun c h => by
  simp only [cI,List.mem_map] at h;obtain ⟨x,_,rfl⟩:=h;rfl
theorem zES {l:List W64} {i:Nat} (h:i < l.length):(cW l)[i]?=some (wd (gd l 0#64 i)):=by
  simp [cW,gd,List.getD,h]
theorem zK3 (l:List W64) (i:Nat) (h:decide (i < l.length)=true):(cW l)[i]?=some (wd (gd l 0#64 i)):=zES (by simpa using h)
@[simp] theorem zOo (l:List W64) (i:Nat) (h:i < (cW l).length):(cW l)[i]=wd (gd l 0#64 i):=by
  have:=zES (l:=l) (i:=i) (by simpa using h)
  rw [List.getElem?_eq_getElem h] at this
  exact Option.some.inj this
@[simp] theorem zPu (l:List W64) (i:Nat) (x:W64):(cW l).set i (wd x)=cW (l.set i x):=by simp [cW,List.map_set]
@[simp] theorem zK6 (k:IntKind) (l:List Int) (i:Nat) (x:Int):(cI k l).set i (.int k x)=cI k (l.set i x):=by simp [cI,List.map_set]
@[simp] theorem zOq (l:List W64) (n:Nat):(cW l).take n=cW (l.take n):=by simp [cW]
@[simp] theorem zOr (l:List W64) (n:Nat):(cW l).drop n=cW (l.drop n):=by simp [cW]
theorem zbi (n:Nat):zaS (.int .u64 0) n=cW (tab n fun _=>0#64):=by rw [zyH,cW,zC0];rfl
theorem zgf (k:IntKind) (x:Int) (n:Nat):zaS (.int k x) n=cI k (tab n fun _=>x):=by rw [zyH,cI,zC0]
@[simp] theorem zNa (x:W64):(wd x).cells=[wd x]:=rfl
@[simp] theorem zPy (x:W64):(wd x).okV=true:=rfl
@[simp] theorem zOv (x:W64):(wd x).flat=true:=rfl
@[simp] theorem zPz (x:W64):asI (wd x)=some (x.toNat:Int):=rfl
theorem zK9 (n:Nat) (h:n < 18446744073709551616):zaa.int .u64 (n:Int)=wd (BitVec.ofNat 64 n):=by
  unfold wd;rw [BitVec.toNat_ofNat,Nat.mod_eq_of_lt (by simpa using h)]
theorem zxF (n:Nat) (h:n < 18446744073709551616):IntKind.u64.wrap (n:Int)=n:=wrap_u64 (by omega) (by omega)
theorem zdA (x:W64):BitVec.ofInt 64 (x.toNat:Int)=x:=by
  apply BitVec.eq_of_toNat_eq
  rw [BitVec.toNat_ofInt]
  have:=x.isLt
  omega
theorem zyP (x:W64):x.toNat < 18446744073709551616:=x.isLt
@[simp] theorem zPA (x y:W64):zdY .xor (wd x) (wd y)=some (wd (x ^^^ y)):=by
  unfold wd
  rw [zJT]
  show some (zaa.int .u64 (IntKind.u64.wrap ((BitVec.ofInt 64 (x.toNat:Int) ^^^ BitVec.ofInt 64 (y.toNat:Int):BitVec 64).toNat:Int)))=_
  rw [zdA,zdA,zxF _ (zyP _)]
@[simp] theorem zn3 (x y:W64):zdY .and (wd x) (wd y)=some (wd (x&&&y)):=by
  unfold wd
  rw [zlQ]
  show some (zaa.int .u64 (IntKind.u64.wrap ((BitVec.ofInt 64 (x.toNat:Int)&&&BitVec.ofInt 64 (y.toNat:Int):BitVec 64).toNat:Int)))=_
  rw [zdA,zdA,zxF _ (zyP _)]
@[simp] theorem zQd (x y:W64):zdY .or (wd x) (wd y)=some (wd (x|||y)):=by
  unfold wd
  rw [zEc]
  show some (zaa.int .u64 (IntKind.u64.wrap ((BitVec.ofInt 64 (x.toNat:Int)|||BitVec.ofInt 64 (y.toNat:Int):BitVec 64).toNat:Int)))=_
  rw [zdA,zdA,zxF _ (zyP _)]
@[simp] theorem zLa (x y:W64):zdY .andNot (wd x) (wd y)=some (wd (x&&&~~~ y)):=by
  unfold wd
  rw [zA1]
  show some (zaa.int .u64 (IntKind.u64.wrap ((BitVec.ofInt 64 (x.toNat:Int)&&&~~~ (BitVec.ofInt 64 (y.toNat:Int)):BitVec 64).toNat:Int)))=_
  rw [zdA,zdA,zxF _ (zyP _)]
theorem zfl (n:Int):IntKind.u64.wrap n=n % 18446744073709551616:=by
  unfold IntKind.wrap
  simp [IntKind.signed,IntKind.bits]
@[simp] theorem zPB (x y:W64):zdY .add (wd x) (wd y)=some (wd (x+y)):=by
  unfold wd
  rw [zJQ,zfl,BitVec.toNat_add,Int.natCast_emod,Int.natCast_add];rfl
@[simp] theorem zPC (x y:W64):zdY .mul (wd x) (wd y)=some (wd (x*y)):=by
  unfold wd
  rw [zJR,zfl,BitVec.toNat_mul,Int.natCast_emod,Int.natCast_mul];rfl
@[simp] theorem zLb (x y:W64):zdY .sub (wd x) (wd y)=some (wd (x - y)):=by
  unfold wd
  rw [zyB,zfl]
  congr 2
  have h1:=x.isLt
  have h2:=y.isLt
  rw [BitVec.toNat_sub]
  omega
theorem zvR (x:W64) (k:IntKind) (n:Nat) (h:decide (n≤64)=true):zdY .shl (wd x) (.int k (n:Int))=some (wd (x <<< n)):=by
  have h':n≤64:=by simpa using h
  unfold wd
  rw [zlT,zQg _ _ _ (by simp only [show ((IntKind.u64.bits:Nat):Int)=64 from rfl,Bool.and_eq_true,decide_eq_true_eq];exact ⟨Int.natCast_nonneg n,by omega⟩)]
  rw [zfl,BitVec.toNat_shiftLeft,Int.toNat_natCast,Nat.shiftLeft_eq,Int.natCast_emod,Int.natCast_mul,Int.natCast_pow];rfl
theorem zmO (x:W64) (k:IntKind) (n:Nat) (h:decide (n≤64)=true):zdY .shr (wd x) (.int k (n:Int))=some (wd (x >>> n)):=by
  have h':n≤64:=by simpa using h
  unfold wd
  rw [zdO,zM7 _ _ _ (by simp only [show ((IntKind.u64.bits:Nat):Int)=64 from rfl,Bool.and_eq_true,decide_eq_true_eq];exact ⟨Int.natCast_nonneg n,by omega⟩)]
  rw [BitVec.toNat_ushiftRight,Int.toNat_natCast,Nat.shiftRight_eq_div_pow,Int.fdiv_eq_ediv_of_nonneg _ (by exact Int.pow_nonneg (by decide)),Int.natCast_ediv,Int.natCast_pow];rfl
def bw (n:Int):W64:=BitVec.ofInt 64 n
@[simp] theorem zPK (k:IntKind) (n:Int):zKA .u64 (.int k n)=some (wd (bw n)):=by
  rw [zd5,zfl]
  unfold wd bw
  congr 2
  rw [BitVec.toNat_ofInt]
  omega
theorem zCw (h:zab) (nb nt n i:Nat) (es:List (List zaa)) (he:zaw nb nt es=true):frz h nb nt (n+1) (gA nt i es)=some (.vsl false es):=zxV h nb nt n (by simp) he
@[simp] theorem zPL (h:zab) (nb nt n i:Nat) (k:IntKind) (l:List Int):frz h nb nt (n+1) (gA nt i (eI k l))=some (.vsl false (eI k l)):=zCw h nb nt n i _ (by simp)
@[simp] theorem zOE (h:zab) (nb nt n:Nat) (c:Bool) (k:IntKind) (l:List Int):frz h nb nt (n+1) (.vsl c (eI k l))=some (.vsl false (eI k l)):=zhO h nb nt n c (by simp)
@[simp] theorem zPM (h:zab) (nb nt n:Nat) (x:W64):frz h nb nt (n+1) (wd x)=some (wd x):=by unfold wd;simp
@[simp] theorem zPN (h:zab) (x:W64):fzA h (wd x)=some (wd x,false):=by unfold wd;simp
@[simp] theorem zPO (h:zab) (nb nt n:Nat) (l:List W64):frz h nb nt (n+1) (.agg (cW l))=some (.agg (cW l)):=zjZ h nb nt n (zuo l)
@[simp] theorem zPP (h:zab) (nb nt n:Nat) (k:IntKind) (l:List Int):frz h nb nt (n+1) (.agg (cI k l))=some (.agg (cI k l)):=zjZ h nb nt n (zBM k l)
@[simp] theorem zPQ (h:zab) (l:List W64):fzA h (.agg (cW l))=some (.agg (cW l),false):=zuF h (zuo l)
@[simp] theorem zPR (h:zab) (k:IntKind) (l:List Int):fzA h (.agg (cI k l))=some (.agg (cI k l),false):=zuF h (zBM k l)
@[simp] theorem zPS (L:Lim) (h:zab) (p:zaa) (x:W64):stK L h 1 p (wd x)=stM (zcu L h p [wd x]):=by simp [stK]
@[simp] theorem zOG (x:W64):zmB (wd x)=some (.vptr [wd x] 0):=rfl
theorem zfV (n sz m i off k:Nat) (kd:IntKind) (h:decide (k < n)=true):zcG (some n) sz (pA m i off) (.int kd (k:Int))=some (pA m i (off+k*sz)):=by
  have:k < n:=by simpa using h
  simp [zcG,asI,pA,this]
theorem zrR (n sz off k:Nat) (cs:List zaa) (kd:IntKind) (h:decide (k < n)=true):zcG (some n) sz (.vptr cs off) (.int kd (k:Int))=some (.vptr cs (off+k*sz)):=by
  have:k < n:=by simpa using h
  simp [zcG,asI,this]
@[simp] theorem zNq (n sz m i off:Nat) (kd:IntKind):zcG (some (n+1)) sz (pA m i off) (.int kd 0)=some (pA m i off):=by simp [zcG,asI,pA]
@[simp] theorem zNr (n sz off:Nat) (cs:List zaa) (kd:IntKind):zcG (some (n+1)) sz (.vptr cs off) (.int kd 0)=some (.vptr cs off):=by simp [zcG,asI]
theorem zrS (n i off sz len k:Nat) (cap:Option Nat) (kd:IntKind) (h:decide (k < len)=true):zcG none sz (sA n i off sz len cap) (.int kd (k:Int))=some (pA n i (off+k*sz)):=by
  have:k < len:=by simpa using h
  simp [zcG,asI,sA,pA,this]
theorem zxR (n k:Nat) (g:Bool) (cs:List zaa) (sz:Nat) (kd:IntKind) (h:decide (k < n)=true):zNS n sz g (.agg cs) (.int kd (k:Int))=zdZ g cs (k*sz) sz:=by
  have:k < n:=by simpa using h
  unfold zNS;simp [this]
theorem zxS (k' kd:IntKind) (c:Bool) (l:List Int) (i:Nat) (h:decide (i < l.length)=true):zcG none 1 (.vsl c (eI k' l)) (.int kd (i:Int))=some (.vptr [.int k' (gd l 0 i)] 0):=by
  have h':i < l.length:=by simpa using h
  simp [zcG,asI,zHB,h',gd,List.getD]
@[simp] theorem zOJ (n i off sz len:Nat) (cap:Option Nat):zwo (sA n i off sz len cap)=some len:=rfl
@[simp] theorem zOK (n i:Nat) (es:List (List zaa)):zwo (gA n i es)=some es.length:=rfl
@[simp] theorem zPT (L:Lim) (h:zab) (p:zaa) (n i off sz len:Nat) (cap:Option Nat):stK L h 1 p (sA n i off sz len cap)=stM (zcu L h p [sA n i off sz len cap]):=by simp [stK,sA,zaa.cells,zaa.okV]
section
variable (L:Lim) (h:zab) (bs:List (List zaa)) (ts:List Nat)
theorem zl6 : ∀ (n : Nat) (cs : List zaa), cs.length = n → chunks 1 n cs = cs.map fun c => [c]
  | 0,[],_=>rfl
  | n+1,c :: cs,h=>by simp [chunks,zl6 n cs (by simpa using h)]
theorem zuH (i n : Nat) (cs : List zaa) (cap : Option Nat) (hb : bs[i]? = some cs) (hl : cs.length = n) : zaA (hx h bs ts) 1 (sA h.blks.length i 0 1 n cap) = some (cs.map fun c => [c]) := by
  simp only [zaA,sA,hx]
  rw [List.getElem?_append_right (Nat.le_add_right _ _),Nat.add_sub_cancel_left,hb]
  simp [hl,zl6]
theorem zqS (k:IntKind) (l:List Int):(cI k l).map (fun c=>[c])=eI k l:=by simp [cI,eI]
theorem zCD (k:IntKind) (l:List Int):(eI k l).flatten=cI k l:=by
  induction l with
  | nil=>rfl
  | cons x l ih=>simp only [eI,List.map_cons,List.flatten_cons] at ih ⊢;rw [ih];rfl
end
end Go.Av
namespace Go.Av
abbrev wrM:Mode:=⟨false,false,false,false⟩
abbrev roM:Mode:=⟨true,false,false,false⟩
abbrev zOS:Mode:=⟨false,false,true,false⟩
section
variable (L:Lim) (h:zab) (bs bs':List (List zaa)) (ts ts':List Nat)
@[simp] theorem zNF (args:List zaa):zke wrM h args=some (args,false):=by simp [zke]
@[simp] theorem zFW (args:List zaa):zke roM h args=some (args,false):=by simp [zke]
@[simp] theorem zLR (args:List zaa):zke zOS h args=some (args,false):=by simp [zke]
@[simp] theorem zNI:zc0 wrM L h=⟨L.rob,L.rot,h.blks.length,h.toks.length⟩:=by simp [zc0]
@[simp] theorem zFK:zc0 roM L h=zau h:=by simp [zc0,zau]
@[simp] theorem zLK:zc0 zOS L h=L:=by simp [zc0]
@[simp] theorem zOR (h1:zab) (v:zaa):zsS wrM h h1 v=zte (frz h1 h.blks.length h.toks.length 12 v) (zdK h1 h.blks.length h.toks.length):=by
  simp [zsS,zte]
@[simp] theorem zPo (h1:zab) (v:zaa):zsS roM h h1 v=zte (frz h1 h.blks.length h.toks.length 12 v) h:=by
  simp [zsS,zte]
@[simp] theorem zOj (h1:zab) (v:zaa):zsS zOS h h1 v=some (v,h1):=by
  simp [zsS]
@[simp] theorem zEm:hx (hx h bs ts) bs' ts'=hx h (bs++bs') (ts++ts'):=by simp [hx]
theorem zA4 {h1:zab} (h2:h1.blks.length=h.blks.length) (h3:h1.toks.length=h.toks.length):zdK h1 h.blks.length h.toks.length=h1:=by
  unfold zdK
  rw [← h2,← h3,List.take_length,List.take_length]
theorem zh9 (i:Nat) (cs:List zaa):zdK (hx h (bs.set i cs) ts) (h.blks.length+bs.length) (h.toks.length+ts.length)=hx h (bs.set i cs) ts:=by
  have:=zA4 (hx h bs ts) (h1:=hx h (bs.set i cs) ts) (by simp [hx]) (by simp [hx])
  rwa [zam,zak] at this
theorem zan (L:Lim) (i off:Nat) (cs:List zaa) (h1:(decide (L.rob≤h.blks.length)&&zap 0 0 cs)=true):
    zcu L (hx h bs ts) (pA h.blks.length i off) cs=stO h bs ts i off cs bs[i]?:=by
  simp only [Bool.and_eq_true,decide_eq_true_eq] at h1
  unfold zcu pA stO stI hx
  simp only
  rw [List.getElem?_append_right (Nat.le_add_right _ _),Nat.add_sub_cancel_left]
  cases bs[i]? with
  | none=>rfl
  | some old=>
    simp only [Option.bind_some]
    by_cases hc:off+cs.length≤old.length
    · rw [if_pos ⟨by omega, hc, .inr h1.2⟩, if_pos (by simpa using hc)]
      rw [List.set_append_right _ _ (Nat.le_add_right _ _),Nat.add_sub_cancel_left]
    · rw [if_neg (fun h=>hc h.2.1),if_neg (by simpa using hc)]
theorem zsu:∀ {l:List zaa},(∀ c∈l,c.under 0 0=true)→zap 0 0 l=true
  | [],_=>rfl
  | c :: cs,h=>by simp only [zap,Bool.and_eq_true];exact ⟨h c (by simp),zsu fun c hc=>h c (by simp [hc])⟩
@[simp] theorem zD1 (l : List W64) : zap 0 0 (cW l) = true := zsu fun c hc => by
  simp only [cW,List.mem_map] at hc;obtain ⟨x,_,rfl⟩:=hc;rfl
@[simp] theorem zLM (x:W64):zap 0 0 [wd x]=true:=rfl
@[simp] theorem zKt (k:IntKind) (x:Int):zap 0 0 [.int k x]=true:=rfl
@[simp] theorem zIE (x:Bool):zap 0 0 [.bool x]=true:=rfl
theorem zop (b off n:Nat) (g:Bool) (cs:List zaa) (hb:h.blks[b]?=some cs):zkH (hx h bs ts) (.ptr b off) n g=zdZ g cs off n:=by
  unfold zkH hx
  simp only
  rw [List.getElem?_append_left (List.getElem?_eq_some_iff.1 hb).1,hb]
  rfl
def RdI (h:zab) (k:IntKind) (x:zaa) (l:List Int):Prop:=
  zwo x=some l.length∧∃ p:Nat→zaa,(∀ i,i < l.length→zcG none 1 x (.int .i64 (i:Int))=some (p i))∧∀ i bs ts,i < l.length→zkH (hx h bs ts) (p i) 1 false=some (.int k (gd l 0 i))
def RdW (h:zab) (x:zaa) (l:List W64):Prop:=
  zwo x=some l.length∧∃ p:Nat→zaa,(∀ i,i < l.length→zcG none 1 x (.int .i64 (i:Int))=some (p i))∧∀ i bs ts,i < l.length→zkH (hx h bs ts) (p i) 1 false=some (wd (gd l 0#64 i))
theorem RdW.ext {h:zab} {x:zaa} {l:List W64} (hr:RdW h x l) (bs:List (List zaa)) (ts:List Nat):RdW (hx h bs ts) x l:=by
  obtain ⟨h1,p,h2,h3⟩:=hr
  exact ⟨h1,p,h2,fun i bs' ts' hi=>by rw [zEm];exact h3 i _ _ hi⟩
theorem RdI.vsl (h:zab) (k:IntKind) (c:Bool) (l:List Int):RdI h k (.vsl c (eI k l)) l:=
  ⟨by simp,fun i=>.vptr [.int k (gd l 0 i)] 0,fun i hi=>zxS k .i64 c l i (by simpa using hi),fun i bs ts hi=>by simp⟩
def eW (l:List W64):List (List zaa):=l.map fun x=>[wd x]
@[simp] theorem zLA (l:List W64):(eW l).length=l.length:=by simp [eW]
theorem zHu (l:List W64) (i:Nat):(eW l)[i]?=(l[i]?).map fun n=>[wd n]:=by simp [eW]
theorem RdW.vsl (h:zab) (c:Bool) (l:List W64):RdW h (.vsl c (eW l)) l:=
  ⟨by simp,fun i=>.vptr [wd (gd l 0#64 i)] 0,fun i hi=>by simp [zcG,asI,zHu,hi,gd,List.getD],fun i bs ts hi=>by simp⟩
theorem zCH {k:IntKind} {l:List Int} {i:Nat} (h:i < l.length):(cI k l)[i]?=some (.int k (gd l 0 i)):=by
  simp [cI,gd,List.getD,h]
theorem RdW.sl (h:zab) (b n:Nat) (cap:Option Nat) (l:List W64) (hl:l.length=n) (hb:h.blks[b]?=some (cW l)):RdW h (.sl b 0 1 n cap) l:=
  ⟨by simp [hl], fun i => .ptr b (0 + i * 1), fun i hi => by simp [zcG, asI]; omega, fun i bs ts hi => by
    rw [zop h bs ts b _ _ _ _ hb,zae,Nat.zero_add,Nat.mul_one];exact zES hi⟩
theorem RdI.sl (h:zab) (k:IntKind) (b n:Nat) (cap:Option Nat) (l:List Int) (hl:l.length=n) (hb:h.blks[b]?=some (cI k l)):RdI h k (.sl b 0 1 n cap) l:=
  ⟨by simp [hl], fun i => .ptr b (0 + i * 1), fun i hi => by simp [zcG, asI]; omega, fun i bs ts hi => by
    rw [zop h bs ts b _ _ _ _ hb,zae,Nat.zero_add,Nat.mul_one];exact zCH hi⟩
end
theorem zln (n sz m i off:Nat) (h:decide (0 < n)=true):zdB (.arr n) sz (pA m i off) none none none=some (sA m i off sz n (some n)):=by
  have h':0 < n:=by simpa using h
  have:¬n=0:=by omega
  simp [zdB,pA,sA,zit,this]
theorem ztL (n sz m i off c:Nat) (kd:IntKind) (h:(decide (0 < c)&&decide (c≤n))=true):zdB (.arr n) sz (pA m i off) none (some (.int kd (c:Int))) none=some (sA m i off sz c (some n)):=by
  simp only [Bool.and_eq_true,decide_eq_true_eq] at h
  have h0:¬c=0:=by omega
  simp [zdB,pA,sA,zit,h0,h.2]
theorem RdW.sA {h:zab} {bs:List (List zaa)} (ts:List Nat) (i n:Nat) (cap:Option Nat) (l:List W64) (hl:l.length=n) (hb:bs[i]?=some (cW l)):RdW (hx h bs ts) (sA h.blks.length i 0 1 n cap) l:=
  RdW.sl _ _ n cap l hl (by simp only [hx];rw [List.getElem?_append_right (Nat.le_add_right _ _),Nat.add_sub_cancel_left];exact hb)
theorem RdI.sA {h:zab} {bs:List (List zaa)} (ts:List Nat) (k:IntKind) (i n:Nat) (cap:Option Nat) (l:List Int) (hl:l.length=n) (hb:bs[i]?=some (cI k l)):RdI (hx h bs ts) k (sA h.blks.length i 0 1 n cap) l:=
  RdI.sl _ k _ n cap l hl (by simp only [hx];rw [List.getElem?_append_right (Nat.le_add_right _ _),Nat.add_sub_cancel_left];exact hb)
theorem zy3 (n:Nat) (c:Bool) (k:IntKind) (l:List Int) (h:(decide (0 < n)&&decide (n≤l.length))=true):zMh n (.vsl c (eI k l))=some (.vptr (cI k (l.take n)) 0):=by
  simp only [Bool.and_eq_true,decide_eq_true_eq] at h
  show (if n≤(eI k l).length∧0 < n then some (zaa.vptr (List.take n (eI k l)).flatten 0) else none)=_
  rw [if_pos ⟨by simpa using h.2,h.1⟩]
  have:(eI k l).take n=eI k (l.take n):=by simp [eI]
  rw [this,zCD]
theorem zHw (n m i off len:Nat) (cap:Option Nat) (h:decide (n≤len)=true):zMh n (sA m i off 1 len cap)=some (pA m i off):=by
  have:n≤len:=by simpa using h
  unfold zMh;simp [sA,pA,this]
@[simp] theorem zOO (k:IntKind) (l:List Int) (n:Nat):(cI k l).take n=cI k (l.take n):=by simp [cI]
@[simp] theorem zOP (k:IntKind) (l:List Int) (n:Nat):(cI k l).drop n=cI k (l.drop n):=by simp [cI]
theorem zy5 {h:zab} {bs:List (List zaa)} (ts:List Nat) {i:Nat} {cs:List zaa} (hb:bs[i]?=some cs):(hx h bs ts).blks[h.blks.length+i]?=some cs:=by
  simp only [hx];rw [List.getElem?_append_right (Nat.le_add_right _ _),Nat.add_sub_cancel_left];exact hb
theorem zFu (k:IntKind) (l:List Int) (off sz:Nat) (h:decide (off+sz≤l.length)=true):zdZ true (cI k l) off sz=some (.agg (cI k ((l.drop off).take sz))):=by
  have h':off+sz≤l.length:=by simpa using h
  unfold zdZ;simp [h']
theorem zFv (l:List W64) (off sz:Nat) (h:decide (off+sz≤l.length)=true):zdZ true (cW l) off sz=some (.agg (cW ((l.drop off).take sz))):=by
  have h':off+sz≤l.length:=by simpa using h
  unfold zdZ;simp [h']
@[simp] theorem zKu (b:Bool):zE9 zaK b=false:=rfl
@[simp] theorem zNG {α:Type} (n:Nat) (f:Nat→α):tab n f++[f n]=tab (n+1) f:=by simp [tab,List.range_succ]
theorem zC5 {α:Type} {l:List α} {n i:Nat} {d:α} (h:i < n):gd (l.take n) d i=gd l d i:=by
  unfold gd;simp [List.getD,List.getElem?_take,h]
theorem zls {α:Type} {l:List α} {k:Nat} (d:α) (h:k < l.length):l.take (k+1)=l.take k++[gd l d k]:=by
  rw [List.take_add_one,zul (d:=d) h];rfl
end Go.Av
namespace Go.Av
def mkK (h:zab) (sz:Nat) (zero:List zaa):zaa→Option (zaa × zab)
  | .int _ n=>if 0≤n∧n < zas then some (.sl h.blks.length 0 sz n.toNat (some n.toNat),push h (rep zero n.toNat)) else none
  | _=>none
@[simp] theorem zOU (C:Ctx) (L:Lim) (fr:Fr) (h:zab) (sz:Nat) (z:List zaa) (x:AO):zh5 C L fr h (.mk sz z x)=mkK h sz z (C.ev fr x):=by
  simp only [zh5]
  cases C.ev fr x <;> rfl
theorem zlu (h:zab) (bs:List (List zaa)) (ts:List Nat) (sz:Nat) (z:List zaa) (k:IntKind) (n:Int) (hc:(decide (0≤n)&&decide (n < zas))=true):
    mkK (hx h bs ts) sz z (.int k n)=some (sA h.blks.length bs.length 0 sz n.toNat (some n.toNat),hx h (bs++[rep z n.toNat]) ts):=by
  simp only [Bool.and_eq_true,decide_eq_true_eq] at hc
  unfold mkK
  simp only [if_pos hc]
  simp [sA,hx,push]
theorem zf9 (x:zaa):∀ n,rep [x] n=zaS x n
  | 0=>rfl
  | n+1=>by simp [rep,zaS,zf9 x n]
theorem zwu (sz m i len c:Nat) (cap:Option Nat) (kd:IntKind) (h:(decide (0 < c)&&decide (c≤len)&&decide (len≤cap.getD len))=true):zdB .slc sz (sA m i 0 sz len cap) none (some (.int kd (c:Int))) none=some (sA m i 0 sz c cap):=by
  simp only [Bool.and_eq_true,decide_eq_true_eq] at h
  obtain ⟨⟨h1,h2⟩,h3⟩:=h
  have h0:¬c=0:=by omega
  have h4:c≤cap.getD len:=by omega
  simp [zdB,sA,zit,h0,h4]
@[simp] theorem zLV (k:IntKind) (a:Int):zaa.cells (zaa.int k a)=[.int k a]:=rfl
@[simp] theorem zOV (k:IntKind) (a:Int):zaa.okV (zaa.int k a)=true:=rfl
@[simp] theorem zKv (b:Bool):zaa.cells (zaa.bool b)=[.bool b]:=rfl
@[simp] theorem zNJ (b:Bool):zaa.okV (zaa.bool b)=true:=rfl
@[simp] theorem zL0 (b:ByteArray):zaa.cells (zaa.str b)=[.str b]:=rfl
@[simp] theorem zOW (b:ByteArray):zaa.okV (zaa.str b)=true:=rfl
@[simp] theorem zL1 (c:Bool) (es:List (List zaa)):zaa.cells (zaa.vsl c es)=[.vsl c es]:=rfl
@[simp] theorem zOX (c:Bool) (es:List (List zaa)):zaa.okV (zaa.vsl c es)=true:=rfl
@[simp] theorem zL3:zaa.cells (zaa.nsl)=[.nsl]:=rfl
@[simp] theorem zOY:zaa.okV (zaa.nsl)=true:=rfl
@[simp] theorem zKz:zaa.cells (zaa.nilp)=[.nilp]:=rfl
@[simp] theorem zNK:zaa.okV (zaa.nilp)=true:=rfl
@[simp] theorem zL6:zaa.cells (zaa.nfn)=[.nfn]:=rfl
@[simp] theorem zO0:zaa.okV (zaa.nfn)=true:=rfl
@[simp] theorem zL7:zaa.cells (zaa.nif)=[.nif]:=rfl
@[simp] theorem zO1:zaa.okV (zaa.nif)=true:=rfl
@[simp] theorem zIZ (t:TypeId) (v:zaa):zaa.cells (zaa.iface t v)=[.iface t v]:=rfl
@[simp] theorem zL8 (t:TypeId) (v:zaa):zaa.okV (zaa.iface t v)=true:=rfl
@[simp] theorem zNL (f:Fn) (a b:List zaa):zaa.cells (zaa.fn f a b)=[.fn f a b]:=rfl
@[simp] theorem zPW (f:Fn) (a b:List zaa):zaa.okV (zaa.fn f a b)=true:=rfl
@[simp] theorem zKB (cs:List zaa) (o:Nat):zaa.cells (zaa.vptr cs o)=[.vptr cs o]:=rfl
@[simp] theorem zNN (cs:List zaa) (o:Nat):zaa.okV (zaa.vptr cs o)=true:=rfl
@[simp] theorem zNO (n i off sz len:Nat) (cap:Option Nat):zaa.cells (sA n i off sz len cap:zaa)=[sA n i off sz len cap]:=rfl
@[simp] theorem zPX (n i off sz len:Nat) (cap:Option Nat):zaa.okV (sA n i off sz len cap:zaa)=true:=rfl
@[simp] theorem zNP (n i off:Nat):zaa.cells (pA n i off:zaa)=[pA n i off]:=rfl
@[simp] theorem zPY (n i off:Nat):zaa.okV (pA n i off:zaa)=true:=rfl
@[simp] theorem zNQ (n i:Nat) (es:List (List zaa)):zaa.cells (gA n i es:zaa)=[gA n i es]:=rfl
@[simp] theorem zPZ (n i:Nat) (es:List (List zaa)):zaa.okV (gA n i es:zaa)=true:=rfl
@[simp] theorem zDo (cs:List zaa):zaa.cells (zaa.agg cs)=cs:=rfl
@[simp] theorem zI5 (cs:List zaa):zaa.okV (zaa.agg cs)=true:=rfl
theorem ztX (k:IntKind):∀ (n:Nat) (l m:List Int),l.length=n→m.length=n→zbm (zaS .i n) (cI k l) (cI k m)=some (l==m)
  | 0,[],[],_,_=>by simp [zaS,cI,zbm]
  | n + 1, x :: l, y :: m, h1, h2 => by
    have:=ztX k n l m (by simpa using h1) (by simpa using h2)
    simp only [cI] at this
    simp only [zaS,cI,List.map_cons,zbm,zr1,bind,if_true,Option.bind_some,this]
    congr 1
theorem zMf (k:IntKind) (n:Nat) (l m:List Int) (h1:(l.length==n)=true) (h2:(m.length==n)=true):eqA (.agg (zaS .i n)) (.agg (cI k l)) (.agg (cI k m))=some (l==m):=by
  rw [zJ2];exact ztX k n l m (by simpa using h1) (by simpa using h2)
def byA (l:List Int):ByteArray:=⟨(l.map fun n=>UInt8.ofNat n.toNat).toArray⟩
theorem zwI : ∀ l : List Int, zi1 (eI .u8 l) = some (l.map fun n => UInt8.ofNat n.toNat)
  | []=>rfl
  | x :: l => by
    have:=zwI l
    simp only [eI] at this
    simp only [eI,List.map_cons,zi1,this,bind,Option.bind_some]
def zNU (h:zab) (x:zaa):Option zaa:=(zaA h 1 x).bind fun es=>(zi1 es).map fun bs=>.str ⟨bs.toArray⟩
@[simp] theorem zNV (C:Ctx) (fr:Fr) (h:zab) (x:AO):zzz C fr h (.b2s x)=zNU h (C.ev fr x):=by
  simp only [zzz,zNU,bind]
  congr 1
  funext es
  cases zi1 es <;> rfl
@[simp] theorem zNW (h:zab) (c:Bool) (l:List Int):zNU h (.vsl c (eI .u8 l))=some (.str (byA l)):=by
  simp [zNU,zaA,zwI,byA]
def zMk:zaa→Option zaa
  | .sl b off sz n c=>some (.sl b off sz n c)
  | _=>none
@[simp] theorem zMm (C:Ctx) (fr:Fr) (h:zab) (x:AO):zzz C fr h (.mark x)=zMk (C.ev fr x):=by
  simp only [zzz]
  cases C.ev fr x <;> rfl
@[simp] theorem zNZ (n i off sz len:Nat) (cap:Option Nat):zMk (sA n i off sz len cap)=some (sA n i off sz len cap):=rfl
def zGo (h:zab) (sz len:Nat) (cs:Option (List zaa)):Option (zaa × zab):=cs.map fun cs=>(.sl h.blks.length 0 sz len (some len),push h cs)
@[simp] theorem zMn (C:Ctx) (L:Lim) (fr:Fr) (h:zab) (sz len:Nat) (z:List zaa) (ps:List (Nat × AO)):
    zh5 C L fr h (.slit sz len z ps)=zGo h sz len (zay (rep z len) (ps.map fun p=>(p.1*sz,sz,C.ev fr p.2))):=by
  simp only [zh5,zGo]
  cases zay (rep z len) (ps.map fun p=>(p.1*sz,sz,C.ev fr p.2)) <;> rfl
@[simp] theorem zKE (h:zab) (bs:List (List zaa)) (ts:List Nat) (sz len:Nat) (cs:List zaa):zGo (hx h bs ts) sz len (some cs)=some (sA h.blks.length bs.length 0 sz len (some len),hx h (bs++[cs]) ts):=by
  simp [zGo,sA,hx,push]
end Go.Av
