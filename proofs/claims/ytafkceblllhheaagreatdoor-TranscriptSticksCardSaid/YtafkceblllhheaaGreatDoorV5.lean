/- How a law's arguments are read, and equations by which the machine's runs are reckoned. -/
import Derived.Test.YtafkceblllhheaaGreatDoorV4
import Derived.Carry
import Derived.OpenShut
import Derived.MapKept
set_option linter.unusedSimpArgs false
set_option linter.unusedVariables false
namespace Go.Av
open Go.RowKit
inductive Ty where
  | bool | int (k:IntKind) | str | sl (e:List Ty)
mutual
inductive zmK:Ty→zaa→Prop
  | bool (b:Bool):zmK .bool (.bool b)
  | int (k:IntKind) (n:Int) (h:(Lit.int k n).wf=true):zmK (.int k) (.int k n)
  | str (x:ByteArray) (h:x.size≤maxLen):zmK .str (.str x)
  | sl (ts:List Ty) (es:List (List zaa)) (hl:es.length≤maxLen) (h:zhA ts es):zmK (.sl ts) (.vsl false es)
inductive zdu:List Ty→List zaa→Prop
  | nil:zdu [] []
  | cons (t:Ty) (ts:List Ty) (c:zaa) (cs:List zaa) (h:zmK t c) (ht:zdu ts cs):zdu (t :: ts) (c :: cs)
inductive zhA:List Ty→List (List zaa)→Prop
  | nil (ts:List Ty):zhA ts []
  | cons (ts:List Ty) (e:List zaa) (es:List (List zaa)) (h:zdu ts e) (ht:zhA ts es):zhA ts (e :: es)
end
theorem zmK.cell {t:Ty} {c:zaa} (h:zmK t c):c.isCell=true:=by cases h <;> rfl
theorem zdu.cell:∀ {ts:List Ty} {cs:List zaa},zdu ts cs→∀ c∈cs,c.isCell=true
  | _,_,.nil=>by simp
  | _, _, .cons t ts c cs h ht => fun x hx => by
    rcases List.mem_cons.1 hx with rfl | hx
    · exact h.cell
    · exact ht.cell x hx
theorem zdu.length:∀ {ts:List Ty} {cs:List zaa},zdu ts cs→cs.length=ts.length
  | _,_,.nil=>rfl
  | _,_,.cons t ts c cs h ht=>by simp [ht.length]
theorem zdu.append:∀ {ts us:List Ty} {cs ds:List zaa},zdu ts cs→zdu us ds→zdu (ts++us) (cs++ds)
  | _,_,_,_,.nil,h=>h
  | _,_,_,_,.cons t ts c cs h ht,h'=>.cons t _ c _ h (ht.append h')
def shF (P:Program) (rec:TypeId→Option (List Ty)) (z:Nat):Nat→List Field→Option (List Ty)
  | o,[]=>if o=z then some [] else none
  | o, f :: fs => if f.offset = o then
      match rec f.type with
      | some l=>if l.length=P.cellsOf f.type then (shF P rec z (o+P.cellsOf f.type) fs).map (l++·) else none
      | none=>none
    else none
def shT (P:Program):Nat→TypeId→Option (List Ty)
  | 0,_=>none
  | d + 1, t => match P.underlying t with
    | some .bool=>some [.bool]
    | some (.int k)=>some [.int k]
    | some .string=>some [.str]
    | some (.slice e) => match shT P d e with
      | some l=>if l.length=P.cellsOf e∧0 < l.length then some [.sl l] else none
      | none=>none
    | some (.struct fs)=>shF P (shT P d) (P.cellsOf t) 0 fs.toList
    | some (.array n e) => match shT P d e with
      | some l=>if P.cellsOf t=n*P.cellsOf e∧l.length=P.cellsOf e then some (zHi l n) else none
      | none=>none
    | _=>none
def st0 (W:World):St:=⟨W,⟨[],[]⟩,[],[],0,0⟩
theorem zO0 (W:World) (X o:Nat):Imm (st0 W) X o:=⟨fun b _ h=>by simp [st0] at h,fun t sz n _ h=>by simp [st0] at h⟩
section
variable {H:Type} {enc:TypeId × Value→H} {P:Program} {W:World} {base:Nat} {spare:Nat→Bool} {held:Bool}
theorem zEw {X o:Nat} {avs:List zaa} {cs:List Value} (hr:zbz (st0 W) avs cs) (hk:∀ c∈avs,c.isCell=true) (hc:∀ (i:Nat) v,cs[i]?=some v→World.at W X (o+i)=some v):zeT (st0 W) X o avs:=by
  refine zeT.of_get fun i c hi=>?_
  obtain ⟨v,hv,hrep⟩:=hr.get i c hi
  exact ⟨v,hc i v hv,zO0 W _ _,hk c (List.mem_of_getElem? hi),hrep⟩
theorem zKv (a:Addr) (k:Nat):(a.add k).block=a.block∧(a.add k).off=a.off+k:=by
  unfold Addr.add
  split <;> simp_all
theorem zBl {a:Addr} {n:Nat} {cs:List Value} (h:W.cells? base a n=some cs) (hn:0 < n):a.spot=none∧cs.length=n∧∀ (i:Nat) v,cs[i]?=some v→World.at W a.block (a.off+i)=some v:=by
  unfold World.cells? at h
  split at h
  · have hlen : cs.length = n := by simpa using mapM_some_length h
    have key:∀ i:Nat,i < n→W.cell? (a.add i)=cs[i]?:=fun i hi=>mapM_some_get h i i (by simp [hi])
    have hs:a.spot=none:=by
      have h0:=key 0 hn
      rw [List.getElem?_eq_getElem (by omega)] at h0
      unfold World.cell? at h0
      split at h0
      · split at h0
        · simp at h0
        · rename_i hsp
          simpa [Addr.add] using hsp
      · simp at h0
    refine ⟨hs,hlen,fun i v hi=>?_⟩
    have hlt:=(List.getElem?_eq_some_iff.1 hi).1
    have:=key i (by omega)
    rw [hi] at this
    unfold World.at
    rw [← this]
    congr 1
    simp [Addr.add,hs]
    intro h0
    subst h0
    cases a
    simp at hs
    subst hs
    rfl
  · simp at h
def sEq (W:World) (tys:List Ty) (cs:List Value):Prop:=∃ avs,zdu tys avs∧zbz (st0 W) avs cs
theorem sEq.append {t u:List Ty} {a b:List Value} (h:sEq W t a) (k:sEq W u b):sEq W (t++u) (a++b):=by
  obtain ⟨x,h1,h2⟩:=h
  obtain ⟨y,k1,k2⟩:=k
  exact ⟨x++y,h1.append k1,h2.append k2⟩
theorem zhA.of_all {ts:List Ty}:∀ {es:List (List zaa)},(∀ e∈es,zdu ts e)→zhA ts es
  | [],_=>.nil ts
  | e :: es,h=>.cons ts e es (h e (by simp)) (zhA.of_all fun x hx=>h x (by simp [hx]))
theorem zzM {n:Nat} {cs:List Value} {rec:TypeId→Option (List Ty)} {z:Nat} (hz:cs.length=z)
    (ih:∀ (t:TypeId) (tys:List Ty) (cs':List Value),rec t=some tys→(∃ x,DataW.trod enc P W base spare held n t cs'=some x)→sEq W tys cs'):
    ∀ (fs:List Field) (o:Nat) (tys:List Ty),shF P rec z o fs=some tys→(∀ f∈fs,∃ x,DataW.trod enc P W base spare held n f.type ((cs.drop f.offset).take (P.cellsOf f.type))=some x)→
      sEq W tys (cs.drop o)
  | [], o, tys, h, _ => by
    simp only [shF] at h
    split at h
    · rename_i ho
      obtain rfl:=Option.some.inj h
      rw [List.drop_eq_nil_of_le (by omega)]
      exact ⟨[],.nil,.nil⟩
    · simp at h
  | f :: fs, o, tys, h, hf => by
    simp only [shF] at h
    split at h
    · rename_i ho
      split at h
      · rename_i l hl
        split at h
        · obtain ⟨r,hr,rfl⟩:=map_some h
          have h1:=ih f.type l _ hl (hf f (by simp))
          rw [ho] at h1
          have h2:=zzM hz ih fs _ r hr fun g hg=>hf g (by simp [hg])
          have:=h1.append h2
          rwa [← List.drop_drop,List.take_append_drop] at this
        · simp at h
      · simp at h
    · simp at h
theorem zzN {n sz:Nat} {cs:List Value} {l:List Ty} (hz:cs.length=n*sz) (hi:∀ i,i < n→sEq W l ((cs.drop (i*sz)).take sz)):∀ k,k≤n→sEq W (zHi l k) (cs.drop ((n - k)*sz))
  | 0, _ => by
    rw [Nat.sub_zero,List.drop_eq_nil_of_le (by omega)]
    exact ⟨[],.nil,.nil⟩
  | k + 1, hk => by
    have h1:=hi (n - (k+1)) (by omega)
    have h2:=zzN hz hi k (by omega)
    have:=h1.append h2
    have e:(n - k)*sz=(n - (k+1))*sz+sz:=by
      rw [← Nat.succ_mul];congr 1;omega
    rwa [e,← List.drop_drop,List.take_append_drop] at this
theorem zmd:∀ (d:Nat) {t:TypeId} {tys:List Ty} {fuel:Nat} {cs:List Value} {x:DataW H × List MemPlace},shT P d t=some tys→
    DataW.trod enc P W base spare held fuel t cs=some x→sEq W tys cs
  | 0,t,tys,fuel,cs,x,hs,h=>by simp [shT] at hs
  | d + 1, t, tys, fuel, cs, x, hs, h => by
    simp only [shT] at hs
    split at hs
    · rename_i hu
      obtain rfl:=Option.some.inj hs
      cases fuel with
      | zero=>simp [DataW.trod] at h
      | succ n=>
        unfold DataW.trod at h
        rw [hu] at h
        split at h <;> simp_all
        exact ⟨_,.cons _ _ _ _ (.bool _) .nil,.cons _ _ _ _ (.bool _) .nil⟩
    · rename_i k hu
      obtain rfl:=Option.some.inj hs
      cases fuel with
      | zero=>simp [DataW.trod] at h
      | succ n=>
        unfold DataW.trod at h
        rw [hu] at h
        split at h <;> simp_all
        obtain ⟨⟨rfl,hw⟩,_⟩:=h
        exact ⟨_,.cons _ _ _ _ (.int _ _ hw) .nil,.cons _ _ _ _ (.int _ _) .nil⟩
    · rename_i hu
      obtain rfl:=Option.some.inj hs
      cases fuel with
      | zero=>simp [DataW.trod] at h
      | succ n=>
        unfold DataW.trod at h
        rw [hu] at h
        split at h <;> simp_all
        exact ⟨_,.cons _ _ _ _ (.str _ h.1) .nil,.cons _ _ _ _ (.str _) .nil⟩
    · rename_i e hu
      split at hs
      · rename_i l hl
        split at hs
        · rename_i hlen
          obtain rfl:=Option.some.inj hs
          rcases DataW.trod_slice hu h with ⟨rfl,_⟩ | ⟨a,len,cap,elems,rest,n,rfl,rfl,_,hb,hlc,hcm,hel,hget,_⟩
          · exact ⟨[.vsl false []],.cons _ _ _ _ (.sl l [] (by simp) (.nil l)) .nil,.cons _ _ _ _ (.vsl0 false none 0 (by simp) (fun _=>rfl)) .nil⟩
          · subst hel
            have key : ∀ i : Nat, i < elems.length → (a.add (i * P.cellsOf e)).spot = none ∧ ∃ x : List zaa, zdu l x ∧ zeT (st0 W) a.block (a.off + i * P.cellsOf e) x := fun i hi => by
              have h1:=hget i hi
              rw [List.getElem?_eq_getElem hi] at h1
              obtain ⟨cs',h2,h3⟩:=Option.bind_eq_some_iff.1 h1
              obtain ⟨avs,g1,g2⟩:=zmd d hl h3
              obtain ⟨k1,k2,k3⟩:=zBl h2 (by omega)
              obtain ⟨b1,b2⟩:=zKv a (i*P.cellsOf e)
              refine ⟨k1,avs,g1,zEw g2 g1.cell fun j v hj=>?_⟩
              have:=k3 j v hj
              rw [b1,b2] at this
              exact this
            by_cases h0:elems.length=0
            · rw [h0]
              exact ⟨[.vsl false []],.cons _ _ _ _ (.sl l [] (by simp) (.nil l)) .nil,.cons _ _ _ _ (.vsl0 false (some a) cap (by simp) (by simp)) .nil⟩
            · let f : Nat → List zaa := fun i => if h : i < elems.length then (key i h).2.choose else []
              have hf : ∀ i, i < elems.length → zdu l (f i) ∧ zeT (st0 W) a.block (a.off + i * P.cellsOf e) (f i) := fun i hi => by
                simp only [f,dif_pos hi]
                exact (key i hi).2.choose_spec
              have hsp:=(key 0 (by omega)).1
              rw [Nat.zero_mul] at hsp
              replace hsp:a.spot=none:=by simpa [Addr.add] using hsp
              obtain ⟨X,o,sp⟩:=a
              simp only [] at hsp
              subst hsp
              refine ⟨[.vsl false ((List.range elems.length).map f)],.cons _ _ _ _ (.sl l _ (by simp;omega) (.of_all fun y he=>?_)) .nil,.cons _ _ _ _ (.vsl false _ X o (P.cellsOf e) cap elems.length (zg5.of_get fun i y he=>?_) (by simp) hlc (by simp)) .nil⟩
              · obtain ⟨i,hi,rfl⟩:=List.mem_map.1 he
                exact (hf i (by simpa using hi)).1
              · have hi : i < elems.length := by have := (List.getElem?_eq_some_iff.1 he).1; simpa using this
                rw [List.getElem?_map,List.getElem?_range hi] at he
                obtain rfl:=Option.some.inj he
                exact ⟨by rw [(hf i hi).1.length];exact hlen.1,(hf i hi).2⟩
        · simp at hs
      · simp at hs
    · rename_i fs hu
      obtain ⟨xs,n,rfl,_,hl,hlen,hf⟩:=DataW.trod_struct hu h
      have := zzM (enc := enc) (base := base) (spare := spare) (held := held) (n := n) hl (fun t tys cs' h1 ⟨x, h2⟩ => zmd d h1 h2) fs.toList 0 tys hs fun f hfm => by
        obtain ⟨i,hi⟩:=List.mem_iff_getElem?.1 hfm
        have hi':fs[i]?=some f:=by simpa using hi
        have hlt:=(Array.getElem?_eq_some_iff.1 hi').1
        exact ⟨_,(hf i f hi').trans (List.getElem?_eq_getElem (by omega))⟩
      simpa using this
    · rename_i n e hu
      split at hs
      · rename_i l hl
        split at hs
        · rename_i hz
          obtain rfl:=Option.some.inj hs
          obtain ⟨xs,m,rfl,_,hlc,hlen,hget⟩:=DataW.trod_array hu h
          have:=zzN (W:=W) (n:=n) (sz:=P.cellsOf e) (cs:=cs) (l:=l) (by rw [hlc];exact hz.1) (fun i hi=>zmd d hl ((hget i hi).trans (List.getElem?_eq_getElem (by omega)))) n (Nat.le_refl _)
          simpa using this
        · simp at hs
      · simp at hs
    · simp at hs
theorem zGE {d:Nat} {t:TypeId} {tys:List Ty} {v:Value} {dd:DataW H} {ps:List MemPlace} (hs:shT P d t=some tys) (hok:Value.okWide P W .any base t v) (h:DataW.Trod enc P W 0 spare held t v dd ps):
    (∃ avs,zdu tys avs∧Rep (st0 W) (.agg avs) v∧∃ cs,v=.agg cs)∨(∃ ty c,tys=[ty]∧zmK ty c∧Rep (st0 W) c v∧∀ cs,v≠.agg cs):=by
  obtain ⟨fuel,h⟩:=h
  obtain ⟨avs,h1,h2⟩:=zmd d hs h
  by_cases hv:∃ cs,v=.agg cs
  · obtain ⟨cs,rfl⟩:=hv
    exact .inl ⟨avs,h1,.agg avs cs (by simpa [Value.cells] using h2) h1.cell,cs,rfl⟩
  · right
    have e:v.cells=#[v]:=by
      cases v <;> first | rfl | exact (hv ⟨_,rfl⟩).elim
    rw [e] at h2
    cases h2 with
    | cons c _ cs _ hc ht=>
      cases ht
      cases h1 with
      | cons ty ts _ _ g1 g2=>
        cases g2
        exact ⟨ty,c,rfl,g1,hc,fun cs hcs=>hv ⟨cs,hcs⟩⟩
end
theorem zGF {C:Ctx} {P:Program} (hC:zw7 C P) {W:World} {f:FuncId} {F:AFn} {args:List zaa} {cargs:Array Value} {h':zab} (hF:C.fns f=some F)
    (hv:zae C ⟨0,0,0,0⟩ f args ⟨[],[]⟩=some (.bool true,h')) (hg:∀ g cs,C.glob g=some cs→zqM (st0 W) g cs) (hargs:zbz (st0 W) args cargs.toList):
    Calls P f cargs W fun e W'=>e=.returned (.bool true)∧Below W.heap.size W W':=by
  obtain ⟨⟨_,hc⟩,_⟩:=zGy hC hv
  have hsim:Sim C (st0 W):=⟨rfl,rfl,fun b X cs hb=>by simp [st0] at hb,fun b b' X hb=>by simp [st0] at hb,fun t t' X z z' ht=>by simp [st0] at ht,fun b t X z hb=>by simp [st0] at hb,fun t X z ht=>by simp [st0] at ht,hg⟩
  obtain ⟨nx,w',h1,h2⟩:=hc (st0 W) cargs rfl hsim ⟨Nat.le_refl _,Nat.le_refl _,Nat.le_refl _,Nat.le_refl _⟩ hargs
  obtain ⟨fn,fl,g1,g2,g3⟩:=hC.fns f F hF
  have hb:∃ x,fn.body=some x:=by
    unfold cfn at g2
    cases hx:fn.body with
    | some x=>exact ⟨x,rfl⟩
    | none=>rw [hx] at g2;simp at g2
  obtain ⟨x,hx⟩:=hb
  have he:=zw8 g1 hx g3 cargs W
  have h1':(callFunc f cargs).run P W=.ok nx w':=h1
  rw [he] at h1'
  injection h1' with e1 e2
  subst e1 e2
  rcases h2 with ⟨cv,h3 | h3,_⟩ | ⟨f',args',h3,h4⟩
  · simp at h3
  · simp at h3
  · injection h3 with e1 e2
    subst e1 e2
    refine h4.mono fun e W' hgd=>?_
    cases e with
    | returned cv=>
      obtain ⟨s',rfl,_,_,hle,hrep⟩:=hgd
      cases hrep
      have hk:=hle.kept
      exact ⟨rfl, hk.os, hk.tape, hk.out, hk.size, fun k hlt => hk.heap k hlt fun ht => by
        rcases ht with ⟨b,hb⟩ | ⟨t,z,hz⟩
        · simp [st0] at hb
        · simp [st0] at hz⟩
    | panicked _=>exact hgd.elim
    | outgrown=>exact hgd.elim
end Go.Av
namespace Go.Av
abbrev iv (d:Nat) (o:VOp):AI:=⟨some d,.v o,none,[],0,0⟩
abbrev ir (d:Nat) (o:ROp):AI:=⟨some d,.r o,none,[],0,0⟩
abbrev ic (d:Nat) (o:COp):AI:=⟨some d,.c o,none,[],0,0⟩
abbrev jc (o:COp):AI:=⟨none,.c o,none,[],0,0⟩
def zaS {α:Type} (x:α):Nat→List α
  | 0=>[]
  | n+1=>x :: zaS x n
def ifK {α:Type} (b:Bool) (x y:α):α:=if b=true then x else y
@[simp] theorem zMT {α:Type} (x y:α):ifK true x y=x:=rfl
@[simp] theorem zLi {α:Type} (x y:α):ifK false x y=y:=rfl
noncomputable section
variable (C:Ctx) (L:Lim) (fr:Fr) (h:zab)
def zH8 (r:Option (AEx × Fr × zab)) (b:AC):Option (AEx × Fr × zab):=
  r.bind fun r => match r.1 with
    | .normal=>run C L b r.2.1 r.2.2
    | _=>some r
@[simp] theorem zLj (b:AC):zH8 C L none b=none:=rfl
@[simp] theorem zH9 (b:AC):zH8 C L (some (.normal,fr,h)) b=run C L b fr h:=rfl
@[simp] theorem zLk (b:AC) (i:Nat):zH8 C L (some (.exit i,fr,h)) b=some (.exit i,fr,h):=rfl
@[simp] theorem zLl (b:AC) (i:Nat):zH8 C L (some (.goto i,fr,h)) b=some (.goto i,fr,h):=rfl
@[simp] theorem zMV (b:AC):zH8 C L (some (.ret,fr,h)) b=some (.ret,fr,h):=rfl
@[simp] theorem zMW:run C L .skip fr h=some (.normal,fr,h):=by rw [run.eq_def]
@[simp] theorem zMY (i:Nat):run C L (.exit i) fr h=some (.exit i,fr,h):=by rw [run.eq_def]
@[simp] theorem zOl:run C L .ret fr h=some (.ret,fr,h):=by rw [run.eq_def]
@[simp] theorem zMZ (a b:AC):run C L (.seq a b) fr h=zH8 C L (run C L a fr h) b:=by rw [run.eq_def];rfl
def zLm (id:Nat) (r:Option (AEx × Fr × zab)):Option (AEx × Fr × zab):=r.map fun r=>if r.1=.exit id then (.normal,r.2) else r
@[simp] theorem zLo (id:Nat):zLm id none=none:=rfl
@[simp] theorem zLp (id:Nat) (e:AEx):zLm id (some (e,fr,h))=some (if e=.exit id then .normal else e,fr,h):=by
  unfold zLm;simp only [Option.map_some];split <;> simp_all
@[simp] theorem zM1 (id:Nat) (a:AC):run C L (.blk id a) fr h=zLm id (run C L a fr h):=by
  rw [run.eq_def]
  simp only [zLm]
  cases run C L a fr h with
  | none=>rfl
  | some r=>simp only [bind,Option.bind_some,Option.map_some];split <;> rfl
def zCe:zaa→Option Bool
  | .bool b=>some b
  | _=>none
@[simp] theorem zIa (b:Bool):zCe (.bool b)=some b:=rfl
def zFa (b:Bool) (x y:AC):Option (AEx × Fr × zab):=if b=true then run C L x fr h else run C L y fr h
@[simp] theorem zJW (x y:AC):zFa C L fr h true x y=run C L x fr h:=rfl
@[simp] theorem zIc (x y:AC):zFa C L fr h false x y=run C L y fr h:=rfl
def zLq (c:Option Bool) (x y:AC):Option (AEx × Fr × zab):=c.bind fun c=>zFa C L fr h c x y
@[simp] theorem zJX (b:Bool) (x y:AC):zLq C L fr h (some b) x y=zFa C L fr h b x y:=rfl
@[simp] theorem zLs (c:AO) (a b:AC):run C L (.cond c a b) fr h=zLq C L fr h (zCe (C.ev fr c)) a b:=by
  rw [run.eq_def]
  simp only
  generalize C.ev fr c=v
  cases v <;> first | rfl | (rename_i b;cases b <;> rfl)
theorem zrK (a:AC):run C L (.loop a) fr h=zH8 C L (run C L a fr h) (.loop a):=by
  rw [run.eq_def]
  rfl
def zPz (r:Option (Fr × zab)):Option (AEx × Fr × zab):=r.map fun r=>(.normal,r.1,r.2)
@[simp] theorem zLS:zPz (some (fr,h))=some (.normal,fr,h):=rfl
@[simp] theorem zNo (ops:List AI):run C L (.reg ops) fr h=zPz (zpg C L ops fr h):=by
  rw [run.eq_def];simp only;cases zpg C L ops fr h <;> rfl
@[simp] theorem zLT:zpg C L [] fr h=some (fr,h):=by rw [zpg.eq_def]
theorem zje (i : AI) (rest : List AI) : zpg C L (i :: rest) fr h = if zbl fr i.grd = true then (step1 C L i.op fr h).bind fun r => zpg C L rest (put fr i.dst r.1) r.2 else zpg C L rest (put fr i.dst zaP) h := by
  rw [zpg.eq_def];rfl
def opV (d:Option Nat) (rest:List AI) (r:Option zaa):Option (Fr × zab):=r.bind fun v=>zpg C L rest (put fr d v) h
@[simp] theorem zNp (d:Option Nat) (rest:List AI) (v:zaa):opV C L fr h d rest (some v)=zpg C L rest (put fr d v) h:=rfl
def opC (d:Option Nat) (rest:List AI) (r:Option (zaa × zab)):Option (Fr × zab):=r.bind fun r=>zpg C L rest (put fr d r.1) r.2
@[simp] theorem zNq (d:Option Nat) (rest:List AI) (v:zaa):opC C L fr d rest (some (v,h))=zpg C L rest (put fr d v) h:=rfl
@[simp] theorem zPA (d:Option Nat) (o:VOp) (rest:List AI) (u:List Nat) (x y:Nat):zpg C L (⟨d,.v o,none,u,x,y⟩ :: rest) fr h=opV C L fr h d rest (zb1 C fr o):=by
  rw [zje,step1.eq_def]
  simp only [zbl,if_true]
  cases zb1 C fr o <;> rfl
@[simp] theorem zPB (d:Option Nat) (o:ROp) (rest:List AI) (u:List Nat) (x y:Nat):zpg C L (⟨d,.r o,none,u,x,y⟩ :: rest) fr h=opV C L fr h d rest (zjB C L o fr h):=by
  rw [zje,step1.eq_def]
  simp only [zbl,if_true]
  cases zjB C L o fr h <;> rfl
@[simp] theorem zPC (d:Option Nat) (o:COp) (rest:List AI) (u:List Nat) (x y:Nat):zpg C L (⟨d,.c o,none,u,x,y⟩ :: rest) fr h=opC C L fr d rest (zfU C L o fr h):=by
  rw [zje,step1.eq_def]
  simp only [zbl,if_true]
  rfl
def zFK (v:zaa) (b:Bool):Bool:=match v with | .bool c=>c==b | _=>false
@[simp] theorem zLU (c:Bool):zFK (.bool c) true=c:=by cases c <;> rfl
@[simp] theorem zKa (c:Bool):zFK (.bool c) false=!c:=by cases c <;> rfl
def zNr (g:Bool) (d:Option Nat) (o:AOp) (rest:List AI):Option (Fr × zab):=if g=true then zpg C L (⟨d,o,none,[],0,0⟩ :: rest) fr h else zpg C L rest (put fr d zaP) h
@[simp] theorem zLV (d:Option Nat) (o:AOp) (rest:List AI):zNr C L fr h true d o rest=zpg C L (⟨d,o,none,[],0,0⟩ :: rest) fr h:=rfl
@[simp] theorem zKb (d:Option Nat) (o:AOp) (rest:List AI):zNr C L fr h false d o rest=zpg C L rest (put fr d zaP) h:=rfl
@[simp] theorem zPD (d:Option Nat) (o:AOp) (t:Nat) (b:Bool) (rest:List AI) (u:List Nat) (x y:Nat):zpg C L (⟨d,o,some (t,b),u,x,y⟩ :: rest) fr h=
    zNr C L fr h (zFK (fr t) b) d o rest:=by
  unfold zNr
  rw [zje,zje]
  simp only [zbl,if_true,zFK]
  rfl
@[simp] theorem zNs (n:Nat) (g:Bool) (x:AO):zjB C L (.ld n g x) fr h=zkO h (C.ev fr x) n g:=by rw [zjB.eq_def];rfl
@[simp] theorem zLW (x:AO):zjB C L (.b2s x) fr h=zyH C fr h (.b2s x):=by rw [zjB.eq_def]
@[simp] theorem zKc (x:AO):zjB C L (.mark x) fr h=zyH C fr h (.mark x):=by rw [zjB.eq_def]
def zIL (q:Bool) (r:Option (zaa × zab)):Option zaa:=if q=true then r.map (·.1) else none
@[simp] theorem zLX (v:zaa):zIL true (some (v,h))=some v:=rfl
@[simp] theorem zKd (f:FuncId) (as:List AO):zjB C L (.call f as) fr h=zIL (zac C f) (zae C L f (as.map (C.ev fr)) h):=by
  rw [zjB.eq_def];simp only [zIL];split
  · cases zae C L f (as.map (C.ev fr)) h <;> rfl
  · rfl
@[simp] theorem zKe (f:FuncId) (as:List AO):zfU C L (.call f as) fr h=zae C L f (as.map (C.ev fr)) h:=by rw [zfU.eq_def]
def zHe (x:zaa) (as:List zaa):Option (zaa × zab):=match x with
  | .fn (.func f) a b=>zae C L f (a++as++b) h
  | _=>none
@[simp] theorem zLY (f:FuncId) (a b as:List zaa):zHe C L h (.fn (.func f) a b) as=zae C L f (a++as++b) h:=rfl
@[simp] theorem zIM (x:AO) (as:List AO):zfU C L (.callv x as) fr h=zHe C L h (C.ev fr x) (as.map (C.ev fr)):=by
  rw [zfU.eq_def];rfl
@[simp] theorem zIN (z:List zaa):zfU C L (.alloc z) fr h=zhG C L fr h (.alloc z):=by rw [zfU.eq_def]
@[simp] theorem zLZ (x:AO):zfU C L (.box x) fr h=zhG C L fr h (.box x):=by rw [zfU.eq_def]
@[simp] theorem zKf (a b:Nat) (z:List zaa) (p:List (Nat × AO)):zfU C L (.slit a b z p) fr h=zhG C L fr h (.slit a b z p):=by rw [zfU.eq_def]
@[simp] theorem zNt (a:Nat) (z:List zaa) (x:AO):zfU C L (.mk a z x) fr h=zhG C L fr h (.mk a z x):=by rw [zfU.eq_def]
@[simp] theorem zNu (n:Nat) (x y:AO):zfU C L (.st n x y) fr h=zhG C L fr h (.st n x y):=by rw [zfU.eq_def]
@[simp] theorem zL0 (n:Nat) (r:Bool) (x y:AO):zfU C L (.app n r x y) fr h=zhG C L fr h (.app n r x y):=by rw [zfU.eq_def]
@[simp] theorem zKg (n:Nat) (x y:AO):zfU C L (.copy n x y) fr h=zhG C L fr h (.copy n x y):=by rw [zfU.eq_def]
@[simp] theorem zIQ (z:List zaa) (x:AO):zfU C L (.clear z x) fr h=zhG C L fr h (.clear z x):=by rw [zfU.eq_def]
@[simp] theorem zPK (n:Nat):C.ev fr (.t n)=fr n:=rfl
@[simp] theorem zPL (v:zaa):C.ev fr (.k v)=v:=rfl
@[simp] theorem zNv (d:Nat) (v:zaa):put fr (some d) v=upd fr d v:=rfl
@[simp] theorem zNw (v:zaa):put fr none v=fr:=rfl
@[simp] theorem zNx (u:List Nat) (i:Nat):ziK u fr i=ifK (u.contains i) (fr i) zaP:=rfl
def zAH (v:zaa) (r:Option (Fr × List zab × List zaa)):Option (Fr × List zab × List zaa):=r.map fun q=>(q.1,q.2.1,v :: q.2.2)
def zDf (h:zab) (v:zaa) (r:Option (Fr × List zab × List zaa)):Option (Fr × List zab × List zaa):=r.map fun q=>(q.1,h :: q.2.1,v :: q.2.2)
@[simp] theorem zKh (v:zaa) (fr:Fr) (hs:List zab) (vs:List zaa):zAH v (some (fr,hs,vs))=some (fr,hs,v :: vs):=rfl
@[simp] theorem zKi (h:zab) (v:zaa) (fr:Fr) (hs:List zab) (vs:List zaa):zDf h v (some (fr,hs,vs))=some (fr,h :: hs,v :: vs):=rfl
def zFT (u:Option Unit):Option (AEx × Fr × zab):=u.map fun _=>(.normal,fr,h)
@[simp] theorem zKj:zFT fr h (some ())=some (.normal,fr,h):=rfl
def zIR (ops:List AI) (r:Option (Fr × List zab × List zaa)):Option (AEx × Fr × zab):=
  r.bind fun r=>zFT r.1 (r.2.1.getLastD h) (zpe C L ops r.2.2 fr (h :: r.2.1))
@[simp] theorem zKk (ops:List AI) (fr':Fr) (hs:List zab) (vs:List zaa):zIR C L fr h ops (some (fr',hs,vs))=zFT fr' (hs.getLastD h) (zpe C L ops vs fr (h :: hs)):=rfl
@[simp] theorem zL3 (ops:List AI):run C L (.draw ops) fr h=zIR C L fr h ops (zkE C L ops fr h):=by
  rw [run.eq_def]
  simp only [zIR,zFT]
  cases zkE C L ops fr h with
  | none=>rfl
  | some r=>simp only [bind,Option.bind_some];cases zpe C L ops r.2.2 fr (h :: r.2.1) <;> rfl
@[simp] theorem zKL:zkE C L [] fr h=some (fr,[],[]):=by rw [zkE.eq_def]
def dV (d:Option Nat) (rest:List AI) (r:Option zaa):Option (Fr × List zab × List zaa):=r.bind fun v=>zAH v (zkE C L rest (put fr d v) h)
@[simp] theorem zN4 (d:Option Nat) (rest:List AI) (v:zaa):dV C L fr h d rest (some v)=zAH v (zkE C L rest (put fr d v) h):=rfl
def dC (d:Option Nat) (rest:List AI) (r:Option (zaa × zab)):Option (Fr × List zab × List zaa):=r.bind fun r=>zDf r.2 r.1 (zkE C L rest (put fr d r.1) r.2)
@[simp] theorem zN5 (d:Option Nat) (rest:List AI) (v:zaa):dC C L fr d rest (some (v,h))=zDf h v (zkE C L rest (put fr d v) h):=rfl
@[simp] theorem zO1 (d:Option Nat) (o:VOp) (rest:List AI) (u:List Nat) (x y:Nat):zkE C L (⟨d,.v o,none,u,x,y⟩ :: rest) fr h=
    dV C L fr h d rest (zb1 C (ziK u fr) o):=by
  rw [zkE.eq_def]
  simp only [zbl,if_true]
  rw [step1.eq_def]
  simp only
  cases zb1 C (ziK u fr) o with
  | none=>rfl
  | some v=>simp only [bind,Option.bind_some,dV];cases zkE C L rest (put fr d v) h <;> rfl
@[simp] theorem zO2 (d:Option Nat) (o:ROp) (rest:List AI) (u:List Nat) (x y:Nat):zkE C L (⟨d,.r o,none,u,x,y⟩ :: rest) fr h=
    dV C L fr h d rest (zjB C L o (ziK u fr) h):=by
  rw [zkE.eq_def]
  simp only [zbl,if_true]
  rw [step1.eq_def]
  simp only
  cases zjB C L o (ziK u fr) h with
  | none=>rfl
  | some v=>simp only [bind,Option.bind_some,dV];cases zkE C L rest (put fr d v) h <;> rfl
@[simp] theorem zO4 (d:Option Nat) (o:COp) (rest:List AI) (u:List Nat) (x y:Nat):zkE C L (⟨d,.c o,none,u,x,y⟩ :: rest) fr h=
    dC C L fr d rest (zfU C L o (ziK u fr) h):=by
  rw [zkE.eq_def]
  simp only [zbl,if_true]
  rw [step1.eq_def]
  simp only
  cases zfU C L o (ziK u fr) h with
  | none=>rfl
  | some r=>simp only [bind,Option.bind_some,dC];cases zkE C L rest (put fr d r.1) r.2 <;> rfl
def zJK (g:Bool) (d:Option Nat) (o:AOp) (u:List Nat) (x y:Nat) (rest:List AI):Option (Fr × List zab × List zaa):=
  if g=true then zkE C L (⟨d,o,none,u,x,y⟩ :: rest) fr h else (if isC o=true then zDf h zaP (zkE C L rest (put fr d zaP) h) else zAH zaP (zkE C L rest (put fr d zaP) h))
@[simp] theorem zKO (d:Option Nat) (o:AOp) (u:List Nat) (x y:Nat) (rest:List AI):zJK C L fr h true d o u x y rest=zkE C L (⟨d,o,none,u,x,y⟩ :: rest) fr h:=rfl
@[simp] theorem zHP (d:Option Nat) (o:VOp) (u:List Nat) (x y:Nat) (rest:List AI):zJK C L fr h false d (.v o) u x y rest=zAH zaP (zkE C L rest (put fr d zaP) h):=rfl
@[simp] theorem zHQ (d:Option Nat) (o:ROp) (u:List Nat) (x y:Nat) (rest:List AI):zJK C L fr h false d (.r o) u x y rest=zAH zaP (zkE C L rest (put fr d zaP) h):=rfl
@[simp] theorem zHR (d:Option Nat) (o:COp) (u:List Nat) (x y:Nat) (rest:List AI):zJK C L fr h false d (.c o) u x y rest=zDf h zaP (zkE C L rest (put fr d zaP) h):=rfl
@[simp] theorem zO5 (d:Option Nat) (o:AOp) (t:Nat) (b:Bool) (rest:List AI) (u:List Nat) (x y:Nat):zkE C L (⟨d,o,some (t,b),u,x,y⟩ :: rest) fr h=
    zJK C L fr h (zFK (fr t) b) d o u x y rest:=by
  unfold zJK
  rw [zkE.eq_def]
  conv=>rhs;rw [zkE.eq_def]
  simp only [zbl,if_true]
  show (if zFK (fr t) b=true then _ else _)=(if zFK (fr t) b=true then _ else _)
  split
  · rfl
  · cases zkE C L rest (put fr d zaP) h with
    | none=>cases o <;> rfl
    | some q=>cases o <;> rfl
@[simp] theorem zKP (vs:List zaa) (hs:List zab):zpe C L [] vs fr hs=some ():=by rw [zpe.eq_def]
@[simp] theorem zO6 (d:Option Nat) (o:VOp) (g:Option (Nat × Bool)) (rest:List AI) (u:List Nat) (x y:Nat) (v:zaa) (vs:List zaa) (hs:List zab):
    zpe C L (⟨d,.v o,g,u,x,y⟩ :: rest) (v :: vs) fr hs=zpe C L rest vs (put fr d v) hs:=by rw [zpe.eq_def]
@[simp] theorem zO7 (d:Option Nat) (o:COp) (g:Option (Nat × Bool)) (rest:List AI) (u:List Nat) (x y:Nat) (v:zaa) (vs:List zaa) (hs:List zab):
    zpe C L (⟨d,.c o,g,u,x,y⟩ :: rest) (v :: vs) fr hs=zpe C L rest vs (put fr d v) hs:=by rw [zpe.eq_def]
def zN6 (rest:List AI) (vs:List zaa) (hs:List zab) (r:Option Unit):Option Unit:=r.bind fun _=>zpe C L rest vs fr hs
@[simp] theorem zKR (rest:List AI) (vs:List zaa) (hs:List zab):zN6 C L fr rest vs hs (some ())=zpe C L rest vs fr hs:=rfl
def zKS (g:Bool) (o:ROp) (u:List Nat) (x y:Nat) (d:Option Nat) (v:zaa) (rest:List AI) (vs:List zaa) (hs:List zab):Option Unit:=
  if g=true then zN6 C L (put fr d v) rest vs hs (zA2 C L o (ziK u fr) ((hs.take (y+1)).drop x) v) else zpe C L rest vs (put fr d v) hs
@[simp] theorem zKT (o:ROp) (u:List Nat) (x y:Nat) (d:Option Nat) (v:zaa) (rest:List AI) (vs:List zaa) (hs:List zab):
    zKS C L fr true o u x y d v rest vs hs=zN6 C L (put fr d v) rest vs hs (zA2 C L o (ziK u fr) ((hs.take (y+1)).drop x) v):=rfl
@[simp] theorem zJN (o:ROp) (u:List Nat) (x y:Nat) (d:Option Nat) (v:zaa) (rest:List AI) (vs:List zaa) (hs:List zab):
    zKS C L fr false o u x y d v rest vs hs=zpe C L rest vs (put fr d v) hs:=rfl
theorem zG0 (d:Option Nat) (o:ROp) (g:Option (Nat × Bool)) (rest:List AI) (u:List Nat) (x y:Nat) (v:zaa) (vs:List zaa) (hs:List zab):
    zpe C L (⟨d,.r o,g,u,x,y⟩ :: rest) (v :: vs) fr hs=zKS C L fr (zbl fr g&&decide (x < y)) o u x y d v rest vs hs:=by
  rw [zpe.eq_def];rfl
@[simp] theorem zOa (d:Option Nat) (o:ROp) (rest:List AI) (u:List Nat) (x y:Nat) (v:zaa) (vs:List zaa) (hs:List zab):
    zpe C L (⟨d,.r o,none,u,x,y⟩ :: rest) (v :: vs) fr hs=zKS C L fr (decide (x < y)) o u x y d v rest vs hs:=by
  rw [zG0];simp [zbl]
@[simp] theorem zOc (d:Option Nat) (o:ROp) (t:Nat) (b:Bool) (rest:List AI) (u:List Nat) (x y:Nat) (v:zaa) (vs:List zaa) (hs:List zab):
    zpe C L (⟨d,.r o,some (t,b),u,x,y⟩ :: rest) (v :: vs) fr hs=zKS C L fr (zFK (fr t) b&&decide (x < y)) o u x y d v rest vs hs:=by
  rw [zG0];rfl
@[simp] theorem zMK (o:ROp) (v:zaa):zA2 C L o fr [] v=some ():=by rw [zA2.eq_def]
open Classical in
def zOd (o:ROp) (hs:List zab) (v:zaa) (u:Option zaa):Option Unit:=u.bind fun u=>if u=v then zA2 C L o fr hs v else none
@[simp] theorem zKV (o:ROp) (hs:List zab) (v:zaa):zOd C L fr o hs v (some v)=zA2 C L o fr hs v:=by simp [zOd]
@[simp] theorem zKW (o:ROp) (v:zaa) (h:zab) (hs:List zab):zA2 C L o fr (h :: hs) v=zOd C L fr o hs v (zjB C L o fr h):=by rw [zA2.eq_def];rfl
theorem zE1 {f:FuncId} {F:AFn} (hx:C.ext f=none) (hf:C.fns f=some F) (hp:F.pre=none) (args:List zaa):zae C L f args h=
    (zjA (C.mode f) h args).bind fun a => (run C (zc0 (C.mode f) L h) F.code (fun i => a.1.getD i zaP) h).bind fun r =>
      if (r.1=.normal∨r.1=.ret)∧a.1.length≤F.n then
        (zqS r.2.1 r.2.2 F.res).bind fun vs=>(zsN (C.mode f) h r.2.2 (zxk vs)).bind fun o=>if (a.2&&!o.1.flat)=true then none else some o
      else none:=by
  rw [zae.eq_def]
  simp only [hx,hf,hp,bind,Option.bind_some,zsW]
theorem zv8 {f : FuncId} {g : zJ6} (hx : C.ext f = some g) (args : List zaa) : zae C L f args h = (g.pre L args h).bind fun q => match q with
    | .inl r=>some r
    | .inr q=>(zae C L q.1 q.2.1 q.2.2).bind fun r=>g.post args r.1 r.2:=by
  rw [zae.eq_def]
  simp only [hx,bind]
  congr 1
end
end Go.Av
namespace Go.Av
section
variable (C:Ctx) (fr:Fr)
theorem zIV (d:Nat) (v:zaa) (i:Nat):upd fr d v i=ifK (i==d) v (fr i):=by
  unfold upd ifK
  by_cases h:i=d
  · subst h;simp
  · simp [h]
attribute [simp] zIV
def zpP:zaa→Option zaa
  | .tup _=>none
  | .agg cs=>some (.vptr cs 0)
  | v=>some (.vptr [v] 0)
theorem zIU (x:AO):zb1 C fr (.boxv x)=zpP (C.ev fr x):=by
  simp only [zb1]
  cases C.ev fr x <;> simp [zpP,zaa.okV,zaa.cells]
theorem zL8 (x:AO):zb1 C fr (.mv x)=some (C.ev fr x):=by simp only [zb1]
def zIX (c:Option Bool) (a b:zaa):Option zaa:=c.map fun t=>ifK t a b
@[simp] theorem zKl (t:Bool) (a b:zaa):zIX (some t) a b=some (ifK t a b):=by unfold zIX;exact rfl
theorem zFX (c a b:AO):zb1 C fr (.pick c a b)=zIX (zCe (C.ev fr c)) (C.ev fr a) (C.ev fr b):=by
  simp only [zb1]
  cases C.ev fr c <;> rfl
theorem zIY (op:BinOp) (x y:AO):zb1 C fr (.bin op x y)=zd1 op (C.ev fr x) (C.ev fr y):=by simp only [zb1]
theorem zL9 (c : zJ4) (n : Bool) (x y : AO) : zb1 C fr (.eq c n x y) = (eqA c (C.ev fr x) (C.ev fr y)).map fun b => .bool (n ^^ b) := by
  simp only [zb1]
  cases n <;> cases eqA c (C.ev fr x) (C.ev fr y) <;> simp
def zOP:zaa→Option zaa
  | .bool b=>some (.bool !b)
  | _=>none
theorem zIZ (x:AO):zb1 C fr (.un .not x)=zOP (C.ev fr x):=by
  simp only [zb1]
  cases C.ev fr x <;> rfl
theorem zI0 (x:AO):zb1 C fr (.un .neg x)=unA .neg (C.ev fr x):=by simp only [zb1]
def zKm (k:IntKind):zaa→Option zaa
  | .int _ n=>some (.int k (k.wrap n))
  | _=>none
theorem zI1 (k:IntKind) (x:AO):zb1 C fr (.i2i k x)=zKm k (C.ev fr x):=by
  simp only [zb1];cases C.ev fr x <;> rfl
def zOQ:zaa→Option ByteArray
  | .str s=>some s
  | _=>none
theorem zF3 (x : AO) : zb1 C fr (.lenS x) = (zOQ (C.ev fr x)).map fun s => .int .i64 s.size := by
  simp only [zb1];cases C.ev fr x <;> rfl
theorem zF5 (x:AO):zb1 C fr (.lenL x)=(zu7 (C.ev fr x)).map fun (n:Nat)=>zaa.int .i64 (n:Int):=by simp only [zb1]
theorem zF6 (t:TypeId) (x:AO):zb1 C fr (.mkif t x)=some (.iface t (C.ev fr x)):=by simp only [zb1]
theorem zF7 (f:Fn) (a b:List AO):zb1 C fr (.mkfn f a b)=some (.fn f (a.map (C.ev fr)) (b.map (C.ev fr))):=by simp only [zb1]
theorem zDq (k:SK) (sz:Nat) (x:AO) (lo hi mx:Option AO):zb1 C fr (.slice k sz x lo hi mx)=zdE k sz (C.ev fr x) (lo.map (C.ev fr)) (hi.map (C.ev fr)) (mx.map (C.ev fr)):=by simp only [zb1]
def zwZ (off:Nat):zaa→Option zaa
  | .ptr b o=>some (.ptr b (o+off))
  | .vptr cs o=>some (.vptr cs (o+off))
  | _=>none
theorem zF8 (off:Nat) (x:AO):zb1 C fr (.fadr off x)=zwZ off (C.ev fr x):=by
  simp only [zb1];cases C.ev fr x <;> rfl
def zEq:zaa→Option zaa
  | .ptr b o=>some (.ptr b o)
  | .vptr cs o=>some (.vptr cs o)
  | .iface t v=>some (.iface t v)
  | _=>none
theorem zI4 (x:AO):zb1 C fr (.nck x)=zEq (C.ev fr x):=by
  simp only [zb1];cases C.ev fr x <;> rfl
def zNz (off sz:Nat) (agg:Bool):zaa→Option zaa
  | .agg cs=>zd2 agg cs off sz
  | _=>none
theorem zI5 (off sz:Nat) (agg:Bool) (x:AO):zb1 C fr (.fld off sz agg x)=zNz off sz agg (C.ev fr x):=by
  simp only [zb1];cases C.ev fr x <;> rfl
theorem zF9 (a:Option Nat) (sz:Nat) (x i:AO):zb1 C fr (.iadr a sz x i)=zc1 a sz (C.ev fr x) (C.ev fr i):=by simp only [zb1]
def zNA (len sz:Nat) (agg:Bool):zaa→zaa→Option zaa
  | .agg cs,.int _ i=>if 0≤i∧i < len then zd2 agg cs (i.toNat*sz) sz else none
  | _,_=>none
theorem zGa (len sz:Nat) (agg:Bool) (x i:AO):zb1 C fr (.idxA len sz agg x i)=zNA len sz agg (C.ev fr x) (C.ev fr i):=by
  simp only [zb1]
  generalize C.ev fr x=a
  generalize C.ev fr i=b
  cases a <;> cases b <;> rfl
def zI6:zaa→zaa→Option zaa
  | .str s,.int _ i=>if 0≤i then (s.data.toList[i.toNat]?).map fun b=>.int .u8 b.toNat else none
  | _,_=>none
theorem zGb (x i:AO):zb1 C fr (.idxS x i)=zI6 (C.ev fr x) (C.ev fr i):=by
  simp only [zb1]
  generalize C.ev fr x=a
  generalize C.ev fr i=b
  cases a <;> cases b <;> rfl
def zOR (i:Nat):zaa→Option zaa
  | .tup vs=>vs[i]?
  | _=>none
theorem zI7 (x:AO) (i:Nat):zb1 C fr (.ext x i)=zOR i (C.ev fr x):=by
  simp only [zb1];cases C.ev fr x <;> rfl
def zMb (n:Nat):zaa→Option zaa
  | .sl b off _ len _=>if n≤len then some (.ptr b off) else none
  | .vsl _ es=>if n≤es.length∧0 < n then some (.vptr (es.take n).flatten 0) else none
  | .gsl _ es=>if n≤es.length∧0 < n then some (.vptr (es.take n).flatten 0) else none
  | _=>none
theorem zI8 (n:Nat) (x:AO):zb1 C fr (.s2a n x)=zMb n (C.ev fr x):=by
  simp only [zb1];cases C.ev fr x <;> rfl
theorem zDB (z : List zaa) (ps : List (Nat × Nat × AO)) : zb1 C fr (.build z ps) = (zaE z (ps.map fun p => (p.1, p.2.1, C.ev fr p.2.2))).map .agg := by
  simp only [zb1];cases zaE z (ps.map fun p=>(p.1,p.2.1,C.ev fr p.2.2)) <;> rfl
theorem zGe (sz len : Nat) (z : List zaa) (ps : List (Nat × AO)) : zb1 C fr (.slit sz len z ps) = (zaE (rep z len) (ps.map fun p => (p.1 * sz, sz, C.ev fr p.2))).map fun cs => .vsl true (chunks sz len cs) := by
  simp only [zb1];cases zaE (rep z len) (ps.map fun p=>(p.1*sz,sz,C.ev fr p.2)) <;> rfl
theorem zGg (m:Bool) (x:AO) (xs:List AO):zb1 C fr (.mxmn m (x :: xs))=zqI m (C.ev fr x) (xs.map (C.ev fr)):=by simp only [zb1,List.map_cons]
end
section
variable (k:IntKind) (a b:Int)
@[simp] theorem zNB (cs:List zaa):zpP (.agg cs)=some (.vptr cs 0):=by unfold zpP;exact rfl
@[simp] theorem zMg (b:Bool):zOP (.bool b)=some (.bool !b):=by unfold zOP;exact rfl
@[simp] theorem zd9 (k':IntKind):zKm k' (.int k a)=some (.int k' (k'.wrap a)):=by unfold zKm;exact rfl
@[simp] theorem zNC (s:ByteArray):zOQ (.str s)=some s:=by unfold zOQ;exact rfl
@[simp] theorem zND (c:Bool) (es:List (List zaa)):zu7 (.vsl c es)=some es.length:=by unfold zu7;exact rfl
@[simp] theorem zNE:zu7 .nsl=some 0:=by unfold zu7;exact rfl
@[simp] theorem zOS (x off sz n:Nat) (c:Option Nat):zu7 (.sl x off sz n c)=some n:=by unfold zu7;exact rfl
@[simp] theorem zMi (off x o:Nat):zwZ off (.ptr x o)=some (.ptr x (o+off)):=by unfold zwZ;exact rfl
@[simp] theorem zKn (off o:Nat) (cs:List zaa):zwZ off (.vptr cs o)=some (.vptr cs (o+off)):=by unfold zwZ;exact rfl
@[simp] theorem zNF (x o:Nat):zEq (.ptr x o)=some (.ptr x o):=by unfold zEq;exact rfl
@[simp] theorem zOT (t:TypeId) (v:zaa):zEq (.iface t v)=some (.iface t v):=by unfold zEq;exact rfl
@[simp] theorem zMk (o:Nat) (cs:List zaa):zEq (.vptr cs o)=some (.vptr cs o):=by unfold zEq;exact rfl
@[simp] theorem zNG (off sz:Nat) (g:Bool) (cs:List zaa):zNz off sz g (.agg cs)=zd2 g cs off sz:=by unfold zNz;exact rfl
@[simp] theorem zNH (i:Nat) (vs:List zaa):zOR i (.tup vs)=vs[i]?:=by unfold zOR;exact rfl
@[simp] theorem zJo:zd1 .add (.int k a) (.int k b)=some (.int k (k.wrap (a+b))):=by simp [zd1,zfN]
@[simp] theorem zys:zd1 .sub (.int k a) (.int k b)=some (.int k (k.wrap (a - b))):=by simp [zd1,zfN]
@[simp] theorem zHs:zd1 .mul (.int k a) (.int k b)=some (.int k (k.wrap (a*b))):=by simp [zd1,zfN]
theorem zk3 (h:b≠0):zd1 .quo (.int k a) (.int k b)=some (.int k (k.wrap (a.tdiv b))):=by simp [zd1,zfN,h]
theorem ziA (h:b≠0):zd1 .rem (.int k a) (.int k b)=some (.int k (a.tmod b)):=by simp [zd1,zfN,h]
@[simp] theorem zk4:zd1 .and (.int k a) (.int k b)=some (.int k (k.wrap (BitVec.ofInt k.bits a&&&BitVec.ofInt k.bits b).toNat)):=by simp [zd1,zfN]
@[simp] theorem zBk:zd1 .or (.int k a) (.int k b)=some (.int k (k.wrap (BitVec.ofInt k.bits a|||BitVec.ofInt k.bits b).toNat)):=by simp [zd1,zfN]
@[simp] theorem zHt:zd1 .xor (.int k a) (.int k b)=some (.int k (k.wrap (BitVec.ofInt k.bits a ^^^ BitVec.ofInt k.bits b).toNat)):=by simp [zd1,zfN]
@[simp] theorem zzV:zd1 .andNot (.int k a) (.int k b)=some (.int k (k.wrap (BitVec.ofInt k.bits a&&&~~~ (BitVec.ofInt k.bits b)).toNat)):=by simp [zd1,zfN]
@[simp] theorem zHu:zd1 .eql (.int k a) (.int k b)=some (.bool (a==b)):=by simp [zd1,zfN]
@[simp] theorem zul:zd1 .neq (.int k a) (.int k b)=some (.bool (a !=b)):=by simp [zd1,zfN]
@[simp] theorem zHv:zd1 .lss (.int k a) (.int k b)=some (.bool (decide (a < b))):=by simp [zd1,zfN]
@[simp] theorem zNP:zd1 .leq (.int k a) (.int k b)=some (.bool (decide (a≤b))):=by simp [zd1,zfN]
@[simp] theorem zHx:zd1 .gtr (.int k a) (.int k b)=some (.bool (decide (a > b))):=by simp [zd1,zfN]
@[simp] theorem zjy:zd1 .geq (.int k a) (.int k b)=some (.bool (decide (a≥b))):=by simp [zd1,zfN]
@[simp] theorem zk5 (k':IntKind):zd1 .shl (.int k a) (.int k' b)=zkp .shl k a b:=by simp [zd1]
@[simp] theorem zdv (k':IntKind):zd1 .shr (.int k a) (.int k' b)=zkp .shr k a b:=by simp [zd1]
@[simp] theorem zMC (s t:ByteArray):zd1 .neq (.str s) (.str t)=some (.bool !(s==t)):=by simp [zd1]
@[simp] theorem zHB (sh:List CK) (xs ys:List zaa):eqA (.agg sh) (.agg xs) (.agg ys)=zbp sh xs ys:=by simp [eqA]
theorem zaf (cs:List zaa) (off n:Nat):zd2 false cs off n=cs[off]?:=by unfold zd2;simp
theorem zvL {cs:List zaa} {n:Nat} (h:cs.length=n):zd2 true cs 0 n=some (.agg cs):=by
  unfold zd2;subst h;simp
@[simp] theorem zJF (h:zab) (cs:List zaa) (off n:Nat) (g:Bool):zkO h (.vptr cs off) n g=zd2 g cs off n:=by unfold zkO;exact rfl
theorem zvM:∀ (cs pre old:List zaa),old.length=cs.length→setAt (pre++old) pre.length cs=pre++cs
  | [],pre,old,h=>by simp at h;subst h;rfl
  | c :: cs,pre,[],h=>by simp at h
  | c :: cs, pre, x :: old, h => by
    have:=zvM cs (pre++[c]) old (by simpa using h)
    simp only [setAt]
    rw [List.set_append_right _ _ (Nat.le_refl _),Nat.sub_self,List.set_cons_zero]
    simpa using this
theorem zz1 {cs old:List zaa} (h:old.length=cs.length):setAt old 0 cs=cs:=zvM cs [] old h
@[simp] theorem zKA (cs:List zaa) (off:Nat) (v:zaa):setAt cs off [v]=cs.set off v:=by simp only [setAt]
def hx (h:zab) (bs:List (List zaa)) (ts:List Nat):zab:=⟨h.blks++bs,h.toks++ts⟩
theorem zyI (h:zab):hx h [] []=h:=by simp [hx]
def pA (n i off:Nat):zaa:=.ptr (n+i) off
def sA (n i off sz len:Nat) (cap:Option Nat):zaa:=.sl (n+i) off sz len cap
def gA (n i:Nat) (es:List (List zaa)):zaa:=.gsl (n+i) es
def zav (h:zab):Lim:=⟨h.blks.length,h.toks.length,h.blks.length,h.toks.length⟩
variable (h:zab) (bs:List (List zaa)) (ts:List Nat) (L:Lim)
@[simp] theorem zME (n off i o:Nat):zwZ off (pA n i o)=some (pA n i (o+off)):=by unfold zwZ pA;exact rfl
@[simp] theorem zNV (n i o:Nat):zEq (pA n i o)=some (pA n i o):=by unfold zEq pA;exact rfl
def zEE (cs:Option (List zaa)) (g:Bool) (off n:Nat):Option zaa:=cs.bind fun cs=>zd2 g cs off n
@[simp] theorem zJG (cs:List zaa) (g:Bool) (off n:Nat):zEE (some cs) g off n=zd2 g cs off n:=by unfold zEE;exact rfl
@[simp] theorem zEG (i off n:Nat) (g:Bool):zkO (hx h bs ts) (pA h.blks.length i off) n g=zEE bs[i]? g off n:=by
  unfold zkO pA hx zEE
  simp only
  rw [List.getElem?_append_right (Nat.le_add_right _ _),Nat.add_sub_cancel_left]
def stI (h:zab) (bs:List (List zaa)) (ts:List Nat) (i off:Nat) (cs old:List zaa) (b:Bool):Option zab:=if b=true then some (hx h (bs.set i (setAt old off cs)) ts) else none
@[simp] theorem zyJ (i off:Nat) (cs old:List zaa):stI h bs ts i off cs old true=some (hx h (bs.set i (setAt old off cs)) ts):=by unfold stI;exact rfl
def stO (h:zab) (bs:List (List zaa)) (ts:List Nat) (i off:Nat) (cs:List zaa) (old:Option (List zaa)):Option zab:=old.bind fun old=>stI h bs ts i off cs old (decide (off+cs.length≤old.length))
@[simp] theorem zyL (i off:Nat) (cs old:List zaa):stO h bs ts i off cs (some old)=stI h bs ts i off cs old (decide (off+cs.length≤old.length)):=by unfold stO;exact rfl
@[simp] theorem zKE (i off:Nat) (cs:List zaa) (r1 r2 r3 r4:Nat) (h1:r1≤h.blks.length) (h3:r3≤h.blks.length):
    zcF ⟨r1,r2,r3,r4⟩ (hx h bs ts) (pA h.blks.length i off) cs=stO h bs ts i off cs bs[i]?:=by
  unfold zcF pA stO stI hx
  simp only
  rw [List.getElem?_append_right (Nat.le_add_right _ _),Nat.add_sub_cancel_left]
  cases bs[i]? with
  | none=>rfl
  | some old=>
    simp only [Option.bind_some]
    by_cases hc:off+cs.length≤old.length
    · rw [if_pos ⟨by omega, hc, .inl (by omega)⟩, if_pos (by simpa using hc)]
      rw [List.set_append_right _ _ (Nat.le_add_right _ _),Nat.add_sub_cancel_left]
    · rw [if_neg (fun h=>hc h.2.1),if_neg (by simpa using hc)]
@[simp] theorem zJH (C:Ctx) (fr:Fr) (z:List zaa):zhG C L fr (hx h bs ts) (.alloc z)=some (pA h.blks.length bs.length 0,hx h (bs++[z]) ts):=by
  simp only [zhG]
  simp [hx,pA,push]
theorem zdV (C:Ctx) (fr:Fr) (x:AO) (hv:(C.ev fr x).okV=true):zhG C L fr (hx h bs ts) (.box x)=some (pA h.blks.length bs.length 0,hx h (bs++[(C.ev fr x).cells]) ts):=by
  simp only [zhG,hv,if_true]
  simp [hx,pA,push]
def stM (r:Option zab):Option (zaa × zab):=r.map fun h=>(zaP,h)
@[simp] theorem zMG:stM (some h)=some (zaP,h):=by unfold stM;exact rfl
def stK (L:Lim) (h:zab) (n:Nat) (p v:zaa):Option (zaa × zab):=if (decide (v.cells.length=n)&&v.okV)=true then stM (zcF L h p v.cells) else none
@[simp] theorem zNY (C:Ctx) (fr:Fr) (n:Nat) (x y:AO):zhG C L fr h (.st n x y)=stK L h n (C.ev fr x) (C.ev fr y):=by
  simp only [zhG,stK,stM]
  by_cases h1:(C.ev fr y).cells.length=n <;> cases h2:(C.ev fr y).okV <;> simp [h1,h2]
@[simp] theorem zNZ (p:zaa):stK L h 1 p (.int k a)=stM (zcF L h p [.int k a]):=by simp [stK,zaa.cells,zaa.okV]
@[simp] theorem zMI (p:zaa) (b:Bool):stK L h 1 p (.bool b)=stM (zcF L h p [.bool b]):=by simp [stK,zaa.cells,zaa.okV]
@[simp] theorem zN0 (p:zaa) (b:ByteArray):stK L h 1 p (.str b)=stM (zcF L h p [.str b]):=by simp [stK,zaa.cells,zaa.okV]
@[simp] theorem zN2 (p:zaa) (c:Bool) (es:List (List zaa)):stK L h 1 p (.vsl c es)=stM (zcF L h p [.vsl c es]):=by simp [stK,zaa.cells,zaa.okV]
theorem zHK {cs:List zaa} {n:Nat} (p:zaa) (hn:cs.length=n):stK L h n p (.agg cs)=stM (zcF L h p cs):=by simp [stK,zaa.cells,zaa.okV,hn]
@[simp] theorem zJI:zc0 Mode.pure L h=zav h:=by simp [zc0,Mode.pure,zav]
@[simp] theorem ztC (args:List zaa):zjA Mode.pure h args=zkj h args:=by simp [zjA,Mode.pure]
@[simp] theorem ztD:zkj h []=some ([],false):=by simp only [zkj]
def fzK (a:Option (zaa × Bool)) (b:Option (List zaa × Bool)):Option (List zaa × Bool):=a.bind fun a=>b.bind fun b=>some (a.1 :: b.1,a.2||b.2)
@[simp] theorem zyQ (v:zaa) (c:Bool) (vs:List zaa) (d:Bool):fzK (some (v,c)) (some (vs,d))=some (v :: vs,c||d):=by unfold fzK;exact rfl
@[simp] theorem zru (v:zaa) (vs:List zaa):zkj h (v :: vs)=fzK (fzA h v) (zkj h vs):=by simp only [zkj,fzK,bind]
@[simp] theorem zN3:fzA h (.int k a)=some (.int k a,false):=by simp only [fzA]
@[simp] theorem zB5 (c:Bool) (es:List (List zaa)):fzA h (.vsl c es)=some (.vsl false es,false):=by simp only [fzA]
@[simp] theorem zOh:fzA h .nsl=some (.vsl false [],false):=by simp only [fzA]
@[simp] theorem zOi (x o:Nat):fzA h (.ptr x o)=some (.ptr x o,false):=by simp only [fzA]
@[simp] theorem zMM (cs:List zaa) (o:Nat):fzA h (.vptr cs o)=some (.vptr cs o,false):=by simp only [fzA]
theorem zuK {cs:List zaa} (hc:zda cs=true):fzA h (.agg cs)=some (.agg cs,false):=by simp only [fzA,hc,if_true]
def zuL (a:Option zaa) (b:Option (List zaa)):Option (List zaa):=a.bind fun a=>b.map fun b=>a :: b
@[simp] theorem zJQ (v:zaa) (vs:List zaa):zuL (some v) (some vs)=some (v :: vs):=by unfold zuL;exact rfl
@[simp] theorem zMN (fr:Fr):zqS fr h []=some []:=by simp only [zqS]
@[simp] theorem zMO (fr:Fr) (t:Nat) (rs:List zwB):zqS fr h (.tmp t :: rs)=zuL (some (fr t)) (zqS fr h rs):=by
  simp only [zqS,zuL,bind,Option.bind_some]
  cases zqS fr h rs <;> rfl
@[simp] theorem zLc (fr:Fr) (t n:Nat) (g:Bool) (rs:List zwB):zqS fr h (.cell t n g :: rs)=zuL (zkO h (fr t) n g) (zqS fr h rs):=by
  simp only [zqS,zuL,bind]
  cases zkO h (fr t) n g <;> cases zqS fr h rs <;> rfl
@[simp] theorem zMP:zxk []=.tup []:=by simp only [zxk]
@[simp] theorem zMQ (v:zaa):zxk [v]=v:=by simp only [zxk]
@[simp] theorem zMR (v w:zaa) (vs:List zaa):zxk (v :: w :: vs)=.tup (v :: w :: vs):=by simp only [zxk]
def zH3 (c:Bool) (o:Option (zaa × zab)):Option (zaa × zab):=o.bind fun o=>if (c&&!o.1.flat)=true then none else some o
@[simp] theorem zAv (o:Option (zaa × zab)):zH3 false o=o:=by unfold zH3;cases o <;> simp
theorem zwj (v:zaa) (hv:v.flat=true):zH3 true (some (v,h))=some (v,h):=by simp [zH3,hv]
def zJT (m:Mode) (h:zab) (c:Bool) (h1:zab) (vs:Option (List zaa)):Option (zaa × zab):=vs.bind fun vs=>zH3 c (zsN m h h1 (zxk vs))
@[simp] theorem zLf (m:Mode) (c:Bool) (h1:zab) (vs:List zaa):zJT m h c h1 (some vs)=zH3 c (zsN m h h1 (zxk vs)):=by unfold zJT;exact rfl
def zH5 (b:Bool) (m:Mode) (h:zab) (res:List zwB) (c:Bool) (fr:Fr) (h1:zab):Option (zaa × zab):=if b=true then zJT m h c h1 (zqS fr h1 res) else none
@[simp] theorem zLg (m:Mode) (res:List zwB) (c:Bool) (fr:Fr) (h1:zab):zH5 true m h res c fr h1=zJT m h c h1 (zqS fr h1 res):=by unfold zH5;exact rfl
def zEh (m:Mode) (h:zab) (n:Nat) (res:List zwB) (as:List zaa) (c:Bool) (r:Option (AEx × Fr × zab)):Option (zaa × zab):=
  r.bind fun r=>zH5 (decide ((r.1=.normal∨r.1=.ret)∧as.length≤n)) m h res c r.2.1 r.2.2
@[simp] theorem zMS (m:Mode) (n:Nat) (res:List zwB) (as:List zaa) (c:Bool) (fr:Fr) (h1:zab):zEh m h n res as c (some (.ret,fr,h1))=zH5 (decide (as.length≤n)) m h res c fr h1:=by
  simp [zEh]
@[simp] theorem zH6 (m:Mode) (n:Nat) (res:List zwB) (as:List zaa) (c:Bool) (fr:Fr) (h1:zab):zEh m h n res as c (some (.normal,fr,h1))=zH5 (decide (as.length≤n)) m h res c fr h1:=by
  simp [zEh]
def frm (as:List zaa):Fr:=fun i=>as.getD i zaP
@[simp] theorem zPo (as:List zaa) (i:Nat):frm as i=as.getD i zaP:=by unfold frm;exact rfl
noncomputable def zCb (C:Ctx) (L:Lim) (m:Mode) (h:zab) (n:Nat) (code:AC) (res:List zwB) (a:Option (List zaa × Bool)):Option (zaa × zab):=
  a.bind fun a=>zEh m h n res a.1 a.2 (run C (zc0 m L h) code (frm a.1) (hx h [] []))
@[simp] theorem ztM (C:Ctx) (m:Mode) (n:Nat) (code:AC) (res:List zwB) (as:List zaa) (c:Bool):zCb C L m h n code res (some (as,c))=zEh m h n res as c (run C (zc0 m L h) code (frm as) (hx h [] [])):=by unfold zCb;exact rfl
theorem zad {C:Ctx} {f:FuncId} {n:Nat} {code:AC} {res:List zwB} (hx':C.ext f=none) (hf:C.fns f=some ⟨n,code,res,none⟩) (args:List zaa):zae C L f args h=
    zCb C L (C.mode f) h n code res (zjA (C.mode f) h args):=by
  rw [zE1 C L h hx' hf rfl args]
  unfold zCb zEh zH5 zJT zH3 frm
  rw [zyI]
  cases zjA (C.mode f) h args with
  | none=>rfl
  | some a=>
    simp only [Option.bind_some]
    cases run C (zc0 (C.mode f) L h) code (fun i=>a.1.getD i zaP) h with
    | none=>rfl
    | some r=>
      simp only [Option.bind_some]
      by_cases hc:(r.1=.normal∨r.1=.ret)∧a.1.length≤n
      · rw [if_pos hc,if_pos (by simpa using hc)]
      · rw [if_neg hc,if_neg (by simpa using hc)]
def zs0 (v:Option zaa) (h:zab):Option (zaa × zab):=v.map fun v=>(v,h)
@[simp] theorem zJU (v:zaa):zs0 (some v) h=some (v,h):=by unfold zs0;exact rfl
@[simp] theorem zLh (h1:zab) (v:zaa):zsN Mode.pure h h1 v=zs0 (frz h1 h.blks.length h.toks.length 12 v) h:=by
  simp [zsN,Mode.pure,zs0]
section
variable (nb nt n:Nat)
@[simp] theorem zOj:frz h nb nt (n+1) (.int k a)=some (.int k a):=by simp only [frz]
@[simp] theorem zMU (b:Bool):frz h nb nt (n+1) (.bool b)=some (.bool b):=by simp only [frz]
@[simp] theorem zOk:frz h nb nt (n+1) .nsl=some (.vsl false []):=by simp only [frz]
theorem ziF (c:Bool) {es:List (List zaa)} (he:zaF nb nt es=true):frz h nb nt (n+1) (.vsl c es)=some (.vsl false es):=by simp [frz,zBf,he]
theorem zxY {t:Nat} {es:List (List zaa)} (ht:nt≤t) (he:zaF nb nt es=true):frz h nb nt (n+1) (.gsl t es)=some (.vsl false es):=by
  simp [frz,zBf,he];omega
theorem zjI {cs:List zaa} (hc:zda cs=true):frz h nb nt (n+1) (.agg cs)=some (.agg cs):=by simp [frz,hc]
def zEi (h:zab) (nb nt n:Nat):List zaa→Option (List zaa)
  | []=>some []
  | c :: cs=>zuL (frz h nb nt n c) (zEi h nb nt n cs)
@[simp] theorem zMX:zEi h nb nt n []=some []:=by unfold zEi;exact rfl
@[simp] theorem zCc (c:zaa) (cs:List zaa):zEi h nb nt n (c :: cs)=zuL (frz h nb nt n c) (zEi h nb nt n cs):=by rw [zEi]
theorem zxZ:∀ cs:List zaa,cs.mapM (frz h nb nt n)=zEi h nb nt n cs
  | []=>by simp
  | c :: cs => by
    rw [zCc,List.mapM_cons,zxZ cs,zuL]
    cases frz h nb nt n c with
    | none=>rfl
    | some v=>cases zEi h nb nt n cs <;> rfl
@[simp] theorem zOm (cs:List zaa):frz h nb nt (n+1) (.tup cs)=(zEi h nb nt n cs).map .tup:=by
  simp only [frz];rw [zxZ]
end
@[simp] theorem zLn:zda []=true:=by simp only [zda]
@[simp] theorem zJV (c:zaa) (cs:List zaa):zda (c :: cs)=(c.flat&&zda cs):=by simp only [zda]
@[simp] theorem zM0:(zaa.int k a).flat=true:=by simp only [zaa.flat]
@[simp] theorem zM2 (b:ByteArray):(zaa.str b).flat=true:=by simp only [zaa.flat]
attribute [simp] zIU zL8 zFX zIY zL9 zIZ zI0 zI1 zF3 zF5 zF6 zF7 zDq zF8 zI4 zI5 zF9 zGa zGb zI7 zI8 zDB zGe zGg
attribute [simp] zaf
end
end Go.Av
namespace Go.Av
def wr:AC→List Nat
  | .reg ops=>zgK ops
  | .draw ops=>zgK ops
  | .draw2 a _ _=>zgK a
  | .seq a b=>wr a++wr b
  | .cond _ a b=>wr a++wr b
  | .blk _ a=>wr a
  | .loop a=>wr a
  | .scope a=>wr a
  | _=>[]
theorem zwg {i:AI} {is:List AI} {t:Nat} (h:t∉zgK (i :: is)):i.dst≠some t∧t∉zgK is:=by
  simp only [zgK] at h
  cases hd:i.dst with
  | none=>rw [hd] at h;exact ⟨by simp,h⟩
  | some d=>rw [hd] at h;simp at h;exact ⟨by simp;exact fun e=>h.1 e.symm,h.2⟩
theorem zq0 {fr:Fr} {d:Option Nat} {v:zaa} {t:Nat} (h:d≠some t):put fr d v t=fr t:=by
  cases d with
  | none=>rfl
  | some d=>
    have:t≠d:=fun e=>h (by rw [e])
    simp [put,upd,this]
theorem zAu {l:Nat}:∀ {a r:AC},zeh a l=some r→∀ t,t∈wr r→t∈wr a:=by
  intro a
  induction a with
  | seq a b ih1 ih2=>
    intro r h t ht
    simp only [zeh] at h
    split at h
    · rename_i r1 h1
      obtain rfl:=Option.some.inj h
      simp only [wr,List.mem_append] at ht ⊢
      exact ht.imp (ih1 h1 t) id
    · simp only [wr,List.mem_append]
      exact .inr (ih2 h t ht)
  | label l'=>
    intro r h t ht
    simp only [zeh] at h
    split at h
    · obtain rfl:=Option.some.inj h;simp [wr] at ht
    · simp at h
  | _=>intro r h;simp [zeh] at h
theorem zy6 {C:Ctx} {L:Lim} {c:AC} {fr:Fr} {h:zab} {r:AEx × Fr × zab} (hv:run C L c fr h=some r):∀ t,t∉wr c→r.2.1 t=fr t:=by
  refine (zae.mutual_partial_correctness C
    (fun _ _ _ _ _=>True)
    (fun L c fr h r=>∀ t,t∉wr c→r.2.1 t=fr t)
    (fun L a e fr h r=>∀ t,t∉wr a→r.2.1 t=fr t)
    (fun _ _ _ _ _ _=>True) (fun _ _ _ _ _ _=>True) (fun _ _ _ _ _=>True)
    (fun L ops fr h r=>∀ t,t∉zgK ops→r.1 t=fr t)
    (fun _ _ _ _ _=>True) (fun _ _ _ _ _=>True)
    (fun L ops fr h r=>∀ t,t∉zgK ops→r.1 t=fr t)
    ?_ ?_ ?_ ?_ ?_ ?_ ?_ ?_ ?_ ?_).2.1 L c fr h r hv
  · intros;trivial
  · intro run ztx zpe zkE zpg hrun hscope hchk hrunD hrunO L c fr h r hv t ht
    split at hv
    · obtain rfl:=Option.some.inj hv;rfl
    · obtain rfl:=Option.some.inj hv;rfl
    · obtain ⟨r1,hr1,hv⟩:=bind_some hv
      obtain rfl:=Option.some.inj hv
      exact hrunO _ _ _ _ _ hr1 t ht
    · obtain ⟨r1,hr1,hv⟩:=bind_some hv
      obtain ⟨u,hu,hv⟩:=bind_some hv
      obtain rfl:=Option.some.inj hv
      exact hrunD _ _ _ _ _ hr1 t ht
    · obtain ⟨r1,hr1,hv⟩:=bind_some hv
      obtain ⟨u,hu,hv⟩:=bind_some hv
      obtain ⟨r2,hr2,hv⟩:=bind_some hv
      obtain ⟨u2,hu2,hv⟩:=bind_some hv
      split at hv
      · obtain rfl:=Option.some.inj hv
        exact hrunD _ _ _ _ _ hr1 t ht
      · simp at hv
    · obtain ⟨r1,hr1,hv⟩:=bind_some hv
      simp only [wr,List.mem_append,not_or] at ht
      have k1:=hrun _ _ _ _ _ hr1 t ht.1
      split at hv
      · exact (hrun _ _ _ _ _ hv t ht.2).trans k1
      · obtain rfl:=Option.some.inj hv;exact k1
    · simp only [wr,List.mem_append,not_or] at ht
      split at hv
      · exact hrun _ _ _ _ _ hv t ht.1
      · exact hrun _ _ _ _ _ hv t ht.2
      · simp at hv
    · obtain ⟨r1,hr1,hv⟩:=bind_some hv
      have k1:=hrun _ _ _ _ _ hr1 t ht
      split at hv
      · obtain rfl:=Option.some.inj hv;exact k1
      · obtain rfl:=Option.some.inj hv;exact k1
    · obtain ⟨r1,hr1,hv⟩:=bind_some hv
      have k1:=hrun _ _ _ _ _ hr1 t ht
      split at hv
      · exact (hrun _ _ _ _ _ hv t ht).trans k1
      · obtain rfl:=Option.some.inj hv;exact k1
    · obtain rfl:=Option.some.inj hv;rfl
    · obtain ⟨r1,hr1,hv⟩:=bind_some hv
      exact (hscope _ _ _ _ _ _ hv t ht).trans (hrun _ _ _ _ _ hr1 t ht)
    · obtain rfl:=Option.some.inj hv;rfl
    · obtain rfl:=Option.some.inj hv;rfl
  · intro run ztx hrun hscope L a e fr h r hv t ht
    split at hv
    · split at hv
      · rename_i rest hl
        obtain ⟨r1,hr1,hv⟩:=bind_some hv
        exact (hscope _ _ _ _ _ _ hv t ht).trans (hrun _ _ _ _ _ hr1 t fun hx=>ht (zAu hl t hx))
      · obtain rfl:=Option.some.inj hv;rfl
    · obtain rfl:=Option.some.inj hv;rfl
  · intros;trivial
  · intros;trivial
  · intros;trivial
  · intro zkE step1 hrunD hstep1 L ops fr h r hv t ht
    split at hv
    · obtain rfl:=Option.some.inj hv;rfl
    · rename_i i rest
      obtain ⟨t1,t2⟩:=zwg ht
      split at hv
      · obtain ⟨r1,hr1,hv⟩:=bind_some hv
        obtain ⟨q,hq,hv⟩:=bind_some hv
        obtain rfl:=Option.some.inj hv
        exact (hrunD _ _ _ _ _ hq t t2).trans (zq0 t1)
      · obtain ⟨q,hq,hv⟩:=bind_some hv
        obtain rfl:=Option.some.inj hv
        exact (hrunD _ _ _ _ _ hq t t2).trans (zq0 t1)
  · intros;trivial
  · intros;trivial
  · intro step1 zpg hstep1 hrunO L ops fr h r hv t ht
    split at hv
    · obtain rfl:=Option.some.inj hv;rfl
    · rename_i i rest
      obtain ⟨t1,t2⟩:=zwg ht
      split at hv
      · obtain ⟨r1,hr1,hv⟩:=bind_some hv
        exact (hrunO _ _ _ _ _ hv t t2).trans (zq0 t1)
      · exact (hrunO _ _ _ _ _ hv t t2).trans (zq0 t1)
theorem zag (cs:List zaa) (n:Nat) (h:(cs.length==n)=true):zd2 true cs 0 n=some (.agg cs):=zvL (by simpa using h)
theorem zbV (L:Lim) (h:zab) (cs:List zaa) (n:Nat) (p:zaa) (hn:(cs.length==n)=true):stK L h n p (.agg cs)=stM (zcF L h p cs):=zHK h L p (by simpa using hn)
theorem zai (cs old:List zaa) (h:(old.length==cs.length)=true):setAt old 0 cs=cs:=zz1 (by simpa using h)
theorem zLb (k:IntKind) (a b:Int) (h:(decide (0≤b)&&decide (b≤k.bits))=true):zkp .shr k a b=some (.int k (a.fdiv (2 ^ b.toNat))):=by
  simp only [Bool.and_eq_true,decide_eq_true_eq] at h
  unfold zkp
  rw [if_neg (by omega),Nat.min_eq_left (by omega)]
theorem zPH (k:IntKind) (a b:Int) (h:(decide (0≤b)&&decide (b≤k.bits))=true):zkp .shl k a b=some (.int k (k.wrap (a*2 ^ b.toNat))):=by
  simp only [Bool.and_eq_true,decide_eq_true_eq] at h
  unfold zkp
  rw [if_neg (by omega),Nat.min_eq_left (by omega)]
@[simp] theorem wrap_zero (k:IntKind):k.wrap 0=0:=by cases k <;> decide
theorem wrap_i64 {n:Int} (h1: -9223372036854775808≤n) (h2:n≤9223372036854775807):IntKind.i64.wrap n=n:=by
  simp [IntKind.wrap,IntKind.signed,IntKind.bits];omega
theorem wrap_u64 {n:Int} (h1:0≤n) (h2:n≤18446744073709551615):IntKind.u64.wrap n=n:=by
  simp [IntKind.wrap,IntKind.signed,IntKind.bits];omega
theorem wrap_u8 {n:Int} (h1:0≤n) (h2:n≤255):IntKind.u8.wrap n=n:=by
  simp [IntKind.wrap,IntKind.signed,IntKind.bits];omega
def Ends {α:Type} (x:Option α) (P:α→Prop):Prop:=∃ r,x=some r∧P r
@[simp] theorem zLd {α:Type} (r:α) (P:α→Prop):Ends (some r) P↔P r:=by simp [Ends]
@[congr] theorem zJR {α:Type} {x y:Option α} (P:α→Prop) (h:x=y):Ends x P=Ends y P:=by rw [h]
def zxW (N k:Nat) (I:Nat→Fr→zab→Prop) (zsP:AEx→Fr→zab→Prop) (r:AEx × Fr × zab):Prop:=
  match r.1 with
  | .normal=>k < N∧I (k+1) r.2.1 r.2.2
  | e=>zsP e r.2.1 r.2.2
@[simp] theorem zp5 (N k:Nat) (I:Nat→Fr→zab→Prop) (zsP:AEx→Fr→zab→Prop) (fr:Fr) (h:zab):zxW N k I zsP (.normal,fr,h)↔(k < N∧I (k+1) fr h):=by unfold zxW;exact Iff.rfl
@[simp] theorem zJS (N k:Nat) (I:Nat→Fr→zab→Prop) (zsP:AEx→Fr→zab→Prop) (i:Nat) (fr:Fr) (h:zab):zxW N k I zsP (.exit i,fr,h)↔zsP (.exit i) fr h:=by unfold zxW;exact Iff.rfl
@[simp] theorem zLe (N k:Nat) (I:Nat→Fr→zab→Prop) (zsP:AEx→Fr→zab→Prop) (fr:Fr) (h:zab):zxW N k I zsP (.ret,fr,h)↔zsP .ret fr h:=by unfold zxW;exact Iff.rfl
theorem zan {C:Ctx} {L:Lim} {B:AC} {fr0:Fr} {h0:zab} {R:Option (AEx × Fr × zab)} (hF:run C L (.loop B) fr0 h0=R) (N:Nat) (I:Nat→Fr→zab→Prop) (zsP:AEx→Fr→zab→Prop) (hI:I 0 fr0 h0)
    (step:∀ k fr h,k≤N→(∀ t,t∉wr B→fr t=fr0 t)→I k fr h→Ends (run C L B fr h) (zxW N k I zsP)):
    ∃ e fr h,R=some (e,fr,h)∧zsP e fr h∧(∀ t,t∉wr B→fr t=fr0 t):=by
  subst hF
  have key:∀ m k fr h,N - k=m→k≤N→(∀ t,t∉wr B→fr t=fr0 t)→I k fr h→
      ∃ e fr' h',run C L (.loop B) fr h=some (e,fr',h')∧zsP e fr' h'∧(∀ t,t∉wr B→fr' t=fr0 t):=by
    intro m
    induction m with
    | zero=>
      intro k fr h hm hk hkeep hi
      obtain ⟨⟨e,fr1,h1⟩,hr,hp⟩:=step k fr h hk hkeep hi
      have hkp:=zy6 hr
      rw [zrK,hr]
      cases e with
      | normal=>have:=(zp5 N k I zsP fr1 h1).1 hp;omega
      | exit i=>exact ⟨_,_,_,rfl,hp,fun t ht=>(hkp t ht).trans (hkeep t ht)⟩
      | goto l=>exact ⟨_,_,_,rfl,hp,fun t ht=>(hkp t ht).trans (hkeep t ht)⟩
      | ret=>exact ⟨_,_,_,rfl,hp,fun t ht=>(hkp t ht).trans (hkeep t ht)⟩
    | succ m ih=>
      intro k fr h hm hk hkeep hi
      obtain ⟨⟨e,fr1,h1⟩,hr,hp⟩:=step k fr h hk hkeep hi
      have hkp:=zy6 hr
      rw [zrK,hr]
      cases e with
      | normal=>
        have:=(zp5 N k I zsP fr1 h1).1 hp
        exact ih (k+1) fr1 h1 (by omega) (by omega) (fun t ht=>(hkp t ht).trans (hkeep t ht)) this.2
      | exit i=>exact ⟨_,_,_,rfl,hp,fun t ht=>(hkp t ht).trans (hkeep t ht)⟩
      | goto l=>exact ⟨_,_,_,rfl,hp,fun t ht=>(hkp t ht).trans (hkeep t ht)⟩
      | ret=>exact ⟨_,_,_,rfl,hp,fun t ht=>(hkp t ht).trans (hkeep t ht)⟩
  exact key N 0 fr0 h0 rfl (Nat.zero_le _) (fun _ _=>rfl) hI
def gL (s:zaa) (n i:Nat) (es:List (List zaa)):zaa:=if es=[] then s else gA n i es
def gT (es:List (List zaa)):List Nat:=if es=[] then [] else [es.length]
theorem zMA {C:Ctx} {fr:Fr} {L:Lim} {h:zab} {bs:List (List zaa)} {sz:Nat} {x y:AO} {s:zaa} {es ys:List (List zaa)} (hs:s=.nsl∨s=.vsl true [])
    (hx':C.ev fr x=gL s h.toks.length 0 es) (hy:zaK (hx h bs (gT es)) sz (C.ev fr y)=some ys) (hstr:ziC sz (C.ev fr y)=true)
    (hsz:zgR sz ys=true) (hse:zgR sz es=true) (hr:L.rot≤h.toks.length) (hroom:es.length+ys.length < zau):
    zhG C L fr (hx h bs (gT es)) (.app sz false x y)=some (gL s h.toks.length 0 (es++ys),hx h bs (gT (es++ys))):=by
  simp only [zhG,bind,hy,Option.bind_some,hstr,if_true]
  rw [hx']
  unfold zA3
  rw [if_pos hsz]
  by_cases he:es=[]
  · subst he
    have h1:gL s h.toks.length 0 []=s:=by simp [gL]
    rw [h1]
    by_cases hy0:ys=[]
    · subst hy0
      rcases hs with rfl | rfl <;> simp [gL,gT,zgR]
    · have hroom' : ys.length < zau := by simpa using hroom
      rcases hs with rfl | rfl <;> simp [gL,gT,zgR,hy0,hroom',zet,gA,hx,ptok]
  · have h1 : gL s h.toks.length 0 es = gA h.toks.length 0 es := by simp [gL, he]
    rw [h1]
    have h2:gT es=[es.length]:=by simp [gT,he]
    have h3:gL s h.toks.length 0 (es++ys)=gA h.toks.length 0 (es++ys):=by simp [gL,he]
    have h4:gT (es++ys)=[es.length+ys.length]:=by simp [gT,he]
    rw [h3,h2,h4]
    simp only [gA,Nat.add_zero]
    have h5:(hx h bs [es.length]).toks[h.toks.length]?=some es.length:=by simp [hx]
    rw [if_pos ⟨trivial,he,hse,hr,h5,hroom⟩]
    simp [hx]
def zrj (L:Lim) (h:zab) (sz:Nat) (ref:Bool) (x y:zaa):Option (zaa × zab):=
  (zaK h sz y).bind fun ys=>if ziC sz y=true then zA3 L ref sz h x ys else none
@[simp] theorem zGO (C:Ctx) (fr:Fr) (L:Lim) (h:zab) (sz:Nat) (ref:Bool) (x y:AO):zhG C L fr h (.app sz ref x y)=zrj L h sz ref (C.ev fr x) (C.ev fr y):=by
  simp only [zhG,zrj,bind]
theorem zEc {L:Lim} {h:zab} {bs:List (List zaa)} {sz:Nat} {s y:zaa} {es ys:List (List zaa)} (hs:s=.nsl∨s=.vsl true [])
    (hy:zaK (hx h bs (gT es)) sz y=some ys) (hstr:ziC sz y=true) (hsz:zgR sz ys=true) (hse:zgR sz es=true) (hr:L.rot≤h.toks.length) (hroom:es.length+ys.length < zau):
    zrj L (hx h bs (gT es)) sz false (gL s h.toks.length 0 es) y=some (gL s h.toks.length 0 (es++ys),hx h bs (gT (es++ys))):=by
  let C:Ctx:={fns:=fun _=>none,mode:=fun _=>Mode.pure,glob:=fun _=>none,meth:=fun _ _=>none,ext:=fun _=>none}
  have:=zMA (C:=C) (fr:=fun _=>zaP) (x:=.k (gL s h.toks.length 0 es)) (y:=.k y) hs rfl hy hstr hsz hse hr hroom
  rw [zGO] at this
  exact this
theorem zvz (L:Lim) (h:zab) (bs:List (List zaa)) (sz:Nat) (c:Bool) (es ys:List (List zaa))
    (hc:(zgR sz ys&&zgR sz es&&decide (L.rot≤h.toks.length)&&decide (es.length+ys.length < zau))=true):
    zrj L (hx h bs (gT es)) sz false (gL .nsl h.toks.length 0 es) (.vsl c ys)=some (gL .nsl h.toks.length 0 (es++ys),hx h bs (gT (es++ys))):=by
  simp only [Bool.and_eq_true,decide_eq_true_eq] at hc
  exact zEc (.inl rfl) (by simp only [zaK]) (by simp only [ziC]) hc.1.1.1 hc.1.1.2 hc.1.2 hc.2
theorem zxf (L:Lim) (h:zab) (bs:List (List zaa)) (ts:List Nat) (sz:Nat) (c:Bool) (es ys:List (List zaa))
    (hc:(zgR sz ys&&zgR sz es&&decide (es.length+ys.length < zau)&&decide (0 < ys.length))=true):
    zrj L (hx h bs ts) sz false (.vsl true es) (.vsl c ys)=some (gA h.toks.length ts.length (es++ys),hx h bs (ts++[es.length+ys.length])):=by
  simp only [Bool.and_eq_true,decide_eq_true_eq] at hc
  have hy:ys≠[]:=fun e=>by have:=hc.2;simp [e] at this
  simp [zrj,zaK,ziC,zA3,hc.1.1.1,hc.1.1.2,hc.1.2,hy,zet,gA,hx,ptok]
theorem zD7 (L:Lim) (h:zab) (bs:List (List zaa)) (ts:List Nat) (sz i:Nat) (c:Bool) (es ys:List (List zaa))
    (hc:(zgR sz ys&&zgR sz es&&decide (es.length+ys.length < zau)&&decide (0 < es.length)&&decide (L.rot≤h.toks.length)&&(ts[i]?==some es.length))=true):
    zrj L (hx h bs ts) sz false (gA h.toks.length i es) (.vsl c ys)=some (gA h.toks.length i (es++ys),hx h bs (ts.set i (es.length+ys.length))):=by
  simp only [Bool.and_eq_true,decide_eq_true_eq,beq_iff_eq] at hc
  obtain ⟨⟨⟨⟨⟨c1,c2⟩,c3⟩,c4⟩,c5⟩,c6⟩:=hc
  have he:es≠[]:=fun e=>by simp [e] at c4
  have h5:(hx h bs ts).toks[h.toks.length+i]?=some es.length:=by
    simp only [hx];rw [List.getElem?_append_right (Nat.le_add_right _ _),Nat.add_sub_cancel_left];exact c6
  simp only [zrj,zaK,ziC,zA3,gA,c1,c2,Option.bind_some,if_true]
  rw [if_pos ⟨trivial,he,by trivial,by omega,h5,c3⟩]
  simp only [hx]
  rw [List.set_append_right _ _ (Nat.le_add_right _ _),Nat.add_sub_cancel_left]
theorem zsL {h1:zab} {nb nt n:Nat} {s:zaa} {es:List (List zaa)} (hs:s=.nsl∨s=.vsl true []) (he:zaF nb nt es=true):frz h1 nb nt (n+1) (gL s nt 0 es)=some (.vsl false es):=by
  unfold gL
  split
  · rename_i h0
    subst h0
    rcases hs with rfl | rfl
    · simp
    · exact ziF h1 nb nt n true (by simp [zaF])
  · exact zxY h1 nb nt n (by simp) he
end Go.Av
namespace Go.Av
def eI (k:IntKind) (l:List Int):List (List zaa):=l.map fun n=>[.int k n]
@[simp] theorem zLr (k:IntKind) (l:List Int):(eI k l).length=l.length:=by simp [eI]
@[simp] theorem zId (k:IntKind) (l:List Int):zgR 1 (eI k l)=true:=by cases l <;> simp [eI,zgR]
@[simp] theorem zFc (k:IntKind) (nb nt:Nat):∀ l:List Int,zaF nb nt (eI k l)=true
  | []=>by simp [eI,zaF]
  | x :: l => by
    have:=zFc k nb nt l
    simp only [eI] at this
    simp [eI,zaF,zas,zaa.under,this]
@[simp] theorem zLt (k:IntKind) (l m:List Int):eI k l++eI k m=eI k (l++m):=by simp [eI]
theorem zG5 (k:IntKind) (l:List Int) (i:Nat):(eI k l)[i]?=(l[i]?).map fun n=>[.int k n]:=by simp [eI]
theorem zhL (k:IntKind) (n:Int):[[zaa.int k n]]=eI k [n]:=rfl
theorem zsM (k:IntKind) (n:Int) (l:List Int):[zaa.int k n] :: eI k l=eI k (n :: l):=rfl
@[simp] theorem zHo (k:IntKind):eI k []=[]:=rfl
def bts (s:ByteArray):List Int:=s.data.toList.map fun b=>(b.toNat:Int)
theorem zJC (s:ByteArray):(s.data.toList.map fun b=>[zaa.int .u8 b.toNat])=eI .u8 (bts s):=by unfold bts eI;rw [List.map_map];rfl
@[simp] theorem zOY (s:ByteArray):(bts s).length=s.size:=by unfold bts;rw [List.length_map];rfl
@[simp] theorem zNM (sz:Nat) (x:List zaa):zgR sz [x]=(x.length==sz):=rfl
abbrev zNN:Mode:=⟨false,false,false,true⟩
section
variable (L:Lim) (h:zab) (bs:List (List zaa)) (ts:List Nat)
def zuk (h:zab) (t n:Nat):zab:=⟨h.blks,h.toks.set t n⟩
@[simp] theorem zMz (t n:Nat):(zuk h t n).blks=h.blks:=rfl
@[simp] theorem zNO (t n:Nat):(zuk h t n).toks.length=h.toks.length:=by simp [zuk]
@[simp] theorem zzR:zdw (hx h bs ts) h.blks.length h.toks.length=h:=by simp [zdw,hx]
@[simp] theorem zMy (args:List zaa):zjA zNN h args=some (args,false):=by simp [zjA]
@[simp] theorem zMc:zc0 zNN L h=⟨L.rob,L.rot,h.blks.length,h.toks.length⟩:=by simp [zc0]
theorem zF2 (es:List (List zaa)) (hu:(zaF h.blks.length h.toks.length es&&(ts[0]?==some es.length))=true):
    zsN zNN h (hx h bs ts) (gA h.toks.length 0 es)=some (.gsl h.toks.length es,ptok h es.length):=by
  simp only [Bool.and_eq_true,beq_iff_eq] at hu
  obtain ⟨u1,u2⟩:=hu
  have h5:(hx h bs ts).toks[h.toks.length]?=some es.length:=by
    simp only [hx];rw [List.getElem?_append_right (Nat.le_refl _),Nat.sub_self];exact u2
  unfold zsN
  simp only [gA,Nat.add_zero,h5,u1,zzR]
  simp
theorem zFW (t:Nat) (es:List (List zaa)) (h':zab) (hl:h'.blks.length=h.blks.length∧h'.toks.length=h.toks.length) (ht:t < h.toks.length) (hu:zaF h.blks.length h.toks.length es=true):
    zsN zNN h (hx h' bs ts) (.gsl t es)=some (.gsl t es,h'):=by
  have e:zdw (hx h' bs ts) h.blks.length h.toks.length=h':=by rw [← hl.1,← hl.2];exact zzR h' bs ts
  unfold zsN
  simp only [e]
  have hnot:¬h.toks.length≤t:=by omega
  simp [hnot,frz,zBf,hu,ht]
theorem zFg (sz t:Nat) (c:Bool) (es ys:List (List zaa)) (ht:h.toks[t]?=some es.length)
    (hc:(zgR sz ys&&zgR sz es&&decide (es.length+ys.length < zau)&&decide (0 < es.length)&&decide (L.rot≤t))=true):
    zrj L (hx h bs ts) sz false (.gsl t es) (.vsl c ys)=some (.gsl t (es++ys),hx (zuk h t (es.length+ys.length)) bs ts):=by
  simp only [Bool.and_eq_true,decide_eq_true_eq] at hc
  obtain ⟨⟨⟨⟨c1,c2⟩,c3⟩,c4⟩,c5⟩:=hc
  have he:es≠[]:=fun e=>by simp [e] at c4
  have hlt:=(List.getElem?_eq_some_iff.1 ht).1
  have h5:(hx h bs ts).toks[t]?=some es.length:=by
    simp only [hx];rw [List.getElem?_append_left hlt];exact ht
  simp only [zrj,zaK,ziC,zA3,c1,c2,Option.bind_some,if_true]
  rw [if_pos ⟨trivial,he,by trivial,c5,h5,c3⟩]
  simp only [hx,zuk]
  rw [List.set_append_left _ _ hlt]
theorem zFp (i:Nat) (es:List Int) (s:ByteArray)
    (hc:(decide (es.length+s.size < zau)&&decide (0 < es.length)&&decide (L.rot≤h.toks.length)&&(ts[i]?==some es.length))=true):
    zrj L (hx h bs ts) 1 false (gA h.toks.length i (eI .u8 es)) (.str s)=some (gA h.toks.length i (eI .u8 (es++bts s)),hx h bs (ts.set i (es.length+s.size))):=by
  have hs:zrj L (hx h bs ts) 1 false (gA h.toks.length i (eI .u8 es)) (.str s)=zrj L (hx h bs ts) 1 false (gA h.toks.length i (eI .u8 es)) (.vsl false (eI .u8 (bts s))):=by
    simp [zrj,zaK,ziC,zJC]
  have h1:=zD7 L h bs ts 1 i false (eI .u8 es) (eI .u8 (bts s)) (by simpa using hc)
  rw [hs,h1]
  simp
theorem zIg (n:Nat):ptok (hx h bs ts) n=hx h bs (ts++[n]):=by simp [ptok,hx]
theorem zaj:(hx h bs ts).toks.length=h.toks.length+ts.length:=by simp [hx]
theorem zal:(hx h bs ts).blks.length=h.blks.length+bs.length:=by simp [hx]
theorem zIl (i n:Nat):zuk (hx h bs ts) (h.toks.length+i) n=hx h bs (ts.set i n):=by
  simp only [zuk,hx]
  rw [List.set_append_right _ _ (Nat.le_add_right _ _),Nat.add_sub_cancel_left]
end
end Go.Av
namespace Go.Av
def tab {α:Type} (n:Nat) (f:Nat→α):List α:=(List.range n).map f
@[simp] theorem zyj {α:Type} (n:Nat) (f:Nat→α):(tab n f).length=n:=by simp [tab]
theorem zit {α:Type} (n:Nat) (f:Nat→α) (i:Nat):(tab n f)[i]?=if i < n then some (f i) else none:=by
  unfold tab
  by_cases h:i < n
  · rw [List.getElem?_map,List.getElem?_range h,if_pos h];rfl
  · rw [if_neg h];simp;omega
theorem zL1 {α:Type} {n:Nat} {f:Nat→α} {i:Nat} (h:i < n):(tab n f)[i]?=some (f i):=by rw [zit,if_pos h]
theorem zfv {α:Type} {n:Nat} {f g:Nat→α} (h:∀ i,i < n→f i=g i):tab n f=tab n g:=by
  unfold tab;exact List.map_congr_left fun i hi=>h i (by simpa using hi)
theorem zvc {α : Type} (n : Nat) (f : Nat → α) (i : Nat) (v : α) : (tab n f).set i v = tab n (fun j => if j = i then v else f j) := by
  refine List.ext_getElem? fun j=>?_
  rw [List.getElem?_set,zyj,zit,zit]
  by_cases h:i=j
  · subst h;simp
  · simp [h,Ne.symm h]
theorem zzt {α : Type} (l : List α) (d : α) : tab l.length (fun i => l.getD i d) = l := by
  refine List.ext_getElem? fun j=>?_
  rw [zit]
  by_cases h:j < l.length
  · rw [if_pos h,List.getElem?_eq_getElem h];simp [List.getD,h]
  · rw [if_neg h,List.getElem?_eq_none (by omega)]
theorem zDc {α:Type} {l:List α} {n:Nat} (d:α) (h:l.length=n):l=tab n (fun i=>l.getD i d):=by subst h;exact (zzt l d).symm
theorem zFQ {α:Type} {n:Nat} {f:Nat→α} {i:Nat} {d:α} (h:i < n):(tab n f).getD i d=f i:=by
  rw [List.getD,zL1 h];rfl
theorem zDe {α β : Type} (n : Nat) (f : Nat → α) (g : α → β) : (tab n f).map g = tab n (fun i => g (f i)) := by
  simp [tab,Function.comp_def]
theorem zzu {α : Type} (x : α) (n : Nat) : zaS x n = tab n (fun _ => x) := by
  refine List.ext_getElem? fun j=>?_
  have key:∀ n j:Nat,(zaS x n)[j]?=if j < n then some x else none:=by
    intro n
    induction n with
    | zero=>intro j;simp [zaS]
    | succ n ih=>
      intro j
      cases j with
      | zero=>simp [zaS]
      | succ j=>simp only [zaS,List.getElem?_cons_succ,ih];simp
  rw [key,zit]
def gd {α:Type} (l:List α) (d:α) (i:Nat):α:=l.getD i d
theorem zlw {α:Type} {n:Nat} {f:Nat→α} {i:Nat} {d:α} (h:i < n):gd (tab n f) d i=f i:=zFQ h
theorem zHf {α:Type} (l:List α) (d:α):tab l.length (gd l d)=l:=zzt l d
theorem zDh {α:Type} {l:List α} {n:Nat} (d:α) (h:l.length=n):l=tab n (gd l d):=zDc d h
theorem zsp {α:Type} {l:List α} {i:Nat} {d:α} (h:i < l.length):l[i]?=some (gd l d i):=by
  unfold gd;simp [List.getD,h]
def zBg {α:Type} (n:Nat) (f g:Nat→α) (k:Nat):List α:=tab n fun j=>if j < k then f j else g j
@[simp] theorem zNy {α:Type} (n:Nat) (f g:Nat→α) (k:Nat):(zBg n f g k).length=n:=by simp [zBg]
theorem zFU {α:Type} (n:Nat) (f g:Nat→α) (k:Nat):(zBg n f g k).set k (f k)=zBg n f g (k+1):=by
  unfold zBg
  rw [zvc]
  refine zfv fun j hj=>?_
  by_cases h1:j=k
  · subst h1;simp
  · by_cases h2:j < k
    · rw [if_neg h1,if_pos h2,if_pos (by omega)]
    · rw [if_neg h1,if_neg h2,if_neg (by omega)]
theorem zDj {α:Type} (n:Nat) (f g:Nat→α):zBg n f g 0=tab n g:=zfv fun j hj=>by simp
theorem zFV {α:Type} (n:Nat) (f g:Nat→α):zBg n f g n=tab n f:=zfv fun j hj=>by simp [hj]
theorem zIT {α:Type} {n:Nat} {f g:Nat→α} {k:Nat} {d:α} (h:k < n):gd (zBg n f g k) d k=g k:=by
  unfold zBg;rw [zlw h];simp
abbrev W64:=BitVec 64
def wd (x:W64):zaa:=.int .u64 x.toNat
def cW (l:List W64):List zaa:=l.map wd
def cB (l:List Bool):List zaa:=l.map zaa.bool
def cI (k:IntKind) (l:List Int):List zaa:=l.map fun n=>.int k n
@[simp] theorem zO3 (l:List W64):(cW l).length=l.length:=by simp [cW]
@[simp] theorem zGX (k:IntKind) (l:List Int):(cI k l).length=l.length:=by simp [cI]
theorem zrx:∀ {l:List zaa},zda l=true↔∀ c∈l,c.flat=true
  | []=>by simp [zda]
  | c :: cs=>by simp [zda,zrx (l:=cs)]
@[simp] theorem zuw (l : List W64) : zda (cW l) = true := zrx.2 fun c h => by
  simp only [cW,List.mem_map] at h;obtain ⟨x,_,rfl⟩:=h;rfl
@[simp] theorem zBS (k : IntKind) (l : List Int) : zda (cI k l) = true := zrx.2 fun c h => by
  simp only [cI,List.mem_map] at h;obtain ⟨x,_,rfl⟩:=h;rfl
theorem zEX {l:List W64} {i:Nat} (h:i < l.length):(cW l)[i]?=some (wd (gd l 0#64 i)):=by
  simp [cW,gd,List.getD,h]
theorem zKQ (l:List W64) (i:Nat) (h:decide (i < l.length)=true):(cW l)[i]?=some (wd (gd l 0#64 i)):=zEX (by simpa using h)
@[simp] theorem zN7 (l:List W64) (i:Nat) (h:i < (cW l).length):(cW l)[i]=wd (gd l 0#64 i):=by
  have:=zEX (l:=l) (i:=i) (by simpa using h)
  rw [List.getElem?_eq_getElem h] at this
  exact Option.some.inj this
@[simp] theorem zO8 (l:List W64) (i:Nat) (x:W64):(cW l).set i (wd x)=cW (l.set i x):=by simp [cW,List.map_set]
@[simp] theorem zKU (k:IntKind) (l:List Int) (i:Nat) (x:Int):(cI k l).set i (.int k x)=cI k (l.set i x):=by simp [cI,List.map_set]
@[simp] theorem zN9 (l:List W64) (n:Nat):(cW l).take n=cW (l.take n):=by simp [cW]
@[simp] theorem zOb (l:List W64) (n:Nat):(cW l).drop n=cW (l.drop n):=by simp [cW]
theorem zbj (n:Nat):zaS (.int .u64 0) n=cW (tab n fun _=>0#64):=by rw [zzu,cW,zDe];rfl
theorem zgl (k:IntKind) (x:Int) (n:Nat):zaS (.int k x) n=cI k (tab n fun _=>x):=by rw [zzu,cI,zDe]
@[simp] theorem zML (x:W64):(wd x).cells=[wd x]:=rfl
@[simp] theorem zO9 (x:W64):(wd x).okV=true:=rfl
@[simp] theorem zOe (x:W64):(wd x).flat=true:=rfl
@[simp] theorem zPa (x:W64):asI (wd x)=some (x.toNat:Int):=rfl
theorem zKZ (n:Nat) (h:n < 18446744073709551616):zaa.int .u64 (n:Int)=wd (BitVec.ofNat 64 n):=by
  unfold wd;rw [BitVec.toNat_ofNat,Nat.mod_eq_of_lt (by simpa using h)]
theorem zxR (n:Nat) (h:n < 18446744073709551616):IntKind.u64.wrap (n:Int)=n:=wrap_u64 (by omega) (by omega)
theorem zdy (x:W64):BitVec.ofInt 64 (x.toNat:Int)=x:=by
  apply BitVec.eq_of_toNat_eq
  rw [BitVec.toNat_ofInt]
  have:=x.isLt
  omega
theorem zyX (x:W64):x.toNat < 18446744073709551616:=x.isLt
@[simp] theorem zPb (x y:W64):zd1 .xor (wd x) (wd y)=some (wd (x ^^^ y)):=by
  unfold wd
  rw [zHt]
  show some (zaa.int .u64 (IntKind.u64.wrap ((BitVec.ofInt 64 (x.toNat:Int) ^^^ BitVec.ofInt 64 (y.toNat:Int):BitVec 64).toNat:Int)))=_
  rw [zdy,zdy,zxR _ (zyX _)]
@[simp] theorem zoe (x y:W64):zd1 .and (wd x) (wd y)=some (wd (x&&&y)):=by
  unfold wd
  rw [zk4]
  show some (zaa.int .u64 (IntKind.u64.wrap ((BitVec.ofInt 64 (x.toNat:Int)&&&BitVec.ofInt 64 (y.toNat:Int):BitVec 64).toNat:Int)))=_
  rw [zdy,zdy,zxR _ (zyX _)]
@[simp] theorem zPG (x y:W64):zd1 .or (wd x) (wd y)=some (wd (x|||y)):=by
  unfold wd
  rw [zBk]
  show some (zaa.int .u64 (IntKind.u64.wrap ((BitVec.ofInt 64 (x.toNat:Int)|||BitVec.ofInt 64 (y.toNat:Int):BitVec 64).toNat:Int)))=_
  rw [zdy,zdy,zxR _ (zyX _)]
@[simp] theorem zK3 (x y:W64):zd1 .andNot (wd x) (wd y)=some (wd (x&&&~~~ y)):=by
  unfold wd
  rw [zzV]
  show some (zaa.int .u64 (IntKind.u64.wrap ((BitVec.ofInt 64 (x.toNat:Int)&&&~~~ (BitVec.ofInt 64 (y.toNat:Int)):BitVec 64).toNat:Int)))=_
  rw [zdy,zdy,zxR _ (zyX _)]
theorem zfl (n:Int):IntKind.u64.wrap n=n % 18446744073709551616:=by
  unfold IntKind.wrap
  simp [IntKind.signed,IntKind.bits]
@[simp] theorem zPc (x y:W64):zd1 .add (wd x) (wd y)=some (wd (x+y)):=by
  unfold wd
  rw [zJo,zfl,BitVec.toNat_add,Int.natCast_emod,Int.natCast_add];rfl
@[simp] theorem zPd (x y:W64):zd1 .mul (wd x) (wd y)=some (wd (x*y)):=by
  unfold wd
  rw [zHs,zfl,BitVec.toNat_mul,Int.natCast_emod,Int.natCast_mul];rfl
@[simp] theorem zK4 (x y:W64):zd1 .sub (wd x) (wd y)=some (wd (x - y)):=by
  unfold wd
  rw [zys,zfl]
  congr 2
  have h1:=x.isLt
  have h2:=y.isLt
  rw [BitVec.toNat_sub]
  omega
theorem zwc (x:W64) (k:IntKind) (n:Nat) (h:decide (n≤64)=true):zd1 .shl (wd x) (.int k (n:Int))=some (wd (x <<< n)):=by
  have h':n≤64:=by simpa using h
  unfold wd
  rw [zk5,zPH _ _ _ (by simp only [show ((IntKind.u64.bits:Nat):Int)=64 from rfl,Bool.and_eq_true,decide_eq_true_eq];exact ⟨Int.natCast_nonneg n,by omega⟩)]
  rw [zfl,BitVec.toNat_shiftLeft,Int.toNat_natCast,Nat.shiftLeft_eq,Int.natCast_emod,Int.natCast_mul,Int.natCast_pow];rfl
theorem zmP (x:W64) (k:IntKind) (n:Nat) (h:decide (n≤64)=true):zd1 .shr (wd x) (.int k (n:Int))=some (wd (x >>> n)):=by
  have h':n≤64:=by simpa using h
  unfold wd
  rw [zdv,zLb _ _ _ (by simp only [show ((IntKind.u64.bits:Nat):Int)=64 from rfl,Bool.and_eq_true,decide_eq_true_eq];exact ⟨Int.natCast_nonneg n,by omega⟩)]
  rw [BitVec.toNat_ushiftRight,Int.toNat_natCast,Nat.shiftRight_eq_div_pow,Int.fdiv_eq_ediv_of_nonneg _ (by exact Int.pow_nonneg (by decide)),Int.natCast_ediv,Int.natCast_pow];rfl
def bw (n:Int):W64:=BitVec.ofInt 64 n
@[simp] theorem zPe (k:IntKind) (n:Int):zKm .u64 (.int k n)=some (wd (bw n)):=by
  rw [zd9,zfl]
  unfold wd bw
  congr 2
  rw [BitVec.toNat_ofInt]
  omega
theorem zB2 (h:zab) (nb nt n i:Nat) (es:List (List zaa)) (he:zaF nb nt es=true):frz h nb nt (n+1) (gA nt i es)=some (.vsl false es):=zxY h nb nt n (by simp) he
@[simp] theorem zPf (h:zab) (nb nt n i:Nat) (k:IntKind) (l:List Int):frz h nb nt (n+1) (gA nt i (eI k l))=some (.vsl false (eI k l)):=zB2 h nb nt n i _ (by simp)
@[simp] theorem zOf (h:zab) (nb nt n:Nat) (c:Bool) (k:IntKind) (l:List Int):frz h nb nt (n+1) (.vsl c (eI k l))=some (.vsl false (eI k l)):=ziF h nb nt n c (by simp)
@[simp] theorem zPg (h:zab) (nb nt n:Nat) (x:W64):frz h nb nt (n+1) (wd x)=some (wd x):=by unfold wd;simp
@[simp] theorem zPh (h:zab) (x:W64):fzA h (wd x)=some (wd x,false):=by unfold wd;simp
@[simp] theorem zPi (h:zab) (nb nt n:Nat) (l:List W64):frz h nb nt (n+1) (.agg (cW l))=some (.agg (cW l)):=zjI h nb nt n (zuw l)
@[simp] theorem zPj (h:zab) (nb nt n:Nat) (k:IntKind) (l:List Int):frz h nb nt (n+1) (.agg (cI k l))=some (.agg (cI k l)):=zjI h nb nt n (zBS k l)
@[simp] theorem zPk (h:zab) (l:List W64):fzA h (.agg (cW l))=some (.agg (cW l),false):=zuK h (zuw l)
@[simp] theorem zPl (h:zab) (k:IntKind) (l:List Int):fzA h (.agg (cI k l))=some (.agg (cI k l),false):=zuK h (zBS k l)
@[simp] theorem zPm (L:Lim) (h:zab) (p:zaa) (x:W64):stK L h 1 p (wd x)=stM (zcF L h p [wd x]):=by simp [stK]
@[simp] theorem zOg (x:W64):zpP (wd x)=some (.vptr [wd x] 0):=rfl
theorem zfZ (n sz m i off k:Nat) (kd:IntKind) (h:decide (k < n)=true):zc1 (some n) sz (pA m i off) (.int kd (k:Int))=some (pA m i (off+k*sz)):=by
  have:k < n:=by simpa using h
  simp [zc1,asI,pA,this]
theorem zrL (n sz off k:Nat) (cs:List zaa) (kd:IntKind) (h:decide (k < n)=true):zc1 (some n) sz (.vptr cs off) (.int kd (k:Int))=some (.vptr cs (off+k*sz)):=by
  have:k < n:=by simpa using h
  simp [zc1,asI,this]
@[simp] theorem zM3 (n sz m i off:Nat) (kd:IntKind):zc1 (some (n+1)) sz (pA m i off) (.int kd 0)=some (pA m i off):=by simp [zc1,asI,pA]
@[simp] theorem zM4 (n sz off:Nat) (cs:List zaa) (kd:IntKind):zc1 (some (n+1)) sz (.vptr cs off) (.int kd 0)=some (.vptr cs off):=by simp [zc1,asI]
theorem zrO (n i off sz len k:Nat) (cap:Option Nat) (kd:IntKind) (h:decide (k < len)=true):zc1 none sz (sA n i off sz len cap) (.int kd (k:Int))=some (pA n i (off+k*sz)):=by
  have:k < len:=by simpa using h
  simp [zc1,asI,sA,pA,this]
theorem zx1 (n k:Nat) (g:Bool) (cs:List zaa) (sz:Nat) (kd:IntKind) (h:decide (k < n)=true):zNA n sz g (.agg cs) (.int kd (k:Int))=zd2 g cs (k*sz) sz:=by
  have:k < n:=by simpa using h
  unfold zNA;simp [this]
theorem zx2 (k' kd:IntKind) (c:Bool) (l:List Int) (i:Nat) (h:decide (i < l.length)=true):zc1 none 1 (.vsl c (eI k' l)) (.int kd (i:Int))=some (.vptr [.int k' (gd l 0 i)] 0):=by
  have h':i < l.length:=by simpa using h
  simp [zc1,asI,zG5,h',gd,List.getD]
@[simp] theorem zOp (n i off sz len:Nat) (cap:Option Nat):zu7 (sA n i off sz len cap)=some len:=rfl
@[simp] theorem zOq (n i:Nat) (es:List (List zaa)):zu7 (gA n i es)=some es.length:=rfl
@[simp] theorem zPp (L:Lim) (h:zab) (p:zaa) (n i off sz len:Nat) (cap:Option Nat):stK L h 1 p (sA n i off sz len cap)=stM (zcF L h p [sA n i off sz len cap]):=by simp [stK,sA,zaa.cells,zaa.okV]
section
variable (L:Lim) (h:zab) (bs:List (List zaa)) (ts:List Nat)
theorem zl7 : ∀ (n : Nat) (cs : List zaa), cs.length = n → chunks 1 n cs = cs.map fun c => [c]
  | 0,[],_=>rfl
  | n+1,c :: cs,h=>by simp [chunks,zl7 n cs (by simpa using h)]
theorem zuP (i n : Nat) (cs : List zaa) (cap : Option Nat) (hb : bs[i]? = some cs) (hl : cs.length = n) : zaK (hx h bs ts) 1 (sA h.blks.length i 0 1 n cap) = some (cs.map fun c => [c]) := by
  simp only [zaK,sA,hx]
  rw [List.getElem?_append_right (Nat.le_add_right _ _),Nat.add_sub_cancel_left,hb]
  simp [hl,zl7]
theorem zq5 (k:IntKind) (l:List Int):(cI k l).map (fun c=>[c])=eI k l:=by simp [cI,eI]
theorem zCo (k:IntKind) (l:List Int):(eI k l).flatten=cI k l:=by
  induction l with
  | nil=>rfl
  | cons x l ih=>simp only [eI,List.map_cons,List.flatten_cons] at ih ⊢;rw [ih];rfl
end
end Go.Av
namespace Go.Av
abbrev wrM:Mode:=⟨false,false,false,false⟩
abbrev roM:Mode:=⟨true,false,false,false⟩
abbrev zOV:Mode:=⟨false,false,true,false⟩
section
variable (L:Lim) (h:zab) (bs bs':List (List zaa)) (ts ts':List Nat)
@[simp] theorem zNJ (args:List zaa):zjA wrM h args=some (args,false):=by simp [zjA]
@[simp] theorem zGz (args:List zaa):zjA roM h args=some (args,false):=by simp [zjA]
@[simp] theorem zMv (args:List zaa):zjA zOV h args=some (args,false):=by simp [zjA]
@[simp] theorem zNI:zc0 wrM L h=⟨L.rob,L.rot,h.blks.length,h.toks.length⟩:=by simp [zc0]
@[simp] theorem zEA:zc0 roM L h=zav h:=by simp [zc0,zav]
@[simp] theorem zKy:zc0 zOV L h=L:=by simp [zc0]
@[simp] theorem zNS (h1:zab) (v:zaa):zsN wrM h h1 v=zs0 (frz h1 h.blks.length h.toks.length 12 v) (zdw h1 h.blks.length h.toks.length):=by
  simp [zsN,zs0]
@[simp] theorem zNT (h1:zab) (v:zaa):zsN roM h h1 v=zs0 (frz h1 h.blks.length h.toks.length 12 v) h:=by
  simp [zsN,zs0]
@[simp] theorem zMD (h1:zab) (v:zaa):zsN zOV h h1 v=some (v,h1):=by
  simp [zsN]
@[simp] theorem zBo:hx (hx h bs ts) bs' ts'=hx h (bs++bs') (ts++ts'):=by simp [hx]
theorem zAp {h1:zab} (h2:h1.blks.length=h.blks.length) (h3:h1.toks.length=h.toks.length):zdw h1 h.blks.length h.toks.length=h1:=by
  unfold zdw
  rw [← h2,← h3,List.take_length,List.take_length]
theorem zhI (i:Nat) (cs:List zaa):zdw (hx h (bs.set i cs) ts) (h.blks.length+bs.length) (h.toks.length+ts.length)=hx h (bs.set i cs) ts:=by
  have:=zAp (hx h bs ts) (h1:=hx h (bs.set i cs) ts) (by simp [hx]) (by simp [hx])
  rwa [zal,zaj] at this
theorem zao (L:Lim) (i off:Nat) (cs:List zaa) (h1:(decide (L.rob≤h.blks.length)&&zas 0 0 cs)=true):
    zcF L (hx h bs ts) (pA h.blks.length i off) cs=stO h bs ts i off cs bs[i]?:=by
  simp only [Bool.and_eq_true,decide_eq_true_eq] at h1
  unfold zcF pA stO stI hx
  simp only
  rw [List.getElem?_append_right (Nat.le_add_right _ _),Nat.add_sub_cancel_left]
  cases bs[i]? with
  | none=>rfl
  | some old=>
    simp only [Option.bind_some]
    by_cases hc:off+cs.length≤old.length
    · rw [if_pos ⟨by omega, hc, .inr h1.2⟩, if_pos (by simpa using hc)]
      rw [List.set_append_right _ _ (Nat.le_add_right _ _),Nat.add_sub_cancel_left]
    · rw [if_neg (fun h=>hc h.2.1),if_neg (by simpa using hc)]
theorem zrH:∀ {l:List zaa},(∀ c∈l,c.under 0 0=true)→zas 0 0 l=true
  | [],_=>rfl
  | c :: cs,h=>by simp only [zas,Bool.and_eq_true];exact ⟨h c (by simp),zrH fun c hc=>h c (by simp [hc])⟩
@[simp] theorem zB3 (l : List W64) : zas 0 0 (cW l) = true := zrH fun c hc => by
  simp only [cW,List.mem_map] at hc;obtain ⟨x,_,rfl⟩:=hc;rfl
@[simp] theorem zK8 (x:W64):zas 0 0 [wd x]=true:=rfl
@[simp] theorem zJP (k:IntKind) (x:Int):zas 0 0 [.int k x]=true:=rfl
@[simp] theorem zH0 (x:Bool):zas 0 0 [.bool x]=true:=rfl
theorem zgm (b off n:Nat) (g:Bool) (cs:List zaa) (hb:h.blks[b]?=some cs):zkO (hx h bs ts) (.ptr b off) n g=zd2 g cs off n:=by
  unfold zkO hx
  simp only
  rw [List.getElem?_append_left (List.getElem?_eq_some_iff.1 hb).1,hb]
  rfl
def RdI (h:zab) (k:IntKind) (x:zaa) (l:List Int):Prop:=
  zu7 x=some l.length∧∃ p:Nat→zaa,(∀ i,i < l.length→zc1 none 1 x (.int .i64 (i:Int))=some (p i))∧∀ i bs ts,i < l.length→zkO (hx h bs ts) (p i) 1 false=some (.int k (gd l 0 i))
def RdW (h:zab) (x:zaa) (l:List W64):Prop:=
  zu7 x=some l.length∧∃ p:Nat→zaa,(∀ i,i < l.length→zc1 none 1 x (.int .i64 (i:Int))=some (p i))∧∀ i bs ts,i < l.length→zkO (hx h bs ts) (p i) 1 false=some (wd (gd l 0#64 i))
theorem RdW.ext {h:zab} {x:zaa} {l:List W64} (hr:RdW h x l) (bs:List (List zaa)) (ts:List Nat):RdW (hx h bs ts) x l:=by
  obtain ⟨h1,p,h2,h3⟩:=hr
  exact ⟨h1,p,h2,fun i bs' ts' hi=>by rw [zBo];exact h3 i _ _ hi⟩
theorem RdI.vsl (h:zab) (k:IntKind) (c:Bool) (l:List Int):RdI h k (.vsl c (eI k l)) l:=
  ⟨by simp,fun i=>.vptr [.int k (gd l 0 i)] 0,fun i hi=>zx2 k .i64 c l i (by simpa using hi),fun i bs ts hi=>by simp⟩
def eW (l:List W64):List (List zaa):=l.map fun x=>[wd x]
@[simp] theorem zLw (l:List W64):(eW l).length=l.length:=by simp [eW]
theorem zG7 (l:List W64) (i:Nat):(eW l)[i]?=(l[i]?).map fun n=>[wd n]:=by simp [eW]
theorem RdW.vsl (h:zab) (c:Bool) (l:List W64):RdW h (.vsl c (eW l)) l:=
  ⟨by simp,fun i=>.vptr [wd (gd l 0#64 i)] 0,fun i hi=>by simp [zc1,asI,zG7,hi,gd,List.getD],fun i bs ts hi=>by simp⟩
theorem zCs {k:IntKind} {l:List Int} {i:Nat} (h:i < l.length):(cI k l)[i]?=some (.int k (gd l 0 i)):=by
  simp [cI,gd,List.getD,h]
theorem RdW.sl (h:zab) (b n:Nat) (cap:Option Nat) (l:List W64) (hl:l.length=n) (hb:h.blks[b]?=some (cW l)):RdW h (.sl b 0 1 n cap) l:=
  ⟨by simp [hl], fun i => .ptr b (0 + i * 1), fun i hi => by simp [zc1, asI]; omega, fun i bs ts hi => by
    rw [zgm h bs ts b _ _ _ _ hb,zaf,Nat.zero_add,Nat.mul_one];exact zEX hi⟩
theorem RdI.sl (h:zab) (k:IntKind) (b n:Nat) (cap:Option Nat) (l:List Int) (hl:l.length=n) (hb:h.blks[b]?=some (cI k l)):RdI h k (.sl b 0 1 n cap) l:=
  ⟨by simp [hl], fun i => .ptr b (0 + i * 1), fun i hi => by simp [zc1, asI]; omega, fun i bs ts hi => by
    rw [zgm h bs ts b _ _ _ _ hb,zaf,Nat.zero_add,Nat.mul_one];exact zCs hi⟩
end
theorem zlh (n sz m i off:Nat) (h:decide (0 < n)=true):zdE (.arr n) sz (pA m i off) none none none=some (sA m i off sz n (some n)):=by
  have h':0 < n:=by simpa using h
  have:¬n=0:=by omega
  simp [zdE,pA,sA,ziq,this]
theorem ztQ (n sz m i off c:Nat) (kd:IntKind) (h:(decide (0 < c)&&decide (c≤n))=true):zdE (.arr n) sz (pA m i off) none (some (.int kd (c:Int))) none=some (sA m i off sz c (some n)):=by
  simp only [Bool.and_eq_true,decide_eq_true_eq] at h
  have h0:¬c=0:=by omega
  simp [zdE,pA,sA,ziq,h0,h.2]
theorem RdW.sA {h:zab} {bs:List (List zaa)} (ts:List Nat) (i n:Nat) (cap:Option Nat) (l:List W64) (hl:l.length=n) (hb:bs[i]?=some (cW l)):RdW (hx h bs ts) (sA h.blks.length i 0 1 n cap) l:=
  RdW.sl _ _ n cap l hl (by simp only [hx];rw [List.getElem?_append_right (Nat.le_add_right _ _),Nat.add_sub_cancel_left];exact hb)
theorem RdI.sA {h:zab} {bs:List (List zaa)} (ts:List Nat) (k:IntKind) (i n:Nat) (cap:Option Nat) (l:List Int) (hl:l.length=n) (hb:bs[i]?=some (cI k l)):RdI (hx h bs ts) k (sA h.blks.length i 0 1 n cap) l:=
  RdI.sl _ k _ n cap l hl (by simp only [hx];rw [List.getElem?_append_right (Nat.le_add_right _ _),Nat.add_sub_cancel_left];exact hb)
theorem zzf (n:Nat) (c:Bool) (k:IntKind) (l:List Int) (h:(decide (0 < n)&&decide (n≤l.length))=true):zMb n (.vsl c (eI k l))=some (.vptr (cI k (l.take n)) 0):=by
  simp only [Bool.and_eq_true,decide_eq_true_eq] at h
  show (if n≤(eI k l).length∧0 < n then some (zaa.vptr (List.take n (eI k l)).flatten 0) else none)=_
  rw [if_pos ⟨by simpa using h.2,h.1⟩]
  have:(eI k l).take n=eI k (l.take n):=by simp [eI]
  rw [this,zCo]
theorem zG9 (n m i off len:Nat) (cap:Option Nat) (h:decide (n≤len)=true):zMb n (sA m i off 1 len cap)=some (pA m i off):=by
  have:n≤len:=by simpa using h
  unfold zMb;simp [sA,pA,this]
@[simp] theorem zOt (k:IntKind) (l:List Int) (n:Nat):(cI k l).take n=cI k (l.take n):=by simp [cI]
@[simp] theorem zOv (k:IntKind) (l:List Int) (n:Nat):(cI k l).drop n=cI k (l.drop n):=by simp [cI]
theorem zqb {h:zab} {bs:List (List zaa)} (ts:List Nat) {i:Nat} {cs:List zaa} (hb:bs[i]?=some cs):(hx h bs ts).blks[h.blks.length+i]?=some cs:=by
  simp only [hx];rw [List.getElem?_append_right (Nat.le_add_right _ _),Nat.add_sub_cancel_left];exact hb
theorem zFk (k:IntKind) (l:List Int) (off sz:Nat) (h:decide (off+sz≤l.length)=true):zd2 true (cI k l) off sz=some (.agg (cI k ((l.drop off).take sz))):=by
  have h':off+sz≤l.length:=by simpa using h
  unfold zd2;simp [h']
theorem zFl (l:List W64) (off sz:Nat) (h:decide (off+sz≤l.length)=true):zd2 true (cW l) off sz=some (.agg (cW ((l.drop off).take sz))):=by
  have h':off+sz≤l.length:=by simpa using h
  unfold zd2;simp [h']
@[simp] theorem zJY (b:Bool):zFK zaP b=false:=rfl
@[simp] theorem zM7 {α:Type} (n:Nat) (f:Nat→α):tab n f++[f n]=tab (n+1) f:=by simp [tab,List.range_succ]
theorem zCG {α:Type} {l:List α} {n i:Nat} {d:α} (h:i < n):gd (l.take n) d i=gd l d i:=by
  unfold gd;simp [List.getD,List.getElem?_take,h]
theorem zli {α:Type} {l:List α} {k:Nat} (d:α) (h:k < l.length):l.take (k+1)=l.take k++[gd l d k]:=by
  rw [List.take_add_one,zsp (d:=d) h];rfl
end Go.Av
namespace Go.Av
def mkK (h:zab) (sz:Nat) (zero:List zaa):zaa→Option (zaa × zab)
  | .int _ n=>if 0≤n∧n < zau then some (.sl h.blks.length 0 sz n.toNat (some n.toNat),push h (rep zero n.toNat)) else none
  | _=>none
@[simp] theorem zOD (C:Ctx) (L:Lim) (fr:Fr) (h:zab) (sz:Nat) (z:List zaa) (x:AO):zhG C L fr h (.mk sz z x)=mkK h sz z (C.ev fr x):=by
  simp only [zhG]
  cases C.ev fr x <;> rfl
theorem zll (h:zab) (bs:List (List zaa)) (ts:List Nat) (sz:Nat) (z:List zaa) (k:IntKind) (n:Int) (hc:(decide (0≤n)&&decide (n < zau))=true):
    mkK (hx h bs ts) sz z (.int k n)=some (sA h.blks.length bs.length 0 sz n.toNat (some n.toNat),hx h (bs++[rep z n.toNat]) ts):=by
  simp only [Bool.and_eq_true,decide_eq_true_eq] at hc
  unfold mkK
  simp only [if_pos hc]
  simp [sA,hx,push]
theorem zgd (x:zaa):∀ n,rep [x] n=zaS x n
  | 0=>rfl
  | n+1=>by simp [rep,zaS,zgd x n]
theorem zwx (sz m i len c:Nat) (cap:Option Nat) (kd:IntKind) (h:(decide (0 < c)&&decide (c≤len)&&decide (len≤cap.getD len))=true):zdE .slc sz (sA m i 0 sz len cap) none (some (.int kd (c:Int))) none=some (sA m i 0 sz c cap):=by
  simp only [Bool.and_eq_true,decide_eq_true_eq] at h
  obtain ⟨⟨h1,h2⟩,h3⟩:=h
  have h0:¬c=0:=by omega
  have h4:c≤cap.getD len:=by omega
  simp [zdE,sA,ziq,h0,h4]
@[simp] theorem zLA (k:IntKind) (a:Int):zaa.cells (zaa.int k a)=[.int k a]:=rfl
@[simp] theorem zOE (k:IntKind) (a:Int):zaa.okV (zaa.int k a)=true:=rfl
@[simp] theorem zJZ (b:Bool):zaa.cells (zaa.bool b)=[.bool b]:=rfl
@[simp] theorem zM8 (b:Bool):zaa.okV (zaa.bool b)=true:=rfl
@[simp] theorem zLB (b:ByteArray):zaa.cells (zaa.str b)=[.str b]:=rfl
@[simp] theorem zOF (b:ByteArray):zaa.okV (zaa.str b)=true:=rfl
@[simp] theorem zLC (c:Bool) (es:List (List zaa)):zaa.cells (zaa.vsl c es)=[.vsl c es]:=rfl
@[simp] theorem zOG (c:Bool) (es:List (List zaa)):zaa.okV (zaa.vsl c es)=true:=rfl
@[simp] theorem zLD:zaa.cells (zaa.nsl)=[.nsl]:=rfl
@[simp] theorem zOH:zaa.okV (zaa.nsl)=true:=rfl
@[simp] theorem zJ3:zaa.cells (zaa.nilp)=[.nilp]:=rfl
@[simp] theorem zNa:zaa.okV (zaa.nilp)=true:=rfl
@[simp] theorem zLE:zaa.cells (zaa.nfn)=[.nfn]:=rfl
@[simp] theorem zOI:zaa.okV (zaa.nfn)=true:=rfl
@[simp] theorem zLF:zaa.cells (zaa.nif)=[.nif]:=rfl
@[simp] theorem zOJ:zaa.okV (zaa.nif)=true:=rfl
@[simp] theorem zIu (t:TypeId) (v:zaa):zaa.cells (zaa.iface t v)=[.iface t v]:=rfl
@[simp] theorem zLG (t:TypeId) (v:zaa):zaa.okV (zaa.iface t v)=true:=rfl
@[simp] theorem zNb (f:Fn) (a b:List zaa):zaa.cells (zaa.fn f a b)=[.fn f a b]:=rfl
@[simp] theorem zPt (f:Fn) (a b:List zaa):zaa.okV (zaa.fn f a b)=true:=rfl
@[simp] theorem zJ5 (cs:List zaa) (o:Nat):zaa.cells (zaa.vptr cs o)=[.vptr cs o]:=rfl
@[simp] theorem zNc (cs:List zaa) (o:Nat):zaa.okV (zaa.vptr cs o)=true:=rfl
@[simp] theorem zNd (n i off sz len:Nat) (cap:Option Nat):zaa.cells (sA n i off sz len cap:zaa)=[sA n i off sz len cap]:=rfl
@[simp] theorem zPu (n i off sz len:Nat) (cap:Option Nat):zaa.okV (sA n i off sz len cap:zaa)=true:=rfl
@[simp] theorem zNe (n i off:Nat):zaa.cells (pA n i off:zaa)=[pA n i off]:=rfl
@[simp] theorem zPv (n i off:Nat):zaa.okV (pA n i off:zaa)=true:=rfl
@[simp] theorem zNf (n i:Nat) (es:List (List zaa)):zaa.cells (gA n i es:zaa)=[gA n i es]:=rfl
@[simp] theorem zPw (n i:Nat) (es:List (List zaa)):zaa.okV (gA n i es:zaa)=true:=rfl
@[simp] theorem zCT (cs:List zaa):zaa.cells (zaa.agg cs)=cs:=rfl
@[simp] theorem zIw (cs:List zaa):zaa.okV (zaa.agg cs)=true:=rfl
theorem zt2 (k:IntKind):∀ (n:Nat) (l m:List Int),l.length=n→m.length=n→zbp (zaS .i n) (cI k l) (cI k m)=some (l==m)
  | 0,[],[],_,_=>by simp [zaS,cI,zbp]
  | n + 1, x :: l, y :: m, h1, h2 => by
    have:=zt2 k n l m (by simpa using h1) (by simpa using h2)
    simp only [cI] at this
    simp only [zaS,cI,List.map_cons,zbp,zse,bind,if_true,Option.bind_some,this]
    congr 1
theorem zLI (k:IntKind) (n:Nat) (l m:List Int) (h1:(l.length==n)=true) (h2:(m.length==n)=true):eqA (.agg (zaS .i n)) (.agg (cI k l)) (.agg (cI k m))=some (l==m):=by
  rw [zHB];exact zt2 k n l m (by simpa using h1) (by simpa using h2)
def byA (l:List Int):ByteArray:=⟨(l.map fun n=>UInt8.ofNat n.toNat).toArray⟩
theorem zwD : ∀ l : List Int, zjd (eI .u8 l) = some (l.map fun n => UInt8.ofNat n.toNat)
  | []=>rfl
  | x :: l => by
    have:=zwD l
    simp only [eI] at this
    simp only [eI,List.map_cons,zjd,this,bind,Option.bind_some]
def zNi (h:zab) (x:zaa):Option zaa:=(zaK h 1 x).bind fun es=>(zjd es).map fun bs=>.str ⟨bs.toArray⟩
@[simp] theorem zNj (C:Ctx) (fr:Fr) (h:zab) (x:AO):zyH C fr h (.b2s x)=zNi h (C.ev fr x):=by
  simp only [zyH,zNi,bind]
  congr 1
  funext es
  cases zjd es <;> rfl
@[simp] theorem zNk (h:zab) (c:Bool) (l:List Int):zNi h (.vsl c (eI .u8 l))=some (.str (byA l)):=by
  simp [zNi,zaK,zwD,byA]
def zLL:zaa→Option zaa
  | .sl b off sz n c=>some (.sl b off sz n c)
  | _=>none
@[simp] theorem zLM (C:Ctx) (fr:Fr) (h:zab) (x:AO):zyH C fr h (.mark x)=zLL (C.ev fr x):=by
  simp only [zyH]
  cases C.ev fr x <;> rfl
@[simp] theorem zNl (n i off sz len:Nat) (cap:Option Nat):zLL (sA n i off sz len cap)=some (sA n i off sz len cap):=rfl
def zFB (h:zab) (sz len:Nat) (cs:Option (List zaa)):Option (zaa × zab):=cs.map fun cs=>(.sl h.blks.length 0 sz len (some len),push h cs)
@[simp] theorem zLN (C:Ctx) (L:Lim) (fr:Fr) (h:zab) (sz len:Nat) (z:List zaa) (ps:List (Nat × AO)):
    zhG C L fr h (.slit sz len z ps)=zFB h sz len (zaE (rep z len) (ps.map fun p=>(p.1*sz,sz,C.ev fr p.2))):=by
  simp only [zhG,zFB]
  cases zaE (rep z len) (ps.map fun p=>(p.1*sz,sz,C.ev fr p.2)) <;> rfl
@[simp] theorem zJ7 (h:zab) (bs:List (List zaa)) (ts:List Nat) (sz len:Nat) (cs:List zaa):zFB (hx h bs ts) sz len (some cs)=some (sA h.blks.length bs.length 0 sz len (some len),hx h (bs++[cs]) ts):=by
  simp [zFB,sA,hx,push]
end Go.Av
