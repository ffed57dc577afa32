/- How a law's arguments are read, and equations by which the machine's runs are reckoned. -/
import Derived.Test.YtbookmjmhfoolaaGreatDoorV4
import Derived.Carry
import Derived.OpenShut
import Derived.MapKept
set_option linter.unusedSimpArgs false
set_option linter.unusedVariables false
namespace Go.Av
open Go.RowKit
inductive Ty where
 | bool | int (k:IntKind) | str | sl (e:List Ty)
mutual
inductive yI:Ty->J->Prop
 | bool (b:Bool):yI .bool (.bool b)
 | int (k:IntKind) (n:Int) (h:(Lit.int k n).wf=true):yI (.int k) (.int k n)
 | str (x:ByteArray) (h:x.size<=maxLen):yI .str (.str x)
 | sl (ts:List Ty) (es:List (List J)) (hl:es.length<=maxLen) (h:th ts es):yI (.sl ts) (.vsl false es)
inductive jQ:List Ty->List J->Prop
 | nil:jQ [] []
 | cons (t:Ty) (ts:List Ty) (c:J) (cs:List J) (h:yI t c) (ht:jQ ts cs):jQ (t :: ts) (c :: cs)
inductive th:List Ty->List (List J)->Prop
 | nil (ts:List Ty):th ts []
 | cons (ts:List Ty) (e:List J) (es:List (List J)) (h:jQ ts e) (ht:th ts es):th ts (e :: es)
end
theorem yI.cell {t:Ty}{c:J}(h:yI t c):c.isCell=true:=by cases h <;> rfl
theorem jQ.cell:∀ {ts:List Ty} {cs:List J},jQ ts cs->∀ c∈cs,c.isCell=true
 | _,_,.nil=>by simp
 | _, _, .cons t ts c cs h ht => fun x hx => by
  rcases List.mem_cons.1 hx with rfl | hx
  ·exact h.cell
  ·exact ht.cell x hx
theorem jQ.length:∀ {ts:List Ty} {cs:List J},jQ ts cs->cs.length=ts.length
 | _,_,.nil=>rfl
 | _,_,.cons t ts c cs h ht=>by simp [ht.length]
theorem jQ.append:∀ {ts us:List Ty} {cs ds:List J},jQ ts cs->jQ us ds->jQ (ts++us) (cs++ds)
 | _,_,_,_,.nil,h=>h
 | _,_,_,_,.cons t ts c cs h ht,h'=>.cons t _ c _ h (ht.append h')
def shF (P:Program)(rec:TypeId->Option (List Ty))(z:Nat):Nat->List Field->Option (List Ty)
 | o,[]=>if o=z then some [] else none
 | o, f :: fs => if f.offset = o then
   match rec f.type with
   | some l=>if l.length=P.cellsOf f.type then (shF P rec z (o+P.cellsOf f.type) fs).map (l++·) else none
   | none=>none
  else none
def shT (P:Program):Nat->TypeId->Option (List Ty)
 | 0,_=>none
 | d + 1, t => match P.underlying t with
  | some .bool=>some [.bool]
  | some (.int k)=>some [.int k]
  | some .string=>some [.str]
  | some (.slice e) => match shT P d e with
   | some l=>if l.length=P.cellsOf e/\0 < l.length then some [.sl l] else none
   | none=>none
  | some (.struct fs)=>shF P (shT P d) (P.cellsOf t) 0 fs.toList
  | some (.array n e) => match shT P d e with
   | some l=>if P.cellsOf t=n*P.cellsOf e/\l.length=P.cellsOf e then some (UZ l n) else none
   | none=>none
  | _=>none
def K1 (W:World):St:=⟨W,⟨[],[]⟩,[],[],0,0⟩
theorem zqm (W:World)(X o:Nat):Th (K1 W) X o:=⟨fun b _ h=>by simp [K1] at h,fun t sz n _ h=>by simp [K1] at h⟩
section
variable {H:Type} {enc:TypeId × Value->H} {P:Program} {W:World} {base:Nat} {spare:Nat->Bool} {held:Bool}
theorem zeS {X o:Nat}{avs:List J}{cs:List Value}(hr:aX (K1 W) avs cs)(hk:∀ c∈avs,c.isCell=true)(hc:∀ (i:Nat) v,cs[i]?=some v->World.at W X (o+i)=some v):ee (K1 W) X o avs:=by
 refine ee.of_get fun i c hi=>?_;obtain ⟨v,hv,hrep⟩:=hr.get i c hi;exact ⟨v,hc i v hv,zqm W _ _,hk c (List.mem_of_getElem? hi),hrep⟩
theorem zmJ (a:Addr)(k:Nat):(a.add k).block=a.block/\(a.add k).off=a.off+k:=by
 unfold Addr.add
 split <;> simp_all
theorem zbL {a:Addr}{n:Nat}{cs:List Value}(h:W.cells? base a n=some cs)(hn:0 < n):a.spot=none/\cs.length=n/\∀ (i:Nat) v,cs[i]?=some v->World.at W a.block (a.off+i)=some v:=by
 unfold World.cells? at h;split at h
 ·have hlen:cs.length=n:=by simpa using mapM_some_length h
  have key:∀ i:Nat,i < n->W.cell? (a.add i)=cs[i]?:=fun i hi=>mapM_some_get h i i (by simp [hi]);have hs:a.spot=none:=by
   have h0:=key 0 hn;rw [List.getElem?_eq_getElem (by omega)] at h0;unfold World.cell? at h0;split at h0
   ·split at h0
    ·simp at h0
    ·rename_i hsp;simpa [Addr.add] using hsp
   ·simp at h0
  refine ⟨hs,hlen,fun i v hi=>?_⟩;have hlt:=(List.getElem?_eq_some_iff.1 hi).1;have:=key i (by omega);rw [hi] at this;unfold World.at;rw [<- this]
  congr 1
  simp [Addr.add,hs];intro h0;subst h0
  cases a
  simp at hs;subst hs;rfl
 ·simp at h
def sEq (W:World)(tys:List Ty)(cs:List Value):Prop:=∃ avs,jQ tys avs/\aX (K1 W) avs cs
theorem sEq.append {t u:List Ty}{a b:List Value}(h:sEq W t a)(k:sEq W u b):sEq W (t++u) (a++b):=by
 obtain ⟨x,h1,h2⟩:=h;obtain ⟨y,k1,k2⟩:=k;exact ⟨x++y,h1.append k1,h2.append k2⟩
theorem th.of_all {ts:List Ty}:∀ {es:List (List J)},(∀ e∈es,jQ ts e)->th ts es
 | [],_=>.nil ts
 | e :: es,h=>.cons ts e es (h e (by simp)) (th.of_all fun x hx=>h x (by simp [hx]))
theorem WH {n:Nat}{cs:List Value}{rec:TypeId->Option (List Ty)}{z:Nat}(hz:cs.length=z)
  (ih:∀ (t:TypeId) (tys:List Ty) (cs':List Value),rec t=some tys->(∃ x,DataW.trod enc P W base spare held n t cs'=some x)->sEq W tys cs'):
  ∀ (fs:List Field) (o:Nat) (tys:List Ty),shF P rec z o fs=some tys->(∀ f∈fs,∃ x,DataW.trod enc P W base spare held n f.type ((cs.drop f.offset).take (P.cellsOf f.type))=some x)->
   sEq W tys (cs.drop o)
 | [], o, tys, h, _ => by
  simp only [shF] at h;split at h
  ·rename_i ho;obtain rfl:=sj h;rw [List.drop_eq_nil_of_le (by omega)];exact ⟨[],.nil,.nil⟩
  ·simp at h
 | f :: fs, o, tys, h, hf => by
  simp only [shF] at h;split at h
  ·rename_i ho;split at h
   ·rename_i l hl;split at h
    ·obtain ⟨r,hr,rfl⟩:=map_some h;have h1:=ih f.type l _ hl (hf f (by simp));rw [ho] at h1;have h2:=WH hz ih fs _ r hr fun g hg=>hf g (by simp [hg]);have:=h1.append h2
     rwa [<- List.drop_drop,List.take_append_drop] at this
    ·simp at h
   ·simp at h
  ·simp at h
theorem WI {n sz:Nat}{cs:List Value}{l:List Ty}(hz:cs.length=n*sz)(hi:∀ i,i < n->sEq W l ((cs.drop (i*sz)).take sz)):∀ k,k<=n->sEq W (UZ l k) (cs.drop ((n - k)*sz))
 | 0, _ => by
  rw [Nat.sub_zero,List.drop_eq_nil_of_le (by omega)];exact ⟨[],.nil,.nil⟩
 | k + 1, hk => by
  have h1:=hi (n - (k+1)) (by omega);have h2:=WI hz hi k (by omega);have:=h1.append h2;have e:(n - k)*sz=(n - (k+1))*sz+sz:=by
   rw [<- Nat.succ_mul];congr 1;omega
  rwa [e,<- List.drop_drop,List.take_append_drop] at this
theorem Ck:∀ (d:Nat) {t:TypeId} {tys:List Ty} {fuel:Nat} {cs:List Value} {x:DataW H × List MemPlace},shT P d t=some tys->
  DataW.trod enc P W base spare held fuel t cs=some x->sEq W tys cs
 | 0,t,tys,fuel,cs,x,hs,h=>by simp [shT] at hs
 | d + 1, t, tys, fuel, cs, x, hs, h => by
  simp only [shT] at hs;split at hs
  ·rename_i hu;obtain rfl:=sj hs
   cases fuel with
   | zero=>simp [DataW.trod] at h
   | succ n=>
    unfold DataW.trod at h;rw [hu] at h
    split at h <;> simp_all
    exact ⟨_,.cons _ _ _ _ (.bool _) .nil,.cons _ _ _ _ (.bool _) .nil⟩
  ·rename_i k hu;obtain rfl:=sj hs
   cases fuel with
   | zero=>simp [DataW.trod] at h
   | succ n=>
    unfold DataW.trod at h;rw [hu] at h
    split at h <;> simp_all
    obtain ⟨⟨rfl,hw⟩,_⟩:=h;exact ⟨_,.cons _ _ _ _ (.int _ _ hw) .nil,.cons _ _ _ _ (.int _ _) .nil⟩
  ·rename_i hu;obtain rfl:=sj hs
   cases fuel with
   | zero=>simp [DataW.trod] at h
   | succ n=>
    unfold DataW.trod at h;rw [hu] at h
    split at h <;> simp_all
    exact ⟨_,.cons _ _ _ _ (.str _ h.1) .nil,.cons _ _ _ _ (.str _) .nil⟩
  ·rename_i e hu;split at hs
   ·rename_i l hl;split at hs
    ·rename_i hlen;obtain rfl:=sj hs;rcases DataW.trod_slice hu h with ⟨rfl,_⟩ | ⟨a,len,cap,elems,rest,n,rfl,rfl,_,hb,hlc,hcm,hel,hget,_⟩
     ·exact ⟨[.vsl false []],.cons _ _ _ _ (.sl l [] (by simp) (.nil l)) .nil,.cons _ _ _ _ (.vsl0 false none 0 (by simp) (fun _=>rfl)) .nil⟩
     ·subst hel;have key : ∀ i : Nat, i < elems.length -> (a.add (i * P.cellsOf e)).spot = none /\ ∃ x : List J, jQ l x /\ ee (K1 W) a.block (a.off + i * P.cellsOf e) x := fun i hi => by
       have h1:=hget i hi;rw [List.getElem?_eq_getElem hi] at h1;obtain ⟨cs',h2,h3⟩:=Option.bind_eq_some_iff.1 h1;obtain ⟨avs,g1,g2⟩:=Ck d hl h3;obtain ⟨k1,k2,k3⟩:=zbL h2 (by omega);obtain ⟨b1,b2⟩:=zmJ a (i*P.cellsOf e);refine ⟨k1,avs,g1,zeS g2 g1.cell fun j v hj=>?_⟩;have:=k3 j v hj;rw [b1,b2] at this;exact this
      by_cases h0:elems.length=0
      ·rw [h0];exact ⟨[.vsl false []],.cons _ _ _ _ (.sl l [] (by simp) (.nil l)) .nil,.cons _ _ _ _ (.vsl0 false (some a) cap (by simp) (by simp)) .nil⟩
      ·let f:Nat->List J:=fun i=>if h:i < elems.length then (key i h).2.choose else []
       have hf : ∀ i, i < elems.length -> jQ l (f i) /\ ee (K1 W) a.block (a.off + i * P.cellsOf e) (f i) := fun i hi => by
        simp only [f,dif_pos hi];exact (key i hi).2.choose_spec
       have hsp:=(key 0 (by omega)).1;rw [Nat.zero_mul] at hsp
       replace hsp:a.spot=none:=by simpa [Addr.add] using hsp
       obtain ⟨X,o,sp⟩:=a;simp only [] at hsp;subst hsp;refine ⟨[.vsl false ((List.range elems.length).map f)],.cons _ _ _ _ (.sl l _ (by simp;omega) (.of_all fun y he=>?_)) .nil,.cons _ _ _ _ (.vsl false _ X o (P.cellsOf e) cap elems.length (ie.of_get fun i y he=>?_) (by simp) hlc (by simp)) .nil⟩
       ·obtain ⟨i,hi,rfl⟩:=List.mem_map.1 he;exact (hf i (by simpa using hi)).1
       ·have hi:i < elems.length:=by have:=(List.getElem?_eq_some_iff.1 he).1;simpa using this
        rw [List.getElem?_map,List.getElem?_range hi] at he;obtain rfl:=sj he;exact ⟨by rw [(hf i hi).1.length];exact hlen.1,(hf i hi).2⟩
    ·simp at hs
   ·simp at hs
  ·rename_i fs hu;obtain ⟨xs,n,rfl,_,hl,hlen,hf⟩:=DataW.trod_struct hu h;have := WH (enc := enc) (base := base) (spare := spare) (held := held) (n := n) hl (fun t tys cs' h1 ⟨x, h2⟩ => Ck d h1 h2) fs.toList 0 tys hs fun f hfm => by
    obtain ⟨i,hi⟩:=List.mem_iff_getElem?.1 hfm;have hi':fs[i]?=some f:=by simpa using hi
    have hlt:=(Array.getElem?_eq_some_iff.1 hi').1;exact ⟨_,(hf i f hi').trans (List.getElem?_eq_getElem (by omega))⟩
   simpa using this
  ·rename_i n e hu;split at hs
   ·rename_i l hl;split at hs
    ·rename_i hz;obtain rfl:=sj hs;obtain ⟨xs,m,rfl,_,hlc,hlen,hget⟩:=DataW.trod_array hu h;have:=WI (W:=W) (n:=n) (sz:=P.cellsOf e) (cs:=cs) (l:=l) (by rw [hlc];exact hz.1) (fun i hi=>Ck d hl ((hget i hi).trans (List.getElem?_eq_getElem (by omega)))) n (Nat.le_refl _);simpa using this
    ·simp at hs
   ·simp at hs
  ·simp at hs
theorem zit {d:Nat}{t:TypeId}{tys:List Ty}{v:Value}{dd:DataW H}{ps:List MemPlace}(hs:shT P d t=some tys)(hok:Value.okWide P W .any base t v)(h:DataW.Trod enc P W 0 spare held t v dd ps):
  (∃ avs,jQ tys avs/\dG (K1 W) (.agg avs) v/\∃ cs,v=.agg cs)\/(∃ ty c,tys=[ty]/\yI ty c/\dG (K1 W) c v/\∀ cs,v≠.agg cs):=by
 obtain ⟨fuel,h⟩:=h;obtain ⟨avs,h1,h2⟩:=Ck d hs h;by_cases hv:∃ cs,v=.agg cs
 ·obtain ⟨cs,rfl⟩:=hv;exact .inl ⟨avs,h1,.agg avs cs (by simpa [Value.cells] using h2) h1.cell,cs,rfl⟩
 ·right
  have e:v.cells=#[v]:=by
   cases v <;> first | rfl | exact (hv ⟨_,rfl⟩).elim
  rw [e] at h2
  cases h2 with
  | cons c _ cs _ hc ht=>
   cases ht
   cases h1 with
   | cons ty ts _ _ g1 g2=>
    cases g2
    exact ⟨ty,c,rfl,g1,hc,fun cs hcs=>hv ⟨cs,hcs⟩⟩
end
theorem ziv {C:eh}{P:Program}(hC:K4 C P){W:World}{f:FuncId}{F:a8}{args:List J}{cargs:Array Value}{h':O}(hF:C.fns f=some F)
  (hv:aa C ⟨0,0,0,0⟩ f args ⟨[],[]⟩=some (.bool true,h')) (hg:∀ g cs,C.glob g=some cs->Az (K1 W) g cs) (hargs:aX (K1 W) args cargs.toList):
  Calls P f cargs W fun e W'=>e=.returned (.bool true)/\Below W.heap.size W W':=by
 obtain ⟨⟨_,hc⟩,_⟩:=zio hC hv;have hsim:gV C (K1 W):=⟨rfl,rfl,fun b X cs hb=>by simp [K1] at hb,fun b b' X hb=>by simp [K1] at hb,fun t t' X z z' ht=>by simp [K1] at ht,fun b t X z hb=>by simp [K1] at hb,fun t X z ht=>by simp [K1] at ht,hg⟩;obtain ⟨nx,w',h1,h2⟩:=hc (K1 W) cargs rfl hsim ⟨Nat.le_refl _,Nat.le_refl _,Nat.le_refl _,Nat.le_refl _⟩ hargs;obtain ⟨fn,fl,g1,g2,g3⟩:=hC.fns f F hF;have hb:∃ x,fn.body=some x:=by
  unfold XX at g2
  cases hx:fn.body with
  | some x=>exact ⟨x,rfl⟩
  | none=>rw [hx] at g2;simp at g2
 obtain ⟨x,hx⟩:=hb;have he:=J7 g1 hx g3 cargs W;have h1':(callFunc f cargs).run P W=.ok nx w':=h1;rw [he] at h1';injection h1' with e1 e2
 subst e1 e2;rcases h2 with ⟨cv,h3 | h3,_⟩ | ⟨f',args',h3,h4⟩
 ·simp at h3
 ·simp at h3
 ·injection h3 with e1 e2
  subst e1 e2;refine h4.mono fun e W' hgd=>?_
  cases e with
  | returned cv=>
   obtain ⟨s',rfl,_,_,hle,hrep⟩:=hgd
   cases hrep
   have hk:=hle.kept;exact ⟨rfl, hk.os, hk.tape, hk.out, hk.size, fun k hlt => hk.heap k hlt fun ht => by
    rcases ht with ⟨b,hb⟩ | ⟨t,z,hz⟩
    ·simp [K1] at hb
    ·simp [K1] at hz⟩
  | panicked _=>exact hgd.elim
  | outgrown=>exact hgd.elim
end Go.Av
namespace Go.Av
abbrev iv (d:Nat)(o:Xd):AI:=⟨some d,.v o,none,[],0,0⟩
abbrev ir (d:Nat)(o:My):AI:=⟨some d,.r o,none,[],0,0⟩
abbrev ic (d:Nat)(o:Wu):AI:=⟨some d,.c o,none,[],0,0⟩
abbrev jc (o:Wu):AI:=⟨none,.c o,none,[],0,0⟩
def aO {α:Type}(x:α):Nat->List α
 | 0=>[]
 | n+1=>x :: aO x n
def ifK {α:Type}(b:Bool)(x y:α):α:=if b=true then x else y
@[simp] theorem zqF {α:Type}(x y:α):ifK true x y=x:=rfl
@[simp] theorem zpd {α:Type}(x y:α):ifK false x y=y:=rfl
noncomputable section
variable (C:eh) (L:az) (fr:Fr) (h:O)
def Xy (r:Option (cL × Fr × O))(b:AC):Option (cL × Fr × O):=
 r.bind fun r => match r.1 with
  | .normal=>run C L b r.2.1 r.2.2
  | _=>some r
@[simp] theorem zpe (b:AC):Xy C L none b=none:=rfl
@[simp] theorem zl2 (b:AC):Xy C L (some (.normal,fr,h)) b=run C L b fr h:=rfl
@[simp] theorem zpf (b:AC)(i:Nat):Xy C L (some (.exit i,fr,h)) b=some (.exit i,fr,h):=rfl
@[simp] theorem zpg (b:AC)(i:Nat):Xy C L (some (.goto i,fr,h)) b=some (.goto i,fr,h):=rfl
@[simp] theorem zqG (b:AC):Xy C L (some (.ret,fr,h)) b=some (.ret,fr,h):=rfl
@[simp] theorem zqH:run C L .skip fr h=some (.normal,fr,h):=by rw [run.eq_def]
@[simp] theorem zqI (i:Nat):run C L (.exit i) fr h=some (.exit i,fr,h):=by rw [run.eq_def]
@[simp] theorem zso:run C L .ret fr h=some (.ret,fr,h):=by rw [run.eq_def]
@[simp] theorem zqL (a b:AC):run C L (.seq a b) fr h=Xy C L (run C L a fr h) b:=by rw [run.eq_def];rfl
def zfd (id:Nat)(r:Option (cL × Fr × O)):Option (cL × Fr × O):=r.map fun r=>if r.1=.exit id then (.normal,r.2) else r
@[simp] theorem zpl (id:Nat):zfd id none=none:=rfl
@[simp] theorem zpm (id:Nat)(e:cL):zfd id (some (e,fr,h))=some (if e=.exit id then .normal else e,fr,h):=by
 unfold zfd;simp only [Option.map_some];split <;> simp_all
@[simp] theorem zqO (id:Nat)(a:AC):run C L (.blk id a) fr h=zfd id (run C L a fr h):=by
 rw [run.eq_def];simp only [zfd]
 cases run C L a fr h with
 | none=>rfl
 | some r=>simp only [bind,Option.bind_some,Option.map_some];split <;> rfl
def XF:J->Option Bool
 | .bool b=>some b
 | _=>none
@[simp] theorem zl4 (b:Bool):XF (.bool b)=some b:=rfl
def ZW (b:Bool)(x y:AC):Option (cL × Fr × O):=if b=true then run C L x fr h else run C L y fr h
@[simp] theorem zm7 (x y:AC):ZW C L fr h true x y=run C L x fr h:=rfl
@[simp] theorem zl5 (x y:AC):ZW C L fr h false x y=run C L y fr h:=rfl
def zl6 (c:Option Bool)(x y:AC):Option (cL × Fr × O):=c.bind fun c=>ZW C L fr h c x y
@[simp] theorem zm8 (b:Bool)(x y:AC):zl6 C L fr h (some b) x y=ZW C L fr h b x y:=rfl
@[simp] theorem zpo (c:AO)(a b:AC):run C L (.cond c a b) fr h=zl6 C L fr h (XF (C.ev fr c)) a b:=by
 rw [run.eq_def];simp only;generalize C.ev fr c=v
 cases v <;> first | rfl | (rename_i b;cases b <;> rfl)
theorem J8 (a:AC):run C L (.loop a) fr h=Xy C L (run C L a fr h) (.loop a):=by
 rw [run.eq_def];rfl
def zqT (r:Option (Fr × O)):Option (cL × Fr × O):=r.map fun r=>(.normal,r.1,r.2)
@[simp] theorem zpp:zqT (some (fr,h))=some (.normal,fr,h):=rfl
@[simp] theorem zqV (ops:List AI):run C L (.reg ops) fr h=zqT (tf C L ops fr h):=by
 rw [run.eq_def];simp only;cases tf C L ops fr h <;> rfl
@[simp] theorem zpq:tf C L [] fr h=some (fr,h):=by rw [tf.eq_def]
theorem wg (i : AI)(rest : List AI) : tf C L (i :: rest) fr h = if cT fr i.grd = true then (step1 C L i.op fr h).bind fun r => tf C L rest (put fr i.dst r.1) r.2 else tf C L rest (put fr i.dst bh) h := by
 rw [tf.eq_def];rfl
def opV (d:Option Nat)(rest:List AI)(r:Option J):Option (Fr × O):=r.bind fun v=>tf C L rest (put fr d v) h
@[simp] theorem zqX (d:Option Nat)(rest:List AI)(v:J):opV C L fr h d rest (some v)=tf C L rest (put fr d v) h:=rfl
def opC (d:Option Nat)(rest:List AI)(r:Option (J × O)):Option (Fr × O):=r.bind fun r=>tf C L rest (put fr d r.1) r.2
@[simp] theorem zqZ (d:Option Nat)(rest:List AI)(v:J):opC C L fr d rest (some (v,h))=tf C L rest (put fr d v) h:=rfl
@[simp] theorem ztv (d:Option Nat)(o:Xd)(rest:List AI)(u:List Nat)(x y:Nat):tf C L (⟨d,.v o,none,u,x,y⟩ :: rest) fr h=opV C L fr h d rest (bz C fr o):=by
 rw [wg,step1.eq_def];simp only [cT,if_true]
 cases bz C fr o <;> rfl
@[simp] theorem ztw (d:Option Nat)(o:My)(rest:List AI)(u:List Nat)(x y:Nat):tf C L (⟨d,.r o,none,u,x,y⟩ :: rest) fr h=opV C L fr h d rest (rP C L o fr h):=by
 rw [wg,step1.eq_def];simp only [cT,if_true]
 cases rP C L o fr h <;> rfl
@[simp] theorem ztH (d:Option Nat)(o:Wu)(rest:List AI)(u:List Nat)(x y:Nat):tf C L (⟨d,.c o,none,u,x,y⟩ :: rest) fr h=opC C L fr d rest (jj C L o fr h):=by
 rw [wg,step1.eq_def];simp only [cT,if_true];rfl
def S8 (v:J)(b:Bool):Bool:=match v with | .bool c=>c==b | _=>false
@[simp] theorem zpH (c:Bool):S8 (.bool c) true=c:=by cases c <;> rfl
@[simp] theorem znY (c:Bool):S8 (.bool c) false=!c:=by cases c <;> rfl
def zkm (g:Bool)(d:Option Nat)(o:Y9)(rest:List AI):Option (Fr × O):=if g=true then tf C L (⟨d,o,none,[],0,0⟩ :: rest) fr h else tf C L rest (put fr d bh) h
@[simp] theorem zpI (d:Option Nat)(o:Y9)(rest:List AI):zkm C L fr h true d o rest=tf C L (⟨d,o,none,[],0,0⟩ :: rest) fr h:=rfl
@[simp] theorem znZ (d:Option Nat)(o:Y9)(rest:List AI):zkm C L fr h false d o rest=tf C L rest (put fr d bh) h:=rfl
@[simp] theorem ztI (d:Option Nat)(o:Y9)(t:Nat)(b:Bool)(rest:List AI)(u:List Nat)(x y:Nat):tf C L (⟨d,o,some (t,b),u,x,y⟩ :: rest) fr h=
  zkm C L fr h (S8 (fr t) b) d o rest:=by
 unfold zkm;rw [wg,wg];simp only [cT,if_true,S8];rfl
@[simp] theorem zrr (n:Nat)(g:Bool)(x:AO):rP C L (.ld n g x) fr h=qC h (C.ev fr x) n g:=by rw [rP.eq_def];rfl
@[simp] theorem zpJ (x:AO):rP C L (.b2s x) fr h=Jw C fr h (.b2s x):=by rw [rP.eq_def]
@[simp] theorem zn1 (x:AO):rP C L (.mark x) fr h=Jw C fr h (.mark x):=by rw [rP.eq_def]
def zc0 (q:Bool)(r:Option (J × O)):Option J:=if q=true then r.map (·.1) else none
@[simp] theorem zpK (v:J):zc0 true (some (v,h))=some v:=rfl
@[simp] theorem zn2 (f:FuncId)(as:List AO):rP C L (.call f as) fr h=zc0 (U C f) (aa C L f (as.map (C.ev fr)) h):=by
 rw [rP.eq_def];simp only [zc0];split
 ·cases aa C L f (as.map (C.ev fr)) h <;> rfl
 ·rfl
@[simp] theorem zn3 (f:FuncId)(as:List AO):jj C L (.call f as) fr h=aa C L f (as.map (C.ev fr)) h:=by rw [jj.eq_def]
def zgI (x:J)(as:List J):Option (J × O):=match x with
 | .fn (.func f) a b=>aa C L f (a++as++b) h
 | _=>none
@[simp] theorem zpL (f:FuncId)(a b as:List J):zgI C L h (.fn (.func f) a b) as=aa C L f (a++as++b) h:=rfl
@[simp] theorem zmi (x:AO)(as:List AO):jj C L (.callv x as) fr h=zgI C L h (C.ev fr x) (as.map (C.ev fr)):=by
 rw [jj.eq_def];rfl
@[simp] theorem zmj (z:List J):jj C L (.alloc z) fr h=gr C L fr h (.alloc z):=by rw [jj.eq_def]
@[simp] theorem zpM (x:AO):jj C L (.box x) fr h=gr C L fr h (.box x):=by rw [jj.eq_def]
@[simp] theorem zn4 (a b:Nat)(z:List J)(p:List (Nat × AO)):jj C L (.slit a b z p) fr h=gr C L fr h (.slit a b z p):=by rw [jj.eq_def]
@[simp] theorem zrs (a:Nat)(z:List J)(x:AO):jj C L (.mk a z x) fr h=gr C L fr h (.mk a z x):=by rw [jj.eq_def]
@[simp] theorem zpN (a:Nat)(z:List J)(x y:AO):jj C L (.mkc a z x y) fr h=gr C L fr h (.mkc a z x y):=by rw [jj.eq_def]
@[simp] theorem zrt (n:Nat)(x y:AO):jj C L (.st n x y) fr h=gr C L fr h (.st n x y):=by rw [jj.eq_def]
@[simp] theorem zpO (n:Nat)(r:Bool)(x y:AO):jj C L (.app n r x y) fr h=gr C L fr h (.app n r x y):=by rw [jj.eq_def]
@[simp] theorem zn6 (n:Nat)(x y:AO):jj C L (.copy n x y) fr h=gr C L fr h (.copy n x y):=by rw [jj.eq_def]
@[simp] theorem zml (z:List J)(x:AO):jj C L (.clear z x) fr h=gr C L fr h (.clear z x):=by rw [jj.eq_def]
@[simp] theorem zpP (x:AO):jj C L (.s2b x) fr h=gr C L fr h (.s2b x):=by rw [jj.eq_def]
@[simp] theorem zuk (n:Nat):C.ev fr (.t n)=fr n:=rfl
@[simp] theorem zul (v:J):C.ev fr (.k v)=v:=rfl
@[simp] theorem zru (d:Nat)(v:J):put fr (some d) v=zb fr d v:=rfl
@[simp] theorem zrv (v:J):put fr none v=fr:=rfl
@[simp] theorem zrw (u:List Nat)(i:Nat):pE u fr i=ifK (u.contains i) (fr i) bh:=rfl
def Rk (v:J)(r:Option (Fr × List O × List J)):Option (Fr × List O × List J):=r.map fun q=>(q.1,q.2.1,v :: q.2.2)
def VL (h:O)(v:J)(r:Option (Fr × List O × List J)):Option (Fr × List O × List J):=r.map fun q=>(q.1,h :: q.2.1,v :: q.2.2)
@[simp] theorem zn8 (v:J)(fr:Fr)(hs:List O)(vs:List J):Rk v (some (fr,hs,vs))=some (fr,hs,v :: vs):=rfl
@[simp] theorem zn9 (h:O)(v:J)(fr:Fr)(hs:List O)(vs:List J):VL h v (some (fr,hs,vs))=some (fr,h :: hs,v :: vs):=rfl
def zaA (u:Option Unit):Option (cL × Fr × O):=u.map fun _=>(.normal,fr,h)
@[simp] theorem zoa:zaA fr h (some ())=some (.normal,fr,h):=rfl
def zgT (ops:List AI)(r:Option (Fr × List O × List J)):Option (cL × Fr × O):=
 r.bind fun r=>zaA r.1 (r.2.1.getLastD h) (pc C L ops r.2.2 fr (h :: r.2.1))
@[simp] theorem zob (ops:List AI)(fr':Fr)(hs:List O)(vs:List J):zgT C L fr h ops (some (fr',hs,vs))=zaA fr' (hs.getLastD h) (pc C L ops vs fr (h :: hs)):=rfl
@[simp] theorem zpQ (ops:List AI):run C L (.draw ops) fr h=zgT C L fr h ops (lr C L ops fr h):=by
 rw [run.eq_def];simp only [zgT,zaA]
 cases lr C L ops fr h with
 | none=>rfl
 | some r=>simp only [bind,Option.bind_some];cases pc C L ops r.2.2 fr (h :: r.2.1) <;> rfl
open Classical in
def zgV (a:List AI)(ag:List (Nat × Nat))(rA rB:Fr × List O × List J)(x y:Option Unit):Option (cL × Fr × O):=
 x.bind fun _=>y.bind fun _=>if OW h a ag rA rB then some (.normal,rA.1,rA.2.1.getLastD h) else none
theorem zc8 {a:List AI}{ag:List (Nat × Nat)}{rA rB:Fr × List O × List J}(hE:OW h a ag rA rB):zgV h a ag rA rB (some ()) (some ())=some (.normal,rA.1,rA.2.1.getLastD h):=by
 unfold zgV;simp [hE]
def zoc (a b:List AI)(ag:List (Nat × Nat))(x y:Option (Fr × List O × List J)):Option (cL × Fr × O):=
 x.bind fun rA=>y.bind fun rB=>zgV h a ag rA rB (pc C L a rA.2.2 fr (h :: rA.2.1)) (pc C L b rB.2.2 fr (h :: rB.2.1))
@[simp] theorem zpR (a b:List AI)(ag:List (Nat × Nat))(rA rB:Fr × List O × List J):zoc C L fr h a b ag (some rA) (some rB)=
  zgV h a ag rA rB (pc C L a rA.2.2 fr (h :: rA.2.1)) (pc C L b rB.2.2 fr (h :: rB.2.1)):=rfl
@[simp] theorem wP (a b:List AI)(ag:List (Nat × Nat)):run C L (.draw2 a b ag) fr h=zoc C L fr h a b ag (lr C L a fr h) (lr C L b fr h):=by
 rw [run.eq_def];simp only [zoc,zgV]
 cases lr C L a fr h with
 | none=>rfl
 | some rA=>
  simp only [bind,Option.bind_some]
  cases lr C L b fr h with
  | none=>cases pc C L a rA.2.2 fr (h :: rA.2.1) <;> rfl
  | some rB=>
   simp only [Option.bind_some]
@[simp] theorem zpS:lr C L [] fr h=some (fr,[],[]):=by rw [lr.eq_def]
def dV (d:Option Nat)(rest:List AI)(r:Option J):Option (Fr × List O × List J):=r.bind fun v=>Rk v (lr C L rest (put fr d v) h)
@[simp] theorem zsQ (d:Option Nat)(rest:List AI)(v:J):dV C L fr h d rest (some v)=Rk v (lr C L rest (put fr d v) h):=rfl
def dC (d:Option Nat)(rest:List AI)(r:Option (J × O)):Option (Fr × List O × List J):=r.bind fun r=>VL r.2 r.1 (lr C L rest (put fr d r.1) r.2)
@[simp] theorem zsR (d:Option Nat)(rest:List AI)(v:J):dC C L fr d rest (some (v,h))=VL h v (lr C L rest (put fr d v) h):=rfl
@[simp] theorem ztK (d:Option Nat)(o:Xd)(rest:List AI)(u:List Nat)(x y:Nat):lr C L (⟨d,.v o,none,u,x,y⟩ :: rest) fr h=
  dV C L fr h d rest (bz C (pE u fr) o):=by
 rw [lr.eq_def];simp only [cT,if_true];rw [step1.eq_def];simp only
 cases bz C (pE u fr) o with
 | none=>rfl
 | some v=>simp only [bind,Option.bind_some,dV];cases lr C L rest (put fr d v) h <;> rfl
@[simp] theorem ztL (d:Option Nat)(o:My)(rest:List AI)(u:List Nat)(x y:Nat):lr C L (⟨d,.r o,none,u,x,y⟩ :: rest) fr h=
  dV C L fr h d rest (rP C L o (pE u fr) h):=by
 rw [lr.eq_def];simp only [cT,if_true];rw [step1.eq_def];simp only
 cases rP C L o (pE u fr) h with
 | none=>rfl
 | some v=>simp only [bind,Option.bind_some,dV];cases lr C L rest (put fr d v) h <;> rfl
@[simp] theorem ztM (d:Option Nat)(o:Wu)(rest:List AI)(u:List Nat)(x y:Nat):lr C L (⟨d,.c o,none,u,x,y⟩ :: rest) fr h=
  dC C L fr d rest (jj C L o (pE u fr) h):=by
 rw [lr.eq_def];simp only [cT,if_true];rw [step1.eq_def];simp only
 cases jj C L o (pE u fr) h with
 | none=>rfl
 | some r=>simp only [bind,Option.bind_some,dC];cases lr C L rest (put fr d r.1) r.2 <;> rfl
def zde (g:Bool)(d:Option Nat)(o:Y9)(u:List Nat)(x y:Nat)(rest:List AI):Option (Fr × List O × List J):=
 if g=true then lr C L (⟨d,o,none,u,x,y⟩ :: rest) fr h else (if yN o=true then VL h bh (lr C L rest (put fr d bh) h) else Rk bh (lr C L rest (put fr d bh) h))
@[simp] theorem zpT (d:Option Nat)(o:Y9)(u:List Nat)(x y:Nat)(rest:List AI):zde C L fr h true d o u x y rest=lr C L (⟨d,o,none,u,x,y⟩ :: rest) fr h:=rfl
@[simp] theorem zmn (d:Option Nat)(o:Xd)(u:List Nat)(x y:Nat)(rest:List AI):zde C L fr h false d (.v o) u x y rest=Rk bh (lr C L rest (put fr d bh) h):=rfl
@[simp] theorem zmo (d:Option Nat)(o:My)(u:List Nat)(x y:Nat)(rest:List AI):zde C L fr h false d (.r o) u x y rest=Rk bh (lr C L rest (put fr d bh) h):=rfl
@[simp] theorem zmp (d:Option Nat)(o:Wu)(u:List Nat)(x y:Nat)(rest:List AI):zde C L fr h false d (.c o) u x y rest=VL h bh (lr C L rest (put fr d bh) h):=rfl
@[simp] theorem ztN (d:Option Nat)(o:Y9)(t:Nat)(b:Bool)(rest:List AI)(u:List Nat)(x y:Nat):lr C L (⟨d,o,some (t,b),u,x,y⟩ :: rest) fr h=
  zde C L fr h (S8 (fr t) b) d o u x y rest:=by
 unfold zde;rw [lr.eq_def]
 conv=>rhs;rw [lr.eq_def]
 simp only [cT,if_true];show (if S8 (fr t) b=true then _ else _)=(if S8 (fr t) b=true then _ else _);split
 ·rfl
 ·cases lr C L rest (put fr d bh) h with
  | none=>cases o <;> rfl
  | some q=>cases o <;> rfl
@[simp] theorem zpU (vs:List J)(hs:List O):pc C L [] vs fr hs=some ():=by rw [pc.eq_def]
@[simp] theorem zta (d:Option Nat)(o:Xd)(g:Option (Nat × Bool))(rest:List AI)(u:List Nat)(x y:Nat)(v:J)(vs:List J)(hs:List O):
  pc C L (⟨d,.v o,g,u,x,y⟩ :: rest) (v :: vs) fr hs=pc C L rest vs (put fr d v) hs:=by rw [pc.eq_def]
@[simp] theorem ztb (d:Option Nat)(o:Wu)(g:Option (Nat × Bool))(rest:List AI)(u:List Nat)(x y:Nat)(v:J)(vs:List J)(hs:List O):
  pc C L (⟨d,.c o,g,u,x,y⟩ :: rest) (v :: vs) fr hs=pc C L rest vs (put fr d v) hs:=by rw [pc.eq_def]
def zmM (rest:List AI)(vs:List J)(hs:List O)(r:Option Unit):Option Unit:=r.bind fun _=>pc C L rest vs fr hs
@[simp] theorem zo8 (rest:List AI)(vs:List J)(hs:List O):zmM C L fr rest vs hs (some ())=pc C L rest vs fr hs:=rfl
def zeX (g:Bool)(o:My)(u:List Nat)(x y:Nat)(d:Option Nat)(v:J)(rest:List AI)(vs:List J)(hs:List O):Option Unit:=
 if g=true then zmM C L (put fr d v) rest vs hs (Mc C L o (pE u fr) ((hs.take (y+1)).drop x) v) else pc C L rest vs (put fr d v) hs
@[simp] theorem zo9 (o:My)(u:List Nat)(x y:Nat)(d:Option Nat)(v:J)(rest:List AI)(vs:List J)(hs:List O):
  zeX C L fr true o u x y d v rest vs hs=zmM C L (put fr d v) rest vs hs (Mc C L o (pE u fr) ((hs.take (y+1)).drop x) v):=rfl
@[simp] theorem zmR (o:My)(u:List Nat)(x y:Nat)(d:Option Nat)(v:J)(rest:List AI)(vs:List J)(hs:List O):
  zeX C L fr false o u x y d v rest vs hs=pc C L rest vs (put fr d v) hs:=rfl
theorem zeY (d:Option Nat)(o:My)(g:Option (Nat × Bool))(rest:List AI)(u:List Nat)(x y:Nat)(v:J)(vs:List J)(hs:List O):
  pc C L (⟨d,.r o,g,u,x,y⟩ :: rest) (v :: vs) fr hs=zeX C L fr (cT fr g&&decide (x < y)) o u x y d v rest vs hs:=by
 rw [pc.eq_def];rfl
@[simp] theorem zsh (d:Option Nat)(o:My)(rest:List AI)(u:List Nat)(x y:Nat)(v:J)(vs:List J)(hs:List O):
  pc C L (⟨d,.r o,none,u,x,y⟩ :: rest) (v :: vs) fr hs=zeX C L fr (decide (x < y)) o u x y d v rest vs hs:=by
 rw [zeY];simp [cT]
@[simp] theorem zsj (d:Option Nat)(o:My)(t:Nat)(b:Bool)(rest:List AI)(u:List Nat)(x y:Nat)(v:J)(vs:List J)(hs:List O):
  pc C L (⟨d,.r o,some (t,b),u,x,y⟩ :: rest) (v :: vs) fr hs=zeX C L fr (S8 (fr t) b&&decide (x < y)) o u x y d v rest vs hs:=by
 rw [zeY];rfl
@[simp] theorem zqx (o:My)(v:J):Mc C L o fr [] v=some ():=by rw [Mc.eq_def]
open Classical in
def zmU (o:My)(hs:List O)(v:J)(u:Option J):Option Unit:=u.bind fun u=>if u=v then Mc C L o fr hs v else none
@[simp] theorem zpb (o:My)(hs:List O)(v:J):zmU C L fr o hs v (some v)=Mc C L o fr hs v:=by simp [zmU]
@[simp] theorem zpc (o:My)(v:J)(h:O)(hs:List O):Mc C L o fr (h :: hs) v=zmU C L fr o hs v (rP C L o fr h):=by rw [Mc.eq_def];rfl
theorem ze1 {f:FuncId}{F:a8}(hx:C.ext f=none)(hf:C.fns f=some F)(hp:F.pre=none)(args:List J):aa C L f args h=
  (nw (C.mode f) h args).bind fun a => (run C (d7 (C.mode f) L h) F.code (fun i => a.1.getD i bh) h).bind fun r =>
   if (r.1=.normal\/r.1=.ret)/\a.1.length<=F.n then
    (vN r.2.1 r.2.2 F.res).bind fun vs=>(vM (C.mode f) h r.2.2 (Gz vs)).bind fun o=>if (a.2&&!o.1.flat)=true then none else some o
   else none:=by
 rw [aa.eq_def];simp only [hx,hf,hp,bind,Option.bind_some,y9]
theorem J0 {f : FuncId}{g : Zc}(hx : C.ext f = some g)(args : List J) : aa C L f args h = (g.pre L args h).bind fun q => match q with
  | .inl r=>some r
  | .inr q=>(aa C L q.1 q.2.1 q.2.2).bind fun r=>g.post args r.1 r.2:=by
 rw [aa.eq_def];simp only [hx,bind]
 congr 1
end
end Go.Av
namespace Go.Av
section
variable (C:eh) (fr:Fr)
theorem zjC (d:Nat)(v:J)(i:Nat):zb fr d v i=ifK (i==d) v (fr i):=by
 unfold zb ifK;by_cases h:i=d
 ·subst h;simp
 ·simp [h]
attribute [simp] zjC
def lx:J->Option J
 | .tup _=>none
 | .agg cs=>some (.vptr cs 0)
 | v=>some (.vptr [v] 0)
theorem zjA (x:AO):bz C fr (.boxv x)=lx (C.ev fr x):=by
 simp only [bz]
 cases C.ev fr x <;> simp [lx,J.okV,J.cells]
theorem znb (x:AO):bz C fr (.mv x)=some (C.ev fr x):=by simp only [bz]
def zfp (c:Option Bool)(a b:J):Option J:=c.map fun t=>ifK t a b
@[simp] theorem znc (t:Bool)(a b:J):zfp (some t) a b=some (ifK t a b):=by unfold zfp;exact rfl
theorem zfr (c a b:AO):bz C fr (.pick c a b)=zfp (XF (C.ev fr c)) (C.ev fr a) (C.ev fr b):=by
 simp only [bz]
 cases C.ev fr c <;> rfl
theorem zjJ (op:BinOp)(x y:AO):bz C fr (.bin op x y)=aW op (C.ev fr x) (C.ev fr y):=by simp only [bz]
theorem znd (c : zdL)(n : Bool)(x y : AO) : bz C fr (.eq c n x y) = (JQ c (C.ev fr x) (C.ev fr y)).map fun b => .bool (n ^^ b) := by
 simp only [bz]
 cases n <;> cases JQ c (C.ev fr x) (C.ev fr y) <;> simp
def znf:J->Option J
 | .bool b=>some (.bool !b)
 | _=>none
theorem zjM (x:AO):bz C fr (.un .not x)=znf (C.ev fr x):=by
 simp only [bz]
 cases C.ev fr x <;> rfl
theorem zjN (x:AO):bz C fr (.un .neg x)=unA .neg (C.ev fr x):=by simp only [bz]
def XT (k:IntKind):J->Option J
 | .int _ n=>some (.int k (k.wrap n))
 | _=>none
theorem zjQ (k:IntKind)(x:AO):bz C fr (.i2i k x)=XT k (C.ev fr x):=by
 simp only [bz];cases C.ev fr x <;> rfl
def zoy:J->Option ByteArray
 | .str s=>some s
 | _=>none
theorem zhM (x : AO) : bz C fr (.lenS x) = (zoy (C.ev fr x)).map fun s => .int .i64 s.size := by
 simp only [bz];cases C.ev fr x <;> rfl
theorem zhO (x:AO):bz C fr (.lenL x)=(Cg (C.ev fr x)).map fun (n:Nat)=>J.int .i64 (n:Int):=by simp only [bz]
theorem zhP (t:TypeId)(x:AO):bz C fr (.mkif t x)=some (.iface t (C.ev fr x)):=by simp only [bz]
theorem zhQ (f:Fn)(a b:List AO):bz C fr (.mkfn f a b)=some (.fn f (a.map (C.ev fr)) (b.map (C.ev fr))):=by simp only [bz]
theorem zdM (k:SK)(sz:Nat)(x:AO)(lo hi mx:Option AO):bz C fr (.slice k sz x lo hi mx)=eP k sz (C.ev fr x) (lo.map (C.ev fr)) (hi.map (C.ev fr)) (mx.map (C.ev fr)):=by simp only [bz]
def Ls (off:Nat):J->Option J
 | .ptr b o=>some (.ptr b (o+off))
 | .vptr cs o=>some (.vptr cs (o+off))
 | _=>none
theorem zhR (off:Nat)(x:AO):bz C fr (.fadr off x)=Ls off (C.ev fr x):=by
 simp only [bz];cases C.ev fr x <;> rfl
def Qk:J->Option J
 | .ptr b o=>some (.ptr b o)
 | .vptr cs o=>some (.vptr cs o)
 | .iface t v=>some (.iface t v)
 | _=>none
theorem zk1 (x:AO):bz C fr (.nck x)=Qk (C.ev fr x):=by
 simp only [bz];cases C.ev fr x <;> rfl
def zk2 (off sz:Nat)(agg:Bool):J->Option J
 | .agg cs=>eL agg cs off sz
 | _=>none
theorem zk3 (off sz:Nat)(agg:Bool)(x:AO):bz C fr (.fld off sz agg x)=zk2 off sz agg (C.ev fr x):=by
 simp only [bz];cases C.ev fr x <;> rfl
theorem zhU (a:Option Nat)(sz:Nat)(x i:AO):bz C fr (.iadr a sz x i)=bA a sz (C.ev fr x) (C.ev fr i):=by simp only [bz]
def zk5 (len sz:Nat)(agg:Bool):J->J->Option J
 | .agg cs,.int _ i=>if 0<=i/\i < len then eL agg cs (i.toNat*sz) sz else none
 | _,_=>none
theorem zhY (len sz:Nat)(agg:Bool)(x i:AO):bz C fr (.idxA len sz agg x i)=zk5 len sz agg (C.ev fr x) (C.ev fr i):=by
 simp only [bz];generalize C.ev fr x=a;generalize C.ev fr i=b
 cases a <;> cases b <;> rfl
def zhZ:J->J->Option J
 | .str s,.int _ i=>if 0<=i then (s.data.toList[i.toNat]?).map fun b=>.int .u8 b.toNat else none
 | _,_=>none
theorem zh1 (x i:AO):bz C fr (.idxS x i)=zhZ (C.ev fr x) (C.ev fr i):=by
 simp only [bz];generalize C.ev fr x=a;generalize C.ev fr i=b
 cases a <;> cases b <;> rfl
def zoD (i:Nat):J->Option J
 | .tup vs=>vs[i]?
 | _=>none
theorem zla (x:AO)(i:Nat):bz C fr (.ext x i)=zoD i (C.ev fr x):=by
 simp only [bz];cases C.ev fr x <;> rfl
def zh3 (n:Nat):J->Option J
 | .sl b off _ len _=>if n<=len then some (.ptr b off) else none
 | .vsl _ es=>if n<=es.length/\0 < n then some (.vptr (es.take n).flatten 0) else none
 | .gsl _ es=>if n<=es.length/\0 < n then some (.vptr (es.take n).flatten 0) else none
 | _=>none
theorem zlc (n:Nat)(x:AO):bz C fr (.s2a n x)=zh3 n (C.ev fr x):=by
 simp only [bz];cases C.ev fr x <;> rfl
theorem zdP (z : List J)(ps : List (Nat × Nat × AO)) : bz C fr (.build z ps) = (ak z (ps.map fun p => (p.1, p.2.1, C.ev fr p.2.2))).map .agg := by
 simp only [bz];cases ak z (ps.map fun p=>(p.1,p.2.1,C.ev fr p.2.2)) <;> rfl
theorem zh4 (sz len : Nat)(z : List J)(ps : List (Nat × AO)) : bz C fr (.slit sz len z ps) = (ak (rep z len) (ps.map fun p => (p.1 * sz, sz, C.ev fr p.2))).map fun cs => .vsl true (chunks sz len cs) := by
 simp only [bz];cases ak (rep z len) (ps.map fun p=>(p.1*sz,sz,C.ev fr p.2)) <;> rfl
theorem zh6 (m:Bool)(x:AO)(xs:List AO):bz C fr (.mxmn m (x :: xs))=CJ m (C.ev fr x) (xs.map (C.ev fr)):=by simp only [bz,List.map_cons]
end
section
variable (k:IntKind) (a b:Int)
@[simp] theorem zrN (cs:List J):lx (.agg cs)=some (.vptr cs 0):=by unfold lx;exact rfl
@[simp] theorem zp3 (b:Bool):znf (.bool b)=some (.bool !b):=by unfold znf;exact rfl
@[simp] theorem ji (k':IntKind):XT k' (.int k a)=some (.int k' (k'.wrap a)):=by unfold XT;exact rfl
@[simp] theorem zrP (s:ByteArray):zoy (.str s)=some s:=by unfold zoy;exact rfl
@[simp] theorem zrQ (c:Bool)(es:List (List J)):Cg (.vsl c es)=some es.length:=by unfold Cg;exact rfl
@[simp] theorem zsX (x off sz n:Nat)(c:Option Nat):Cg (.sl x off sz n c)=some n:=by unfold Cg;exact rfl
@[simp] theorem zp4 (off x o:Nat):Ls off (.ptr x o)=some (.ptr x (o+off)):=by unfold Ls;exact rfl
@[simp] theorem zoM (off o:Nat)(cs:List J):Ls off (.vptr cs o)=some (.vptr cs (o+off)):=by unfold Ls;exact rfl
@[simp] theorem zrR (x o:Nat):Qk (.ptr x o)=some (.ptr x o):=by unfold Qk;exact rfl
@[simp] theorem zsY (t:TypeId)(v:J):Qk (.iface t v)=some (.iface t v):=by unfold Qk;exact rfl
@[simp] theorem zp5 (o:Nat)(cs:List J):Qk (.vptr cs o)=some (.vptr cs o):=by unfold Qk;exact rfl
@[simp] theorem zrS (off sz:Nat)(g:Bool)(cs:List J):zk2 off sz g (.agg cs)=eL g cs off sz:=by unfold zk2;exact rfl
@[simp] theorem zrT (i:Nat)(vs:List J):zoD i (.tup vs)=vs[i]?:=by unfold zoD;exact rfl
@[simp] theorem zli:aW .add (.int k a) (.int k b)=some (.int k (k.wrap (a+b))):=by simp [aW,mK]
@[simp] theorem TI:aW .sub (.int k a) (.int k b)=some (.int k (k.wrap (a - b))):=by simp [aW,mK]
@[simp] theorem TJ:aW .mul (.int k a) (.int k b)=some (.int k (k.wrap (a*b))):=by simp [aW,mK]
theorem da (h:b≠0):aW .quo (.int k a) (.int k b)=some (.int k (k.wrap (a.tdiv b))):=by simp [aW,mK,h]
theorem bC (h:b≠0):aW .rem (.int k a) (.int k b)=some (.int k (a.tmod b)):=by simp [aW,mK,h]
@[simp] theorem yu:aW .and (.int k a) (.int k b)=some (.int k (k.wrap (BitVec.ofInt k.bits a&&&BitVec.ofInt k.bits b).toNat)):=by simp [aW,mK]
@[simp] theorem Zl:aW .or (.int k a) (.int k b)=some (.int k (k.wrap (BitVec.ofInt k.bits a|||BitVec.ofInt k.bits b).toNat)):=by simp [aW,mK]
@[simp] theorem zlm:aW .xor (.int k a) (.int k b)=some (.int k (k.wrap (BitVec.ofInt k.bits a ^^^ BitVec.ofInt k.bits b).toNat)):=by simp [aW,mK]
@[simp] theorem Zn:aW .andNot (.int k a) (.int k b)=some (.int k (k.wrap (BitVec.ofInt k.bits a&&&~~~ (BitVec.ofInt k.bits b)).toNat)):=by simp [aW,mK]
@[simp] theorem MD:aW .eql (.int k a) (.int k b)=some (.bool (a==b)):=by simp [aW,mK]
@[simp] theorem ME:aW .neq (.int k a) (.int k b)=some (.bool (a !=b)):=by simp [aW,mK]
@[simp] theorem zlp:aW .lss (.int k a) (.int k b)=some (.bool (decide (a < b))):=by simp [aW,mK]
@[simp] theorem zs0:aW .leq (.int k a) (.int k b)=some (.bool (decide (a<=b))):=by simp [aW,mK]
@[simp] theorem zlr:aW .gtr (.int k a) (.int k b)=some (.bool (decide (a > b))):=by simp [aW,mK]
@[simp] theorem vL:aW .geq (.int k a) (.int k b)=some (.bool (decide (a>=b))):=by simp [aW,mK]
@[simp] theorem yv (k':IntKind):aW .shl (.int k a) (.int k' b)=uO .shl k a b:=by simp [aW]
@[simp] theorem j9 (k':IntKind):aW .shr (.int k a) (.int k' b)=uO .shr k a b:=by simp [aW]
@[simp] theorem zrX (s t:ByteArray):aW .eql (.str s) (.str t)=some (.bool (s==t)):=by simp [aW]
@[simp] theorem zqo (s t:ByteArray):aW .neq (.str s) (.str t)=some (.bool !(s==t)):=by simp [aW]
@[simp] theorem zqp (x y:Bool):JQ .bool (.bool x) (.bool y)=some (x==y):=by simp [JQ]
@[simp] theorem zja (sh:List CK)(xs ys:List J):JQ (.agg sh) (.agg xs) (.agg ys)=cR sh xs ys:=by simp [JQ]
theorem ao (cs:List J)(off n:Nat):eL false cs off n=cs[off]?:=by unfold eL;simp
theorem QB {cs:List J}{n:Nat}(h:cs.length=n):eL true cs 0 n=some (.agg cs):=by
 unfold eL;subst h;simp
@[simp] theorem zmQ (h:O)(cs:List J)(off n:Nat)(g:Bool):qC h (.vptr cs off) n g=eL g cs off n:=by unfold qC;exact rfl
theorem QD:∀ (cs pre old:List J),old.length=cs.length->setAt (pre++old) pre.length cs=pre++cs
 | [],pre,old,h=>by simp at h;subst h;rfl
 | c :: cs,pre,[],h=>by simp at h
 | c :: cs, pre, x :: old, h => by
  have:=QD cs (pre++[c]) old (by simpa using h);simp only [setAt];rw [List.set_append_right _ _ (Nat.le_refl _),Nat.sub_self,List.set_cons_zero];simpa using this
theorem Xr {cs old:List J}(h:old.length=cs.length):setAt old 0 cs=cs:=QD cs [] old h
@[simp] theorem zpa (cs:List J)(off:Nat)(v:J):setAt cs off [v]=cs.set off v:=by simp only [setAt]
def hx (h:O)(bs:List (List J))(ts:List Nat):O:=⟨h.blks++bs,h.toks++ts⟩
theorem M5 (h:O):hx h [] []=h:=by simp [hx]
def pA (n i off:Nat):J:=.ptr (n+i) off
def sA (n i off sz len:Nat)(cap:Option Nat):J:=.sl (n+i) off sz len cap
def gA (n i:Nat)(es:List (List J)):J:=.gsl (n+i) es
def V (h:O):az:=⟨h.blks.length,h.toks.length,h.blks.length,h.toks.length⟩
variable (h:O) (bs:List (List J)) (ts:List Nat) (L:az)
@[simp] theorem zqE (n off i o:Nat):Ls off (pA n i o)=some (pA n i (o+off)):=by unfold Ls pA;exact rfl
@[simp] theorem zsn (n i o:Nat):Qk (pA n i o)=some (pA n i o):=by unfold Qk pA;exact rfl
def ZR (cs:Option (List J))(g:Bool)(off n:Nat):Option J:=cs.bind fun cs=>eL g cs off n
@[simp] theorem Xx (cs:List J)(g:Bool)(off n:Nat):ZR (some cs) g off n=eL g cs off n:=by unfold ZR;exact rfl
@[simp] theorem UE (i off n:Nat)(g:Bool):qC (hx h bs ts) (pA h.blks.length i off) n g=ZR bs[i]? g off n:=by
 unfold qC pA hx ZR;simp only;rw [List.getElem?_append_right (Nat.le_add_right _ _),Nat.add_sub_cancel_left]
def stI (h:O)(bs:List (List J))(ts:List Nat)(i off:Nat)(cs old:List J)(b:Bool):Option O:=if b=true then some (hx h (bs.set i (setAt old off cs)) ts) else none
@[simp] theorem Nb (i off:Nat)(cs old:List J):stI h bs ts i off cs old true=some (hx h (bs.set i (setAt old off cs)) ts):=by unfold stI;exact rfl
def stO (h:O)(bs:List (List J))(ts:List Nat)(i off:Nat)(cs:List J)(old:Option (List J)):Option O:=old.bind fun old=>stI h bs ts i off cs old (decide (off+cs.length<=old.length))
@[simp] theorem Nc (i off:Nat)(cs old:List J):stO h bs ts i off cs (some old)=stI h bs ts i off cs old (decide (off+cs.length<=old.length)):=by unfold stO;exact rfl
@[simp] theorem zph (i off:Nat)(cs:List J)(r1 r2 r3 r4:Nat)(h1:r1<=h.blks.length)(h3:r3<=h.blks.length):
  dR ⟨r1,r2,r3,r4⟩ (hx h bs ts) (pA h.blks.length i off) cs=stO h bs ts i off cs bs[i]?:=by
 unfold dR pA stO stI hx;simp only;rw [List.getElem?_append_right (Nat.le_add_right _ _),Nat.add_sub_cancel_left]
 cases bs[i]? with
 | none=>rfl
 | some old=>
  simp only [Option.bind_some];by_cases hc:off+cs.length<=old.length
  ·rw [if_pos ⟨by omega,hc,.inl (by omega)⟩,if_pos (by simpa using hc)];rw [List.set_append_right _ _ (Nat.le_add_right _ _),Nat.add_sub_cancel_left]
  ·rw [if_neg (fun h=>hc h.2.1),if_neg (by simpa using hc)]
@[simp] theorem zm1 (C:eh)(fr:Fr)(z:List J):gr C L fr (hx h bs ts) (.alloc z)=some (pA h.blks.length bs.length 0,hx h (bs++[z]) ts):=by
 simp only [gr];simp [hx,pA,push]
theorem aE (C:eh)(fr:Fr)(x:AO)(hv:(C.ev fr x).okV=true):gr C L fr (hx h bs ts) (.box x)=some (pA h.blks.length bs.length 0,hx h (bs++[(C.ev fr x).cells]) ts):=by
 simp only [gr,hv,if_true];simp [hx,pA,push]
def UG (r:Option O):Option (J × O):=r.map fun h=>(bh,h)
@[simp] theorem zqJ:UG (some h)=some (bh,h):=by unfold UG;exact rfl
def J4 (L:az)(h:O)(n:Nat)(p v:J):Option (J × O):=if (decide (v.cells.length=n)&&v.okV)=true then UG (dR L h p v.cells) else none
@[simp] theorem zsp (C:eh)(fr:Fr)(n:Nat)(x y:AO):gr C L fr h (.st n x y)=J4 L h n (C.ev fr x) (C.ev fr y):=by
 simp only [gr,J4,UG]
 by_cases h1:(C.ev fr y).cells.length=n <;> cases h2:(C.ev fr y).okV <;> simp [h1,h2]
@[simp] theorem zsq (p:J):J4 L h 1 p (.int k a)=UG (dR L h p [.int k a]):=by simp [J4,J.cells,J.okV]
@[simp] theorem zqM (p:J)(b:Bool):J4 L h 1 p (.bool b)=UG (dR L h p [.bool b]):=by simp [J4,J.cells,J.okV]
@[simp] theorem zss (p:J)(b:ByteArray):J4 L h 1 p (.str b)=UG (dR L h p [.str b]):=by simp [J4,J.cells,J.okV]
@[simp] theorem zst (p:J)(c:Bool)(es:List (List J)):J4 L h 1 p (.vsl c es)=UG (dR L h p [.vsl c es]):=by simp [J4,J.cells,J.okV]
@[simp] theorem zti (p:J)(n i:Nat)(es:List (List J)):J4 L h 1 p (gA n i es)=UG (dR L h p [gA n i es]):=by simp [J4,gA,J.cells,J.okV]
theorem zju {cs:List J}{n:Nat}(p:J)(hn:cs.length=n):J4 L h n p (.agg cs)=UG (dR L h p cs):=by simp [J4,J.cells,J.okV,hn]
@[simp] theorem zm6:d7 Mode.pure L h=V h:=by simp [d7,Mode.pure,V]
@[simp] theorem Hj (args:List J):nw Mode.pure h args=mL h args:=by simp [nw,Mode.pure]
@[simp] theorem Hk:mL h []=some ([],false):=by simp only [mL]
def fzK (a:Option (J × Bool))(b:Option (List J × Bool)):Option (List J × Bool):=a.bind fun a=>b.bind fun b=>some (a.1 :: b.1,a.2||b.2)
@[simp] theorem Nl (v:J)(c:Bool)(vs:List J)(d:Bool):fzK (some (v,c)) (some (vs,d))=some (v :: vs,c||d):=by unfold fzK;exact rfl
@[simp] theorem DW (v:J)(vs:List J):mL h (v :: vs)=fzK (oL h v) (mL h vs):=by simp only [mL,fzK,bind]
@[simp] theorem zsw:oL h (.int k a)=some (.int k a,false):=by simp only [oL]
@[simp] theorem zqQ (b:Bool):oL h (.bool b)=some (.bool b,false):=by simp only [oL]
@[simp] theorem fR (c:Bool)(es:List (List J)):oL h (.vsl c es)=some (.vsl false es,false):=by simp only [oL]
@[simp] theorem zts (n i:Nat)(es:List (List J)):oL h (gA n i es)=some (.vsl false es,false):=by simp only [gA,oL]
@[simp] theorem Fl:oL h .nsl=some (.vsl false [],false):=by simp only [oL]
@[simp] theorem zsy (x o:Nat):oL h (.ptr x o)=some (.ptr x o,false):=by simp only [oL]
@[simp] theorem zqU (cs:List J)(o:Nat):oL h (.vptr cs o)=some (.vptr cs o,false):=by simp only [oL]
theorem dT {cs:List J}(hc:aZ cs=true):oL h (.agg cs)=some (.agg cs,false):=by simp only [oL,hc,if_true]
def Iw (a:Option J)(b:Option (List J)):Option (List J):=a.bind fun a=>b.map fun b=>a :: b
@[simp] theorem zne (v:J)(vs:List J):Iw (some v) (some vs)=some (v :: vs):=by unfold Iw;exact rfl
@[simp] theorem zqW (fr:Fr):vN fr h []=some []:=by simp only [vN]
@[simp] theorem zqY (fr:Fr)(t:Nat)(rs:List DB):vN fr h (.tmp t :: rs)=Iw (some (fr t)) (vN fr h rs):=by
 simp only [vN,Iw,bind,Option.bind_some]
 cases vN fr h rs <;> rfl
@[simp] theorem zpr (fr:Fr)(t n:Nat)(g:Bool)(rs:List DB):vN fr h (.cell t n g :: rs)=Iw (qC h (fr t) n g) (vN fr h rs):=by
 simp only [vN,Iw,bind]
 cases qC h (fr t) n g <;> cases vN fr h rs <;> rfl
@[simp] theorem zq0:Gz []=.tup []:=by simp only [Gz]
@[simp] theorem zq1 (v:J):Gz [v]=v:=by simp only [Gz]
@[simp] theorem zq2 (v w:J)(vs:List J):Gz (v :: w :: vs)=.tup (v :: w :: vs):=by simp only [Gz]
def Va (c:Bool)(o:Option (J × O)):Option (J × O):=o.bind fun o=>if (c&&!o.1.flat)=true then none else some o
@[simp] theorem X7 (o:Option (J × O)):Va false o=o:=by unfold Va;cases o <;> simp
theorem Kj (v:J)(hv:v.flat=true):Va true (some (v,h))=some (v,h):=by simp [Va,hv]
def zcy (m:Mode)(h:O)(c:Bool)(h1:O)(vs:Option (List J)):Option (J × O):=vs.bind fun vs=>Va c (vM m h h1 (Gz vs))
@[simp] theorem zps (m:Mode)(c:Bool)(h1:O)(vs:List J):zcy m h c h1 (some vs)=Va c (vM m h h1 (Gz vs)):=by unfold zcy;exact rfl
def Ya (b:Bool)(m:Mode)(h:O)(res:List DB)(c:Bool)(fr:Fr)(h1:O):Option (J × O):=if b=true then zcy m h c h1 (vN fr h1 res) else none
@[simp] theorem zpt (m:Mode)(res:List DB)(c:Bool)(fr:Fr)(h1:O):Ya true m h res c fr h1=zcy m h c h1 (vN fr h1 res):=by unfold Ya;exact rfl
def PS (m:Mode)(h:O)(n:Nat)(res:List DB)(as:List J)(c:Bool)(r:Option (cL × Fr × O)):Option (J × O):=
 r.bind fun r=>Ya (decide ((r.1=.normal\/r.1=.ret)/\as.length<=n)) m h res c r.2.1 r.2.2
@[simp] theorem zq7 (m:Mode)(n:Nat)(res:List DB)(as:List J)(c:Bool)(fr:Fr)(h1:O):PS m h n res as c (some (.ret,fr,h1))=Ya (decide (as.length<=n)) m h res c fr h1:=by
 simp [PS]
@[simp] theorem zl9 (m:Mode)(n:Nat)(res:List DB)(as:List J)(c:Bool)(fr:Fr)(h1:O):PS m h n res as c (some (.normal,fr,h1))=Ya (decide (as.length<=n)) m h res c fr h1:=by
 simp [PS]
def frm (as:List J):Fr:=fun i=>as.getD i bh
@[simp] theorem ztA (as:List J)(i:Nat):frm as i=as.getD i bh:=by unfold frm;exact rfl
noncomputable def Vj (C:eh)(L:az)(m:Mode)(h:O)(n:Nat)(code:AC)(res:List DB)(a:Option (List J × Bool)):Option (J × O):=
 a.bind fun a=>PS m h n res a.1 a.2 (run C (d7 m L h) code (frm a.1) (hx h [] []))
@[simp] theorem Ht (C:eh)(m:Mode)(n:Nat)(code:AC)(res:List DB)(as:List J)(c:Bool):Vj C L m h n code res (some (as,c))=PS m h n res as c (run C (d7 m L h) code (frm as) (hx h [] [])):=by unfold Vj;exact rfl
theorem zf0 {C:eh}{f:FuncId}{n:Nat}{code:AC}{res:List DB}(hx':C.ext f=none)(hf:C.fns f=some ⟨n,code,res,none⟩)(args:List J):aa C L f args h=
  Vj C L (C.mode f) h n code res (nw (C.mode f) h args):=by
 rw [ze1 C L h hx' hf rfl args];unfold Vj PS Ya zcy Va frm;rw [M5]
 cases nw (C.mode f) h args with
 | none=>rfl
 | some a=>
  simp only [Option.bind_some]
  cases run C (d7 (C.mode f) L h) code (fun i=>a.1.getD i bh) h with
  | none=>rfl
  | some r=>
   simp only [Option.bind_some];by_cases hc:(r.1=.normal\/r.1=.ret)/\a.1.length<=n
   ·rw [if_pos hc,if_pos (by simpa using hc)]
   ·rw [if_neg hc,if_neg (by simpa using hc)]
def GU (v:Option J)(h:O):Option (J × O):=v.map fun v=>(v,h)
@[simp] theorem znK (v:J):GU (some v) h=some (v,h):=by unfold GU;exact rfl
@[simp] theorem zpv (h1:O)(v:J):vM Mode.pure h h1 v=GU (frz h1 h.blks.length h.toks.length 12 v) h:=by
 simp [vM,Mode.pure,GU]
section
variable (nb nt n:Nat)
@[simp] theorem zsC:frz h nb nt (n+1) (.int k a)=some (.int k a):=by simp only [frz]
@[simp] theorem zrb (b:Bool):frz h nb nt (n+1) (.bool b)=some (.bool b):=by simp only [frz]
@[simp] theorem zsD (b:ByteArray):frz h nb nt (n+1) (.str b)=some (.str b):=by simp only [frz]
@[simp] theorem zai:frz h nb nt (n+1) .nsl=some (.vsl false []):=by simp only [frz]
theorem ix (c:Bool){es:List (List J)}(he:aJ nb nt es=true):frz h nb nt (n+1) (.vsl c es)=some (.vsl false es):=by simp [frz,Ma,he]
theorem SP {t:Nat}{es:List (List J)}(ht:nt<=t)(he:aJ nb nt es=true):frz h nb nt (n+1) (.gsl t es)=some (.vsl false es):=by
 simp [frz,Ma,he];omega
theorem mY {cs:List J}(hc:aZ cs=true):frz h nb nt (n+1) (.agg cs)=some (.agg cs):=by simp [frz,hc]
def LL (h:O)(nb nt n:Nat):List J->Option (List J)
 | []=>some []
 | c :: cs=>Iw (frz h nb nt n c) (LL h nb nt n cs)
@[simp] theorem zrd:LL h nb nt n []=some []:=by unfold LL;exact rfl
@[simp] theorem zcF (c:J)(cs:List J):LL h nb nt n (c :: cs)=Iw (frz h nb nt n c) (LL h nb nt n cs):=by rw [LL]
theorem SR:∀ cs:List J,cs.mapM (frz h nb nt n)=LL h nb nt n cs
 | []=>by simp
 | c :: cs => by
  rw [zcF,List.mapM_cons,SR cs,Iw]
  cases frz h nb nt n c with
  | none=>rfl
  | some v=>cases LL h nb nt n cs <;> rfl
@[simp] theorem zsG (cs:List J):frz h nb nt (n+1) (.tup cs)=(LL h nb nt n cs).map .tup:=by
 simp only [frz];rw [SR]
end
@[simp] theorem zpz:aZ []=true:=by simp only [aZ]
@[simp] theorem znQ (c:J)(cs:List J):aZ (c :: cs)=(c.flat&&aZ cs):=by simp only [aZ]
@[simp] theorem zrh:(J.int k a).flat=true:=by simp only [J.flat]
@[simp] theorem zrj (b:ByteArray):(J.str b).flat=true:=by simp only [J.flat]
attribute [simp] zjA znb zfr zjJ znd zjM zjN zjQ zhM zhO zhP zhQ zdM zhR zk1 zk3 zhU zhY zh1 zla zlc zdP zh4 zh6
attribute [simp] ao
end
end Go.Av
namespace Go.Av
def wr:AC->List Nat
 | .reg ops=>bn ops
 | .draw ops=>bn ops
 | .draw2 a _ _=>bn a
 | .seq a b=>wr a++wr b
 | .cond _ a b=>wr a++wr b
 | .blk _ a=>wr a
 | .loop a=>wr a
 | .scope a=>wr a
 | _=>[]
theorem QA {i:AI}{is:List AI}{t:Nat}(h:t∉bn (i :: is)):i.dst≠some t/\t∉bn is:=by
 simp only [bn] at h
 cases hd:i.dst with
 | none=>rw [hd] at h;exact ⟨by simp,h⟩
 | some d=>rw [hd] at h;simp at h;exact ⟨by simp;exact fun e=>h.1 e.symm,h.2⟩
theorem Ik {fr:Fr}{d:Option Nat}{v:J}{t:Nat}(h:d≠some t):put fr d v t=fr t:=by
 cases d with
 | none=>rfl
 | some d=>
  have:t≠d:=fun e=>h (by rw [e]);simp [put,zb,this]
theorem Xo {l:Nat}:∀ {a r:AC},kM a l=some r->∀ t,t∈wr r->t∈wr a:=by
 intro a
 induction a with
 | seq a b ih1 ih2=>
  intro r h t ht;simp only [kM] at h;split at h
  ·rename_i r1 h1;obtain rfl:=sj h;simp only [wr,List.mem_append] at ht |-;exact ht.imp (ih1 h1 t) id
  ·simp only [wr,List.mem_append];exact .inr (ih2 h t ht)
 | label l'=>
  intro r h t ht;simp only [kM] at h;split at h
  ·obtain rfl:=sj h;simp [wr] at ht
  ·simp at h
 | _=>intro r h;simp [kM] at h
theorem WC {C:eh}{L:az}{c:AC}{fr:Fr}{h:O}{r:cL × Fr × O}(hv:run C L c fr h=some r):∀ t,t∉wr c->r.2.1 t=fr t:=by
 refine (aa.mutual_partial_correctness C
  (fun _ _ _ _ _=>True)
  (fun L c fr h r=>∀ t,t∉wr c->r.2.1 t=fr t)
  (fun L a e fr h r=>∀ t,t∉wr a->r.2.1 t=fr t)
  (fun _ _ _ _ _ _=>True) (fun _ _ _ _ _ _=>True) (fun _ _ _ _ _=>True)
  (fun L ops fr h r=>∀ t,t∉bn ops->r.1 t=fr t)
  (fun _ _ _ _ _=>True) (fun _ _ _ _ _=>True)
  (fun L ops fr h r=>∀ t,t∉bn ops->r.1 t=fr t)
  ?_ ?_ ?_ ?_ ?_ ?_ ?_ ?_ ?_ ?_).2.1 L c fr h r hv
 ·intros;trivial
 ·intro run KR pc lr tf hrun hscope hchk hrunD hrunO L c fr h r hv t ht;split at hv
  ·obtain rfl:=sj hv;rfl
  ·obtain rfl:=sj hv;rfl
  ·obtain ⟨r1,hr1,hv⟩:=bind_some hv;obtain rfl:=sj hv;exact hrunO _ _ _ _ _ hr1 t ht
  ·obtain ⟨r1,hr1,hv⟩:=bind_some hv;obtain ⟨u,hu,hv⟩:=bind_some hv;obtain rfl:=sj hv;exact hrunD _ _ _ _ _ hr1 t ht
  ·obtain ⟨r1,hr1,hv⟩:=bind_some hv;obtain ⟨u,hu,hv⟩:=bind_some hv;obtain ⟨r2,hr2,hv⟩:=bind_some hv;obtain ⟨u2,hu2,hv⟩:=bind_some hv;split at hv
   ·obtain rfl:=sj hv;exact hrunD _ _ _ _ _ hr1 t ht
   ·simp at hv
  ·obtain ⟨r1,hr1,hv⟩:=bind_some hv;simp only [wr,List.mem_append,not_or] at ht;have k1:=hrun _ _ _ _ _ hr1 t ht.1;split at hv
   ·exact (hrun _ _ _ _ _ hv t ht.2).trans k1
   ·obtain rfl:=sj hv;exact k1
  ·simp only [wr,List.mem_append,not_or] at ht;split at hv
   ·exact hrun _ _ _ _ _ hv t ht.1
   ·exact hrun _ _ _ _ _ hv t ht.2
   ·simp at hv
  ·obtain ⟨r1,hr1,hv⟩:=bind_some hv;have k1:=hrun _ _ _ _ _ hr1 t ht;split at hv
   ·obtain rfl:=sj hv;exact k1
   ·obtain rfl:=sj hv;exact k1
  ·obtain ⟨r1,hr1,hv⟩:=bind_some hv;have k1:=hrun _ _ _ _ _ hr1 t ht;split at hv
   ·exact (hrun _ _ _ _ _ hv t ht).trans k1
   ·obtain rfl:=sj hv;exact k1
  ·obtain rfl:=sj hv;rfl
  ·obtain ⟨r1,hr1,hv⟩:=bind_some hv;exact (hscope _ _ _ _ _ _ hv t ht).trans (hrun _ _ _ _ _ hr1 t ht)
  ·obtain rfl:=sj hv;rfl
  ·obtain rfl:=sj hv;rfl
 ·intro run KR hrun hscope L a e fr h r hv t ht;split at hv
  ·split at hv
   ·rename_i rest hl;obtain ⟨r1,hr1,hv⟩:=bind_some hv;exact (hscope _ _ _ _ _ _ hv t ht).trans (hrun _ _ _ _ _ hr1 t fun hx=>ht (Xo hl t hx))
   ·obtain rfl:=sj hv;rfl
  ·obtain rfl:=sj hv;rfl
 ·intros;trivial
 ·intros;trivial
 ·intros;trivial
 ·intro lr step1 hrunD hstep1 L ops fr h r hv t ht;split at hv
  ·obtain rfl:=sj hv;rfl
  ·rename_i i rest;obtain ⟨t1,t2⟩:=QA ht;split at hv
   ·obtain ⟨r1,hr1,hv⟩:=bind_some hv;obtain ⟨q,hq,hv⟩:=bind_some hv;obtain rfl:=sj hv;exact (hrunD _ _ _ _ _ hq t t2).trans (Ik t1)
   ·obtain ⟨q,hq,hv⟩:=bind_some hv;obtain rfl:=sj hv;exact (hrunD _ _ _ _ _ hq t t2).trans (Ik t1)
 ·intros;trivial
 ·intros;trivial
 ·intro step1 tf hstep1 hrunO L ops fr h r hv t ht;split at hv
  ·obtain rfl:=sj hv;rfl
  ·rename_i i rest;obtain ⟨t1,t2⟩:=QA ht;split at hv
   ·obtain ⟨r1,hr1,hv⟩:=bind_some hv;exact (hrunO _ _ _ _ _ hv t t2).trans (Ik t1)
   ·exact (hrunO _ _ _ _ _ hv t t2).trans (Ik t1)
theorem Z (cs:List J)(n:Nat)(h:(cs.length==n)=true):eL true cs 0 n=some (.agg cs):=QB (by simpa using h)
theorem aq (L:az)(h:O)(cs:List J)(n:Nat)(p:J)(hn:(cs.length==n)=true):J4 L h n p (.agg cs)=UG (dR L h p cs):=zju h L p (by simpa using hn)
theorem ab (cs old:List J)(h:(old.length==cs.length)=true):setAt old 0 cs=cs:=Xr (by simpa using h)
theorem ziM (k:IntKind)(a b:Int)(h:(decide (0<=b)&&decide (b<=k.bits))=true):uO .shr k a b=some (.int k (a.fdiv (2 ^ b.toNat))):=by
 simp only [Bool.and_eq_true,decide_eq_true_eq] at h;unfold uO;rw [if_neg (by omega),Nat.min_eq_left (by omega)]
theorem ztW (k:IntKind)(a b:Int)(h:(decide (0<=b)&&decide (b<=k.bits))=true):uO .shl k a b=some (.int k (k.wrap (a*2 ^ b.toNat))):=by
 simp only [Bool.and_eq_true,decide_eq_true_eq] at h;unfold uO;rw [if_neg (by omega),Nat.min_eq_left (by omega)]
@[simp] theorem wrap_zero (k:IntKind):k.wrap 0=0:=by cases k <;> decide
theorem wrap_i64 {n:Int}(h1: -9223372036854775808<=n)(h2:n<=9223372036854775807):IntKind.i64.wrap n=n:=by
 simp [IntKind.wrap,IntKind.signed,IntKind.bits];omega
theorem wz {n:Int}(h1: -9223372036854775808<=n:=by omega)(h2:n<=9223372036854775807:=by omega):IntKind.i64.wrap n=n:=wrap_i64 h1 h2
theorem wy {n m:Int}(h1: -9223372036854775808<=n:=by omega)(h2:n<=9223372036854775807:=by omega)(h3:n=m:=by omega):IntKind.i64.wrap n=m:=(wrap_i64 h1 h2).trans h3
theorem wrap_u64 {n:Int}(h1:0<=n)(h2:n<=18446744073709551615):IntKind.u64.wrap n=n:=by
 simp [IntKind.wrap,IntKind.signed,IntKind.bits];omega
theorem wrap_u8 {n:Int}(h1:0<=n)(h2:n<=255):IntKind.u8.wrap n=n:=by
 simp [IntKind.wrap,IntKind.signed,IntKind.bits];omega
def Ends {α:Type}(x:Option α)(P:α->Prop):Prop:=∃ r,x=some r/\P r
@[simp] theorem zqf {α:Type}(r:α)(P:α->Prop):Ends (some r) P↔P r:=by simp [Ends]
@[congr] theorem zo4 {α:Type}{x y:Option α}(P:α->Prop)(h:x=y):Ends x P=Ends y P:=by rw [h]
def O9 (N k:Nat)(I:Nat->Fr->O->Prop)(xv:cL->Fr->O->Prop)(r:cL × Fr × O):Prop:=
 match r.1 with
 | .normal=>k < N/\I (k+1) r.2.1 r.2.2
 | e=>xv e r.2.1 r.2.2
@[simp] theorem JE (N k:Nat)(I:Nat->Fr->O->Prop)(xv:cL->Fr->O->Prop)(fr:Fr)(h:O):O9 N k I xv (.normal,fr,h)↔(k < N/\I (k+1) fr h):=by unfold O9;exact Iff.rfl
@[simp] theorem zo6 (N k:Nat)(I:Nat->Fr->O->Prop)(xv:cL->Fr->O->Prop)(i:Nat)(fr:Fr)(h:O):O9 N k I xv (.exit i,fr,h)↔xv (.exit i) fr h:=by unfold O9;exact Iff.rfl
@[simp] theorem zqh (N k:Nat)(I:Nat->Fr->O->Prop)(xv:cL->Fr->O->Prop)(fr:Fr)(h:O):O9 N k I xv (.ret,fr,h)↔xv .ret fr h:=by unfold O9;exact Iff.rfl
theorem af {C:eh}{L:az}{B:AC}{fr0:Fr}{h0:O}{R:Option (cL × Fr × O)}(hF:run C L (.loop B) fr0 h0=R)(N:Nat)(I:Nat->Fr->O->Prop)(xv:cL->Fr->O->Prop)(hI:I 0 fr0 h0)
  (step:∀ k fr h,k<=N->(∀ t,t∉wr B->fr t=fr0 t)->I k fr h->Ends (run C L B fr h) (O9 N k I xv)):
  ∃ e fr h,R=some (e,fr,h)/\xv e fr h/\(∀ t,t∉wr B->fr t=fr0 t):=by
 subst hF;have key:∀ m k fr h,N - k=m->k<=N->(∀ t,t∉wr B->fr t=fr0 t)->I k fr h->
   ∃ e fr' h',run C L (.loop B) fr h=some (e,fr',h')/\xv e fr' h'/\(∀ t,t∉wr B->fr' t=fr0 t):=by
  intro m
  induction m with
  | zero=>
   intro k fr h hm hk hkeep hi;obtain ⟨⟨e,fr1,h1⟩,hr,hp⟩:=step k fr h hk hkeep hi;have hkp:=WC hr;rw [J8,hr]
   cases e with
   | normal=>have:=(JE N k I xv fr1 h1).1 hp;omega
   | exit i=>exact ⟨_,_,_,rfl,hp,fun t ht=>(hkp t ht).trans (hkeep t ht)⟩
   | goto l=>exact ⟨_,_,_,rfl,hp,fun t ht=>(hkp t ht).trans (hkeep t ht)⟩
   | ret=>exact ⟨_,_,_,rfl,hp,fun t ht=>(hkp t ht).trans (hkeep t ht)⟩
  | succ m ih=>
   intro k fr h hm hk hkeep hi;obtain ⟨⟨e,fr1,h1⟩,hr,hp⟩:=step k fr h hk hkeep hi;have hkp:=WC hr;rw [J8,hr]
   cases e with
   | normal=>
    have:=(JE N k I xv fr1 h1).1 hp;exact ih (k+1) fr1 h1 (by omega) (by omega) (fun t ht=>(hkp t ht).trans (hkeep t ht)) this.2
   | exit i=>exact ⟨_,_,_,rfl,hp,fun t ht=>(hkp t ht).trans (hkeep t ht)⟩
   | goto l=>exact ⟨_,_,_,rfl,hp,fun t ht=>(hkp t ht).trans (hkeep t ht)⟩
   | ret=>exact ⟨_,_,_,rfl,hp,fun t ht=>(hkp t ht).trans (hkeep t ht)⟩
 exact key N 0 fr0 h0 rfl (Nat.zero_le _) (fun _ _=>rfl) hI
def gL (s:J)(n i:Nat)(es:List (List J)):J:=if es=[] then s else gA n i es
def gT (es:List (List J)):List Nat:=if es=[] then [] else [es.length]
theorem zo0 {C:eh}{fr:Fr}{L:az}{h:O}{bs:List (List J)}{sz:Nat}{x y:AO}{s:J}{es ys:List (List J)}(hs:s=.nsl\/s=.vsl true [])
  (hx':C.ev fr x=gL s h.toks.length 0 es) (hy:aH (hx h bs (gT es)) sz (C.ev fr y)=some ys) (hstr:fc sz (C.ev fr y)=true)
  (hsz:cS sz ys=true) (hse:cS sz es=true) (hr:L.rot<=h.toks.length) (hroom:es.length+ys.length < am):
  gr C L fr (hx h bs (gT es)) (.app sz false x y)=some (gL s h.toks.length 0 (es++ys),hx h bs (gT (es++ys))):=by
 simp only [gr,bind,hy,Option.bind_some,hstr,if_true];rw [hx'];unfold Fb;rw [if_pos hsz];by_cases he:es=[]
 ·subst he;have h1:gL s h.toks.length 0 []=s:=by simp [gL]
  rw [h1];by_cases hy0:ys=[]
  ·subst hy0
   rcases hs with rfl | rfl <;> simp [gL,gT,cS]
  ·have hroom':ys.length < am:=by simpa using hroom
   rcases hs with rfl | rfl <;> simp [gL,gT,cS,hy0,hroom',jl,gA,hx,ptok]
 ·have h1:gL s h.toks.length 0 es=gA h.toks.length 0 es:=by simp [gL,he]
  rw [h1];have h2:gT es=[es.length]:=by simp [gT,he]
  have h3:gL s h.toks.length 0 (es++ys)=gA h.toks.length 0 (es++ys):=by simp [gL,he]
  have h4:gT (es++ys)=[es.length+ys.length]:=by simp [gT,he]
  rw [h3,h2,h4];simp only [gA,Nat.add_zero];have h5:(hx h bs [es.length]).toks[h.toks.length]?=some es.length:=by simp [hx]
  rw [if_pos ⟨trivial,he,hse,hr,h5,hroom⟩];simp [hx]
def jm (L:az)(h:O)(sz:Nat)(ref:Bool)(x y:J):Option (J × O):=
 (aH h sz y).bind fun ys=>if fc sz y=true then Fb L ref sz h x ys else none
@[simp] theorem ziH (C:eh)(fr:Fr)(L:az)(h:O)(sz:Nat)(ref:Bool)(x y:AO):gr C L fr h (.app sz ref x y)=jm L h sz ref (C.ev fr x) (C.ev fr y):=by
 simp only [gr,jm,bind]
theorem TT {L:az}{h:O}{bs:List (List J)}{sz:Nat}{s y:J}{es ys:List (List J)}(hs:s=.nsl\/s=.vsl true [])
  (hy:aH (hx h bs (gT es)) sz y=some ys) (hstr:fc sz y=true) (hsz:cS sz ys=true) (hse:cS sz es=true) (hr:L.rot<=h.toks.length) (hroom:es.length+ys.length < am):
  jm L (hx h bs (gT es)) sz false (gL s h.toks.length 0 es) y=some (gL s h.toks.length 0 (es++ys),hx h bs (gT (es++ys))):=by
 let C:eh:={fns:=fun _=>none,mode:=fun _=>Mode.pure,glob:=fun _=>none,meth:=fun _ _=>none,ext:=fun _=>none}
 have:=zo0 (C:=C) (fr:=fun _=>bh) (x:=.k (gL s h.toks.length 0 es)) (y:=.k y) hs rfl hy hstr hsz hse hr hroom;rw [ziH] at this;exact this
theorem FL (L:az)(h:O)(bs:List (List J))(sz:Nat)(c:Bool)(es ys:List (List J))
  (hc:(cS sz ys&&cS sz es&&decide (L.rot<=h.toks.length)&&decide (es.length+ys.length < am))=true):
  jm L (hx h bs (gT es)) sz false (gL .nsl h.toks.length 0 es) (.vsl c ys)=some (gL .nsl h.toks.length 0 (es++ys),hx h bs (gT (es++ys))):=by
 simp only [Bool.and_eq_true,decide_eq_true_eq] at hc;exact TT (.inl rfl) (by simp only [aH]) (by simp only [fc]) hc.1.1.1 hc.1.1.2 hc.1.2 hc.2
theorem yx (L:az)(h:O)(bs:List (List J))(sz:Nat)(c:Bool)(es ys:List (List J))
  (hc:(cS sz ys&&cS sz es&&decide (L.rot<=h.toks.length)&&decide (es.length+ys.length < am))=true):
  jm L (hx h bs (gT es)) sz false (gL (.vsl true []) h.toks.length 0 es) (.vsl c ys)=some (gL (.vsl true []) h.toks.length 0 (es++ys),hx h bs (gT (es++ys))):=by
 simp only [Bool.and_eq_true,decide_eq_true_eq] at hc;exact TT (.inr rfl) (by simp only [aH]) (by simp only [fc]) hc.1.1.1 hc.1.1.2 hc.1.2 hc.2
theorem RP (L:az)(h:O)(bs:List (List J))(ts:List Nat)(sz:Nat)(c:Bool)(es ys:List (List J))
  (hc:(cS sz ys&&cS sz es&&decide (es.length+ys.length < am)&&decide (0 < ys.length))=true):
  jm L (hx h bs ts) sz false (.vsl true es) (.vsl c ys)=some (gA h.toks.length ts.length (es++ys),hx h bs (ts++[es.length+ys.length])):=by
 simp only [Bool.and_eq_true,decide_eq_true_eq] at hc;have hy:ys≠[]:=fun e=>by have:=hc.2;simp [e] at this
 simp [jm,aH,fc,Fb,hc.1.1.1,hc.1.1.2,hc.1.2,hy,jl,gA,hx,ptok]
theorem Cm (L:az)(h:O)(bs:List (List J))(ts:List Nat)(sz i:Nat)(c:Bool)(es ys:List (List J))
  (hc:(cS sz ys&&cS sz es&&decide (es.length+ys.length < am)&&decide (0 < es.length)&&decide (L.rot<=h.toks.length)&&(ts[i]?==some es.length))=true):
  jm L (hx h bs ts) sz false (gA h.toks.length i es) (.vsl c ys)=some (gA h.toks.length i (es++ys),hx h bs (ts.set i (es.length+ys.length))):=by
 simp only [Bool.and_eq_true,decide_eq_true_eq,beq_iff_eq] at hc;obtain ⟨⟨⟨⟨⟨c1,c2⟩,c3⟩,c4⟩,c5⟩,c6⟩:=hc;have he:es≠[]:=fun e=>by simp [e] at c4
 have h5:(hx h bs ts).toks[h.toks.length+i]?=some es.length:=by
  simp only [hx];rw [List.getElem?_append_right (Nat.le_add_right _ _),Nat.add_sub_cancel_left];exact c6
 simp only [jm,aH,fc,Fb,gA,c1,c2,Option.bind_some,if_true];rw [if_pos ⟨trivial,he,by trivial,by omega,h5,c3⟩];simp only [hx];rw [List.set_append_right _ _ (Nat.le_add_right _ _),Nat.add_sub_cancel_left]
theorem pe {h1:O}{nb nt n:Nat}{s:J}{es:List (List J)}(hs:s=.nsl\/s=.vsl true [])(he:aJ nb nt es=true):frz h1 nb nt (n+1) (gL s nt 0 es)=some (.vsl false es):=by
 unfold gL;split
 ·rename_i h0;subst h0;rcases hs with rfl | rfl
  ·simp
  ·exact ix h1 nb nt n true (by simp [aJ])
 ·exact SP h1 nb nt n (by simp) he
def eI (k:IntKind)(l:List Int):List (List J):=l.map fun n=>[.int k n]
@[simp] theorem TR (k:IntKind)(l:List Int):(eI k l).length=l.length:=by simp [eI]
@[simp] theorem MI (k:IntKind)(l:List Int):cS 1 (eI k l)=true:=by cases l <;> simp [eI,cS]
@[simp] theorem OY (k:IntKind)(nb nt:Nat):∀ l:List Int,aJ nb nt (eI k l)=true
 | []=>by simp [eI,aJ]
 | x :: l => by
  have:=OY k nb nt l;simp only [eI] at this;simp [eI,aJ,ay,J.under,this]
@[simp] theorem KT (k:IntKind)(l m:List Int):eI k l++eI k m=eI k (l++m):=by simp [eI]
theorem ziD (k:IntKind)(l:List Int)(i:Nat):(eI k l)[i]?=(l[i]?).map fun n=>[.int k n]:=by simp [eI]
theorem fx (k:IntKind)(n:Int):[[J.int k n]]=eI k [n]:=rfl
theorem yw (k:IntKind)(n:Int)(l:List Int):[J.int k n] :: eI k l=eI k (n :: l):=rfl
@[simp] theorem Zz (k:IntKind):eI k []=[]:=rfl
def bts (s:ByteArray):List Int:=s.data.toList.map fun b=>(b.toNat:Int)
theorem zbq (s:ByteArray):(s.data.toList.map fun b=>[J.int .u8 b.toNat])=eI .u8 (bts s):=by unfold bts eI;rw [List.map_map];rfl
@[simp] theorem zs5 (s:ByteArray):(bts s).length=s.size:=by unfold bts;rw [List.length_map];rfl
@[simp] theorem zqr (sz:Nat)(x:List J):cS sz [x]=(x.length==sz):=rfl
abbrev zi9:Mode:=⟨false,false,false,true⟩
section
variable (L:az) (h:O) (bs:List (List J)) (ts:List Nat)
def Ac (h:O)(t n:Nat):O:=⟨h.blks,h.toks.set t n⟩
@[simp] theorem zpV (t n:Nat):(Ac h t n).blks=h.blks:=rfl
@[simp] theorem zrV (t n:Nat):(Ac h t n).toks.length=h.toks.length:=by simp [Ac]
@[simp] theorem VO:gq (hx h bs ts) h.blks.length h.toks.length=h:=by simp [gq,hx]
@[simp] theorem zpY (args:List J):nw zi9 h args=some (args,false):=by simp [nw]
@[simp] theorem zpZ:d7 zi9 L h=⟨L.rob,L.rot,h.blks.length,h.toks.length⟩:=by simp [d7]
theorem zhg (es:List (List J))(hu:(aJ h.blks.length h.toks.length es&&(ts[0]?==some es.length))=true):
  vM zi9 h (hx h bs ts) (gA h.toks.length 0 es)=some (.gsl h.toks.length es,ptok h es.length):=by
 simp only [Bool.and_eq_true,beq_iff_eq] at hu;obtain ⟨u1,u2⟩:=hu;have h5:(hx h bs ts).toks[h.toks.length]?=some es.length:=by
  simp only [hx];rw [List.getElem?_append_right (Nat.le_refl _),Nat.sub_self];exact u2
 unfold vM;simp only [gA,Nat.add_zero,h5,u1,VO];simp
theorem zg1 (t:Nat)(es:List (List J))(h':O)(hl:h'.blks.length=h.blks.length/\h'.toks.length=h.toks.length)(ht:t < h.toks.length)(hu:aJ h.blks.length h.toks.length es=true):
  vM zi9 h (hx h' bs ts) (.gsl t es)=some (.gsl t es,h'):=by
 have e:gq (hx h' bs ts) h.blks.length h.toks.length=h':=by rw [<- hl.1,<- hl.2];exact VO h' bs ts
 unfold vM;simp only [e];have hnot:¬h.toks.length<=t:=by omega
 simp [hnot,frz,Ma,hu,ht]
theorem zg3 (sz t:Nat)(c:Bool)(es ys:List (List J))(ht:h.toks[t]?=some es.length)
  (hc:(cS sz ys&&cS sz es&&decide (es.length+ys.length < am)&&decide (0 < es.length)&&decide (L.rot<=t))=true):
  jm L (hx h bs ts) sz false (.gsl t es) (.vsl c ys)=some (.gsl t (es++ys),hx (Ac h t (es.length+ys.length)) bs ts):=by
 simp only [Bool.and_eq_true,decide_eq_true_eq] at hc;obtain ⟨⟨⟨⟨c1,c2⟩,c3⟩,c4⟩,c5⟩:=hc;have he:es≠[]:=fun e=>by simp [e] at c4
 have hlt:=(List.getElem?_eq_some_iff.1 ht).1;have h5:(hx h bs ts).toks[t]?=some es.length:=by
  simp only [hx];rw [List.getElem?_append_left hlt];exact ht
 simp only [jm,aH,fc,Fb,c1,c2,Option.bind_some,if_true];rw [if_pos ⟨trivial,he,by trivial,c5,h5,c3⟩];simp only [hx,Ac];rw [List.set_append_left _ _ hlt]
theorem zg5 (i:Nat)(es:List Int)(s:ByteArray)
  (hc:(decide (es.length+s.size < am)&&decide (0 < es.length)&&decide (L.rot<=h.toks.length)&&(ts[i]?==some es.length))=true):
  jm L (hx h bs ts) 1 false (gA h.toks.length i (eI .u8 es)) (.str s)=some (gA h.toks.length i (eI .u8 (es++bts s)),hx h bs (ts.set i (es.length+s.size))):=by
 have hs:jm L (hx h bs ts) 1 false (gA h.toks.length i (eI .u8 es)) (.str s)=jm L (hx h bs ts) 1 false (gA h.toks.length i (eI .u8 es)) (.vsl false (eI .u8 (bts s))):=by
  simp [jm,aH,fc,zbq]
 have h1:=Cm L h bs ts 1 i false (eI .u8 es) (eI .u8 (bts s)) (by simpa using hc);rw [hs,h1];simp
theorem ZF (n:Nat):ptok (hx h bs ts) n=hx h bs (ts++[n]):=by simp [ptok,hx]
theorem aB:(hx h bs ts).toks.length=h.toks.length+ts.length:=by simp [hx]
theorem aC:(hx h bs ts).blks.length=h.blks.length+bs.length:=by simp [hx]
theorem zjf (i n:Nat):Ac (hx h bs ts) (h.toks.length+i) n=hx h bs (ts.set i n):=by
 simp only [Ac,hx];rw [List.set_append_right _ _ (Nat.le_add_right _ _),Nat.add_sub_cancel_left]
end
end Go.Av
namespace Go.Av
def tab {α:Type}(n:Nat)(f:Nat->α):List α:=(List.range n).map f
@[simp] theorem AK {α:Type}(n:Nat)(f:Nat->α):(tab n f).length=n:=by simp [tab]
theorem l6 {α:Type}(n:Nat)(f:Nat->α)(i:Nat):(tab n f)[i]?=if i < n then some (f i) else none:=by
 unfold tab;by_cases h:i < n
 ·rw [List.getElem?_map,List.getElem?_range h,if_pos h];rfl
 ·rw [if_neg h];simp;omega
theorem zeG {α:Type}{n:Nat}{f:Nat->α}{i:Nat}(h:i < n):(tab n f)[i]?=some (f i):=by rw [l6,if_pos h]
theorem bj {α:Type}{n:Nat}{f g:Nat->α}(h:∀ i,i < n->f i=g i):tab n f=tab n g:=by
 unfold tab;exact List.map_congr_left fun i hi=>h i (by simpa using hi)
theorem vq {α : Type}(n : Nat)(f : Nat -> α)(i : Nat)(v : α) : (tab n f).set i v = tab n (fun j => if j = i then v else f j) := by
 refine List.ext_getElem? fun j=>?_;rw [List.getElem?_set,AK,l6,l6];by_cases h:i=j
 ·subst h;simp
 ·simp [h,Ne.symm h]
theorem Uu {α : Type}(l : List α)(d : α) : tab l.length (fun i => l.getD i d) = l := by
 refine List.ext_getElem? fun j=>?_;rw [l6];by_cases h:j < l.length
 ·rw [if_pos h,List.getElem?_eq_getElem h];simp [List.getD,h]
 ·rw [if_neg h,List.getElem?_eq_none (by omega)]
theorem zbF {α:Type}{l:List α}{n:Nat}(d:α)(h:l.length=n):l=tab n (fun i=>l.getD i d):=by subst h;exact (Uu l d).symm
theorem zeJ {α:Type}{n:Nat}{f:Nat->α}{i:Nat}{d:α}(h:i < n):(tab n f).getD i d=f i:=by
 rw [List.getD,zeG h];rfl
theorem Ff {α β : Type}(n : Nat)(f : Nat -> α)(g : α -> β) : (tab n f).map g = tab n (fun i => g (f i)) := by
 simp [tab,Function.comp_def]
theorem yG {α : Type}(n : Nat)(f : Nat -> α)(o m : Nat)(h : o + m <= n) : ((tab n f).drop o).take m = tab m (fun i => f (o + i)) := by
 refine List.ext_getElem? fun j=>?_;rw [l6,List.getElem?_take];by_cases hj:j < m
 ·rw [if_pos hj,if_pos hj,List.getElem?_drop,zeG (by omega)]
 ·rw [if_neg hj,if_neg hj]
theorem zbG (f : Nat -> J)(g : Nat -> J)(m : Nat) : ∀ (n o : Nat), o + m <= n -> setAt (tab n f) o (tab m g) = tab n (fun i => if o <= i /\ i < o + m then g (i - o) else f i) := by
 have key:∀ (cs:List J) (old:List J) (o i:Nat),o+cs.length<=old.length->(setAt old o cs)[i]?=if o<=i/\i < o+cs.length then cs[i - o]? else old[i]?:=by
  intro cs
  induction cs with
  | nil=>intro old o i h;simp [setAt];omega
  | cons c cs ih=>
   intro old o i h;simp only [setAt];simp only [List.length_cons] at h;rw [ih _ _ _ (by simp;omega)];by_cases h1:o+1<=i/\i < o+1+cs.length
   ·rw [if_pos h1,if_pos ⟨by omega,by simp only [List.length_cons];omega⟩];rw [show i - o=(i - (o+1))+1 by omega,List.getElem?_cons_succ]
   ·rw [if_neg h1];by_cases h2:i=o
    ·subst h2;rw [List.getElem?_set_self (by omega),if_pos ⟨Nat.le_refl _,by simp⟩];simp
    ·rw [List.getElem?_set_ne (Ne.symm h2),if_neg (by simp only [List.length_cons];omega)]
 intro n o h;refine List.ext_getElem? fun i=>?_;rw [key _ _ _ _ (by simpa using h),AK,l6,l6,l6];by_cases h1:o<=i/\i < o+m
 ·rw [if_pos h1,if_pos (by omega),if_pos (by omega),if_pos h1]
 ·rw [if_neg h1,if_neg h1]
theorem MS {α : Type}(x : α)(n : Nat) : aO x n = tab n (fun _ => x) := by
 refine List.ext_getElem? fun j=>?_;have key:∀ n j:Nat,(aO x n)[j]?=if j < n then some x else none:=by
  intro n
  induction n with
  | zero=>intro j;simp [aO]
  | succ n ih=>
   intro j
   cases j with
   | zero=>simp [aO]
   | succ j=>simp only [aO,List.getElem?_cons_succ,ih];simp
 rw [key,l6]
def gd {α:Type}(l:List α)(d:α)(i:Nat):α:=l.getD i d
theorem dY {α:Type}{n:Nat}{f:Nat->α}{i:Nat}{d:α}(h:i < n):gd (tab n f) d i=f i:=zeJ h
theorem zeM {α:Type}(l:List α)(d:α):tab l.length (gd l d)=l:=Uu l d
theorem Fg {α:Type}{l:List α}{n:Nat}(d:α)(h:l.length=n):l=tab n (gd l d):=zbF d h
theorem Fh {α:Type}{l:List α}{i:Nat}{d:α}(h:i < l.length):l[i]?=some (gd l d i):=by
 unfold gd;simp [List.getD,h]
def cY {α:Type}(n:Nat)(f g:Nat->α)(k:Nat):List α:=tab n fun j=>if j < k then f j else g j
@[simp] theorem DH {α:Type}(n:Nat)(f g:Nat->α)(k:Nat):(cY n f g k).length=n:=by simp [cY]
theorem nz {α:Type}(n:Nat)(f g:Nat->α)(k:Nat):(cY n f g k).set k (f k)=cY n f g (k+1):=by
 unfold cY;rw [vq];refine bj fun j hj=>?_;by_cases h1:j=k
 ·subst h1;simp
 ·by_cases h2:j < k
  ·rw [if_neg h1,if_pos h2,if_pos (by omega)]
  ·rw [if_neg h1,if_neg h2,if_neg (by omega)]
theorem kT {α:Type}(n:Nat)(f g:Nat->α):cY n f g 0=tab n g:=bj fun j hj=>by simp
theorem tK {α:Type}(n:Nat)(f g:Nat->α):cY n f g n=tab n f:=bj fun j hj=>by simp [hj]
theorem Mh {α:Type}{n:Nat}{f g:Nat->α}{k:Nat}{d:α}(h:k < n):gd (cY n f g k) d k=g k:=by
 unfold cY;rw [dY h];simp
abbrev ac:=BitVec 64
def wd (x:ac):J:=.int .u64 x.toNat
def cW (l:List ac):List J:=l.map wd
def cB (l:List Bool):List J:=l.map J.bool
def cI (k:IntKind)(l:List Int):List J:=l.map fun n=>.int k n
@[simp] theorem zs8 (l:List ac):(cW l).length=l.length:=by simp [cW]
@[simp] theorem zs9 (l:List Bool):(cB l).length=l.length:=by simp [cB]
@[simp] theorem Sa (k:IntKind)(l:List Int):(cI k l).length=l.length:=by simp [cI]
theorem Fi:∀ {l:List J},aZ l=true↔∀ c∈l,c.flat=true
 | []=>by simp [aZ]
 | c :: cs=>by simp [aZ,Fi (l:=cs)]
@[simp] theorem Ih (l : List ac) : aZ (cW l) = true := Fi.2 fun c h => by
 simp only [cW,List.mem_map] at h;obtain ⟨x,_,rfl⟩:=h;rfl
@[simp] theorem ZM (l : List Bool) : aZ (cB l) = true := Fi.2 fun c h => by
 simp only [cB,List.mem_map] at h;obtain ⟨x,_,rfl⟩:=h;rfl
@[simp] theorem ZN (k : IntKind)(l : List Int) : aZ (cI k l) = true := Fi.2 fun c h => by
 simp only [cI,List.mem_map] at h;obtain ⟨x,_,rfl⟩:=h;rfl
theorem MY {l:List ac}{i:Nat}(h:i < l.length):(cW l)[i]?=some (wd (gd l 0#64 i)):=by
 simp [cW,gd,List.getD,h]
theorem zqn {l:List Bool}{i:Nat}(h:i < l.length):(cB l)[i]?=some (.bool (gd l false i)):=by
 simp [cB,gd,List.getD,h]
theorem zmK (l:List ac)(i:Nat)(h:decide (i < l.length)=true):(cW l)[i]?=some (wd (gd l 0#64 i)):=MY (by simpa using h)
@[simp] theorem zse (l:List ac)(i:Nat)(h:i < (cW l).length):(cW l)[i]=wd (gd l 0#64 i):=by
 have:=MY (l:=l) (i:=i) (by simpa using h);rw [List.getElem?_eq_getElem h] at this;exact sj this
@[simp] theorem zsf (l:List Bool)(i:Nat)(h:i < (cB l).length):(cB l)[i]=.bool (gd l false i):=by
 have:=zqn (l:=l) (i:=i) (by simpa using h);rw [List.getElem?_eq_getElem h] at this;exact sj this
@[simp] theorem Xn (l:List ac)(i:Nat)(x:ac):(cW l).set i (wd x)=cW (l.set i x):=by simp [cW,List.map_set]
@[simp] theorem ztc (l:List Bool)(i:Nat)(x:Bool):(cB l).set i (.bool x)=cB (l.set i x):=by simp [cB,List.map_set]
@[simp] theorem zmS (k:IntKind)(l:List Int)(i:Nat)(x:Int):(cI k l).set i (.int k x)=cI k (l.set i x):=by simp [cI,List.map_set]
@[simp] theorem zsg (l:List ac)(n:Nat):(cW l).take n=cW (l.take n):=by simp [cW]
@[simp] theorem zsi (l:List ac)(n:Nat):(cW l).drop n=cW (l.drop n):=by simp [cW]
@[simp] theorem zsk (l:List Bool)(n:Nat):(cB l).take n=cB (l.take n):=by simp [cB]
@[simp] theorem zsl (l:List Bool)(n:Nat):(cB l).drop n=cB (l.drop n):=by simp [cB]
theorem bH (n:Nat):aO (.int .u64 0) n=cW (tab n fun _=>0#64):=by rw [MS,cW,Ff];rfl
theorem DK (n:Nat):aO (.bool false) n=cB (tab n fun _=>false):=by rw [MS,cB,Ff]
theorem gQ (k:IntKind)(x:Int)(n:Nat):aO (.int k x) n=cI k (tab n fun _=>x):=by rw [MS,cI,Ff]
@[simp] theorem zqB (x:ac):(wd x).cells=[wd x]:=rfl
@[simp] theorem zte (x:ac):(wd x).okV=true:=rfl
@[simp] theorem zsm (x:ac):(wd x).flat=true:=rfl
@[simp] theorem ztf (x:ac):JP (wd x)=some (x.toNat:Int):=rfl
theorem zmW (n:Nat)(h:n < 18446744073709551616):J.int .u64 (n:Int)=wd (BitVec.ofNat 64 n):=by
 unfold wd;rw [BitVec.toNat_ofNat,Nat.mod_eq_of_lt (by simpa using h)]
theorem GJ (n:Nat)(h:n < 18446744073709551616):IntKind.u64.wrap (n:Int)=n:=wrap_u64 (by omega) (by omega)
theorem ly (x:ac):BitVec.ofInt 64 (x.toNat:Int)=x:=by
 apply BitVec.eq_of_toNat_eq;rw [BitVec.toNat_ofInt];have:=x.isLt;omega
theorem Sf (x:ac):x.toNat < 18446744073709551616:=x.isLt
@[simp] theorem ztg (x y:ac):aW .xor (wd x) (wd y)=some (wd (x ^^^ y)):=by
 unfold wd;rw [zlm];show some (J.int .u64 (IntKind.u64.wrap ((BitVec.ofInt 64 (x.toNat:Int) ^^^ BitVec.ofInt 64 (y.toNat:Int):BitVec 64).toNat:Int)))=_;rw [ly,ly,GJ _ (Sf _)]
@[simp] theorem A8 (x y:ac):aW .and (wd x) (wd y)=some (wd (x&&&y)):=by
 unfold wd;rw [yu];show some (J.int .u64 (IntKind.u64.wrap ((BitVec.ofInt 64 (x.toNat:Int)&&&BitVec.ofInt 64 (y.toNat:Int):BitVec 64).toNat:Int)))=_;rw [ly,ly,GJ _ (Sf _)]
@[simp] theorem ztY (x y:ac):aW .or (wd x) (wd y)=some (wd (x|||y)):=by
 unfold wd;rw [Zl];show some (J.int .u64 (IntKind.u64.wrap ((BitVec.ofInt 64 (x.toNat:Int)|||BitVec.ofInt 64 (y.toNat:Int):BitVec 64).toNat:Int)))=_;rw [ly,ly,GJ _ (Sf _)]
@[simp] theorem zpi (x y:ac):aW .andNot (wd x) (wd y)=some (wd (x&&&~~~ y)):=by
 unfold wd;rw [Zn];show some (J.int .u64 (IntKind.u64.wrap ((BitVec.ofInt 64 (x.toNat:Int)&&&~~~ (BitVec.ofInt 64 (y.toNat:Int)):BitVec 64).toNat:Int)))=_;rw [ly,ly,GJ _ (Sf _)]
theorem pj (n:Int):IntKind.u64.wrap n=n % 18446744073709551616:=by
 unfold IntKind.wrap;simp [IntKind.signed,IntKind.bits]
@[simp] theorem zm2 (x y:ac):aW .add (wd x) (wd y)=some (wd (x+y)):=by
 unfold wd;rw [zli,pj,BitVec.toNat_add,Int.natCast_emod,Int.natCast_add];rfl
@[simp] theorem XD (x y:ac):aW .mul (wd x) (wd y)=some (wd (x*y)):=by
 unfold wd;rw [TJ,pj,BitVec.toNat_mul,Int.natCast_emod,Int.natCast_mul];rfl
@[simp] theorem zfa (x y:ac):aW .sub (wd x) (wd y)=some (wd (x - y)):=by
 unfold wd;rw [TI,pj]
 congr 2
 have h1:=x.isLt;have h2:=y.isLt;rw [BitVec.toNat_sub];omega
theorem Nf (x:ac)(k:IntKind)(n:Nat)(h:decide (n<=64)=true):aW .shl (wd x) (.int k (n:Int))=some (wd (x <<< n)):=by
 have h':n<=64:=by simpa using h
 unfold wd;rw [yv,ztW _ _ _ (by simp only [show ((IntKind.u64.bits:Nat):Int)=64 from rfl,Bool.and_eq_true,decide_eq_true_eq];exact ⟨Int.natCast_nonneg n,by omega⟩)];rw [pj,BitVec.toNat_shiftLeft,Int.toNat_natCast,Nat.shiftLeft_eq,Int.natCast_emod,Int.natCast_mul,Int.natCast_pow];rfl
theorem yK (x:ac)(k:IntKind)(n:Nat)(h:decide (n<=64)=true):aW .shr (wd x) (.int k (n:Int))=some (wd (x >>> n)):=by
 have h':n<=64:=by simpa using h
 unfold wd;rw [j9,ziM _ _ _ (by simp only [show ((IntKind.u64.bits:Nat):Int)=64 from rfl,Bool.and_eq_true,decide_eq_true_eq];exact ⟨Int.natCast_nonneg n,by omega⟩)];rw [BitVec.toNat_ushiftRight,Int.toNat_natCast,Nat.shiftRight_eq_div_pow,Int.fdiv_eq_ediv_of_nonneg _ (by exact Int.pow_nonneg (by decide)),Int.natCast_ediv,Int.natCast_pow];rfl
def bw (n:Int):ac:=BitVec.ofInt 64 n
@[simp] theorem zm5 (k:IntKind)(n:Int):XT .u64 (.int k n)=some (wd (bw n)):=by
 rw [ji,pj];unfold wd bw
 congr 2
 rw [BitVec.toNat_ofInt];omega
theorem Sj (h:O)(nb nt n i:Nat)(es:List (List J))(he:aJ nb nt es=true):frz h nb nt (n+1) (gA nt i es)=some (.vsl false es):=SP h nb nt n (by simp) he
@[simp] theorem zth (h:O)(nb nt n i:Nat)(k:IntKind)(l:List Int):frz h nb nt (n+1) (gA nt i (eI k l))=some (.vsl false (eI k l)):=Sj h nb nt n i _ (by simp)
@[simp] theorem Sk (h:O)(nb nt n:Nat)(c:Bool)(k:IntKind)(l:List Int):frz h nb nt (n+1) (.vsl c (eI k l))=some (.vsl false (eI k l)):=ix h nb nt n c (by simp)
@[simp] theorem ztj (h:O)(nb nt n:Nat)(x:ac):frz h nb nt (n+1) (wd x)=some (wd x):=by unfold wd;simp
@[simp] theorem ztk (h:O)(x:ac):oL h (wd x)=some (wd x,false):=by unfold wd;simp
@[simp] theorem ztl (h:O)(nb nt n:Nat)(l:List ac):frz h nb nt (n+1) (.agg (cW l))=some (.agg (cW l)):=mY h nb nt n (Ih l)
@[simp] theorem ztm (h:O)(nb nt n:Nat)(l:List Bool):frz h nb nt (n+1) (.agg (cB l))=some (.agg (cB l)):=mY h nb nt n (ZM l)
@[simp] theorem ztn (h:O)(nb nt n:Nat)(k:IntKind)(l:List Int):frz h nb nt (n+1) (.agg (cI k l))=some (.agg (cI k l)):=mY h nb nt n (ZN k l)
@[simp] theorem zto (h:O)(l:List ac):oL h (.agg (cW l))=some (.agg (cW l),false):=dT h (Ih l)
@[simp] theorem ztp (h:O)(l:List Bool):oL h (.agg (cB l))=some (.agg (cB l),false):=dT h (ZM l)
@[simp] theorem ztq (h:O)(k:IntKind)(l:List Int):oL h (.agg (cI k l))=some (.agg (cI k l),false):=dT h (ZN k l)
@[simp] theorem ztr (L:az)(h:O)(p:J)(x:ac):J4 L h 1 p (wd x)=UG (dR L h p [wd x]):=by simp [J4]
@[simp] theorem zsx (x:ac):lx (wd x)=some (.vptr [wd x] 0):=rfl
theorem eR (n sz m i off k:Nat)(kd:IntKind)(h:decide (k < n)=true):bA (some n) sz (pA m i off) (.int kd (k:Int))=some (pA m i (off+k*sz)):=by
 have:k < n:=by simpa using h
 simp [bA,JP,pA,this]
theorem lI (n sz off k:Nat)(cs:List J)(kd:IntKind)(h:decide (k < n)=true):bA (some n) sz (.vptr cs off) (.int kd (k:Int))=some (.vptr cs (off+k*sz)):=by
 have:k < n:=by simpa using h
 simp [bA,JP,this]
@[simp] theorem zqR (n sz m i off:Nat)(kd:IntKind):bA (some (n+1)) sz (pA m i off) (.int kd 0)=some (pA m i off):=by simp [bA,JP,pA]
@[simp] theorem zqS (n sz off:Nat)(cs:List J)(kd:IntKind):bA (some (n+1)) sz (.vptr cs off) (.int kd 0)=some (.vptr cs off):=by simp [bA,JP]
theorem om (n i off sz len k:Nat)(cap:Option Nat)(kd:IntKind)(h:decide (k < len)=true):bA none sz (sA n i off sz len cap) (.int kd (k:Int))=some (pA n i (off+k*sz)):=by
 have:k < len:=by simpa using h
 simp [bA,JP,sA,pA,this]
theorem Sq (n k:Nat)(g:Bool)(cs:List J)(sz:Nat)(kd:IntKind)(h:decide (k < n)=true):zk5 n sz g (.agg cs) (.int kd (k:Int))=eL g cs (k*sz) sz:=by
 have:k < n:=by simpa using h
 unfold zk5;simp [this]
theorem pI (k' kd:IntKind)(c:Bool)(l:List Int)(i:Nat)(h:decide (i < l.length)=true):bA none 1 (.vsl c (eI k' l)) (.int kd (i:Int))=some (.vptr [.int k' (gd l 0 i)] 0):=by
 have h':i < l.length:=by simpa using h
 simp [bA,JP,ziD,h',gd,List.getD]
@[simp] theorem zsz (n i off sz len:Nat)(cap:Option Nat):Cg (sA n i off sz len cap)=some len:=rfl
@[simp] theorem zsA (n i:Nat)(es:List (List J)):Cg (gA n i es)=some es.length:=rfl
@[simp] theorem ztt (L:az)(h:O)(p:J)(n i off sz len:Nat)(cap:Option Nat):J4 L h 1 p (sA n i off sz len cap)=UG (dR L h p [sA n i off sz len cap]):=by simp [J4,sA,J.cells,J.okV]
section
variable (L:az) (h:O) (bs:List (List J)) (ts:List Nat)
theorem zu (sz:Nat)(c:Bool)(es ys:List (List J))(hc:(cS sz ys&&cS sz es&&decide (es.length+ys.length < am)&&decide (0 < ys.length))=true):
  jm L (hx h bs ts) sz true (.vsl true es) (.vsl c ys)=some (sA h.blks.length bs.length 0 sz (es.length+ys.length) none,hx h (bs++[(es++ys).flatten]) ts):=by
 simp only [Bool.and_eq_true,decide_eq_true_eq] at hc;have hy:ys≠[]:=fun e=>by have:=hc.2;simp [e] at this
 simp [jm,aH,fc,Fb,hc.1.1.1,hc.1.1.2,hc.1.2,hy,jl,sA,hx,push]
theorem zch (sz:Nat)(x:J)(c:Bool):jm L (hx h bs ts) sz true (.vsl true []) (.vsl c [])=some (.vsl true [],hx h bs ts):=by
 simp [jm,aH,fc,Fb,cS]
theorem Bg : ∀ (n : Nat) (cs : List J), cs.length = n -> chunks 1 n cs = cs.map fun c => [c]
 | 0,[],_=>rfl
 | n+1,c :: cs,h=>by simp [chunks,Bg n cs (by simpa using h)]
theorem DX (i n : Nat)(cs : List J)(cap : Option Nat)(hb : bs[i]? = some cs)(hl : cs.length = n) : aH (hx h bs ts) 1 (sA h.blks.length i 0 1 n cap) = some (cs.map fun c => [c]) := by
 simp only [aH,sA,hx];rw [List.getElem?_append_right (Nat.le_add_right _ _),Nat.add_sub_cancel_left,hb];simp [hl,Bg]
theorem zI (k:IntKind)(l:List Int):(cI k l).map (fun c=>[c])=eI k l:=by simp [cI,eI]
theorem Br (k:IntKind)(l:List Int):(eI k l).flatten=cI k l:=by
 induction l with
 | nil=>rfl
 | cons x l ih=>simp only [eI,List.map_cons,List.flatten_cons] at ih |-;rw [ih];rfl
theorem SI (i n:Nat)(k:IntKind)(l m:List Int)(c:Bool)(hb:bs[i]?=some (cI k l))
  (hc:(decide (l.length=n)&&decide (0 < n)&&decide (n+m.length < am)&&decide (L.rob<=h.blks.length)&&decide (0 < m.length))=true):
  jm L (hx h bs ts) 1 true (sA h.blks.length i 0 1 n none) (.vsl c (eI k m))=some (sA h.blks.length bs.length 0 1 (n+m.length) none,hx h (bs.set i []++[cI k (l++m)]) ts):=by
 simp only [Bool.and_eq_true,decide_eq_true_eq] at hc;obtain ⟨⟨⟨⟨c1,c2⟩,c3⟩,c4⟩,c5⟩:=hc;have he:=DX h bs ts i n (cI k l) none hb (by simpa using c1);rw [zI] at he;simp only [sA] at he;have hm:eI k m≠[]:=fun e=>by have:=congrArg List.length e;simp at this;simp [this] at c5
 simp only [jm,aH,fc,Option.bind_some,if_true,Fb,MI,sA];simp only [aH] at he;rw [if_pos ⟨trivial,trivial,trivial,c2,by decide,by omega⟩,he,Option.bind_some,if_neg hm,if_pos (by simp [c1];exact c3)];have hflat:(eI k l++eI k m).flatten=cI k (l++m):=by rw [KT,Br]
 simp only [push,hx,hflat,TR,c1];rw [List.set_append_right _ _ (Nat.le_add_right _ _),Nat.add_sub_cancel_left];simp
end
end Go.Av
namespace Go.Av
abbrev wrM:Mode:=⟨false,false,false,false⟩
abbrev roM:Mode:=⟨true,false,false,false⟩
abbrev zmI:Mode:=⟨false,false,true,false⟩
section
variable (L:az) (h:O) (bs bs':List (List J)) (ts ts':List Nat)
@[simp] theorem zqk (args:List J):nw wrM h args=some (args,false):=by simp [nw]
@[simp] theorem ziy (args:List J):nw roM h args=some (args,false):=by simp [nw]
@[simp] theorem zp8 (args:List J):nw zmI h args=some (args,false):=by simp [nw]
@[simp] theorem zr2:d7 wrM L h=⟨L.rob,L.rot,h.blks.length,h.toks.length⟩:=by simp [d7]
@[simp] theorem zir:d7 roM L h=V h:=by simp [d7,V]
@[simp] theorem zp9:d7 zmI L h=L:=by simp [d7]
@[simp] theorem zs1 (h1:O)(v:J):vM wrM h h1 v=GU (frz h1 h.blks.length h.toks.length 12 v) (gq h1 h.blks.length h.toks.length):=by
 simp [vM,GU]
@[simp] theorem zsr (h1:O)(v:J):vM roM h h1 v=GU (frz h1 h.blks.length h.toks.length 12 v) h:=by
 simp [vM,GU]
@[simp] theorem zqN (h1:O)(v:J):vM zmI h h1 v=some (v,h1):=by
 simp [vM]
@[simp] theorem Ng:hx (hx h bs ts) bs' ts'=hx h (bs++bs') (ts++ts'):=by simp [hx]
theorem XE {h1:O}(h2:h1.blks.length=h.blks.length)(h3:h1.toks.length=h.toks.length):gq h1 h.blks.length h.toks.length=h1:=by
 unfold gq;rw [<- h2,<- h3,List.take_length,List.take_length]
theorem sK (i:Nat)(cs:List J):gq (hx h (bs.set i cs) ts) (h.blks.length+bs.length) (h.toks.length+ts.length)=hx h (bs.set i cs) ts:=by
 have:=XE (hx h bs ts) (h1:=hx h (bs.set i cs) ts) (by simp [hx]) (by simp [hx])
 rwa [aC,aB] at this
theorem ap (L:az)(i off:Nat)(cs:List J)(h1:(decide (L.rob<=h.blks.length)&&ay 0 0 cs)=true):
  dR L (hx h bs ts) (pA h.blks.length i off) cs=stO h bs ts i off cs bs[i]?:=by
 simp only [Bool.and_eq_true,decide_eq_true_eq] at h1;unfold dR pA stO stI hx;simp only;rw [List.getElem?_append_right (Nat.le_add_right _ _),Nat.add_sub_cancel_left]
 cases bs[i]? with
 | none=>rfl
 | some old=>
  simp only [Option.bind_some];by_cases hc:off+cs.length<=old.length
  ·rw [if_pos ⟨by omega,hc,.inr h1.2⟩,if_pos (by simpa using hc)];rw [List.set_append_right _ _ (Nat.le_add_right _ _),Nat.add_sub_cancel_left]
  ·rw [if_neg (fun h=>hc h.2.1),if_neg (by simpa using hc)]
theorem J6:∀ {l:List J},(∀ c∈l,c.under 0 0=true)->ay 0 0 l=true
 | [],_=>rfl
 | c :: cs,h=>by simp only [ay,Bool.and_eq_true];exact ⟨h c (by simp),J6 fun c hc=>h c (by simp [hc])⟩
@[simp] theorem zb5 (l : List ac) : ay 0 0 (cW l) = true := J6 fun c hc => by
 simp only [cW,List.mem_map] at hc;obtain ⟨x,_,rfl⟩:=hc;rfl
@[simp] theorem zpn (x:ac):ay 0 0 [wd x]=true:=rfl
@[simp] theorem zm0 (k:IntKind)(x:Int):ay 0 0 [.int k x]=true:=rfl
@[simp] theorem zl3 (x:Bool):ay 0 0 [.bool x]=true:=rfl
theorem Fs (b off n:Nat)(g:Bool)(cs:List J)(hb:h.blks[b]?=some cs):qC (hx h bs ts) (.ptr b off) n g=eL g cs off n:=by
 unfold qC hx;simp only;rw [List.getElem?_append_left (List.getElem?_eq_some_iff.1 hb).1,hb];rfl
def JM (h:O)(k:IntKind)(x:J)(l:List Int):Prop:=
 Cg x=some l.length/\∃ p:Nat->J,(∀ i,i < l.length->bA none 1 x (.int .i64 (i:Int))=some (p i))/\∀ i bs ts,i < l.length->qC (hx h bs ts) (p i) 1 false=some (.int k (gd l 0 i))
def i6 (h:O)(x:J)(l:List ac):Prop:=
 Cg x=some l.length/\∃ p:Nat->J,(∀ i,i < l.length->bA none 1 x (.int .i64 (i:Int))=some (p i))/\∀ i bs ts,i < l.length->qC (hx h bs ts) (p i) 1 false=some (wd (gd l 0#64 i))
theorem i6.ext {h:O}{x:J}{l:List ac}(hr:i6 h x l)(bs:List (List J))(ts:List Nat):i6 (hx h bs ts) x l:=by
 obtain ⟨h1,p,h2,h3⟩:=hr;exact ⟨h1,p,h2,fun i bs' ts' hi=>by rw [Ng];exact h3 i _ _ hi⟩
theorem JM.vsl (h:O)(k:IntKind)(c:Bool)(l:List Int):JM h k (.vsl c (eI k l)) l:=
 ⟨by simp,fun i=>.vptr [.int k (gd l 0 i)] 0,fun i hi=>pI k .i64 c l i (by simpa using hi),fun i bs ts hi=>by simp⟩
def eW (l:List ac):List (List J):=l.map fun x=>[wd x]
@[simp] theorem znI (l:List ac):(eW l).length=l.length:=by simp [eW]
theorem zfY (l:List ac)(i:Nat):(eW l)[i]?=(l[i]?).map fun n=>[wd n]:=by simp [eW]
theorem i6.vsl (h:O)(c:Bool)(l:List ac):i6 h (.vsl c (eW l)) l:=
 ⟨by simp,fun i=>.vptr [wd (gd l 0#64 i)] 0,fun i hi=>by simp [bA,JP,zfY,hi,gd,List.getD],fun i bs ts hi=>by simp⟩
theorem NG {k:IntKind}{l:List Int}{i:Nat}(h:i < l.length):(cI k l)[i]?=some (.int k (gd l 0 i)):=by
 simp [cI,gd,List.getD,h]
theorem i6.sl (h:O)(b n:Nat)(cap:Option Nat)(l:List ac)(hl:l.length=n)(hb:h.blks[b]?=some (cW l)):i6 h (.sl b 0 1 n cap) l:=
 ⟨by simp [hl], fun i => .ptr b (0 + i * 1), fun i hi => by simp [bA, JP]; omega, fun i bs ts hi => by
  rw [Fs h bs ts b _ _ _ _ hb,ao,Nat.zero_add,Nat.mul_one];exact MY hi⟩
theorem JM.sl (h:O)(k:IntKind)(b n:Nat)(cap:Option Nat)(l:List Int)(hl:l.length=n)(hb:h.blks[b]?=some (cI k l)):JM h k (.sl b 0 1 n cap) l:=
 ⟨by simp [hl], fun i => .ptr b (0 + i * 1), fun i hi => by simp [bA, JP]; omega, fun i bs ts hi => by
  rw [Fs h bs ts b _ _ _ _ hb,ao,Nat.zero_add,Nat.mul_one];exact NG hi⟩
end
theorem zN (n sz m i off:Nat)(h:decide (0 < n)=true):eP (.arr n) sz (pA m i off) none none none=some (sA m i off sz n (some n)):=by
 have h':0 < n:=by simpa using h
 have:¬n=0:=by omega
 simp [eP,pA,sA,jE,this]
theorem NH (n sz m i off c:Nat)(kd:IntKind)(h:(decide (0 < c)&&decide (c<=n))=true):eP (.arr n) sz (pA m i off) none (some (.int kd (c:Int))) none=some (sA m i off sz c (some n)):=by
 simp only [Bool.and_eq_true,decide_eq_true_eq] at h;have h0:¬c=0:=by omega
 simp [eP,pA,sA,jE,h0,h.2]
theorem i6.sA {h:O}{bs:List (List J)}(ts:List Nat)(i n:Nat)(cap:Option Nat)(l:List ac)(hl:l.length=n)(hb:bs[i]?=some (cW l)):i6 (hx h bs ts) (sA h.blks.length i 0 1 n cap) l:=
 i6.sl _ _ n cap l hl (by simp only [hx];rw [List.getElem?_append_right (Nat.le_add_right _ _),Nat.add_sub_cancel_left];exact hb)
theorem JM.sA {h:O}{bs:List (List J)}(ts:List Nat)(k:IntKind)(i n:Nat)(cap:Option Nat)(l:List Int)(hl:l.length=n)(hb:bs[i]?=some (cI k l)):JM (hx h bs ts) k (sA h.blks.length i 0 1 n cap) l:=
 JM.sl _ k _ n cap l hl (by simp only [hx];rw [List.getElem?_append_right (Nat.le_add_right _ _),Nat.add_sub_cancel_left];exact hb)
theorem SN (n:Nat)(c:Bool)(k:IntKind)(l:List Int)(h:(decide (0 < n)&&decide (n<=l.length))=true):zh3 n (.vsl c (eI k l))=some (.vptr (cI k (l.take n)) 0):=by
 simp only [Bool.and_eq_true,decide_eq_true_eq] at h;show (if n<=(eI k l).length/\0 < n then some (J.vptr (List.take n (eI k l)).flatten 0) else none)=_;rw [if_pos ⟨by simpa using h.2,h.1⟩];have:(eI k l).take n=eI k (l.take n):=by simp [eI]
 rw [this,Br]
theorem zf7 (n m i off len:Nat)(cap:Option Nat)(h:decide (n<=len)=true):zh3 n (sA m i off 1 len cap)=some (pA m i off):=by
 have:n<=len:=by simpa using h
 unfold zh3;simp [sA,pA,this]
@[simp] theorem zsE (k:IntKind)(l:List Int)(n:Nat):(cI k l).take n=cI k (l.take n):=by simp [cI]
@[simp] theorem zkc (k:IntKind)(l:List Int)(n:Nat):(cI k l).drop n=cI k (l.drop n):=by simp [cI]
theorem SQ {h:O}{bs:List (List J)}(ts:List Nat){i:Nat}{cs:List J}(hb:bs[i]?=some cs):(hx h bs ts).blks[h.blks.length+i]?=some cs:=by
 simp only [hx];rw [List.getElem?_append_right (Nat.le_add_right _ _),Nat.add_sub_cancel_left];exact hb
theorem zgc (k:IntKind)(l:List Int)(off sz:Nat)(h:decide (off+sz<=l.length)=true):eL true (cI k l) off sz=some (.agg (cI k ((l.drop off).take sz))):=by
 have h':off+sz<=l.length:=by simpa using h
 unfold eL;simp [h']
theorem zgd (l:List ac)(off sz:Nat)(h:decide (off+sz<=l.length)=true):eL true (cW l) off sz=some (.agg (cW ((l.drop off).take sz))):=by
 have h':off+sz<=l.length:=by simpa using h
 unfold eL;simp [h']
theorem Vm (l:List Bool)(off sz:Nat)(h:decide (off+sz<=l.length)=true):eL true (cB l) off sz=some (.agg (cB ((l.drop off).take sz))):=by
 have h':off+sz<=l.length:=by simpa using h
 unfold eL;simp [h']
abbrev znO:Mode:=⟨true,true,false,true⟩
@[simp] theorem zpx (h:O)(args:List J):nw znO h args=mL h args:=by simp [nw]
@[simp] theorem zpy (L:az)(h:O):d7 znO L h=V h:=by simp [d7,V]
theorem zgf (h:O)(bs:List (List J))(ts:List Nat)(es:List (List J))(hu:(aJ h.blks.length h.toks.length es&&(ts[0]?==some es.length))=true):
  vM znO h (hx h bs ts) (gA h.toks.length 0 es)=some (.gsl h.toks.length es,ptok h es.length):=by
 simp only [Bool.and_eq_true,beq_iff_eq] at hu;obtain ⟨u1,u2⟩:=hu;have h5:(hx h bs ts).toks[h.toks.length]?=some es.length:=by
  simp only [hx];rw [List.getElem?_append_right (Nat.le_refl _),Nat.sub_self];exact u2
 unfold vM;simp only [gA,Nat.add_zero,h5,u1];simp
@[simp] theorem ztC (L:az)(h:O)(sz:Nat)(ref:Bool)(x:J)(n i:Nat)(es:List (List J)):jm L h sz ref x (gA n i es)=jm L h sz ref x (.vsl false es):=by
 simp [jm,gA,aH,fc]
def zkg (h:O):J->Option (J × O)
 | .str s=>some (.gsl h.toks.length (eI .u8 (bts s)),ptok h s.size)
 | _=>none
@[simp] theorem zri (C:eh)(L:az)(fr:Fr)(h:O)(x:AO):gr C L fr h (.s2b x)=zkg h (C.ev fr x):=by
 simp only [gr]
 cases C.ev fr x <;> first | rfl | (simp only [zkg,zbq])
@[simp] theorem zrk (h:O)(bs:List (List J))(ts:List Nat)(s:ByteArray):zkg (hx h bs ts) (.str s)=some (gA h.toks.length ts.length (eI .u8 (bts s)),hx h bs (ts++[s.size])):=by
 simp [zkg,gA,hx,ptok]
@[simp] theorem znT (b:Bool):S8 bh b=false:=rfl
@[simp] theorem Vr {α:Type}(n:Nat)(f:Nat->α):tab n f++[f n]=tab (n+1) f:=by simp [tab,List.range_succ]
theorem xY {α:Type}{l:List α}{n i:Nat}{d:α}(h:i < n):gd (l.take n) d i=gd l d i:=by
 unfold gd;simp [List.getD,List.getElem?_take,h]
theorem sQ {α:Type}{l:List α}{k:Nat}(d:α)(h:k < l.length):l.take (k+1)=l.take k++[gd l d k]:=by
 rw [List.take_add_one,Fh (d:=d) h];rfl
end Go.Av
namespace Go.Av
def mkK (h:O)(sz:Nat)(zero:List J):J->Option (J × O)
 | .int _ n=>if 0<=n/\n < am then some (.sl h.blks.length 0 sz n.toNat (some n.toNat),push h (rep zero n.toNat)) else none
 | _=>none
@[simp] theorem zsH (C:eh)(L:az)(fr:Fr)(h:O)(sz:Nat)(z:List J)(x:AO):gr C L fr h (.mk sz z x)=mkK h sz z (C.ev fr x):=by
 simp only [gr]
 cases C.ev fr x <;> rfl
theorem jv (h:O)(bs:List (List J))(ts:List Nat)(sz:Nat)(z:List J)(k:IntKind)(n:Int)(hc:(decide (0<=n)&&decide (n < am))=true):
  mkK (hx h bs ts) sz z (.int k n)=some (sA h.blks.length bs.length 0 sz n.toNat (some n.toNat),hx h (bs++[rep z n.toNat]) ts):=by
 simp only [Bool.and_eq_true,decide_eq_true_eq] at hc;unfold mkK;simp only [if_pos hc];simp [sA,hx,push]
theorem eV (x:J):∀ n,rep [x] n=aO x n
 | 0=>rfl
 | n+1=>by simp [rep,aO,eV x n]
theorem Kr (sz m i len c:Nat)(cap:Option Nat)(kd:IntKind)(h:(decide (0 < c)&&decide (c<=len)&&decide (len<=cap.getD len))=true):eP .slc sz (sA m i 0 sz len cap) none (some (.int kd (c:Int))) none=some (sA m i 0 sz c cap):=by
 simp only [Bool.and_eq_true,decide_eq_true_eq] at h;obtain ⟨⟨h1,h2⟩,h3⟩:=h;have h0:¬c=0:=by omega
 have h4:c<=cap.getD len:=by omega
 simp [eP,sA,jE,h0,h4]
@[simp] theorem zpA (k:IntKind)(a:Int):J.cells (J.int k a)=[.int k a]:=rfl
@[simp] theorem zsJ (k:IntKind)(a:Int):J.okV (J.int k a)=true:=rfl
@[simp] theorem znV (b:Bool):J.cells (J.bool b)=[.bool b]:=rfl
@[simp] theorem zrm (b:Bool):J.okV (J.bool b)=true:=rfl
@[simp] theorem zpB (b:ByteArray):J.cells (J.str b)=[.str b]:=rfl
@[simp] theorem zsK (b:ByteArray):J.okV (J.str b)=true:=rfl
@[simp] theorem zpC (c:Bool)(es:List (List J)):J.cells (J.vsl c es)=[.vsl c es]:=rfl
@[simp] theorem zsL (c:Bool)(es:List (List J)):J.okV (J.vsl c es)=true:=rfl
@[simp] theorem zpD:J.cells (J.nsl)=[.nsl]:=rfl
@[simp] theorem zsM:J.okV (J.nsl)=true:=rfl
@[simp] theorem znW:J.cells (J.nilp)=[.nilp]:=rfl
@[simp] theorem zrn:J.okV (J.nilp)=true:=rfl
@[simp] theorem zpF:J.cells (J.nfn)=[.nfn]:=rfl
@[simp] theorem zsN:J.okV (J.nfn)=true:=rfl
@[simp] theorem zpG:J.cells (J.nif)=[.nif]:=rfl
@[simp] theorem zsO:J.okV (J.nif)=true:=rfl
@[simp] theorem zmw (t:TypeId)(v:J):J.cells (J.iface t v)=[.iface t v]:=rfl
@[simp] theorem zp7 (t:TypeId)(v:J):J.okV (J.iface t v)=true:=rfl
@[simp] theorem zrY (f:Fn)(a b:List J):J.cells (J.fn f a b)=[.fn f a b]:=rfl
@[simp] theorem ztS (f:Fn)(a b:List J):J.okV (J.fn f a b)=true:=rfl
@[simp] theorem zoQ (cs:List J)(o:Nat):J.cells (J.vptr cs o)=[.vptr cs o]:=rfl
@[simp] theorem zrZ (cs:List J)(o:Nat):J.okV (J.vptr cs o)=true:=rfl
@[simp] theorem zr1 (n i off sz len:Nat)(cap:Option Nat):J.cells (sA n i off sz len cap:J)=[sA n i off sz len cap]:=rfl
@[simp] theorem ztT (n i off sz len:Nat)(cap:Option Nat):J.okV (sA n i off sz len cap:J)=true:=rfl
@[simp] theorem zr3 (n i off:Nat):J.cells (pA n i off:J)=[pA n i off]:=rfl
@[simp] theorem ztU (n i off:Nat):J.okV (pA n i off:J)=true:=rfl
@[simp] theorem zr4 (n i:Nat)(es:List (List J)):J.cells (gA n i es:J)=[gA n i es]:=rfl
@[simp] theorem ztV (n i:Nat)(es:List (List J)):J.okV (gA n i es:J)=true:=rfl
@[simp] theorem zd6 (cs:List J):J.cells (J.agg cs)=cs:=rfl
@[simp] theorem MH (cs:List J):J.okV (J.agg cs)=true:=rfl
theorem OV (k:IntKind):∀ (n:Nat) (l m:List Int),l.length=n->m.length=n->cR (aO .i n) (cI k l) (cI k m)=some (l==m)
 | 0,[],[],_,_=>by simp [aO,cI,cR]
 | n + 1, x :: l, y :: m, h1, h2 => by
  have:=OV k n l m (by simpa using h1) (by simpa using h2);simp only [cI] at this;simp only [aO,cI,List.map_cons,cR,HZ,bind,if_true,Option.bind_some,this]
  congr 1
theorem zoV (k:IntKind)(n:Nat)(l m:List Int)(h1:(l.length==n)=true)(h2:(m.length==n)=true):JQ (.agg (aO .i n)) (.agg (cI k l)) (.agg (cI k m))=some (l==m):=by
 rw [zja];exact OV k n l m (by simpa using h1) (by simpa using h2)
def byA (l:List Int):ByteArray:=⟨(l.map fun n=>UInt8.ofNat n.toNat).toArray⟩
theorem RO : ∀ l : List Int, te (eI .u8 l) = some (l.map fun n => UInt8.ofNat n.toNat)
 | []=>rfl
 | x :: l => by
  have:=RO l;simp only [eI] at this;simp only [eI,List.map_cons,te,this,bind,Option.bind_some]
def Zv (h:O)(x:J):Option J:=(aH h 1 x).bind fun es=>(te es).map fun bs=>.str ⟨bs.toArray⟩
@[simp] theorem zr7 (C:eh)(fr:Fr)(h:O)(x:AO):Jw C fr h (.b2s x)=Zv h (C.ev fr x):=by
 simp only [Jw,Zv,bind]
 congr 1
 funext es
 cases te es <;> rfl
@[simp] theorem WK (h:O)(c:Bool)(l:List Int):Zv h (.vsl c (eI .u8 l))=some (.str (byA l)):=by
 simp [Zv,aH,RO,byA]
def zmz:J->Option J
 | .sl b off sz n c=>some (.sl b off sz n c)
 | _=>none
@[simp] theorem zqa (C:eh)(fr:Fr)(h:O)(x:AO):Jw C fr h (.mark x)=zmz (C.ev fr x):=by
 simp only [Jw]
 cases C.ev fr x <;> rfl
@[simp] theorem zr8 (n i off sz len:Nat)(cap:Option Nat):zmz (sA n i off sz len cap)=some (sA n i off sz len cap):=rfl
def zbl (h:O)(sz len:Nat)(cs:Option (List J)):Option (J × O):=cs.map fun cs=>(.sl h.blks.length 0 sz len (some len),push h cs)
@[simp] theorem zqb (C:eh)(L:az)(fr:Fr)(h:O)(sz len:Nat)(z:List J)(ps:List (Nat × AO)):
  gr C L fr h (.slit sz len z ps)=zbl h sz len (ak (rep z len) (ps.map fun p=>(p.1*sz,sz,C.ev fr p.2))):=by
 simp only [gr,zbl]
 cases ak (rep z len) (ps.map fun p=>(p.1*sz,sz,C.ev fr p.2)) <;> rfl
@[simp] theorem zoX (h:O)(bs:List (List J))(ts:List Nat)(sz len:Nat)(cs:List J):zbl (hx h bs ts) sz len (some cs)=some (sA h.blks.length bs.length 0 sz len (some len),hx h (bs++[cs]) ts):=by
 simp [zbl,sA,hx,push]
theorem Jy (L:az)(h:O)(bs:List (List J))(ts:List Nat)(i n:Nat)(k:IntKind)(l m:List Int)(c:Bool)(hb:bs[i]?=some (cI k l))
  (hc:(decide (l.length=n)&&decide (n+m.length < am)&&decide (0 < m.length))=true):
  jm L (hx h bs ts) 1 false (sA h.blks.length i 0 1 n (some n)) (.vsl c (eI k m))=some (gA h.toks.length ts.length (eI k (l++m)),hx h bs (ts++[n+m.length])):=by
 simp only [Bool.and_eq_true,decide_eq_true_eq] at hc;obtain ⟨⟨c1,c3⟩,c5⟩:=hc;have he:=DX h bs ts i n (cI k l) (some n) hb (by simpa using c1);rw [zI] at he;simp only [sA] at he;have hm:eI k m≠[]:=fun e=>by have:=congrArg List.length e;simp at this;simp [this] at c5
 simp only [jm,aH,fc,Option.bind_some,if_true,Fb,MI,sA];simp only [aH] at he;rw [if_pos ⟨trivial,trivial⟩,he,Option.bind_some,if_neg hm,if_pos (by simp [c1];exact c3)];simp [jl,gA,hx,ptok,c1]
end Go.Av
