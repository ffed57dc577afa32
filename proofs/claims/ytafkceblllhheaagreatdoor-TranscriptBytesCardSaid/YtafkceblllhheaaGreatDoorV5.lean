/- How a law's arguments are read, and equations by which the machine's runs are reckoned. -/
import Derived.Test.YtafkceblllhheaaGreatDoorV4
import Derived.Carry
import Derived.OpenShut
import Derived.MapKept
set_option linter.unusedSimpArgs false
set_option linter.unusedVariables false
namespace Go.Av
open Go.RowKit
inductive Ty where
 | bool | int (k:IntKind) | str | sl (e:List Ty)
mutual
inductive yn:Ty->J->Prop
 | bool (b:Bool):yn .bool (.bool b)
 | int (k:IntKind) (n:Int) (h:(Lit.int k n).wf=true):yn (.int k) (.int k n)
 | str (x:ByteArray) (h:x.size<=maxLen):yn .str (.str x)
 | sl (ts:List Ty) (es:List (List J)) (hl:es.length<=maxLen) (h:qh ts es):yn (.sl ts) (.vsl false es)
inductive jT:List Ty->List J->Prop
 | nil:jT [] []
 | cons (t:Ty) (ts:List Ty) (c:J) (cs:List J) (h:yn t c) (ht:jT ts cs):jT (t :: ts) (c :: cs)
inductive qh:List Ty->List (List J)->Prop
 | nil (ts:List Ty):qh ts []
 | cons (ts:List Ty) (e:List J) (es:List (List J)) (h:jT ts e) (ht:qh ts es):qh ts (e :: es)
end
theorem yn.cell {t:Ty}{c:J}(h:yn t c):c.isCell=true:=by cases h <;> rfl
theorem jT.cell:∀ {ts:List Ty} {cs:List J},jT ts cs->∀ c∈cs,c.isCell=true
 | _,_,.nil=>by simp
 | _, _, .cons t ts c cs h ht => fun x hx => by
  rcases List.mem_cons.1 hx with rfl | hx
  ·exact h.cell
  ·exact ht.cell x hx
theorem jT.length:∀ {ts:List Ty} {cs:List J},jT ts cs->cs.length=ts.length
 | _,_,.nil=>rfl
 | _,_,.cons t ts c cs h ht=>by simp [ht.length]
theorem jT.append:∀ {ts us:List Ty} {cs ds:List J},jT ts cs->jT us ds->jT (ts++us) (cs++ds)
 | _,_,_,_,.nil,h=>h
 | _,_,_,_,.cons t ts c cs h ht,h'=>.cons t _ c _ h (ht.append h')
def shF (P:Program)(rec:TypeId->Option (List Ty))(z:Nat):Nat->List Field->Option (List Ty)
 | o,[]=>if o=z then some [] else none
 | o, f :: fs => if f.offset = o then
   match rec f.type with
   | some l=>if l.length=P.cellsOf f.type then (shF P rec z (o+P.cellsOf f.type) fs).map (l++·) else none
   | none=>none
  else none
def shT (P:Program):Nat->TypeId->Option (List Ty)
 | 0,_=>none
 | d + 1, t => match P.underlying t with
  | some .bool=>some [.bool]
  | some (.int k)=>some [.int k]
  | some .string=>some [.str]
  | some (.slice e) => match shT P d e with
   | some l=>if l.length=P.cellsOf e/\0 < l.length then some [.sl l] else none
   | none=>none
  | some (.struct fs)=>shF P (shT P d) (P.cellsOf t) 0 fs.toList
  | some (.array n e) => match shT P d e with
   | some l=>if P.cellsOf t=n*P.cellsOf e/\l.length=P.cellsOf e then some (TJ l n) else none
   | none=>none
  | _=>none
def JM (W:World):St:=⟨W,⟨[],[]⟩,[],[],0,0⟩
theorem zoU (W:World)(X o:Nat):Q8 (JM W) X o:=⟨fun b _ h=>by simp [JM] at h,fun t sz n _ h=>by simp [JM] at h⟩
section
variable {H:Type} {enc:TypeId × Value->H} {P:Program} {W:World} {base:Nat} {spare:Nat->Bool} {held:Bool}
theorem zeP {X o:Nat}{avs:List J}{cs:List Value}(hr:aU (JM W) avs cs)(hk:∀ c∈avs,c.isCell=true)(hc:∀ (i:Nat) v,cs[i]?=some v->World.at W X (o+i)=some v):d8 (JM W) X o avs:=by
 refine d8.of_get fun i c hi=>?_;obtain ⟨v,hv,hrep⟩:=hr.get i c hi;exact ⟨v,hc i v hv,zoU W _ _,hk c (List.mem_of_getElem? hi),hrep⟩
theorem zlF (a:Addr)(k:Nat):(a.add k).block=a.block/\(a.add k).off=a.off+k:=by
 unfold Addr.add
 split <;> simp_all
theorem zbM {a:Addr}{n:Nat}{cs:List Value}(h:W.cells? base a n=some cs)(hn:0 < n):a.spot=none/\cs.length=n/\∀ (i:Nat) v,cs[i]?=some v->World.at W a.block (a.off+i)=some v:=by
 unfold World.cells? at h;split at h
 ·have hlen:cs.length=n:=by simpa using mapM_some_length h
  have key:∀ i:Nat,i < n->W.cell? (a.add i)=cs[i]?:=fun i hi=>mapM_some_get h i i (by simp [hi]);have hs:a.spot=none:=by
   have h0:=key 0 hn;rw [List.getElem?_eq_getElem (by omega)] at h0;unfold World.cell? at h0;split at h0
   ·split at h0
    ·simp at h0
    ·rename_i hsp;simpa [Addr.add] using hsp
   ·simp at h0
  refine ⟨hs,hlen,fun i v hi=>?_⟩;have hlt:=(List.getElem?_eq_some_iff.1 hi).1;have:=key i (by omega);rw [hi] at this;unfold World.at;rw [<- this]
  congr 1
  simp [Addr.add,hs];intro h0;subst h0
  cases a
  simp at hs;subst hs;rfl
 ·simp at h
def sEq (W:World)(tys:List Ty)(cs:List Value):Prop:=∃ avs,jT tys avs/\aU (JM W) avs cs
theorem sEq.append {t u:List Ty}{a b:List Value}(h:sEq W t a)(k:sEq W u b):sEq W (t++u) (a++b):=by
 obtain ⟨x,h1,h2⟩:=h;obtain ⟨y,k1,k2⟩:=k;exact ⟨x++y,h1.append k1,h2.append k2⟩
theorem qh.of_all {ts:List Ty}:∀ {es:List (List J)},(∀ e∈es,jT ts e)->qh ts es
 | [],_=>.nil ts
 | e :: es,h=>.cons ts e es (h e (by simp)) (qh.of_all fun x hx=>h x (by simp [hx]))
theorem Tn {n:Nat}{cs:List Value}{rec:TypeId->Option (List Ty)}{z:Nat}(hz:cs.length=z)
  (ih:∀ (t:TypeId) (tys:List Ty) (cs':List Value),rec t=some tys->(∃ x,DataW.trod enc P W base spare held n t cs'=some x)->sEq W tys cs'):
  ∀ (fs:List Field) (o:Nat) (tys:List Ty),shF P rec z o fs=some tys->(∀ f∈fs,∃ x,DataW.trod enc P W base spare held n f.type ((cs.drop f.offset).take (P.cellsOf f.type))=some x)->
   sEq W tys (cs.drop o)
 | [], o, tys, h, _ => by
  simp only [shF] at h;split at h
  ·rename_i ho;obtain rfl:=sj h;rw [List.drop_eq_nil_of_le (by omega)];exact ⟨[],.nil,.nil⟩
  ·simp at h
 | f :: fs, o, tys, h, hf => by
  simp only [shF] at h;split at h
  ·rename_i ho;split at h
   ·rename_i l hl;split at h
    ·obtain ⟨r,hr,rfl⟩:=map_some h;have h1:=ih f.type l _ hl (hf f (by simp));rw [ho] at h1;have h2:=Tn hz ih fs _ r hr fun g hg=>hf g (by simp [hg]);have:=h1.append h2
     rwa [<- List.drop_drop,List.take_append_drop] at this
    ·simp at h
   ·simp at h
  ·simp at h
theorem To {n sz:Nat}{cs:List Value}{l:List Ty}(hz:cs.length=n*sz)(hi:∀ i,i < n->sEq W l ((cs.drop (i*sz)).take sz)):∀ k,k<=n->sEq W (TJ l k) (cs.drop ((n - k)*sz))
 | 0, _ => by
  rw [Nat.sub_zero,List.drop_eq_nil_of_le (by omega)];exact ⟨[],.nil,.nil⟩
 | k + 1, hk => by
  have h1:=hi (n - (k+1)) (by omega);have h2:=To hz hi k (by omega);have:=h1.append h2;have e:(n - k)*sz=(n - (k+1))*sz+sz:=by
   rw [<- Nat.succ_mul];congr 1;omega
  rwa [e,<- List.drop_drop,List.take_append_drop] at this
theorem zZ:∀ (d:Nat) {t:TypeId} {tys:List Ty} {fuel:Nat} {cs:List Value} {x:DataW H × List MemPlace},shT P d t=some tys->
  DataW.trod enc P W base spare held fuel t cs=some x->sEq W tys cs
 | 0,t,tys,fuel,cs,x,hs,h=>by simp [shT] at hs
 | d + 1, t, tys, fuel, cs, x, hs, h => by
  simp only [shT] at hs;split at hs
  ·rename_i hu;obtain rfl:=sj hs
   cases fuel with
   | zero=>simp [DataW.trod] at h
   | succ n=>
    unfold DataW.trod at h;rw [hu] at h
    split at h <;> simp_all
    exact ⟨_,.cons _ _ _ _ (.bool _) .nil,.cons _ _ _ _ (.bool _) .nil⟩
  ·rename_i k hu;obtain rfl:=sj hs
   cases fuel with
   | zero=>simp [DataW.trod] at h
   | succ n=>
    unfold DataW.trod at h;rw [hu] at h
    split at h <;> simp_all
    obtain ⟨⟨rfl,hw⟩,_⟩:=h;exact ⟨_,.cons _ _ _ _ (.int _ _ hw) .nil,.cons _ _ _ _ (.int _ _) .nil⟩
  ·rename_i hu;obtain rfl:=sj hs
   cases fuel with
   | zero=>simp [DataW.trod] at h
   | succ n=>
    unfold DataW.trod at h;rw [hu] at h
    split at h <;> simp_all
    exact ⟨_,.cons _ _ _ _ (.str _ h.1) .nil,.cons _ _ _ _ (.str _) .nil⟩
  ·rename_i e hu;split at hs
   ·rename_i l hl;split at hs
    ·rename_i hlen;obtain rfl:=sj hs;rcases DataW.trod_slice hu h with ⟨rfl,_⟩ | ⟨a,len,cap,elems,rest,n,rfl,rfl,_,hb,hlc,hcm,hel,hget,_⟩
     ·exact ⟨[.vsl false []],.cons _ _ _ _ (.sl l [] (by simp) (.nil l)) .nil,.cons _ _ _ _ (.vsl0 false none 0 (by simp) (fun _=>rfl)) .nil⟩
     ·subst hel;have key : ∀ i : Nat, i < elems.length -> (a.add (i * P.cellsOf e)).spot = none /\ ∃ x : List J, jT l x /\ d8 (JM W) a.block (a.off + i * P.cellsOf e) x := fun i hi => by
       have h1:=hget i hi;rw [List.getElem?_eq_getElem hi] at h1;obtain ⟨cs',h2,h3⟩:=Option.bind_eq_some_iff.1 h1;obtain ⟨avs,g1,g2⟩:=zZ d hl h3;obtain ⟨k1,k2,k3⟩:=zbM h2 (by omega);obtain ⟨b1,b2⟩:=zlF a (i*P.cellsOf e);refine ⟨k1,avs,g1,zeP g2 g1.cell fun j v hj=>?_⟩;have:=k3 j v hj;rw [b1,b2] at this;exact this
      by_cases h0:elems.length=0
      ·rw [h0];exact ⟨[.vsl false []],.cons _ _ _ _ (.sl l [] (by simp) (.nil l)) .nil,.cons _ _ _ _ (.vsl0 false (some a) cap (by simp) (by simp)) .nil⟩
      ·let f:Nat->List J:=fun i=>if h:i < elems.length then (key i h).2.choose else []
       have hf : ∀ i, i < elems.length -> jT l (f i) /\ d8 (JM W) a.block (a.off + i * P.cellsOf e) (f i) := fun i hi => by
        simp only [f,dif_pos hi];exact (key i hi).2.choose_spec
       have hsp:=(key 0 (by omega)).1;rw [Nat.zero_mul] at hsp
       replace hsp:a.spot=none:=by simpa [Addr.add] using hsp
       obtain ⟨X,o,sp⟩:=a;simp only [] at hsp;subst hsp;refine ⟨[.vsl false ((List.range elems.length).map f)],.cons _ _ _ _ (.sl l _ (by simp;omega) (.of_all fun y he=>?_)) .nil,.cons _ _ _ _ (.vsl false _ X o (P.cellsOf e) cap elems.length (gQ.of_get fun i y he=>?_) (by simp) hlc (by simp)) .nil⟩
       ·obtain ⟨i,hi,rfl⟩:=List.mem_map.1 he;exact (hf i (by simpa using hi)).1
       ·have hi:i < elems.length:=by have:=(List.getElem?_eq_some_iff.1 he).1;simpa using this
        rw [List.getElem?_map,List.getElem?_range hi] at he;obtain rfl:=sj he;exact ⟨by rw [(hf i hi).1.length];exact hlen.1,(hf i hi).2⟩
    ·simp at hs
   ·simp at hs
  ·rename_i fs hu;obtain ⟨xs,n,rfl,_,hl,hlen,hf⟩:=DataW.trod_struct hu h;have := Tn (enc := enc) (base := base) (spare := spare) (held := held) (n := n) hl (fun t tys cs' h1 ⟨x, h2⟩ => zZ d h1 h2) fs.toList 0 tys hs fun f hfm => by
    obtain ⟨i,hi⟩:=List.mem_iff_getElem?.1 hfm;have hi':fs[i]?=some f:=by simpa using hi
    have hlt:=(Array.getElem?_eq_some_iff.1 hi').1;exact ⟨_,(hf i f hi').trans (List.getElem?_eq_getElem (by omega))⟩
   simpa using this
  ·rename_i n e hu;split at hs
   ·rename_i l hl;split at hs
    ·rename_i hz;obtain rfl:=sj hs;obtain ⟨xs,m,rfl,_,hlc,hlen,hget⟩:=DataW.trod_array hu h;have:=To (W:=W) (n:=n) (sz:=P.cellsOf e) (cs:=cs) (l:=l) (by rw [hlc];exact hz.1) (fun i hi=>zZ d hl ((hget i hi).trans (List.getElem?_eq_getElem (by omega)))) n (Nat.le_refl _);simpa using this
    ·simp at hs
   ·simp at hs
  ·simp at hs
theorem Tp {d:Nat}{t:TypeId}{tys:List Ty}{v:Value}{dd:DataW H}{ps:List MemPlace}(hs:shT P d t=some tys)(hok:Value.okWide P W .any base t v)(h:DataW.Trod enc P W 0 spare held t v dd ps):
  (∃ avs,jT tys avs/\dH (JM W) (.agg avs) v/\∃ cs,v=.agg cs)\/(∃ ty c,tys=[ty]/\yn ty c/\dH (JM W) c v/\∀ cs,v≠.agg cs):=by
 obtain ⟨fuel,h⟩:=h;obtain ⟨avs,h1,h2⟩:=zZ d hs h;by_cases hv:∃ cs,v=.agg cs
 ·obtain ⟨cs,rfl⟩:=hv;exact .inl ⟨avs,h1,.agg avs cs (by simpa [Value.cells] using h2) h1.cell,cs,rfl⟩
 ·right
  have e:v.cells=#[v]:=by
   cases v <;> first | rfl | exact (hv ⟨_,rfl⟩).elim
  rw [e] at h2
  cases h2 with
  | cons c _ cs _ hc ht=>
   cases ht
   cases h1 with
   | cons ty ts _ _ g1 g2=>
    cases g2
    exact ⟨ty,c,rfl,g1,hc,fun cs hcs=>hv ⟨cs,hcs⟩⟩
end
theorem zcY {C:eD}{P:Program}(hC:Ku C P){W:World}{f:FuncId}{F:aZ}{args:List J}{cargs:Array Value}{h':O}(hF:C.fns f=some F)
  (hv:Z C ⟨0,0,0,0⟩ f args ⟨[],[]⟩=some (.bool true,h')) (hg:∀ g cs,C.glob g=some cs->BJ (JM W) g cs) (hargs:aU (JM W) args cargs.toList):
  Calls P f cargs W fun e W'=>e=.returned (.bool true)/\Below W.heap.size W W':=by
 obtain ⟨⟨_,hc⟩,_⟩:=zcR hC hv;have hsim:iC C (JM W):=⟨rfl,rfl,fun b X cs hb=>by simp [JM] at hb,fun b b' X hb=>by simp [JM] at hb,fun t t' X z z' ht=>by simp [JM] at ht,fun b t X z hb=>by simp [JM] at hb,fun t X z ht=>by simp [JM] at ht,hg⟩;obtain ⟨nx,w',h1,h2⟩:=hc (JM W) cargs rfl hsim ⟨Nat.le_refl _,Nat.le_refl _,Nat.le_refl _,Nat.le_refl _⟩ hargs;obtain ⟨fn,fl,g1,g2,g3⟩:=hC.fns f F hF;have hb:∃ x,fn.body=some x:=by
  unfold WG at g2
  cases hx:fn.body with
  | some x=>exact ⟨x,rfl⟩
  | none=>rw [hx] at g2;simp at g2
 obtain ⟨x,hx⟩:=hb;have he:=Qr g1 hx g3 cargs W;have h1':(callFunc f cargs).run P W=.ok nx w':=h1;rw [he] at h1';injection h1' with e1 e2
 subst e1 e2;rcases h2 with ⟨cv,h3 | h3,_⟩ | ⟨f',args',h3,h4⟩
 ·simp at h3
 ·simp at h3
 ·injection h3 with e1 e2
  subst e1 e2;refine h4.mono fun e W' hgd=>?_
  cases e with
  | returned cv=>
   obtain ⟨s',rfl,_,_,hle,hrep⟩:=hgd
   cases hrep
   have hk:=hle.kept;exact ⟨rfl, hk.os, hk.tape, hk.out, hk.size, fun k hlt => hk.heap k hlt fun ht => by
    rcases ht with ⟨b,hb⟩ | ⟨t,z,hz⟩
    ·simp [JM] at hb
    ·simp [JM] at hz⟩
  | panicked _=>exact hgd.elim
  | outgrown=>exact hgd.elim
end Go.Av
namespace Go.Av
abbrev iv (d:Nat)(o:Vw):AI:=⟨some d,.v o,none,[],0,0⟩
abbrev ir (d:Nat)(o:Lk):AI:=⟨some d,.r o,none,[],0,0⟩
abbrev ic (d:Nat)(o:TP):AI:=⟨some d,.c o,none,[],0,0⟩
abbrev jc (o:TP):AI:=⟨none,.c o,none,[],0,0⟩
def aL {α:Type}(x:α):Nat->List α
 | 0=>[]
 | n+1=>x :: aL x n
def ifK {α:Type}(b:Bool)(x y:α):α:=if b=true then x else y
@[simp] theorem zoZ {α:Type}(x y:α):ifK true x y=x:=rfl
@[simp] theorem zng {α:Type}(x y:α):ifK false x y=y:=rfl
noncomputable section
variable (C:eD) (L:az) (fr:Fr) (h:O)
def Xc (r:Option (dt × Fr × O))(b:AC):Option (dt × Fr × O):=
 r.bind fun r => match r.1 with
  | .normal=>run C L b r.2.1 r.2.2
  | _=>some r
@[simp] theorem znh (b:AC):Xc C L none b=none:=rfl
@[simp] theorem zjW (b:AC):Xc C L (some (.normal,fr,h)) b=run C L b fr h:=rfl
@[simp] theorem zni (b:AC)(i:Nat):Xc C L (some (.exit i,fr,h)) b=some (.exit i,fr,h):=rfl
@[simp] theorem znj (b:AC)(i:Nat):Xc C L (some (.goto i,fr,h)) b=some (.goto i,fr,h):=rfl
@[simp] theorem zo1 (b:AC):Xc C L (some (.ret,fr,h)) b=some (.ret,fr,h):=rfl
@[simp] theorem zo2:run C L .skip fr h=some (.normal,fr,h):=by rw [run.eq_def]
@[simp] theorem zpc (i:Nat):run C L (.exit i) fr h=some (.exit i,fr,h):=by rw [run.eq_def]
@[simp] theorem zqh:run C L .ret fr h=some (.ret,fr,h):=by rw [run.eq_def]
@[simp] theorem zpe (a b:AC):run C L (.seq a b) fr h=Xc C L (run C L a fr h) b:=by rw [run.eq_def];rfl
def zf6 (id:Nat)(r:Option (dt × Fr × O)):Option (dt × Fr × O):=r.map fun r=>if r.1=.exit id then (.normal,r.2) else r
@[simp] theorem znp (id:Nat):zf6 id none=none:=rfl
@[simp] theorem znq (id:Nat)(e:dt):zf6 id (some (e,fr,h))=some (if e=.exit id then .normal else e,fr,h):=by
 unfold zf6;simp only [Option.map_some];split <;> simp_all
@[simp] theorem zpf (id:Nat)(a:AC):run C L (.blk id a) fr h=zf6 id (run C L a fr h):=by
 rw [run.eq_def];simp only [zf6]
 cases run C L a fr h with
 | none=>rfl
 | some r=>simp only [bind,Option.bind_some,Option.map_some];split <;> rfl
def XL:J->Option Bool
 | .bool b=>some b
 | _=>none
@[simp] theorem zj8 (b:Bool):XL (.bool b)=some b:=rfl
def ZI (b:Bool)(x y:AC):Option (dt × Fr × O):=if b=true then run C L x fr h else run C L y fr h
@[simp] theorem zmj (x y:AC):ZI C L fr h true x y=run C L x fr h:=rfl
@[simp] theorem zj9 (x y:AC):ZI C L fr h false x y=run C L y fr h:=rfl
def zka (c:Option Bool)(x y:AC):Option (dt × Fr × O):=c.bind fun c=>ZI C L fr h c x y
@[simp] theorem zmk (b:Bool)(x y:AC):zka C L fr h (some b) x y=ZI C L fr h b x y:=rfl
@[simp] theorem zns (c:AO)(a b:AC):run C L (.cond c a b) fr h=zka C L fr h (XL (C.ev fr c)) a b:=by
 rw [run.eq_def];simp only;generalize C.ev fr c=v
 cases v <;> first | rfl | (rename_i b;cases b <;> rfl)
theorem JZ (a:AC):run C L (.loop a) fr h=Xc C L (run C L a fr h) (.loop a):=by
 rw [run.eq_def];rfl
def zpi (r:Option (Fr × O)):Option (dt × Fr × O):=r.map fun r=>(.normal,r.1,r.2)
@[simp] theorem znt:zpi (some (fr,h))=some (.normal,fr,h):=rfl
@[simp] theorem zpj (ops:List AI):run C L (.reg ops) fr h=zpi (ss C L ops fr h):=by
 rw [run.eq_def];simp only;cases ss C L ops fr h <;> rfl
@[simp] theorem znu:ss C L [] fr h=some (fr,h):=by rw [ss.eq_def]
theorem wm (i : AI)(rest : List AI) : ss C L (i :: rest) fr h = if cM fr i.grd = true then (step1 C L i.op fr h).bind fun r => ss C L rest (put fr i.dst r.1) r.2 else ss C L rest (put fr i.dst ba) h := by
 rw [ss.eq_def];rfl
def opV (d:Option Nat)(rest:List AI)(r:Option J):Option (Fr × O):=r.bind fun v=>ss C L rest (put fr d v) h
@[simp] theorem zpk (d:Option Nat)(rest:List AI)(v:J):opV C L fr h d rest (some v)=ss C L rest (put fr d v) h:=rfl
def opC (d:Option Nat)(rest:List AI)(r:Option (J × O)):Option (Fr × O):=r.bind fun r=>ss C L rest (put fr d r.1) r.2
@[simp] theorem zpl (d:Option Nat)(rest:List AI)(v:J):opC C L fr d rest (some (v,h))=ss C L rest (put fr d v) h:=rfl
@[simp] theorem zra (d:Option Nat)(o:Vw)(rest:List AI)(u:List Nat)(x y:Nat):ss C L (⟨d,.v o,none,u,x,y⟩ :: rest) fr h=opV C L fr h d rest (bp C fr o):=by
 rw [wm,step1.eq_def];simp only [cM,if_true]
 cases bp C fr o <;> rfl
@[simp] theorem zrb (d:Option Nat)(o:Lk)(rest:List AI)(u:List Nat)(x y:Nat):ss C L (⟨d,.r o,none,u,x,y⟩ :: rest) fr h=opV C L fr h d rest (qD C L o fr h):=by
 rw [wm,step1.eq_def];simp only [cM,if_true]
 cases qD C L o fr h <;> rfl
@[simp] theorem zrc (d:Option Nat)(o:TP)(rest:List AI)(u:List Nat)(x y:Nat):ss C L (⟨d,.c o,none,u,x,y⟩ :: rest) fr h=opC C L fr d rest (iX C L o fr h):=by
 rw [wm,step1.eq_def];simp only [cM,if_true];rfl
def Ss (v:J)(b:Bool):Bool:=match v with | .bool c=>c==b | _=>false
@[simp] theorem znv (c:Bool):Ss (.bool c) true=c:=by cases c <;> rfl
@[simp] theorem zmn (c:Bool):Ss (.bool c) false=!c:=by cases c <;> rfl
def zjn (g:Bool)(d:Option Nat)(o:Wk)(rest:List AI):Option (Fr × O):=if g=true then ss C L (⟨d,o,none,[],0,0⟩ :: rest) fr h else ss C L rest (put fr d ba) h
@[simp] theorem znw (d:Option Nat)(o:Wk)(rest:List AI):zjn C L fr h true d o rest=ss C L (⟨d,o,none,[],0,0⟩ :: rest) fr h:=rfl
@[simp] theorem zmo (d:Option Nat)(o:Wk)(rest:List AI):zjn C L fr h false d o rest=ss C L rest (put fr d ba) h:=rfl
@[simp] theorem zrd (d:Option Nat)(o:Wk)(t:Nat)(b:Bool)(rest:List AI)(u:List Nat)(x y:Nat):ss C L (⟨d,o,some (t,b),u,x,y⟩ :: rest) fr h=
  zjn C L fr h (Ss (fr t) b) d o rest:=by
 unfold zjn;rw [wm,wm];simp only [cM,if_true,Ss];rfl
@[simp] theorem zpm (n:Nat)(g:Bool)(x:AO):qD C L (.ld n g x) fr h=qk h (C.ev fr x) n g:=by rw [qD.eq_def];rfl
@[simp] theorem znx (x:AO):qD C L (.b2s x) fr h=H6 C fr h (.b2s x):=by rw [qD.eq_def]
@[simp] theorem zmp (x:AO):qD C L (.mark x) fr h=H6 C fr h (.mark x):=by rw [qD.eq_def]
def XY (q:Bool)(r:Option (J × O)):Option J:=if q=true then r.map (·.1) else none
@[simp] theorem zny (v:J):XY true (some (v,h))=some v:=rfl
@[simp] theorem zmr (f:FuncId)(as:List AO):qD C L (.call f as) fr h=XY (U C f) (Z C L f (as.map (C.ev fr)) h):=by
 rw [qD.eq_def];simp only [XY];split
 ·cases Z C L f (as.map (C.ev fr)) h <;> rfl
 ·rfl
@[simp] theorem zms (f:FuncId)(as:List AO):iX C L (.call f as) fr h=Z C L f (as.map (C.ev fr)) h:=by rw [iX.eq_def]
def zgw (x:J)(as:List J):Option (J × O):=match x with
 | .fn (.func f) a b=>Z C L f (a++as++b) h
 | _=>none
@[simp] theorem znA (f:FuncId)(a b as:List J):zgw C L h (.fn (.func f) a b) as=Z C L f (a++as++b) h:=rfl
@[simp] theorem zkb (x:AO)(as:List AO):iX C L (.callv x as) fr h=zgw C L h (C.ev fr x) (as.map (C.ev fr)):=by
 rw [iX.eq_def];rfl
@[simp] theorem zkc (z:List J):iX C L (.alloc z) fr h=fU C L fr h (.alloc z):=by rw [iX.eq_def]
@[simp] theorem znB (x:AO):iX C L (.box x) fr h=fU C L fr h (.box x):=by rw [iX.eq_def]
@[simp] theorem zmu (a b:Nat)(z:List J)(p:List (Nat × AO)):iX C L (.slit a b z p) fr h=fU C L fr h (.slit a b z p):=by rw [iX.eq_def]
@[simp] theorem zpr (a:Nat)(z:List J)(x:AO):iX C L (.mk a z x) fr h=fU C L fr h (.mk a z x):=by rw [iX.eq_def]
@[simp] theorem znC (a:Nat)(z:List J)(x y:AO):iX C L (.mkc a z x y) fr h=fU C L fr h (.mkc a z x y):=by rw [iX.eq_def]
@[simp] theorem zpt (n:Nat)(x y:AO):iX C L (.st n x y) fr h=fU C L fr h (.st n x y):=by rw [iX.eq_def]
@[simp] theorem znD (n:Nat)(r:Bool)(x y:AO):iX C L (.app n r x y) fr h=fU C L fr h (.app n r x y):=by rw [iX.eq_def]
@[simp] theorem zmv (n:Nat)(x y:AO):iX C L (.copy n x y) fr h=fU C L fr h (.copy n x y):=by rw [iX.eq_def]
@[simp] theorem zkd (z:List J)(x:AO):iX C L (.clear z x) fr h=fU C L fr h (.clear z x):=by rw [iX.eq_def]
@[simp] theorem znE (x:AO):iX C L (.s2b x) fr h=fU C L fr h (.s2b x):=by rw [iX.eq_def]
@[simp] theorem zrp (n:Nat):C.ev fr (.t n)=fr n:=rfl
@[simp] theorem zrq (v:J):C.ev fr (.k v)=v:=rfl
@[simp] theorem zol (d:Nat)(v:J):put fr (some d) v=HN fr d v:=rfl
@[simp] theorem zom (v:J):put fr none v=fr:=rfl
@[simp] theorem zon (u:List Nat)(i:Nat):oU u fr i=ifK (u.contains i) (fr i) ba:=rfl
def PH (v:J)(r:Option (Fr × List O × List J)):Option (Fr × List O × List J):=r.map fun q=>(q.1,q.2.1,v :: q.2.2)
def TW (h:O)(v:J)(r:Option (Fr × List O × List J)):Option (Fr × List O × List J):=r.map fun q=>(q.1,h :: q.2.1,v :: q.2.2)
@[simp] theorem zkP (v:J)(fr:Fr)(hs:List O)(vs:List J):PH v (some (fr,hs,vs))=some (fr,hs,v :: vs):=rfl
@[simp] theorem zkQ (h:O)(v:J)(fr:Fr)(hs:List O)(vs:List J):TW h v (some (fr,hs,vs))=some (fr,h :: hs,v :: vs):=rfl
def YL (u:Option Unit):Option (dt × Fr × O):=u.map fun _=>(.normal,fr,h)
@[simp] theorem zkT:YL fr h (some ())=some (.normal,fr,h):=rfl
def zdN (ops:List AI)(r:Option (Fr × List O × List J)):Option (dt × Fr × O):=
 r.bind fun r=>YL r.1 (r.2.1.getLastD h) (rg C L ops r.2.2 fr (h :: r.2.1))
@[simp] theorem zkU (ops:List AI)(fr':Fr)(hs:List O)(vs:List J):zdN C L fr h ops (some (fr',hs,vs))=YL fr' (hs.getLastD h) (rg C L ops vs fr (h :: hs)):=rfl
@[simp] theorem zmW (ops:List AI):run C L (.draw ops) fr h=zdN C L fr h ops (mi C L ops fr h):=by
 rw [run.eq_def];simp only [zdN,YL]
 cases mi C L ops fr h with
 | none=>rfl
 | some r=>simp only [bind,Option.bind_some];cases rg C L ops r.2.2 fr (h :: r.2.1) <;> rfl
@[simp] theorem zmY:mi C L [] fr h=some (fr,[],[]):=by rw [mi.eq_def]
def dV (d:Option Nat)(rest:List AI)(r:Option J):Option (Fr × List O × List J):=r.bind fun v=>PH v (mi C L rest (put fr d v) h)
@[simp] theorem zpW (d:Option Nat)(rest:List AI)(v:J):dV C L fr h d rest (some v)=PH v (mi C L rest (put fr d v) h):=rfl
def dC (d:Option Nat)(rest:List AI)(r:Option (J × O)):Option (Fr × List O × List J):=r.bind fun r=>TW r.2 r.1 (mi C L rest (put fr d r.1) r.2)
@[simp] theorem zpX (d:Option Nat)(rest:List AI)(v:J):dC C L fr d rest (some (v,h))=TW h v (mi C L rest (put fr d v) h):=rfl
@[simp] theorem zqE (d:Option Nat)(o:Vw)(rest:List AI)(u:List Nat)(x y:Nat):mi C L (⟨d,.v o,none,u,x,y⟩ :: rest) fr h=
  dV C L fr h d rest (bp C (oU u fr) o):=by
 rw [mi.eq_def];simp only [cM,if_true];rw [step1.eq_def];simp only
 cases bp C (oU u fr) o with
 | none=>rfl
 | some v=>simp only [bind,Option.bind_some,dV];cases mi C L rest (put fr d v) h <;> rfl
@[simp] theorem zqF (d:Option Nat)(o:Lk)(rest:List AI)(u:List Nat)(x y:Nat):mi C L (⟨d,.r o,none,u,x,y⟩ :: rest) fr h=
  dV C L fr h d rest (qD C L o (oU u fr) h):=by
 rw [mi.eq_def];simp only [cM,if_true];rw [step1.eq_def];simp only
 cases qD C L o (oU u fr) h with
 | none=>rfl
 | some v=>simp only [bind,Option.bind_some,dV];cases mi C L rest (put fr d v) h <;> rfl
@[simp] theorem zqG (d:Option Nat)(o:TP)(rest:List AI)(u:List Nat)(x y:Nat):mi C L (⟨d,.c o,none,u,x,y⟩ :: rest) fr h=
  dC C L fr d rest (iX C L o (oU u fr) h):=by
 rw [mi.eq_def];simp only [cM,if_true];rw [step1.eq_def];simp only
 cases iX C L o (oU u fr) h with
 | none=>rfl
 | some r=>simp only [bind,Option.bind_some,dC];cases mi C L rest (put fr d r.1) r.2 <;> rfl
def zbc (g:Bool)(d:Option Nat)(o:Wk)(u:List Nat)(x y:Nat)(rest:List AI):Option (Fr × List O × List J):=
 if g=true then mi C L (⟨d,o,none,u,x,y⟩ :: rest) fr h else (if xX o=true then TW h ba (mi C L rest (put fr d ba) h) else PH ba (mi C L rest (put fr d ba) h))
@[simp] theorem zm1 (d:Option Nat)(o:Wk)(u:List Nat)(x y:Nat)(rest:List AI):zbc C L fr h true d o u x y rest=mi C L (⟨d,o,none,u,x,y⟩ :: rest) fr h:=rfl
@[simp] theorem zjM (d:Option Nat)(o:Vw)(u:List Nat)(x y:Nat)(rest:List AI):zbc C L fr h false d (.v o) u x y rest=PH ba (mi C L rest (put fr d ba) h):=rfl
@[simp] theorem zjO (d:Option Nat)(o:Lk)(u:List Nat)(x y:Nat)(rest:List AI):zbc C L fr h false d (.r o) u x y rest=PH ba (mi C L rest (put fr d ba) h):=rfl
@[simp] theorem zjP (d:Option Nat)(o:TP)(u:List Nat)(x y:Nat)(rest:List AI):zbc C L fr h false d (.c o) u x y rest=TW h ba (mi C L rest (put fr d ba) h):=rfl
@[simp] theorem zqI (d:Option Nat)(o:Wk)(t:Nat)(b:Bool)(rest:List AI)(u:List Nat)(x y:Nat):mi C L (⟨d,o,some (t,b),u,x,y⟩ :: rest) fr h=
  zbc C L fr h (Ss (fr t) b) d o u x y rest:=by
 unfold zbc;rw [mi.eq_def]
 conv=>rhs;rw [mi.eq_def]
 simp only [cM,if_true];show (if Ss (fr t) b=true then _ else _)=(if Ss (fr t) b=true then _ else _);split
 ·rfl
 ·cases mi C L rest (put fr d ba) h with
  | none=>cases o <;> rfl
  | some q=>cases o <;> rfl
@[simp] theorem zm2 (vs:List J)(hs:List O):rg C L [] vs fr hs=some ():=by rw [rg.eq_def]
@[simp] theorem zqJ (d:Option Nat)(o:Vw)(g:Option (Nat × Bool))(rest:List AI)(u:List Nat)(x y:Nat)(v:J)(vs:List J)(hs:List O):
  rg C L (⟨d,.v o,g,u,x,y⟩ :: rest) (v :: vs) fr hs=rg C L rest vs (put fr d v) hs:=by rw [rg.eq_def]
@[simp] theorem zqK (d:Option Nat)(o:TP)(g:Option (Nat × Bool))(rest:List AI)(u:List Nat)(x y:Nat)(v:J)(vs:List J)(hs:List O):
  rg C L (⟨d,.c o,g,u,x,y⟩ :: rest) (v :: vs) fr hs=rg C L rest vs (put fr d v) hs:=by rw [rg.eq_def]
def zk7 (rest:List AI)(vs:List J)(hs:List O)(r:Option Unit):Option Unit:=r.bind fun _=>rg C L rest vs fr hs
@[simp] theorem zm3 (rest:List AI)(vs:List J)(hs:List O):zk7 C L fr rest vs hs (some ())=rg C L rest vs fr hs:=rfl
def zd5 (g:Bool)(o:Lk)(u:List Nat)(x y:Nat)(d:Option Nat)(v:J)(rest:List AI)(vs:List J)(hs:List O):Option Unit:=
 if g=true then zk7 C L (put fr d v) rest vs hs (KU C L o (oU u fr) ((hs.take (y+1)).drop x) v) else rg C L rest vs (put fr d v) hs
@[simp] theorem zm4 (o:Lk)(u:List Nat)(x y:Nat)(d:Option Nat)(v:J)(rest:List AI)(vs:List J)(hs:List O):
  zd5 C L fr true o u x y d v rest vs hs=zk7 C L (put fr d v) rest vs hs (KU C L o (oU u fr) ((hs.take (y+1)).drop x) v):=rfl
@[simp] theorem zk8 (o:Lk)(u:List Nat)(x y:Nat)(d:Option Nat)(v:J)(rest:List AI)(vs:List J)(hs:List O):
  zd5 C L fr false o u x y d v rest vs hs=rg C L rest vs (put fr d v) hs:=rfl
theorem zd7 (d:Option Nat)(o:Lk)(g:Option (Nat × Bool))(rest:List AI)(u:List Nat)(x y:Nat)(v:J)(vs:List J)(hs:List O):
  rg C L (⟨d,.r o,g,u,x,y⟩ :: rest) (v :: vs) fr hs=zd5 C L fr (cM fr g&&decide (x < y)) o u x y d v rest vs hs:=by
 rw [rg.eq_def];rfl
@[simp] theorem zpZ (d:Option Nat)(o:Lk)(rest:List AI)(u:List Nat)(x y:Nat)(v:J)(vs:List J)(hs:List O):
  rg C L (⟨d,.r o,none,u,x,y⟩ :: rest) (v :: vs) fr hs=zd5 C L fr (decide (x < y)) o u x y d v rest vs hs:=by
 rw [zd7];simp [cM]
@[simp] theorem zp0 (d:Option Nat)(o:Lk)(t:Nat)(b:Bool)(rest:List AI)(u:List Nat)(x y:Nat)(v:J)(vs:List J)(hs:List O):
  rg C L (⟨d,.r o,some (t,b),u,x,y⟩ :: rest) (v :: vs) fr hs=zd5 C L fr (Ss (fr t) b&&decide (x < y)) o u x y d v rest vs hs:=by
 rw [zd7];rfl
@[simp] theorem zoy (o:Lk)(v:J):KU C L o fr [] v=some ():=by rw [KU.eq_def]
open Classical in
def zlb (o:Lk)(hs:List O)(v:J)(u:Option J):Option Unit:=u.bind fun u=>if u=v then KU C L o fr hs v else none
@[simp] theorem zm5 (o:Lk)(hs:List O)(v:J):zlb C L fr o hs v (some v)=KU C L o fr hs v:=by simp [zlb]
@[simp] theorem zm6 (o:Lk)(v:J)(h:O)(hs:List O):KU C L o fr (h :: hs) v=zlb C L fr o hs v (qD C L o fr h):=by rw [KU.eq_def];rfl
theorem zee {f:FuncId}{F:aZ}(hx:C.ext f=none)(hf:C.fns f=some F)(hp:F.pre=none)(args:List J):Z C L f args h=
  (o6 (C.mode f) h args).bind fun a => (run C (d4 (C.mode f) L h) F.code (fun i => a.1.getD i ba) h).bind fun r =>
   if (r.1=.normal\/r.1=.ret)/\a.1.length<=F.n then
    (vg r.2.1 r.2.2 F.res).bind fun vs=>(vf (C.mode f) h r.2.2 (Fe vs)).bind fun o=>if (a.2&&!o.1.flat)=true then none else some o
   else none:=by
 rw [Z.eq_def];simp only [hx,hf,hp,bind,Option.bind_some,yf]
theorem PY {f : FuncId}{g : zaK}(hx : C.ext f = some g)(args : List J) : Z C L f args h = (g.pre L args h).bind fun q => match q with
  | .inl r=>some r
  | .inr q=>(Z C L q.1 q.2.1 q.2.2).bind fun r=>g.post args r.1 r.2:=by
 rw [Z.eq_def];simp only [hx,bind]
 congr 1
end
end Go.Av
namespace Go.Av
section
variable (C:eD) (fr:Fr)
theorem ziM (d:Nat)(v:J)(i:Nat):HN fr d v i=ifK (i==d) v (fr i):=by
 unfold HN ifK;by_cases h:i=d
 ·subst h;simp
 ·simp [h]
attribute [simp] ziM
def pe:J->Option J
 | .tup _=>none
 | .agg cs=>some (.vptr cs 0)
 | v=>some (.vptr [v] 0)
theorem ziL (x:AO):bp C fr (.boxv x)=pe (C.ev fr x):=by
 simp only [bp]
 cases C.ev fr x <;> simp [pe,J.okV,J.cells]
theorem zlW (x:AO):bp C fr (.mv x)=some (C.ev fr x):=by simp only [bp]
def zfq (c:Option Bool)(a b:J):Option J:=c.map fun t=>ifK t a b
@[simp] theorem zlX (t:Bool)(a b:J):zfq (some t) a b=some (ifK t a b):=by unfold zfq;exact rfl
theorem zfs (c a b:AO):bp C fr (.pick c a b)=zfq (XL (C.ev fr c)) (C.ev fr a) (C.ev fr b):=by
 simp only [bp]
 cases C.ev fr c <;> rfl
theorem ziQ (op:BinOp)(x y:AO):bp C fr (.bin op x y)=aV op (C.ev fr x) (C.ev fr y):=by simp only [bp]
theorem zlZ (c : zaH)(n : Bool)(x y : AO) : bp C fr (.eq c n x y) = (GF c (C.ev fr x) (C.ev fr y)).map fun b => .bool (n ^^ b) := by
 simp only [bp]
 cases n <;> cases GF c (C.ev fr x) (C.ev fr y) <;> simp
def zl1:J->Option J
 | .bool b=>some (.bool !b)
 | _=>none
theorem ziR (x:AO):bp C fr (.un .not x)=zl1 (C.ev fr x):=by
 simp only [bp]
 cases C.ev fr x <;> rfl
theorem ziS (x:AO):bp C fr (.un .neg x)=unA .neg (C.ev fr x):=by simp only [bp]
def XA (k:IntKind):J->Option J
 | .int _ n=>some (.int k (k.wrap n))
 | _=>none
theorem ziW (k:IntKind)(x:AO):bp C fr (.i2i k x)=XA k (C.ev fr x):=by
 simp only [bp];cases C.ev fr x <;> rfl
def zl3:J->Option ByteArray
 | .str s=>some s
 | _=>none
theorem zfE (x : AO) : bp C fr (.lenS x) = (zl3 (C.ev fr x)).map fun s => .int .i64 s.size := by
 simp only [bp];cases C.ev fr x <;> rfl
theorem zfG (x:AO):bp C fr (.lenL x)=(B9 (C.ev fr x)).map fun (n:Nat)=>J.int .i64 (n:Int):=by simp only [bp]
theorem zfJ (t:TypeId)(x:AO):bp C fr (.mkif t x)=some (.iface t (C.ev fr x)):=by simp only [bp]
theorem zfL (f:Fn)(a b:List AO):bp C fr (.mkfn f a b)=some (.fn f (a.map (C.ev fr)) (b.map (C.ev fr))):=by simp only [bp]
theorem zb6 (k:SK)(sz:Nat)(x:AO)(lo hi mx:Option AO):bp C fr (.slice k sz x lo hi mx)=eP k sz (C.ev fr x) (lo.map (C.ev fr)) (hi.map (C.ev fr)) (mx.map (C.ev fr)):=by simp only [bp]
def Kw (off:Nat):J->Option J
 | .ptr b o=>some (.ptr b (o+off))
 | .vptr cs o=>some (.vptr cs (o+off))
 | _=>none
theorem zfN (off:Nat)(x:AO):bp C fr (.fadr off x)=Kw off (C.ev fr x):=by
 simp only [bp];cases C.ev fr x <;> rfl
def O5:J->Option J
 | .ptr b o=>some (.ptr b o)
 | .vptr cs o=>some (.vptr cs o)
 | .iface t v=>some (.iface t v)
 | _=>none
theorem zi3 (x:AO):bp C fr (.nck x)=O5 (C.ev fr x):=by
 simp only [bp];cases C.ev fr x <;> rfl
def zi4 (off sz:Nat)(agg:Bool):J->Option J
 | .agg cs=>cL agg cs off sz
 | _=>none
theorem zi5 (off sz:Nat)(agg:Bool)(x:AO):bp C fr (.fld off sz agg x)=zi4 off sz agg (C.ev fr x):=by
 simp only [bp];cases C.ev fr x <;> rfl
theorem zfQ (a:Option Nat)(sz:Nat)(x i:AO):bp C fr (.iadr a sz x i)=bO a sz (C.ev fr x) (C.ev fr i):=by simp only [bp]
def zi6 (len sz:Nat)(agg:Bool):J->J->Option J
 | .agg cs,.int _ i=>if 0<=i/\i < len then cL agg cs (i.toNat*sz) sz else none
 | _,_=>none
theorem zfS (len sz:Nat)(agg:Bool)(x i:AO):bp C fr (.idxA len sz agg x i)=zi6 len sz agg (C.ev fr x) (C.ev fr i):=by
 simp only [bp];generalize C.ev fr x=a;generalize C.ev fr i=b
 cases a <;> cases b <;> rfl
def zfU:J->J->Option J
 | .str s,.int _ i=>if 0<=i then (s.data.toList[i.toNat]?).map fun b=>.int .u8 b.toNat else none
 | _,_=>none
theorem zfV (x i:AO):bp C fr (.idxS x i)=zfU (C.ev fr x) (C.ev fr i):=by
 simp only [bp];generalize C.ev fr x=a;generalize C.ev fr i=b
 cases a <;> cases b <;> rfl
def zmb (i:Nat):J->Option J
 | .tup vs=>vs[i]?
 | _=>none
theorem zi9 (x:AO)(i:Nat):bp C fr (.ext x i)=zmb i (C.ev fr x):=by
 simp only [bp];cases C.ev fr x <;> rfl
def zfY (n:Nat):J->Option J
 | .sl b off _ len _=>if n<=len then some (.ptr b off) else none
 | .vsl _ es=>if n<=es.length/\0 < n then some (.vptr (es.take n).flatten 0) else none
 | .gsl _ es=>if n<=es.length/\0 < n then some (.vptr (es.take n).flatten 0) else none
 | _=>none
theorem zja (n:Nat)(x:AO):bp C fr (.s2a n x)=zfY n (C.ev fr x):=by
 simp only [bp];cases C.ev fr x <;> rfl
theorem zcb (z : List J)(ps : List (Nat × Nat × AO)) : bp C fr (.build z ps) = (al z (ps.map fun p => (p.1, p.2.1, C.ev fr p.2.2))).map .agg := by
 simp only [bp];cases al z (ps.map fun p=>(p.1,p.2.1,C.ev fr p.2.2)) <;> rfl
theorem zf2 (sz len : Nat)(z : List J)(ps : List (Nat × AO)) : bp C fr (.slit sz len z ps) = (al (rep z len) (ps.map fun p => (p.1 * sz, sz, C.ev fr p.2))).map fun cs => .vsl true (chunks sz len cs) := by
 simp only [bp];cases al (rep z len) (ps.map fun p=>(p.1*sz,sz,C.ev fr p.2)) <;> rfl
theorem zf3 (m:Bool)(x:AO)(xs:List AO):bp C fr (.mxmn m (x :: xs))=BI m (C.ev fr x) (xs.map (C.ev fr)):=by simp only [bp,List.map_cons]
end
section
variable (k:IntKind) (a b:Int)
@[simp] theorem zpb (cs:List J):pe (.agg cs)=some (.vptr cs 0):=by unfold pe;exact rfl
@[simp] theorem zmy (b:Bool):zl1 (.bool b)=some (.bool !b):=by unfold zl1;exact rfl
@[simp] theorem iL (k':IntKind):XA k' (.int k a)=some (.int k' (k'.wrap a)):=by unfold XA;exact rfl
@[simp] theorem znF (s:ByteArray):zl3 (.str s)=some s:=by unfold zl3;exact rfl
@[simp] theorem znG (c:Bool)(es:List (List J)):B9 (.vsl c es)=some es.length:=by unfold B9;exact rfl
@[simp] theorem zpw (x off sz n:Nat)(c:Option Nat):B9 (.sl x off sz n c)=some n:=by unfold B9;exact rfl
@[simp] theorem zmz (off x o:Nat):Kw off (.ptr x o)=some (.ptr x (o+off)):=by unfold Kw;exact rfl
@[simp] theorem zki (off o:Nat)(cs:List J):Kw off (.vptr cs o)=some (.vptr cs (o+off)):=by unfold Kw;exact rfl
@[simp] theorem znJ (x o:Nat):O5 (.ptr x o)=some (.ptr x o):=by unfold O5;exact rfl
@[simp] theorem zpx (t:TypeId)(v:J):O5 (.iface t v)=some (.iface t v):=by unfold O5;exact rfl
@[simp] theorem zmA (o:Nat)(cs:List J):O5 (.vptr cs o)=some (.vptr cs o):=by unfold O5;exact rfl
@[simp] theorem znK (off sz:Nat)(g:Bool)(cs:List J):zi4 off sz g (.agg cs)=cL g cs off sz:=by unfold zi4;exact rfl
@[simp] theorem znL (i:Nat)(vs:List J):zmb i (.tup vs)=vs[i]?:=by unfold zmb;exact rfl
@[simp] theorem zgQ:aV .add (.int k a) (.int k b)=some (.int k (k.wrap (a+b))):=by simp [aV,md]
@[simp] theorem QO:aV .sub (.int k a) (.int k b)=some (.int k (k.wrap (a - b))):=by simp [aV,md]
@[simp] theorem QQ:aV .mul (.int k a) (.int k b)=some (.int k (k.wrap (a*b))):=by simp [aV,md]
theorem eN (h:b≠0):aV .quo (.int k a) (.int k b)=some (.int k (k.wrap (a.tdiv b))):=by simp [aV,md,h]
theorem bQ (h:b≠0):aV .rem (.int k a) (.int k b)=some (.int k (a.tmod b)):=by simp [aV,md,h]
@[simp] theorem wS:aV .and (.int k a) (.int k b)=some (.int k (k.wrap (BitVec.ofInt k.bits a&&&BitVec.ofInt k.bits b).toNat)):=by simp [aV,md]
@[simp] theorem VK:aV .or (.int k a) (.int k b)=some (.int k (k.wrap (BitVec.ofInt k.bits a|||BitVec.ofInt k.bits b).toNat)):=by simp [aV,md]
@[simp] theorem zgU:aV .xor (.int k a) (.int k b)=some (.int k (k.wrap (BitVec.ofInt k.bits a ^^^ BitVec.ofInt k.bits b).toNat)):=by simp [aV,md]
@[simp] theorem VL:aV .andNot (.int k a) (.int k b)=some (.int k (k.wrap (BitVec.ofInt k.bits a&&&~~~ (BitVec.ofInt k.bits b)).toNat)):=by simp [aV,md]
@[simp] theorem Lf:aV .eql (.int k a) (.int k b)=some (.bool (a==b)):=by simp [aV,md]
@[simp] theorem Lg:aV .neq (.int k a) (.int k b)=some (.bool (a !=b)):=by simp [aV,md]
@[simp] theorem zgV:aV .lss (.int k a) (.int k b)=some (.bool (decide (a < b))):=by simp [aV,md]
@[simp] theorem zpE:aV .leq (.int k a) (.int k b)=some (.bool (decide (a<=b))):=by simp [aV,md]
@[simp] theorem zgX:aV .gtr (.int k a) (.int k b)=some (.bool (decide (a > b))):=by simp [aV,md]
@[simp] theorem uT:aV .geq (.int k a) (.int k b)=some (.bool (decide (a>=b))):=by simp [aV,md]
@[simp] theorem wV (k':IntKind):aV .shl (.int k a) (.int k' b)=ua .shl k a b:=by simp [aV]
@[simp] theorem jz (k':IntKind):aV .shr (.int k a) (.int k' b)=ua .shr k a b:=by simp [aV]
@[simp] theorem znO (s t:ByteArray):aV .eql (.str s) (.str t)=some (.bool (s==t)):=by simp [aV]
@[simp] theorem znP (s t:ByteArray):aV .neq (.str s) (.str t)=some (.bool !(s==t)):=by simp [aV]
@[simp] theorem znQ (x y:Bool):GF .bool (.bool x) (.bool y)=some (x==y):=by simp [GF]
@[simp] theorem zg0 (sh:List CK)(xs ys:List J):GF (.agg sh) (.agg xs) (.agg ys)=cK sh xs ys:=by simp [GF]
theorem ap (cs:List J)(off n:Nat):cL false cs off n=cs[off]?:=by unfold cL;simp
theorem Pk {cs:List J}{n:Nat}(h:cs.length=n):cL true cs 0 n=some (.agg cs):=by
 unfold cL;subst h;simp
@[simp] theorem zkp (h:O)(cs:List J)(off n:Nat)(g:Bool):qk h (.vptr cs off) n g=cL g cs off n:=by unfold qk;exact rfl
theorem Pl:∀ (cs pre old:List J),old.length=cs.length->setAt (pre++old) pre.length cs=pre++cs
 | [],pre,old,h=>by simp at h;subst h;rfl
 | c :: cs,pre,[],h=>by simp at h
 | c :: cs, pre, x :: old, h => by
  have:=Pl cs (pre++[c]) old (by simpa using h);simp only [setAt];rw [List.set_append_right _ _ (Nat.le_refl _),Nat.sub_self,List.set_cons_zero];simpa using this
theorem VQ {cs old:List J}(h:old.length=cs.length):setAt old 0 cs=cs:=Pl cs [] old h
@[simp] theorem zmI (cs:List J)(off:Nat)(v:J):setAt cs off [v]=cs.set off v:=by simp only [setAt]
def hx (h:O)(bs:List (List J))(ts:List Nat):O:=⟨h.blks++bs,h.toks++ts⟩
theorem LY (h:O):hx h [] []=h:=by simp [hx]
def pA (n i off:Nat):J:=.ptr (n+i) off
def sA (n i off sz len:Nat)(cap:Option Nat):J:=.sl (n+i) off sz len cap
def gA (n i:Nat)(es:List (List J)):J:=.gsl (n+i) es
def V (h:O):az:=⟨h.blks.length,h.toks.length,h.blks.length,h.toks.length⟩
variable (h:O) (bs:List (List J)) (ts:List Nat) (L:az)
@[simp] theorem znY (n off i o:Nat):Kw off (pA n i o)=some (pA n i (o+off)):=by unfold Kw pA;exact rfl
@[simp] theorem zpH (n i o:Nat):O5 (pA n i o)=some (pA n i o):=by unfold O5 pA;exact rfl
def Yn (cs:Option (List J))(g:Bool)(off n:Nat):Option J:=cs.bind fun cs=>cL g cs off n
@[simp] theorem VT (cs:List J)(g:Bool)(off n:Nat):Yn (some cs) g off n=cL g cs off n:=by unfold Yn;exact rfl
@[simp] theorem Ts (i off n:Nat)(g:Bool):qk (hx h bs ts) (pA h.blks.length i off) n g=Yn bs[i]? g off n:=by
 unfold qk pA hx Yn;simp only;rw [List.getElem?_append_right (Nat.le_add_right _ _),Nat.add_sub_cancel_left]
def stI (h:O)(bs:List (List J))(ts:List Nat)(i off:Nat)(cs old:List J)(b:Bool):Option O:=if b=true then some (hx h (bs.set i (setAt old off cs)) ts) else none
@[simp] theorem L4 (i off:Nat)(cs old:List J):stI h bs ts i off cs old true=some (hx h (bs.set i (setAt old off cs)) ts):=by unfold stI;exact rfl
def stO (h:O)(bs:List (List J))(ts:List Nat)(i off:Nat)(cs:List J)(old:Option (List J)):Option O:=old.bind fun old=>stI h bs ts i off cs old (decide (off+cs.length<=old.length))
@[simp] theorem L5 (i off:Nat)(cs old:List J):stO h bs ts i off cs (some old)=stI h bs ts i off cs old (decide (off+cs.length<=old.length)):=by unfold stO;exact rfl
@[simp] theorem zmK (i off:Nat)(cs:List J)(r1 r2 r3 r4:Nat)(h1:r1<=h.blks.length)(h3:r3<=h.blks.length):
  dX ⟨r1,r2,r3,r4⟩ (hx h bs ts) (pA h.blks.length i off) cs=stO h bs ts i off cs bs[i]?:=by
 unfold dX pA stO stI hx;simp only;rw [List.getElem?_append_right (Nat.le_add_right _ _),Nat.add_sub_cancel_left]
 cases bs[i]? with
 | none=>rfl
 | some old=>
  simp only [Option.bind_some];by_cases hc:off+cs.length<=old.length
  ·rw [if_pos ⟨by omega,hc,.inl (by omega)⟩,if_pos (by simpa using hc)];rw [List.set_append_right _ _ (Nat.le_add_right _ _),Nat.add_sub_cancel_left]
  ·rw [if_neg (fun h=>hc h.2.1),if_neg (by simpa using hc)]
@[simp] theorem zkw (C:eD)(fr:Fr)(z:List J):fU C L fr (hx h bs ts) (.alloc z)=some (pA h.blks.length bs.length 0,hx h (bs++[z]) ts):=by
 simp only [fU];simp [hx,pA,push]
theorem aF (C:eD)(fr:Fr)(x:AO)(hv:(C.ev fr x).okV=true):fU C L fr (hx h bs ts) (.box x)=some (pA h.blks.length bs.length 0,hx h (bs++[(C.ev fr x).cells]) ts):=by
 simp only [fU,hv,if_true];simp [hx,pA,push]
def Vv (r:Option O):Option (J × O):=r.map fun h=>(ba,h)
@[simp] theorem zn8:Vv (some h)=some (ba,h):=by unfold Vv;exact rfl
def KL (L:az)(h:O)(n:Nat)(p v:J):Option (J × O):=if (decide (v.cells.length=n)&&v.okV)=true then Vv (dX L h p v.cells) else none
@[simp] theorem zpL (C:eD)(fr:Fr)(n:Nat)(x y:AO):fU C L fr h (.st n x y)=KL L h n (C.ev fr x) (C.ev fr y):=by
 simp only [fU,KL,Vv]
 by_cases h1:(C.ev fr y).cells.length=n <;> cases h2:(C.ev fr y).okV <;> simp [h1,h2]
@[simp] theorem zpM (p:J):KL L h 1 p (.int k a)=Vv (dX L h p [.int k a]):=by simp [KL,J.cells,J.okV]
@[simp] theorem zn9 (p:J)(b:Bool):KL L h 1 p (.bool b)=Vv (dX L h p [.bool b]):=by simp [KL,J.cells,J.okV]
@[simp] theorem zpN (p:J)(b:ByteArray):KL L h 1 p (.str b)=Vv (dX L h p [.str b]):=by simp [KL,J.cells,J.okV]
@[simp] theorem zpO (p:J)(c:Bool)(es:List (List J)):KL L h 1 p (.vsl c es)=Vv (dX L h p [.vsl c es]):=by simp [KL,J.cells,J.okV]
@[simp] theorem zqA (p:J)(n i:Nat)(es:List (List J)):KL L h 1 p (gA n i es)=Vv (dX L h p [gA n i es]):=by simp [KL,gA,J.cells,J.okV]
theorem zht {cs:List J}{n:Nat}(p:J)(hn:cs.length=n):KL L h n p (.agg cs)=Vv (dX L h p cs):=by simp [KL,J.cells,J.okV,hn]
@[simp] theorem zkK:d4 Mode.pure L h=V h:=by simp [d4,Mode.pure,V]
@[simp] theorem Gx (args:List J):o6 Mode.pure h args=rQ h args:=by simp [o6,Mode.pure]
@[simp] theorem Gy:rQ h []=some ([],false):=by simp only [rQ]
def fzK (a:Option (J × Bool))(b:Option (List J × Bool)):Option (List J × Bool):=a.bind fun a=>b.bind fun b=>some (a.1 :: b.1,a.2||b.2)
@[simp] theorem Mm (v:J)(c:Bool)(vs:List J)(d:Bool):fzK (some (v,c)) (some (vs,d))=some (v :: vs,c||d):=by unfold fzK;exact rfl
@[simp] theorem C9 (v:J)(vs:List J):rQ h (v :: vs)=fzK (nT h v) (rQ h vs):=by simp only [rQ,fzK,bind]
@[simp] theorem zpQ:nT h (.int k a)=some (.int k a,false):=by simp only [nT]
@[simp] theorem zoa (b:Bool):nT h (.bool b)=some (.bool b,false):=by simp only [nT]
@[simp] theorem fw (c:Bool)(es:List (List J)):nT h (.vsl c es)=some (.vsl false es,false):=by simp only [nT]
@[simp] theorem zqB (n i:Nat)(es:List (List J)):nT h (gA n i es)=some (.vsl false es,false):=by simp only [gA,nT]
@[simp] theorem Ez:nT h .nsl=some (.vsl false [],false):=by simp only [nT]
@[simp] theorem zpR (x o:Nat):nT h (.ptr x o)=some (.ptr x o,false):=by simp only [nT]
@[simp] theorem zob (cs:List J)(o:Nat):nT h (.vptr cs o)=some (.vptr cs o,false):=by simp only [nT]
theorem dQ {cs:List J}(hc:bC cs=true):nT h (.agg cs)=some (.agg cs,false):=by simp only [nT,hc,if_true]
def HM (a:Option J)(b:Option (List J)):Option (List J):=a.bind fun a=>b.map fun b=>a :: b
@[simp] theorem zkL (v:J)(vs:List J):HM (some v) (some vs)=some (v :: vs):=by unfold HM;exact rfl
@[simp] theorem zoc (fr:Fr):vg fr h []=some []:=by simp only [vg]
@[simp] theorem zod (fr:Fr)(t:Nat)(rs:List Cm):vg fr h (.tmp t :: rs)=HM (some (fr t)) (vg fr h rs):=by
 simp only [vg,HM,bind,Option.bind_some]
 cases vg fr h rs <;> rfl
@[simp] theorem zmP (fr:Fr)(t n:Nat)(g:Bool)(rs:List Cm):vg fr h (.cell t n g :: rs)=HM (qk h (fr t) n g) (vg fr h rs):=by
 simp only [vg,HM,bind]
 cases qk h (fr t) n g <;> cases vg fr h rs <;> rfl
@[simp] theorem zoe:Fe []=.tup []:=by simp only [Fe]
@[simp] theorem zof (v:J):Fe [v]=v:=by simp only [Fe]
@[simp] theorem zog (v w:J)(vs:List J):Fe (v :: w :: vs)=.tup (v :: w :: vs):=by simp only [Fe]
def TO (c:Bool)(o:Option (J × O)):Option (J × O):=o.bind fun o=>if (c&&!o.1.flat)=true then none else some o
@[simp] theorem Wj (o:Option (J × O)):TO false o=o:=by unfold TO;cases o <;> simp
theorem Jm (v:J)(hv:v.flat=true):TO true (some (v,h))=some (v,h):=by simp [TO,hv]
def zaI (m:Mode)(h:O)(c:Bool)(h1:O)(vs:Option (List J)):Option (J × O):=vs.bind fun vs=>TO c (vf m h h1 (Fe vs))
@[simp] theorem zmQ (m:Mode)(c:Bool)(h1:O)(vs:List J):zaI m h c h1 (some vs)=TO c (vf m h h1 (Fe vs)):=by unfold zaI;exact rfl
def Wl (b:Bool)(m:Mode)(h:O)(res:List Cm)(c:Bool)(fr:Fr)(h1:O):Option (J × O):=if b=true then zaI m h c h1 (vg fr h1 res) else none
@[simp] theorem zmR (m:Mode)(res:List Cm)(c:Bool)(fr:Fr)(h1:O):Wl true m h res c fr h1=zaI m h c h1 (vg fr h1 res):=by unfold Wl;exact rfl
def OB (m:Mode)(h:O)(n:Nat)(res:List Cm)(as:List J)(c:Bool)(r:Option (dt × Fr × O)):Option (J × O):=
 r.bind fun r=>Wl (decide ((r.1=.normal\/r.1=.ret)/\as.length<=n)) m h res c r.2.1 r.2.2
@[simp] theorem zoh (m:Mode)(n:Nat)(res:List Cm)(as:List J)(c:Bool)(fr:Fr)(h1:O):OB m h n res as c (some (.ret,fr,h1))=Wl (decide (as.length<=n)) m h res c fr h1:=by
 simp [OB]
@[simp] theorem zjJ (m:Mode)(n:Nat)(res:List Cm)(as:List J)(c:Bool)(fr:Fr)(h1:O):OB m h n res as c (some (.normal,fr,h1))=Wl (decide (as.length<=n)) m h res c fr h1:=by
 simp [OB]
def frm (as:List J):Fr:=fun i=>as.getD i ba
@[simp] theorem zqC (as:List J)(i:Nat):frm as i=as.getD i ba:=by unfold frm;exact rfl
noncomputable def TS (C:eD)(L:az)(m:Mode)(h:O)(n:Nat)(code:AC)(res:List Cm)(a:Option (List J × Bool)):Option (J × O):=
 a.bind fun a=>OB m h n res a.1 a.2 (run C (d4 m L h) code (frm a.1) (hx h [] []))
@[simp] theorem GA (C:eD)(m:Mode)(n:Nat)(code:AC)(res:List Cm)(as:List J)(c:Bool):TS C L m h n code res (some (as,c))=OB m h n res as c (run C (d4 m L h) code (frm as) (hx h [] [])):=by unfold TS;exact rfl
theorem zdu {C:eD}{f:FuncId}{n:Nat}{code:AC}{res:List Cm}(hx':C.ext f=none)(hf:C.fns f=some ⟨n,code,res,none⟩)(args:List J):Z C L f args h=
  TS C L (C.mode f) h n code res (o6 (C.mode f) h args):=by
 rw [zee C L h hx' hf rfl args];unfold TS OB Wl zaI TO frm;rw [LY]
 cases o6 (C.mode f) h args with
 | none=>rfl
 | some a=>
  simp only [Option.bind_some]
  cases run C (d4 (C.mode f) L h) code (fun i=>a.1.getD i ba) h with
  | none=>rfl
  | some r=>
   simp only [Option.bind_some];by_cases hc:(r.1=.normal\/r.1=.ret)/\a.1.length<=n
   ·rw [if_pos hc,if_pos (by simpa using hc)]
   ·rw [if_neg hc,if_neg (by simpa using hc)]
def FL (v:Option J)(h:O):Option (J × O):=v.map fun v=>(v,h)
@[simp] theorem zkM (v:J):FL (some v) h=some (v,h):=by unfold FL;exact rfl
@[simp] theorem zmS (h1:O)(v:J):vf Mode.pure h h1 v=FL (frz h1 h.blks.length h.toks.length 12 v) h:=by
 simp [vf,Mode.pure,FL]
section
variable (nb nt n:Nat)
@[simp] theorem zpS:frz h nb nt (n+1) (.int k a)=some (.int k a):=by simp only [frz]
@[simp] theorem zoj (b:Bool):frz h nb nt (n+1) (.bool b)=some (.bool b):=by simp only [frz]
@[simp] theorem YE:frz h nb nt (n+1) .nsl=some (.vsl false []):=by simp only [frz]
theorem lq (c:Bool){es:List (List J)}(he:aO nb nt es=true):frz h nb nt (n+1) (.vsl c es)=some (.vsl false es):=by simp [frz,KJ,he]
theorem Rh {t:Nat}{es:List (List J)}(ht:nt<=t)(he:aO nb nt es=true):frz h nb nt (n+1) (.gsl t es)=some (.vsl false es):=by
 simp [frz,KJ,he];omega
theorem mO {cs:List J}(hc:bC cs=true):frz h nb nt (n+1) (.agg cs)=some (.agg cs):=by simp [frz,hc]
def OD (h:O)(nb nt n:Nat):List J->Option (List J)
 | []=>some []
 | c :: cs=>HM (frz h nb nt n c) (OD h nb nt n cs)
@[simp] theorem zoC:OD h nb nt n []=some []:=by unfold OD;exact rfl
@[simp] theorem zbs (c:J)(cs:List J):OD h nb nt n (c :: cs)=HM (frz h nb nt n c) (OD h nb nt n cs):=by rw [OD]
theorem RF:∀ cs:List J,cs.mapM (frz h nb nt n)=OD h nb nt n cs
 | []=>by simp
 | c :: cs => by
  rw [zbs,List.mapM_cons,RF cs,HM]
  cases frz h nb nt n c with
  | none=>rfl
  | some v=>cases OD h nb nt n cs <;> rfl
@[simp] theorem zp1 (cs:List J):frz h nb nt (n+1) (.tup cs)=(OD h nb nt n cs).map .tup:=by
 simp only [frz];rw [RF]
end
@[simp] theorem zm7:bC []=true:=by simp only [bC]
@[simp] theorem zlj (c:J)(cs:List J):bC (c :: cs)=(c.flat&&bC cs):=by simp only [bC]
@[simp] theorem zoD:(J.int k a).flat=true:=by simp only [J.flat]
@[simp] theorem zoE (b:ByteArray):(J.str b).flat=true:=by simp only [J.flat]
attribute [simp] ziL zlW zfs ziQ zlZ ziR ziS ziW zfE zfG zfJ zfL zb6 zfN zi3 zi5 zfQ zfS zfV zi9 zja zcb zf2 zf3
attribute [simp] ap
end
end Go.Av
namespace Go.Av
def wr:AC->List Nat
 | .reg ops=>bj ops
 | .draw ops=>bj ops
 | .draw2 a _ _=>bj a
 | .seq a b=>wr a++wr b
 | .cond _ a b=>wr a++wr b
 | .blk _ a=>wr a
 | .loop a=>wr a
 | .scope a=>wr a
 | _=>[]
theorem Pm {i:AI}{is:List AI}{t:Nat}(h:t∉bj (i :: is)):i.dst≠some t/\t∉bj is:=by
 simp only [bj] at h
 cases hd:i.dst with
 | none=>rw [hd] at h;exact ⟨by simp,h⟩
 | some d=>rw [hd] at h;simp at h;exact ⟨by simp;exact fun e=>h.1 e.symm,h.2⟩
theorem Hv {fr:Fr}{d:Option Nat}{v:J}{t:Nat}(h:d≠some t):put fr d v t=fr t:=by
 cases d with
 | none=>rfl
 | some d=>
  have:t≠d:=fun e=>h (by rw [e]);simp [put,HN,this]
theorem VU {l:Nat}:∀ {a r:AC},kC a l=some r->∀ t,t∈wr r->t∈wr a:=by
 intro a
 induction a with
 | seq a b ih1 ih2=>
  intro r h t ht;simp only [kC] at h;split at h
  ·rename_i r1 h1;obtain rfl:=sj h;simp only [wr,List.mem_append] at ht |-;exact ht.imp (ih1 h1 t) id
  ·simp only [wr,List.mem_append];exact .inr (ih2 h t ht)
 | label l'=>
  intro r h t ht;simp only [kC] at h;split at h
  ·obtain rfl:=sj h;simp [wr] at ht
  ·simp at h
 | _=>intro r h;simp [kC] at h
theorem Tt {C:eD}{L:az}{c:AC}{fr:Fr}{h:O}{r:dt × Fr × O}(hv:run C L c fr h=some r):∀ t,t∉wr c->r.2.1 t=fr t:=by
 refine (Z.mutual_partial_correctness C
  (fun _ _ _ _ _=>True)
  (fun L c fr h r=>∀ t,t∉wr c->r.2.1 t=fr t)
  (fun L a e fr h r=>∀ t,t∉wr a->r.2.1 t=fr t)
  (fun _ _ _ _ _ _=>True) (fun _ _ _ _ _ _=>True) (fun _ _ _ _ _=>True)
  (fun L ops fr h r=>∀ t,t∉bj ops->r.1 t=fr t)
  (fun _ _ _ _ _=>True) (fun _ _ _ _ _=>True)
  (fun L ops fr h r=>∀ t,t∉bj ops->r.1 t=fr t)
  ?_ ?_ ?_ ?_ ?_ ?_ ?_ ?_ ?_ ?_).2.1 L c fr h r hv
 ·intros;trivial
 ·intro run JL rg mi ss hrun hscope hchk hrunD hrunO L c fr h r hv t ht;split at hv
  ·obtain rfl:=sj hv;rfl
  ·obtain rfl:=sj hv;rfl
  ·obtain ⟨r1,hr1,hv⟩:=bind_some hv;obtain rfl:=sj hv;exact hrunO _ _ _ _ _ hr1 t ht
  ·obtain ⟨r1,hr1,hv⟩:=bind_some hv;obtain ⟨u,hu,hv⟩:=bind_some hv;obtain rfl:=sj hv;exact hrunD _ _ _ _ _ hr1 t ht
  ·obtain ⟨r1,hr1,hv⟩:=bind_some hv;obtain ⟨u,hu,hv⟩:=bind_some hv;obtain ⟨r2,hr2,hv⟩:=bind_some hv;obtain ⟨u2,hu2,hv⟩:=bind_some hv;split at hv
   ·obtain rfl:=sj hv;exact hrunD _ _ _ _ _ hr1 t ht
   ·simp at hv
  ·obtain ⟨r1,hr1,hv⟩:=bind_some hv;simp only [wr,List.mem_append,not_or] at ht;have k1:=hrun _ _ _ _ _ hr1 t ht.1;split at hv
   ·exact (hrun _ _ _ _ _ hv t ht.2).trans k1
   ·obtain rfl:=sj hv;exact k1
  ·simp only [wr,List.mem_append,not_or] at ht;split at hv
   ·exact hrun _ _ _ _ _ hv t ht.1
   ·exact hrun _ _ _ _ _ hv t ht.2
   ·simp at hv
  ·obtain ⟨r1,hr1,hv⟩:=bind_some hv;have k1:=hrun _ _ _ _ _ hr1 t ht;split at hv
   ·obtain rfl:=sj hv;exact k1
   ·obtain rfl:=sj hv;exact k1
  ·obtain ⟨r1,hr1,hv⟩:=bind_some hv;have k1:=hrun _ _ _ _ _ hr1 t ht;split at hv
   ·exact (hrun _ _ _ _ _ hv t ht).trans k1
   ·obtain rfl:=sj hv;exact k1
  ·obtain rfl:=sj hv;rfl
  ·obtain ⟨r1,hr1,hv⟩:=bind_some hv;exact (hscope _ _ _ _ _ _ hv t ht).trans (hrun _ _ _ _ _ hr1 t ht)
  ·obtain rfl:=sj hv;rfl
  ·obtain rfl:=sj hv;rfl
 ·intro run JL hrun hscope L a e fr h r hv t ht;split at hv
  ·split at hv
   ·rename_i rest hl;obtain ⟨r1,hr1,hv⟩:=bind_some hv;exact (hscope _ _ _ _ _ _ hv t ht).trans (hrun _ _ _ _ _ hr1 t fun hx=>ht (VU hl t hx))
   ·obtain rfl:=sj hv;rfl
  ·obtain rfl:=sj hv;rfl
 ·intros;trivial
 ·intros;trivial
 ·intros;trivial
 ·intro mi step1 hrunD hstep1 L ops fr h r hv t ht;split at hv
  ·obtain rfl:=sj hv;rfl
  ·rename_i i rest;obtain ⟨t1,t2⟩:=Pm ht;split at hv
   ·obtain ⟨r1,hr1,hv⟩:=bind_some hv;obtain ⟨q,hq,hv⟩:=bind_some hv;obtain rfl:=sj hv;exact (hrunD _ _ _ _ _ hq t t2).trans (Hv t1)
   ·obtain ⟨q,hq,hv⟩:=bind_some hv;obtain rfl:=sj hv;exact (hrunD _ _ _ _ _ hq t t2).trans (Hv t1)
 ·intros;trivial
 ·intros;trivial
 ·intro step1 ss hstep1 hrunO L ops fr h r hv t ht;split at hv
  ·obtain rfl:=sj hv;rfl
  ·rename_i i rest;obtain ⟨t1,t2⟩:=Pm ht;split at hv
   ·obtain ⟨r1,hr1,hv⟩:=bind_some hv;exact (hrunO _ _ _ _ _ hv t t2).trans (Hv t1)
   ·exact (hrunO _ _ _ _ _ hv t t2).trans (Hv t1)
theorem aa (cs:List J)(n:Nat)(h:(cs.length==n)=true):cL true cs 0 n=some (.agg cs):=Pk (by simpa using h)
theorem au (L:az)(h:O)(cs:List J)(n:Nat)(p:J)(hn:(cs.length==n)=true):KL L h n p (.agg cs)=Vv (dX L h p cs):=zht h L p (by simpa using hn)
theorem ae (cs old:List J)(h:(old.length==cs.length)=true):setAt old 0 cs=cs:=VQ (by simpa using h)
theorem zeO (k:IntKind)(a b:Int)(h:(decide (0<=b)&&decide (b<=k.bits))=true):ua .shr k a b=some (.int k (a.fdiv (2 ^ b.toNat))):=by
 simp only [Bool.and_eq_true,decide_eq_true_eq] at h;unfold ua;rw [if_neg (by omega),Nat.min_eq_left (by omega)]
theorem zqN (k:IntKind)(a b:Int)(h:(decide (0<=b)&&decide (b<=k.bits))=true):ua .shl k a b=some (.int k (k.wrap (a*2 ^ b.toNat))):=by
 simp only [Bool.and_eq_true,decide_eq_true_eq] at h;unfold ua;rw [if_neg (by omega),Nat.min_eq_left (by omega)]
@[simp] theorem wrap_zero (k:IntKind):k.wrap 0=0:=by cases k <;> decide
theorem wrap_i64 {n:Int}(h1: -9223372036854775808<=n)(h2:n<=9223372036854775807):IntKind.i64.wrap n=n:=by
 simp [IntKind.wrap,IntKind.signed,IntKind.bits];omega
theorem wz {n:Int}(h1: -9223372036854775808<=n:=by omega)(h2:n<=9223372036854775807:=by omega):IntKind.i64.wrap n=n:=wrap_i64 h1 h2
theorem wy {n m:Int}(h1: -9223372036854775808<=n:=by omega)(h2:n<=9223372036854775807:=by omega)(h3:n=m:=by omega):IntKind.i64.wrap n=m:=(wrap_i64 h1 h2).trans h3
theorem wrap_u64 {n:Int}(h1:0<=n)(h2:n<=18446744073709551615):IntKind.u64.wrap n=n:=by
 simp [IntKind.wrap,IntKind.signed,IntKind.bits];omega
theorem wrap_u8 {n:Int}(h1:0<=n)(h2:n<=255):IntKind.u8.wrap n=n:=by
 simp [IntKind.wrap,IntKind.signed,IntKind.bits];omega
def Ends {α:Type}(x:Option α)(P:α->Prop):Prop:=∃ r,x=some r/\P r
@[simp] theorem znc {α:Type}(r:α)(P:α->Prop):Ends (some r) P↔P r:=by simp [Ends]
@[congr] theorem zlC {α:Type}{x y:Option α}(P:α->Prop)(h:x=y):Ends x P=Ends y P:=by rw [h]
def M4 (N k:Nat)(I:Nat->Fr->O->Prop)(wD:dt->Fr->O->Prop)(r:dt × Fr × O):Prop:=
 match r.1 with
 | .normal=>k < N/\I (k+1) r.2.1 r.2.2
 | e=>wD e r.2.1 r.2.2
@[simp] theorem Ih (N k:Nat)(I:Nat->Fr->O->Prop)(wD:dt->Fr->O->Prop)(fr:Fr)(h:O):M4 N k I wD (.normal,fr,h)↔(k < N/\I (k+1) fr h):=by unfold M4;exact Iff.rfl
@[simp] theorem zlD (N k:Nat)(I:Nat->Fr->O->Prop)(wD:dt->Fr->O->Prop)(i:Nat)(fr:Fr)(h:O):M4 N k I wD (.exit i,fr,h)↔wD (.exit i) fr h:=by unfold M4;exact Iff.rfl
@[simp] theorem znd (N k:Nat)(I:Nat->Fr->O->Prop)(wD:dt->Fr->O->Prop)(fr:Fr)(h:O):M4 N k I wD (.ret,fr,h)↔wD .ret fr h:=by unfold M4;exact Iff.rfl
theorem af {C:eD}{L:az}{B:AC}{fr0:Fr}{h0:O}{R:Option (dt × Fr × O)}(hF:run C L (.loop B) fr0 h0=R)(N:Nat)(I:Nat->Fr->O->Prop)(wD:dt->Fr->O->Prop)(hI:I 0 fr0 h0)
  (step:∀ k fr h,k<=N->(∀ t,t∉wr B->fr t=fr0 t)->I k fr h->Ends (run C L B fr h) (M4 N k I wD)):
  ∃ e fr h,R=some (e,fr,h)/\wD e fr h/\(∀ t,t∉wr B->fr t=fr0 t):=by
 subst hF;have key:∀ m k fr h,N - k=m->k<=N->(∀ t,t∉wr B->fr t=fr0 t)->I k fr h->
   ∃ e fr' h',run C L (.loop B) fr h=some (e,fr',h')/\wD e fr' h'/\(∀ t,t∉wr B->fr' t=fr0 t):=by
  intro m
  induction m with
  | zero=>
   intro k fr h hm hk hkeep hi;obtain ⟨⟨e,fr1,h1⟩,hr,hp⟩:=step k fr h hk hkeep hi;have hkp:=Tt hr;rw [JZ,hr]
   cases e with
   | normal=>have:=(Ih N k I wD fr1 h1).1 hp;omega
   | exit i=>exact ⟨_,_,_,rfl,hp,fun t ht=>(hkp t ht).trans (hkeep t ht)⟩
   | goto l=>exact ⟨_,_,_,rfl,hp,fun t ht=>(hkp t ht).trans (hkeep t ht)⟩
   | ret=>exact ⟨_,_,_,rfl,hp,fun t ht=>(hkp t ht).trans (hkeep t ht)⟩
  | succ m ih=>
   intro k fr h hm hk hkeep hi;obtain ⟨⟨e,fr1,h1⟩,hr,hp⟩:=step k fr h hk hkeep hi;have hkp:=Tt hr;rw [JZ,hr]
   cases e with
   | normal=>
    have:=(Ih N k I wD fr1 h1).1 hp;exact ih (k+1) fr1 h1 (by omega) (by omega) (fun t ht=>(hkp t ht).trans (hkeep t ht)) this.2
   | exit i=>exact ⟨_,_,_,rfl,hp,fun t ht=>(hkp t ht).trans (hkeep t ht)⟩
   | goto l=>exact ⟨_,_,_,rfl,hp,fun t ht=>(hkp t ht).trans (hkeep t ht)⟩
   | ret=>exact ⟨_,_,_,rfl,hp,fun t ht=>(hkp t ht).trans (hkeep t ht)⟩
 exact key N 0 fr0 h0 rfl (Nat.zero_le _) (fun _ _=>rfl) hI
def gL (s:J)(n i:Nat)(es:List (List J)):J:=if es=[] then s else gA n i es
def gT (es:List (List J)):List Nat:=if es=[] then [] else [es.length]
theorem zlG {C:eD}{fr:Fr}{L:az}{h:O}{bs:List (List J)}{sz:Nat}{x y:AO}{s:J}{es ys:List (List J)}(hs:s=.nsl\/s=.vsl true [])
  (hx':C.ev fr x=gL s h.toks.length 0 es) (hy:aN (hx h bs (gT es)) sz (C.ev fr y)=some ys) (hstr:lO sz (C.ev fr y)=true)
  (hsz:eo sz ys=true) (hse:eo sz es=true) (hr:L.rot<=h.toks.length) (hroom:es.length+ys.length < ao):
  fU C L fr (hx h bs (gT es)) (.app sz false x y)=some (gL s h.toks.length 0 (es++ys),hx h bs (gT (es++ys))):=by
 simp only [fU,bind,hy,Option.bind_some,hstr,if_true];rw [hx'];unfold C6;rw [if_pos hsz];by_cases he:es=[]
 ·subst he;have h1:gL s h.toks.length 0 []=s:=by simp [gL]
  rw [h1];by_cases hy0:ys=[]
  ·subst hy0
   rcases hs with rfl | rfl <;> simp [gL,gT,eo]
  ·have hroom':ys.length < ao:=by simpa using hroom
   rcases hs with rfl | rfl <;> simp [gL,gT,eo,hy0,hroom',iT,gA,hx,ptok]
 ·have h1:gL s h.toks.length 0 es=gA h.toks.length 0 es:=by simp [gL,he]
  rw [h1];have h2:gT es=[es.length]:=by simp [gT,he]
  have h3:gL s h.toks.length 0 (es++ys)=gA h.toks.length 0 (es++ys):=by simp [gL,he]
  have h4:gT (es++ys)=[es.length+ys.length]:=by simp [gT,he]
  rw [h3,h2,h4];simp only [gA,Nat.add_zero];have h5:(hx h bs [es.length]).toks[h.toks.length]?=some es.length:=by simp [hx]
  rw [if_pos ⟨trivial,he,hse,hr,h5,hroom⟩];simp [hx]
def ka (L:az)(h:O)(sz:Nat)(ref:Bool)(x y:J):Option (J × O):=
 (aN h sz y).bind fun ys=>if lO sz y=true then C6 L ref sz h x ys else none
@[simp] theorem zeT (C:eD)(fr:Fr)(L:az)(h:O)(sz:Nat)(ref:Bool)(x y:AO):fU C L fr h (.app sz ref x y)=ka L h sz ref (C.ev fr x) (C.ev fr y):=by
 simp only [fU,ka,bind]
theorem RZ {L:az}{h:O}{bs:List (List J)}{sz:Nat}{s y:J}{es ys:List (List J)}(hs:s=.nsl\/s=.vsl true [])
  (hy:aN (hx h bs (gT es)) sz y=some ys) (hstr:lO sz y=true) (hsz:eo sz ys=true) (hse:eo sz es=true) (hr:L.rot<=h.toks.length) (hroom:es.length+ys.length < ao):
  ka L (hx h bs (gT es)) sz false (gL s h.toks.length 0 es) y=some (gL s h.toks.length 0 (es++ys),hx h bs (gT (es++ys))):=by
 let C:eD:={fns:=fun _=>none,mode:=fun _=>Mode.pure,glob:=fun _=>none,meth:=fun _ _=>none,ext:=fun _=>none}
 have:=zlG (C:=C) (fr:=fun _=>ba) (x:=.k (gL s h.toks.length 0 es)) (y:=.k y) hs rfl hy hstr hsz hse hr hroom;rw [zeT] at this;exact this
theorem LC (L:az)(h:O)(bs:List (List J))(sz:Nat)(c:Bool)(es ys:List (List J))
  (hc:(eo sz ys&&eo sz es&&decide (L.rot<=h.toks.length)&&decide (es.length+ys.length < ao))=true):
  ka L (hx h bs (gT es)) sz false (gL .nsl h.toks.length 0 es) (.vsl c ys)=some (gL .nsl h.toks.length 0 (es++ys),hx h bs (gT (es++ys))):=by
 simp only [Bool.and_eq_true,decide_eq_true_eq] at hc;exact RZ (.inl rfl) (by simp only [aN]) (by simp only [lO]) hc.1.1.1 hc.1.1.2 hc.1.2 hc.2
theorem ER (L:az)(h:O)(bs:List (List J))(sz:Nat)(c:Bool)(es ys:List (List J))
  (hc:(eo sz ys&&eo sz es&&decide (L.rot<=h.toks.length)&&decide (es.length+ys.length < ao))=true):
  ka L (hx h bs (gT es)) sz false (gL (.vsl true []) h.toks.length 0 es) (.vsl c ys)=some (gL (.vsl true []) h.toks.length 0 (es++ys),hx h bs (gT (es++ys))):=by
 simp only [Bool.and_eq_true,decide_eq_true_eq] at hc;exact RZ (.inr rfl) (by simp only [aN]) (by simp only [lO]) hc.1.1.1 hc.1.1.2 hc.1.2 hc.2
theorem Ql (L:az)(h:O)(bs:List (List J))(ts:List Nat)(sz:Nat)(c:Bool)(es ys:List (List J))
  (hc:(eo sz ys&&eo sz es&&decide (es.length+ys.length < ao)&&decide (0 < ys.length))=true):
  ka L (hx h bs ts) sz false (.vsl true es) (.vsl c ys)=some (gA h.toks.length ts.length (es++ys),hx h bs (ts++[es.length+ys.length])):=by
 simp only [Bool.and_eq_true,decide_eq_true_eq] at hc;have hy:ys≠[]:=fun e=>by have:=hc.2;simp [e] at this
 simp [ka,aN,lO,C6,hc.1.1.1,hc.1.1.2,hc.1.2,hy,iT,gA,hx,ptok]
theorem A6 (L:az)(h:O)(bs:List (List J))(ts:List Nat)(sz i:Nat)(c:Bool)(es ys:List (List J))
  (hc:(eo sz ys&&eo sz es&&decide (es.length+ys.length < ao)&&decide (0 < es.length)&&decide (L.rot<=h.toks.length)&&(ts[i]?==some es.length))=true):
  ka L (hx h bs ts) sz false (gA h.toks.length i es) (.vsl c ys)=some (gA h.toks.length i (es++ys),hx h bs (ts.set i (es.length+ys.length))):=by
 simp only [Bool.and_eq_true,decide_eq_true_eq,beq_iff_eq] at hc;obtain ⟨⟨⟨⟨⟨c1,c2⟩,c3⟩,c4⟩,c5⟩,c6⟩:=hc;have he:es≠[]:=fun e=>by simp [e] at c4
 have h5:(hx h bs ts).toks[h.toks.length+i]?=some es.length:=by
  simp only [hx];rw [List.getElem?_append_right (Nat.le_add_right _ _),Nat.add_sub_cancel_left];exact c6
 simp only [ka,aN,lO,C6,gA,c1,c2,Option.bind_some,if_true];rw [if_pos ⟨trivial,he,by trivial,by omega,h5,c3⟩];simp only [hx];rw [List.set_append_right _ _ (Nat.le_add_right _ _),Nat.add_sub_cancel_left]
theorem v6 {h1:O}{nb nt n:Nat}{s:J}{es:List (List J)}(hs:s=.nsl\/s=.vsl true [])(he:aO nb nt es=true):frz h1 nb nt (n+1) (gL s nt 0 es)=some (.vsl false es):=by
 unfold gL;split
 ·rename_i h0;subst h0;rcases hs with rfl | rfl
  ·simp
  ·exact lq h1 nb nt n true (by simp [aO])
 ·exact Rh h1 nb nt n (by simp) he
def eI (k:IntKind)(l:List Int):List (List J):=l.map fun n=>[.int k n]
@[simp] theorem RQ (k:IntKind)(l:List Int):(eI k l).length=l.length:=by simp [eI]
@[simp] theorem Lz (k:IntKind)(l:List Int):eo 1 (eI k l)=true:=by cases l <;> simp [eI,eo]
@[simp] theorem zeG (k:IntKind)(nb nt:Nat):∀ l:List Int,aO nb nt (eI k l)=true
 | []=>by simp [eI,aO]
 | x :: l => by
  have:=zeG k nb nt l;simp only [eI] at this;simp [eI,aO,aE,J.under,this]
@[simp] theorem Qe (k:IntKind)(l m:List Int):eI k l++eI k m=eI k (l++m):=by simp [eI]
theorem zeE (k:IntKind)(l:List Int)(i:Nat):(eI k l)[i]?=(l[i]?).map fun n=>[.int k n]:=by simp [eI]
theorem fq (k:IntKind)(n:Int):[[J.int k n]]=eI k [n]:=rfl
theorem xC (k:IntKind)(n:Int)(l:List Int):[J.int k n] :: eI k l=eI k (n :: l):=rfl
@[simp] theorem W1 (k:IntKind):eI k []=[]:=rfl
def bts (s:ByteArray):List Int:=s.data.toList.map fun b=>(b.toNat:Int)
theorem Y4 (s:ByteArray):(s.data.toList.map fun b=>[J.int .u8 b.toNat])=eI .u8 (bts s):=by unfold bts eI;rw [List.map_map];rfl
@[simp] theorem zp3 (s:ByteArray):(bts s).length=s.size:=by unfold bts;rw [List.length_map];rfl
@[simp] theorem zoS (sz:Nat)(x:List J):eo sz [x]=(x.length==sz):=rfl
abbrev zin:Mode:=⟨false,false,false,true⟩
section
variable (L:az) (h:O) (bs:List (List J)) (ts:List Nat)
def yP (h:O)(t n:Nat):O:=⟨h.blks,h.toks.set t n⟩
@[simp] theorem zmM (t n:Nat):(yP h t n).blks=h.blks:=rfl
@[simp] theorem zn5 (t n:Nat):(yP h t n).toks.length=h.toks.length:=by simp [yP]
@[simp] theorem Ua:fY (hx h bs ts) h.blks.length h.toks.length=h:=by simp [fY,hx]
@[simp] theorem zmT (args:List J):o6 zin h args=some (args,false):=by simp [o6]
@[simp] theorem znf:d4 zin L h=⟨L.rob,L.rot,h.blks.length,h.toks.length⟩:=by simp [d4]
theorem zeV (es:List (List J))(hu:(aO h.blks.length h.toks.length es&&(ts[0]?==some es.length))=true):
  vf zin h (hx h bs ts) (gA h.toks.length 0 es)=some (.gsl h.toks.length es,ptok h es.length):=by
 simp only [Bool.and_eq_true,beq_iff_eq] at hu;obtain ⟨u1,u2⟩:=hu;have h5:(hx h bs ts).toks[h.toks.length]?=some es.length:=by
  simp only [hx];rw [List.getElem?_append_right (Nat.le_refl _),Nat.sub_self];exact u2
 unfold vf;simp only [gA,Nat.add_zero,h5,u1,Ua];simp
theorem zeW (t:Nat)(es:List (List J))(h':O)(hl:h'.blks.length=h.blks.length/\h'.toks.length=h.toks.length)(ht:t < h.toks.length)(hu:aO h.blks.length h.toks.length es=true):
  vf zin h (hx h' bs ts) (.gsl t es)=some (.gsl t es,h'):=by
 have e:fY (hx h' bs ts) h.blks.length h.toks.length=h':=by rw [<- hl.1,<- hl.2];exact Ua h' bs ts
 unfold vf;simp only [e];have hnot:¬h.toks.length<=t:=by omega
 simp [hnot,frz,KJ,hu,ht]
theorem zeY (sz t:Nat)(c:Bool)(es ys:List (List J))(ht:h.toks[t]?=some es.length)
  (hc:(eo sz ys&&eo sz es&&decide (es.length+ys.length < ao)&&decide (0 < es.length)&&decide (L.rot<=t))=true):
  ka L (hx h bs ts) sz false (.gsl t es) (.vsl c ys)=some (.gsl t (es++ys),hx (yP h t (es.length+ys.length)) bs ts):=by
 simp only [Bool.and_eq_true,decide_eq_true_eq] at hc;obtain ⟨⟨⟨⟨c1,c2⟩,c3⟩,c4⟩,c5⟩:=hc;have he:es≠[]:=fun e=>by simp [e] at c4
 have hlt:=(List.getElem?_eq_some_iff.1 ht).1;have h5:(hx h bs ts).toks[t]?=some es.length:=by
  simp only [hx];rw [List.getElem?_append_left hlt];exact ht
 simp only [ka,aN,lO,C6,c1,c2,Option.bind_some,if_true];rw [if_pos ⟨trivial,he,by trivial,c5,h5,c3⟩];simp only [hx,yP];rw [List.set_append_left _ _ hlt]
theorem zeL (i:Nat)(es:List Int)(s:ByteArray)
  (hc:(decide (es.length+s.size < ao)&&decide (0 < es.length)&&decide (L.rot<=h.toks.length)&&(ts[i]?==some es.length))=true):
  ka L (hx h bs ts) 1 false (gA h.toks.length i (eI .u8 es)) (.str s)=some (gA h.toks.length i (eI .u8 (es++bts s)),hx h bs (ts.set i (es.length+s.size))):=by
 have hs:ka L (hx h bs ts) 1 false (gA h.toks.length i (eI .u8 es)) (.str s)=ka L (hx h bs ts) 1 false (gA h.toks.length i (eI .u8 es)) (.vsl false (eI .u8 (bts s))):=by
  simp [ka,aN,lO,Y4]
 have h1:=A6 L h bs ts 1 i false (eI .u8 es) (eI .u8 (bts s)) (by simpa using hc);rw [hs,h1];simp
theorem Y2 (n:Nat):ptok (hx h bs ts) n=hx h bs (ts++[n]):=by simp [ptok,hx]
theorem aA:(hx h bs ts).toks.length=h.toks.length+ts.length:=by simp [hx]
theorem aB:(hx h bs ts).blks.length=h.blks.length+bs.length:=by simp [hx]
theorem zhV (i n:Nat):yP (hx h bs ts) (h.toks.length+i) n=hx h bs (ts.set i n):=by
 simp only [yP,hx];rw [List.set_append_right _ _ (Nat.le_add_right _ _),Nat.add_sub_cancel_left]
end
end Go.Av
namespace Go.Av
def tab {α:Type}(n:Nat)(f:Nat->α):List α:=(List.range n).map f
@[simp] theorem AR {α:Type}(n:Nat)(f:Nat->α):(tab n f).length=n:=by simp [tab]
theorem lT {α:Type}(n:Nat)(f:Nat->α)(i:Nat):(tab n f)[i]?=if i < n then some (f i) else none:=by
 unfold tab;by_cases h:i < n
 ·rw [List.getElem?_map,List.getElem?_range h,if_pos h];rfl
 ·rw [if_neg h];simp;omega
theorem zeA {α:Type}{n:Nat}{f:Nat->α}{i:Nat}(h:i < n):(tab n f)[i]?=some (f i):=by rw [lT,if_pos h]
theorem a8 {α:Type}{n:Nat}{f g:Nat->α}(h:∀ i,i < n->f i=g i):tab n f=tab n g:=by
 unfold tab;exact List.map_congr_left fun i hi=>h i (by simpa using hi)
theorem vh {α : Type}(n : Nat)(f : Nat -> α)(i : Nat)(v : α) : (tab n f).set i v = tab n (fun j => if j = i then v else f j) := by
 refine List.ext_getElem? fun j=>?_;rw [List.getElem?_set,AR,lT,lT];by_cases h:i=j
 ·subst h;simp
 ·simp [h,Ne.symm h]
theorem UF {α : Type}(l : List α)(d : α) : tab l.length (fun i => l.getD i d) = l := by
 refine List.ext_getElem? fun j=>?_;rw [lT];by_cases h:j < l.length
 ·rw [if_pos h,List.getElem?_eq_getElem h];simp [List.getD,h]
 ·rw [if_neg h,List.getElem?_eq_none (by omega)]
theorem zbG {α:Type}{l:List α}{n:Nat}(d:α)(h:l.length=n):l=tab n (fun i=>l.getD i d):=by subst h;exact (UF l d).symm
theorem zeF {α:Type}{n:Nat}{f:Nat->α}{i:Nat}{d:α}(h:i < n):(tab n f).getD i d=f i:=by
 rw [List.getD,zeA h];rfl
theorem EN {α β : Type}(n : Nat)(f : Nat -> α)(g : α -> β) : (tab n f).map g = tab n (fun i => g (f i)) := by
 simp [tab,Function.comp_def]
theorem yi {α : Type}(n : Nat)(f : Nat -> α)(o m : Nat)(h : o + m <= n) : ((tab n f).drop o).take m = tab m (fun i => f (o + i)) := by
 refine List.ext_getElem? fun j=>?_;rw [lT,List.getElem?_take];by_cases hj:j < m
 ·rw [if_pos hj,if_pos hj,List.getElem?_drop,zeA (by omega)]
 ·rw [if_neg hj,if_neg hj]
theorem zbH (f : Nat -> J)(g : Nat -> J)(m : Nat) : ∀ (n o : Nat), o + m <= n -> setAt (tab n f) o (tab m g) = tab n (fun i => if o <= i /\ i < o + m then g (i - o) else f i) := by
 have key:∀ (cs:List J) (old:List J) (o i:Nat),o+cs.length<=old.length->(setAt old o cs)[i]?=if o<=i/\i < o+cs.length then cs[i - o]? else old[i]?:=by
  intro cs
  induction cs with
  | nil=>intro old o i h;simp [setAt];omega
  | cons c cs ih=>
   intro old o i h;simp only [setAt];simp only [List.length_cons] at h;rw [ih _ _ _ (by simp;omega)];by_cases h1:o+1<=i/\i < o+1+cs.length
   ·rw [if_pos h1,if_pos ⟨by omega,by simp only [List.length_cons];omega⟩];rw [show i - o=(i - (o+1))+1 by omega,List.getElem?_cons_succ]
   ·rw [if_neg h1];by_cases h2:i=o
    ·subst h2;rw [List.getElem?_set_self (by omega),if_pos ⟨Nat.le_refl _,by simp⟩];simp
    ·rw [List.getElem?_set_ne (Ne.symm h2),if_neg (by simp only [List.length_cons];omega)]
 intro n o h;refine List.ext_getElem? fun i=>?_;rw [key _ _ _ _ (by simpa using h),AR,lT,lT,lT];by_cases h1:o<=i/\i < o+m
 ·rw [if_pos h1,if_pos (by omega),if_pos (by omega),if_pos h1]
 ·rw [if_neg h1,if_neg h1]
theorem MX {α : Type}(x : α)(n : Nat) : aL x n = tab n (fun _ => x) := by
 refine List.ext_getElem? fun j=>?_;have key:∀ n j:Nat,(aL x n)[j]?=if j < n then some x else none:=by
  intro n
  induction n with
  | zero=>intro j;simp [aL]
  | succ n ih=>
   intro j
   cases j with
   | zero=>simp [aL]
   | succ j=>simp only [aL,List.getElem?_cons_succ,ih];simp
 rw [key,lT]
def gd {α:Type}(l:List α)(d:α)(i:Nat):α:=l.getD i d
theorem dZ {α:Type}{n:Nat}{f:Nat->α}{i:Nat}{d:α}(h:i < n):gd (tab n f) d i=f i:=zeF h
theorem RT {α:Type}(l:List α)(d:α):tab l.length (gd l d)=l:=UF l d
theorem EP {α:Type}{l:List α}{n:Nat}(d:α)(h:l.length=n):l=tab n (gd l d):=zbG d h
theorem A5 {α:Type}{l:List α}{i:Nat}{d:α}(h:i < l.length):l[i]?=some (gd l d i):=by
 unfold gd;simp [List.getD,h]
def cV {α:Type}(n:Nat)(f g:Nat->α)(k:Nat):List α:=tab n fun j=>if j < k then f j else g j
@[simp] theorem DN {α:Type}(n:Nat)(f g:Nat->α)(k:Nat):(cV n f g k).length=n:=by simp [cV]
theorem nJ {α:Type}(n:Nat)(f g:Nat->α)(k:Nat):(cV n f g k).set k (f k)=cV n f g (k+1):=by
 unfold cV;rw [vh];refine a8 fun j hj=>?_;by_cases h1:j=k
 ·subst h1;simp
 ·by_cases h2:j < k
  ·rw [if_neg h1,if_pos h2,if_pos (by omega)]
  ·rw [if_neg h1,if_neg h2,if_neg (by omega)]
theorem kR {α:Type}(n:Nat)(f g:Nat->α):cV n f g 0=tab n g:=a8 fun j hj=>by simp
theorem tO {α:Type}(n:Nat)(f g:Nat->α):cV n f g n=tab n f:=a8 fun j hj=>by simp [hj]
theorem LA {α:Type}{n:Nat}{f g:Nat->α}{k:Nat}{d:α}(h:k < n):gd (cV n f g k) d k=g k:=by
 unfold cV;rw [dZ h];simp
abbrev ac:=BitVec 64
def wd (x:ac):J:=.int .u64 x.toNat
def cW (l:List ac):List J:=l.map wd
def cB (l:List Bool):List J:=l.map J.bool
def cI (k:IntKind)(l:List Int):List J:=l.map fun n=>.int k n
@[simp] theorem zqO (l:List ac):(cW l).length=l.length:=by simp [cW]
@[simp] theorem zqP (l:List Bool):(cB l).length=l.length:=by simp [cB]
@[simp] theorem RX (k:IntKind)(l:List Int):(cI k l).length=l.length:=by simp [cI]
theorem EQ:∀ {l:List J},bC l=true↔∀ c∈l,c.flat=true
 | []=>by simp [bC]
 | c :: cs=>by simp [bC,EQ (l:=cs)]
@[simp] theorem Ik (l : List ac) : bC (cW l) = true := EQ.2 fun c h => by
 simp only [cW,List.mem_map] at h;obtain ⟨x,_,rfl⟩:=h;rfl
@[simp] theorem Y8 (l : List Bool) : bC (cB l) = true := EQ.2 fun c h => by
 simp only [cB,List.mem_map] at h;obtain ⟨x,_,rfl⟩:=h;rfl
@[simp] theorem Y9 (k : IntKind)(l : List Int) : bC (cI k l) = true := EQ.2 fun c h => by
 simp only [cI,List.mem_map] at h;obtain ⟨x,_,rfl⟩:=h;rfl
theorem M6 {l:List ac}{i:Nat}(h:i < l.length):(cW l)[i]?=some (wd (gd l 0#64 i)):=by
 simp [cW,gd,List.getD,h]
theorem zoV {l:List Bool}{i:Nat}(h:i < l.length):(cB l)[i]?=some (.bool (gd l false i)):=by
 simp [cB,gd,List.getD,h]
theorem zlH (l:List ac)(i:Nat)(h:decide (i < l.length)=true):(cW l)[i]?=some (wd (gd l 0#64 i)):=M6 (by simpa using h)
@[simp] theorem zp4 (l:List ac)(i:Nat)(h:i < (cW l).length):(cW l)[i]=wd (gd l 0#64 i):=by
 have:=M6 (l:=l) (i:=i) (by simpa using h);rw [List.getElem?_eq_getElem h] at this;exact sj this
@[simp] theorem zp5 (l:List Bool)(i:Nat)(h:i < (cB l).length):(cB l)[i]=.bool (gd l false i):=by
 have:=zoV (l:=l) (i:=i) (by simpa using h);rw [List.getElem?_eq_getElem h] at this;exact sj this
@[simp] theorem W9 (l:List ac)(i:Nat)(x:ac):(cW l).set i (wd x)=cW (l.set i x):=by simp [cW,List.map_set]
@[simp] theorem zqQ (l:List Bool)(i:Nat)(x:Bool):(cB l).set i (.bool x)=cB (l.set i x):=by simp [cB,List.map_set]
@[simp] theorem zlI (k:IntKind)(l:List Int)(i:Nat)(x:Int):(cI k l).set i (.int k x)=cI k (l.set i x):=by simp [cI,List.map_set]
@[simp] theorem zp8 (l:List ac)(n:Nat):(cW l).take n=cW (l.take n):=by simp [cW]
@[simp] theorem zp9 (l:List ac)(n:Nat):(cW l).drop n=cW (l.drop n):=by simp [cW]
@[simp] theorem zqa (l:List Bool)(n:Nat):(cB l).take n=cB (l.take n):=by simp [cB]
@[simp] theorem zqb (l:List Bool)(n:Nat):(cB l).drop n=cB (l.drop n):=by simp [cB]
theorem bH (n:Nat):aL (.int .u64 0) n=cW (tab n fun _=>0#64):=by rw [MX,cW,EN];rfl
theorem DT (n:Nat):aL (.bool false) n=cB (tab n fun _=>false):=by rw [MX,cB,EN]
theorem fJ (k:IntKind)(x:Int)(n:Nat):aL (.int k x) n=cI k (tab n fun _=>x):=by rw [MX,cI,EN]
@[simp] theorem zoY (x:ac):(wd x).cells=[wd x]:=rfl
@[simp] theorem zqR (x:ac):(wd x).okV=true:=rfl
@[simp] theorem zqc (x:ac):(wd x).flat=true:=rfl
@[simp] theorem zqS (x:ac):Ke (wd x)=some (x.toNat:Int):=rfl
theorem zlM (n:Nat)(h:n < 18446744073709551616):J.int .u64 (n:Int)=wd (BitVec.ofNat 64 n):=by
 unfold wd;rw [BitVec.toNat_ofNat,Nat.mod_eq_of_lt (by simpa using h)]
theorem F1 (n:Nat)(h:n < 18446744073709551616):IntKind.u64.wrap (n:Int)=n:=wrap_u64 (by omega) (by omega)
theorem kX (x:ac):BitVec.ofInt 64 (x.toNat:Int)=x:=by
 apply BitVec.eq_of_toNat_eq;rw [BitVec.toNat_ofInt];have:=x.isLt;omega
theorem R5 (x:ac):x.toNat < 18446744073709551616:=x.isLt
@[simp] theorem zqT (x y:ac):aV .xor (wd x) (wd y)=some (wd (x ^^^ y)):=by
 unfold wd;rw [zgU];show some (J.int .u64 (IntKind.u64.wrap ((BitVec.ofInt 64 (x.toNat:Int) ^^^ BitVec.ofInt 64 (y.toNat:Int):BitVec 64).toNat:Int)))=_;rw [kX,kX,F1 _ (R5 _)]
@[simp] theorem Be (x y:ac):aV .and (wd x) (wd y)=some (wd (x&&&y)):=by
 unfold wd;rw [wS];show some (J.int .u64 (IntKind.u64.wrap ((BitVec.ofInt 64 (x.toNat:Int)&&&BitVec.ofInt 64 (y.toNat:Int):BitVec 64).toNat:Int)))=_;rw [kX,kX,F1 _ (R5 _)]
@[simp] theorem zrf (x y:ac):aV .or (wd x) (wd y)=some (wd (x|||y)):=by
 unfold wd;rw [VK];show some (J.int .u64 (IntKind.u64.wrap ((BitVec.ofInt 64 (x.toNat:Int)|||BitVec.ofInt 64 (y.toNat:Int):BitVec 64).toNat:Int)))=_;rw [kX,kX,F1 _ (R5 _)]
@[simp] theorem znk (x y:ac):aV .andNot (wd x) (wd y)=some (wd (x&&&~~~ y)):=by
 unfold wd;rw [VL];show some (J.int .u64 (IntKind.u64.wrap ((BitVec.ofInt 64 (x.toNat:Int)&&&~~~ (BitVec.ofInt 64 (y.toNat:Int)):BitVec 64).toNat:Int)))=_;rw [kX,kX,F1 _ (R5 _)]
theorem pc (n:Int):IntKind.u64.wrap n=n % 18446744073709551616:=by
 unfold IntKind.wrap;simp [IntKind.signed,IntKind.bits]
@[simp] theorem zme (x y:ac):aV .add (wd x) (wd y)=some (wd (x+y)):=by
 unfold wd;rw [zgQ,pc,BitVec.toNat_add,Int.natCast_emod,Int.natCast_add];rfl
@[simp] theorem XK (x y:ac):aV .mul (wd x) (wd y)=some (wd (x*y)):=by
 unfold wd;rw [QQ,pc,BitVec.toNat_mul,Int.natCast_emod,Int.natCast_mul];rfl
@[simp] theorem zf4 (x y:ac):aV .sub (wd x) (wd y)=some (wd (x - y)):=by
 unfold wd;rw [QO,pc]
 congr 2
 have h1:=x.isLt;have h2:=y.isLt;rw [BitVec.toNat_sub];omega
theorem Nz (x:ac)(k:IntKind)(n:Nat)(h:decide (n<=64)=true):aV .shl (wd x) (.int k (n:Int))=some (wd (x <<< n)):=by
 have h':n<=64:=by simpa using h
 unfold wd;rw [wV,zqN _ _ _ (by simp only [show ((IntKind.u64.bits:Nat):Int)=64 from rfl,Bool.and_eq_true,decide_eq_true_eq];exact ⟨Int.natCast_nonneg n,by omega⟩)];rw [pc,BitVec.toNat_shiftLeft,Int.toNat_natCast,Nat.shiftLeft_eq,Int.natCast_emod,Int.natCast_mul,Int.natCast_pow];rfl
theorem yw (x:ac)(k:IntKind)(n:Nat)(h:decide (n<=64)=true):aV .shr (wd x) (.int k (n:Int))=some (wd (x >>> n)):=by
 have h':n<=64:=by simpa using h
 unfold wd;rw [jz,zeO _ _ _ (by simp only [show ((IntKind.u64.bits:Nat):Int)=64 from rfl,Bool.and_eq_true,decide_eq_true_eq];exact ⟨Int.natCast_nonneg n,by omega⟩)];rw [BitVec.toNat_ushiftRight,Int.toNat_natCast,Nat.shiftRight_eq_div_pow,Int.fdiv_eq_ediv_of_nonneg _ (by exact Int.pow_nonneg (by decide)),Int.natCast_ediv,Int.natCast_pow];rfl
def bw (n:Int):ac:=BitVec.ofInt 64 n
@[simp] theorem zmg (k:IntKind)(n:Int):XA .u64 (.int k n)=some (wd (bw n)):=by
 rw [iL,pc];unfold wd bw
 congr 2
 rw [BitVec.toNat_ofInt];omega
theorem Sk (h:O)(nb nt n i:Nat)(es:List (List J))(he:aO nb nt es=true):frz h nb nt (n+1) (gA nt i es)=some (.vsl false es):=Rh h nb nt n (by simp) he
@[simp] theorem zqY (h:O)(nb nt n i:Nat)(k:IntKind)(l:List Int):frz h nb nt (n+1) (gA nt i (eI k l))=some (.vsl false (eI k l)):=Sk h nb nt n i _ (by simp)
@[simp] theorem Sl (h:O)(nb nt n:Nat)(c:Bool)(k:IntKind)(l:List Int):frz h nb nt (n+1) (.vsl c (eI k l))=some (.vsl false (eI k l)):=lq h nb nt n c (by simp)
@[simp] theorem zqZ (h:O)(nb nt n:Nat)(x:ac):frz h nb nt (n+1) (wd x)=some (wd x):=by unfold wd;simp
@[simp] theorem zq0 (h:O)(x:ac):nT h (wd x)=some (wd x,false):=by unfold wd;simp
@[simp] theorem zq1 (h:O)(nb nt n:Nat)(l:List ac):frz h nb nt (n+1) (.agg (cW l))=some (.agg (cW l)):=mO h nb nt n (Ik l)
@[simp] theorem zq2 (h:O)(nb nt n:Nat)(l:List Bool):frz h nb nt (n+1) (.agg (cB l))=some (.agg (cB l)):=mO h nb nt n (Y8 l)
@[simp] theorem zq3 (h:O)(nb nt n:Nat)(k:IntKind)(l:List Int):frz h nb nt (n+1) (.agg (cI k l))=some (.agg (cI k l)):=mO h nb nt n (Y9 k l)
@[simp] theorem zq4 (h:O)(l:List ac):nT h (.agg (cW l))=some (.agg (cW l),false):=dQ h (Ik l)
@[simp] theorem zq5 (h:O)(l:List Bool):nT h (.agg (cB l))=some (.agg (cB l),false):=dQ h (Y8 l)
@[simp] theorem zq6 (h:O)(k:IntKind)(l:List Int):nT h (.agg (cI k l))=some (.agg (cI k l),false):=dQ h (Y9 k l)
@[simp] theorem zq7 (L:az)(h:O)(p:J)(x:ac):KL L h 1 p (wd x)=Vv (dX L h p [wd x]):=by simp [KL]
@[simp] theorem zqi (x:ac):pe (wd x)=some (.vptr [wd x] 0):=rfl
theorem e7 (n sz m i off k:Nat)(kd:IntKind)(h:decide (k < n)=true):bO (some n) sz (pA m i off) (.int kd (k:Int))=some (pA m i (off+k*sz)):=by
 have:k < n:=by simpa using h
 simp [bO,Ke,pA,this]
theorem lG (n sz off k:Nat)(cs:List J)(kd:IntKind)(h:decide (k < n)=true):bO (some n) sz (.vptr cs off) (.int kd (k:Int))=some (.vptr cs (off+k*sz)):=by
 have:k < n:=by simpa using h
 simp [bO,Ke,this]
@[simp] theorem zpg (n sz m i off:Nat)(kd:IntKind):bO (some (n+1)) sz (pA m i off) (.int kd 0)=some (pA m i off):=by simp [bO,Ke,pA]
@[simp] theorem zph (n sz off:Nat)(cs:List J)(kd:IntKind):bO (some (n+1)) sz (.vptr cs off) (.int kd 0)=some (.vptr cs off):=by simp [bO,Ke]
theorem om (n i off sz len k:Nat)(cap:Option Nat)(kd:IntKind)(h:decide (k < len)=true):bO none sz (sA n i off sz len cap) (.int kd (k:Int))=some (pA n i (off+k*sz)):=by
 have:k < len:=by simpa using h
 simp [bO,Ke,sA,pA,this]
theorem Sn (n k:Nat)(g:Bool)(cs:List J)(sz:Nat)(kd:IntKind)(h:decide (k < n)=true):zi6 n sz g (.agg cs) (.int kd (k:Int))=cL g cs (k*sz) sz:=by
 have:k < n:=by simpa using h
 unfold zi6;simp [this]
theorem qT (k' kd:IntKind)(c:Bool)(l:List Int)(i:Nat)(h:decide (i < l.length)=true):bO none 1 (.vsl c (eI k' l)) (.int kd (i:Int))=some (.vptr [.int k' (gd l 0 i)] 0):=by
 have h':i < l.length:=by simpa using h
 simp [bO,Ke,zeE,h',gd,List.getD]
@[simp] theorem zqj (n i off sz len:Nat)(cap:Option Nat):B9 (sA n i off sz len cap)=some len:=rfl
@[simp] theorem zqk (n i:Nat)(es:List (List J)):B9 (gA n i es)=some es.length:=rfl
@[simp] theorem zq8 (L:az)(h:O)(p:J)(n i off sz len:Nat)(cap:Option Nat):KL L h 1 p (sA n i off sz len cap)=Vv (dX L h p [sA n i off sz len cap]):=by simp [KL,sA,J.cells,J.okV]
section
variable (L:az) (h:O) (bs:List (List J)) (ts:List Nat)
theorem zM (sz:Nat)(c:Bool)(es ys:List (List J))(hc:(eo sz ys&&eo sz es&&decide (es.length+ys.length < ao)&&decide (0 < ys.length))=true):
  ka L (hx h bs ts) sz true (.vsl true es) (.vsl c ys)=some (sA h.blks.length bs.length 0 sz (es.length+ys.length) none,hx h (bs++[(es++ys).flatten]) ts):=by
 simp only [Bool.and_eq_true,decide_eq_true_eq] at hc;have hy:ys≠[]:=fun e=>by have:=hc.2;simp [e] at this
 simp [ka,aN,lO,C6,hc.1.1.1,hc.1.1.2,hc.1.2,hy,iT,sA,hx,push]
theorem zck (sz:Nat)(x:J)(c:Bool):ka L (hx h bs ts) sz true (.vsl true []) (.vsl c [])=some (.vsl true [],hx h bs ts):=by
 simp [ka,aN,lO,C6,eo]
theorem Bx : ∀ (n : Nat) (cs : List J), cs.length = n -> chunks 1 n cs = cs.map fun c => [c]
 | 0,[],_=>rfl
 | n+1,c :: cs,h=>by simp [chunks,Bx n cs (by simpa using h)]
theorem Ei (i n : Nat)(cs : List J)(cap : Option Nat)(hb : bs[i]? = some cs)(hl : cs.length = n) : aN (hx h bs ts) 1 (sA h.blks.length i 0 1 n cap) = some (cs.map fun c => [c]) := by
 simp only [aN,sA,hx];rw [List.getElem?_append_right (Nat.le_add_right _ _),Nat.add_sub_cancel_left,hb];simp [hl,Bx]
theorem zN (k:IntKind)(l:List Int):(cI k l).map (fun c=>[c])=eI k l:=by simp [cI,eI]
theorem Bz (k:IntKind)(l:List Int):(eI k l).flatten=cI k l:=by
 induction l with
 | nil=>rfl
 | cons x l ih=>simp only [eI,List.map_cons,List.flatten_cons] at ih |-;rw [ih];rfl
theorem Su (i n:Nat)(k:IntKind)(l m:List Int)(c:Bool)(hb:bs[i]?=some (cI k l))
  (hc:(decide (l.length=n)&&decide (0 < n)&&decide (n+m.length < ao)&&decide (L.rob<=h.blks.length)&&decide (0 < m.length))=true):
  ka L (hx h bs ts) 1 true (sA h.blks.length i 0 1 n none) (.vsl c (eI k m))=some (sA h.blks.length bs.length 0 1 (n+m.length) none,hx h (bs.set i []++[cI k (l++m)]) ts):=by
 simp only [Bool.and_eq_true,decide_eq_true_eq] at hc;obtain ⟨⟨⟨⟨c1,c2⟩,c3⟩,c4⟩,c5⟩:=hc;have he:=Ei h bs ts i n (cI k l) none hb (by simpa using c1);rw [zN] at he;simp only [sA] at he;have hm:eI k m≠[]:=fun e=>by have:=congrArg List.length e;simp at this;simp [this] at c5
 simp only [ka,aN,lO,Option.bind_some,if_true,C6,Lz,sA];simp only [aN] at he;rw [if_pos ⟨trivial,trivial,trivial,c2,by decide,by omega⟩,he,Option.bind_some,if_neg hm,if_pos (by simp [c1];exact c3)];have hflat:(eI k l++eI k m).flatten=cI k (l++m):=by rw [Qe,Bz]
 simp only [push,hx,hflat,RQ,c1];rw [List.set_append_right _ _ (Nat.le_add_right _ _),Nat.add_sub_cancel_left];simp
end
end Go.Av
namespace Go.Av
abbrev wrM:Mode:=⟨false,false,false,false⟩
abbrev roM:Mode:=⟨true,false,false,false⟩
abbrev zlP:Mode:=⟨false,false,true,false⟩
section
variable (L:az) (h:O) (bs bs':List (List J)) (ts ts':List Nat)
@[simp] theorem zo3 (args:List J):o6 wrM h args=some (args,false):=by simp [o6]
@[simp] theorem zfc (args:List J):o6 roM h args=some (args,false):=by simp [o6]
@[simp] theorem znm (args:List J):o6 zlP h args=some (args,false):=by simp [o6]
@[simp] theorem zo6:d4 wrM L h=⟨L.rob,L.rot,h.blks.length,h.toks.length⟩:=by simp [d4]
@[simp] theorem zeC:d4 roM L h=V h:=by simp [d4,V]
@[simp] theorem zne:d4 zlP L h=L:=by simp [d4]
@[simp] theorem zp6 (h1:O)(v:J):vf wrM h h1 v=FL (frz h1 h.blks.length h.toks.length 12 v) (fY h1 h.blks.length h.toks.length):=by
 simp [vf,FL]
@[simp] theorem zp7 (h1:O)(v:J):vf roM h h1 v=FL (frz h1 h.blks.length h.toks.length 12 v) h:=by
 simp [vf,FL]
@[simp] theorem znZ (h1:O)(v:J):vf zlP h h1 v=some (v,h1):=by
 simp [vf]
@[simp] theorem LW:hx (hx h bs ts) bs' ts'=hx h (bs++bs') (ts++ts'):=by simp [hx]
theorem VP {h1:O}(h2:h1.blks.length=h.blks.length)(h3:h1.toks.length=h.toks.length):fY h1 h.blks.length h.toks.length=h1:=by
 unfold fY;rw [<- h2,<- h3,List.take_length,List.take_length]
theorem rL (i:Nat)(cs:List J):fY (hx h (bs.set i cs) ts) (h.blks.length+bs.length) (h.toks.length+ts.length)=hx h (bs.set i cs) ts:=by
 have:=VP (hx h bs ts) (h1:=hx h (bs.set i cs) ts) (by simp [hx]) (by simp [hx])
 rwa [aB,aA] at this
theorem am (L:az)(i off:Nat)(cs:List J)(h1:(decide (L.rob<=h.blks.length)&&aE 0 0 cs)=true):
  dX L (hx h bs ts) (pA h.blks.length i off) cs=stO h bs ts i off cs bs[i]?:=by
 simp only [Bool.and_eq_true,decide_eq_true_eq] at h1;unfold dX pA stO stI hx;simp only;rw [List.getElem?_append_right (Nat.le_add_right _ _),Nat.add_sub_cancel_left]
 cases bs[i]? with
 | none=>rfl
 | some old=>
  simp only [Option.bind_some];by_cases hc:off+cs.length<=old.length
  ·rw [if_pos ⟨by omega,hc,.inr h1.2⟩,if_pos (by simpa using hc)];rw [List.set_append_right _ _ (Nat.le_add_right _ _),Nat.add_sub_cancel_left]
  ·rw [if_neg (fun h=>hc h.2.1),if_neg (by simpa using hc)]
theorem Jc:∀ {l:List J},(∀ c∈l,c.under 0 0=true)->aE 0 0 l=true
 | [],_=>rfl
 | c :: cs,h=>by simp only [aE,Bool.and_eq_true];exact ⟨h c (by simp),Jc fun c hc=>h c (by simp [hc])⟩
@[simp] theorem zbq (l : List ac) : aE 0 0 (cW l) = true := Jc fun c hc => by
 simp only [cW,List.mem_map] at hc;obtain ⟨x,_,rfl⟩:=hc;rfl
@[simp] theorem zm9 (x:ac):aE 0 0 [wd x]=true:=rfl
@[simp] theorem zlp (k:IntKind)(x:Int):aE 0 0 [.int k x]=true:=rfl
@[simp] theorem zjU (x:Bool):aE 0 0 [.bool x]=true:=rfl
theorem n8 (b off n:Nat)(g:Bool)(cs:List J)(hb:h.blks[b]?=some cs):qk (hx h bs ts) (.ptr b off) n g=cL g cs off n:=by
 unfold qk hx;simp only;rw [List.getElem?_append_left (List.getElem?_eq_some_iff.1 hb).1,hb];rfl
def IY (h:O)(k:IntKind)(x:J)(l:List Int):Prop:=
 B9 x=some l.length/\∃ p:Nat->J,(∀ i,i < l.length->bO none 1 x (.int .i64 (i:Int))=some (p i))/\∀ i bs ts,i < l.length->qk (hx h bs ts) (p i) 1 false=some (.int k (gd l 0 i))
def iV (h:O)(x:J)(l:List ac):Prop:=
 B9 x=some l.length/\∃ p:Nat->J,(∀ i,i < l.length->bO none 1 x (.int .i64 (i:Int))=some (p i))/\∀ i bs ts,i < l.length->qk (hx h bs ts) (p i) 1 false=some (wd (gd l 0#64 i))
theorem iV.ext {h:O}{x:J}{l:List ac}(hr:iV h x l)(bs:List (List J))(ts:List Nat):iV (hx h bs ts) x l:=by
 obtain ⟨h1,p,h2,h3⟩:=hr;exact ⟨h1,p,h2,fun i bs' ts' hi=>by rw [LW];exact h3 i _ _ hi⟩
theorem IY.vsl (h:O)(k:IntKind)(c:Bool)(l:List Int):IY h k (.vsl c (eI k l)) l:=
 ⟨by simp,fun i=>.vptr [.int k (gd l 0 i)] 0,fun i hi=>qT k .i64 c l i (by simpa using hi),fun i bs ts hi=>by simp⟩
def eW (l:List ac):List (List J):=l.map fun x=>[wd x]
@[simp] theorem zmq (l:List ac):(eW l).length=l.length:=by simp [eW]
theorem zgr (l:List ac)(i:Nat):(eW l)[i]?=(l[i]?).map fun n=>[wd n]:=by simp [eW]
theorem iV.vsl (h:O)(c:Bool)(l:List ac):iV h (.vsl c (eW l)) l:=
 ⟨by simp,fun i=>.vptr [wd (gd l 0#64 i)] 0,fun i hi=>by simp [bO,Ke,zgr,hi,gd,List.getD],fun i bs ts hi=>by simp⟩
theorem NR {k:IntKind}{l:List Int}{i:Nat}(h:i < l.length):(cI k l)[i]?=some (.int k (gd l 0 i)):=by
 simp [cI,gd,List.getD,h]
theorem iV.sl (h:O)(b n:Nat)(cap:Option Nat)(l:List ac)(hl:l.length=n)(hb:h.blks[b]?=some (cW l)):iV h (.sl b 0 1 n cap) l:=
 ⟨by simp [hl], fun i => .ptr b (0 + i * 1), fun i hi => by simp [bO, Ke]; omega, fun i bs ts hi => by
  rw [n8 h bs ts b _ _ _ _ hb,ap,Nat.zero_add,Nat.mul_one];exact M6 hi⟩
theorem IY.sl (h:O)(k:IntKind)(b n:Nat)(cap:Option Nat)(l:List Int)(hl:l.length=n)(hb:h.blks[b]?=some (cI k l)):IY h k (.sl b 0 1 n cap) l:=
 ⟨by simp [hl], fun i => .ptr b (0 + i * 1), fun i hi => by simp [bO, Ke]; omega, fun i bs ts hi => by
  rw [n8 h bs ts b _ _ _ _ hb,ap,Nat.zero_add,Nat.mul_one];exact NR hi⟩
end
theorem vn (n sz m i off:Nat)(h:decide (0 < n)=true):eP (.arr n) sz (pA m i off) none none none=some (sA m i off sz n (some n)):=by
 have h':0 < n:=by simpa using h
 have:¬n=0:=by omega
 simp [eP,pA,sA,jp,this]
theorem NU (n sz m i off c:Nat)(kd:IntKind)(h:(decide (0 < c)&&decide (c<=n))=true):eP (.arr n) sz (pA m i off) none (some (.int kd (c:Int))) none=some (sA m i off sz c (some n)):=by
 simp only [Bool.and_eq_true,decide_eq_true_eq] at h;have h0:¬c=0:=by omega
 simp [eP,pA,sA,jp,h0,h.2]
theorem iV.sA {h:O}{bs:List (List J)}(ts:List Nat)(i n:Nat)(cap:Option Nat)(l:List ac)(hl:l.length=n)(hb:bs[i]?=some (cW l)):iV (hx h bs ts) (sA h.blks.length i 0 1 n cap) l:=
 iV.sl _ _ n cap l hl (by simp only [hx];rw [List.getElem?_append_right (Nat.le_add_right _ _),Nat.add_sub_cancel_left];exact hb)
theorem IY.sA {h:O}{bs:List (List J)}(ts:List Nat)(k:IntKind)(i n:Nat)(cap:Option Nat)(l:List Int)(hl:l.length=n)(hb:bs[i]?=some (cI k l)):IY (hx h bs ts) k (sA h.blks.length i 0 1 n cap) l:=
 IY.sl _ k _ n cap l hl (by simp only [hx];rw [List.getElem?_append_right (Nat.le_add_right _ _),Nat.add_sub_cancel_left];exact hb)
theorem SA (n:Nat)(c:Bool)(k:IntKind)(l:List Int)(h:(decide (0 < n)&&decide (n<=l.length))=true):zfY n (.vsl c (eI k l))=some (.vptr (cI k (l.take n)) 0):=by
 simp only [Bool.and_eq_true,decide_eq_true_eq] at h;show (if n<=(eI k l).length/\0 < n then some (J.vptr (List.take n (eI k l)).flatten 0) else none)=_;rw [if_pos ⟨by simpa using h.2,h.1⟩];have:(eI k l).take n=eI k (l.take n):=by simp [eI]
 rw [this,Bz]
theorem zgz (n m i off len:Nat)(cap:Option Nat)(h:decide (n<=len)=true):zfY n (sA m i off 1 len cap)=some (pA m i off):=by
 have:n<=len:=by simpa using h
 unfold zfY;simp [sA,pA,this]
@[simp] theorem zqo (k:IntKind)(l:List Int)(n:Nat):(cI k l).take n=cI k (l.take n):=by simp [cI]
@[simp] theorem zjv (k:IntKind)(l:List Int)(n:Nat):(cI k l).drop n=cI k (l.drop n):=by simp [cI]
theorem BG {h:O}{bs:List (List J)}(ts:List Nat){i:Nat}{cs:List J}(hb:bs[i]?=some cs):(hx h bs ts).blks[h.blks.length+i]?=some cs:=by
 simp only [hx];rw [List.getElem?_append_right (Nat.le_add_right _ _),Nat.add_sub_cancel_left];exact hb
theorem zgC (k:IntKind)(l:List Int)(off sz:Nat)(h:decide (off+sz<=l.length)=true):cL true (cI k l) off sz=some (.agg (cI k ((l.drop off).take sz))):=by
 have h':off+sz<=l.length:=by simpa using h
 unfold cL;simp [h']
theorem zcD (l:List ac)(off sz:Nat)(h:decide (off+sz<=l.length)=true):cL true (cW l) off sz=some (.agg (cW ((l.drop off).take sz))):=by
 have h':off+sz<=l.length:=by simpa using h
 unfold cL;simp [h']
theorem S6 (l:List Bool)(off sz:Nat)(h:decide (off+sz<=l.length)=true):cL true (cB l) off sz=some (.agg (cB ((l.drop off).take sz))):=by
 have h':off+sz<=l.length:=by simpa using h
 unfold cL;simp [h']
abbrev zke:Mode:=⟨true,true,false,true⟩
@[simp] theorem zmw (h:O)(args:List J):o6 zke h args=rQ h args:=by simp [o6]
@[simp] theorem zmx (L:az)(h:O):d4 zke L h=V h:=by simp [d4,V]
theorem zcE (h:O)(bs:List (List J))(ts:List Nat)(es:List (List J))(hu:(aO h.blks.length h.toks.length es&&(ts[0]?==some es.length))=true):
  vf zke h (hx h bs ts) (gA h.toks.length 0 es)=some (.gsl h.toks.length es,ptok h es.length):=by
 simp only [Bool.and_eq_true,beq_iff_eq] at hu;obtain ⟨u1,u2⟩:=hu;have h5:(hx h bs ts).toks[h.toks.length]?=some es.length:=by
  simp only [hx];rw [List.getElem?_append_right (Nat.le_refl _),Nat.sub_self];exact u2
 unfold vf;simp only [gA,Nat.add_zero,h5,u1];simp
@[simp] theorem zqp (L:az)(h:O)(sz:Nat)(ref:Bool)(x:J)(n i:Nat)(es:List (List J)):ka L h sz ref x (gA n i es)=ka L h sz ref x (.vsl false es):=by
 simp [ka,gA,aN,lO]
def zgP (h:O):J->Option (J × O)
 | .str s=>some (.gsl h.toks.length (eI .u8 (bts s)),ptok h s.size)
 | _=>none
@[simp] theorem znH (C:eD)(L:az)(fr:Fr)(h:O)(x:AO):fU C L fr h (.s2b x)=zgP h (C.ev fr x):=by
 simp only [fU]
 cases C.ev fr x <;> first | rfl | (simp only [zgP,Y4])
@[simp] theorem znI (h:O)(bs:List (List J))(ts:List Nat)(s:ByteArray):zgP (hx h bs ts) (.str s)=some (gA h.toks.length ts.length (eI .u8 (bts s)),hx h bs (ts++[s.size])):=by
 simp [zgP,gA,hx,ptok]
@[simp] theorem zkg (b:Bool):Ss ba b=false:=rfl
@[simp] theorem S9 {α:Type}(n:Nat)(f:Nat->α):tab n f++[f n]=tab (n+1) f:=by simp [tab,List.range_succ]
theorem wR {α:Type}{l:List α}{n i:Nat}{d:α}(h:i < n):gd (l.take n) d i=gd l d i:=by
 unfold gd;simp [List.getD,List.getElem?_take,h]
theorem rK {α:Type}{l:List α}{k:Nat}(d:α)(h:k < l.length):l.take (k+1)=l.take k++[gd l d k]:=by
 rw [List.take_add_one,A5 (d:=d) h];rfl
end Go.Av
namespace Go.Av
def mkK (h:O)(sz:Nat)(zero:List J):J->Option (J × O)
 | .int _ n=>if 0<=n/\n < ao then some (.sl h.blks.length 0 sz n.toNat (some n.toNat),push h (rep zero n.toNat)) else none
 | _=>none
@[simp] theorem zpy (C:eD)(L:az)(fr:Fr)(h:O)(sz:Nat)(z:List J)(x:AO):fU C L fr h (.mk sz z x)=mkK h sz z (C.ev fr x):=by
 simp only [fU]
 cases C.ev fr x <;> rfl
theorem i7 (h:O)(bs:List (List J))(ts:List Nat)(sz:Nat)(z:List J)(k:IntKind)(n:Int)(hc:(decide (0<=n)&&decide (n < ao))=true):
  mkK (hx h bs ts) sz z (.int k n)=some (sA h.blks.length bs.length 0 sz n.toNat (some n.toNat),hx h (bs++[rep z n.toNat]) ts):=by
 simp only [Bool.and_eq_true,decide_eq_true_eq] at hc;unfold mkK;simp only [if_pos hc];simp [sA,hx,push]
theorem eR (x:J):∀ n,rep [x] n=aL x n
 | 0=>rfl
 | n+1=>by simp [rep,aL,eR x n]
theorem I6 (sz m i len c:Nat)(cap:Option Nat)(kd:IntKind)(h:(decide (0 < c)&&decide (c<=len)&&decide (len<=cap.getD len))=true):eP .slc sz (sA m i 0 sz len cap) none (some (.int kd (c:Int))) none=some (sA m i 0 sz c cap):=by
 simp only [Bool.and_eq_true,decide_eq_true_eq] at h;obtain ⟨⟨h1,h2⟩,h3⟩:=h;have h0:¬c=0:=by omega
 have h4:c<=cap.getD len:=by omega
 simp [eP,sA,jp,h0,h4]
@[simp] theorem zmB (k:IntKind)(a:Int):J.cells (J.int k a)=[.int k a]:=rfl
@[simp] theorem zpz (k:IntKind)(a:Int):J.okV (J.int k a)=true:=rfl
@[simp] theorem zkk (b:Bool):J.cells (J.bool b)=[.bool b]:=rfl
@[simp] theorem znM (b:Bool):J.okV (J.bool b)=true:=rfl
@[simp] theorem zmC (b:ByteArray):J.cells (J.str b)=[.str b]:=rfl
@[simp] theorem zpA (b:ByteArray):J.okV (J.str b)=true:=rfl
@[simp] theorem zmD (c:Bool)(es:List (List J)):J.cells (J.vsl c es)=[.vsl c es]:=rfl
@[simp] theorem zpB (c:Bool)(es:List (List J)):J.okV (J.vsl c es)=true:=rfl
@[simp] theorem zmE:J.cells (J.nsl)=[.nsl]:=rfl
@[simp] theorem zpC:J.okV (J.nsl)=true:=rfl
@[simp] theorem zkl:J.cells (J.nilp)=[.nilp]:=rfl
@[simp] theorem znN:J.okV (J.nilp)=true:=rfl
@[simp] theorem zmF:J.cells (J.nfn)=[.nfn]:=rfl
@[simp] theorem zpF:J.okV (J.nfn)=true:=rfl
@[simp] theorem zmG:J.cells (J.nif)=[.nif]:=rfl
@[simp] theorem zpG:J.okV (J.nif)=true:=rfl
@[simp] theorem zjx (t:TypeId)(v:J):J.cells (J.iface t v)=[.iface t v]:=rfl
@[simp] theorem zmH (t:TypeId)(v:J):J.okV (J.iface t v)=true:=rfl
@[simp] theorem znS (f:Fn)(a b:List J):J.cells (J.fn f a b)=[.fn f a b]:=rfl
@[simp] theorem zqr (f:Fn)(a b:List J):J.okV (J.fn f a b)=true:=rfl
@[simp] theorem zkn (cs:List J)(o:Nat):J.cells (J.vptr cs o)=[.vptr cs o]:=rfl
@[simp] theorem znU (cs:List J)(o:Nat):J.okV (J.vptr cs o)=true:=rfl
@[simp] theorem znV (n i off sz len:Nat)(cap:Option Nat):J.cells (sA n i off sz len cap:J)=[sA n i off sz len cap]:=rfl
@[simp] theorem zqs (n i off sz len:Nat)(cap:Option Nat):J.okV (sA n i off sz len cap:J)=true:=rfl
@[simp] theorem znW (n i off:Nat):J.cells (pA n i off:J)=[pA n i off]:=rfl
@[simp] theorem zqt (n i off:Nat):J.okV (pA n i off:J)=true:=rfl
@[simp] theorem znX (n i:Nat)(es:List (List J)):J.cells (gA n i es:J)=[gA n i es]:=rfl
@[simp] theorem zqu (n i:Nat)(es:List (List J)):J.okV (gA n i es:J)=true:=rfl
@[simp] theorem zaa (cs:List J):J.cells (J.agg cs)=cs:=rfl
@[simp] theorem Lh (cs:List J):J.okV (J.agg cs)=true:=rfl
theorem L0 (k:IntKind):∀ (n:Nat) (l m:List Int),l.length=n->m.length=n->cK (aL .i n) (cI k l) (cI k m)=some (l==m)
 | 0,[],[],_,_=>by simp [aL,cI,cK]
 | n + 1, x :: l, y :: m, h1, h2 => by
  have:=L0 k n l m (by simpa using h1) (by simpa using h2);simp only [cI] at this;simp only [aL,cI,List.map_cons,cK,GD,bind,if_true,Option.bind_some,this]
  congr 1
theorem zks (k:IntKind)(n:Nat)(l m:List Int)(h1:(l.length==n)=true)(h2:(m.length==n)=true):GF (.agg (aL .i n)) (.agg (cI k l)) (.agg (cI k m))=some (l==m):=by
 rw [zg0];exact L0 k n l m (by simpa using h1) (by simpa using h2)
def Ok (l:List Int):ByteArray:=⟨(l.map fun n=>UInt8.ofNat n.toNat).toArray⟩
theorem Jd : ∀ l : List Int, rP (eI .u8 l) = some (l.map fun n => UInt8.ofNat n.toNat)
 | []=>rfl
 | x :: l => by
  have:=Jd l;simp only [eI] at this;simp only [eI,List.map_cons,rP,this,bind,Option.bind_some]
def zab (h:O)(x:J):Option J:=(aN h 1 x).bind fun es=>(rP es).map fun bs=>.str ⟨bs.toArray⟩
@[simp] theorem zn0 (C:eD)(fr:Fr)(h:O)(x:AO):H6 C fr h (.b2s x)=zab h (C.ev fr x):=by
 simp only [H6,zab,bind]
 congr 1
 funext es
 cases rP es <;> rfl
@[simp] theorem zcZ (h:O)(c:Bool)(l:List Int):zab h (.vsl c (eI .u8 l))=some (.str (Ok l)):=by
 simp [zab,aN,Jd,Ok]
theorem Yq (h:O)(bs:List (List J))(ts:List Nat)(i n:Nat)(cap:Option Nat)(l:List Int)(hb:bs[i]?=some (cI .u8 l))(hl:l.length=n):zab (hx h bs ts) (sA h.blks.length i 0 1 n cap)=some (.str (Ok l)):=by
 have he:=Ei h bs ts i n (cI .u8 l) cap hb (by simpa using hl);rw [zN] at he;simp [zab,he,Jd,Ok]
def zjD:J->Option J
 | .sl b off sz n c=>some (.sl b off sz n c)
 | _=>none
@[simp] theorem zmJ (C:eD)(fr:Fr)(h:O)(x:AO):H6 C fr h (.mark x)=zjD (C.ev fr x):=by
 simp only [H6]
 cases C.ev fr x <;> rfl
@[simp] theorem zn1 (n i off sz len:Nat)(cap:Option Nat):zjD (sA n i off sz len cap)=some (sA n i off sz len cap):=rfl
def Yr (h:O)(sz len:Nat)(cs:Option (List J)):Option (J × O):=cs.map fun cs=>(.sl h.blks.length 0 sz len (some len),push h cs)
@[simp] theorem zmU (C:eD)(L:az)(fr:Fr)(h:O)(sz len:Nat)(z:List J)(ps:List (Nat × AO)):
  fU C L fr h (.slit sz len z ps)=Yr h sz len (al (rep z len) (ps.map fun p=>(p.1*sz,sz,C.ev fr p.2))):=by
 simp only [fU,Yr]
 cases al (rep z len) (ps.map fun p=>(p.1*sz,sz,C.ev fr p.2)) <;> rfl
@[simp] theorem zkN (h:O)(bs:List (List J))(ts:List Nat)(sz len:Nat)(cs:List J):Yr (hx h bs ts) sz len (some cs)=some (sA h.blks.length bs.length 0 sz len (some len),hx h (bs++[cs]) ts):=by
 simp [Yr,sA,hx,push]
theorem HO (L:az)(h:O)(bs:List (List J))(ts:List Nat)(i n:Nat)(k:IntKind)(l m:List Int)(c:Bool)(hb:bs[i]?=some (cI k l))
  (hc:(decide (l.length=n)&&decide (n+m.length < ao)&&decide (0 < m.length))=true):
  ka L (hx h bs ts) 1 false (sA h.blks.length i 0 1 n (some n)) (.vsl c (eI k m))=some (gA h.toks.length ts.length (eI k (l++m)),hx h bs (ts++[n+m.length])):=by
 simp only [Bool.and_eq_true,decide_eq_true_eq] at hc;obtain ⟨⟨c1,c3⟩,c5⟩:=hc;have he:=Ei h bs ts i n (cI k l) (some n) hb (by simpa using c1);rw [zN] at he;simp only [sA] at he;have hm:eI k m≠[]:=fun e=>by have:=congrArg List.length e;simp at this;simp [this] at c5
 simp only [ka,aN,lO,Option.bind_some,if_true,C6,Lz,sA];simp only [aN] at he;rw [if_pos ⟨trivial,trivial⟩,he,Option.bind_some,if_neg hm,if_pos (by simp [c1];exact c3)];simp [iT,gA,hx,ptok,c1]
end Go.Av
