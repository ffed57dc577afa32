/- Whatever the abstract machine answers holds in the model, call by call. -/
import Derived.Test.YtafkceblllhheaaGreatDoorV3
import Derived.ScopeJumps
import Derived.Orders
set_option linter.unusedSectionVars false
set_option linter.unusedSimpArgs false
set_option linter.unusedVariables false
namespace Go.Av
section
variable {C:eD} {P:Program} {s s1:St} {nb nt:Nat} {extra:Option Nat}
theorem zkE (hs : iC C s) : PB s.h.blks.length s.h.toks.length s.h := fun b cs hb hc => by
 refine pu.2 fun c hm=>?_;obtain ⟨i,hi⟩:=List.mem_iff_getElem?.1 hm;have hbl:b < s.mb.length:=by rw [hs.lb];exact hb
 obtain ⟨vs,e,fz,_,_,_,h4⟩:=hs.blk b _ cs (List.getElem?_eq_getElem hbl) hc;obtain ⟨_,v,_,hr⟩:=h4 i c hi;exact vk (by rw [hs.lb];exact Nat.le_refl _) (Nat.le_refl _) hr
theorem PA {α:Type}{l l':List α}(hlen:l.length<=l'.length)(h:∀ i:Nat,i < l.length->l'[i]?=l[i]?):l'.take l.length=l:=by
 refine List.ext_getElem? fun i=>?_;by_cases hi:i < l.length
 ·rw [List.getElem?_take_of_lt hi,h i hi]
 ·rw [List.getElem?_take_eq_none (by omega),List.getElem?_eq_none (by omega)]
theorem zaw (hs:iC C s){L:az}(hL:oT L s){m:Mode}{ch:Bool}(hm:ch=true->m.ro=true/\m.esc=false)
  (hl:Le (if ch then s.raise s.mb.length s.mt.length else s) s1) (hs1:iC C s1) (hi:jO (d4 m L s.h) s.h s1.h) {v v':J} {cv:Value} {h':O} (hv:dH s1 v cv)
  (hr:vf m s.h s1.h v=some (v',h')) (hfl:(ch&&!v'.flat)=false):Good C s s1.w v' h' cv:=by
 unfold vf at hr;split at hr
 ·rename_i he;have hch:ch=false:=by
   cases ch
   ·rfl
   ·have:=(hm rfl).2;rw [this] at he;simp at he
  subst hch;have e:=sj hr;injection e with e1 e2
  subst e1 e2;exact ⟨s1,rfl,rfl,hs1,by simpa using hl,hv⟩
 ·rename_i he;have hlb:s.h.blks.length=s.mb.length:=hs.lb.symm;have hlt:s.h.toks.length=s.mt.length:=hs.lt.symm;have hbt:s.mb.length<=s1.mb.length:=by
   have:=hi.lb;rw [hs1.lb,hs.lb];exact this
  have htt:s.mt.length<=s1.mt.length:=by
   have:=hi.lt;rw [hs1.lt,hs.lt];exact this
  have hro : m.ro = true -> s1.h.blks.take s.h.blks.length = s.h.blks /\ s1.h.toks.take s.h.toks.length = s.h.toks := fun hro => by
   have e:d4 m L s.h=⟨s.h.blks.length,s.h.toks.length,s.h.blks.length,s.h.toks.length⟩:=by simp [d4,he,hro]
   rw [e] at hi;exact ⟨PA hi.lb fun i h=>hi.rob i h h,PA hi.lt fun i h=>hi.rot i h h⟩
  have hback:(if m.ro then s.h else fY s1.h s.h.blks.length s.h.toks.length)=⟨s1.h.blks.take s.mb.length,s1.h.toks.take s.mt.length⟩:=by
   rw [<- hlb,<- hlt];split
   ·rename_i h;obtain ⟨a,b⟩:=hro h;rw [a,b]
   ·rfl
  have cut:∀ extra:Option Nat,(∀ t,extra=some t->s.mt.length<=t/\t < s1.mt.length)->fM C s1 s.mb.length s.mt.length extra/\
    iC C ((s1.cut s.mb.length s.mt.length extra).raise s.qb s.qt)/\Le s ((s1.cut s.mb.length s.mt.length extra).raise s.qb s.qt):=by
   intro extra hex
   cases ch with
   | true=>
    simp only [if_true] at hl;have hc:fM C s1 s.mb.length s.mt.length extra:=⟨hs1,hbt,htt,hex,by rw [hl.qt];exact Nat.le_refl _⟩;obtain ⟨a,b⟩:=hro (hm rfl).1;refine ⟨hc,TE hs hc rfl rfl hl hL.lb hL.lt (.inr ⟨rfl,rfl,fun t ht=>?_,fun b' hb'=>?_⟩)⟩
    ·rw [<- hlt] at ht;rw [<- List.getElem?_take_of_lt (l:=s1.h.toks) ht,b]
    ·rw [<- hlb] at hb';rw [<- List.getElem?_take_of_lt (l:=s1.h.blks) hb',a]
   | false=>
    have hl':Le (s.raise s.qb s.qt) s1:=by simpa [St.raise] using hl
    have hc:fM C s1 s.mb.length s.mt.length extra:=⟨hs1,hbt,htt,hex,by rw [hl'.qt];exact hL.lt⟩;refine ⟨hc,TE hs hc rfl rfl hl' (Nat.le_refl _) (Nat.le_refl _) (.inl ⟨rfl,rfl,?_⟩)⟩;rw [<- hlb,<- hlt];refine hi.pb _ _ ?_ ?_ (Nat.le_refl _) (Nat.le_refl _) (zkE hs)
    ·unfold d4;rw [if_neg he];split <;> exact Nat.le_refl _
    ·unfold d4;rw [if_neg he];split <;> exact Nat.le_refl _
  have noraise:∀ extra,ch=false->(s1.cut s.mb.length s.mt.length extra).raise s.qb s.qt=s1.cut s.mb.length s.mt.length extra:=by
   intro extra hch;subst hch;have hl':Le s s1:=by simpa using hl
   simp only [St.raise,St.cut,<- hl'.qb,<- hl'.qt]
  have plain : ((frz s1.h s.h.blks.length s.h.toks.length 12 v).map fun v => (v, if m.ro then s.h else fY s1.h s.h.blks.length s.h.toks.length)) = some (v', h') -> Good C s s1.w v' h' cv := by
   intro hp;obtain ⟨v1,hv1,hp⟩:=map_some hp;injection hp with e1 e2
   subst e1;obtain ⟨hc,c1,c2⟩:=cut none (fun t ht=>by simp at ht);rw [hlb,hlt] at hv1;have hrep:=zaq hc 12 hv hv1;refine ⟨(s1.cut s.mb.length s.mt.length none).raise s.qb s.qt,rfl,?_,c1,c2,?_⟩
   ·rw [<- e2,hback];simp [St.raise,St.cut]
   ·cases hch:ch with
    | false=>rw [noraise none hch];exact hrep
    | true=>
     have:v1.flat=true:=by rw [hch] at hfl;simpa using hfl
     exact Mp this hrep
  simp only [] at hr;split at hr
  ·split at hr
   ·rename_i t es;split at hr
    ·rename_i hcond;obtain ⟨h1,h2,h3⟩:=hcond;have e:=sj hr;injection e with e1 e2
     subst e1;have hch:ch=false:=by
      cases ch
      ·rfl
      ·simp [J.flat] at hfl
     have htl:t < s1.mt.length:=by rw [hs1.lt];exact (List.getElem?_eq_some_iff.1 h2).1
     obtain ⟨hc,c1,c2⟩:=cut (some t) (fun t' ht'=>by obtain rfl:=sj ht';exact ⟨by omega,htl⟩);refine ⟨(s1.cut s.mb.length s.mt.length (some t)).raise s.qb s.qt,rfl,?_,c1,c2,?_⟩
     ·rw [<- e2,hback];simp [St.raise,St.cut,ptok,h2]
     ·rw [noraise _ hch]
      cases hv with
      | gsl _ _ X o sz c k n' he' hcc hn ht hmm hvv=>
       obtain ⟨q1,q2⟩:=hc.tok s.h.toks.length;have hb:back s.mt.length (some t) s.h.toks.length=some t:=by simp [back,hlt]
       rw [hb] at q1 q2;rw [hlb,hlt] at h3;exact .gsl _ es X o sz c k n' (hc.repE h3 he') hcc hn (by rw [q2]; exact ht) hmm (fun e => by
        obtain ⟨p,q,r⟩:=hvv e;exact ⟨by rw [q1];exact p,q,r⟩)
    ·exact plain hr
   ·exact plain hr
  ·exact plain hr
theorem Jh (hs:iC C s){n:Nat}{fr:Fr}{tmps:Array Value}(hf:du n s fr tmps):∀ {rs:List ResultVar} {l:List Cm} {vs:List J},T8 P rs=some l->vg fr s.h l=some vs->
  ∃ cvs:List Value,(rs.mapM fun
   | .tmp t=>pure (tmps.getD t undef)
   | .cell a t=>do loadVar t (<- asAddr (tmps.getD a undef)):Sem (List Value)).run P s.w=.ok cvs s.w/\aU s vs cvs
 | [], l, vs, h, hv => by
  obtain rfl:=sj h;simp [vg] at hv;subst hv;exact ⟨[],by simp,.nil⟩
 | .tmp t :: rs, l, vs, h, hv => by
  simp only [T8] at h;obtain ⟨l',hl',rfl⟩:=map_some h;simp only [vg] at hv;obtain ⟨vs',hv',hv⟩:=bind_some hv;obtain rfl:=sj hv;obtain ⟨cvs,e1,e2⟩:=Jh hs hf hl' hv';refine ⟨tmps.getD t undef :: cvs,?_,.cons _ _ _ _ (hf.2 t) e2⟩;simp only [List.mapM_cons,Sem.run_bind,Sem.run_pure,Result.andThen_ok,e1]
 | .cell a t :: rs, l, vs, h, hv => by
  simp only [T8] at h;split at h
  ·rename_i z g l' hz hg hl';obtain rfl:=sj h;simp only [vg] at hv;obtain ⟨v,hv0,hv⟩:=bind_some hv;obtain ⟨vs',hv',hv⟩:=bind_some hv;obtain rfl:=sj hv;obtain ⟨cvs,e1,e2⟩:=Jh hs hf hl' hv';have ra:=hf.2 a;have:∃ ad cv,tmps.getD a undef=.pointer (some ad)/\(loadVar t ad).run P s.w=.ok cv s.w/\dH s v cv:=by
    unfold qk at hv0;generalize fr a=av at hv0 ra;generalize tmps.getD a undef=cx at ra;split at hv0
    ·rename_i b off;obtain ⟨cs,hcs,hv0⟩:=Option.bind_eq_some_iff.1 hv0
     cases ra with
     | ptr _ _ X h1=>
      obtain ⟨cv,p1,p2⟩:=Ay (P:=P) (kh.ofBlk hs h1 hcs) hz hg hv0;rw [Nat.zero_add] at p1;exact ⟨_,cv,rfl,p1,p2⟩
    ·rename_i cs off
     cases ra with
     | vptr _ _ X o h1=>
      obtain ⟨cv,p1,p2⟩:=Ay (P:=P) (kh.ofR h1) hz hg hv0;exact ⟨_,cv,rfl,p1,p2⟩
    ·simp at hv0
   obtain ⟨ad,cv,q1,q2,q3⟩:=this;refine ⟨cv :: cvs,?_,.cons _ _ _ _ q3 e2⟩;have ha:asAddr (.pointer (some ad))=pure ad:=rfl;simp only [List.mapM_cons,Sem.run_bind,q1,ha,Sem.run_pure,Result.andThen_ok,q2,e1]
  ·simp at h
theorem Ov (hs:iC C s){n:Nat}{fr:Fr}{tmps:Array Value}(hf:du n s fr tmps){fn:Func}{l:List Cm}{vs:List J}(hc:T8 P fn.results.toList=some l)(hv:vg fr s.h l=some vs):
  ∃ cv,(results fn tmps).run P s.w=.ok cv s.w/\dH s (Fe vs) cv:=by
 obtain ⟨cvs,e1,e2⟩:=Jh (P:=P) hs hf hc hv;have hlen:=e2.length;unfold results;rw [Array.mapM_eq_mapM_toList];simp only [Sem.run_bind,Sem.run_map,Result.andThen_ok,Sem.run_pure]
 erw [e1]
 simp only [Result.andThen_ok];refine ⟨_,rfl,?_⟩
 cases e2 with
 | nil=>simp only [Fe];exact .tup _ _ (by simpa using aU.nil)
 | cons x y xs ys hx ht=>
  cases ht with
  | nil=>simpa [Fe] using hx
  | cons x2 y2 xs ys hx2 ht=>
   simp only [Fe];rw [dif_neg (by simp)];exact .tup _ _ (.cons _ _ _ _ hx (.cons _ _ _ _ hx2 ht))
end
end Go.Av
namespace Go.Av
def ziG (C:eD)(s:St)(v:J)(h':O):Ending->World->Prop
 | .returned cv,w=>Good C s w v h' cv
 | _,_=>False
def DY (C:eD)(P:Program)(s:St)(m:Sem Next)(v:J)(h':O):Prop:=
 ∃ nx w',m.run P s.w=.ok nx w'/\((∃ cv,(nx=.value cv\/(nx=.skip/\cv=undef))/\Good C s w' v h' cv)\/
  (∃ f args,nx=.enter f args/\Calls P f args w' (ziG C s v h')))
section
variable {C:eD} {P:Program} {s:St} {n:Nat} {fr:Fr} {a:Act}
theorem PV.x {m:Sem Next}{v:J}{h':O}(g:PV C P s m v h'):DY C P s m v h':=by
 obtain ⟨nx,cv,w',h1,h2,h3⟩:=g;exact ⟨nx,w',h1,.inl ⟨cv,h2,h3⟩⟩
theorem DY.wp {o:Oper}{v:J}{h':O}{K:Act->World->Prop}{Q:Exit->Act->World->Prop}(g:DY C P s (execOp a.eval o) v h')
  (hk:∀ cv w',Good C s w' v h' cv->K (a.put o.dst cv) w'):o.wp P a s.w K Q:=by
 obtain ⟨nx,w',h1,h2⟩:=g;unfold Oper.wp;rw [h1];rcases h2 with ⟨cv,h3,h4⟩ | ⟨f,args,rfl,h3⟩
 ·rcases h3 with rfl | ⟨rfl,rfl⟩
  ·exact hk _ _ h4
  ·exact hk _ _ h4
 ·rw [Oper.upon_enter];refine Calls.mono h3 fun e w'' he=>?_
  cases e with
  | returned cv=>exact hk _ _ he
  | panicked _=>exact he.elim
  | outgrown=>exact he.elim
def ml (C:eD)(P:Program)(L:az)(f:FuncId)(args:List J)(h:O)(v:J)(h':O):Prop:=
 jO L h h'/\∀ (s:St) (cargs:Array Value),s.h=h->iC C s->oT L s->aU s args cargs.toList->DY C P s (callFunc f cargs) v h'
structure Ku (C:eD) (P:Program):Prop where
 fns:∀ f F,C.fns f=some F->∃ fn fl,P.funcs[f]?=some fn/\WG C P fl fn=some F/\fn.name≠ "runtime.NumGoroutine"
 extA:∀ f g,C.ext f=some g->∀ L args h v h',g.pre L args h=some (.inl (v,h'))->ml C P L f args h v h'
 extB:∀ f g,C.ext f=some g->∀ L args h f1 as h1,g.pre L args h=some (.inr (f1,as,h1))->
  ∀ v1 h2 v h',ml C P L f1 as h1 v1 h2->g.post args v1 h2=some (v,h')->ml C P L f args h v h'
 meth:∀ t name path f,C.meth t name=some (path,f)->∀ (s:St) v cv r w,dH s v cv->gJ path v=some r->
  ∃ cr,(method (P.types.size+Made.depth) t cv name).run P w=.ok (f,cr) w/\dH s r cr
theorem Qr {f:FuncId}{fn:Func}{x:Code}(hf:P.funcs[f]?=some fn)(hb:fn.body=some x)(hn:fn.name≠ "runtime.NumGoroutine")(args:Array Value)(w:World):
  (callFunc f args).run P w=.ok (.enter f args) w:=by
 unfold callFunc;simp [hf,hb,hn]
def nN (C:eD)(P:Program)(L:az)(o:Wk)(fr:Fr)(h:O)(v:J)(h':O):Prop:=
 jO L h h'/\(xX o=false->h'=h)/\∀ (s:St) (n:Nat) (a:Act) (oper:Oper) (val:Bool),s.h=h->iC C s->oT L s->du n s fr a.tmps->
  vE C P oper val=some o->DY C P s (execOp a.eval oper) v h'
theorem Iv {oper:Oper}{val:Bool}{o:Vw}(h:vE C P oper val=some (.v o)):Wp C P oper val=some o:=by
 unfold vE at h;split at h
 ·rename_i h1;rw [h1];injection h with h;injection h with h;rw [h]
 ·split at h
  ·simp at h
  ·cases hc:HP C P oper val <;> simp [hc] at h
theorem Nh {oper:Oper}{val:Bool}{o:Lk}(h:vE C P oper val=some (.r o)):Rj C P oper=some o:=by
 unfold vE at h;split at h
 ·simp at h
 ·split at h
  ·rename_i h1;rw [h1];injection h with h;injection h with h;rw [h]
  ·cases hc:HP C P oper val <;> simp [hc] at h
theorem Iw {oper:Oper}{val:Bool}{o:TP}(h:vE C P oper val=some (.c o)):HP C P oper val=some o:=by
 unfold vE at h;split at h
 ·simp at h
 ·split at h
  ·simp at h
  ·cases hc:HP C P oper val with
   | none=>simp [hc] at h
   | some c=>simp [hc] at h;rw [h]
theorem zfl {L:az}{o:Vw}{h:O}{v:J}(hv:bp C fr o=some v):nN C P L (.v o) fr h v h:=by
 refine ⟨.refl _ _,fun _=>rfl,fun s n a oper val hh hs hL hf hc=>?_⟩;subst hh;exact (Js hs hf (Iv hc) hv).og.x
theorem zbW {oper:Oper}{f:FuncId}{as:List AO}(h:Rj C P oper=some (.call f as)):
  ∃ c:Call,oper.op=.call c/\c.callee=.value (.func f)/\Q9 C c.args.toList=some as:=by
 obtain ⟨dst,op,type,pos,after,guard⟩:=oper
 cases op <;> simp only [Rj] at h <;> first
  | (simp at h;done)
  | skip
 case load t x=>
  obtain ⟨z,hz,h⟩:=bind_some h;obtain ⟨g,hg,h⟩:=bind_some h;obtain ⟨y,hy,h⟩:=bind_some h;simp at h
 case convert src dst x=>
  split at h <;> first
   | (simp at h;done)
   | skip
  ·split at h
   ·obtain ⟨_,_,h⟩:=map_some h;cases h
   ·simp at h
  ·split at h
   ·split at h
    ·obtain ⟨_,_,h⟩:=map_some h;cases h
    ·simp at h
   ·simp at h
 case call c=>
  split at h
  ·rename_i f' hc;split at h
   ·obtain ⟨y,hy,h⟩:=map_some h;injection h with h1 h2
    subst h1 h2;exact ⟨c,rfl,hc,hy⟩
   ·simp at h
  ·split at h
   ·obtain ⟨y,hy,h⟩:=bind_some h;obtain ⟨z,hz,h⟩:=bind_some h
    cases h
   ·simp at h
  ·simp at h
theorem zfn {oper:Oper}{x:AO}{name:String}{as:List AO}(h:Rj C P oper=some (.inv x name as)):
  ∃ (c:Call) (x0:Operand),oper.op=.call c/\c.callee=.invoke x0 name/\co C x0=some x/\Q9 C c.args.toList=some as:=by
 obtain ⟨dst,op,type,pos,after,guard⟩:=oper
 cases op <;> simp only [Rj] at h <;> first
  | (simp at h;done)
  | skip
 case load t x=>
  obtain ⟨z,hz,h⟩:=bind_some h;obtain ⟨g,hg,h⟩:=bind_some h;obtain ⟨y,hy,h⟩:=bind_some h;simp at h
 case convert src dst x=>
  split at h <;> first
   | (simp at h;done)
   | skip
  ·split at h
   ·obtain ⟨_,_,h⟩:=map_some h;cases h
   ·simp at h
  ·split at h
   ·split at h
    ·obtain ⟨_,_,h⟩:=map_some h;cases h
    ·simp at h
   ·simp at h
 case call c=>
  split at h
  ·split at h
   ·obtain ⟨y,hy,h⟩:=map_some h
    cases h
   ·simp at h
  ·rename_i r nm hc;split at h
   ·obtain ⟨y,hy,h⟩:=bind_some h;obtain ⟨z,hz,h⟩:=bind_some h;have h:=sj h;injection h with h1 h2 h3
    subst h1 h2 h3;exact ⟨c,r,rfl,hc,hy,hz⟩
   ·simp at h
  ·simp at h
theorem zfo {oper:Oper}{c:Call}{f:FuncId}(ho:oper.op=.call c)(hc:c.callee=.value (.func f))(a:Act)(w:World):
  (execOp a.eval oper).run P w=(callFunc f (c.args.map a.eval)).run P w:=by
 simp only [execOp,ho,resolve,hc,Act.eval,Deferred.ofValue];simp [Sem.run_bind,invoke]
theorem DY.congr {m m':Sem Next}{v:J}{h':O}(h:DY C P s m v h')(e:m'.run P s.w=m.run P s.w):DY C P s m' v h':=by
 obtain ⟨nx,w',h1,h2⟩:=h;exact ⟨nx,w',e.trans h1,h2⟩
theorem Qt {L:az}{f:FuncId}{as:List AO}{h h':O}{v:J}(hk:ml C P L f (as.map (C.ev fr)) h v h'){s:St}{n:Nat}{a:Act}{oper:Oper}{c:Call}
  (hh:s.h=h) (hs:iC C s) (hL:oT L s) (hf:du n s fr a.tmps) (ho:oper.op=.call c) (hc:c.callee=.value (.func f)) (has:Q9 C c.args.toList=some as):
  DY C P s (execOp a.eval oper) v h':=
 (hk.2 s (c.args.map a.eval) hh hs hL (by simpa using pR hs hf has)).congr (zfo ho hc a s.w)
theorem zbX {oper:Oper}{val:Bool}{f:FuncId}{as:List AO}(h:HP C P oper val=some (.call f as)):
  ∃ c:Call,oper.op=.call c/\c.callee=.value (.func f)/\Q9 C c.args.toList=some as:=by
 obtain ⟨dst,op,type,pos,after,guard⟩:=oper
 cases op <;> simp only [HP] at h
 case call c=>
  split at h
  case h_4=>
   rename_i f' hc;obtain ⟨y,hy,h⟩:=map_some h;injection h with h1 h2
   subst h1 h2;exact ⟨c,rfl,hc,hy⟩
  all_goals (repeat' split at h) <;> simp [Option.bind_eq_some_iff,Option.bind_eq_bind] at h
 case makeSlice t l c=>
  obtain ⟨e,he,h⟩:=bind_some h;obtain ⟨sz,hsz,h⟩:=bind_some h;obtain ⟨z,hz,h⟩:=bind_some h;obtain ⟨y,hy,h⟩:=bind_some h;split at h
  ·cases h
  ·split at h
   ·obtain ⟨y2,hy2,h⟩:=bind_some h
    cases h
   ·cases h
 all_goals (repeat' split at h) <;> simp [Option.bind_eq_some_iff,Option.bind_eq_bind] at h
theorem Xq {oper:Oper}{val:Bool}{x:AO}{as:List AO}(h:HP C P oper val=some (.callv x as)):
  ∃ (c:Call) (x0:Operand),oper.op=.call c/\c.callee=.value x0/\co C x0=some x/\Q9 C c.args.toList=some as:=by
 obtain ⟨dst,op,type,pos,after,guard⟩:=oper
 cases op <;> simp only [HP] at h
 case call c=>
  split at h
  case h_5=>
   rename_i f' _ hc;obtain ⟨z,hz,h⟩:=bind_some h;obtain ⟨y,hy,h⟩:=bind_some h;injection h with h
   injection h with h1 h2
   subst h1 h2;exact ⟨c,f',rfl,hc,hz,hy⟩
  all_goals (repeat' split at h) <;> simp [Option.bind_eq_some_iff,Option.bind_eq_bind] at h
 case makeSlice t l c=>
  obtain ⟨e,he,h⟩:=bind_some h;obtain ⟨sz,hsz,h⟩:=bind_some h;obtain ⟨z,hz,h⟩:=bind_some h;obtain ⟨y,hy,h⟩:=bind_some h;split at h
  ·cases h
  ·split at h
   ·obtain ⟨y2,hy2,h⟩:=bind_some h
    cases h
   ·cases h
 all_goals (repeat' split at h) <;> simp [Option.bind_eq_some_iff,Option.bind_eq_bind] at h
theorem zft {oper:Oper}{val:Bool}{x:AO}{name:String}{as:List AO}(h:HP C P oper val=some (.inv x name as)):
  ∃ (c:Call) (x0:Operand),oper.op=.call c/\c.callee=.invoke x0 name/\co C x0=some x/\Q9 C c.args.toList=some as:=by
 obtain ⟨dst,op,type,pos,after,guard⟩:=oper
 cases op <;> simp only [HP] at h
 case call c=>
  split at h
  case h_6=>
   rename_i f' nm hc;obtain ⟨z,hz,h⟩:=bind_some h;obtain ⟨y,hy,h⟩:=bind_some h;injection h with h
   injection h with h1 h2 h3
   subst h1 h2 h3;exact ⟨c,f',rfl,hc,hz,hy⟩
  all_goals (repeat' split at h) <;> simp [Option.bind_eq_some_iff,Option.bind_eq_bind] at h
 case makeSlice t l c=>
  obtain ⟨e,he,h⟩:=bind_some h;obtain ⟨sz,hsz,h⟩:=bind_some h;obtain ⟨z,hz,h⟩:=bind_some h;obtain ⟨y,hy,h⟩:=bind_some h;split at h
  ·cases h
  ·split at h
   ·obtain ⟨y2,hy2,h⟩:=bind_some h
    cases h
   ·cases h
 all_goals (repeat' split at h) <;> simp [Option.bind_eq_some_iff,Option.bind_eq_bind] at h
theorem zbY {oper:Oper}{c:Call}{x0:Operand}(ho:oper.op=.call c)(hc:c.callee=.value x0){a:Act}{f:FuncId}{first cap:Array Value}(hx:a.eval x0=.func (.func f) first cap)(w:World):
  (execOp a.eval oper).run P w=(callFunc f (first++c.args.map a.eval++cap)).run P w:=by
 simp only [execOp,ho,resolve,hc,hx,Deferred.ofValue];simp [Sem.run_bind,invoke]
theorem Zp {oper:Oper}{c:Call}{x0:Operand}{name:String}(ho:oper.op=.call c)(hc:c.callee=.invoke x0 name){a:Act}{t:TypeId}{v r:Value}{f:FuncId}
  (hx:a.eval x0=.iface t v) {w:World} (hm:(method (P.types.size+Made.depth) t v name).run P w=.ok (f,r) w):
  (execOp a.eval oper).run P w=(callFunc f (#[r]++c.args.map a.eval)).run P w:=by
 simp only [execOp,ho,resolve,hc,hx];have h0:(#[Value.iface t v]++c.args.map a.eval)[0]?=some (Value.iface t v):=by rw [Array.getElem?_append_left (by simp)];rfl
 have h1:(#[Value.iface t v]++c.args.map a.eval).extract 1 (#[Value.iface t v]++c.args.map a.eval).size=c.args.map a.eval:=by simp
 simp only [Sem.run_bind,Sem.run_pure,Result.andThen_ok,invoke,h0,h1,callMethod,run_program,hm]
theorem Xu {L:az}{f:FuncId}{x:AO}{as:List AO}{first cap:List J}{h h':O}{v:J}(hx:C.ev fr x=.fn (.func f) first cap)
  (hk:ml C P L f (first++as.map (C.ev fr)++cap) h v h'):nN C P L (.c (.callv x as)) fr h v h':=by
 refine ⟨hk.1,by simp [xX],fun s n a oper val hh hs hL hf hc=>?_⟩;obtain ⟨c,x0,ho,hcc,h1,h2⟩:=Xq (Iw hc);have r1:=aC hs hf h1;rw [hx] at r1;generalize hb:a.eval x0=cx at r1
 cases r1 with
 | fn _ _ _ fa ca hfa hca=>
  refine (hk.2 s (fa++c.args.map a.eval++ca) hh hs hL ?_).congr (zbY ho hcc hb s.w);simp only [Array.toList_append,Array.toList_map];exact (hfa.append (pR hs hf h2)).append hca
theorem zfx (hC:Ku C P){L:az}{f:FuncId}{x:AO}{name:String}{as:List AO}{t:TypeId}{v0 r:J}{path:List (Nat × Nat × Bool)}{h h':O}{v:J}
  (hx:C.ev fr x=.iface t v0) (hm:C.meth t name=some (path,f)) (hr:gJ path v0=some r)
  (hk:ml C P L f (r :: as.map (C.ev fr)) h v h'):nN C P L (.c (.inv x name as)) fr h v h':=by
 refine ⟨hk.1,by simp [xX],fun s n a oper val hh hs hL hf hc=>?_⟩;obtain ⟨c,x0,ho,hcc,h1,h2⟩:=zft (Iw hc);have r1:=aC hs hf h1;rw [hx] at r1;generalize hb:a.eval x0=cx at r1
 cases r1 with
 | iface _ _ cv hv=>
  obtain ⟨cr,e1,e2⟩:=hC.meth t name path f hm s v0 cv r s.w hv hr;refine (hk.2 s (#[cr]++c.args.map a.eval) hh hs hL ?_).congr (Zp ho hcc hb e1);simp only [Array.toList_append,Array.toList_map];exact (aU.cons _ _ _ _ e2 .nil).append (pR hs hf h2)
theorem zl2 {L:az}{o:TP}{h h':O}{v:J}(hv:fU C L fr h o=some (v,h')):nN C P L (.c o) fr h v h':=by
 refine ⟨zdx hv,by simp [xX],fun s n a oper val hh hs hL hf hc=>?_⟩;subst hh;exact (zaJ hs hf hL (Iw hc) hv).x
theorem Xx {L:az}{f:FuncId}{as:List AO}{h h':O}{v:J}(hk:ml C P L f (as.map (C.ev fr)) h v h'):nN C P L (.c (.call f as)) fr h v h':=by
 refine ⟨hk.1,by simp [xX],fun s n a oper val hh hs hL hf hc=>?_⟩;obtain ⟨c,ho,hcc,h2⟩:=zbX (Iw hc);exact Qt hk hh hs hL hf ho hcc h2
theorem XB {L:az}{f:FuncId}{as:List AO}{h h':O}{v:J}(hk:ml C P L f (as.map (C.ev fr)) h v h')(he:h'=h):nN C P L (.r (.call f as)) fr h v h:=by
 subst he;refine ⟨hk.1,by simp [xX],fun s n a oper val hh hs hL hf hc=>?_⟩;obtain ⟨c,ho,hcc,h2⟩:=zbW (Nh hc);exact Qt hk hh hs hL hf ho hcc h2
theorem zb0 (hC:Ku C P){L:az}{f:FuncId}{x:AO}{name:String}{as:List AO}{t:TypeId}{v0 r:J}{path:List (Nat × Nat × Bool)}{h h':O}{v:J}
  (hx:C.ev fr x=.iface t v0) (hm:C.meth t name=some (path,f)) (hr:gJ path v0=some r)
  (hk:ml C P L f (r :: as.map (C.ev fr)) h v h') (he:h'=h):nN C P L (.r (.inv x name as)) fr h v h:=by
 subst he;refine ⟨hk.1,by simp [xX],fun s n a oper val hh hs hL hf hc=>?_⟩;obtain ⟨c,x0,ho,hcc,h1,h2⟩:=zfn (Nh hc);have r1:=aC hs hf h1;rw [hx] at r1;generalize hb:a.eval x0=cx at r1
 cases r1 with
 | iface _ _ cv hv=>
  obtain ⟨cr,e1,e2⟩:=hC.meth t name path f hm s v0 cv r s.w hv hr;refine (hk.2 s (#[cr]++c.args.map a.eval) hh hs hL ?_).congr (Zp ho hcc hb e1);simp only [Array.toList_append,Array.toList_map];exact (aU.cons _ _ _ _ e2 .nil).append (pR hs hf h2)
theorem zl4 {L:az}{o:Lk}{h:O}{v:J}(hv:H6 C fr h o=some v):nN C P L (.r o) fr h v h:=by
 refine ⟨.refl _ _,fun _=>rfl,fun s n a oper val hh hs hL hf hc=>?_⟩;subst hh;exact (zaD hs hf (Nh hc) hv).x
theorem zD {ops:Array Oper}{o:Oper}{g:Option (Nat × Bool)}(hs:iC C s)(hf:du n s fr a.tmps)(hg:zdE ops o.guard=some g)(hn:∀ t b,g=some (t,b)->t < n):
  Region.wanted o (yielded ops a.tmps)=cM fr g:=by
 unfold zdE at hg;unfold Region.wanted;split at hg
 ·rename_i h1;obtain rfl:=sj hg;simp [h1,cM]
 ·rename_i j b h1;split at hg
  ·rename_i t h2;obtain rfl:=sj hg;have ht:=hn t b rfl;have hr:=hf.2 t;have hge:a.tmps[t]?=some (a.tmps.getD t undef):=by
    rw [Array.getD_eq_getD_getElem?,Array.getElem?_eq_getElem (by rw [hf.1];exact ht)];rfl
   simp only [h1,cM,yielded,h2,Option.bind_some,hge];generalize a.tmps.getD t undef=cx at hr;generalize fr t=av at hr
   cases hr <;> simp
  ·simp at hg
end
end Go.Av
namespace Go.Av
section
variable {C:eD} {P:Program} {s:St} {n:Nat} {fr:Fr} {a:Act}
structure YA (C:eD) (P:Program) (n:Nat) (ops:Array Oper) (val:Bool) (o:Oper) (i:AI):Prop where
 op:vE C P o val=some i.op
 grd:zdE ops o.guard=some i.grd
 dst:i.dst=o.dst
 dlt:∀ d,o.dst=some d->d < n
 glt:∀ t b,i.grd=some (t,b)->t < n
theorem C3 {ops:Array Oper}{val:Bool}{o:Oper}{i:AI}(h:cop C P n ops val o=some i):YA C P n ops val o i:=by
 unfold cop at h;split at h
 ·rename_i x g h1 h2
  cases g with
  | none=>
   simp only [Bool.and_true] at h;split at h
   ·rename_i hd;obtain rfl:=sj h;exact ⟨h1,h2,rfl,fun d hd'=>by rw [hd'] at hd;simpa [zdG] using hd,fun t b hg=>by simp at hg⟩
   ·simp at h
  | some tb=>
   obtain ⟨t0,b0⟩:=tb;simp only [] at h;split at h
   ·rename_i hd;obtain rfl:=sj h;simp only [Bool.and_eq_true,decide_eq_true_eq] at hd;exact ⟨h1,h2,rfl,fun d hd'=>by have:=hd.1;rw [hd'] at this;simpa [zdG] using this,fun t b hg=>by simp at hg;omega⟩
   ·simp at h
 ·simp at h
theorem jH {ops:Array Oper}{val:Nat->Bool}:∀ {l:List Oper} {i:Nat} {is:List AI},qn C P n ops val i l=some is->
  is.length=l.length/\∀ (j:Nat) (x:AI),is[j]?=some x->∃ o,l[j]?=some o/\YA C P n ops (val (i+j)) o x
 | [],i,is,h=>by obtain rfl:=sj h;exact ⟨rfl,by simp⟩
 | o :: rest, i, is, h => by
  simp only [qn] at h;split at h
  ·rename_i x xs h1 h2;obtain rfl:=sj h;obtain ⟨e1,e2⟩:=jH h2;refine ⟨by simp [e1],fun j y hj=>?_⟩
   cases j with
   | zero=>simp at hj;subst hj;exact ⟨o,rfl,C3 h1⟩
   | succ j=>
    simp at hj;obtain ⟨o',p,q⟩:=e2 j y hj;exact ⟨o',by simpa using p,by rw [show i+(j+1)=i+1+j by omega];exact q⟩
  ·simp at h
def Gs (C:eD)(P:Program)(L:az)(is:List AI)(fr:Fr)(h:O)(fr':Fr)(h':O):Prop:=
 jO L h h'/\∀ (n:Nat) (ops:Array Oper) (val:Nat->Bool) (i:Nat),qn C P n ops val i (ops.toList.drop i)=some is->
  ∀ (s:St) (a:Act) (Q:Exit->Act->World->Prop),s.h=h->iC C s->oT L s->du n s fr a.tmps->
   (∀ (s':St) (a':Act),s'.h=h'->iC C s'->Le s s'->du n s' fr' a'.tmps->a'.defers=a.defers->Q .normal a' s'.w)->
   wpOps P ops Q (List.range' i (ops.size - i)) a s.w
theorem FI {α:Type}{l:List α}{i:Nat}{x:α}{r:List α}(h:l.drop i=x :: r):l[i]?=some x/\l.drop (i+1)=r/\i < l.length:=by
 have h0:l[i]?=some x:=by rw [<- List.head?_drop,h];rfl
 refine ⟨h0,?_,(List.getElem?_eq_some_iff.1 h0).1⟩;rw [<- List.tail_drop,h];rfl
theorem put_defers (a:Act)(d:Option Tmp)(v:Value):(a.put d v).defers=a.defers:=by cases d <;> rfl
theorem zde {L:az}{h:O}:Gs C P L [] fr h fr h:=by
 refine ⟨.refl _ _,fun n ops val i hc s a Q hh hs hL hf hQ=>?_⟩;have hlen:=(jH hc).1;have:ops.size - i=0:=by simpa using hlen.symm
 rw [this];exact hQ s a hh hs (.refl s) hf rfl
theorem zaz {L:az}{ai:AI}{rest:List AI}{h h1 h2:O}{v:J}{fr2:Fr}(hw:cM fr ai.grd=true)(hst:nN C P L ai.op fr h v h1)
  (hr:Gs C P L rest (put fr ai.dst v) h1 fr2 h2):Gs C P L (ai :: rest) fr h fr2 h2:=by
 refine ⟨hst.1.trans hr.1,fun n ops val i hc s a Q hh hs hL hf hQ=>?_⟩
 cases hd:ops.toList.drop i with
 | nil=>rw [hd] at hc;simp [qn] at hc
 | cons o l=>
  rw [hd] at hc;simp only [qn] at hc;split at hc
  ·rename_i x xs h3 h4;injection hc with hc
   injection hc with e1 e2
   subst e1 e2;have sp:=C3 h3;obtain ⟨g1,g2,g3⟩:=FI hd;have g1':ops[i]?=some o:=by simpa using g1
   have g3':i < ops.size:=by simpa using g3
   rw [show ops.size - i=(ops.size - (i+1))+1 by omega,List.range'_succ,wpOps_cons];unfold wpOp;simp only [g1'];rw [if_pos (by rw [zD hs hf sp.grd sp.glt];exact hw)]
   left
   refine (hst.2.2 s n a o _ hh hs hL hf sp.op).wp fun cv w' hg=>?_;obtain ⟨s1,e1,e2,k1,k2,k3⟩:=hg;subst e1;refine hr.2 n ops val (i+1) (by rw [g2];exact h4) s1 _ Q e2 k1 (hL.le k2 hs k1) ?_ fun s' a' q1 q2 q3 q4 q5=>hQ s' a' q1 q2 (k2.trans q3) q4 (q5.trans (put_defers _ _ _));rw [<- sp.dst];exact (hf.le k2).put (fun d hd=>sp.dlt d (sp.dst ▸ hd)) k3
  ·simp at hc
theorem zbR {L:az}{ai:AI}{rest:List AI}{h h2:O}{fr2:Fr}(hw:cM fr ai.grd=false)
  (hr:Gs C P L rest (put fr ai.dst ba) h fr2 h2):Gs C P L (ai :: rest) fr h fr2 h2:=by
 refine ⟨hr.1,fun n ops val i hc s a Q hh hs hL hf hQ=>?_⟩
 cases hd:ops.toList.drop i with
 | nil=>rw [hd] at hc;simp [qn] at hc
 | cons o l=>
  rw [hd] at hc;simp only [qn] at hc;split at hc
  ·rename_i x xs h3 h4;injection hc with hc
   injection hc with e1 e2
   subst e1 e2;have sp:=C3 h3;obtain ⟨g1,g2,g3⟩:=FI hd;have g1':ops[i]?=some o:=by simpa using g1
   have g3':i < ops.size:=by simpa using g3
   rw [show ops.size - i=(ops.size - (i+1))+1 by omega,List.range'_succ,wpOps_cons];unfold wpOp;simp only [g1'];rw [if_neg (by rw [zD hs hf sp.grd sp.glt,hw];simp)];refine hr.2 n ops val (i+1) (by rw [g2];exact h4) s _ Q hh hs hL ?_ fun s' a' q1 q2 q3 q4 q5=>hQ s' a' q1 q2 q3 q4 (q5.trans (put_defers _ _ _));rw [<- sp.dst];exact hf.put (fun d hd=>sp.dlt d (sp.dst ▸ hd)) (dH.undef s)
  ·simp at hc
def isV:Wk->Bool
 | .v _=>true
 | _=>false
def Si (C:eD)(P:Program)(L:az)(o:Wk)(fr:Fr)(h:O)(v:J)(h':O):Prop:=
 nN C P L o fr h v h'/\(isV o=true->∀ h0,nN C P L o fr h0 v h0)
def cnt (is:List AI)(j:Nat):Nat:=(is.take j).countP fun i=>xX i.op
structure mu (C:eD) (P:Program) (L:az) (is:List AI) (fr:Fr) (h:O) (frE:Fr) (hs:List O) (vs:List J) (FR:Nat->Fr) (H:Nat->O):Prop where
 fr0:FR 0=fr
 frE:FR is.length=frE
 lv:vs.length=is.length
 lh:hs.length=cnt is is.length
 hp:∀ j,j<=is.length->(h :: hs)[cnt is j]?=some (H j)
 st:∀ j i v,is[j]?=some i->vs[j]?=some v->FR (j+1)=put (FR j) i.dst v/\jO L (H j) (H (j+1))/\
  (cM (FR j) i.grd=true->Si C P L i.op (oU i.use (FR j)) (H j) v (H (j+1)))/\
  (cM (FR j) i.grd=false->v=ba/\H (j+1)=H j)
def G9 (C:eD)(P:Program)(L:az)(is:List AI)(fr:Fr)(h:O)(frE:Fr)(hs:List O)(vs:List J):Prop:=
 ∃ FR H,mu C P L is fr h frE hs vs FR H
theorem zfT {L:az}{h:O}:G9 C P L [] fr h fr [] []:=
 ⟨fun _=>fr,fun _=>h,rfl,rfl,rfl,rfl,fun j hj=>by obtain rfl:=Nat.le_zero.1 hj;rfl,fun j i v hi=>by simp at hi⟩
def shf {α:Type}(x:α)(f:Nat->α):Nat->α
 | 0=>x
 | j+1=>f j
theorem IA (i:AI)(is:List AI)(j:Nat):cnt (i :: is) (j+1)=cnt is j+(if xX i.op then 1 else 0):=by
 simp [cnt,List.countP_cons]
theorem QC {L:az}{ai:AI}{rest:List AI}{h h1:O}{v:J}{frE:Fr}{hs:List O}{vs:List J}{hs':List O}(hi:jO L h h1)
  (hw:cM fr ai.grd=true->Si C P L ai.op (oU ai.use fr) h v h1) (hn:cM fr ai.grd=false->v=ba/\h1=h)
  (hc:xX ai.op=false->h1=h) (he:hs'=if xX ai.op then h1 :: hs else hs)
  (hr:G9 C P L rest (put fr ai.dst v) h1 frE hs vs):G9 C P L (ai :: rest) fr h frE hs' (v :: vs):=by
 obtain ⟨FR,H,r⟩:=hr;refine ⟨shf fr FR,shf h H,rfl,r.frE,by simp [r.lv],?_,fun j hj=>?_,fun j i x hi' hx=>?_⟩
 ·subst he;rw [List.length_cons,IA,<- r.lh]
  cases xX ai.op <;> simp
 ·subst he
  cases j with
  | zero=>simp [cnt,shf]
  | succ j=>
   have:=r.hp j (by simpa using hj);rw [IA]
   cases hcc:xX ai.op with
   | true=>simpa [hcc,shf] using this
   | false=>rw [hc hcc] at this;simpa [hcc,shf] using this
 ·cases j with
  | zero=>
   simp at hi' hx;subst hi' hx;have h0:H 0=h1:=by
    have:=r.hp 0 (Nat.zero_le _);simpa [cnt] using this.symm
   refine ⟨r.fr0,?_,?_,?_⟩
   ·simpa [shf,h0] using hi
   ·simpa [shf,h0] using hw
   ·simpa [shf,h0] using hn
  | succ j=>
   simp at hi' hx;exact r.st j i x hi' hx
def wg (C:eD)(P:Program)(L:az)(is:List AI)(vs:List J)(fr:Fr)(hs:List O):Prop:=
 ∀ FR:Nat->Fr,FR 0=fr->(∀ j i v,is[j]?=some i->vs[j]?=some v->FR (j+1)=put (FR j) i.dst v)->
  ∀ j i v o,is[j]?=some i->vs[j]?=some v->i.op=.r o->cM (FR j) i.grd=true->i.lo < i.hi->
   ∀ k h,i.lo<=k->k<=i.hi->hs[k]?=some h->nN C P L (.r o) (oU i.use (FR j)) h v h
theorem zfZ {L:az}{vs:List J}{hs:List O}:wg C P L [] vs fr hs:=fun _ _ _ j i v o hi=>by simp at hi
theorem JW {L:az}{ai:AI}{rest:List AI}{v:J}{vs:List J}{hs:List O}
  (h0:∀ o,ai.op=.r o->cM fr ai.grd=true->ai.lo < ai.hi->∀ k h,ai.lo<=k->k<=ai.hi->hs[k]?=some h->nN C P L (.r o) (oU ai.use fr) h v h)
  (hr:wg C P L rest vs (put fr ai.dst v) hs):wg C P L (ai :: rest) (v :: vs) fr hs:=by
 intro FR hF hst j i x o hi hx ho hw hlt k h hk1 hk2 hk
 cases j with
 | zero=>
  simp at hi hx;subst hi hx;rw [hF] at hw |-;exact h0 o ho hw hlt k h hk1 hk2 hk
 | succ j=>
  simp at hi hx;exact hr (fun j=>FR (j+1)) (by simpa [hF] using hst 0 ai v rfl rfl) (fun j i v h1 h2=>hst (j+1) i v (by simpa using h1) (by simpa using h2)) j i x o hi hx ho hw hlt k h hk1 hk2 hk
def Fits (is:List AI)(vs:List J)(fr:Fr)(S:Nat->Prop)(X:Fr):Prop:=
 ∀ t,(∃ (j:Nat) (i:AI) (v:J),S j/\is[j]?=some i/\vs[j]?=some v/\i.dst=some t/\(∀ (j':Nat) (i':AI),S j'->j < j'->is[j']?=some i'->i'.dst≠some t)/\X t=v)\/
  ((∀ (j':Nat) (i':AI),S j'->is[j']?=some i'->i'.dst≠some t)/\X t=fr t)
theorem Fits.nil {is:List AI}{vs:List J}{S:Nat->Prop}(h:∀ j,¬S j):Fits is vs fr S fr:=fun t=>.inr ⟨fun j' _ hj=>(h j' hj).elim,rfl⟩
theorem Fits.put {is:List AI}{vs:List J}{S S':Nat->Prop}{X:Fr}{j:Nat}{i:AI}{v:J}(hf:Fits is vs fr S X)(hi:is[j]?=some i)(hv:vs[j]?=some v)
  (hS:∀ k,S' k↔(S k\/k=j)) (hl:∀ (j':Nat) (i':AI) d,S j'->j < j'->is[j']?=some i'->i.dst=some d->i'.dst≠some d):Fits is vs fr S' (put X i.dst v):=by
 intro t;by_cases e:i.dst=some t
 ·left
  refine ⟨j,i,v,(hS j).2 (.inr rfl),hi,hv,e,fun j' i' hs hlt hi'=>?_,?_⟩
  ·rcases (hS j').1 hs with h | h
   ·exact hl j' i' t h hlt hi' e
   ·omega
  ·simp [Av.put,e,HN]
 ·have hX:Av.put X i.dst v t=X t:=by
   cases hd:i.dst with
   | none=>rfl
   | some d=>
    have:t≠d:=fun h=>e (by rw [hd,h]);simp [Av.put,HN,this]
  rw [hX];rcases hf t with ⟨j0,i0,v0,h1,h2,h3,h4,h5,h6⟩ | ⟨h1,h2⟩
  ·left
   refine ⟨j0,i0,v0,(hS j0).2 (.inl h1),h2,h3,h4,fun j' i' hs hlt hi'=>?_,h6⟩;rcases (hS j').1 hs with h | h
   ·exact h5 j' i' h hlt hi'
   ·subst h;rw [hi] at hi';obtain rfl:=sj hi';exact e
  ·right
   refine ⟨fun j' i' hs hi'=>?_,h2⟩;rcases (hS j').1 hs with h | h
   ·exact h1 j' i' h hi'
   ·subst h;rw [hi] at hi';obtain rfl:=sj hi';exact e
theorem Fits.agree {is:List AI}{vs:List J}{S S':Nat->Prop}{X Y:Fr}(h:Fits is vs fr S X)(h':Fits is vs fr S' Y){t:Nat}
  (he:∀ (j:Nat) (i:AI),is[j]?=some i->i.dst=some t->(S j↔S' j)):X t=Y t:=by
 rcases h t with ⟨j,i,v,a1,a2,a3,a4,a5,a6⟩ | ⟨a1,a2⟩ <;> rcases h' t with ⟨j',i',v',b1,b2,b3,b4,b5,b6⟩ | ⟨b1,b2⟩
 ·have:j=j':=by
   rcases Nat.lt_trichotomy j j' with hlt | heq | hlt
   ·exact (a5 j' i' ((he j' i' b2 b4).2 b1) hlt b2 b4).elim
   ·exact heq
   ·exact (b5 j i ((he j i a2 a4).1 a1) hlt a2 a4).elim
  subst this;rw [a3] at b3;rw [a6,b6,sj b3]
 ·exact (b1 j i ((he j i a2 a4).1 a1) a2 a4).elim
 ·exact (a1 j' i' ((he j' i' b2 b4).2 b1) b2 b4).elim
 ·rw [a2,b2]
theorem mu.fits {L:az}{is:List AI}{h:O}{frE:Fr}{hs:List O}{vs:List J}{FR:Nat->Fr}{H:Nat->O}(r:mu C P L is fr h frE hs vs FR H):
  ∀ j,j<=is.length->Fits is vs fr (fun k=>k < j) (FR j)
 | 0,_=>by rw [r.fr0];exact .nil (by omega)
 | j + 1, hj => by
  have hi:=List.getElem?_eq_getElem (l:=is) (i:=j) (by omega);have hv:=List.getElem?_eq_getElem (l:=vs) (i:=j) (by rw [r.lv];omega);rw [(r.st j _ _ hi hv).1];exact (r.fits j (by omega)).put hi hv (fun k=>by omega) (fun j' i' d h1 h2=>by omega)
end
end Go.Av
namespace Go.Av
def Nq (acc:List Nat)(o:Oper):List Nat:=
 acc++[o.after.foldl (fun s e=>if Region.binds .any e then s|||2 ^ e.on|||acc.getD e.on 0 else s) 0]
theorem G8 (l:List Oper):aq l=l.foldl Nq []:=rfl
theorem YZ:∀ (l:List Oper) (acc:List Nat),∃ t,l.foldl Nq acc=acc++t/\t.length=l.length
 | [],acc=>⟨[],by simp,rfl⟩
 | o :: l, acc => by
  obtain ⟨t,e1,e2⟩:=YZ l (Nq acc o);exact ⟨[_]++t,by rw [List.foldl_cons,e1];exact List.append_assoc _ _ _,by simp [e2]⟩
theorem P1 (acc:List Nat)(i:Nat):∀ (es:List Edge) (s:Nat),
  (es.foldl (fun s e => if Region.binds .any e then s ||| 2 ^ e.on ||| acc.getD e.on 0 else s) s).testBit i = true ->
   s.testBit i=true\/∃ e∈es,Region.binds .any e=true/\(i=e.on\/(acc.getD e.on 0).testBit i=true)
 | [],s,h=>.inl h
 | e :: es, s, h => by
  rw [List.foldl_cons] at h;rcases P1 acc i es _ h with h | ⟨e',h1,h2,h3⟩
  ·split at h
   ·rename_i hb;simp only [Nat.testBit_or,Nat.testBit_two_pow,Bool.or_eq_true,decide_eq_true_eq] at h;rcases h with (h | h) | h
    ·exact .inl h
    ·exact .inr ⟨e,by simp,hb,.inl h.symm⟩
    ·exact .inr ⟨e,by simp,hb,.inr h⟩
   ·exact .inl h
  ·exact .inr ⟨e',by simp [h1],h2,h3⟩
theorem D9 {l:List Oper}{j i:Nat}(h:fp (aq l) j i=true):∃ o,l[j]?=some o/\∃ e∈o.after,Region.binds .any e=true/\
  (i=e.on\/(e.on < j/\fp (aq l) e.on i=true)):=by
 have hlen:(aq l).length=l.length:=by
  obtain ⟨t,e1,e2⟩:=YZ l [];rw [G8,e1];simpa using e2
 by_cases hj:j < l.length
 ·refine ⟨l[j],List.getElem?_eq_getElem hj,?_⟩;have hsplit:l=l.take j++l[j] :: l.drop (j+1):=by
   rw [<- List.drop_eq_getElem_cons hj,List.take_append_drop]
  obtain ⟨t1,a1,a2⟩:=YZ (l.take j) [];have hb:aq (l.take j)=t1:=by rw [G8,a1];rfl
  have hl1:t1.length=j:=by rw [a2,List.length_take];omega
  obtain ⟨t2,b1,b2⟩:=YZ (l.drop (j+1)) (Nq t1 l[j]);have hfull:aq l=Nq t1 l[j]++t2:=by
   conv=>lhs;rw [hsplit]
   rw [G8,List.foldl_append,a1,List.nil_append,List.foldl_cons,b1]
  have hget : (aq l).getD j 0 = (l[j].after).foldl (fun s e => if Region.binds .any e then s ||| 2 ^ e.on ||| t1.getD e.on 0 else s) 0 := by
   rw [hfull];simp only [Nq,List.append_assoc,List.getD_eq_getElem?_getD];rw [List.getElem?_append_right (by omega),hl1,Nat.sub_self];rfl
  unfold fp at h;rw [hget,<- Array.foldl_toList] at h;rcases P1 t1 i _ _ h with h | ⟨e,h1,h2,h3⟩
  ·simp at h
  ·refine ⟨e,by simpa using h1,h2,h3.imp id fun h3=>?_⟩;have hlt:e.on < j:=by
    rcases Nat.lt_or_ge e.on j with h | h
    ·exact h
    ·rw [List.getD_eq_getElem?_getD,List.getElem?_eq_none (by omega)] at h3;simp at h3
   refine ⟨hlt,?_⟩;unfold fp;rw [hfull];simp only [Nq,List.append_assoc];rw [List.getD_eq_getElem?_getD,List.getElem?_append_left (by omega),<- List.getD_eq_getElem?_getD];exact h3
 ·unfold fp at h;rw [List.getD_eq_getElem?_getD,List.getElem?_eq_none (by omega)] at h;simp at h
section
variable {C:eD} {P:Program} {s:St} {n:Nat} {fr:Fr} {a:Act}
structure lR (ops:Array Oper) (bs:List Nat) (is:List AI):Prop where
 back:∀ j o,ops[j]?=some o->∀ e∈o.after,Region.binds .any e=true->e.on < j
 cs:∀ i j a b,is[i]?=some a->is[j]?=some b->xX a.op=true->xX b.op=true->i < j->fp bs j i=true
 tm:∀ i j a b d,ops[j]?=some a->ops[i]?=some b->i≠j->a.dst=some d->(b.dst=some d\/d∈Au ops b)->if i < j then fp bs j i=true else fp bs i j=true
theorem xv {α:Type}{l:List α}{p:α × Nat->Bool}(h:l.zipIdx.all p=true){x:α}{i:Nat}(hi:l[i]?=some x):p (x,i)=true:=
 List.all_eq_true.1 h (x,i) (List.mk_mem_zipIdx_iff_getElem?.2 hi)
theorem Dy {ops:Array Oper}{bs:List Nat}{is:List AI}(h:GH ops bs is=true):lR ops bs is:=by
 unfold GH at h;simp only [Bool.and_eq_true] at h;obtain ⟨⟨h1,h2⟩,h3⟩:=h;refine ⟨fun j o ho e he hb=>?_,fun i j a b ha hb ca cb hlt=>?_,fun i j a b d ha hb hne hd hx=>?_⟩
 ·have:=xv h1 (x:=o) (i:=j) (by simpa using ho);simp only [List.all_eq_true] at this;have:=this e (by simpa using he);simpa [hb] using this
 ·have:=xv h2 hb;simp only [] at this;have:=xv this ha;simpa [ca,cb,hlt] using this
 ·have:=xv h3 (x:=a) (i:=j) (by simpa using ha);simp only [] at this;have:=xv this (x:=b) (i:=i) (by simpa using hb);simp only [hd] at this;have hc:(b.dst==some d||(Au ops b).contains d)=true:=by
   rcases hx with hx | hx
   ·simp [hx]
   ·simp [hx]
  rw [hc] at this;have hne':(i==j)=false:=by simpa using hne
  simp only [hne',Bool.not_true,Bool.or_false,Bool.false_or] at this
  split at this <;> rename_i hlt
  ·rw [if_pos hlt];exact this
  ·rw [if_neg hlt];exact this
theorem zeq {ops:Array Oper}{is:List AI}(hd:lR ops (aq ops.toList) is):∀ j i,fp (aq ops.toList) j i=true->i < j:=by
 intro j
 induction j using Nat.strongRecOn with
 | _ j ih=>
  intro i h;obtain ⟨o,ho,e,he,hb,hx⟩:=D9 h;rcases hx with rfl | ⟨h1,h2⟩
  ·exact hd.back j o (by simpa using ho) e he hb
  ·have:=ih _ h1 _ h2;omega
def BQ (is:List AI)(p:Nat->Bool):Nat:=(is.zipIdx.filter fun (c,k)=>xX c.op&&p k).length
theorem zg {is:List AI}{p q:Nat->Bool}(h:∀ k c,is[k]?=some c->xX c.op=true->p k=true->q k=true):BQ is p<=BQ is q:=by
 unfold BQ;rw [<- List.countP_eq_length_filter,<- List.countP_eq_length_filter];refine List.countP_mono_left fun x hx hp=>?_;obtain ⟨c,k⟩:=x;simp only [Bool.and_eq_true] at hp |-;exact ⟨hp.1,h k c (List.mk_mem_zipIdx_iff_getElem?.1 hx) hp.1 hp.2⟩
theorem pS {is:List AI}{p q:Nat->Bool}(h:∀ k c,is[k]?=some c->xX c.op=true->p k=q k):BQ is p=BQ is q:=
 Nat.le_antisymm (zg fun k c a b e=>(h k c a b) ▸ e) (zg fun k c a b e=>(h k c a b).symm ▸ e)
theorem Kl : ∀ (is : List AI) (o j : Nat), ((is.zipIdx o).filter fun (c, k) => xX c.op && decide (k < o + j)).length = (is.take j).countP fun i => xX i.op
 | [],o,j=>by simp
 | i :: is, o, 0 => by
  simp only [List.take_zero,List.countP_nil,List.length_eq_zero_iff,List.filter_eq_nil_iff];intro x hx;obtain ⟨c,k⟩:=x;have:=List.le_snd_of_mem_zipIdx hx;simp only [] at this |-;simp;omega
 | i :: is, o, j + 1 => by
  have ih:=Kl is (o+1) j;rw [List.zipIdx_cons,List.filter_cons,List.take_succ_cons,List.countP_cons];simp only [show o+(j+1)=o+1+j by omega] at*;rw [show decide (o < o+1+j)=true by simp;omega,Bool.and_true,<- ih]
  cases xX i.op <;> simp
theorem EG (is : List AI)(j : Nat) : BQ is (fun k => decide (k < j)) = cnt is j := by
 have:=Kl is 0 j;simpa [BQ,cnt] using this
theorem EI {ops:Array Oper}{bs:List Nat}{is:List AI}{j:Nat}{x:AI}(h:(eU ops bs is)[j]?=some x):∃ y,is[j]?=some y/\x.op=y.op/\x.dst=y.dst/\x.grd=y.grd/\x.use=TY ops j/\
  (∀ o,x.op=.r o->x.lo=BQ is (fun k=>fp bs j k)/\x.hi=BQ is (fun k=>!fp bs k j)):=by
 unfold eU at h;rw [List.getElem?_map] at h
 cases hy:is[j]? with
 | none=>simp [hy] at h
 | some y=>
  rw [List.getElem?_zipIdx,hy] at h;simp only [Option.map_some,Nat.zero_add] at h;have h:=sj h;subst h;refine ⟨y,rfl,?_⟩
  cases ho:y.op <;> simp [ho,BQ]
theorem iJ (ops:Array Oper)(bs:List Nat)(is:List AI):(eU ops bs is).length=is.length:=by simp [eU]
theorem ML {ops:Array Oper}{bs:List Nat}{is:List AI}{j:Nat}{y:AI}(h:is[j]?=some y):∃ x,(eU ops bs is)[j]?=some x:=by
 have:=(List.getElem?_eq_some_iff.1 h).1;exact ⟨_,List.getElem?_eq_getElem (by rw [iJ];exact this)⟩
theorem P2:∀ {is is':List AI} (j:Nat),is.length=is'.length->(∀ (k:Nat) x y,is[k]?=some x->is'[k]?=some y->xX x.op=xX y.op)->cnt is j=cnt is' j
 | [],[],_,_,_=>by simp [cnt]
 | [],_ :: _,_,h,_=>by simp at h
 | _ :: _,[],_,h,_=>by simp at h
 | _ :: _,_ :: _,0,_,_=>rfl
 | x :: is, y :: is', j + 1, h, hk => by
  rw [IA,IA,hk 0 x y rfl rfl,P2 (is:=is) (is':=is') j (by simpa using h) fun k x y h1 h2=>hk (k+1) x y (by simpa using h1) (by simpa using h2)]
theorem P3 (ops:Array Oper)(bs:List Nat)(is:List AI)(j:Nat):cnt (eU ops bs is) j=cnt is j:=by
 refine P2 j (iJ ops bs is) fun k x y h1 h2=>?_;obtain ⟨y',e1,e2,_⟩:=EI h1;rw [h2] at e1;obtain rfl:=sj e1;rw [e2]
def MM (use:List Nat)(tmps:Array Value):Array Value:=Array.ofFn (n:=tmps.size) fun i=>if use.contains i.val then tmps.getD i.val undef else undef
theorem P4 (use:List Nat)(tmps:Array Value)(t:Nat):(MM use tmps).getD t undef=if use.contains t then tmps.getD t undef else undef:=by
 rw [Array.getD_eq_getD_getElem?,Array.getD_eq_getD_getElem?];unfold MM;by_cases hi:t < tmps.size
 ·rw [Array.getElem?_ofFn,dif_pos hi];simp only [Option.getD_some,Array.getD_eq_getD_getElem?]
 ·rw [Array.getElem?_ofFn,dif_neg hi,Array.getElem?_eq_none (by omega)];simp
theorem zer {use:List Nat}{tmps:Array Value}(hf:du n s fr tmps):du n s (oU use fr) (MM use tmps):=by
 refine ⟨by simp [MM,hf.1],fun i=>?_⟩;rw [P4];unfold oU;split
 ·exact hf.2 i
 ·exact dH.undef s
theorem zbA {use:List Nat}{x:Operand}(h:∀ t,x=.tmp t->t∈use):({a with tmps:=MM use a.tmps}:Act).eval x=a.eval x:=by
 cases x with
 | tmp t=>
  have ht:=h t rfl;simp only [Act.eval];rw [P4];simp [ht]
 | _=>rfl
theorem WW {o:Oper}{val:Bool}{x:Wk}(h:vE C P o val=some x):∀ cs b,o.op≠.select cs b:=by
 intro cs b e;unfold vE Wp Rj HP at h;simp [e] at h
end
end Go.Av
namespace Go.Av
section
variable {C:eD} {P:Program} {s:St} {n:Nat} {fr:Fr} {a:Act}
def py (listed:Array Bool)(k:Nat):Bool:=listed.getD k false
theorem EF {listed:Array Bool}{i:Nat}(hi:i < listed.size)(k:Nat):py (listed.setIfInBounds i true) k=(py listed k||decide (k=i)):=by
 unfold py;by_cases e:k=i
 ·subst e;simp [Array.getD_eq_getD_getElem?,hi]
 ·rw [getD_set_ne false (Ne.symm e)];simp [e]
theorem xp {listed:Array Bool}{i:Nat}(h:listed.getD i true=false):py listed i=false/\i < listed.size:=by
 unfold py;by_cases hi:i < listed.size
 ·simp [Array.getD_eq_getD_getElem?,hi] at h |-;exact h
 ·simp [Array.getD_eq_getD_getElem?,Array.getElem?_eq_none (Nat.not_lt.1 hi)] at h
theorem RG {listed:Array Bool}{i:Nat}(hi:i < listed.size)(h:py listed i=false):listed.getD i true=false:=by
 unfold py at h;simp [Array.getD_eq_getD_getElem?,hi] at h |-;exact h
def left (listed:Array Bool):Nat:=listed.toList.count false
theorem tL {listed:Array Bool}{i:Nat}(h:listed.getD i true=false):left (listed.setIfInBounds i true)+1=left listed:=by
 obtain ⟨h1,h2⟩:=xp h;unfold left;have hg:listed.toList[i]?=some false:=by
  have:listed[i]?=some false:=by
   rw [Array.getElem?_eq_getElem h2];unfold py at h1;simp [Array.getD_eq_getD_getElem?,h2] at h1;simp [h1]
  simpa using this
 have hlt:i < listed.toList.length:=by simpa using h2
 have hge:listed.toList[i]=false:=by rw [List.getElem?_eq_getElem hlt] at hg;exact sj hg
 rw [Array.toList_setIfInBounds,List.count_set hlt,hge];have:0 < listed.toList.count false:=List.count_pos_iff.2 (hge ▸ List.getElem_mem hlt);simp only [beq_self_eq_true,if_true];rw [if_neg (by simp)];omega
variable {L:az} {ops:Array Oper} {val:Nat->Bool} {is0:List AI} {h:O} {frE:Fr} {hs:List O} {vs:List J} {FR:Nat->Fr} {H:Nat->O} {Q:Exit->Act->World->Prop}
structure AP (C:eD) (P:Program) (n:Nat) (ops:Array Oper) (is0:List AI) (fr:Fr) (h:O) (hs:List O) (vs:List J) (s:St) (a:Act)
  (listed:Array Bool) (s1:St) (a1:Act) (X:Fr):Prop where
 sz:listed.size=ops.size
 cl:∀ j,py listed j=true->∀ i,fp (aq ops.toList) j i=true->py listed i=true
 ft:Fits (eU ops (aq ops.toList) is0) vs fr (fun k=>py listed k=true) X
 sim:iC C s1
 le:Le s s1
 rep:du n s1 X a1.tmps
 df:a1.defers=a.defers
 hp:(h :: hs)[BQ is0 (py listed)]?=some s1.h
theorem nD {listed:Array Bool}{i:Nat}(hi:i∈Region.ready .any ops listed):listed.getD i true=false/\∃ o,ops[i]?=some o/\∀ e∈o.after,Region.binds .any e=true->py listed e.on=true:=
 mem_ready.1 hi
theorem MQ {listed:Array Bool}{bs:List Nat}{is:List AI}(hd:lR ops bs is)(hsz:listed.size=ops.size)(hr:Region.ready .any ops listed=[]):∀ j,j < ops.size->py listed j=true:=by
 intro j
 induction j using Nat.strongRecOn with
 | _ j ih=>
  intro hj
  cases hl:py listed j with
  | true=>rfl
  | false=>
   have : j ∈ Region.ready .any ops listed := mem_ready.2 ⟨RG (by omega) hl, ops[j], Array.getElem?_eq_getElem hj, fun e he hb => by
    have:=hd.back j _ (Array.getElem?_eq_getElem hj) e he hb;exact ih _ this (by omega)⟩
   rw [hr] at this;simp at this
theorem MR {α:Type}:∀ (l:List α) (x:α),(x :: l)[l.length]?=some (l.getLastD x)
 | [],x=>rfl
 | y :: l, x => by
  rw [List.length_cons,List.getElem?_cons_succ,MR l y,List.getLastD_cons]
theorem H9 (hc:qn C P n ops val 0 ops.toList=some is0)(hd:lR ops (aq ops.toList) is0)
  (r:mu C P L (eU ops (aq ops.toList) is0) fr h frE hs vs FR H) {listed:Array Bool} {s1:St} {a1:Act} {X:Fr}
  (hQ:∀ (s':St) (a':Act),s'.h=hs.getLastD h->iC C s'->Le s s'->du n s' frE a'.tmps->a'.defers=a.defers->Q .normal a' s'.w)
  (A:AP C P n ops is0 fr h hs vs s a listed s1 a1 X) (hr:Region.ready .any ops listed=[]):Q .normal a1 s1.w:=by
 have hall:=MQ hd A.sz hr;have hlen:is0.length=ops.size:=by have:=(jH hc).1;simpa using this
 have hX:X=frE:=by
  funext t
  rw [<- r.frE];refine A.ft.agree (r.fits _ (Nat.le_refl _)) fun j i hj _=>?_;have hlt:=(List.getElem?_eq_some_iff.1 hj).1;rw [iJ,hlen] at hlt;rw [iJ,hlen];exact ⟨fun _=>hlt,fun _=>hall j hlt⟩
 refine hQ s1 a1 ?_ A.sim A.le (hX ▸ A.rep) A.df;have hn:BQ is0 (py listed)=hs.length:=by
  rw [r.lh,iJ,P3,<- EG];refine pS fun k c hk _=>?_;have hlt:=(List.getElem?_eq_some_iff.1 hk).1;rw [hall k (by omega)];simp [hlt]
 have:=A.hp;rw [hn] at this;rw [MR] at this;exact (sj this).symm
theorem EL (hc:qn C P n ops val 0 ops.toList=some is0)(hd:lR ops (aq ops.toList) is0)
  (r:mu C P L (eU ops (aq ops.toList) is0) fr h frE hs vs FR H) (hk:wg C P L (eU ops (aq ops.toList) is0) vs fr (h :: hs))
  (hL:oT L s) (hs0:iC C s) {listed:Array Bool} {s1:St} {a1:Act} {X:Fr} {i:Nat} {K:Act->World->Prop} (A:AP C P n ops is0 fr h hs vs s a listed s1 a1 X)
  (hi:i∈Region.ready .any ops listed) (hK:∀ (s2:St) (a2:Act) (X2:Fr),AP C P n ops is0 fr h hs vs s a (listed.setIfInBounds i true) s2 a2 X2->K a2 s2.w):wpOp P ops Q i K a1 s1.w:=by
 obtain ⟨hl0,o,ho,hall⟩:=nD hi;obtain ⟨hnl,hlt⟩:=xp hl0;have hlen:is0.length=ops.size:=by have:=(jH hc).1;simpa using this
 have hi0:i < is0.length:=by have:=A.sz;omega
 obtain ⟨y,hy⟩:∃ y,is0[i]?=some y:=⟨_,List.getElem?_eq_getElem hi0⟩;obtain ⟨x,hx⟩:=ML (ops:=ops) (bs:=aq ops.toList) hy;obtain ⟨y',hy',xop,xdst,xgrd,xuse,xspan⟩:=EI hx;rw [hy] at hy';obtain rfl:=sj hy';obtain ⟨o',ho',sp⟩:=(jH hc).2 i y hy;have:o'=o:=by
  have h1:ops.toList[i]?=some o:=by simpa using ho
  rw [h1] at ho';exact (sj ho').symm
 subst this;obtain ⟨v,hv⟩:∃ v,vs[i]?=some v:=⟨_,List.getElem?_eq_getElem (by rw [r.lv,iJ];exact hi0)⟩;obtain ⟨q1,q2,q3,q4⟩:=r.st i x v hx hv;have hbef:∀ k,fp (aq ops.toList) i k=true->py listed k=true:=by
  intro k hk;obtain ⟨o2,h1,e,h2,h3,h4⟩:=D9 hk;have:o2=o':=by
   have h1':ops.toList[i]?=some o':=by simpa using ho
   rw [h1'] at h1;exact (sj h1).symm
  subst this;rcases h4 with rfl | ⟨_,h4⟩
  ·exact hall e h2 h3
  ·exact A.cl _ (hall e h2 h3) _ h4
 have hnb:∀ k,py listed k=true->fp (aq ops.toList) k i=false:=by
  intro k hk
  cases hb:fp (aq ops.toList) k i with
  | false=>rfl
  | true=>have:=A.cl k hk i hb;rw [hnl] at this;simp at this
 have opk:∀ (k:Nat) (z:AI),(eU ops (aq ops.toList) is0)[k]?=some z->∃ (ok:Oper) (zz:AI),ops[k]?=some ok/\is0[k]?=some zz/\z.dst=ok.dst/\z.op=zz.op:=by
  intro k z hz;obtain ⟨zz,hzz,e1,e2,_⟩:=EI hz;obtain ⟨ok,hok,spk⟩:=(jH hc).2 k zz hzz;exact ⟨ok,zz,by simpa using hok,hzz,e2.trans spk.dst,e1⟩
 have hag:∀ t,t∈Au ops o'->X t=FR i t:=by
  intro t ht;refine A.ft.agree (r.fits i (by rw [iJ];omega)) fun j z hz hzd=>?_;obtain ⟨oj,zz,hoj,_,hdj,_⟩:=opk j z hz;by_cases hij:i=j
  ·subst hij;simp [hnl]
  ·have:=hd.tm i j oj o' t hoj ho hij (hdj ▸ hzd) (.inr ht);split at this
   ·rename_i hlt';constructor
    ·intro hlj;have:=hnb j hlj
     simp_all
    ·intro h;omega
   ·exact ⟨fun _=>by omega,fun _=>hbef j this⟩
 have hmask:oU x.use X=oU x.use (FR i):=by
  funext t
  unfold oU;split
  ·rename_i ht;refine hag t ?_;rw [xuse,TY,ho] at ht;simpa using ht
  ·rfl
 have hwant:cM X x.grd=cM (FR i) x.grd:=by
  rw [xgrd];have hg:=sp.grd;unfold cM;split
  ·rfl
  ·rename_i t b hb;rw [hag t ?_];rw [hb] at hg;unfold zdE at hg;split at hg
   ·simp at hg
   ·rename_i j b' hgu;split at hg
    ·rename_i t' ht';have hg:=sj hg;injection hg with hg
     injection hg with hg _
     subst hg;unfold Au;rw [hgu];simp [ht']
    ·simp at hg
 have hset:∀ k,py (listed.setIfInBounds i true) k=(py listed k||decide (k=i)):=EF hlt;have numC:xX x.op=true->BQ is0 (py listed)=cnt is0 i/\BQ is0 (py (listed.setIfInBounds i true))=cnt is0 (i+1):=by
  intro hcx;have key:∀ k c,is0[k]?=some c->xX c.op=true->(py listed k=decide (k < i)):=by
   intro k c hk hck;rcases Nat.lt_trichotomy k i with h | h | h
   ·have:=hd.cs k i c y hk hy hck (xop ▸ hcx) h;rw [hbef k this];simp [h]
   ·subst h;rw [hnl];simp
   ·have:=hd.cs i k y c hy hk (xop ▸ hcx) hck h
    cases hlk:py listed k with
    | true=>have h2:=hnb k hlk;rw [this] at h2;simp at h2
    | false=>simp;omega
  constructor
  ·rw [<- EG];exact pS key
  ·rw [<- EG];refine pS fun k c hk hck=>?_;rw [hset,key k c hk hck];by_cases h:k=i
   ·subst h;simp
   ·simp only [h,decide_false,Bool.or_false]
    congr 1
    exact propext ⟨fun _=>by omega,fun _=>by omega⟩
 have numN:xX x.op=false->BQ is0 (py (listed.setIfInBounds i true))=BQ is0 (py listed):=by
  intro hcx;refine pS fun k c hk hck=>?_;rw [hset];by_cases h:k=i
  ·subst h;rw [hy] at hk;obtain rfl:=sj hk;rw [xop,hck] at hcx;simp at hcx
  ·simp [h]
 have hHi:=r.hp i (by rw [iJ];omega);have hHi1:=r.hp (i+1) (by rw [iJ];omega);rw [P3] at hHi hHi1;have hA:=A.hp;have next:∀ (s2:St) (cv:Value),iC C s2->Le s1 s2->dH s2 v cv->(h :: hs)[BQ is0 (py (listed.setIfInBounds i true))]?=some s2.h->
   K (a1.put o'.dst cv) s2.w:=by
  intro s2 cv k1 k2 k3 k4;refine hK s2 _ (put X x.dst v) ⟨by simp [A.sz],fun j hj k hk=>?_,?_,k1,A.le.trans k2,?_,by rw [put_defers];exact A.df,k4⟩
  ·rw [hset] at hj |-;simp only [Bool.or_eq_true,decide_eq_true_eq] at hj |-;rcases hj with hj | rfl
   ·exact .inl (A.cl j hj k hk)
   ·exact .inl (hbef k hk)
  ·refine A.ft.put hx hv (fun k=>by rw [hset];simp) fun j' i' d hj' hlt' hi' hd'=>?_;intro hc';obtain ⟨oj,zz,hoj,_,hdj,_⟩:=opk j' i' hi';have:=hd.tm i j' oj o' d hoj ho (by omega) (hdj ▸ hc') (.inl (by rw [<- sp.dst,<- xdst];exact hd'));rw [if_pos hlt'] at this;rw [hnb j' hj'] at this;simp at this
  ·rw [<- sp.dst,<- xdst];exact (A.rep.le k2).put (fun d hd'=>sp.dlt d (by rw [<- sp.dst,<- xdst];exact hd')) k3
 unfold wpOp;simp only [ho];have hwe:=zD A.sim A.rep sp.grd sp.glt;rw [<- xgrd,hwant] at hwe
 cases hw:cM (FR i) x.grd with
 | true=>
  rw [if_pos (by rw [hwe];exact hw)]
  left
  have hst:∃ h2,nN C P L x.op (oU x.use (FR i)) s1.h v h2/\(h :: hs)[BQ is0 (py (listed.setIfInBounds i true))]?=some h2:=by
   obtain ⟨g1,g2⟩:=q3 hw
   cases hop:x.op with
   | v ov=>
    rw [hop] at g2 numN;exact ⟨s1.h,hop ▸ g2 rfl s1.h,by rw [numN rfl];exact hA⟩
   | c oc=>
    rw [hop] at numC g1;obtain ⟨e1,e2⟩:=numC rfl;rw [e1,hHi] at hA;have:=sj hA;rw [<- this];exact ⟨_,g1,by rw [e2];exact hHi1⟩
   | r ro=>
    rw [hop] at numN g1;have hl:x.lo=BQ is0 (fun k=>fp (aq ops.toList) i k)/\x.hi=BQ is0 (fun k=>!fp (aq ops.toList) k i):=xspan ro hop;refine ⟨s1.h,?_,by rw [numN rfl];exact hA⟩;have b1:x.lo<=BQ is0 (py listed):=by
     rw [hl.1];exact zg fun k c _ _ hb=>hbef k hb
    have b2:BQ is0 (py listed)<=x.hi:=by
     rw [hl.2];exact zg fun k c _ _ hb=>by rw [hnb k hb];rfl
    by_cases hlh:x.lo < x.hi
    ·exact hk FR r.fr0 (fun j i v h1 h2=>(r.st j i v h1 h2).1) i x v ro hx hv hop hw hlh _ _ b1 b2 hA
    ·have c1:x.lo<=cnt is0 i:=by
      rw [hl.1,<- EG];exact zg fun k c _ _ hb=>by simpa using zeq hd i k hb
     have c2:cnt is0 i<=x.hi:=by
      rw [hl.2, <- EG]; exact zg fun k c _ _ hb => by
       cases hbb:fp (aq ops.toList) k i with
       | false=>rfl
       | true=>have:=zeq hd k i hbb;simp at hb;omega
     have:BQ is0 (py listed)=cnt is0 i:=by omega
     rw [this,hHi] at hA;have:=sj hA;rw [<- this];have g3:=g1.2.1 rfl;rw [g3] at g1;exact g1
  obtain ⟨h2,hst,hnum⟩:=hst;rw [<- hmask] at hst;have hx2:=hst.2.2 s1 n {a1 with tmps:=MM x.use a1.tmps} o' _ rfl A.sim (hL.le A.le hs0 A.sim) (zer A.rep) (by rw [xop];exact sp.op);have hex:execOp ({a1 with tmps:=MM x.use a1.tmps}:Act).eval o'=execOp a1.eval o':=by
   refine execOp_congr o' (WW sp.op) fun z hz=>zbA fun t ht=>?_;rw [xuse,TY,ho];simp only [];unfold Au;subst ht;refine List.mem_append_left _ (List.mem_filterMap.2 ⟨.tmp t,by simpa using hz,rfl⟩)
  refine (hx2.congr (by rw [hex])).wp fun cv w' hg=>?_;obtain ⟨s2,e1,e2,k1,k2,k3⟩:=hg;subst e1;exact next s2 cv k1 k2 k3 (by rw [e2];exact hnum)
 | false=>
  rw [if_neg (by rw [hwe,hw];simp)];obtain ⟨rfl,hH⟩:=q4 hw;refine next s1 undef A.sim (.refl s1) (dH.undef s1) ?_
  cases hcx:xX x.op with
  | false=>rw [numN hcx];exact hA
  | true=>
   obtain ⟨e1,e2⟩:=numC hcx;rw [e2,hHi1,hH,<- hHi,<- e1];exact hA
theorem zez (hc:qn C P n ops val 0 ops.toList=some is0)(hd:lR ops (aq ops.toList) is0)
  (r:mu C P L (eU ops (aq ops.toList) is0) fr h frE hs vs FR H) (hk:wg C P L (eU ops (aq ops.toList) is0) vs fr (h :: hs))
  (hL:oT L s) (hs0:iC C s)
  (hQ:∀ (s':St) (a':Act),s'.h=hs.getLastD h->iC C s'->Le s s'->du n s' frE a'.tmps->a'.defers=a.defers->Q .normal a' s'.w):
  ∀ (fuel:Nat) (listed:Array Bool) (s1:St) (a1:Act) (X:Fr),left listed<=fuel->AP C P n ops is0 fr h hs vs s a listed s1 a1 X->wpAny P .any ops Q fuel listed a1 s1.w:=by
 intro fuel
 induction fuel with
 | zero=>
  intro listed s1 a1 X hle A;have hr:Region.ready .any ops listed=[]:=by
   refine List.eq_nil_iff_forall_not_mem.2 fun i hi=>?_;have:=tL (nD hi).1;omega
  exact ⟨hr,H9 hc hd r hQ A hr⟩
 | succ fuel ih=>
  intro listed s1 a1 X hle A;exact ⟨H9 hc hd r hQ A,fun i hi=>EL hc hd r hk hL hs0 A hi fun s2 a2 X2 A2=>ih _ s2 a2 X2 (by have:=tL (nD hi).1;omega) A2⟩
theorem zbF {m:Region.Mode}{e:Edge}(h:Region.binds .any e=true):Region.binds m e=true:=by
 unfold Region.binds at h |-
 split at h <;> simp_all
theorem P9 {m:Region.Mode}{listed:Array Bool}{i:Nat}(h:i∈Region.ready m ops listed):i∈Region.ready .any ops listed:=by
 unfold Region.ready at h |-;rw [List.mem_filter] at h |-;refine ⟨h.1,?_⟩;have h2:=h.2;rw [Bool.and_eq_true] at h2 |-;refine ⟨h2.1,?_⟩;have h3:=h2.2
 cases ho:ops[i]? with
 | none=>rw [ho] at h3;exact h3
 | some o=>
  rw [ho] at h3;simp only [Option.map_some,Option.getD_some] at h3 |-;rw [Array.all_eq_true] at h3 |-;intro k hk;have:=h3 k hk;rw [Bool.or_eq_true] at this |-;rcases this with h4 | h4
  ·left
   rw [Bool.not_eq_true'] at h4 |-
   cases hb:Region.binds .any o.after[k] with
   | false=>rfl
   | true=>rw [zbF hb] at h4;cases h4
  ·exact .inr h4
theorem zlu {m:Region.Mode}{rk:List Nat}(h:Rq m ops rk=true){listed:Array Bool}(hs:listed.size=ops.size)(hn:Region.ready m ops listed=[]):Region.ready .any ops listed=[]:=by
 rw [List.eq_nil_iff_forall_not_mem];intro i hi;have key:∀ n i,rk.getD i 0=n->i < ops.size->listed.getD i true=false->False:=by
  intro n
  induction n using Nat.strongRecOn with
  | ind n ih=>
   intro i hr hi hl;have hnot:i∉Region.ready m ops listed:=by rw [hn];simp
   apply hnot;unfold Region.ready;rw [List.mem_filter];refine ⟨by simpa using hi,?_⟩;rw [Bool.and_eq_true];refine ⟨by rw [hl];rfl,?_⟩;rw [Array.getElem?_eq_getElem hi];simp only [Option.map_some,Option.getD_some];rw [Array.all_eq_true];intro k hk;have h1:=List.all_eq_true.1 h (ops[i],i) (by rw [List.mem_zipIdx_iff_getElem?];simp [hi]);have h2:=List.all_eq_true.1 h1 (ops[i].after[k]) (by simp);rw [Bool.or_eq_true] at h2 |-;rcases h2 with h3 | h3
   ·exact .inl h3
   ·right
    rw [Bool.and_eq_true] at h3;have e1:=of_decide_eq_true h3.1;have e2:=of_decide_eq_true h3.2
    cases hb:listed.getD (ops[i].after[k]).on false with
    | true=>rfl
    | false=>
     exfalso;refine ih _ (by rw [hr] at e2;exact e2) _ rfl e1 ?_;have:(ops[i].after[k]).on < listed.size:=by omega
     simp only [Array.getD_eq_getD_getElem?,Array.getElem?_eq_getElem this,Option.getD_some] at hb |-;exact hb
 unfold Region.ready at hi;rw [List.mem_filter] at hi;have h2:=hi.2;rw [Bool.and_eq_true] at h2;exact key _ i rfl (by simpa using hi.1) (by simpa using h2.1)
theorem DI {m:Region.Mode}{rk:List Nat}(h:Rq m ops rk=true){Q:Exit->Act->World->Prop}:∀ (fuel:Nat) (listed:Array Bool) (a:Act) (w:World),listed.size=ops.size->
  wpAny P .any ops Q fuel listed a w->wpAny P m ops Q fuel listed a w
 | 0, listed, a, w, hs, hw => by
  refine ⟨?_,hw.2⟩;rw [List.eq_nil_iff_forall_not_mem];intro i hi;have:=P9 hi;rw [hw.1] at this;simp at this
 | fuel + 1, listed, a, w, hs, hw => by
  refine ⟨fun hr=>hw.1 (zlu h hs hr),fun i hi=>?_⟩;exact wpOp_mono (fun a w hk=>DI h fuel _ a w (by simpa using hs) hk) (hw.2 i (P9 hi))
theorem zid {id:Nat}(hc:qn C P n ops val 0 ops.toList=some is0)(hd:GH ops (aq ops.toList) is0=true)(hm:(P.follows .mixedOrders||!Region.departs ops||qo ops)=true)
  (r:mu C P L (eU ops (aq ops.toList) is0) fr h frE hs vs FR H) (hk:wg C P L (eU ops (aq ops.toList) is0) vs fr (h :: hs))
  (hh:s.h=h) (hs0:iC C s) (hL:oT L s) (hf:du n s fr a.tmps)
  (hQ:∀ (s':St) (a':Act),s'.h=hs.getLastD h->iC C s'->Le s s'->du n s' frE a'.tmps->a'.defers=a.defers->Q .normal a' s'.w):
  (Code.region id ops true).wp P Q a s.w:=by
 refine wp_region_draw fun t=>?_
 suffices hgo:wpAny P .any ops Q ops.size (Array.replicate ops.size false) a {s.w with drawn:=s.w.drawn+1} by
  rw [Region.schedule];split
  ·exact wpAny_sound ops.size t _ a _ hgo
  ·rename_i hno;have hdep:qo ops=true:=by
    rw [Bool.or_eq_true] at hm;exact hm.resolve_left hno
   unfold qo at hdep;rw [Bool.and_eq_true] at hdep;split
   ·exact wpAny_sound ops.size _ _ a _ (DI hdep.1 _ _ _ _ (by simp) hgo)
   ·exact wpAny_sound ops.size _ _ a _ (DI hdep.2 _ _ _ _ (by simp) hgo)
 have hlen:is0.length=ops.size:=by have:=(jH hc).1;simpa using this
 have e0:∀ k,py (Array.replicate ops.size false) k=false:=by
  intro k;unfold py
  by_cases hk:k < ops.size <;> simp [Array.getD_eq_getD_getElem?,Array.getElem?_replicate,hk]
 have hle:=C8 s {s.w with drawn:=s.w.drawn+1} ⟨rfl,rfl,rfl,Nat.le_refl _,fun _ _=>rfl⟩;have hsim:=HF hs0 {s.w with drawn:=s.w.drawn+1} ⟨rfl,rfl,rfl,Nat.le_refl _,fun _ _=>rfl⟩;refine (zez hc (Dy hd) r hk hL hs0 hQ ops.size _ {s with w:={s.w with drawn:=s.w.drawn+1}} a fr ?_
  ⟨by simp,fun j hj=>by rw [e0] at hj;simp at hj,Fits.nil fun j hj=>by rw [e0] at hj;simp at hj,hsim,hle,hf.le hle,rfl,?_⟩)
 ·simp [left]
 ·have:BQ is0 (py (Array.replicate ops.size false))=0:=by
   have:BQ is0 (py (Array.replicate ops.size false))=BQ is0 (fun k=>decide (k < 0)):=pS fun k c _ _=>by rw [e0];simp
   rw [this,EG];simp [cnt]
  rw [this];simpa using hh.symm
end
end Go.Av
namespace Go.Av
structure pQ (n:Nat) (ord:List Nat):Prop where
 len:ord.length=n
 nd:ord.Nodup
 mem:∀ k,k < n↔k∈ord
theorem MO {n:Nat}{ord:List Nat}(h:YS n ord=true):pQ n ord:=by
 unfold YS at h;simp only [Bool.and_eq_true,decide_eq_true_eq,List.all_eq_true,List.mem_range] at h;obtain ⟨⟨⟨h1,h2⟩,h3⟩,h4⟩:=h;exact ⟨h1,h2,fun k=>⟨fun hk=>by simpa using h3 k hk,h4 k⟩⟩
section
variable {n:Nat} {ord:List Nat} (h:pQ n ord)
include h
theorem pQ.lt {k:Nat}(hk:k < n):ord.idxOf k < n:=by rw [<- h.len];exact List.idxOf_lt_length_iff.2 ((h.mem k).1 hk)
theorem pQ.out {k:Nat}(hk:¬k < n):ord.idxOf k=n:=by rw [<- h.len];exact List.idxOf_eq_length (fun hm=>hk ((h.mem k).2 hm))
theorem pQ.get {k:Nat}(hk:k < n):ord[ord.idxOf k]?=some k:=by
 have:=h.lt hk;rw [List.getElem?_eq_getElem (by rw [h.len];exact this),List.getElem_idxOf]
theorem pQ.inj {k k':Nat}(hk:k < n)(e:ord.idxOf k'=ord.idxOf k):k'=k:=by
 have h1:=h.get hk;have hk':k' < n:=by
  rcases Nat.lt_or_ge k' n with h' | h'
  ·exact h'
  ·have:=h.out (Nat.not_lt.2 h');have:=h.lt hk;omega
 have h2:=h.get hk';rw [e,h1] at h2;exact (sj h2).symm
theorem pQ.sur {q:Nat}(hq:q < n):∃ k,k < n/\ord.idxOf k=q:=by
 have hq':q < ord.length:=by rw [h.len];exact hq
 exact ⟨ord[q],(h.mem _).2 (List.getElem_mem hq'),h.nd.idxOf_getElem q hq'⟩
end
section
variable {ops:Array Oper} {ord:List Nat} {i j:Nat} (h:pQ ops.size ord)
include h
theorem kP:(a7 ops ord i j).size=ops.size:=by simp [a7,h.len]
theorem vH {k:Nat}{o:Oper}(ho:ops[k]?=some o):(a7 ops ord i j)[ord.idxOf k]?=some (Mw ord.idxOf (za8 ord i j k) o):=by
 have hk:=(Array.getElem?_eq_some_iff.1 ho).1;unfold a7;rw [List.getElem?_toArray,List.getElem?_map,h.get hk];simp [Array.getD_eq_getD_getElem?,ho]
theorem zdM (g:Nat):((a7 ops ord i j)[ord.idxOf g]?).bind (·.dst)=(ops[g]?).bind (·.dst):=by
 cases ho:ops[g]? with
 | some o=>rw [vH h ho];rfl
 | none=>
  have:¬g < ops.size:=by simpa using ho
  rw [h.out this,Array.getElem?_eq_none (by rw [kP h];exact Nat.le_refl _)]
end
theorem zhH {P:Program}{pos:Nat->Nat}{x:List Edge}(o:Oper){a:Act}{w:World}{K:Act->World->Prop}{Q:Exit->Act->World->Prop}:(Mw pos x o).wp P a w K Q=o.wp P a w K Q:=by
 cases o;rfl
theorem za3 {P:Program}{pos:Nat->Nat}{x:List Edge}(o:Oper){a:Act}{w:World}:(Mw pos x o).asks P a w=o.asks P a w:=by
 cases o;rfl
theorem Jr {P:Program}{ops:Array Oper}{ord:List Nat}{i j:Nat}(h:pQ ops.size ord){Q:Exit->Act->World->Prop}{k:Nat}{K:Act->World->Prop}{a:Act}{w:World}(hk:k < ops.size)
  (hw:wpOp P (a7 ops ord i j) Q (ord.idxOf k) K a w):wpOp P ops Q k K a w:=by
 obtain ⟨o,ho⟩:∃ o,ops[k]?=some o:=⟨_,Array.getElem?_eq_getElem hk⟩;unfold wpOp at hw |-;rw [vH h ho] at hw;rw [ho];simp only [zhH,za3] at hw |-;have hy:Region.wanted (Mw ord.idxOf (za8 ord i j k) o) (yielded (a7 ops ord i j) a.tmps)=Region.wanted o (yielded ops a.tmps):=by
  unfold Region.wanted
  cases hg:o.guard with
  | none=>simp [Mw,hg]
  | some g=>
   obtain ⟨g,b⟩:=g;simp only [Mw,hg,Option.map_some];unfold yielded;rw [zdM h]
 rw [hy] at hw;exact hw
structure Ro (n:Nat) (ord:List Nat) (listed lV:Array Bool):Prop where
 s1:listed.size=n
 s2:lV.size=n
 eq:∀ k,py lV (ord.idxOf k)=py listed k
theorem Ro.set {n:Nat}{ord:List Nat}{listed lV:Array Bool}(h:pQ n ord)(c:Ro n ord listed lV){k:Nat}(hk:k < n):Ro n ord (listed.setIfInBounds k true) (lV.setIfInBounds (ord.idxOf k) true):=by
 refine ⟨by simp [c.s1],by simp [c.s2],fun k'=>?_⟩;rw [EF (by rw [c.s2];exact h.lt hk),EF (by rw [c.s1];exact hk),c.eq]
 congr 1
 exact decide_eq_decide.2 ⟨fun e=>h.inj hk e,fun e=>by rw [e]⟩
section
variable {ops:Array Oper} {ord:List Nat} {i j:Nat} {listed lV:Array Bool} (h:pQ ops.size ord) (c:Ro ops.size ord listed lV)
include h c
theorem GI {k:Nat}(hk:k∈Region.ready .any ops listed)(hx:k≠i\/py listed j=true):ord.idxOf k∈Region.ready .any (a7 ops ord i j) lV:=by
 obtain ⟨h1,o,ho,h2⟩:=mem_ready.1 hk;have hlt:=(Array.getElem?_eq_some_iff.1 ho).1;refine mem_ready.2 ⟨RG (by rw [c.s2];exact h.lt hlt) (by rw [c.eq];exact (xp h1).1),_,vH h ho,fun e he hb=>?_⟩;simp only [Mw,List.mem_toArray,List.mem_append,List.mem_map] at he;rcases he with ⟨e',he',rfl⟩ | he
 ·exact (c.eq e'.on).trans (h2 e' (by simpa using he') hb)
 ·unfold za8 at he;split at he
  ·rename_i hki;simp only [List.mem_singleton] at he;subst he;exact (c.eq j).trans (hx.resolve_left (fun hne=>hne hki))
  ·simp at he
theorem Wz {k:Nat}(hk:k < ops.size)(hr:ord.idxOf k∈Region.ready .any (a7 ops ord i j) lV):k∈Region.ready .any ops listed:=by
 obtain ⟨o,ho⟩:∃ o,ops[k]?=some o:=⟨_,Array.getElem?_eq_getElem hk⟩;obtain ⟨h1,o',ho',h2⟩:=mem_ready.1 hr;rw [vH h ho] at ho';obtain rfl:=sj ho';refine mem_ready.2 ⟨RG (by rw [c.s1];exact hk) (by rw [<- c.eq];exact (xp h1).1),o,ho,fun e he hb=>?_⟩;have:=h2 (zot ord.idxOf e) (by simp only [Mw,List.mem_toArray,List.mem_append,List.mem_map];exact .inl ⟨e,by simpa using he,rfl⟩) hb;exact (c.eq e.on).symm.trans this
theorem Jv (hr:Region.ready .any ops listed=[]):Region.ready .any (a7 ops ord i j) lV=[]:=by
 refine List.eq_nil_iff_forall_not_mem.2 fun q hq=>?_;have hlt:q < ops.size:=by
  obtain ⟨_,o,ho,_⟩:=mem_ready.1 hq;have:=(Array.getElem?_eq_some_iff.1 ho).1
  rwa [kP h] at this
 obtain ⟨k,hk,rfl⟩:=h.sur hlt;have:=Wz h c hk hq;rw [hr] at this;simp at this
end
end Go.Av
namespace Go.Av
section
variable {C:eD} {P:Program} {s:St} {n:Nat} {fr:Fr} {a:Act}
variable {L:az} {ops:Array Oper} {h:O} {Q:Exit->Act->World->Prop}
theorem T6 {ord:List Nat}{i j:Nat}(ho:pQ ops.size ord){val:Nat->Bool}{is0:List AI}{frE:Fr}{hs:List O}{vs:List J}{FR:Nat->Fr}{H:Nat->O}
  (hc:qn C P n (a7 ops ord i j) val 0 (a7 ops ord i j).toList=some is0) (hd:lR (a7 ops ord i j) (aq (a7 ops ord i j).toList) is0)
  (r:mu C P L (eU (a7 ops ord i j) (aq (a7 ops ord i j).toList) is0) fr h frE hs vs FR H) (hk:wg C P L (eU (a7 ops ord i j) (aq (a7 ops ord i j).toList) is0) vs fr (h :: hs))
  (hL:oT L s) (hs0:iC C s)
  (hQ:∀ (s':St) (a':Act),s'.h=hs.getLastD h->iC C s'->Le s s'->du n s' frE a'.tmps->a'.defers=a.defers->Q .normal a' s'.w):
  ∀ (fuel:Nat) (listed lV:Array Bool) (s1:St) (a1:Act) (X:Fr),left listed<=fuel->Ro ops.size ord listed lV->py listed j=true->
   AP C P n (a7 ops ord i j) is0 fr h hs vs s a lV s1 a1 X->wpAny P .any ops Q fuel listed a1 s1.w:=by
 intro fuel
 induction fuel with
 | zero=>
  intro listed lV s1 a1 X hle c hj A;have hr:Region.ready .any ops listed=[]:=by
   refine List.eq_nil_iff_forall_not_mem.2 fun i hi=>?_;have:=tL (nD hi).1;omega
  exact ⟨hr,H9 hc hd r hQ A (Jv ho c hr)⟩
 | succ fuel ih=>
  intro listed lV s1 a1 X hle c hj A;refine ⟨fun hr=>H9 hc hd r hQ A (Jv ho c hr),fun k hk'=>?_⟩;have hl:=(nD hk').1;have hlt:k < ops.size:=by have:=(xp hl).2;rw [c.s1] at this;exact this
  refine Jr ho hlt (EL hc hd r hk hL hs0 A (GI ho c hk' (.inr hj)) fun s2 a2 X2 A2=>?_);refine ih _ _ s2 a2 X2 (by have:=tL hl;omega) (c.set ho hlt) ?_ A2;rw [EF (by rw [c.s1];exact hlt),hj];rfl
theorem Ws (hh:PN ops=true){k k':Nat}{o o':Oper}(h1:ops[k]?=some o)(h2:ops[k']?=some o'){d:Nat}(e1:o.dst=some d)(e2:o'.dst=some d):k=k':=by
 unfold PN at hh;have:=xv hh (x:=o) (i:=k) (by simpa using h1);simp only [] at this;have:=xv this (x:=o') (i:=k') (by simpa using h2);simp only [e1,e2] at this;simpa using this
structure Kg (ops:Array Oper) (i j:Nat) (listed:Array Bool):Prop where
 ni:py listed i=false
 nj:py listed j=false
 cl:∀ k o,ops[k]?=some o->py listed k=true->∀ e∈o.after,Region.binds .any e=true->py listed e.on=true
theorem Kg.dep {i j:Nat}{listed:Array Bool}(hE:Kg ops i j listed)(hsz:listed.size=ops.size){dep:Nat->Bool}(hd:PM ops dep i j=true):∀ k,py listed k=true->dep k=false:=by
 intro k
 induction k using Nat.strongRecOn with
 | _ k ih=>
  intro hl
  cases hdk:dep k with
  | false=>rfl
  | true=>
   exfalso;have hlt:k < ops.size:=by
    rw [<- hsz];rcases Nat.lt_or_ge k listed.size with h | h
    ·exact h
    ·unfold py at hl;simp [Array.getD_eq_getD_getElem?,Array.getElem?_eq_none h] at hl
   obtain ⟨o,ho⟩:∃ o,ops[k]?=some o:=⟨_,Array.getElem?_eq_getElem hlt⟩;unfold PM at hd;have:=xv hd (x:=o) (i:=k) (by simpa using ho);simp only [hdk,Bool.not_true,Bool.false_or,Bool.or_eq_true,beq_iff_eq,List.any_eq_true,Bool.and_eq_true,decide_eq_true_eq] at this;rcases this with (rfl | rfl) | ⟨e,he,⟨hb,hlt'⟩,hde⟩
   ·rw [hE.ni] at hl;cases hl
   ·rw [hE.nj] at hl;cases hl
   ·have:=ih e.on hlt' (hE.cl k o ho hl e (by simpa using he) hb);rw [this] at hde;cases hde
theorem Kg.set {i j:Nat}{listed:Array Bool}(hE:Kg ops i j listed){k:Nat}(hk:k∈Region.ready .any ops listed)(hi:k≠i)(hj:k≠j):Kg ops i j (listed.setIfInBounds k true):=by
 obtain ⟨h1,o,ho,h2⟩:=nD hk;obtain ⟨_,hlt⟩:=xp h1;have hset:=EF hlt;refine ⟨by rw [hset,hE.ni];simpa using fun e=>hi e.symm,by rw [hset,hE.nj];simpa using fun e=>hj e.symm,fun k' o' ho' hl e he hb=>?_⟩;rw [hset] at hl |-;simp only [Bool.or_eq_true,decide_eq_true_eq] at hl |-;rcases hl with hl | rfl
 ·exact .inl (hE.cl k' o' ho' hl e he hb)
 ·rw [ho] at ho';obtain rfl:=sj ho';exact .inl (h2 e he hb)
def GJ (ord:List Nat)(listed:Array Bool):Array Bool:=(ord.map fun k=>py listed k).toArray
theorem Kh {ord:List Nat}(ho:pQ n ord){listed:Array Bool}(hs:listed.size=n):Ro n ord listed (GJ ord listed):=by
 refine ⟨hs,by simp [GJ,ho.len],fun k=>?_⟩;unfold py GJ;by_cases hk:k < n
 ·rw [Array.getD_eq_getD_getElem?,List.getElem?_toArray,List.getElem?_map,ho.get hk];rfl
 ·rw [ho.out hk];rw [Array.getD_eq_getD_getElem?,Array.getElem?_eq_none (by simp [ho.len]),Array.getD_eq_getD_getElem?,Array.getElem?_eq_none (by omega)]
end
end Go.Av
namespace Go.Av
section
variable {C:eD} {P:Program} {s:St} {n:Nat} {fr:Fr} {a:Act}
variable {L:az} {ops:Array Oper} {h:O} {Q:Exit->Act->World->Prop}
theorem vM {ord:List Nat}{i j:Nat}(ho:pQ ops.size ord){val:Nat->Bool}{is0:List AI}(hc:qn C P n (a7 ops ord i j) val 0 (a7 ops ord i j).toList=some is0){bs:List Nat}{k:Nat}{o:Oper}(hk:ops[k]?=some o):
  ∃ x y,(eU (a7 ops ord i j) bs is0)[ord.idxOf k]?=some x/\is0[ord.idxOf k]?=some y/\x.dst=o.dst/\x.op=y.op:=by
 have hlt:=(Array.getElem?_eq_some_iff.1 hk).1;have hlen:is0.length=ops.size:=by have:=(jH hc).1;simpa [kP ho] using this
 have hq:ord.idxOf k < is0.length:=by rw [hlen];exact ho.lt hlt
 obtain ⟨y,hy⟩:∃ y,is0[ord.idxOf k]?=some y:=⟨_,List.getElem?_eq_getElem hq⟩;obtain ⟨x,hx⟩:=ML (ops:=a7 ops ord i j) (bs:=bs) hy;obtain ⟨y',hy',e1,e2,_⟩:=EI hx;rw [hy] at hy';obtain rfl:=sj hy';obtain ⟨o',ho',sp⟩:=(jH hc).2 _ y hy;have h1:(a7 ops ord i j).toList[ord.idxOf k]?=some (Mw ord.idxOf (za8 ord i j k) o):=by simpa using vH ho hk
 rw [h1] at ho';obtain rfl:=sj ho';exact ⟨x,y,hx,hy,e2.trans sp.dst,e1⟩
theorem switch {oA oB:List Nat}{i j:Nat}(hA:pQ ops.size oA)(hB:pQ ops.size oB){vA vB:Nat->Bool}{isA isB:List AI}
  {hsA hsB:List O} {vsA vsB:List J}
  (hcA:qn C P n (a7 ops oA j i) vA 0 (a7 ops oA j i).toList=some isA)
  (hcB:qn C P n (a7 ops oB i j) vB 0 (a7 ops oB i j).toList=some isB) (hdB:lR (a7 ops oB i j) (aq (a7 ops oB i j).toList) isB)
  {dep:Nat->Bool} (hdep:PM ops dep i j=true) (hnd:PN ops=true)
  (hag:∀ k,k < ops.size->dep k=false->vsA[oA.idxOf k]?=vsB[oB.idxOf k]?)
  (hnA:∀ k x,k < ops.size->dep k=false->isA[oA.idxOf k]?=some x->xX x.op=false) (hnB:∀ k x,k < ops.size->dep k=false->isB[oB.idxOf k]?=some x->xX x.op=false)
  {listed lA:Array Bool} {s1:St} {a1:Act} {X:Fr} (hE:Kg ops i j listed) (cA:Ro ops.size oA listed lA)
  (A:AP C P n (a7 ops oA j i) isA fr h hsA vsA s a lA s1 a1 X):AP C P n (a7 ops oB i j) isB fr h hsB vsB s a (GJ oB listed) s1 a1 X:=by
 have cB:=Kh hB cA.s1;have hdn:=hE.dep cA.s1 hdep;have lstlt : ∀ k, py listed k = true -> k < ops.size := fun k hl => by
  rw [<- cA.s1];rcases Nat.lt_or_ge k listed.size with h | h
  ·exact h
  ·unfold py at hl;simp [Array.getD_eq_getD_getElem?,Array.getElem?_eq_none h] at hl
 have B9:isA.length=ops.size:=by have:=(jH hcA).1;simpa [kP hA] using this
 have lenB:isB.length=ops.size:=by have:=(jH hcB).1;simpa [kP hB] using this
 have zA:BQ isA (py lA)=0:=by
  have : BQ isA (py lA) = BQ isA (fun _ => false) := pS fun q c hq hc => by
   have hlt:q < ops.size:=by rw [<- B9];exact (List.getElem?_eq_some_iff.1 hq).1
   obtain ⟨k,hk,rfl⟩:=hA.sur hlt;rw [cA.eq]
   cases hl:py listed k with
   | false=>rfl
   | true=>rw [hnA k c hk (hdn k hl) hq] at hc;cases hc
  rw [this];simp [BQ]
 have zB:BQ isB (py (GJ oB listed))=0:=by
  have : BQ isB (py (GJ oB listed)) = BQ isB (fun _ => false) := pS fun q c hq hc => by
   have hlt:q < ops.size:=by rw [<- lenB];exact (List.getElem?_eq_some_iff.1 hq).1
   obtain ⟨k,hk,rfl⟩:=hB.sur hlt;rw [cB.eq]
   cases hl:py listed k with
   | false=>rfl
   | true=>rw [hnB k c hk (hdn k hl) hq] at hc;cases hc
  rw [this];simp [BQ]
 refine ⟨by rw [cB.s2,kP hB],?_,?_,A.sim,A.le,A.rep,A.df,?_⟩
 ·intro q
  induction q using Nat.strongRecOn with
  | _ q ih=>
   intro hl q' hb;obtain ⟨o2,h1,e,h2,h3,h4⟩:=D9 hb;have h1':(a7 ops oB i j)[q]?=some o2:=by simpa using h1
   have hlt:q < ops.size:=by have:=(Array.getElem?_eq_some_iff.1 h1').1;rwa [kP hB] at this
   obtain ⟨k,hk,rfl⟩:=hB.sur hlt;obtain ⟨o,ho⟩:∃ o,ops[k]?=some o:=⟨_,Array.getElem?_eq_getElem hk⟩;rw [vH hB ho] at h1';obtain rfl:=sj h1';have hlk:py listed k=true:=by rw [<- cB.eq];exact hl
   have hon:py (GJ oB listed) e.on=true:=by
    simp only [Mw,List.mem_toArray,List.mem_append,List.mem_map] at h2;rcases h2 with ⟨e',he',rfl⟩ | he
    ·exact (cB.eq e'.on).trans (hE.cl k o ho hlk e' (by simpa using he') h3)
    ·unfold za8 at he;split at he
     ·rename_i hki;rw [hki,hE.ni] at hlk;cases hlk
     ·simp at he
   rcases h4 with rfl | ⟨_,h4⟩
   ·exact hon
   ·exact ih e.on (hdB.back _ _ (vH hB ho) e h2 h3) hon q' h4
 ·intro t;rcases A.ft t with ⟨q,x,v,hq,hx,hv,hdst,hlast,hX⟩ | ⟨hno,hX⟩
  ·have hlt:q < ops.size:=by have:=(List.getElem?_eq_some_iff.1 hx).1;rwa [iJ,B9] at this
   obtain ⟨k,hk,rfl⟩:=hA.sur hlt;obtain ⟨o,ho⟩:∃ o,ops[k]?=some o:=⟨_,Array.getElem?_eq_getElem hk⟩;have hlk:py listed k=true:=by rw [<- cA.eq];exact hq
   obtain ⟨x',_,hx',_,ex,_⟩:=vM hA hcA (bs:=aq (a7 ops oA j i).toList) ho;rw [hx] at hx';obtain rfl:=sj hx';have hod:o.dst=some t:=by rw [<- ex];exact hdst
   obtain ⟨y,_,hy,_,ey,_⟩:=vM hB hcB (bs:=aq (a7 ops oB i j).toList) ho;refine .inl ⟨oB.idxOf k,y,v,(cB.eq k).trans hlk,hy,by rw [<- hag k hk (hdn k hlk)];exact hv,ey.trans hod,fun q' y' hq' hlt' hy' hd'=>?_,hX⟩;have hlt2:q' < ops.size:=by have:=(List.getElem?_eq_some_iff.1 hy').1;rwa [iJ,lenB] at this
   obtain ⟨k',hk',rfl⟩:=hB.sur hlt2;obtain ⟨o',ho'⟩:∃ o,ops[k']?=some o:=⟨_,Array.getElem?_eq_getElem hk'⟩;obtain ⟨y2,_,hy2,_,ey2,_⟩:=vM hB hcB (bs:=aq (a7 ops oB i j).toList) ho';rw [hy'] at hy2;obtain rfl:=sj hy2;have:=Ws hnd ho ho' hod (by rw [<- ey2];exact hd');rw [this] at hlt';exact absurd hlt' (Nat.lt_irrefl _)
  ·refine .inr ⟨fun q' y' hq' hy' hd'=>?_,hX⟩;have hlt2:q' < ops.size:=by have:=(List.getElem?_eq_some_iff.1 hy').1;rwa [iJ,lenB] at this
   obtain ⟨k',hk',rfl⟩:=hB.sur hlt2;obtain ⟨o',ho'⟩:∃ o,ops[k']?=some o:=⟨_,Array.getElem?_eq_getElem hk'⟩;obtain ⟨y2,_,hy2,_,ey2,_⟩:=vM hB hcB (bs:=aq (a7 ops oB i j).toList) ho';rw [hy'] at hy2;obtain rfl:=sj hy2;obtain ⟨x,_,hx,_,ex,_⟩:=vM hA hcA (bs:=aq (a7 ops oA j i).toList) ho';refine hno _ x ?_ hx (by rw [ex,<- ey2];exact hd');have:py lA (oA.idxOf k')=true:=(cA.eq k').trans ((cB.eq k').symm.trans hq');exact this
 ·rw [zB];have:=A.hp;rw [zA] at this;simpa using this
theorem zhP {oA oB:List Nat}{i j:Nat}(hA:pQ ops.size oA)(hB:pQ ops.size oB){vA vB:Nat->Bool}{isA isB:List AI}
  {frA frB:Fr} {hsA hsB:List O} {vsA vsB:List J} {FA FB:Nat->Fr} {HA HB:Nat->O} (hij:i≠j) (hi:i < ops.size)
  (hcA:qn C P n (a7 ops oA j i) vA 0 (a7 ops oA j i).toList=some isA) (hdA:lR (a7 ops oA j i) (aq (a7 ops oA j i).toList) isA)
  (rA:mu C P L (eU (a7 ops oA j i) (aq (a7 ops oA j i).toList) isA) fr h frA hsA vsA FA HA) (kA:wg C P L (eU (a7 ops oA j i) (aq (a7 ops oA j i).toList) isA) vsA fr (h :: hsA))
  (hcB:qn C P n (a7 ops oB i j) vB 0 (a7 ops oB i j).toList=some isB) (hdB:lR (a7 ops oB i j) (aq (a7 ops oB i j).toList) isB)
  (rB:mu C P L (eU (a7 ops oB i j) (aq (a7 ops oB i j).toList) isB) fr h frB hsB vsB FB HB) (kB:wg C P L (eU (a7 ops oB i j) (aq (a7 ops oB i j).toList) isB) vsB fr (h :: hsB))
  {dep:Nat->Bool} (hdep:PM ops dep i j=true) (hnd:PN ops=true)
  (hag:∀ k,k < ops.size->dep k=false->vsA[oA.idxOf k]?=vsB[oB.idxOf k]?)
  (hnA:∀ k x,k < ops.size->dep k=false->isA[oA.idxOf k]?=some x->xX x.op=false) (hnB:∀ k x,k < ops.size->dep k=false->isB[oB.idxOf k]?=some x->xX x.op=false)
  (hL:oT L s) (hs0:iC C s)
  (qA:∀ (s':St) (a':Act),s'.h=hsA.getLastD h->iC C s'->Le s s'->du n s' frA a'.tmps->a'.defers=a.defers->Q .normal a' s'.w)
  (qB:∀ (s':St) (a':Act),s'.h=hsB.getLastD h->iC C s'->Le s s'->du n s' frB a'.tmps->a'.defers=a.defers->Q .normal a' s'.w):
  ∀ (fuel:Nat) (listed lA:Array Bool) (s1:St) (a1:Act) (X:Fr),left listed<=fuel->Ro ops.size oA listed lA->Kg ops i j listed->
   AP C P n (a7 ops oA j i) isA fr h hsA vsA s a lA s1 a1 X->wpAny P .any ops Q fuel listed a1 s1.w:=by
 have dead:∀ (listed lA:Array Bool) (s1:St) (a1:Act) (X:Fr),Ro ops.size oA listed lA->Kg ops i j listed->AP C P n (a7 ops oA j i) isA fr h hsA vsA s a lA s1 a1 X->
   Region.ready .any ops listed=[]->False:=by
  intro listed lA s1 a1 X c hE A hr;have:=MQ hdA A.sz (Jv hA c hr) (oA.idxOf i) (by rw [kP hA];exact hA.lt hi);rw [c.eq,hE.ni] at this
  cases this
 intro fuel
 induction fuel with
 | zero=>
  intro listed lA s1 a1 X hle c hE A;have hr:Region.ready .any ops listed=[]:=by
   refine List.eq_nil_iff_forall_not_mem.2 fun i hi=>?_;have:=tL (nD hi).1;omega
  exact (dead listed lA s1 a1 X c hE A hr).elim
 | succ fuel ih=>
  intro listed lA s1 a1 X hle c hE A;refine ⟨fun hr=>(dead listed lA s1 a1 X c hE A hr).elim,fun k hk'=>?_⟩;have hl:=(nD hk').1;have hlt:k < ops.size:=by have:=(xp hl).2;rw [c.s1] at this;exact this
  have hset:=fun k'=>EF (xp hl).2 (i:=k) k';by_cases ej:k=j
  ·subst ej;have cB:=Kh hB c.s1;have AB:=switch (hsB:=hsB) hA hB hcA hcB hdB hdep hnd hag hnA hnB hE c A;refine Jr hB hlt (EL hcB hdB rB kB hL hs0 AB (GI hB cB hk' (.inl fun e=>hij e.symm)) fun s2 a2 X2 A2=>?_);exact T6 hB hcB hdB rB kB hL hs0 qB fuel _ _ s2 a2 X2 (by have:=tL hl;omega) (cB.set hB hlt) (by rw [hset];simp) A2
  ·refine Jr hA hlt (EL hcA hdA rA kA hL hs0 A (GI hA c hk' (.inl ej)) fun s2 a2 X2 A2=>?_);by_cases ei:k=i
   ·subst ei;exact T6 hA hcA hdA rA kA hL hs0 qA fuel _ _ s2 a2 X2 (by have:=tL hl;omega) (c.set hA hlt) (by rw [hset];simp) A2
   ·exact ih _ _ s2 a2 X2 (by have:=tL hl;omega) (c.set hA hlt) (hE.set hk' ei ej) A2
end
end Go.Av
namespace Go.Av
theorem MB {p b:Nat}(h:b < p):Hg p b=b:=by unfold Hg;rw [if_neg (by omega),if_neg (by omega)]
theorem PX (p:Nat):Hg p p=p+1:=by unfold Hg;rw [if_pos rfl]
theorem Ui (p:Nat):Hg p (p+1)=p:=by unfold Hg;rw [if_neg (by omega),if_pos rfl]
theorem zed (p b:Nat):Hg p (Hg p b)=b:=by
 by_cases h1:b=p
 ·subst h1;rw [PX,Ui]
 ·by_cases h2:b=p+1
  ·subst h2;rw [Ui,PX]
  ·have:Hg p b=b:=by unfold Hg;rw [if_neg h1,if_neg h2]
   rw [this,this]
theorem SwL.len {p nt:Nat}:∀ {a b:List J},SwL p nt a b->a.length=b.length
 | _,_,.nil=>rfl
 | _,_,.cons _ _ _ _ _ t=>by simp [t.len]
theorem SwL.get {p nt:Nat}:∀ {a b:List J},SwL p nt a b->∀ (i:Nat) (c:J),a[i]?=some c->∃ c',b[i]?=some c'/\SwV p nt c c'
 | _,_,.nil,i,c,h=>by simp at h
 | _, _, .cons x y _ _ h t, 0, c, hc => by
  obtain rfl:=sj hc;exact ⟨y,rfl,h⟩
 | _,_,.cons x y _ _ h t,i+1,c,hc=>t.get i c (by simpa using hc)
theorem SwV.cell {p nt:Nat}{a b:J}:SwV p nt a b->b.isCell=true->a.isCell=true
 | .same _ _,h=>h
 | .ptr _ _,_=>rfl
 | .sl _ _ _ _ _,_=>rfl
structure u9 (s s2:St) (p nt:Nat):Prop where
 w:s2.w=s.w
 tk:s2.h.toks=s.h.toks
 mt:s2.mt=s.mt
 qb:s2.qb=s.qb
 qt:s2.qt=s.qt
 mb:∀ b:Nat,s2.mb[b]?=s.mb[Hg p b]?
 emp:∀ b:Nat,s.h.blks[Hg p b]?=some []->s2.h.blks[b]?=some []
 q:s.qb<=p
section
variable {s s2:St} {p nt:Nat} (h:u9 s s2 p nt)
include h
theorem u9.imm {X o:Nat}(hi:Q8 s X o):Q8 s2 X o:=by
 refine ⟨fun b hb hX=>?_,fun t z n hq ht hn=>?_⟩
 ·rw [h.mb] at hX;refine h.emp b (hi.1 _ ?_ hX);rw [h.qb] at hb;have:=h.q;unfold Hg;split
  ·omega
  ·split <;> omega
 ·rw [h.mt] at ht;rw [h.tk] at hn;rw [h.qt] at hq;exact hi.2 t z n hq ht hn
mutual
theorem u9.rep {v:J}{x:Value}(hu:v.under p nt=true):dH s v x->dH s2 v x
 | .int k n=>.int k n
 | .bool b=>.bool b
 | .str x=>.str x
 | .nilp=>.nilp
 | .ptr b off X hb=>.ptr b off X (by rw [h.mb,MB (by simpa [J.under] using hu)];exact hb)
 | .vptr cs off X o hr=>.vptr cs off X o (u9.repR (by simpa [J.under] using hu) hr)
 | .sl b off sz n c X cap hb hc hcap hk=>.sl b off sz n c X cap (by rw [h.mb,MB (by simpa [J.under] using hu)];exact hb) hc hcap (by rw [h.w];exact hk)
 | .gsl t es X o sz c m n hr hc hn ht hm hv => by
  simp only [J.under,Bool.and_eq_true,decide_eq_true_eq] at hu;exact .gsl t es X o sz c m n (u9.repE hu.2 hr) hc hn (by rw [h.tk]; exact ht) hm (fun e => by
   obtain ⟨p,q,r⟩:=hv e;exact ⟨by rw [h.mt];exact p,q,by rw [h.w];exact r⟩)
 | .vsl clip es X o sz c n hr hn hc hcl=>.vsl clip es X o sz c n (u9.repE (by simpa [J.under] using hu) hr) hn hc hcl
 | .vsl0 clip a c hcl hz=>.vsl0 clip a c hcl hz
 | .nsl=>.nsl
 | .fn f a b a' b' ha hb => by
  simp only [J.under,Bool.and_eq_true] at hu;exact .fn f a b a' b' (u9.repL hu.1 ha) (u9.repL hu.2 hb)
 | .nfn=>.nfn
 | .iface t v v' hr=>.iface t v v' (u9.rep (by simpa [J.under] using hu) hr)
 | .nif=>.nif
 | .agg cs vs hr hc=>.agg cs vs (u9.repL (by simpa [J.under] using hu) hr) hc
 | .tup cs vs hr=>.tup cs vs (u9.repL (by simpa [J.under] using hu) hr)
theorem u9.repL {v:List J}{x:List Value}(hu:aE p nt v=true):aU s v x->aU s2 v x
 | .nil=>.nil
 | .cons x y xs ys hr ht => by
  simp only [aE,Bool.and_eq_true] at hu;exact .cons x y xs ys (u9.rep hu.1 hr) (u9.repL hu.2 ht)
theorem u9.repR {X o:Nat}{v:List J}(hu:aE p nt v=true):d8 s X o v->d8 s2 X o v
 | .nil X o=>.nil X o
 | .cons X o c cs v hv hi hk hr ht => by
  simp only [aE,Bool.and_eq_true] at hu;exact .cons X o c cs v (by rw [h.w];exact hv) (u9.imm h hi) hk (u9.rep hu.1 hr) (u9.repR hu.2 ht)
theorem u9.repE {X sz o:Nat}{v:List (List J)}(hu:aO p nt v=true):gQ s X sz o v->gQ s2 X sz o v
 | .nil X sz o=>.nil X sz o
 | .cons X sz o e es hl hr ht => by
  simp only [aO,Bool.and_eq_true] at hu;exact .cons X sz o e es hl (u9.repR hu.1 hr) (u9.repE hu.2 ht)
end
theorem u9.repV {a b:J}{x:Value}(hv:SwV p nt a b)(hr:dH s b x):dH s2 a x:=by
 cases hv with
 | same _ hu=>exact u9.rep h hu hr
 | ptr b off=>
  cases hr with
  | ptr _ _ X hb=>exact .ptr _ off X (by rw [h.mb,zed];exact hb)
 | sl b off sz n cap=>
  cases hr with
  | sl _ _ _ _ c X _ hb hc hcap hk=>exact .sl _ off sz n c X cap (by rw [h.mb,zed];exact hb) hc hcap (by rw [h.w];exact hk)
end
end Go.Av
namespace Go.Av
theorem zoL {α:Type}(l:List α)(x y:α)(b:Nat):(l++[x,y])[b]?=if b < l.length then l[b]? else if b=l.length then some x else if b=l.length+1 then some y else none:=by
 by_cases h1:b < l.length
 ·rw [if_pos h1,List.getElem?_append_left h1]
 ·rw [if_neg h1,List.getElem?_append_right (by omega)];by_cases h2:b=l.length
  ·subst h2;simp
  ·rw [if_neg h2];by_cases h3:b=l.length+1
   ·subst h3;rw [if_pos rfl,show l.length+1 - l.length=1 by omega];rfl
   ·rw [if_neg h3,List.getElem?_eq_none (by simp;omega)]
theorem zlw {C:eD}{s s':St}{n:Nat}{frA frB:Fr}{h:O}{a b a' b':List J}{tm:Array Value}(hs:iC C s)(hh:s.h=h)(hq:s.qb<=s.mb.length)
  (hB:s'.h=⟨h.blks++[b',a'],h.toks⟩) (hs':iC C s') (hle:Le s s') (hf:du n s' frB tm) (ha:a≠[]) (hb:b≠[])
  (la:SwL h.blks.length h.toks.length a a') (lb:SwL h.blks.length h.toks.length b b') (hv:∀ t,SwV h.blks.length h.toks.length (frA t) (frB t)):
  ∃ s2:St,s2.h=⟨h.blks++[a,b],h.toks⟩/\s2.w=s'.w/\iC C s2/\Le s s2/\du n s2 frA tm:=by
 obtain ⟨p,hp⟩:∃ p,h.blks.length=p:=⟨_,rfl⟩;have hmp:s.mb.length=p:=by rw [hs.lb,hh,hp]
 have hmp':s'.mb.length=p+2:=by rw [hs'.lb,hB];simp [hp]
 rw [hp] at la lb hv;have hB1:s'.h.blks=h.blks++[b',a']:=by rw [hB]
 have hB2:s'.h.toks=h.toks:=by rw [hB]
 have sw2:∀ q,q < p+2->Hg p q < p+2:=fun q hq=>by unfold Hg;split <;> (try split) <;> omega
 have sw3:∀ q,¬q < p+2->Hg p q=q:=fun q hq=>by unfold Hg;rw [if_neg (by omega),if_neg (by omega)]
 have hgb:∀ q,s'.h.blks[q]?=if q < p then h.blks[q]? else if q=p then some b' else if q=p+1 then some a' else none:=fun q=>by rw [hB1,zoL,hp]
 have hga:∀ q,(h.blks++[a,b])[q]?=if q < p then h.blks[q]? else if q=p then some a else if q=p+1 then some b else none:=fun q=>by rw [zoL,hp]
 let mb2:List Nat:=(List.range (p+2)).map fun q=>s'.mb.getD (Hg p q) 0
 have hmb2 : ∀ q : Nat, mb2[q]? = s'.mb[Hg p q]? := fun q => by
  show ((List.range (p+2)).map fun q=>s'.mb.getD (Hg p q) 0)[q]?=_;rw [List.getElem?_map];by_cases hq:q < p+2
  ·rw [List.getElem?_range hq];have:=sw2 q hq;simp [List.getD_eq_getElem?_getD,hmp',this]
  ·rw [List.getElem?_eq_none (by simpa using hq),List.getElem?_eq_none (by rw [hmp',sw3 q hq];omega)];rfl
 let s2:St:=⟨s'.w,⟨h.blks++[a,b],h.toks⟩,mb2,s'.mt,s'.qb,s'.qt⟩
 have S:u9 s' s2 p h.toks.length:=by
  refine ⟨rfl,hB2.symm,rfl,rfl,rfl,hmb2,fun q hq'=>?_,by rw [hle.qb,<- hmp];exact hq⟩;show (h.blks++[a,b])[q]?=some [];rw [hga];rw [hgb] at hq';rcases Nat.lt_trichotomy q p with hl | rfl | hg
  ·rw [MB hl,if_pos hl] at hq';rw [if_pos hl];exact hq'
  ·exfalso;rw [PX,if_neg (by omega),if_neg (by omega),if_pos rfl] at hq';have e:=sj hq';have:=la.len;rw [e] at this;exact ha (List.length_eq_zero_iff.1 this)
  ·by_cases e1:q=p+1
   ·exfalso;subst e1;rw [Ui,if_neg (by omega),if_pos rfl] at hq';have e:=sj hq';have:=lb.len;rw [e] at this;exact hb (List.length_eq_zero_iff.1 this)
   ·rw [sw3 q (by omega),if_neg (by omega),if_neg (by omega),if_neg e1] at hq'
    cases hq'
 have hund:∀ {v:J} {x:Value},dH s v x->v.under p h.toks.length=true:=fun hr=>vk (by omega) (by rw [hh];exact Nat.le_refl _) hr;refine ⟨s2,rfl,rfl,⟨?_,?_,?_,?_,hs'.injt,?_,hs'.old,?_⟩,⟨hle.qb,hle.qt,hle.blocks,?_,?_,?_,?_⟩,hf.1,fun i=>S.repV (hv i) (hf.2 i)⟩
 ·show mb2.length=(h.blks++[a,b]).length;simp [mb2,hp]
 ·show s'.mt.length=h.toks.length;rw [hs'.lt,hB2]
 ·intro q X cs hX hcs;have hX:s'.mb[Hg p q]?=some X:=by rw [<- hmb2];exact hX
  have hcs:(h.blks++[a,b])[q]?=some cs:=hcs;rw [hga] at hcs;rcases Nat.lt_trichotomy q p with hl | rfl | hg
  ·rw [MB hl] at hX;rw [if_pos hl] at hcs;obtain ⟨vs,e,fz,h1,h2,h3,h4⟩:=hs'.blk q X cs hX (by rw [hgb,if_pos hl];exact hcs);refine ⟨vs,e,fz,h1,h2,h3,fun i c hc=>?_⟩;obtain ⟨g1,v,g2,g3⟩:=h4 i c hc;refine ⟨g1,v,g2,S.rep ?_ g3⟩;obtain ⟨_,_,_,_,_,_,k4⟩:=hs.blk q _ cs (List.getElem?_eq_getElem (by omega)) (by rw [hh];exact hcs);obtain ⟨_,v0,_,k5⟩:=k4 i c hc;exact hund k5
  ·rw [PX] at hX;rw [if_neg (by omega),if_pos rfl] at hcs;obtain rfl:=sj hcs;obtain ⟨vs,e,fz,h1,h2,h3,h4⟩:=hs'.blk _ X a' hX (by rw [hgb,if_neg (by omega),if_neg (by omega),if_pos rfl]);refine ⟨vs,e,fz,h1,by rw [la.len];exact h2,h3,fun i c hc=>?_⟩;obtain ⟨c',hc',hcv⟩:=la.get i c hc;obtain ⟨g1,v,g2,g3⟩:=h4 i c' hc';exact ⟨hcv.cell g1,v,g2,S.repV hcv g3⟩
  ·by_cases e1:q=p+1
   ·subst e1;rw [Ui] at hX;rw [if_neg (by omega),if_neg (by omega),if_pos rfl] at hcs;obtain rfl:=sj hcs;obtain ⟨vs,e,fz,h1,h2,h3,h4⟩:=hs'.blk _ X b' hX (by rw [hgb,if_neg (by omega),if_pos rfl]);refine ⟨vs,e,fz,h1,by rw [lb.len];exact h2,h3,fun i c hc=>?_⟩;obtain ⟨c',hc',hcv⟩:=lb.get i c hc;obtain ⟨g1,v,g2,g3⟩:=h4 i c' hc';exact ⟨hcv.cell g1,v,g2,S.repV hcv g3⟩
   ·rw [if_neg (by omega),if_neg (by omega),if_neg e1] at hcs
    cases hcs
 ·intro q q' X hX hX' hlt;have hX:s'.mb[Hg p q]?=some X:=by rw [<- hmb2];exact hX
  have hX':s'.mb[Hg p q']?=some X:=by rw [<- hmb2];exact hX'
  by_cases hlt':Hg p q < Hg p q'
  ·exact S.emp q (hs'.injb _ _ X hX hX' hlt')
  ·exfalso;have e1:q=p:=by
    unfold Hg at hlt';split at hlt' <;> (try split at hlt') <;> (try split at hlt') <;> (try split at hlt') <;> omega
   have e2:q'=p+1:=by
    subst e1;rw [PX] at hlt'
    unfold Hg at hlt';split at hlt' <;> (try split at hlt') <;> omega
   subst e1 e2;rw [PX] at hX;rw [Ui] at hX';have:=hs'.injb _ _ X hX' hX (by omega);rw [hgb,if_neg (by omega),if_pos rfl] at this;have e:=sj this;have:=lb.len;rw [e] at this;exact hb (List.length_eq_zero_iff.1 this)
 ·intro q t X z hX;exact hs'.disj _ t X z (by rw [<- hmb2];exact hX)
 ·intro g cs hg;obtain ⟨g1,vs,e,fz,g2,g3⟩:=hs'.glob g cs hg;exact ⟨S.repR (Aq (by omega) (by rw [hh];exact Nat.le_refl _) (hs.glob g cs hg).1) g1,vs,e,fz,g2,g3⟩
 ·intro X o v hi hat;obtain ⟨k1,k2⟩:=hle.cells X o v hi hat;exact ⟨S.imm k1,k2⟩
 ·intro q X hX;have hl:q < p:=by rw [<- hmp];exact (List.getElem?_eq_some_iff.1 hX).1
  show mb2[q]?=some X;rw [hmb2,MB hl];exact hle.mb q X hX
 ·intro t m ht;obtain ⟨m',h1,h2,h3⟩:=hle.mt t m ht;exact ⟨m',by show h.toks[t]?=some m';rw [<- hB2];exact h1,h2,h3⟩
 ·refine ⟨hle.kept.os,hle.kept.tape,hle.kept.out,hle.kept.size,fun X hX ht=>hle.kept.trk X hX ?_,hle.kept.heap⟩;rcases ht with ⟨q,hq'⟩ | ht
  ·exact .inl ⟨Hg p q,by rw [<- hmb2];exact hq'⟩
  ·exact .inr ht
section
variable {C:eD} {P:Program} {s:St} {n:Nat} {fr:Fr} {a:Act}
variable {L:az} {ops:Array Oper} {h:O} {Q:Exit->Act->World->Prop}
theorem MY {t:Nat}:∀ {is:List AI} {q:Nat} {x:AI},is[q]?=some x->x.dst=some t->t∈bj is
 | [],q,x,h,_=>by simp at h
 | y :: is, 0, x, h, hd => by
  obtain rfl:=sj h;simp [bj,hd]
 | y :: is, q + 1, x, h, hd => by
  have:=MY (is:=is) (q:=q) (by simpa using h) hd;unfold bj;split
  ·exact List.mem_cons_of_mem _ this
  ·exact this
structure RS (C:eD) (P:Program) (n:Nat) (ops:Array Oper) (oA oB:List Nat) (i j:Nat) (vA vB:Nat->Bool) (isA isB:List AI) (dep:Nat->Bool):Prop where
 hij:i≠j
 hi:i < ops.size
 hA:pQ ops.size oA
 hB:pQ ops.size oB
 cA:qn C P n (a7 ops oA j i) vA 0 (a7 ops oA j i).toList=some isA
 dA:lR (a7 ops oA j i) (aq (a7 ops oA j i).toList) isA
 cB:qn C P n (a7 ops oB i j) vB 0 (a7 ops oB i j).toList=some isB
 dB:lR (a7 ops oB i j) (aq (a7 ops oB i j).toList) isB
 dp:PM ops dep i j=true
 nd:PN ops=true
 nA:∀ k x,k < ops.size->dep k=false->isA[oA.idxOf k]?=some x->xX x.op=false
 nB:∀ k x,k < ops.size->dep k=false->isB[oB.idxOf k]?=some x->xX x.op=false
def zio (ops:Array Oper)(oA oB:List Nat)(i j:Nat)(isA isB:List AI)(dep:Nat->Bool):AC:=
 .draw2 (eU (a7 ops oA j i) (aq (a7 ops oA j i).toList) isA) (eU (a7 ops oB i j) (aq (a7 ops oB i j).toList) isB) (zhN ops.size oA oB dep)
theorem zeI {val:Nat->Bool}{is:List AI}{c:AC}(ht:two C P n ops val is=some c):
  ∃ oA oB i j vA vB isA isB dep,RS C P n ops oA oB i j vA vB isA isB dep/\c=zio ops oA oB i j isA isB dep:=by
 unfold two at ht;simp only [bind,Option.bind_eq_some_iff] at ht;obtain ⟨⟨i,j⟩,hp,isA,cA,isB,cB,ht⟩:=ht;split at ht
 ·rename_i hk;obtain rfl:=sj ht;refine ⟨(zdZ ops (aq ops.toList) i).1,(zdZ ops (aq ops.toList) i).2,i,j,fun q=>val ((zdZ ops (aq ops.toList) i).1.getD q 0),fun q=>val ((zdZ ops (aq ops.toList) i).2.getD q 0),isA,isB,zd0 (aq ops.toList) i j,?_,rfl⟩;unfold zjN at hk;simp only [Bool.and_eq_true,decide_eq_true_eq,bne_iff_ne,ne_eq,List.all_eq_true,List.mem_range,Bool.or_eq_true] at hk;obtain ⟨⟨⟨⟨⟨⟨⟨⟨h1,h2⟩,h3⟩,h4⟩,h5⟩,h6⟩,h7⟩,h8⟩,h9⟩:=hk;refine ⟨h2,h1,MO h3,MO h4,cA,Dy h5,cB,Dy h6,h7,h8,fun k x hk hd hx=>?_,fun k x hk hd hx=>?_⟩
  ·have:=((h9 k hk).resolve_left (by rw [hd];simp)).1;unfold quietAt at this;rw [hx] at this;simpa using this
  ·have:=((h9 k hk).resolve_left (by rw [hd];simp)).2;unfold quietAt at this;rw [hx] at this;simpa using this
 ·cases ht
theorem zeK {oA oB:List Nat}{i j:Nat}{vA vB:Nat->Bool}{isA isB:List AI}{dep:Nat->Bool}(T:RS C P n ops oA oB i j vA vB isA isB dep)
  {frA frB:Fr} {hsA hsB:List O} {vsA vsB:List J} {FA FB:Nat->Fr} {HA HB:Nat->O} {id:Nat} (hm:(P.follows .mixedOrders||!Region.departs ops||qo ops)=true)
  (rA:mu C P L (eU (a7 ops oA j i) (aq (a7 ops oA j i).toList) isA) fr h frA hsA vsA FA HA) (kA:wg C P L (eU (a7 ops oA j i) (aq (a7 ops oA j i).toList) isA) vsA fr (h :: hsA))
  (rB:mu C P L (eU (a7 ops oB i j) (aq (a7 ops oB i j).toList) isB) fr h frB hsB vsB FB HB) (kB:wg C P L (eU (a7 ops oB i j) (aq (a7 ops oB i j).toList) isB) vsB fr (h :: hsB))
  (hE:WX h (eU (a7 ops oA j i) (aq (a7 ops oA j i).toList) isA) (zhN ops.size oA oB dep) (frA,hsA,vsA) (frB,hsB,vsB))
  (hh:s.h=h) (hs0:iC C s) (hL:oT L s) (hf:du n s fr a.tmps)
  (hQ:∀ (s':St) (a':Act),s'.h=hsA.getLastD h->iC C s'->Le s s'->du n s' frA a'.tmps->a'.defers=a.defers->Q .normal a' s'.w):
  (Code.region id ops true).wp P Q a s.w:=by
 obtain ⟨hE1,hag⟩:=hE;simp only at hE1 hag;have hag':∀ k,k < ops.size->dep k=false->vsA[oA.idxOf k]?=vsB[oB.idxOf k]?:=fun k hk hd=>
  hag (oA.idxOf k,oB.idxOf k) (List.mem_map.2 ⟨k,List.mem_filter.2 ⟨List.mem_range.2 hk,by rw [hd];rfl⟩,rfl⟩)
 have B9:isA.length=ops.size:=by have:=(jH T.cA).1;simpa [kP T.hA] using this
 have lenB:isB.length=ops.size:=by have:=(jH T.cB).1;simpa [kP T.hB] using this
 have kA0 : ∀ t, t ∉ bj (eU (a7 ops oA j i) (aq (a7 ops oA j i).toList) isA) -> frA t = fr t := fun t ht => by
  rw [<- rA.frE];rcases rA.fits _ (Nat.le_refl _) t with ⟨q,x,v,_,hx,_,hd,_⟩ | ⟨_,e⟩
  ·exact (ht (MY hx hd)).elim
  ·exact e
 have kB0 : ∀ t, t ∉ bj (eU (a7 ops oA j i) (aq (a7 ops oA j i).toList) isA) -> frB t = fr t := fun t ht => by
  rw [<- rB.frE];rcases rB.fits _ (Nat.le_refl _) t with ⟨q,x,v,_,hx,_,hd,_⟩ | ⟨_,e⟩
  ·exfalso;have hlt:q < ops.size:=by have:=(List.getElem?_eq_some_iff.1 hx).1;rwa [iJ,lenB] at this
   obtain ⟨k,hk,rfl⟩:=T.hB.sur hlt;obtain ⟨o,ho⟩:∃ o,ops[k]?=some o:=⟨_,Array.getElem?_eq_getElem hk⟩;obtain ⟨y,_,hy,_,ey,_⟩:=vM T.hB T.cB (bs:=aq (a7 ops oB i j).toList) ho;rw [hx] at hy;obtain rfl:=sj hy;obtain ⟨z,_,hz,_,ez,_⟩:=vM T.hA T.cA (bs:=aq (a7 ops oA j i).toList) ho;exact ht (MY hz (by rw [ez,<- ey];exact hd))
  ·exact e
 have qB:∀ (s':St) (a':Act),s'.h=hsB.getLastD h->iC C s'->Le s s'->du n s' frB a'.tmps->a'.defers=a.defers->Q .normal a' s'.w:=by
  intro s' a' e1 e2 e3 e4 e5;rcases hE1 with ⟨g1,g2⟩ | ⟨x,y,x',y',g1,g2,g3,g4,g5,g6,g7⟩
  ·have : frA = frB := funext fun t => by
    by_cases ht:t∈bj (eU (a7 ops oA j i) (aq (a7 ops oA j i).toList) isA)
    ·exact g2 t ht
    ·rw [kA0 t ht,kB0 t ht]
   exact hQ s' a' (by rw [g1];exact e1) e2 e3 (by rw [this];exact e4) e5
  ·have hv : ∀ t, SwV h.blks.length h.toks.length (frA t) (frB t) := fun t => by
    by_cases ht:t∈bj (eU (a7 ops oA j i) (aq (a7 ops oA j i).toList) isA)
    ·exact g7 t ht
    ·rw [kA0 t ht,kB0 t ht];exact .same _ (vk (by rw [hs0.lb,hh];exact Nat.le_refl _) (by rw [hh];exact Nat.le_refl _) (hf.2 t))
   obtain ⟨s2,f1,f2,f3,f4,f5⟩:=zlw hs0 hh hL.lb (by rw [e1];exact g2) e2 e3 e4 g3 g4 g5 g6 hv;have:=hQ s2 a' (by rw [f1];exact g1.symm) f3 f4 f5 e5;rw [f2] at this;exact this
 refine wp_region_draw fun t=>?_
 suffices hgo:wpAny P .any ops Q ops.size (Array.replicate ops.size false) a {s.w with drawn:=s.w.drawn+1} by
  rw [Region.schedule];split
  ·exact wpAny_sound ops.size t _ a _ hgo
  ·rename_i hno;have hdep:qo ops=true:=by
    rw [Bool.or_eq_true] at hm;exact hm.resolve_left hno
   unfold qo at hdep;rw [Bool.and_eq_true] at hdep;split
   ·exact wpAny_sound ops.size _ _ a _ (DI hdep.1 _ _ _ _ (by simp) hgo)
   ·exact wpAny_sound ops.size _ _ a _ (DI hdep.2 _ _ _ _ (by simp) hgo)
 have e0:∀ k,py (Array.replicate ops.size false) k=false:=by
  intro k;unfold py
  by_cases hk:k < ops.size <;> simp [Array.getD_eq_getD_getElem?,Array.getElem?_replicate,hk]
 have hle:=C8 s {s.w with drawn:=s.w.drawn+1} ⟨rfl,rfl,rfl,Nat.le_refl _,fun _ _=>rfl⟩;have hsim:=HF hs0 {s.w with drawn:=s.w.drawn+1} ⟨rfl,rfl,rfl,Nat.le_refl _,fun _ _=>rfl⟩;refine zhP T.hA T.hB T.hij T.hi T.cA T.dA rA kA T.cB T.dB rB kB T.dp T.nd hag' T.nA T.nB hL hs0 hQ qB ops.size _ (Array.replicate ops.size false) {s with w:={s.w with drawn:=s.w.drawn+1}} a fr ?_
  ⟨by simp,by simp,fun k=>by rw [e0,e0]⟩ ⟨e0 i,e0 j,fun k o ho hl=>by rw [e0] at hl;cases hl⟩
  ⟨by simp [kP T.hA],fun j hj=>by rw [e0] at hj;simp at hj,Fits.nil fun j hj=>by rw [e0] at hj;simp at hj,hsim,hle,hf.le hle,rfl,?_⟩
 ·simp [left]
 ·have:BQ isA (py (Array.replicate ops.size false))=0:=by
   have:BQ isA (py (Array.replicate ops.size false))=BQ isA (fun k=>false):=pS fun k c _ _=>by rw [e0]
   rw [this];simp [BQ]
  rw [this];simpa using hh.symm
end
end Go.Av
namespace Go.Av
section
variable {C:eD} {P:Program} {s:St} {n:Nat} {fr:Fr} {a:Act} {w:World} {Q:Exit->Act->World->Prop}
def wpL (P:Program)(x:Code)(Q:Exit->Act->World->Prop)(a:Act)(w:World):Prop:=
 ∀ (b:Frame) (k:List Item) (cs:List Frame),∃ e a' w',Q e a' w'/\Arrives P (lone (b.at a (.code x :: .inLoop x :: k)) cs w) b k cs e a' w'
def wpR (P:Program)(x:Code)(Q:Exit->Act->World->Prop)(a:Act)(w:World):Prop:=
 match x with
 | .loop y=>wpL P y Q a w
 | x=>x.wp P Q a w
theorem zlN {x : Code}(h : wpL P x Q a w) : (Code.loop x).wp P Q a w := fun b k cs => by
 obtain ⟨e,a',w',hq,harr⟩:=h b k cs;exact ⟨e,a',w',hq,.of_steps (.one step_loop) harr⟩
theorem qI {x:Code}(h:wpR P x Q a w):x.wp P Q a w:=by
 cases x <;> first | exact zlN h | exact h
theorem Qm {x:Code}(h:x.wp P (Exit.then (wpL P x Q) Q) a w):wpL P x Q a w:=by
 intro b k cs;obtain ⟨e,a₁,w₁,hq,harr⟩:=h b (.inLoop x :: k) cs
 cases e with
 | normal=>
  obtain ⟨e₂,a₂,w₂,hq₂,harr₂⟩:=hq b k cs;exact ⟨e₂,a₂,w₂,hq₂,.of_steps (Steps.trans harr (.one step_inLoop)) harr₂⟩
 | exit id=>exact ⟨_,a₁,w₁,hq,.pass (x:=.inLoop x) rfl (fun _ _=>.inl (by simp)) harr⟩
 | goto l=>exact ⟨_,a₁,w₁,hq,.pass (x:=.inLoop x) rfl (fun _ _=>.inl (by simp)) harr⟩
 | ret=>exact ⟨_,a₁,w₁,hq,.pass (x:=.inLoop x) rfl (fun _ _=>.inl (by simp)) harr⟩
 | panic ch=>exact ⟨_,a₁,w₁,hq,.pass (x:=.inLoop x) rfl (fun _ _=>.inl (by simp)) harr⟩
 | outgrown=>exact ⟨_,a₁,w₁,hq,.pass (x:=.inLoop x) rfl (fun _ _=>.inl (by simp)) harr⟩
def Na (P:Program)(x:Code)(Q:Exit->Act->World->Prop)(e:Exit)(a:Act)(w:World):Prop:=
 ∀ (m:Machine) (b:Frame) (k:List Item) (cs:List Frame),Arrives P m b (.inScope x :: k) cs e a w->∃ e' a' w',Q e' a' w'/\Arrives P m b k cs e' a' w'
theorem ze6 {x:Code}(h:x.wp P (Na P x Q) a w):(Code.scope x).wp P Q a w:=by
 intro b k cs;obtain ⟨e,a₁,w₁,hq,harr⟩:=h b (.inScope x :: k) cs;exact hq _ b k cs (.of_steps (.one step_scope) harr)
theorem ZT {x:Code}{e:Exit}(he:∀ l,e=.goto l->findLabel x l=none)(h:Q e a w):Na P x Q e a w:=by
 intro m b k cs harr
 cases e with
 | normal=>exact ⟨.normal,a,w,h,Steps.trans harr (.one step_inScope)⟩
 | exit id=>exact ⟨.exit id,a,w,h,fun k' hk=>harr k' (by simp [exitTo,hk])⟩
 | goto l=>exact ⟨.goto l,a,w,h,fun k' hk=>harr k' (by simp [gotoIn,he l rfl,hk])⟩
 | ret=>exact ⟨_,a,w,h,harr⟩
 | panic ch=>exact ⟨_,a,w,h,harr⟩
 | outgrown=>exact ⟨_,a,w,h,harr⟩
theorem VH {x rest:Code}{l:Nat}(hf:findLabel x l=some rest)(h:rest.wp P (Na P x Q) a w):Na P x Q (.goto l) a w:=by
 intro m b k cs harr;have hg:gotoIn l (.inScope x :: k)=some (.code rest :: .inScope x :: k):=by simp [gotoIn,hf]
 obtain ⟨e,a₁,w₁,hq,harr₁⟩:=h b (.inScope x :: k) cs;exact hq m b k cs (.of_steps (harr _ hg) harr₁)
inductive wQ (C:eD) (P:Program) (fl:KK) (n:Nat):Code->AC->Prop
 | skip:wQ C P fl n .skip .skip
 | reg (id:Nat) (ops:Array Oper) (is:List AI) (h:qn C P n ops (fl.val id) 0 ops.toList=some is):wQ C P fl n (.region id ops false) (.reg is)
 | draw (id:Nat) (ops:Array Oper) (is:List AI) (h:qn C P n ops (fl.val id) 0 ops.toList=some is) (hd:GH ops (aq ops.toList) is=true)
   (hm:(P.follows .mixedOrders||!Region.departs ops||qo ops)=true):wQ C P fl n (.region id ops true) (.draw (eU ops (aq ops.toList) is))
 | draw2 (id:Nat) (ops:Array Oper) (oA oB:List Nat) (i j:Nat) (vA vB:Nat->Bool) (isA isB:List AI) (dep:Nat->Bool) (T:RS C P n ops oA oB i j vA vB isA isB dep)
   (hm:(P.follows .mixedOrders||!Region.departs ops||qo ops)=true):wQ C P fl n (.region id ops true)
    (.draw2 (eU (a7 ops oA j i) (aq (a7 ops oA j i).toList) isA) (eU (a7 ops oB i j) (aq (a7 ops oB i j).toList) isB) (zhN ops.size oA oB dep))
 | seq (x y:Code) (a b:AC) (h1:cc C P fl n x=some a) (h2:cc C P fl n y=some b):wQ C P fl n (.seq x y) (.seq a b)
 | cond (c:Operand) (c':AO) (x y:Code) (a b:AC) (h0:co C c=some c') (h1:cc C P fl n x=some a) (h2:cc C P fl n y=some b):wQ C P fl n (.cond c x y) (.cond c' a b)
 | blk (id:Nat) (x:Code) (a:AC) (h1:cc C P fl n x=some a):wQ C P fl n (.block id x) (.blk id a)
 | loop (x:Code) (a:AC) (h1:cc C P fl n x=some a):wQ C P fl n (.loop x) (.loop a)
 | exit (id:Nat):wQ C P fl n (.exit id) (.exit id)
 | scope (x:Code) (a:AC) (h1:cc C P fl n x=some a):wQ C P fl n (.scope x) (.scope a)
 | label (l:Nat):wQ C P fl n (.label l) (.label l)
 | goto (l:Nat):wQ C P fl n (.goto l) (.goto l)
 | ret:wQ C P fl n .ret .ret
theorem l7 {fl:KK}{x:Code}{c:AC}(h:cc C P fl n x=some c):wQ C P fl n x c:=by
 cases x <;> (try simp only [cc] at h) <;> first
  | (simp at h;done)
  | (obtain rfl:=sj h;constructor;done)
  | skip
 case region id ops d=>
  cases d with
  | false=>
   simp only [cc] at h;obtain ⟨is,h1,rfl⟩:=map_some h;exact .reg id ops is h1
  | true=>
   simp only [cc] at h;split at h
   ·rename_i is h1;split at h
    ·rename_i hm;split at h
     ·rename_i hd;obtain rfl:=sj h;exact .draw id ops is h1 hd hm
     ·obtain ⟨oA,oB,i,j,vA,vB,isA,isB,dep,T,rfl⟩:=zeI h;exact .draw2 id ops oA oB i j vA vB isA isB dep T hm
    ·simp at h
   ·simp at h
 case seq x y=>
  split at h
  ·rename_i p q h1 h2;obtain rfl:=sj h;exact .seq x y p q h1 h2
  ·simp at h
 case cond c0 x y=>
  split at h
  ·rename_i c' p q h0 h1 h2;obtain rfl:=sj h;exact .cond c0 c' x y p q h0 h1 h2
  ·simp at h
 case block id x=>
  obtain ⟨y,h1,rfl⟩:=map_some h;exact .blk id x y h1
 case loop x=>
  obtain ⟨y,h1,rfl⟩:=map_some h;exact .loop x y h1
 case scope x=>
  obtain ⟨y,h1,rfl⟩:=map_some h;exact .scope x y h1
theorem LL {fl:KK}(l:Nat):∀ (x:Code) (c:AC),cc C P fl n x=some c->
  (∀ r,kC c l=some r->∃ y,findLabel x l=some y/\cc C P fl n y=some r)/\(kC c l=none->findLabel x l=none):=by
 intro x
 induction x with
 | seq x y ih1 ih2=>
  intro c h
  cases l7 h with
  | seq _ _ p q h1 h2=>
   obtain ⟨a1,a2⟩:=ih1 p h1;obtain ⟨b1,b2⟩:=ih2 q h2;refine ⟨fun r hr=>?_,fun hr=>?_⟩
   ·simp only [kC] at hr;split at hr
    ·rename_i r1 hr1;obtain rfl:=sj hr;obtain ⟨y1,e1,e2⟩:=a1 r1 hr1;exact ⟨.seq y1 y,by simp [findLabel,e1],by simp [cc,e2,h2]⟩
    ·rename_i hr1;obtain ⟨y1,e1,e2⟩:=b1 r hr;exact ⟨y1,by simp [findLabel,a2 hr1,e1],e2⟩
   ·simp only [kC] at hr;split at hr
    ·simp at hr
    ·rename_i hr1;simp [findLabel,a2 hr1,b2 hr]
 | label l'=>
  intro c h
  cases l7 h
  refine ⟨fun r hr=>?_,fun hr=>?_⟩
  ·simp only [kC] at hr;split at hr
   ·rename_i hl;obtain rfl:=sj hr;exact ⟨.skip,by simp [findLabel,hl],rfl⟩
   ·simp at hr
  ·simp only [kC] at hr;split at hr
   ·simp at hr
   ·rename_i hl;simp [findLabel,hl]
 | _=>
  intro c h
  cases l7 h <;> exact ⟨fun r hr=>by simp [kC] at hr,fun _=>rfl⟩
def S7:dt->Exit
 | .normal=>.normal
 | .exit id=>.exit id
 | .goto l=>.goto l
 | .ret=>.ret
def wD (C:eD)(n:Nat)(s:St)(a:Act)(Q:Exit->Act->World->Prop)(e:dt)(fr':Fr)(h':O):Prop:=
 ∀ (s':St) (a':Act),s'.h=h'->iC C s'->Le s s'->du n s' fr' a'.tmps->a'.defers=a.defers->Q (S7 e) a' s'.w
def jq (C:eD)(P:Program)(L:az)(c:AC)(fr:Fr)(h:O)(e:dt)(fr':Fr)(h':O):Prop:=
 jO L h h'/\∀ (fl:KK) (n:Nat) (x:Code),cc C P fl n x=some c->∀ (s:St) (a:Act) (Q:Exit->Act->World->Prop),s.h=h->iC C s->oT L s->du n s fr a.tmps->
  wD C n s a Q e fr' h'->wpR P x Q a s.w
def Hl (C:eD)(P:Program)(L:az)(c:AC)(e0:dt)(fr:Fr)(h:O)(e:dt)(fr':Fr)(h':O):Prop:=
 jO L h h'/\∀ (fl:KK) (n:Nat) (x:Code),cc C P fl n x=some c->∀ (s:St) (a:Act) (Q:Exit->Act->World->Prop),s.h=h->iC C s->oT L s->du n s fr a.tmps->
  wD C n s a Q e fr' h'->Na P x Q (S7 e0) a s.w
theorem mu.inv {L:az}{is:List AI}{h:O}{frE:Fr}{hs:List O}{vs:List J}{FR:Nat->Fr}{H:Nat->O}(r:mu C P L is fr h frE hs vs FR H):
  jO L h (hs.getLastD h):=by
 have key:∀ j,j<=is.length->jO L h (H j):=by
  intro j
  induction j with
  | zero=>
   intro _;have:=r.hp 0 (Nat.zero_le _);have:h=H 0:=by simpa [cnt] using this
   rw [<- this];exact .refl _ _
  | succ j ih=>
   intro hj;have hi:=List.getElem?_eq_getElem (l:=is) (i:=j) (by omega);have hv:=List.getElem?_eq_getElem (l:=vs) (i:=j) (by rw [r.lv];omega);exact (ih (by omega)).trans (r.st j _ _ hi hv).2.1
 have:=r.hp is.length (Nat.le_refl _);rw [<- r.lh,MR] at this;rw [sj this];exact key _ (Nat.le_refl _)
variable {L:az} {h h1 h2:O} {fr1 fr2:Fr}
theorem yB {c:AC}{e:dt}(he:∀ (fl:KK) (n:Nat) (x:Code),cc C P fl n x=some c->∀ (a:Act) (w:World) (Q:Exit->Act->World->Prop),Q (S7 e) a w->wpR P x Q a w):jq C P L c fr h e fr h:=
 ⟨.refl _ _,fun fl n x hc s a Q hh hs hL hf hQ=>he fl n x hc a s.w Q (hQ s a hh hs (.refl s) hf rfl)⟩
theorem wD.le {e:dt}{s':St}{a':Act}(h:wD C n s a Q e fr2 h2)(hl:Le s s')(hd:a'.defers=a.defers):wD C n s' a' Q e fr2 h2:=
 fun s2 a2 e1 e2 e3 e4 e5=>h s2 a2 e1 e2 (hl.trans e3) e4 (e5.trans hd)
theorem run_seq {p q:AC}{e:dt}(k1:jq C P L p fr h .normal fr1 h1)(k2:jq C P L q fr1 h1 e fr2 h2):jq C P L (.seq p q) fr h e fr2 h2:=by
 refine ⟨k1.1.trans k2.1,fun fl n x hc s a Q hh hs hL hf hQ=>?_⟩
 cases l7 hc with
 | seq x y _ _ e1 e2=>
  refine wp_seq (qI (k1.2 fl n x e1 s a _ hh hs hL hf fun s' a' q1 q2 q3 q4 q5=>?_));exact qI (k2.2 fl n y e2 s' a' Q q1 q2 (hL.le q3 hs q2) q4 (hQ.le q3 q5))
theorem Ta {p q:AC}{e:dt}(he:e≠.normal)(k1:jq C P L p fr h e fr1 h1):jq C P L (.seq p q) fr h e fr1 h1:=by
 refine ⟨k1.1,fun fl n x hc s a Q hh hs hL hf hQ=>?_⟩
 cases l7 hc with
 | seq x y _ _ e1 e2=>
  refine wp_seq (qI (k1.2 fl n x e1 s a _ hh hs hL hf fun s' a' q1 q2 q3 q4 q5=>?_));have:=hQ s' a' q1 q2 q3 q4 q5
  cases e <;> first | exact (he rfl).elim | exact this
theorem Tb {c:AO}{p q:AC}{e:dt}{t:Bool}(hc0:C.ev fr c=.bool t)(k1:jq C P L (if t then p else q) fr h e fr1 h1):jq C P L (.cond c p q) fr h e fr1 h1:=by
 refine ⟨k1.1,fun fl n x hc s a Q hh hs hL hf hQ=>?_⟩
 cases l7 hc with
 | cond c0 _ x y _ _ e0 e1 e2=>
  have r:=aC hs hf e0;rw [hc0] at r;generalize hv:a.eval c0=cv at r
  cases r
  refine wp_cond hv ?_
  cases t
  ·exact qI (k1.2 fl n y e2 s a Q hh hs hL hf hQ)
  ·exact qI (k1.2 fl n x e1 s a Q hh hs hL hf hQ)
theorem X8 {id:Nat}{p:AC}{e:dt}(k1:jq C P L p fr h e fr1 h1):jq C P L (.blk id p) fr h (if e=.exit id then .normal else e) fr1 h1:=by
 refine ⟨k1.1,fun fl n x hc s a Q hh hs hL hf hQ=>?_⟩
 cases l7 hc with
 | blk _ x _ e1=>
  refine wp_block (qI (k1.2 fl n x e1 s a _ hh hs hL hf fun s' a' q1 q2 q3 q4 q5=>?_));have:=hQ s' a' q1 q2 q3 q4 q5
  cases e with
  | exit id'=>
   simp only [S7,Exit.inBlock];by_cases hid:id'=id
   ·subst hid;simpa [S7] using this
   ·rw [if_neg hid];simpa [hid,S7] using this
  | _=>simpa [S7,Exit.inBlock] using this
theorem QM {id:Nat}{p:AC}{e:dt}(he:e=.exit id)(k1:jq C P L p fr h e fr1 h1):jq C P L (.blk id p) fr h .normal fr1 h1:=by
 have:=X8 (id:=id) k1;rwa [if_pos he] at this
theorem QN {id:Nat}{p:AC}{e:dt}(he:e≠.exit id)(k1:jq C P L p fr h e fr1 h1):jq C P L (.blk id p) fr h e fr1 h1:=by
 have:=X8 (id:=id) k1;rwa [if_neg he] at this
theorem zcJ {p:AC}{e:dt}(k1:jq C P L p fr h .normal fr1 h1)(k2:jq C P L (.loop p) fr1 h1 e fr2 h2):jq C P L (.loop p) fr h e fr2 h2:=by
 refine ⟨k1.1.trans k2.1,fun fl n x hc s a Q hh hs hL hf hQ=>?_⟩;have hc':=hc
 cases l7 hc with
 | loop x _ e1=>
  refine Qm (qI (k1.2 fl n x e1 s a _ hh hs hL hf fun s' a' q1 q2 q3 q4 q5=>?_));exact k2.2 fl n (.loop x) hc' s' a' Q q1 q2 (hL.le q3 hs q2) q4 (hQ.le q3 q5)
theorem QP {p:AC}{e:dt}(he:e≠.normal)(k1:jq C P L p fr h e fr1 h1):jq C P L (.loop p) fr h e fr1 h1:=by
 refine ⟨k1.1,fun fl n x hc s a Q hh hs hL hf hQ=>?_⟩
 cases l7 hc with
 | loop x _ e1=>
  refine Qm (qI (k1.2 fl n x e1 s a _ hh hs hL hf fun s' a' q1 q2 q3 q4 q5=>?_));have:=hQ s' a' q1 q2 q3 q4 q5
  cases e <;> first | exact (he rfl).elim | exact this
theorem ZY {p:AC}{e1 e:dt}(k1:jq C P L p fr h e1 fr1 h1)(k2:Hl C P L p e1 fr1 h1 e fr2 h2):jq C P L (.scope p) fr h e fr2 h2:=by
 refine ⟨k1.1.trans k2.1,fun fl n x hc s a Q hh hs hL hf hQ=>?_⟩
 cases l7 hc with
 | scope x _ e1=>
  refine ze6 (qI (k1.2 fl n x e1 s a _ hh hs hL hf fun s' a' q1 q2 q3 q4 q5=>?_));exact k2.2 fl n x e1 s' a' Q q1 q2 (hL.le q3 hs q2) q4 (hQ.le q3 q5)
theorem Td {p rest:AC}{l:Nat}{e1 e:dt}(hl:kC p l=some rest)(k1:jq C P L rest fr h e1 fr1 h1)(k2:Hl C P L p e1 fr1 h1 e fr2 h2):Hl C P L p (.goto l) fr h e fr2 h2:=by
 refine ⟨k1.1.trans k2.1,fun fl n x hc s a Q hh hs hL hf hQ=>?_⟩;obtain ⟨y,g1,g2⟩:=(LL l x p hc).1 rest hl;refine VH g1 (qI (k1.2 fl n y g2 s a _ hh hs hL hf fun s' a' q1 q2 q3 q4 q5=>?_));exact k2.2 fl n x hc s' a' Q q1 q2 (hL.le q3 hs q2) q4 (hQ.le q3 q5)
theorem LR {p:AC}{e:dt}(he:∀ l,e=.goto l->kC p l=none):Hl C P L p e fr h e fr h:=by
 refine ⟨.refl _ _,fun fl n x hc s a Q hh hs hL hf hQ=>ZT (fun l hl=>?_) (hQ s a hh hs (.refl s) hf rfl)⟩;refine (LL l x p hc).2 (he l ?_)
 cases e <;> simp [S7] at hl
 rw [hl]
theorem zgS {is:List AI}(k:Gs C P L is fr h fr1 h1):jq C P L (.reg is) fr h .normal fr1 h1:=by
 refine ⟨k.1,fun fl n x hc s a Q hh hs hL hf hQ=>?_⟩
 cases l7 hc with
 | reg id ops _ e1=>
  refine wp_region ?_;have:=k.2 n ops _ 0 (by simpa using e1) s a Q hh hs hL hf hQ;rw [List.range_eq_range'];exact this
theorem zcL {is:List AI}{hs:List O}{vs:List J}(k:G9 C P L is fr h fr1 hs vs)(hk:wg C P L is vs fr (h :: hs)):jq C P L (.draw is) fr h .normal fr1 (hs.getLastD h):=by
 obtain ⟨FR,H,r⟩:=k;refine ⟨r.inv,fun fl n x hc s a Q hh hs0 hL hf hQ=>?_⟩
 cases l7 hc with
 | draw id ops is0 e1 hd hm=>exact zid e1 hd hm r hk hh hs0 hL hf hQ
theorem Z2 {x y:List AI}{ag:List (Nat × Nat)}{rA rB:Fr × List O × List J}(kA:G9 C P L x fr h rA.1 rA.2.1 rA.2.2)(cA:wg C P L x rA.2.2 fr (h :: rA.2.1))
  (kB:G9 C P L y fr h rB.1 rB.2.1 rB.2.2) (cB:wg C P L y rB.2.2 fr (h :: rB.2.1)) (hE:WX h x ag rA rB):jq C P L (.draw2 x y ag) fr h .normal rA.1 (rA.2.1.getLastD h):=by
 obtain ⟨FA,HA,qA⟩:=kA;obtain ⟨FB,HB,qB⟩:=kB;refine ⟨qA.inv,fun fl n z hc s a Q hh hs0 hL hf hQ=>?_⟩
 cases l7 hc with
 | draw2 id ops oA oB i j vA vB isA isB dep T hm=>exact zeK T hm qA cA qB cB hE hh hs0 hL hf hQ
theorem Pf (hC:Ku C P){f:FuncId}{F:aZ}{args:List J}{a1:List J × Bool}{o:J × O}
  (hx:C.fns f=some F) (ha:o6 (C.mode f) h args=some a1) (hn:jO L h o.2) (hFn:a1.1.length<=F.n)
  (H : ∀ (fn : Func) (fl : KK) (x : Code) (s0 : St) (a : Act) (Q : Exit -> Act -> World -> Prop), WG C P fl fn = some F -> fn.body = some x -> s0.h = h -> iC C s0 -> oT (d4 (C.mode f) L h) s0 -> du fn.ntmps s0 (fun i => a1.1.getD i ba) a.tmps ->
   (∀ (e:dt) (fr1:Fr) (h1:O),jO (d4 (C.mode f) L h) h h1->yf (C.mode f) F a1 h (e,fr1,h1)=some o->wD C fn.ntmps s0 a Q e fr1 h1)->wpR P x Q a s0.w):
  ml C P L f args h o.1 o.2:=by
 refine ⟨hn,fun s cargs hh hs hL hargs=>?_⟩;subst hh;obtain ⟨fn,fl,g1,g2,g3⟩:=hC.fns f F hx;have g2':=g2;unfold WG at g2
 cases hbody:fn.body with
 | none=>rw [hbody] at g2;simp at g2
 | some x=>
  rw [hbody] at g2;simp only [] at g2
  cases hres:T8 P fn.results.toList with
  | none=>rw [hres] at g2;simp at g2
  | some r=>
   rw [hres] at g2;simp only [] at g2;have hFr:F.res=r/\F.n=fn.ntmps:=by
    split at g2
    ·split at g2
     ·obtain ⟨q,_,rfl⟩:=map_some g2;exact ⟨rfl,rfl⟩
     ·obtain ⟨q,_,rfl⟩:=map_some g2;exact ⟨rfl,rfl⟩
    ·simp at g2
   obtain ⟨hFr,hFm⟩:=hFr;have ha':∃ ch,a1.2=ch/\(ch=true->(C.mode f).ro=true/\(C.mode f).esc=false)/\aU (if ch then s.raise s.mb.length s.mt.length else s) a1.1 cargs.toList:=by
    unfold o6 at ha;split at ha
    ·rename_i hm;simp only [Bool.and_eq_true,Bool.not_eq_true'] at hm;obtain ⟨p1,p2,_⟩:=Ae hs hL.lb hL.lt args hargs ha;refine ⟨a1.2,rfl,fun _=>⟨hm.1.2,hm.2⟩,?_⟩
     cases hch:a1.2
     ·simpa using p2 hch
     ·simpa using p1
    ·have e:=sj ha;refine ⟨false,by rw [<- e],by simp,?_⟩;rw [<- e];simpa using hargs
   obtain ⟨ch,hch,hm,hrep⟩:=ha'
   let s0:St:=if ch then s.raise s.mb.length s.mt.length else s
   have e0:s0=if ch then s.raise s.mb.length s.mt.length else s:=rfl
   have hs0:iC C s0:=by
    rw [e0];cases ch
    ·exact hs
    ·exact zaf hL.lb hL.lt hs
   have hh0:s0.h=s.h:=by rw [e0];cases ch <;> rfl
   have hw0:s0.w=s.w:=by rw [e0];cases ch <;> rfl
   have hlb:=hs.lb;have hlt:=hs.lt;have hL0:oT (d4 (C.mode f) L s.h) s0:=by
    rw [e0]
    cases ch with
    | true=>
     obtain ⟨m1,m2⟩:=hm rfl;simp only [d4,m1,m2];exact ⟨by simp [St.raise,hlb],by simp [St.raise,hlt],Nat.le_refl _,Nat.le_refl _⟩
    | false=>
     have b1:=hL.b;have b2:=hL.t;have b3:=hL.lb;have b4:=hL.lt;simp only [d4];split
     ·exact hL
     ·split
      ·exact ⟨by simp;omega,by simp;omega,b3,b4⟩
      ·exact ⟨b1,b2,b3,b4⟩
   have hlen:a1.1.length=cargs.size:=by simpa using hrep.length
   have hfr : du fn.ntmps s0 (fun i => a1.1.getD i ba) (cargs ++ Array.replicate (fn.ntmps - cargs.size) undef) := by
    refine ⟨by simp;omega,fun i=>?_⟩;show dH s0 (a1.1.getD i ba) _;rw [Array.getD_eq_getD_getElem?,List.getD_eq_getElem?_getD];by_cases hi:i < cargs.size
    ·have hi1:i < a1.1.length:=by omega
     obtain ⟨y,hy,hrr⟩:=hrep.get i _ (List.getElem?_eq_getElem hi1);rw [Array.getElem?_append_left hi,List.getElem?_eq_getElem hi1];have:cargs[i]?=some y:=by simpa using hy
     rw [this];exact hrr
    ·rw [Array.getElem?_append_right (by omega),List.getElem?_eq_none (by omega)];simp only [Array.getElem?_replicate]
     split <;> exact dH.undef s0
   refine ⟨_,s.w,Qr g1 hbody g3 cargs s.w,.inr ⟨f,cargs,rfl,calls_of_wp g1 hbody ?_⟩⟩;rw [<- hw0];refine qI (H fn fl x s0 _ _ g2' hbody hh0 hs0 hL0 hfr fun e fr1 h1 hai hfin s' a' q1 q2 q3 q4 q5=>?_);subst q1;unfold yf at hfin;split at hfin
   ·rename_i hcond;obtain ⟨vs,hr,hfin⟩:=bind_some hfin;obtain ⟨o',ho,hfin⟩:=bind_some hfin;split at hfin
    ·simp at hfin
    ·rename_i hfl;obtain rfl:=sj hfin;have hfl':(ch&&!o'.1.flat)=false:=by rw [<- hch];simpa using hfl
     rw [hFr] at hr;obtain ⟨cv,c1,c2⟩:=Ov q2 q4 hres hr;have hgood:=zaw hs hL hm q3 q2 hai c2 ho hfl';obtain ⟨he,hnn⟩:=hcond;simp only at he;rcases he with rfl | rfl
     ·exact ⟨q5,cv,c1,hgood⟩
     ·exact ⟨q5,cv,c1,hgood⟩
   ·simp at hfin
theorem Tg {f:FuncId}{F:aZ}{a1:List J × Bool}{r:dt × Fr × O}{o:J × O}(hi:jO (d4 (C.mode f) L h) h r.2.2)(hf:yf (C.mode f) F a1 h r=some o):jO L h o.2:=by
 unfold yf at hf;split at hf
 ·obtain ⟨vs,hr,hf⟩:=bind_some hf;obtain ⟨o',ho,hf⟩:=bind_some hf;split at hf
  ·simp at hf
  ·obtain rfl:=sj hf;exact zdy hi ho
 ·simp at hf
theorem Ti {f:FuncId}{F:aZ}{a1:List J × Bool}{r:dt × Fr × O}{o:J × O}(hf:yf (C.mode f) F a1 h r=some o):a1.1.length<=F.n:=by
 unfold yf at hf;split at hf
 ·rename_i hc;exact hc.2
 ·simp at hf
theorem Tj {F:aZ}{fl:KK}{fn:Func}{x:Code}(hx:fn.body=some x)(h:WG C P fl fn=some F):
  (F.pre=none/\cc C P fl fn.ntmps x=some F.code)\/∃ q,F.pre=some q/\zd4 C P fl fn.ntmps x=some (q,F.code):=by
 unfold WG at h;rw [hx] at h;simp only [] at h;split at h
 ·split at h
  ·split at h
   ·obtain ⟨q,e,rfl⟩:=map_some h;exact .inr ⟨q.1,rfl,e⟩
   ·obtain ⟨c,e,rfl⟩:=map_some h;exact .inl ⟨rfl,e⟩
  ·simp at h
 ·simp at h
theorem zgW (hC:Ku C P){f:FuncId}{F:aZ}{args:List J}{a1:List J × Bool}{r:dt × Fr × O}{o:J × O}
  (hx:C.fns f=some F) (hp:F.pre=none) (ha:o6 (C.mode f) h args=some a1) (k:jq C P (d4 (C.mode f) L h) F.code (fun i=>a1.1.getD i ba) h r.1 r.2.1 r.2.2)
  (hf:yf (C.mode f) F a1 h r=some o):ml C P L f args h o.1 o.2:=by
 refine Pf hC hx ha (Tg k.1 hf) (Ti hf) fun fn fl x s0 a Q hc hbody hh hs hL hfr hQ=>?_;rcases Tj hbody hc with ⟨_,hcode⟩ | ⟨q,hq,_⟩
 ·exact k.2 fl fn.ntmps x hcode s0 a Q hh hs hL hfr (hQ r.1 r.2.1 r.2.2 k.1 hf)
 ·rw [hp] at hq;simp at hq
theorem zgY {t e:TypeId}(hu:P.underlying t=some (.slice e))(ad:Option Addr)(m k d:Nat)(w:World):∃ b,(Op.equalIn (d+1) t (.slice ad m k) (.slice none 0 0)).run P w=.ok b w:=by
 cases ad with
 | none=>exact ⟨true,by simp [Op.equalIn,run_underlying hu]⟩
 | some A=>exact ⟨false,by simp [Op.equalIn,run_underlying hu]⟩
theorem zcO (hs:iC C s)(hf:du n s fr a.tmps){oper:Oper}{val:Bool}{a':Nat}(hc:Wp C P oper val=some (.eq .slc false (.t a') (.k .nsl))){c:Bool}(hx:fr a'=.vsl c []):
  ∃ b,bT C P s (execOp a.eval oper) (.bool b) s.h:=by
 obtain ⟨dst,op,type,pos,after,guard⟩:=oper
 cases op <;> simp only [Wp] at hc <;> first
  | (exfalso;simp at hc;done)
  | skip
 case binOp op t x y yt=>
  obtain ⟨x',h1,hc⟩:=bind_some hc;obtain ⟨y',h2,hc⟩:=bind_some hc;split at hc
  ·simp at hc
  ·rename_i hop
   split at hc <;> first
    | (exfalso;simp at hc;done)
    | skip
   ·rename_i e hu;simp only [Option.some.injEq,Vw.eq.injEq,true_and] at hc;obtain ⟨hneq,rfl,rfl⟩:=hc;have r1:=aC hs hf h1;have r2:=aC hs hf h2;have e1:C.ev fr (.t a')=.vsl c []:=hx;have e2:C.ev fr (.k .nsl)=.nsl:=rfl;rw [e1] at r1;rw [e2] at r2;generalize hv1:a.eval x=cx at r1;generalize hv2:a.eval y=cy at r2
    have hop':op=.eql:=by cases op <;> simp [zdj,BL] at hop hneq |-
    subst hop';obtain rfl:cy=.slice none 0 0:=by cases r2;rfl
    obtain ⟨ad,m,k,rfl⟩:∃ ad m k,cx=.slice ad m k:=by cases r1 <;> exact ⟨_,_,_,rfl⟩
    have g:(eqGuard .eql t x y (a.eval x) (a.eval y)).run P s.w=.ok () s.w:=by
     rw [hv1,hv2];exact ym s.w (fun h _=>by cases h) (fun p q h _=>by cases h)
    have he:∃ b,(Op.equal t (.slice ad m k) (.slice none 0 0)).run P s.w=.ok b s.w:=zgY hu ad m k 9999 s.w;obtain ⟨b,hb⟩:=he;refine ⟨b,bT.pure hs (cv:=.bool b) ?_ (.bool _)⟩;simp only [execOp];refine gE ?_;simp only [Sem.run_bind,g,Result.andThen_ok];rw [hv1,hv2];have:binOp .eql t (.slice ad m k) (.slice none 0 0)=(do pure (.bool (<- Op.equal t (.slice ad m k) (.slice none 0 0)))):=rfl;rw [this];simp [hb]
   all_goals (exfalso;first | (simp at hc;done) | (split at hc <;> simp at hc;done) | (split at hc <;> first | (simp at hc;done) | (obtain ⟨_,_,hc⟩:=map_some hc;simp at hc)))
 all_goals
  exfalso;revert hc
  first
   | (intro hc;simp [bind,Option.bind_eq_some_iff] at hc;done)
   | (split <;> first
    | (intro hc;simp [bind,Option.bind_eq_some_iff] at hc;done)
    | (split <;> first
     | (intro hc;simp [bind,Option.bind_eq_some_iff] at hc;done)
     | (split <;> (intro hc;simp [bind,Option.bind_eq_some_iff] at hc;done))))
theorem zgZ {ops:Array Oper}{val:Nat->Bool}{x y:Nat}(hc:(qn C P n ops val 0 ops.toList).bind WE=some (x,y))(hs:iC C s)(hf:du n s fr a.tmps){nb:Option Bool}(hn:DH (fr 0)=some nb)
  (hQ:∀ bb:Bool,(∀ b',nb=some b'->bb=b')->∀ (s':St) (a':Act),s'.h=s.h->iC C s'->Le s s'->du n s' (HN (HN fr x (fr 0)) y (.bool bb)) a'.tmps->a'.defers=a.defers->Q .normal a' s'.w):
  wpOps P ops Q (List.range ops.size) a s.w:=by
 obtain ⟨is,hcs,hp⟩:=Option.bind_eq_some_iff.1 hc;obtain ⟨u1,l1,g1,u2,l2,g2,rfl⟩:∃ u1 l1 g1 u2 l2 g2,is=[⟨some x,.v (.mv (.t 0)),none,u1,l1,g1⟩,⟨some y,.v (.eq .slc false (.t x) (.k .nsl)),none,u2,l2,g2⟩]:=by
  unfold WE at hp;split at hp
  ·split at hp
   ·rename_i h;simp only [Option.some.injEq,Prod.mk.injEq] at hp;obtain ⟨rfl,rfl⟩:=hp;subst h;exact ⟨_,_,_,_,_,_,rfl⟩
   ·simp at hp
  ·simp at hp
 have hlen:=(jH hcs).1;have hlen':ops.size=2:=by simpa using hlen.symm
 obtain ⟨o1,o2,ho⟩:∃ o1 o2,ops.toList=[o1,o2]:=by
  match hl:ops.toList with
  | []=>have:=congrArg List.length hl;simp [hlen'] at this
  | [_]=>have:=congrArg List.length hl;simp [hlen'] at this
  | [p,q]=>exact ⟨p,q,rfl⟩
  | _ :: _ :: _ :: _=>have:=congrArg List.length hl;simp [hlen'] at this
 rw [ho] at hcs;simp only [qn] at hcs;have e1:ops[0]?=some o1:=by rw [<- Array.getElem?_toList,ho];rfl
 have e2:ops[1]?=some o2:=by rw [<- Array.getElem?_toList,ho];rfl
 cases h1:cop C P n ops (val 0) o1 with
 | none=>rw [h1] at hcs;simp at hcs
 | some i1=>
  cases h2:cop C P n ops (val (0+1)) o2 with
  | none=>rw [h1,h2] at hcs;simp at hcs
  | some i2=>
   rw [h1,h2] at hcs;simp only [Option.some.injEq,List.cons.injEq,and_true] at hcs;obtain ⟨rfl,rfl⟩:=hcs;have sp1:=C3 h1;have IM:=C3 h2;rw [hlen',show List.range 2=[0,1] from rfl,wpOps_cons];unfold wpOp;simp only [e1];rw [if_pos (by rw [zD hs hf sp1.grd sp1.glt];rfl)]
   left
   have v1:bT C P s (execOp a.eval o1) (fr 0) s.h:=Js hs hf (Iv sp1.op) rfl;obtain ⟨cv1,w1,r1,hg1⟩:=v1;refine DY.wp ⟨_,_,r1,.inl ⟨cv1,.inl rfl,hg1⟩⟩ fun cv w' hg=>?_;obtain ⟨s1,rfl,k0,k1,k2,k3⟩:=hg;have hf1:du n s1 (HN fr x (fr 0)) (a.put o1.dst cv).tmps:=by
    have:=(hf.le k2).put (d:=o1.dst) (fun d hd=>sp1.dlt d hd) k3;rw [<- sp1.dst] at this |-;exact this
   rw [wpOps_cons];unfold wpOp;simp only [e2];rw [if_pos (by rw [zD k1 hf1 IM.grd IM.glt];rfl)]
   left
   have hfx:HN fr x (fr 0) x=fr 0:=by simp [HN]
   have v2:∃ bb:Bool,(∀ b',nb=some b'->bb=b')/\bT C P s1 (execOp (a.put o1.dst cv).eval o2) (.bool bb) s1.h:=by
    unfold DH at hn;split at hn
    ·rename_i b hb;obtain rfl:=sj hn;refine ⟨b,fun b' h=>sj h,Js k1 hf1 (Iv IM.op) ?_⟩;simp only [bp,eD.ev,hfx,hb];rfl
    ·split at hn
     ·rename_i c hc0;obtain rfl:=sj hn;obtain ⟨b,hb⟩:=zcO k1 hf1 (Iv IM.op) (c:=c) (by rw [hfx];exact hc0);exact ⟨b,fun b' h=>(by cases h),hb⟩
     ·simp at hn
   obtain ⟨bb,hbb,cv2,w2,r2,hg2⟩:=v2;refine DY.wp ⟨_,_,r2,.inl ⟨cv2,.inl rfl,hg2⟩⟩ fun cv' w'' hg'=>?_;obtain ⟨s2,rfl,m0,m1,m2,m3⟩:=hg';refine hQ bb hbb s2 _ (m0.trans k0) m1 (k2.trans m2) ?_ ((put_defers _ _ _).trans (put_defers _ _ _));have:=(hf1.le m2).put (d:=o2.dst) (fun d hd=>IM.dlt d hd) m3;rw [<- IM.dst] at this |-;exact this
theorem LU (hC:Ku C P){f:FuncId}{F:aZ}{q:AC × Nat × Nat × AC}{args:List J}{a1:List J × Bool}{fr0:Fr}{h0:O}{o:J × O}{nb:Option Bool}
  (hx:C.fns f=some F) (hp:F.pre=some q) (ha:o6 (C.mode f) h args=some a1) (k0:jq C P (d4 (C.mode f) L h) q.1 (fun i=>a1.1.getD i ba) h .normal fr0 h0) (hn:DH (fr0 0)=some nb)
  (hb:∀ b:Bool,(∀ b',nb=some b'->b=b')->∃ e1 fr1 h1 e2 fr2 h2,jq C P (d4 (C.mode f) L h) q.2.2.2 (KT q fr0 b) h0 e1 fr1 h1/\
   ((e1=.normal/\jq C P (d4 (C.mode f) L h) F.code fr1 h1 e2 fr2 h2)\/(e1≠.normal/\e2=e1/\fr2=fr1/\h2=h1))/\yf (C.mode f) F a1 h (e2,fr2,h2)=some o):
  ml C P L f args h o.1 o.2:=by
 have hinv:jO L h o.2:=by
  obtain ⟨e1,fr1,h1,e2,fr2,h2,r1,r2,r3⟩:=hb (nb.getD true) fun b' h=>by rw [h];rfl
  have:jO (d4 (C.mode f) L h) h h2:=by
   rcases r2 with ⟨_,r2⟩ | ⟨_,_,_,rfl⟩
   ·exact (k0.1.trans r1.1).trans r2.1
   ·exact k0.1.trans r1.1
  exact Tg (r:=(e2,fr2,h2)) this r3
 have hlen:a1.1.length<=F.n:=by
  obtain ⟨e1,fr1,h1,e2,fr2,h2,r1,r2,r3⟩:=hb (nb.getD true) fun b' h=>by rw [h];rfl
  exact Ti r3
 refine Pf hC hx ha hinv hlen fun fn fl x s0 a Q hc hbody hh hs hL hfr hQ=>?_;rcases Tj hbody hc with ⟨hq,_⟩ | ⟨q',hq,hpre⟩
 ·rw [hp] at hq;simp at hq
 ·rw [hp] at hq;obtain rfl:=sj hq;unfold zd4 at hpre;split at hpre
  ·rename_i z id ops x1 y1;split at hpre
   ·rename_i c0 pa pb c1 c2 hz hops hc1 hc2;simp only [Option.some.injEq,Prod.mk.injEq] at hpre;obtain ⟨rfl,rfl⟩:=hpre;simp only [] at k0 hb;refine wp_seq (qI (k0.2 fl fn.ntmps z hz s0 a _ hh hs hL hfr fun s1 a1' q1 q2 q3 q4 q5=>?_));refine wp_seq (wp_seq (wp_region ?_));refine zgZ hops q2 q4 hn fun bb hbb s2 a2 m0 m1 m2 m3 m4=>?_;obtain ⟨e1,fr1,h1,e2,fr2,h2,r1,r2,r3⟩:=hb bb hbb;have hL1:=hL.le q3 hs q2;have hL2:=hL1.le m2 q2 m1;refine qI (r1.2 fl fn.ntmps x1 hc1 s2 a2 _ (m0.trans q1) m1 hL2 m3 fun s3 a3 p1 p2 p3 p4 p5=>?_);rcases r2 with ⟨rfl,r2⟩ | ⟨hne,rfl,rfl,rfl⟩
    ·refine qI (r2.2 fl fn.ntmps y1 hc2 s3 a3 _ p1 p2 (hL2.le p3 m1 p2) p4 fun s4 a4 t1 t2 t3 t4 t5=>?_);exact hQ e2 fr2 h2 ((k0.1.trans r1.1).trans r2.1) r3 s4 a4 t1 t2 (((q3.trans m2).trans p3).trans t3) t4 (t5.trans (p5.trans (m4.trans q5)))
    ·have:=hQ _ _ _ (k0.1.trans r1.1) r3 s3 a3 p1 p2 ((q3.trans m2).trans p3) p4 (p5.trans (m4.trans q5))
     cases e2 <;> first | exact (hne rfl).elim | exact this
   ·simp at hpre
  ·simp at hpre
theorem VO {f:FuncId}{v:J}{o:J × O}(hq:U C f=true)(ho:vf (C.mode f) h h1 v=some o):o.2=h:=by
 unfold U at hq;simp only [Bool.and_eq_true,Bool.not_eq_true'] at hq;unfold vf at ho;rw [if_neg (by simp [hq.1.1.2])] at ho;simp only [hq.1.2,hq.1.1.1] at ho;obtain ⟨v',_,rfl⟩:=map_some ho;simp
theorem Hq {f:FuncId}{F:aZ}{a1:List J × Bool}{r:dt × Fr × O}{o:J × O}(hq:U C f=true)(hf:yf (C.mode f) F a1 h r=some o):o.2=h:=by
 unfold yf at hf;split at hf
 ·obtain ⟨vs,hr,hf⟩:=bind_some hf;obtain ⟨o',ho,hf⟩:=bind_some hf;split at hf
  ·simp at hf
  ·obtain rfl:=sj hf;exact VO hq ho
 ·simp at hf
theorem zcR (hC:Ku C P){L:az}{f:FuncId}{args:List J}{h:O}{r:J × O}(hv:Z C L f args h=some r):
  ml C P L f args h r.1 r.2/\(U C f=true->r.2=h):=by
 refine Z.mutual_partial_correctness C
  (fun L f args h r=>ml C P L f args h r.1 r.2/\(U C f=true->r.2=h))
  (fun L c fr h r=>jq C P L c fr h r.1 r.2.1 r.2.2)
  (fun L c e fr h r=>Hl C P L c e fr h r.1 r.2.1 r.2.2)
  (fun L ops vs fr hs _=>wg C P L ops vs fr hs)
  (fun L o fr hs v _=>∀ h∈hs,nN C P L (.r o) fr h v h)
  (fun L o fr h v=>nN C P L (.r o) fr h v h)
  (fun L ops fr h r=>G9 C P L ops fr h r.1 r.2.1 r.2.2)
  (fun L o fr h r=>Si C P L o fr h r.1 r.2)
  (fun L o fr h r=>nN C P L (.c o) fr h r.1 r.2)
  (fun L ops fr h r=>Gs C P L ops fr h r.1 r.2)
  ?_ ?_ ?_ ?_ ?_ ?_ ?_ ?_ ?_ ?_ |>.1 L f args h r hv
 ·
  intro Z run hacall hrun L f args h r hv;split at hv
  ·rename_i g hg;refine ⟨?_,fun hq=>by simp [U,hg] at hq⟩;obtain ⟨q,hq,hv⟩:=bind_some hv;split at hv
   ·obtain rfl:=sj hv;exact hC.extA f g hg L args h _ _ hq
   ·rename_i q;obtain ⟨r1,hr1,hv⟩:=bind_some hv;exact hC.extB f g hg L args h q.1 q.2.1 q.2.2 hq r1.1 r1.2 r.1 r.2 (hacall _ _ _ _ _ hr1).1 hv
  ·obtain ⟨F,hF,hv⟩:=bind_some hv;obtain ⟨a1,ha,hv⟩:=bind_some hv;split at hv
   ·rename_i hp;obtain ⟨r1,hr1,hv⟩:=bind_some hv;exact ⟨zgW hC hF hp ha (hrun _ _ _ _ _ hr1) hv,fun hq=>Hq hq hv⟩
   ·rename_i q hp;obtain ⟨r0,hr0,hv⟩:=bind_some hv;split at hv
    ·rename_i h0;have k0:=hrun _ _ _ _ _ hr0;rw [h0] at k0;obtain ⟨nb,hnb,hv⟩:=bind_some hv;split at hv
     ·rename_i b;obtain ⟨r1,hr1,hv⟩:=bind_some hv;have k1:=hrun _ _ _ _ _ hr1;obtain ⟨e1,fr1,h1⟩:=r1;simp only [] at hv k1;split at hv
      ·obtain ⟨r2,hr2,hv2⟩:=bind_some hv;have k2:=hrun _ _ _ _ _ hr2;refine ⟨LU hC hF hp ha k0 hnb fun b1 hb1=>?_,fun hq=>Hq hq hv2⟩;rw [hb1 b rfl];exact ⟨_,_,_,_,_,_,k1,.inl ⟨rfl,k2⟩,hv2⟩
      ·rename_i hne;refine ⟨LU hC hF hp ha k0 hnb fun b1 hb1=>?_,fun hq=>Hq hq hv⟩;rw [hb1 b rfl];exact ⟨_,_,_,_,_,_,k1,.inr ⟨fun h=>hne h,rfl,rfl,rfl⟩,hv⟩
     ·obtain ⟨t1,ht1,hv⟩:=bind_some hv;obtain ⟨u1,hu1,hv⟩:=bind_some hv;have kt:=hrun _ _ _ _ _ ht1;have ku:=hrun _ _ _ _ _ hu1;split at hv
      ·rename_i hcd;obtain ⟨u,hu,hv⟩:=bind_some hv;have kv:=hrun _ _ _ _ _ hu;split at hv
       ·rename_i heq;refine ⟨LU hC hF hp ha k0 hnb fun b1 hb1=>?_,fun hq=>Hq hq hv⟩
        cases b1 with
        | true=>
         rw [hcd.1] at kt;rw [<- heq] at hv;have:t1=(.ret,t1.2.1,t1.2.2):=by rw [<- hcd.1]
         rw [this] at hv;exact ⟨_,_,_,_,_,_,kt,.inr ⟨by simp,rfl,rfl,rfl⟩,hv⟩
        | false=>
         rw [hcd.2] at ku;exact ⟨_,_,_,_,_,_,ku,.inl ⟨rfl,kv⟩,hv⟩
       ·simp at hv
      ·simp at hv
    ·simp at hv
 ·
  intro run JL rg mi ss hrun hscope hchk hrunD hrunO L c fr h r hv;split at hv
  ·obtain rfl:=sj hv;exact yB fun fl n x hc a w Q hq=>by cases l7 hc;exact wp_skip hq
  ·obtain rfl:=sj hv;exact yB fun fl n x hc a w Q hq=>by cases l7 hc;exact wp_label hq
  ·obtain ⟨r1,hr1,hv⟩:=bind_some hv;obtain rfl:=sj hv;exact zgS (hrunO _ _ _ _ _ hr1)
  ·obtain ⟨r1,hr1,hv⟩:=bind_some hv;obtain ⟨u,hu,hv⟩:=bind_some hv;obtain rfl:=sj hv;exact zcL (hrunD _ _ _ _ _ hr1) (hchk _ _ _ _ _ _ hu)
  ·obtain ⟨r1,hr1,hv⟩:=bind_some hv;obtain ⟨u,hu,hv⟩:=bind_some hv;obtain ⟨r2,hr2,hv⟩:=bind_some hv;obtain ⟨u2,hu2,hv⟩:=bind_some hv;split at hv
   ·rename_i hE;obtain rfl:=sj hv;exact Z2 (hrunD _ _ _ _ _ hr1) (hchk _ _ _ _ _ _ hu) (hrunD _ _ _ _ _ hr2) (hchk _ _ _ _ _ _ hu2) hE
   ·simp at hv
  ·obtain ⟨r1,hr1,hv⟩:=bind_some hv;have k1:=hrun _ _ _ _ _ hr1;obtain ⟨e1,fr1,h1⟩:=r1;simp only [] at hv k1;split at hv
   ·exact run_seq k1 (hrun _ _ _ _ _ hv)
   ·rename_i hne;obtain rfl:=sj hv;exact Ta (fun h=>hne h) k1
  ·split at hv
   ·rename_i hb;exact Tb (t:=true) hb (hrun _ _ _ _ _ hv)
   ·rename_i hb;exact Tb (t:=false) hb (hrun _ _ _ _ _ hv)
   ·simp at hv
  ·obtain ⟨r1,hr1,hv⟩:=bind_some hv;split at hv
   ·rename_i he;obtain rfl:=sj hv;exact QM he (hrun _ _ _ _ _ hr1)
   ·rename_i he;obtain rfl:=sj hv;exact QN he (hrun _ _ _ _ _ hr1)
  ·obtain ⟨r1,hr1,hv⟩:=bind_some hv;have k1:=hrun _ _ _ _ _ hr1;obtain ⟨e1,fr1,h1⟩:=r1;simp only [] at hv k1;split at hv
   ·exact zcJ k1 (hrun _ _ _ _ _ hv)
   ·rename_i hne;obtain rfl:=sj hv;exact QP (fun h=>hne h) k1
  ·obtain rfl:=sj hv;exact yB fun fl n x hc a w Q hq=>by cases l7 hc;exact wp_exit hq
  ·obtain ⟨r1,hr1,hv⟩:=bind_some hv;exact ZY (hrun _ _ _ _ _ hr1) (hscope _ _ _ _ _ _ hv)
  ·obtain rfl:=sj hv;exact yB fun fl n x hc a w Q hq=>by cases l7 hc;exact wp_goto hq
  ·obtain rfl:=sj hv;exact yB fun fl n x hc a w Q hq=>by cases l7 hc;exact wp_ret hq
 ·
  intro run JL hrun hscope L a e fr h r hv;split at hv
  ·split at hv
   ·rename_i rest hl;obtain ⟨r1,hr1,hv⟩:=bind_some hv;exact Td hl (hrun _ _ _ _ _ hr1) (hscope _ _ _ _ _ _ hv)
   ·rename_i hl;obtain rfl:=sj hv;exact LR fun l hl'=>by injection hl' with hl';rw [<- hl'];exact hl
  ·rename_i hne;obtain rfl:=sj hv;exact LR fun l hl'=>(hne l hl').elim
 ·
  intro rg KU hchk hchkR L ops vs fr hs r hv;split at hv
  ·exact zfZ
  ·rename_i i rest;split at hv
   ·rename_i v vs;split at hv
    ·rename_i o ho;split at hv
     ·obtain ⟨u,hu,hv⟩:=bind_some hv;refine JW (fun o' ho' _ _ k h hk1 hk2 hk=>?_) (hchk _ _ _ _ _ _ hv);rw [ho] at ho';injection ho' with ho'
      subst ho';refine hchkR _ _ _ _ _ _ hu h ?_;refine List.mem_of_getElem? (i:=k - i.lo) ?_;rw [List.getElem?_drop,show i.lo+(k - i.lo)=k by omega,List.getElem?_take_of_lt (by omega)];exact hk
     ·rename_i hng;refine JW (fun o' ho' hw hlt k h hk1 hk2 hk=>?_) (hchk _ _ _ _ _ _ hv);simp [hw,hlt] at hng
    ·rename_i hne;exact JW (fun o' ho'=>(hne o' ho').elim) (hchk _ _ _ _ _ _ hv)
   ·simp at hv
 ·
  intro KU qD hchkR hstepR L o fr hs v r hv;split at hv
  ·simp
  ·rename_i h0 hs0;obtain ⟨u,hu,hv⟩:=bind_some hv;split at hv
   ·rename_i he;subst he;intro h hm;rcases List.mem_cons.1 hm with rfl | hm
    ·exact hstepR _ _ _ _ _ hu
    ·exact hchkR _ _ _ _ _ _ hv h hm
   ·simp at hv
 ·intro Z hcall L o fr h r hv;split at hv
  ·rename_i f as;split at hv
   ·rename_i hq;obtain ⟨r1,hr1,hv⟩:=bind_some hv;obtain rfl:=sj hv;obtain ⟨k1,k2⟩:=hcall _ _ _ _ _ hr1;exact XB k1 (k2 hq)
   ·simp at hv
  ·rename_i x name as;split at hv
   ·rename_i t v0 hx;split at hv
    ·rename_i path f hm;split at hv
     ·rename_i rr hr;split at hv
      ·rename_i hq;obtain ⟨r1,hr1,hv⟩:=bind_some hv;obtain rfl:=sj hv;obtain ⟨k1,k2⟩:=hcall _ _ _ _ _ hr1;exact zb0 hC hx hm hr k1 (k2 hq)
      ·simp at hv
     ·simp at hv
    ·simp at hv
   ·simp at hv
  ·exact zl4 hv
 ·intro mi step1 hrunD hstep1 L ops fr h r hv;split at hv
  ·obtain rfl:=sj hv;exact zfT
  ·rename_i i rest;split at hv
   ·rename_i hw;obtain ⟨r1,hr1,hv⟩:=bind_some hv;obtain ⟨q,hq,hv⟩:=bind_some hv;obtain rfl:=sj hv;have k:=hstep1 _ _ _ _ _ hr1;refine QC k.1.1 (fun _=>k) (fun hw'=>by rw [hw] at hw';simp at hw') k.1.2.1 ?_ (hrunD _ _ _ _ _ hq)
    cases i.op <;> simp [xX]
   ·rename_i hw;obtain ⟨q,hq,hv⟩:=bind_some hv;obtain rfl:=sj hv;refine QC (.refl _ _) (fun hw'=>(hw hw').elim) (fun _=>⟨rfl,rfl⟩) (fun _=>rfl) ?_ (hrunD _ _ _ _ _ hq)
    cases i.op <;> simp [xX]
 ·intro qD iX hstepR hstepC L o fr h r hv;split at hv
  ·split at hv
   ·rename_i v0 hv0;obtain rfl:=sj hv;exact ⟨zfl hv0,fun _ h0=>zfl hv0⟩
   ·simp at hv
  ·obtain ⟨v,hv0,hv⟩:=bind_some hv;obtain rfl:=sj hv;exact ⟨hstepR _ _ _ _ _ hv0,fun h=>by simp [isV] at h⟩
  ·exact ⟨hstepC _ _ _ _ _ hv,fun h=>by simp [isV] at h⟩
 ·intro Z hcall L o fr h r hv;split at hv
  ·exact Xx (hcall _ _ _ _ _ hv).1
  ·split at hv
   ·rename_i hx;exact Xu hx (hcall _ _ _ _ _ hv).1
   ·simp at hv
  ·split at hv
   ·rename_i hx;split at hv
    ·rename_i hm;split at hv
     ·rename_i hr;exact zfx hC hx hm hr (hcall _ _ _ _ _ hv).1
     ·simp at hv
    ·simp at hv
   ·simp at hv
  ·exact zl2 hv
 ·intro step1 ss hstep1 hrunO L ops fr h r hv;split at hv
  ·obtain rfl:=sj hv;exact zde
  ·split at hv
   ·rename_i hw;obtain ⟨r1,hr1,hv⟩:=bind_some hv;exact zaz hw (hstep1 _ _ _ _ _ hr1).1 (hrunO _ _ _ _ _ hv)
   ·rename_i hw;exact zbR (by simpa using hw) (hrunO _ _ _ _ _ hv)
end
end Go.Av
