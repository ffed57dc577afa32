/- The abstract machine's operations on memory hold in the model. -/
import Derived.Test.YtafkceblllhheaaGreatDoorV1
import Derived.Laws.Build
import Derived.Laws.IdiomCopy
set_option linter.unusedSimpArgs false
set_option linter.unusedVariables false
namespace Go.Av
section
variable {C:eD} {P:Program} {s:St} {n:Nat} {fr:Fr} {a:Act}
theorem pj {x:Operand}{f:AO->Vw}{vo:Vw}(h:(co C x).map f=some vo):∃ y,co C x=some y/\vo=f y:=by
 obtain ⟨y,h1,h2⟩:=map_some h;exact ⟨y,h1,h2.symm⟩
theorem Ks:∀ {ks:List CK} {xs ys:List J} {b:Bool},cK ks xs ys=some b->xs.length=ks.length/\ys.length=ks.length
 | [],[],[],_,_=>by simp
 | [],[],_ :: _,_,h=>by simp [cK] at h
 | [],_ :: _,_,_,h=>by simp [cK] at h
 | _ :: _,[],_,_,h=>by simp [cK] at h
 | _ :: _,_ :: _,[],_,h=>by simp [cK] at h
 | k :: ks, x :: xs, y :: ys, b, h => by
  simp only [cK,Option.bind_eq_bind,Option.bind_eq_some_iff,Option.some.injEq] at h;obtain ⟨a,_,c,hc,_⟩:=h;obtain ⟨h1,h2⟩:=Ks hc;simp [h1,h2]
theorem zeQ {D:Nat}{t:TypeId}{l:List CK}(h:Oy P D t=some l):uB P t=some l.length:=by
 cases D with
 | zero=>simp [Oy] at h
 | succ D=>
  simp only [Oy] at h
  split at h <;> rename_i hz
  ·obtain rfl:=sj h;exact hz
  ·obtain rfl:=sj h;exact hz
  ·obtain rfl:=sj h;exact hz
  ·split at h
   ·simp at h
   ·have:=DP _ _ _ h;rw [hz];congr 1;omega
  ·split at h
   ·split at h
    ·rename_i hc;obtain rfl:=sj h;rw [hz,Kq,hc.1,hc.2]
    ·simp at h
   ·simp at h
  ·simp at h
def ziu (P:Program)(t:TypeId):zaH->Prop
 | .bool=>P.underlying t=some .bool
 | .ptr=>∃ e,P.underlying t=some (.pointer e)
 | .slc=>∃ e,P.underlying t=some (.slice e)
 | .fn=>∃ p r v,P.underlying t=some (.func p r v)
 | .ifc=>∃ ms,P.underlying t=some (.interface ms)
 | .agg sh=>Oy P 40 t=some sh/\((∃ fs,P.underlying t=some (.struct fs))\/∃ m e,P.underlying t=some (.array m e))
theorem ze1 {t:TypeId}{cls:zaH}{x y:J}{cx cy:Value}{b:Bool}(hx:dH s x cx)(hy:dH s y cy)(h:GF cls x y=some b)(ht:ziu P t cls)(d:Nat)(hd:40<=d)(w:World):
  (Op.equalIn (d+1) t cx cy).run P w=.ok b w:=by
 unfold GF at h
 split at h <;> first
  | (simp at h;done)
  | simp only [ziu] at ht
 ·cases hx;cases hy;obtain rfl:=sj h;simp [Op.equalIn,run_underlying ht]
 ·rename_i sh xs ys;obtain ⟨hsh,hty⟩:=ht;obtain ⟨vs,rfl,hv,_⟩:=Lv hx;obtain ⟨us,rfl,hu,_⟩:=Lv hy;obtain ⟨l1,l2⟩:=Ks h;have hz:uB P t=some sh.length:=zeQ hsh;have s1:vs.size=sh.length:=by rw [<- l1,hv.length];simp
  have s2:us.size=sh.length:=by rw [<- l2,hu.length];simp
  have:=G5 (P:=P) 40 t sh sh.length hsh hz (d+1) (by omega) xs ys vs us hv hu 0 b (by omega) (by omega) (by simpa [List.take_of_length_le,l1,l2] using h) w;obtain ⟨x,y,p1,p2,p3⟩:=this
  have ha:Ck P t=some true:=by rcases hty with ⟨fs,h⟩ | ⟨m,e,h⟩ <;> simp [Ck,h]
  simp [part,n7 ha,aJ hz] at p1 p2;rw [<- s1] at p1;rw [<- s2] at p2;simp at p1 p2;subst p1 p2;exact p3
 ·obtain ⟨e,ht⟩:=ht;cases hx;cases hy;obtain rfl:=sj h;simp [Op.equalIn,run_underlying ht]
 ·obtain ⟨e,ht⟩:=ht;cases hx;cases hy;obtain rfl:=sj h;simp [Op.equalIn,run_underlying ht]
 ·obtain ⟨e,ht⟩:=ht;cases hx;cases hy;obtain rfl:=sj h;simp [Op.equalIn,run_underlying ht]
 ·obtain ⟨e,ht⟩:=ht;cases hx;cases hy;obtain rfl:=sj h;simp [Op.equalIn,run_underlying ht]
 ·obtain ⟨e,ht⟩:=ht;cases hx;cases hy;obtain rfl:=sj h;simp [Op.equalIn,run_underlying ht]
 ·obtain ⟨e,ht⟩:=ht;cases hx;cases hy;obtain rfl:=sj h;simp [Op.equalIn,run_underlying ht]
 ·obtain ⟨e,ht⟩:=ht;cases hx;cases hy;obtain rfl:=sj h;simp [Op.equalIn,run_underlying ht]
 ·obtain ⟨e,ht⟩:=ht;cases hx;cases hy;obtain rfl:=sj h;simp [Op.equalIn,run_underlying ht]
 ·obtain ⟨e,ht⟩:=ht;cases hx;cases hy;obtain rfl:=sj h;simp [Op.equalIn,run_underlying ht]
 ·obtain ⟨e,ht⟩:=ht;cases hx;cases hy;obtain rfl:=sj h;simp [Op.equalIn,run_underlying ht]
 ·obtain ⟨e,ht⟩:=ht;cases hx;cases hy;obtain rfl:=sj h;simp [Op.equalIn,run_underlying ht]
 ·obtain ⟨e,ht⟩:=ht;cases hx;cases hy;obtain rfl:=sj h;simp [Op.equalIn,run_underlying ht]
 ·obtain ⟨p,r,v,ht⟩:=ht;cases hx;cases hy;obtain rfl:=sj h;simp [Op.equalIn,run_underlying ht]
 ·obtain ⟨p,r,v,ht⟩:=ht;cases hx;cases hy;obtain rfl:=sj h;simp [Op.equalIn,run_underlying ht]
 ·obtain ⟨p,r,v,ht⟩:=ht;cases hx;cases hy;obtain rfl:=sj h;simp [Op.equalIn,run_underlying ht]
 ·obtain ⟨e,ht⟩:=ht;cases hx;cases hy;obtain rfl:=sj h;simp [Op.equalIn,run_underlying ht]
 ·obtain ⟨e,ht⟩:=ht;cases hx;cases hy;obtain rfl:=sj h;simp [Op.equalIn,run_underlying ht]
 ·obtain ⟨e,ht⟩:=ht;cases hx;cases hy;obtain rfl:=sj h;simp [Op.equalIn,run_underlying ht]
theorem ze2 {t:TypeId}{cls:zaH}{x y:J}{cx cy:Value}{b:Bool}(hx:dH s x cx)(hy:dH s y cy)(h:GF cls x y=some b)(ht:ziu P t cls)(w:World):
  (Op.equal t cx cy).run P w=.ok b w:=ze1 hx hy h ht 9999 (by omega) w
end
end Go.Av
namespace Go.Av
section
variable {C:eD} {P:Program} {s:St} {n:Nat} {fr:Fr} {a:Act}
theorem Kf {mx:Bool}:∀ {ys:List J} {x:J} {cx:Value} {cys:List Value} {v:J},dH s x cx->aU s ys cys->BI mx x ys=some v->∀ w,
  ∃ cv,(cys.foldlM (if mx then Builtin.max2 else Builtin.min2) cx).run P w=.ok cv w/\dH s v cv
 | [], x, cx, _, v, hx, .nil, h, w => by
  simp [BI] at h;subst h;exact ⟨cx,by simp,hx⟩
 | y :: ys, x, cx, _, v, hx, .cons _ cy _ cys hy ht, h, w => by
  simp only [BI] at h;obtain ⟨z,hz,h⟩:=bind_some h;have:∃ cz,((if mx then Builtin.max2 else Builtin.min2) cx cy).run P w=.ok cz w/\dH s z cz:=by
   unfold zc4 at hz;split at hz
   ·cases hx;cases hy
    obtain rfl:=sj hz
    cases mx
    ·exact ⟨_,by simp [Builtin.min2];rfl,by constructor⟩
    ·exact ⟨_,by simp [Builtin.max2];rfl,by constructor⟩
   ·simp at hz
  obtain ⟨cz,hr,hrep⟩:=this;obtain ⟨cv,h1,h2⟩:=Kf hrep ht h w;exact ⟨cv,by simp [hr,h1],h2⟩
theorem PI {X o sz:Nat}{es:List (List J)}(k:Nat)(h:gQ s X sz o es):gQ s X sz o (es.take k):=by
 have:=h.sub 0 k;simpa [CV] using this
theorem zaR (x:ByteArray)(i:Nat):x[i]?=x.data.toList[i]?:=by
 by_cases h:i < x.size
 ·rw [getElem?_pos x i h,List.getElem?_eq_getElem (by simpa using h)];rfl
 ·rw [getElem?_neg x i h,List.getElem?_eq_none (by simpa using h)]
theorem Ln {x:J}(h:dH s x .nilIface):x=.nif:=by cases h;rfl
theorem Lo {x:J}{vs:Array Value}(h:dH s x (.agg vs)):∃ cs,x=.agg cs:=by cases h;exact ⟨_,rfl⟩
theorem YN {x:J}{k:IntKind}{i:Int}(h:dH s x (.int k i)):x=.int k i:=by cases h;rfl
theorem YO {x:J}{i:ByteArray}(h:dH s x (.string i)):x=.str i:=by cases h;rfl
theorem za2 {x:J}{k:FloatKind}{i:Nat}(h:dH s x (.float k i)):False:=by cases h
theorem TZ {x:J}{k:FloatKind}{i j:Nat}(h:dH s x (.complex k i j)):False:=by cases h
theorem Wx (fs:Array Field)(h:∀ f∈fs,(uB P f.type).isSome=true)(w:World):
  ((fs.mapM fun f=>do pure (f.offset,<- sizeOf f.type)):Sem (Array (Nat × Nat))).run P w=.ok (fs.map fun f=>(f.offset,(uB P f.type).getD 0)) w:=by
 rw [Array.mapM_eq_mapM_toList];have key:∀ (l:List Field),(∀ f∈l,(uB P f.type).isSome=true)->
   ((l.mapM fun f=>do pure (f.offset,<- sizeOf f.type)):Sem (List (Nat × Nat))).run P w=.ok (l.map fun f=>(f.offset,(uB P f.type).getD 0)) w:=by
  intro l
  induction l with
  | nil=>intro _;simp
  | cons f l ih=>
   intro h;obtain ⟨q,hq⟩:=Option.isSome_iff_exists.1 (h f (by simp));have:=ih fun g hg=>h g (by simp [hg]);simp only [List.mapM_cons,Sem.run_bind,aJ hq,Result.andThen_ok,Sem.run_pure,this,List.map_cons,hq,Option.getD_some]
 have:=key fs.toList (fun f hf=>h f (by simpa using hf));rw [Sem.run_map,this,Result.andThen_ok,<- Array.toList_map]
theorem Mt (hs:iC C s)(hf:du n s fr a.tmps){t e:TypeId}{len sz:Nat}{parts:Array (Nat × Operand)}{z:List J}{ps:List (Nat × AO)}{cs:List J}
  (he:FJ P t=some e) (hsz:uB P e=some sz) (hz:HI P e=some z) (h1:len*sz<=2 ^ 24) (h2:z.length=sz) (h3:0 < sz) (hp:Ew C parts.toList=some ps)
  (hcs:al (rep z len) (ps.map fun p=>(p.1*sz,sz,C.ev fr p.2))=some cs):
  ∃ r' : Array Value, (Instr.buildSlice t len (parts.map fun p => (p.1, a.eval p.2))).run P s.w =
   .ok (.slice (some ⟨s.w.heap.size,0,none⟩) len len) {s.w with heap:=s.w.heap.push (.cells r' e (0,0))}/\aU s cs r'.toList/\(∀ c∈cs,c.isCell=true)/\cs.length=len*sz:=by
 obtain ⟨zv,z1,z2,z3⟩:=pU (s:=s) hz s.w;have hu:P.underlying t=some (.slice e):=by
  unfold FJ at he;split at he
  ·rename_i e' hu;obtain rfl:=sj he;exact hu
  ·simp at he
 have hzs:=xD z2 (by omega) len;obtain ⟨r',e1,e2,e3,e4⟩:=AV (FQ hs hf sz hp) hzs (DM z z3 len) hcs;have hcl:zv.cells.size=sz:=by have:=z2.length;simp at this;omega
 refine ⟨r',?_,e2,e3,by rw [e4,vY,h2]⟩;have e1' : Instr.fill (fun i => some (i * sz, sz)) ((Array.range (len * sz)).map (zv.cells[· % zv.cells.size]!)) ((parts.map fun p => (p.1, a.eval p.2)).toList) = some r' := by
  rw [<- e1,h2];simp
 by_cases h0:len*sz=0
 ·have z0:∀ f:Nat->Value,(Array.range 0).map f=#[]:=fun f=>by simp
  have hn:¬((0:Nat) > 2 ^ 24):=by omega
  rw [h0,z0] at e1';simp only [Instr.buildSlice,Sem.run_bind,run_underlying hu,Result.andThen_ok,aJ hsz,h0,hn,if_false,if_true,Sem.run_pure,z0,e1',newRow,run_newObj]
 ·have hn:¬(len*sz > 2 ^ 24):=by omega
  simp only [Instr.buildSlice,Sem.run_bind,run_underlying hu,Result.andThen_ok,aJ hsz,hn,if_false,Sem.run_pure,h0,z1,e1',newRow,run_newObj]
set_option maxHeartbeats 4000000 in
theorem Js (hs:iC C s)(hf:du n s fr a.tmps){o:Oper}{val:Bool}{vo:Vw}(hc:Wp C P o val=some vo){v:J}(hv:bp C fr vo=some v):
    bT C P s (execOp a.eval o) v s.h:=by
  obtain ⟨dst,op,type,pos,after,guard⟩:=o
  cases op <;> simp only [Wp] at hc <;> first
    | (simp at hc;done)
    | skip
  case move x=>
    obtain ⟨y,hy,rfl⟩:=pj hc
    simp only [bp] at hv
    obtain rfl:=sj hv
    exact bT.pure hs rfl (aC hs hf hy)
  case assign x=>
    obtain ⟨y,hy,rfl⟩:=pj hc
    simp only [bp] at hv
    obtain rfl:=sj hv
    exact bT.pure hs rfl (aC hs hf hy)
  case pick c x y=>
    obtain ⟨c',h1,hc⟩:=bind_some hc
    obtain ⟨x',h2,hc⟩:=bind_some hc
    obtain ⟨y',h3,hc⟩:=bind_some hc
    obtain rfl:=sj hc
    have r1:=aC hs hf h1
    simp only [bp] at hv
    generalize hcv:C.ev fr c'=av at hv r1
    cases av <;> simp at hv
    cases hb:a.eval c <;> rw [hb] at r1 <;> cases r1
    subst hv
    rename_i b
    refine bT.pure hs (cv:=if b then a.eval x else a.eval y) ?_ ?_
    · simp [execOp,hb,asBool]
    · cases b
      · exact aC hs hf h3
      · exact aC hs hf h2
  case box t x=>
    split at hc
    · obtain ⟨y,hy,rfl⟩:=pj hc
      have r1:=aC hs hf hy
      simp only [bp] at hv
      split at hv
      · rename_i hok
        obtain rfl:=sj hv
        obtain ⟨c1,c2⟩:=y9 r1 hok
        obtain ⟨k1,k2⟩:=vw s.w (.cells (a.eval x).cells t (0,0))
        have hl:=c1.length
        have hnew:=Yx hs t (0,0) (cs:=(C.ev fr y).cells) (vs:=(a.eval x).cells) (by rw [List.take_of_length_le (by omega)];exact c1) c2
        refine ⟨_,_,by simp [execOp,Instr.box,newVar,newRow],Good.ext hs (C1 _ _) (.vptr _ 0 _ 0 hnew)⟩
      · simp at hv
    · simp at hc
  case build t parts=>
    obtain ⟨z,hz,hc⟩:=bind_some hc
    obtain ⟨zv,z1,z2,z3⟩:=pU (s:=s) hz s.w
    split at hc
    · rename_i fs hu
      obtain ⟨ps,hp,hc⟩:=bind_some hc
      split at hc
      · rename_i hall
        obtain rfl:=sj hc
        simp only [bp] at hv
        obtain ⟨cs,hcs,hv⟩:=bind_some hv
        obtain rfl:=sj hv
        have hparts:=AX hs hf hp
        obtain ⟨r',e1,e2,e3,e4⟩:=AV hparts z2 z3 hcs
        have hplaces:=Wx (P:=P) fs (fun f hf=>List.all_eq_true.1 hall f (by simpa using hf)) s.w
        have e1' : Instr.fill (fun x => (fs.map fun f => (f.offset, (uB P f.type).getD 0))[x]?) zv.cells ((parts.map fun p => (p.1, a.eval p.2)).toList) = some r' := by
          rw [<- e1]
          simp only [Array.toList_map]
          refine congrArg (fun g=>Instr.fill g _ _) (funext fun i=>?_)
          simp only [Array.getElem?_map]
          cases hi:fs[i]? with
          | none=>rfl
          | some f=>
            simp only [Option.map_some]
            have:(uB P f.type).isSome=true:=by
              have hm:=List.all_eq_true.1 hall f (by simpa using Array.mem_of_getElem? hi)
              exact hm
            obtain ⟨q,hq⟩:=Option.isSome_iff_exists.1 this
            simp [hq]
        refine bT.pure hs (cv:=.agg r') ?_ (.agg _ _ e2 e3)
        simp only [execOp]
        refine gE ?_
        simp only [Instr.build,Sem.run_bind,z1,Result.andThen_ok,run_underlying hu,hplaces,e1',Sem.run_pure]
      · simp at hc
    · rename_i m e hu
      obtain ⟨sz,hsz,hc⟩:=bind_some hc
      obtain ⟨ps,hp,hc⟩:=bind_some hc
      obtain rfl:=sj hc
      simp only [bp] at hv
      obtain ⟨cs,hcs,hv⟩:=bind_some hv
      obtain rfl:=sj hv
      have hparts:=AX hs hf hp
      obtain ⟨r',e1,e2,e3,e4⟩:=AV hparts z2 z3 hcs
      refine bT.pure hs (cv:=.agg r') ?_ (.agg _ _ e2 e3)
      simp only [execOp]
      refine gE ?_
      have e1' : Instr.fill (fun i => some (i * sz, sz)) zv.cells ((parts.map fun p => (p.1, a.eval p.2)).toList) = some r' := by
        rw [<- e1];simp
      simp only [Instr.build,Sem.run_bind,z1,Result.andThen_ok,run_underlying hu,aJ hsz,e1',Sem.run_pure]
    · simp at hc
  case buildSlice t len parts=>
    split at hc
    · obtain ⟨e,he,hc⟩:=bind_some hc
      obtain ⟨sz,hsz,hc⟩:=bind_some hc
      obtain ⟨z,hz,hc⟩:=bind_some hc
      split at hc
      · rename_i hcond
        obtain ⟨hc1,hc2,hc3⟩:=hcond
        obtain ⟨ps,hp,hc⟩:=bind_some hc
        obtain rfl:=sj hc
        simp only [bp] at hv
        obtain ⟨cs,hcs,hv⟩:=bind_some hv
        obtain rfl:=sj hv
        obtain ⟨r',q1,q2,q3,q4⟩:=Mt hs hf he hsz hz hc1 hc2 hc3 hp hcs
        obtain ⟨k1,k2⟩:=vw s.w (.cells r' e (0,0))
        have hlen:=q2.length
        have hnew:=Yx hs e (0,0) (cs:=cs) (vs:=r') (by rw [List.take_of_length_le (by omega)];exact q2) q3
        refine ⟨_,_,by simp only [execOp];exact gE q1,Good.ext hs (C1 _ _) ?_⟩
        exact .vsl true _ _ 0 sz len len (A4 len hnew (by rw [q4];exact Nat.le_refl _)) (fQ _ _ _).symm (Nat.le_refl _) (fun _=>rfl)
      · simp at hc
    · simp at hc
  case nilCheck x=>
    obtain ⟨y,hy,rfl⟩:=pj hc
    have r1:=aC hs hf hy
    simp only [bp] at hv
    generalize hcv:C.ev fr y=av at hv r1
    cases av <;> simp at hv <;> subst hv <;> cases hb:a.eval x <;> rw [hb] at r1 <;> cases r1 <;>
      exact bT.pure hs (by simp [execOp,hb];rfl) (by constructor;assumption)
  case binOp op t x y yt=>
    obtain ⟨x',h1,hc⟩:=bind_some hc
    obtain ⟨y',h2,hc⟩:=bind_some hc
    have r1:=aC hs hf h1
    have r2:=aC hs hf h2
    have plain:∀ v,aV op (C.ev fr x') (C.ev fr y')=some v->bT C P s (execOp a.eval {dst:=dst,op:=.binOp op t x y yt,type:=type,pos:=pos,after:=after,guard:=guard}) v s.h:=by
      intro v hv
      obtain ⟨cv,e1,e2⟩:=zbK (P:=P) r1 r2 hv t s.w
      refine bT.pure hs (cv:=cv) ?_ e2
      have g:(eqGuard op t x y (a.eval x) (a.eval y)).run P s.w=.ok () s.w:=by
        refine ym s.w (fun ha hb=>?_) (fun p q ha hb=>?_)
        · rw [ha] at r1;rw [hb] at r2
          rw [Ln r1,Ln r2] at hv
          cases op <;> simp [aV] at hv
        · rw [ha] at r1;rw [hb] at r2
          obtain ⟨c1,i1⟩:=Lo r1
          obtain ⟨c2,i2⟩:=Lo r2
          rw [i1,i2] at hv
          cases op <;> simp [aV] at hv
      simp only [execOp]
      refine gE ?_
      simp only [Sem.run_bind,g,Result.andThen_ok,e1]
    have eqs:∀ cls,ziu P t cls->op=.eql\/op=.neq->(cls=.ifc->(isK x||isK y)=true)->((∃ sh,cls=.agg sh)->P.eqGuardType P.depth t=false)->
        ∀ v,((GF cls (C.ev fr x') (C.ev fr y')).map fun b=>J.bool (if (BL op) then !b else b))=some v->
        bT C P s (execOp a.eval {dst:=dst,op:=.binOp op t x y yt,type:=type,pos:=pos,after:=after,guard:=guard}) v s.h:=by
      intro cls hty hop hk hg v hv
      obtain ⟨b,hb,rfl⟩:=map_some hv
      have he:=ze2 (P:=P) r1 r2 hb hty s.w
      have g:(eqGuard op t x y (a.eval x) (a.eval y)).run P s.w=.ok () s.w:=by
        refine ym s.w (fun ha hb'=>?_) (fun p q ha hb'=>?_)
        · refine hk ?_
          rw [ha] at r1;rw [hb'] at r2
          rw [Ln r1,Ln r2] at hb
          cases cls <;> simp [GF] at hb |-
        · refine hg ?_
          rw [ha] at r1;rw [hb'] at r2
          obtain ⟨c1,i1⟩:=Lo r1
          obtain ⟨c2,i2⟩:=Lo r2
          rw [i1,i2] at hb
          cases cls <;> simp [GF] at hb |-
      have hbin:(binOp op t (a.eval x) (a.eval y)).run P s.w=.ok (.bool (if (BL op) then !b else b)) s.w:=by
        have hne:(∀ k p k' q,a.eval x=.int k p->a.eval y=.int k' q->False)/\(∀ p q,a.eval x=.string p->a.eval y=.string q->False):=by
          constructor
          · intro k p k' q ha hb'
            rw [ha] at r1;rw [hb'] at r2
            rw [YN r1,YN r2] at hb
            cases cls <;> simp [GF] at hb
          · intro p q ha hb'
            rw [ha] at r1;rw [hb'] at r2
            rw [YO r1,YO r2] at hb
            cases cls <;> simp [GF] at hb
        have hfl:(∀ k p k' q,a.eval x=.float k p->a.eval y=.float k' q->False)/\(∀ k p q k' p' q',a.eval x=.complex k p q->a.eval y=.complex k' p' q'->False):=by
          constructor
          · intro k p k' q ha hb'
            rw [ha] at r1;exact za2 r1
          · intro k p q k' p' q' ha hb'
            rw [ha] at r1;exact TZ r1
        rcases hop with rfl | rfl
        · have:binOp .eql t (a.eval x) (a.eval y)=(do pure (.bool (<- Op.equal t (a.eval x) (a.eval y)))):=by
            generalize a.eval x=cx at*
            generalize a.eval y=cy at*
            unfold binOp
            split <;> first
              | rfl
              | (rename_i h;simp at h;done)
              | (exact absurd rfl (fun h=>hne.1 _ _ _ _ rfl rfl))
              | (exact (hne.1 _ _ _ _ rfl rfl).elim)
              | (exact (hne.2 _ _ rfl rfl).elim)
              | (exact (hfl.1 _ _ _ _ rfl rfl).elim)
              | (exact (hfl.2 _ _ _ _ _ _ rfl rfl).elim)
              | simp_all
          rw [this]
          simp [he,BL]
        · have:binOp .neq t (a.eval x) (a.eval y)=(do pure (.bool (!(<- Op.equal t (a.eval x) (a.eval y))))):=by
            generalize a.eval x=cx at*
            generalize a.eval y=cy at*
            unfold binOp
            split <;> first
              | rfl
              | (exact (hne.1 _ _ _ _ rfl rfl).elim)
              | (exact (hne.2 _ _ rfl rfl).elim)
              | (exact (hfl.1 _ _ _ _ rfl rfl).elim)
              | (exact (hfl.2 _ _ _ _ _ _ rfl rfl).elim)
              | simp_all
          rw [this]
          simp [he,BL]
      refine bT.pure hs (cv:=.bool (if (BL op) then !b else b)) ?_ (.bool _)
      simp only [execOp]
      refine gE ?_
      simp only [Sem.run_bind,g,Result.andThen_ok,hbin]
    split at hc
    · obtain rfl:=sj hc
      exact plain v (by simpa [bp] using hv)
    · rename_i hop
      have hop':op=.eql\/op=.neq:=by cases op <;> simp [zdj] at hop |-
      split at hc <;> first
        | (simp at hc;done)
        | skip
      · obtain rfl:=sj hc;exact plain v (by simpa [bp] using hv)
      · obtain rfl:=sj hc;exact plain v (by simpa [bp] using hv)
      · rename_i hu
        obtain rfl:=sj hc;exact eqs .bool hu hop' (by simp) (by simp) v (by simpa [bp] using hv)
      · rename_i e hu
        obtain rfl:=sj hc;exact eqs .ptr ⟨e,hu⟩ hop' (by simp) (by simp) v (by simpa [bp] using hv)
      · rename_i e hu
        obtain rfl:=sj hc;exact eqs .slc ⟨e,hu⟩ hop' (by simp) (by simp) v (by simpa [bp] using hv)
      · rename_i p q r hu
        obtain rfl:=sj hc;exact eqs .fn ⟨p,q,r,hu⟩ hop' (by simp) (by simp) v (by simpa [bp] using hv)
      · rename_i ms hu
        split at hc
        · rename_i hk
          obtain rfl:=sj hc;exact eqs .ifc ⟨ms,hu⟩ hop' (fun _=>hk) (by simp) v (by simpa [bp] using hv)
        · simp at hc
      · rename_i fs hu
        split at hc
        · simp at hc
        · rename_i hg
          obtain ⟨sh,hsh,rfl⟩:=map_some hc
          exact eqs (.agg sh) ⟨hsh,.inl ⟨fs,hu⟩⟩ hop' (by simp) (fun _=>by simpa using hg) v (by simpa [bp] using hv)
      · rename_i m e hu
        split at hc
        · simp at hc
        · rename_i hg
          obtain ⟨sh,hsh,rfl⟩:=map_some hc
          exact eqs (.agg sh) ⟨hsh,.inr ⟨m,e,hu⟩⟩ hop' (by simp) (fun _=>by simpa using hg) v (by simpa [bp] using hv)
  case unOp op t x=>
    obtain ⟨y,hy,rfl⟩:=pj hc
    have r1:=aC hs hf hy
    simp only [bp,unA] at hv
    split at hv <;> rename_i hcv <;> first
      | (simp at hv;done)
      | (rw [hcv] at r1
         cases hb:a.eval x <;> rw [hb] at r1 <;> cases r1
         obtain rfl:=sj hv
         exact bT.pure hs (by simp only [execOp,hb,Op.unary,Op.intArith,Op.intBits];rfl) (by constructor))
  case convert src dst x=>
    split at hc <;> first
      | (simp at hc;done)
      | skip
    · rename_i d k hu1 hu2
      obtain ⟨y,hy,rfl⟩:=pj hc
      have r1:=aC hs hf hy
      simp only [bp] at hv
      generalize hcv:C.ev fr y=av at hv r1
      cases av <;> simp at hv
      cases hb:a.eval x <;> rw [hb] at r1 <;> cases r1
      subst hv
      rename_i k0 i0
      refine bT.pure hs (cv:=.int k (k.wrap i0)) ?_ (.int _ _)
      simp only [execOp,hb]
      refine gE ?_
      unfold convert
      simp only [Sem.run_bind,run_underlying hu1,run_underlying hu2,Result.andThen_ok]
      cases d <;> simp [Conv.intToInt]
    · rename_i hu1 hu2
      obtain ⟨y,hy,rfl⟩:=pj hc
      have r1:=aC hs hf hy
      simp only [bp] at hv
      generalize hcv:C.ev fr y=av at hv r1
      cases av <;> simp at hv
      cases hb:a.eval x <;> rw [hb] at r1 <;> cases r1
      subst hv
      rename_i str
      refine bT.pure hs (cv:=.string str) ?_ (.str _)
      simp only [execOp,hb]
      refine gE ?_
      unfold convert
      simp [run_underlying hu1,run_underlying hu2]
  case sliceToArrayPointer t x=>
    split at hc
    · rename_i m e hu
      obtain ⟨y,hy,rfl⟩:=pj hc
      have r1:=aC hs hf hy
      simp only [bp] at hv
      generalize hcv:C.ev fr y=av at hv r1
      cases av <;> simp only [] at hv <;> first
        | (simp at hv;done)
        | (split at hv <;> first
            | (simp at hv;done)
            | skip)
      · rename_i b off sz len cap hle
        obtain rfl:=sj hv
        generalize hb:a.eval x=cb at r1
        cases r1 with
        | sl _ _ _ _ c X _ h1 h2 h3=>
          exact bT.pure hs (cv:=.pointer (some ⟨X,off,none⟩)) (by simp [execOp,hb,Instr.arrayAt,run_underlying hu];omega) (.ptr b off X h1)
      · rename_i tk es hle
        obtain rfl:=sj hv
        generalize hb:a.eval x=cb at r1
        cases r1 with
        | gsl _ _ X o sz c m' n' h1 h2 h3 h4 h5 h6=>
          subst h3
          exact bT.pure hs (cv:=.pointer (some ⟨X,o+0,none⟩)) (by simp [execOp,hb,Instr.arrayAt,run_underlying hu];omega) (.vptr _ 0 X o (PI m h1).flatten.1)
      · rename_i cl es hle
        obtain rfl:=sj hv
        generalize hb:a.eval x=cb at r1
        cases r1 with
        | vsl _ _ X o sz c n' h1 h2 h3 h4=>
          subst h2
          exact bT.pure hs (cv:=.pointer (some ⟨X,o+0,none⟩)) (by simp [execOp,hb,Instr.arrayAt,run_underlying hu];omega) (.vptr _ 0 X o (PI m h1).flatten.1)
        | vsl0=>simp at hle;omega
    · simp at hc
  case makeInterface t x=>
    split at hc <;> first
      | (simp at hc;done)
      | skip
    rename_i d hu hd
    obtain ⟨y,hy,rfl⟩:=pj hc
    simp only [bp] at hv
    obtain rfl:=sj hv
    refine bT.pure hs (cv:=.iface t (a.eval x)) ?_ (.iface _ _ _ (aC hs hf hy))
    have:P.concrete t=true:=by
      unfold Program.concrete
      rw [hd]
      cases d <;> simp at hu |-
    simp [execOp,run_makeInterface s.w t (a.eval x) this]
  case makeFunc f first cap=>
    obtain ⟨x,h1,hc⟩:=bind_some hc
    obtain ⟨y,h2,hc⟩:=bind_some hc
    obtain rfl:=sj hc
    simp only [bp] at hv
    obtain rfl:=sj hv
    refine bT.pure hs (cv:=.func f (first.map a.eval) (cap.map a.eval)) (by simp [execOp,Instr.makeFunc]) ?_
    exact .fn _ _ _ _ _ (by simpa using pR hs hf h1) (by simpa using pR hs hf h2)
  case slice t x lo hi mx=>
    obtain ⟨x',h1,hc⟩:=bind_some hc
    obtain ⟨lo',h2,hc⟩:=bind_some hc
    obtain ⟨hi',h3,hc⟩:=bind_some hc
    obtain ⟨mx',h4,hc⟩:=bind_some hc
    split at hc
    · simp at hc
    · rename_i hmh
      have key:∀ {z z':Option Operand} {y:Option AO},coo C z=some y->(y.map (C.ev fr)=none/\z.map a.eval=none)\/∃ v cv,y.map (C.ev fr)=some v/\z.map a.eval=some cv/\dH s v cv:=by
        intro z z' y hz
        rcases JC hs hf hz with ⟨rfl,rfl⟩ | ⟨p,q,rfl,rfl,hr⟩
        · exact .inl ⟨rfl,rfl⟩
        · exact .inr ⟨_,_,rfl,rfl,hr⟩
      have hh:(mx'.map (C.ev fr)).isSome=true->(hi'.map (C.ev fr)).isSome=true:=by
        rcases JC hs hf h4 with ⟨rfl,rfl⟩ | ⟨p,q,rfl,rfl,hr⟩
        · simp
        · rcases JC hs hf h3 with ⟨rfl,rfl⟩ | ⟨p',q',rfl,rfl,hr'⟩
          · simp at hmh
          · simp
      have fin:∀ {k:SK} {sz:Nat},zoX P t sz k->eP k sz (C.ev fr x') (lo'.map (C.ev fr)) (hi'.map (C.ev fr)) (mx'.map (C.ev fr))=some v->
          bT C P s (execOp a.eval {dst:=dst,op:=.slice t x lo hi mx,type:=type,pos:=pos,after:=after,guard:=guard}) v s.h:=by
        intro k sz hk hv'
        obtain ⟨cv,e1,e2⟩:=UN (P:=P) (aC hs hf h1) (key (z':=none) h2) (key (z':=none) h3) (key (z':=none) h4) hh hk hv' s.w
        exact bT.pure hs (by simp only [execOp];exact gE e1) e2
      split at hc
      · rename_i hu
        obtain rfl:=sj hc
        exact fin (k:=.str) hu (by simpa [bp] using hv)
      · rename_i e hu
        obtain ⟨sz,h5,hc⟩:=bind_some hc
        obtain rfl:=sj hc
        exact fin (k:=.slc) ⟨e,hu,h5⟩ (by simpa [bp] using hv)
      · rename_i m e hu
        obtain ⟨sz,h5,hc⟩:=bind_some hc
        obtain rfl:=sj hc
        exact fin (k:=.arr m) ⟨e,hu,h5⟩ (by simpa [bp] using hv)
      · simp at hc
  case fieldAddr t x f=>
    split at hc <;> first
      | (simp at hc;done)
      | skip
    rename_i fs hu
    split at hc <;> first
      | (simp at hc;done)
      | skip
    rename_i fd hfd
    split at hc <;> first
      | (simp at hc;done)
      | skip
    rename_i z hz
    split at hc
    · simp at hc
    · rename_i hz0
      obtain ⟨y,hy,rfl⟩:=pj hc
      have r1:=aC hs hf hy
      simp only [bp] at hv
      have key:∀ X o,a.eval x=.pointer (some ⟨X,o,none⟩)->(execOp a.eval {dst:=dst,op:=.fieldAddr t x f,type:=type,pos:=pos,after:=after,guard:=guard}).run P s.w=.ok (.value (.pointer (some ⟨X,o+fd.offset,none⟩))) s.w:=by
        intro X o hb
        simp only [execOp,hb]
        refine gE ?_
        simp only [Instr.fieldAt,Sem.run_bind,run_underlying hu,Result.andThen_ok,hfd,Instr.sureAddr,Sem.run_pure,fieldPlace,aJ hz,hz0,if_false,lU]
      generalize hcv:C.ev fr y=av at hv r1
      cases av <;> simp at hv
      · subst hv
        generalize hb:a.eval x=cb at r1
        cases r1 with
        | ptr _ off X h=>exact bT.pure hs (key X _ hb) (.ptr _ _ X h)
      · subst hv
        generalize hb:a.eval x=cb at r1
        cases r1 with
        | vptr _ off X o h=>exact bT.pure hs (key X _ hb) (by rw [Nat.add_assoc];exact .vptr _ _ X o h)
  case field t x f=>
    split at hc <;> first
      | (simp at hc;done)
      | skip
    rename_i fs hu
    split at hc <;> first
      | (simp at hc;done)
      | skip
    rename_i fd hfd
    obtain ⟨z,hz,hc⟩:=bind_some hc
    obtain ⟨g,hg,hc⟩:=bind_some hc
    obtain ⟨y,hy,hc⟩:=bind_some hc
    obtain rfl:=sj hc
    have r1:=aC hs hf hy
    simp only [bp] at hv
    generalize hcv:C.ev fr y=av at hv r1
    cases av <;> simp at hv
    obtain ⟨vs,hb,hr,hk⟩:=Lv r1
    obtain ⟨cv,e1,e2⟩:=ME (P:=P) hz hg hr hk hv s.w
    refine bT.pure hs (cv:=cv) ?_ e2
    simp only [execOp,hb]
    refine gE ?_
    simp only [Instr.field,Sem.run_bind,run_underlying hu,Result.andThen_ok,hfd,asAgg,Sem.run_pure,e1]
  case indexAddr t x i=>
    have fin:∀ {arr:Option Nat} {sz:Nat} {x' i':AO},((∃ e m,arr=some m/\P.underlying t=some (.array m e)/\uB P e=some sz)\/(∃ e,arr=none/\P.underlying t=some (.slice e)/\uB P e=some sz))->
        co C x=some x'->co C i=some i'->bO arr sz (C.ev fr x') (C.ev fr i')=some v->
        bT C P s (execOp a.eval {dst:=dst,op:=.indexAddr t x i,type:=type,pos:=pos,after:=after,guard:=guard}) v s.h:=by
      intro arr sz x' i' ht hx hi hv
      have r1:=aC hs hf hx
      have r2:=aC hs hf hi
      unfold bO at hv
      obtain ⟨i0,hi0,hv2⟩:=bind_some hv
      replace hv:=hv2
      clear hv2
      have hci:∃ k,a.eval i=.int k i0:=by
        generalize C.ev fr i'=ai at*
        generalize a.eval i=ci at*
        cases r2 <;> simp [Ke] at hi0
        subst hi0
        exact ⟨_,rfl⟩
      obtain ⟨k,hci⟩:=hci
      generalize C.ev fr x'=ax at*
      generalize hcx:a.eval x=cx at*
      split at hv
      · rename_i b off s0 n0 cap
        split at hv
        · rename_i hcond
          obtain ⟨rfl,hc1,hc2⟩:=hcond
          obtain rfl:=sj hv
          rcases ht with ⟨e,m,h,_⟩ | ⟨e,_,hu,hz⟩
          · simp at h
          · cases r1 with
            | sl _ _ _ _ c X _ h1 h2 h3=>
              refine bT.pure hs (cv:=.pointer (some ⟨X,off+i0.toNat*s0,none⟩)) ?_ (.ptr b _ X h1)
              simp only [execOp,hcx,hci]
              refine gE ?_
              simp [Instr.indexAt,asIntOf,run_underlying hu,hc1,hc2,aJ hz,lU]
        · simp at hv
      · rename_i tk es
        split at hv
        · rename_i hc1
          cases he:es[i0.toNat]? with
          | none=>simp [he] at hv
          | some el=>
            simp only [he,Option.bind_some] at hv
            split at hv
            · rename_i hlen
              obtain rfl:=sj hv
              rcases ht with ⟨e,m,h,_⟩ | ⟨e,_,hu,hz⟩
              · simp at h
              · cases r1 with
                | gsl _ _ X o s' c m' n' h1 h2 h3 h4 h5 h6=>
                  obtain ⟨q1,q2⟩:=h1.get _ _ he
                  have hlt:=(List.getElem?_eq_some_iff.1 he).1
                  have hss:s'=sz:=by omega
                  subst hss
                  refine bT.pure hs (cv:=.pointer (some ⟨X,o+i0.toNat*s' + 0,none⟩)) ?_ (.vptr el 0 X _ q2)
                  simp only [execOp,hcx,hci]
                  refine gE ?_
                  have hc2:i0 < (n':Int):=by omega
                  simp [Instr.indexAt,asIntOf,run_underlying hu,hc1,hc2,aJ hz,lU]
            · simp at hv
        · simp at hv
      · rename_i cl es
        split at hv
        · rename_i hc1
          cases he:es[i0.toNat]? with
          | none=>simp [he] at hv
          | some el=>
            simp only [he,Option.bind_some] at hv
            split at hv
            · rename_i hlen
              obtain rfl:=sj hv
              rcases ht with ⟨e,m,h,_⟩ | ⟨e,_,hu,hz⟩
              · simp at h
              · cases r1 with
                | vsl _ _ X o s' c n' h1 h2 h3 h4=>
                  obtain ⟨q1,q2⟩:=h1.get _ _ he
                  have hlt:=(List.getElem?_eq_some_iff.1 he).1
                  have hss:s'=sz:=by omega
                  subst hss
                  refine bT.pure hs (cv:=.pointer (some ⟨X,o+i0.toNat*s' + 0,none⟩)) ?_ (.vptr el 0 X _ q2)
                  simp only [execOp,hcx,hci]
                  refine gE ?_
                  have hc2:i0 < (n':Int):=by omega
                  simp [Instr.indexAt,asIntOf,run_underlying hu,hc1,hc2,aJ hz,lU]
                | vsl0=>simp at he
            · simp at hv
        · simp at hv
      · rename_i m b off
        split at hv
        · rename_i hcond
          obtain ⟨hc1,hc2⟩:=hcond
          obtain rfl:=sj hv
          rcases ht with ⟨e,m',h,hu,hz⟩ | ⟨e,h,_⟩
          · obtain rfl:=sj h
            cases r1 with
            | ptr _ _ X h1=>
              refine bT.pure hs (cv:=.pointer (some ⟨X,off+i0.toNat*sz,none⟩)) ?_ (.ptr b _ X h1)
              simp only [execOp,hcx,hci]
              refine gE ?_
              simp [Instr.indexAt,asIntOf,run_underlying hu,Instr.sureAddr,hc1,hc2,aJ hz,lU]
          · simp at h
        · simp at hv
      · rename_i m cs off
        split at hv
        · rename_i hcond
          obtain ⟨hc1,hc2⟩:=hcond
          obtain rfl:=sj hv
          rcases ht with ⟨e,m',h,hu,hz⟩ | ⟨e,h,_⟩
          · obtain rfl:=sj h
            cases r1 with
            | vptr _ _ X o h1=>
              refine bT.pure hs (cv:=.pointer (some ⟨X,o+off+i0.toNat*sz,none⟩)) ?_ (by rw [Nat.add_assoc];exact .vptr cs _ X o h1)
              simp only [execOp,hcx,hci]
              refine gE ?_
              simp [Instr.indexAt,asIntOf,run_underlying hu,Instr.sureAddr,hc1,hc2,aJ hz,lU]
          · simp at h
        · simp at hv
      · simp at hv
    split at hc <;> first
      | (simp at hc;done)
      | skip
    · rename_i m e hu
      obtain ⟨z,hz,hc⟩:=bind_some hc
      obtain ⟨y,hy,hc⟩:=bind_some hc
      obtain ⟨w,hw,hc⟩:=bind_some hc
      obtain rfl:=sj hc
      exact fin (.inl ⟨e,m,rfl,hu,hz⟩) hy hw (by simpa [bp] using hv)
    · rename_i e hu
      obtain ⟨z,hz,hc⟩:=bind_some hc
      obtain ⟨y,hy,hc⟩:=bind_some hc
      obtain ⟨w,hw,hc⟩:=bind_some hc
      obtain rfl:=sj hc
      exact fin (.inr ⟨e,rfl,hu,hz⟩) hy hw (by simpa [bp] using hv)
  case index t x i=>
    split at hc <;> first
      | (simp at hc;done)
      | skip
    · rename_i m e hu
      obtain ⟨z,hz,hc⟩:=bind_some hc
      obtain ⟨g,hg,hc⟩:=bind_some hc
      obtain ⟨y,hy,hc⟩:=bind_some hc
      obtain ⟨w,hw,hc⟩:=bind_some hc
      obtain rfl:=sj hc
      have r1:=aC hs hf hy
      have r2:=aC hs hf hw
      simp only [bp] at hv
      generalize hcv:C.ev fr y=av at hv r1
      generalize hcw:C.ev fr w=aw at hv r2
      cases av <;> cases aw <;> simp only [] at hv <;> first
        | (simp at hv;done)
        | skip
      split at hv
      · rename_i k0 i0 hi
        obtain ⟨vs,hb,hr,hk⟩:=Lv r1
        generalize hb2:a.eval i=ci at r2
        cases r2
        obtain ⟨cv,e1,e2⟩:=ME (P:=P) hz hg hr hk hv s.w
        refine bT.pure hs (cv:=cv) ?_ e2
        simp only [execOp,hb,hb2]
        refine gE ?_
        simp only [Instr.index,Sem.run_bind,asIntOf,Sem.run_pure,Result.andThen_ok,run_underlying hu,hi,and_self,if_true,aJ hz,e1]
      · simp at hv
    · rename_i hu
      obtain ⟨y,hy,hc⟩:=bind_some hc
      obtain ⟨w,hw,hc⟩:=bind_some hc
      obtain rfl:=sj hc
      have r1:=aC hs hf hy
      have r2:=aC hs hf hw
      simp only [bp] at hv
      generalize hcv:C.ev fr y=av at hv r1
      generalize hcw:C.ev fr w=aw at hv r2
      cases av <;> cases aw <;> simp only [] at hv <;> first
        | (simp at hv;done)
        | skip
      split at hv
      · rename_i str k0 i0 hi
        obtain ⟨b,hb0,rfl⟩:=map_some hv
        generalize hb:a.eval x=cx at r1
        generalize hb2:a.eval i=ci at r2
        cases r1;cases r2
        refine bT.pure hs (cv:=.int .u8 b.toNat) ?_ (.int _ _)
        simp only [execOp,hb,hb2]
        refine gE ?_
        simp only [Instr.index,Sem.run_bind,asIntOf,Sem.run_pure,Result.andThen_ok,run_underlying hu,hi,if_true,zaR,hb0]
      · simp at hv
  case typeAssert x xt t ok=>
    split at hc <;> first
      | (simp at hc;done)
      | skip
    rename_i d hni hu
    split at hc <;> first
      | (simp at hc;done)
      | skip
    rename_i z hz
    obtain ⟨za,hza,hc⟩:=bind_some hc
    obtain ⟨y,hy,hc⟩:=bind_some hc
    obtain rfl:=sj hc
    have r1:=aC hs hf hy
    have rz:=C2 (s:=s) hza
    have hzr:(zeroValue t).run P s.w=.ok z s.w:=by
      cases hi:P.info? t with
      | none=>simp [hi] at hz
      | some i=>simp [hi] at hz;simp [zeroValue,typeInfo,hi,hz]
    simp only [bp] at hv
    generalize C.ev fr y=av at hv r1
    generalize hb:a.eval x=cx at r1
    cases av <;> simp only [] at hv <;> first
      | (simp at hv;done)
      | skip
    · rename_i u w0
      cases r1 with
      | iface _ _ w1 hw=>
        split at hv
        · rename_i hut
          subst hut
          obtain rfl:=sj hv
          cases ok
          · refine bT.pure hs (cv:=w1) ?_ (by simpa using hw)
            simp only [execOp,hb]
            refine gE ?_
            cases d <;> first
              | exact (hni _ rfl).elim
              | simp [Instr.typeAssert,run_underlying hu]
          · refine bT.pure hs (cv:=.tuple #[w1,.bool true]) ?_ (.tup _ _ (.cons _ _ _ _ hw (.cons _ _ _ _ (.bool _) .nil)))
            simp only [execOp,hb]
            refine gE ?_
            cases d <;> first
              | exact (hni _ rfl).elim
              | simp [Instr.typeAssert,run_underlying hu]
        · rename_i hut
          split at hv
          · rename_i hok
            subst hok
            obtain rfl:=sj hv
            refine bT.pure hs (cv:=.tuple #[z,.bool false]) ?_ (.tup _ _ (.cons _ _ _ _ rz (.cons _ _ _ _ (.bool _) .nil)))
            simp only [execOp,hb]
            refine gE ?_
            cases d <;> first
              | exact (hni _ rfl).elim
              | simp [Instr.typeAssert,run_underlying hu,hut,hzr]
          · simp at hv
    · cases r1
      split at hv
      · rename_i hok
        subst hok
        obtain rfl:=sj hv
        refine bT.pure hs (cv:=.tuple #[z,.bool false]) ?_ (.tup _ _ (.cons _ _ _ _ rz (.cons _ _ _ _ (.bool _) .nil)))
        simp only [execOp,hb]
        refine gE ?_
        cases d <;> first
          | exact (hni _ rfl).elim
          | simp [Instr.typeAssert,run_underlying hu,hzr]
      · simp at hv
  case extract x i=>
    obtain ⟨y,hy,hc⟩:=bind_some hc
    obtain rfl:=sj hc
    have r1:=aC hs hf hy
    simp only [bp] at hv
    generalize hcv:C.ev fr y=av at hv r1
    cases av <;> simp only [] at hv <;> first
      | (simp at hv;done)
      | skip
    obtain ⟨vs,hb,hr⟩:=zhW r1
    obtain ⟨cv,e1,e2⟩:=hr.get _ _ hv
    refine bT.pure hs (cv:=cv) ?_ e2
    have hx:vs[i]?=some cv:=by simpa using e1
    simp only [execOp,hb]
    refine gE ?_
    simp only [Instr.extract,hx,Sem.run_pure]
  case call c=>
    obtain ⟨callee,args,argTypes⟩:=c
    have rb:∀ {b:Builtin} {m:Sem Value} {cv:Value},callee=.builtin b->(∀ consts,builtin b argTypes type consts (args.map a.eval)=(do pure (.value (<- m))))->m.run P s.w=.ok cv s.w->
        (execOp a.eval {dst:=dst,op:=.call ⟨callee,args,argTypes⟩,type:=type,pos:=pos,after:=after,guard:=guard}).run P s.w=.ok (.value cv) s.w:=by
      intro b m cv hb hm hr
      subst hb
      simp only [execOp,resolve,Sem.run_bind,Sem.run_pure,Result.andThen_ok,invoke,hm,hr]
    have mm:∀ (mx:Bool),callee=.builtin (if mx then .max else .min)->∀ ys,Q9 C args.toList=some ys->bp C fr (.mxmn mx ys)=some v->
        bT C P s (execOp a.eval {dst:=dst,op:=.call ⟨callee,args,argTypes⟩,type:=type,pos:=pos,after:=after,guard:=guard}) v s.h:=by
      intro mx hcal ys hys hv
      have r1:=pR hs hf hys
      simp only [bp] at hv
      generalize ys.map (C.ev fr)=l at hv r1
      generalize hcl:args.toList.map a.eval=cl at r1
      cases r1 with
      | nil=>simp at hv
      | cons x0 y0 xs0 ys0 hx0 ht0=>
        simp only [] at hv
        obtain ⟨cv,e1,e2⟩:=Kf (P:=P) hx0 ht0 hv s.w
        refine bT.pure hs (rb (m:=if mx then Builtin.max_ argTypes type (args.map a.eval) else Builtin.min_ argTypes type (args.map a.eval)) hcal (fun _=>?_) ?_) e2
        · cases mx <;> rfl
        · cases mx
          · simp only [Bool.false_eq_true,if_false] at e1 |-
            simp only [Builtin.min_,Array.toList_map,hcl,e1]
          · simp only [if_true] at e1 |-
            simp only [Builtin.max_,Array.toList_map,hcl,e1]
    cases callee with
    | value f=>simp at hc
    | invoke r m=>simp at hc
    | builtin b=>
      cases b <;> simp only [] at hc <;> first
        | (simp at hc;done)
        | skip
      case max=>
        obtain ⟨ys,hys,hc⟩:=bind_some hc
        obtain rfl:=sj hc
        exact mm true rfl ys hys hv
      case min=>
        obtain ⟨ys,hys,hc⟩:=bind_some hc
        obtain rfl:=sj hc
        exact mm false rfl ys hys hv
      case len=>
        cases hargs:args.toList with
        | nil=>simp [hargs] at hc
        | cons x rest=>
          cases rest with
          | cons _ _=>simp [hargs] at hc
          | nil=>
            simp only [hargs] at hc
            have hx0:args=#[x]:=by rw [<- Array.toList_inj];exact hargs
            split at hc <;> first
              | (simp at hc;done)
              | skip
            · rename_i hu
              obtain ⟨y,hy,rfl⟩:=pj hc
              have r1:=aC hs hf hy
              obtain ⟨t,ht,hu⟩:=Option.bind_eq_some_iff.1 hu
              simp only [bp] at hv
              generalize C.ev fr y=av at hv r1
              generalize hb:a.eval x=cx at r1
              cases av <;> simp only [] at hv <;> first
                | (simp at hv;done)
                | skip
              obtain rfl:=sj hv
              cases r1
              refine bT.pure hs (rb rfl (fun _=>rfl) ?_) (.int _ _)
              simp [Builtin.len_,ht,hx0,run_underlying hu,hb,goInt]
            · rename_i e hu
              obtain ⟨y,hy,rfl⟩:=pj hc
              have r1:=aC hs hf hy
              obtain ⟨t,ht,hu⟩:=Option.bind_eq_some_iff.1 hu
              simp only [bp] at hv
              obtain ⟨m,hm,rfl⟩:=map_some hv
              have:∃ ad c,a.eval x=.slice ad m c:=by
                generalize C.ev fr y=av at hm r1
                generalize a.eval x=cx at r1
                cases r1 <;> simp [B9] at hm <;> subst hm
                · exact ⟨_,_,rfl⟩
                · rename_i hn _ _ _;subst hn;exact ⟨_,_,rfl⟩
                · rename_i hn _ _;subst hn;exact ⟨_,_,rfl⟩
                · exact ⟨_,_,rfl⟩
                · exact ⟨_,_,rfl⟩
              obtain ⟨ad,c,hb⟩:=this
              refine bT.pure hs (rb rfl (fun _=>rfl) ?_) (.int _ _)
              simp [Builtin.len_,ht,hx0,run_underlying hu,hb,goInt]
            · rename_i m e hu
              obtain rfl:=sj hc
              obtain ⟨t,ht,hu⟩:=Option.bind_eq_some_iff.1 hu
              simp only [bp,eD.ev] at hv
              obtain rfl:=sj hv
              refine bT.pure hs (rb rfl (fun _=>rfl) ?_) (.int _ _)
              simp [Builtin.len_,ht,hx0,run_underlying hu,goInt]
end
end Go.Av
namespace Go.Av
section
variable {C:eD} {P:Program} {s:St} {n:Nat} {fr:Fr} {a:Act}
def kh (s:St)(X o:Nat)(cs:List J):Prop:=∀ (i:Nat) (c:J),cs[i]?=some c->c.isCell=true/\∃ v,World.at s.w X (o+i)=some v/\dH s c v
theorem kh.ofR {X o : Nat}{cs : List J}(h : d8 s X o cs) : kh s X o cs := fun i c hc => by
 obtain ⟨v,a,b,d,e⟩:=h.get i c hc;exact ⟨d,v,a,e⟩
theorem kh.ofBlk (hs : iC C s){b X : Nat}{cs : List J}(hb : s.mb[b]? = some X)(hc : s.h.blks[b]? = some cs) : kh s X 0 cs := fun i c hi => by
 obtain ⟨vs,e,fz,h1,h2,h3,h4⟩:=hs.blk b X cs hb hc;obtain ⟨k,v,hv,hr⟩:=h4 i c hi;refine ⟨k,v,?_,hr⟩;simp [World.at,World.cell?,h1,hv]
theorem kh.drop {X o : Nat}{cs : List J}(h : kh s X o cs)(k : Nat) : kh s X (o + k) (cs.drop k) := fun i c hi => by
 rw [List.getElem?_drop] at hi;have:=h _ c hi
 rwa [show o+(k+i)=o+k+i by omega] at this
theorem kh.take {X o : Nat}{cs : List J}(h : kh s X o cs)(k : Nat) : kh s X o (cs.take k) := fun i c hi => by
 by_cases hk:i < k
 ·rw [List.getElem?_take_of_lt hk] at hi;exact h i c hi
 ·rw [List.getElem?_take_eq_none (by omega)] at hi;simp at hi
theorem kh.vals:∀ {cs:List J} {X o:Nat},kh s X o cs->∃ vs:List Value,aU s cs vs/\∀ (j:Nat) v,vs[j]?=some v->World.at s.w X (o+j)=some v
 | [],_,_,_=>⟨[],.nil,by simp⟩
 | c :: cs, X, o, h => by
  obtain ⟨k,v,hv,hr⟩:=h 0 c (by simp);obtain ⟨vs, h1, h2⟩ := kh.vals (cs := cs) (X := X) (o := o + 1) (fun i c' hc => by
   have:=h (i+1) c' (by simpa using hc)
   rwa [show o+(i+1)=o+1+i by omega] at this)
  refine ⟨v :: vs,.cons _ _ _ _ hr h1,fun j u hj=>?_⟩
  cases j with
  | zero=>simp at hj;subst hj;exact hv
  | succ j=>have:=h2 j u (by simpa using hj);rwa [show o+1+j=o+(j+1) by omega] at this
theorem oW {X o:Nat}{vs:List Value}(h:∀ (j:Nat) v,vs[j]?=some v->World.at s.w X (o+j)=some v):
  (loadCells ⟨X,o,none⟩ vs.length).run P s.w=.ok vs.toArray s.w:=
 run_loadCells_list s.w ⟨X,o,none⟩ vs (fun j v hj=>by rw [lU];exact h j v hj)
theorem Ay {X o off z:Nat}{cs:List J}{t:TypeId}{g:Bool}{v:J}(hr:kh s X o cs)(hz:uB P t=some z)(hg:Ck P t=some g)(h:cL g cs off z=some v):
  ∃ cv,(loadVar t ⟨X,o+off,none⟩).run P s.w=.ok cv s.w/\dH s v cv:=by
 unfold cL at h
 cases g with
 | true=>
  simp only [if_true] at h;split at h
  ·rename_i hle;obtain rfl:=sj h;have hrow:=(hr.drop off).take z;obtain ⟨vs,h1,h2⟩:=hrow.vals;have hl:vs.length=z:=by rw [<- h1.length];simp;omega
   have:=oW (P:=P) h2;rw [hl] at this;refine ⟨.agg vs.toArray,?_,.agg _ _ (by simpa using h1) (fun c hc=>?_)⟩
   ·simp only [loadVar,Sem.run_bind,n7 hg,Result.andThen_ok,if_true,aJ hz,this,Sem.run_pure]
   ·obtain ⟨i,hi⟩:=List.mem_iff_getElem?.1 hc;exact (hrow i c hi).1
  ·simp at h
 | false=>
  simp only [Bool.false_eq_true,if_false] at h;obtain ⟨k,cv,hcv,hrep⟩:=hr off v h;refine ⟨cv,?_,hrep⟩;have hcv':s.w.cell? ⟨X,o+off,none⟩=some cv:=hcv;simp only [loadVar,Sem.run_bind,n7 hg,Result.andThen_ok,Bool.false_eq_true,if_false,run_load,hcv']
theorem MA {sz:Nat}:∀ (m:Nat) (l:List J),m*sz<=l.length->∀ e∈chunks sz m l,e.length=sz
 | 0,_,_,e,he=>by simp [chunks] at he
 | m + 1, l, hl, e, he => by
  rw [Nat.succ_mul] at hl;simp only [chunks,List.mem_cons] at he;rcases he with rfl | he
  ·simp;omega
  ·exact MA m _ (by simp;omega) e he
theorem nu {sz:Nat}:∀ (es:List (List J)),(∀ e∈es,e.length=sz)->es.flatten.length=es.length*sz
 | [],_=>by simp
 | e :: es, h => by
  simp only [List.flatten_cons,List.length_append,List.length_cons,Nat.succ_mul];rw [h e (by simp),nu es (fun e' he'=>h e' (by simp [he']))];omega
theorem PS {sz:Nat}:∀ (k:Nat) (es:List (List J)),(∀ e∈es,e.length=sz)->k<=es.length->(es.take k).flatten=es.flatten.take (k*sz)
 | 0,es,_,_=>by simp
 | k+1,[],_,h=>by simp at h
 | k + 1, e :: es, h, hk => by
  have he:=h e (by simp);have ih:=PS k es (fun e' he'=>h e' (by simp [he'])) (by simpa using hk);simp only [List.take_succ_cons,List.flatten_cons];rw [ih,Nat.succ_mul,Nat.add_comm (k*sz) sz,List.take_append,he];simp [he];rw [List.take_of_length_le (by omega)]
theorem EC (hs:iC C s){sz:Nat}{x:J}{cx:Value}{es:List (List J)}(hx:dH s x cx)(h:aN s.h sz x=some es)(hz:eo sz es=true):
  (∃ str,x=.str str/\cx=.string str/\es=str.data.toList.map fun b=>[.int .u8 b.toNat])\/
  (∃ ad c,cx=.slice ad es.length c/\es.length<=c/\((∃ X o,ad=some ⟨X,o,none⟩/\kh s X o es.flatten/\∀ e∈es,e.length=sz)\/es=[])):=by
 cases hx with
 | str str=>simp [aN] at h;exact .inl ⟨str,rfl,rfl,h.symm⟩
 | sl b off s0 n0 c X cap hb hc hcap=>
  right
  simp only [aN] at h;split at h
  ·simp at h
  ·rename_i hs0;have hs0':s0=sz:=by simpa using hs0
   subst hs0';obtain ⟨cs,hcs,h⟩:=Option.bind_eq_some_iff.1 h;split at h
   ·rename_i hle;obtain rfl:=sj h;rw [fQ];refine ⟨_,c,rfl,hc,.inl ⟨X,off,rfl,?_,?_⟩⟩
    ·have key:∀ (m:Nat) (l:List J),m*s0<=l.length->(chunks s0 m l).flatten=l.take (m*s0):=by
      intro m
      induction m with
      | zero=>intro l _;simp [chunks]
      | succ m ih=>
       intro l hl;rw [Nat.succ_mul] at hl |-;simp only [chunks,List.flatten_cons];rw [ih _ (by simp;omega),Nat.add_comm (m*s0) s0,List.take_add]
     rw [key n0 _ (by simp;omega)];have:=((kh.ofBlk hs hb hcs).drop off).take (n0*s0);simpa using this
    ·exact MA n0 _ (by simp;omega)
   ·simp at h
 | gsl t es0 X o s0 c m n0 he hc hn ht hm hv=>
  right
  simp [aN] at h;subst h hn;refine ⟨_,c,rfl,hc,?_⟩;by_cases h0:es0=[]
  ·exact .inr h0
  ·have:=Ir he hz h0;subst this;exact .inl ⟨X,o,rfl,.ofR he.flatten.1,fun e hm'=>by obtain ⟨i,hi⟩:=List.mem_iff_getElem?.1 hm';exact (he.get i e hi).1⟩
 | vsl cl es0 X o s0 c n0 he hn hc hcl=>
  right
  simp [aN] at h;subst h hn;refine ⟨_,c,rfl,hc,?_⟩;by_cases h0:es0=[]
  ·exact .inr h0
  ·have:=Ir he hz h0;subst this;exact .inl ⟨X,o,rfl,.ofR he.flatten.1,fun e hm'=>by obtain ⟨i,hi⟩:=List.mem_iff_getElem?.1 hm';exact (he.get i e hi).1⟩
 | vsl0 cl ad c hcl hz0=>
  right
  simp [aN] at h;subst h;exact ⟨_,c,rfl,by simp,.inr rfl⟩
 | nsl=>
  right
  simp [aN] at h;subst h;exact ⟨_,0,rfl,by simp,.inr rfl⟩
 | _=>simp [aN] at h
theorem Jy (hs:iC C s){sz:Nat}{x:J}{cx:Value}{es:List (List J)}(hx:dH s x cx)(h:aN s.h sz x=some es)(hz:eo sz es=true)(hstr:∀ t,x=.str t->sz=1)(k:Nat)(hk:k<=es.length):
  (Builtin.lenOf cx).run P s.w=.ok es.length s.w/\∃ vs:Array Value,(Builtin.firstCells sz k cx).run P s.w=.ok vs s.w/\aU s (es.take k).flatten vs.toList/\(∀ c∈es.flatten,c.isCell=true)/\
   (es.take k).flatten.length=k*sz:=by
 rcases EC hs hx h hz with ⟨str,rfl,rfl,rfl⟩ | ⟨ad,c,rfl,hc,hrow⟩
 ·have h1:=hstr str rfl;subst h1;refine ⟨by simp [Builtin.lenOf],_,rfl,?_,?_,?_⟩
  ·have : ∀ (l : List UInt8), aU s (l.map fun b => [J.int .u8 b.toNat]).flatten (l.map fun b => Value.int .u8 b.toNat) := by
    intro l
    induction l with
    | nil=>exact .nil
    | cons b l ih=>exact .cons _ _ _ _ (.int _ _) ih
   have e1:((str.data.toList.map fun b=>[J.int .u8 (b.toNat:Int)]).take k)=(str.data.toList.take k).map fun b=>[J.int .u8 (b.toNat:Int)]:=by rw [List.map_take]
   rw [e1];have e2 : ((str.extract 0 k).data.map fun b => Value.int .u8 (b.toNat : Int)).toList = (str.data.toList.take k).map fun b => Value.int .u8 (b.toNat : Int) := by
    simp [ByteArray.data_extract]
   rw [e2];exact this _
  ·intro c hc;simp only [List.mem_flatten,List.mem_map] at hc;obtain ⟨l,⟨b,_,rfl⟩,hc⟩:=hc;simp at hc;subst hc;rfl
  ·rw [<- List.map_take];have : ∀ (l : List UInt8), (l.map fun b => [J.int .u8 (b.toNat : Int)]).flatten.length = l.length := by
    intro l
    induction l with
    | nil=>rfl
    | cons b l ih=>simp only [List.map_cons,List.flatten_cons,List.length_append,ih];simp;omega
   rw [this];simp at hk;simp;omega
 ·refine ⟨by simp [Builtin.lenOf],?_⟩;rcases hrow with ⟨X,o,rfl,hrow,hlen⟩ | rfl
  ·have e1:=PS k es hlen hk;have e2:=nu (es.take k) (fun e he=>hlen e (List.mem_of_mem_take he));rw [List.length_take,Nat.min_eq_left hk] at e2;obtain ⟨vs,h1,h2⟩:=(hrow.take (k*sz)).vals;rw [<- e1] at h1;have hl:vs.length=k*sz:=by rw [<- h1.length,e2]
   have:=oW (P:=P) h2;rw [hl] at this;refine ⟨vs.toArray,by simpa [Builtin.firstCells] using this,by simpa using h1,fun c hc=>?_,e2⟩;obtain ⟨i,hi⟩:=List.mem_iff_getElem?.1 hc;exact (hrow i c hi).1
  ·refine ⟨#[],?_,by simpa using aU.nil,by simp,by simp at hk;simp [hk]⟩;simp at hk;subst hk
   cases ad with
   | none=>simp [Builtin.firstCells]
   | some a0=>simp [Builtin.firstCells,loadCells,loadCellsFrom]
end
end Go.Av
namespace Go.Av
section
variable {C:eD} {P:Program} {s:St} {n:Nat} {fr:Fr} {a:Act}
def St.pushB (s:St)(w':World)(cs:List J):St:={s with w:=w',h:=push s.h cs,mb:=s.mb++[s.w.heap.size]}
theorem vK (hs:iC C s){cs:List J}{vs:Array Value}{e:TypeId}(h:aU s cs (vs.toList.take cs.length))(hk:∀ c∈cs,c.isCell=true):
  let s':=s.pushB {s.w with heap:=s.w.heap.push (.cells vs e (0,0))} cs
  iC C s'/\Le s s'/\s'.mb[s.h.blks.length]?=some s.w.heap.size:=by
 intro s';obtain ⟨k1,k2⟩:=vw s.w (.cells vs e (0,0));have hX:∀ (b X:Nat),s'.mb[b]?=some X->(s.mb[b]?=some X)\/(b=s.mb.length/\X=s.w.heap.size):=by
  intro b X hb;simp only [s',St.pushB] at hb;rw [List.getElem?_append] at hb;split at hb
  ·exact .inl hb
  ·rename_i hlt
   right
   have h0:b - s.mb.length=0:=by
    have:=(List.getElem?_eq_some_iff.1 hb).1;simp at this;omega
   rw [h0] at hb;simp at hb;exact ⟨by omega,hb.symm⟩
 have hl:Le s s':=by
  refine ⟨rfl, rfl, fun X vs' e' fz hx => ?_, fun X o v hi hv => ?_, fun b X hb => ?_, fun t m ht => ⟨m, ht, Nat.le_refl _, fun _ => rfl⟩,
   ⟨rfl,rfl,rfl,k1,fun X hXl ht=>?_,fun X hXl _=>k2 X hXl⟩⟩
  ·have hlt:=(Array.getElem?_eq_some_iff.1 hx).1;exact ⟨vs',fz,(k2 X hlt).trans hx,rfl,fun _ _ h=>h⟩
  ·have hlt:=YC hv;refine ⟨⟨fun b hb hX'=>?_,hi.2⟩,(nl o (k2 X hlt)).trans hv⟩;rcases hX b X hX' with h | ⟨_,h⟩
   ·have hd:=hi.1 b hb h;simp only [s',St.pushB,push];rw [List.getElem?_append_left (List.getElem?_eq_some_iff.1 hd).1];exact hd
   ·omega
  ·simp only [s',St.pushB];have:=(List.getElem?_eq_some_iff.1 hb).1;rw [List.getElem?_append_left this];exact hb
  ·rcases ht with ⟨b,hb⟩ | ⟨t,z,hz⟩
   ·rcases hX b X hb with h | ⟨_,h⟩
    ·exact .inl ⟨b,h⟩
    ·omega
   ·exact .inr ⟨t,z,hz⟩
 refine ⟨⟨by simp [s',St.pushB,push,hs.lb],hs.lt,fun b X cs' hb hc=>?_,fun b b' X h1 h2 hlt=>?_,hs.injt,fun b t X z hb=>?_,fun t X z h=>Nat.lt_of_lt_of_le (hs.old t X z h) k1,fun g cs' h=>(hs.glob g cs' h).le hl⟩,hl,?_⟩
 ·rcases hX b X hb with hb' | ⟨rfl,rfl⟩
  ·have hlt:=(List.getElem?_eq_some_iff.1 hb').1;have hc':s.h.blks[b]?=some cs':=by
    simp only [s',St.pushB,push] at hc;rw [List.getElem?_append_left (by rw [<- hs.lb];exact hlt)] at hc;exact hc
   obtain ⟨vs1,e1,fz,q1,q2,q3,q4⟩:=hs.blk b X cs' hb' hc';refine ⟨vs1,e1,fz,(k2 X (hs.blt hb')).trans q1,q2,q3,fun i c hi=>?_⟩;obtain ⟨k,v,hv,hr⟩:=q4 i c hi;exact ⟨k,v,hv,hr.le hl⟩
  ·have hc':cs'=cs:=by
    simp only [s',St.pushB,push] at hc;rw [hs.lb,List.getElem?_append_right (Nat.le_refl _)] at hc;simpa using hc.symm
   subst hc';have hlen:=h.length;simp at hlen;refine ⟨vs,e,(0,0),Array.getElem?_push_size,by omega,.inl rfl,fun i c hi=>?_⟩;obtain ⟨v,hv,hr⟩:=h.get i c hi;rw [List.getElem?_take_of_lt (List.getElem?_eq_some_iff.1 hi).1] at hv;exact ⟨hk c (List.mem_of_getElem? hi),v,by simpa using hv,hr.le hl⟩
 ·rcases hX b X h1 with h1' | ⟨rfl,rfl⟩ <;> rcases hX b' _ h2 with h2' | ⟨rfl,h2'⟩
  ·have hd:=hs.injb b b' X h1' h2' hlt;simp only [s',St.pushB,push];rw [List.getElem?_append_left (List.getElem?_eq_some_iff.1 hd).1];exact hd
  ·have:=hs.blt h1';omega
  ·have:=hs.blt h2';omega
  ·omega
 ·rcases hX b X hb with hb' | ⟨rfl,rfl⟩
  ·exact hs.disj b t X z hb'
  ·intro ht;have:=hs.old t _ z ht;omega
 ·simp only [s',St.pushB];rw [<- hs.lb,List.getElem?_append_right (Nat.le_refl _)];simp
def St.pushT (s:St)(w':World)(m sz:Nat):St:={s with w:=w',h:=ptok s.h m,mt:=s.mt++[(s.w.heap.size,sz)]}
theorem Mx (hs:iC C s)(w':World)(hsz:s.w.heap.size < w'.heap.size)(hy:Ext s.w w')(m sz:Nat):
  let s':=s.pushT w' m sz
  iC C s'/\Le s s'/\s'.mt[s.h.toks.length]?=some (s.w.heap.size,sz)/\s'.h.toks[s.h.toks.length]?=some m/\(∀ o,o < m*sz->Q8 s' s.w.heap.size o):=by
 intro s';have hx:=hy.heap;have hT:∀ (t X z:Nat),s'.mt[t]?=some (X,z)->s.mt[t]?=some (X,z)\/(t=s.mt.length/\X=s.w.heap.size/\z=sz):=by
  intro t X z ht;simp only [s',St.pushT] at ht;rw [List.getElem?_append] at ht;split at ht
  ·exact .inl ht
  ·right
   have h0:t - s.mt.length=0:=by
    have:=(List.getElem?_eq_some_iff.1 ht).1;simp at this;omega
   rw [h0] at ht;simp at ht;exact ⟨by omega,ht.1.symm,ht.2.symm⟩
 have hold:∀ (t:Nat),t < s.mt.length->s'.mt[t]?=s.mt[t]?:=fun t h=>by simp only [s',St.pushT];rw [List.getElem?_append_left h]
 have hTk : ∀ (t m' : Nat), s.h.toks[t]? = some m' -> s'.h.toks[t]? = some m' := fun t m' h => by
  have:=(List.getElem?_eq_some_iff.1 h).1;simp only [s',St.pushT,ptok];rw [List.getElem?_append_left this];exact h
 have hl:Le s s':=by
  refine ⟨rfl, rfl, fun X vs' e' fz hx' => ?_, fun X o v hi hv => ?_, fun b X hb => hb, fun t m' ht => ⟨m', hTk t m' ht, Nat.le_refl _, fun _ => hold t (by rw [hs.lt]; exact (List.getElem?_eq_some_iff.1 ht).1)⟩,
   ⟨hy.os,hy.tape,hy.out,hy.size,fun X hXl ht=>?_,fun X hXl _=>hx X hXl⟩⟩
  ·have hlt:=(Array.getElem?_eq_some_iff.1 hx').1;exact ⟨vs',fz,(hx X hlt).trans hx',rfl,fun _ _ h=>h⟩
  ·have hlt:=YC hv;refine ⟨⟨hi.1,fun t z m' hq ht htk=>?_⟩,(nl o (hx X hlt)).trans hv⟩;rcases hT t X z ht with h | ⟨_,h,_⟩
   ·have hlt':=(List.getElem?_eq_some_iff.1 h).1;have htk':s.h.toks[t]?=some m':=by
     simp only [s',St.pushT,ptok] at htk;rw [List.getElem?_append_left (by rw [<- hs.lt];exact hlt')] at htk;exact htk
    exact hi.2 t z m' hq h htk'
   ·omega
  ·rcases ht with ⟨b,hb⟩ | ⟨t,z,hz⟩
   ·exact .inl ⟨b,hb⟩
   ·rcases hT t X z hz with h | ⟨_,h,_⟩
    ·exact .inr ⟨t,z,h⟩
    ·omega
 refine ⟨⟨hs.lb,by simp [s',St.pushT,ptok,hs.lt],fun b X cs' hb hc=>?_,hs.injb,fun t t' X z z' h1 h2=>?_,fun b t X z hb ht=>?_,fun t X z h=>?_,fun g cs' h=>(hs.glob g cs' h).le hl⟩,hl,?_,?_,fun o ho=>⟨fun b hq hb=>?_,fun t z m' hq ht htk=>?_⟩⟩
 ·obtain ⟨vs1,e1,fz,q1,q2,q3,q4⟩:=hs.blk b X cs' hb hc;refine ⟨vs1,e1,fz,(hx X (hs.blt hb)).trans q1,q2,q3,fun i c hi=>?_⟩;obtain ⟨k,v,hv,hr⟩:=q4 i c hi;exact ⟨k,v,hv,hr.le hl⟩
 ·rcases hT t X z h1 with h1' | ⟨rfl,rfl,rfl⟩ <;> rcases hT t' _ z' h2 with h2' | ⟨rfl,h2',rfl⟩
  ·exact hs.injt t t' X z z' h1' h2'
  ·have:=hs.old t X z h1';omega
  ·have:=hs.old t' _ z' h2';omega
  ·rfl
 ·rcases hT t X z ht with h | ⟨_,h,_⟩
  ·exact hs.disj b t X z hb h
  ·have:=hs.blt hb;omega
 ·rcases hT t X z h with h' | ⟨_,h',_⟩
  ·have:=hs.old t X z h';simp only [s',St.pushT];omega
  ·simp only [s',St.pushT];omega
 ·simp only [s',St.pushT];rw [<- hs.lt,List.getElem?_append_right (Nat.le_refl _)];simp
 ·simp only [s',St.pushT,ptok];rw [List.getElem?_append_right (Nat.le_refl _)];simp
 ·have:=hs.blt hb;omega
 ·rcases hT t _ z ht with h | ⟨h1,h2,h3⟩
  ·have:=hs.old t _ z h;omega
  ·subst h3;have:m'=m:=by
    simp only [s',St.pushT,ptok] at htk;rw [h1,hs.lt,List.getElem?_append_right (Nat.le_refl _)] at htk;simpa using htk.symm
   subst this;exact ho
def RA (cs:Array Value):Nat->List Value->Array Value
 | _,[]=>cs
 | o,v :: vs=>RA (cs.setIfInBounds o v) (o+1) vs
theorem iH:∀ (vs:List Value) (cs:Array Value) (o:Nat),(RA cs o vs).size=cs.size
 | [],_,_=>rfl
 | v :: vs,cs,o=>by simp [RA,iH vs]
theorem nw:∀ (vs:List Value) (cs:Array Value) (o i:Nat),(i < o\/o+vs.length<=i)->(RA cs o vs)[i]?=cs[i]?
 | [],_,_,_,_=>rfl
 | v :: vs, cs, o, i, h => by
  simp only [RA];simp only [List.length_cons] at h;rw [nw vs _ _ _ (by omega),Array.getElem?_setIfInBounds_ne (by omega)]
theorem HZ:∀ (vs:List Value) (cs:Array Value) (o j:Nat) (v:Value),vs[j]?=some v->o+vs.length<=cs.size->(RA cs o vs)[o+j]?=some v
 | [],_,_,_,_,h,_=>by simp at h
 | u :: vs, cs, o, j, v, h, hl => by
  simp only [RA];simp only [List.length_cons] at hl
  cases j with
  | zero=>
   simp at h;subst h;rw [nw vs _ _ _ (by omega)];simp [show o < cs.size by omega]
  | succ j=>
   have:=HZ vs (cs.setIfInBounds o u) (o+1) j v (by simpa using h) (by simp;omega)
   rwa [show o+1+j=o+(j+1) by omega] at this
theorem xk (X:Nat):∀ (vs:List Value) (o:Nat) (w:World),(w.setCells X o vs).os=w.os
 | [],_,_=>rfl
 | v :: vs,o,w=>by rw [World.setCells,xk X vs];rfl
theorem sQ (X:Nat):∀ (vs:List Value) (o:Nat) (w:World),(w.setCells X o vs).tape=w.tape
 | [],_,_=>rfl
 | v :: vs,o,w=>by rw [World.setCells,sQ X vs];rfl
theorem vc (X:Nat):∀ (vs:List Value) (o:Nat) (w:World),(w.setCells X o vs).output=w.output
 | [],_,_=>rfl
 | v :: vs,o,w=>by rw [World.setCells,vc X vs];rfl
theorem sR (X:Nat)(e:TypeId)(fz:Nat × Nat):∀ (vs:List Value) (o:Nat) (w:World) (cs:Array Value),w.heap[X]?=some (.cells cs e fz)->
  (w.setCells X o vs).heap[X]?=some (.cells (RA cs o vs) e fz)/\(∀ Y:Nat,Y≠X->(w.setCells X o vs).heap[Y]?=w.heap[Y]?)/\(w.setCells X o vs).heap.size=w.heap.size
 | [],_,w,cs,h=>⟨h,fun _ _=>rfl,rfl⟩
 | v :: vs, o, w, cs, h => by
  have h1:(w.setCell ⟨X,o,none⟩ v).heap[X]?=some (.cells (cs.setIfInBounds o v) e fz):=by
   simp [World.setCell,Array.getElem?_modify,h]
  obtain ⟨a1,a2,a3⟩:=sR X e fz vs (o+1) _ _ h1;refine ⟨a1,fun Y hY=>?_,?_⟩
  ·rw [World.setCells,a2 Y hY];simp [World.setCell,Array.getElem?_modify,Ne.symm hY]
  ·rw [World.setCells,a3];simp [World.setCell]
theorem zek {c:J}{v:Value}(h:dH s c v)(hk:c.isCell=true):v.oneCell'=true:=by
 cases h <;> first | rfl | simp [J.isCell] at hk
theorem EE:∀ {cs:List J} {vs:List Value},aU s cs vs->(∀ c∈cs,c.isCell=true)->∀ v∈vs,v.oneCell'=true
 | _,_,.nil,_,v,hv=>by simp at hv
 | _, _, .cons x y xs ys h ht, hk, v, hv => by
  rcases List.mem_cons.1 hv with rfl | hv
  ·exact zek h (hk x (by simp))
  ·exact EE ht (fun c hc=>hk c (by simp [hc])) v hv
theorem vQ {X o:Nat}{e:TypeId}{fz:Nat × Nat}{cs:Array Value}(vs:List Value)(w:World)(hx:w.heap[X]?=some (.cells cs e fz))(hl:o+vs.length<=cs.size)
  (hf:∀ i,o<=i->i < o+vs.length->¬(fz.1<=i/\i < fz.2)) (h1:∀ v∈vs,v.oneCell'=true):
  (storeCells ⟨X,o,none⟩ vs).run P w=.ok () (w.setCells X o vs):=by
 have := run_storeCells_cells (P := P) X o vs 0 w (fun j hj => by simp [World.cell?, hx]; omega) (fun j hj => by
  have:=hf (o+j) (by omega) (by omega);simp [World.frozen?,hx];omega) h1
 simpa using this
theorem MF (hs:iC C s){b X off:Nat}(hq:s.qb<=b){old cs:List J}{vs:List Value}(hb:s.mb[b]?=some X)(ho:s.h.blks[b]?=some old)
    (hle:off+cs.length<=old.length) (hr:aU s cs vs) (hk:∀ c∈cs,c.isCell=true):
    (storeCells ⟨X,off,none⟩ vs).run P s.w=.ok () (s.w.setCells X off vs)/\
    (let s':St:={s with w:=s.w.setCells X off vs,h:={s.h with blks:=s.h.blks.set b (setAt old off cs)}}
     iC C s'/\Le s s'):=by
  obtain ⟨vb,e,fz,q1,q2,q3,q4⟩:=hs.blk b X old hb ho
  have hlen:=hr.length
  refine ⟨vQ vs s.w q1 (by omega) (fun i h1 h2=>q3.un (by omega)) (EE hr hk),?_⟩
  intro s'
  have hself:s.h.blks.set b old=s.h.blks:=by
    refine List.ext_getElem? fun i=>?_
    by_cases e:b=i
    · subst e;rw [List.getElem?_set_self (List.getElem?_eq_some_iff.1 ho).1,ho]
    · rw [List.getElem?_set_ne e]
  rcases Nat.eq_zero_or_pos cs.length with h0 | hpos
  · have hc0:cs=[]:=List.eq_nil_of_length_eq_zero h0
    subst hc0
    have hv0:vs=[]:=List.eq_nil_of_length_eq_zero (by simpa using hlen.symm)
    subst hv0
    have:s'=s:=by
      simp only [s',World.setCells,setAt,hself]
    rw [this]
    exact ⟨hs,.refl s⟩
  have hnd : s.h.blks[b]? ≠ some [] := fun h => by
    rw [ho] at h
    obtain rfl:=sj h
    simp only [List.length_nil] at hle;omega
  have keepD : ∀ b' : Nat, s.h.blks[b']? = some [] -> s'.h.blks[b']? = some [] := fun b' h => by
    have:b≠b':=fun e=>hnd (e ▸ h)
    simp only [s']
    rw [List.getElem?_set_ne this];exact h
  obtain ⟨a1,a2,a3⟩:=sR X e fz vs off s.w vb q1
  have hl:Le s s':=by
    refine ⟨rfl, rfl, fun Y vs' e' fz' hy => ?_, fun Y o v hi hv => ?_, fun b' X' hb' => hb', fun t m ht => ⟨m, ht, Nat.le_refl _, fun _ => rfl⟩,
      ⟨xk X vs off s.w,sQ X vs off s.w,vc X vs off s.w,Nat.le_of_eq a3.symm,fun _ _ h=>h,fun Y _ hn=>a2 Y fun e=>hn (.inl ⟨b,e ▸ hb⟩)⟩⟩
    · by_cases hYX:Y=X
      · subst hYX
        rw [q1] at hy
        obtain ⟨rfl,rfl,rfl⟩:vb=vs'/\e=e'/\fz=fz':=by simpa using hy
        exact ⟨_,fz,a1,iH _ _ _,fun _ _ h=>h⟩
      · exact ⟨vs',fz',(a2 Y hYX).trans hy,rfl,fun _ _ h=>h⟩
    · have hYX:Y≠X:=by
        rintro rfl
        exact hnd (hi.1 b hq hb)
      exact ⟨⟨fun b' hb' hX'=>keepD b' (hi.1 b' hb' hX'),hi.2⟩,(nl o (a2 Y hYX)).trans hv⟩
  refine ⟨⟨by simp [s',hs.lb],hs.lt,fun b' Y cs' hb' hc'=>?_,fun b1 b2 Y h1 h2 h3=>keepD b1 (hs.injb b1 b2 Y h1 h2 h3),hs.injt,hs.disj,fun t Y z h=>by simpa [s',a3] using hs.old t Y z h,fun g cs' h=>(hs.glob g cs' h).le hl⟩,hl⟩
  by_cases hbb:b'=b
  · subst hbb
    have hYX:Y=X:=by
      have:some Y=some X:=hb'.symm.trans hb
      simpa using this
    subst hYX
    have hcs':cs'=setAt old off cs:=by
      simp only [s'] at hc'
      rw [List.getElem?_set_self (by rw [<- hs.lb];exact (List.getElem?_eq_some_iff.1 hb).1)] at hc'
      simpa using hc'.symm
    subst hcs'
    refine ⟨_,e,fz,a1,by rw [iH,AH];exact q2,by rw [iH];exact q3,fun i c hi=>?_⟩
    have sa:∀ (cs l:List J) (off i:Nat) (c:J),(setAt l off cs)[i]?=some c->(∃ j,i=off+j/\cs[j]?=some c)\/((i < off\/off+cs.length<=i)/\l[i]?=some c):=by
      intro cs
      induction cs with
      | nil=>intro l off i c h;exact .inr ⟨by simp;omega,h⟩
      | cons x cs ih=>
        intro l off i c h
        simp only [setAt] at h
        rcases ih _ _ _ _ h with ⟨j,rfl,hj⟩ | ⟨h1,h2⟩
        · exact .inl ⟨j+1,by omega,by simpa using hj⟩
        · by_cases hio:i=off
          · subst hio
            left
            refine ⟨0,by omega,?_⟩
            rw [List.getElem?_set_self'] at h2
            cases hl:l[i]? with
            | none=>simp [hl] at h2
            | some _=>simp [hl] at h2;simp [h2]
          · right
            rw [List.getElem?_set_ne (Ne.symm hio)] at h2
            exact ⟨by simp only [List.length_cons];omega,h2⟩
    rcases sa cs old off i c hi with ⟨j,rfl,hj⟩ | ⟨h1,h2⟩
    · obtain ⟨v,hv,hrep⟩:=hr.get j c hj
      exact ⟨hk c (List.mem_of_getElem? hj),v,HZ vs vb off j v hv (by omega),hrep.le hl⟩
    · obtain ⟨k,v,hv,hrep⟩:=q4 i c h2
      exact ⟨k,v,by rw [nw vs vb off i (by omega)];exact hv,hrep.le hl⟩
  · have hc'':s.h.blks[b']?=some cs':=by
      simp only [s'] at hc'
      rw [List.getElem?_set_ne (Ne.symm hbb)] at hc'
      exact hc'
    by_cases hYX:Y=X
    · subst hYX
      have hd:cs'=[]:=by
        rcases Nat.lt_or_gt_of_ne hbb with h | h
        · have:=hs.injb b' b Y hb' hb h
          rw [hc''] at this
          exact sj this
        · exact absurd (hs.injb b b' Y hb hb' h) hnd
      subst hd
      exact ⟨_,e,fz,a1,by simp,by rw [iH];exact q3,fun i c hi=>by simp at hi⟩
    obtain ⟨vs1,e1,fz1,p1,p2,p3,p4⟩:=hs.blk b' Y cs' hb' hc''
    refine ⟨vs1,e1,fz1,(a2 Y hYX).trans p1,p2,p3,fun i c hi=>?_⟩
    obtain ⟨k,v,hv,hrep⟩:=p4 i c hi
    exact ⟨k,v,hv,hrep.le hl⟩
end
end Go.Av
namespace Go.Av
def PV (C:eD)(P:Program)(s:St)(m:Sem Next)(v:J)(h':O):Prop:=
 ∃ nx cv w',m.run P s.w=.ok nx w'/\(nx=.value cv\/(nx=.skip/\cv=undef))/\Good C s w' v h' cv
theorem bT.og {C:eD}{P:Program}{s:St}{m:Sem Next}{v:J}{h:O}(g:bT C P s m v h):PV C P s m v h:=by
 obtain ⟨cv,w',h1,h2⟩:=g;exact ⟨_,cv,w',h1,.inl rfl,h2⟩
section
variable {C:eD} {P:Program} {s:St} {n:Nat} {fr:Fr} {a:Act}
theorem PW (newLen:Nat):∀ (r c:Nat),Builtin.growBy newLen r c<=max c (newLen+(newLen+768) / 4)
 | 0,c=>by simp [Builtin.growBy];omega
 | r + 1, c => by
  simp only [Builtin.growBy];split
  ·omega
  ·have:=PW newLen r (c+(c+768) / 4);omega
theorem WH (need cap:Nat)(h:¬need<=cap):Builtin.nextslicecap need cap<=2*need+1000:=by
 unfold Builtin.nextslicecap;split
 ·omega
 ·split
  ·omega
  ·have:=PW need 4 cap;omega
theorem Dt (z:Array Value)(n:Nat):(Builtin.zeroCells z n).size=n*z.size:=by simp [Builtin.zeroCells]
theorem Oz {z:List J}{zv:Value}(h:aU s z zv.cells.toList)(hz:0 < z.length)(n:Nat):aU s (rep z n) (Builtin.zeroCells zv.cells n).toList:=by
 have:=xD h hz n;have hsz:zv.cells.size=z.length:=by have:=h.length;simpa using this.symm
 rw [<- hsz] at this;exact this
theorem C7 {e:TypeId}(h:Ah P e=true):∃ i zv,P.info? e=some i/\i.bytes<=256/\0 < i.bytes/\0 < i.size/\i.zero=some zv/\zv.cells.size=i.size:=by
 unfold Ah at h
 cases hi:P.info? e with
 | none=>simp [hi] at h
 | some i=>
  cases hz:i.zero with
  | none=>simp [hi,hz] at h
  | some zv=>simp [hi,hz] at h;exact ⟨i,zv,rfl,h.1.1.1,h.1.1.2,h.1.2,hz,h.2⟩
theorem Gw {sT xT e:TypeId}{type:TypeId}{sz:Nat}{base:Option Addr}{sLen sCap m:Nat}{x:Value}{old new:Array Value}
  (hs0:P.underlying sT=some (.slice e)) (hx0:(∃ d,P.underlying xT=some (.slice d))\/P.underlying xT=some .string) (hsz:uB P e=some sz) (hsm:Ah P e=true)
  (hm:(Builtin.lenOf x).run P s.w=.ok m s.w) (hneed:¬sLen+m<=sCap) (hroom:sLen+m < ao)
  (hold:∀ d,(Builtin.firstCells sz sLen (.slice base sLen sCap)).run P {s.w with drawn:=d}=.ok old {s.w with drawn:=d})
  (hnew:∀ d,(Builtin.firstCells sz m x).run P {s.w with drawn:=d}=.ok new {s.w with drawn:=d}):
  ∃ (cap d:Nat) (rest:Array Value),sLen+m<=cap/\rest.size=(cap - (sLen+m))*sz/\(Builtin.append_ #[sT,xT] type #[.slice base sLen sCap,x]).run P s.w=
   .ok (.slice (some ⟨s.w.heap.size,0,none⟩) (sLen+m) cap) {s.w with drawn:=d,heap:=s.w.heap.push (.cells (old++new++rest) e (0,0))}:=by
 obtain ⟨i,zv,hi,hb1,hb2,hb3,hzv,hzc⟩:=C7 hsm;have hisz:i.size=sz:=by simpa [uB,hi] using hsz
 have hzr:∀ w:World,(zeroValue e).run P w=.ok zv w:=fun w=>by simp [zeroValue,typeInfo,hi,hzv]
 have hti:∀ w:World,(typeInfo e).run P w=.ok i w:=fun w=>by simp [typeInfo,hi]
 have hzsz:zv.cells.size=sz:=by omega
 have hcap:=WH (sLen+m) sCap hneed;have hbig:¬(Builtin.nextslicecap (sLen+m) sCap*i.bytes > 2 ^ 48):=by
  have h1:Builtin.nextslicecap (sLen+m) sCap*i.bytes<=(2*(sLen+m)+1000)*256:=Nat.mul_le_mul hcap hb1;unfold ao at hroom;omega
 refine ⟨Question.cut (.appendCap (sLen+m) sCap e) (s.w.tape s.w.drawn (.appendCap (sLen+m) sCap e)),s.w.drawn+1,
  Builtin.zeroCells zv.cells (Question.cut (.appendCap (sLen+m) sCap e) (s.w.tape s.w.drawn (.appendCap (sLen+m) sCap e)) - (sLen+m)),?_,?_,?_⟩
 ·simp [Question.cut]
 ·rw [Dt,hzsz]
 ·have hb0:i.bytes≠0:=by omega
  have hnn:¬(((sLen+m:Nat):Int) > IntKind.i64.max/\(False\/i.bytes=0)):=by
   rintro ⟨_,h⟩;simp at h;omega
  have ask:∀ (n:Nat) (w:World),(askRoom n).run P w=.ok () w:=fun n w=>run_askRoom P w n
  rcases hx0 with ⟨dx,hdx⟩ | hdx <;>
  ·unfold Builtin.append_;simp only [List.getElem?_toArray,List.getElem?_cons_zero,List.getElem?_cons_succ,Sem.run_bind,run_underlying hs0,run_underlying hdx,Result.andThen_ok,aJ hsz,Sem.run_pure,Bool.false_eq_true,if_false,
    hm,hneed,hti,hnn,hbig,run_choose,Question.forced,ask,hold,hnew,Bool.not_false,if_true,hzr,newRow,run_newObj]
end
end Go.Av
