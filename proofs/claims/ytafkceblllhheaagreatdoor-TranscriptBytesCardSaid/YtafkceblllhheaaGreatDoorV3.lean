/- The abstract machine's appending and its calls' ends hold in the model. -/
import Derived.Test.YtafkceblllhheaaGreatDoorV2
set_option linter.unusedSimpArgs false
set_option linter.unusedVariables false
namespace Go.Av
section
variable {C:eD} {P:Program} {s:St} {n:Nat} {fr:Fr} {a:Act}
theorem Ey {X sz:Nat}:∀ {o:Nat} (es:List (List J)),d8 s X o es.flatten->(∀ e∈es,e.length=sz)->gQ s X sz o es
 | o,[],_,_=>.nil _ _ _
 | o, e :: es, h, hl => by
  have he:=hl e (by simp);simp only [List.flatten_cons] at h;refine .cons _ _ _ _ _ he ?_ (Ey es ?_ fun e' he'=>hl e' (by simp [he']))
  ·have:=h.take e.length
   rwa [List.take_left] at this
  ·have:=h.drop e.length
   rwa [List.drop_left,he] at this
theorem Mn (hs:iC C s){es:List (List J)}{sz cap d:Nat}{e:TypeId}{vals rest:Array Value}(ref:Bool)(hlen:∀ x∈es,x.length=sz)(hr:aU s es.flatten vals.toList)(hk:∀ c∈es.flatten,c.isCell=true)
  (hcap:es.length<=cap) (hrest:rest.size=(cap - es.length)*sz):
  Good C s {s.w with drawn:=d,heap:=s.w.heap.push (.cells (vals++rest) e (0,0))} (iT ref sz s.h es).1 (iT ref sz s.h es).2 (.slice (some ⟨s.w.heap.size,0,none⟩) es.length cap):=by
 have hfl:=nu es hlen;have hvs:vals.size=es.length*sz:=by have:=hr.length;rw [hfl] at this;simpa using this.symm
 have htk:(vals++rest).toList.take es.flatten.length=vals.toList:=by
  rw [Array.toList_append,List.take_left' (by rw [hfl];simpa using hvs)]
 let s1:St:={s with w:={s.w with drawn:=d}}
 have hs1:iC C s1:=HF hs _ ⟨rfl,rfl,rfl,Nat.le_refl _,fun _ _=>rfl⟩;have hl1:Le s s1:=C8 s _ ⟨rfl,rfl,rfl,Nat.le_refl _,fun _ _=>rfl⟩;have hr1:aU s1 es.flatten vals.toList:=hr.le hl1
 cases ref with
 | true=>
  obtain ⟨a1,a2,a3⟩:=vK hs1 (cs:=es.flatten) (vs:=vals++rest) (e:=e) (by rw [htk];exact hr1) hk;refine ⟨_,rfl,rfl,a1,hl1.trans a2,?_⟩;exact .sl _ 0 sz es.length cap _ none a3 hcap (fun k hk => by simp at hk) (fun _ => ⟨_, e, (0, 0), Array.getElem?_push_size, by
   simp only [Array.size_append];rw [hvs,hrest,<- Nat.add_mul,Nat.zero_add];have:es.length+(cap - es.length)=cap:=by omega
   rw [this];exact Nat.le_refl _⟩)
 | false=>
  obtain ⟨a1,a2,a3,a4,a5⟩:=Mx hs1 {s1.w with heap:=s1.w.heap.push (.cells (vals++rest) e (0,0))} (by simp) (C1 s1.w _) es.length sz;refine ⟨_,rfl,rfl,a1,hl1.trans a2,?_⟩;have hrow:d8 (s1.pushT {s1.w with heap:=s1.w.heap.push (.cells (vals++rest) e (0,0))} es.length sz) s.w.heap.size 0 es.flatten:=by
   refine d8.of_get fun i c hc=>?_;obtain ⟨v,hv,hrep⟩:=hr1.get i c hc;have hi:=(List.getElem?_eq_some_iff.1 hc).1;refine ⟨v,?_,a5 _ (by omega),hk c (List.mem_of_getElem? hc),hrep.le a2⟩;simp only [World.at,World.cell?,St.pushT,Nat.zero_add];have:(s1.w.heap.push (Obj.cells (vals++rest) e (0,0)))[s.w.heap.size]?=some (Obj.cells (vals++rest) e (0,0)):=Array.getElem?_push_size;rw [this];simp only [Option.isSome_none,Bool.false_eq_true,if_false];rw [Array.getElem?_append_left (by omega)];simpa using hv
  refine .gsl _ es _ 0 sz cap es.length es.length (Ey es hrow hlen) hcap rfl a4 (Nat.le_refl _) (fun _=>⟨a3,rfl,vals++rest,e,(0,0),Array.getElem?_push_size,?_,fun i _ _=>by simp⟩);simp only [Array.size_append];rw [hvs,hrest,<- Nat.add_mul];have:es.length+(cap - es.length)=cap:=by omega
  rw [this];exact Nat.le_refl _
theorem pt {sT xT e:TypeId}{type:TypeId}{sz:Nat}{base:Option Addr}{sLen sCap m:Nat}{x:Value}{new:Array Value}{w':World}
  (hs0:P.underlying sT=some (.slice e)) (hx0:(∃ d,P.underlying xT=some (.slice d))\/P.underlying xT=some .string) (hsz:uB P e=some sz)
  (hm:(Builtin.lenOf x).run P s.w=.ok m s.w) (hneed:sLen+m<=sCap) (hnew:(Builtin.firstCells sz m x).run P s.w=.ok new s.w)
  (hst:∀ ad,base=some ad->(storeCells (ad.add (sLen*sz)) new.toList).run P s.w=.ok () w') (hnone:base=none->w'=s.w):
  (Builtin.append_ #[sT,xT] type #[.slice base sLen sCap,x]).run P s.w=.ok (.slice base (sLen+m) sCap) w':=by
 rcases hx0 with ⟨dx,hdx⟩ | hdx <;>
 ·unfold Builtin.append_;simp only [List.getElem?_toArray,List.getElem?_cons_zero,List.getElem?_cons_succ,Sem.run_bind,run_underlying hs0,run_underlying hdx,Result.andThen_ok,aJ hsz,Sem.run_pure,Bool.false_eq_true,if_false,
   hm,hneed,if_true,Bool.not_false,hnew]
  cases base with
  | none=>simp [hnone rfl]
  | some ad=>simp [hst ad rfl]
theorem vy (hs:iC C s){sz:Nat}{x:J}{cx:Value}{es:List (List J)}(hx:dH s x cx)(h:aN s.h sz x=some es)(hz:eo sz es=true)(hstr:∀ t,x=.str t->sz=1):
  (Builtin.lenOf cx).run P s.w=.ok es.length s.w/\∃ vs:Array Value,(∀ d,(Builtin.firstCells sz es.length cx).run P {s.w with drawn:=d}=.ok vs {s.w with drawn:=d})/\aU s es.flatten vs.toList/\
   (∀ c∈es.flatten,c.isCell=true)/\(∀ e∈es,e.length=sz):=by
 obtain ⟨h1,vs,h2,h3,h4,h5⟩:=Jy (P:=P) hs hx h hz hstr es.length (Nat.le_refl _);rw [List.take_length] at h3 h5;refine ⟨h1,vs,fun d=>?_,h3,h4,?_⟩
 ·let s1:St:={s with w:={s.w with drawn:=d}}
  have hs1:iC C s1:=HF hs _ ⟨rfl,rfl,rfl,Nat.le_refl _,fun _ _=>rfl⟩;have hl1:Le s s1:=C8 s _ ⟨rfl,rfl,rfl,Nat.le_refl _,fun _ _=>rfl⟩;have hl2:Le s1 s:=C8 s1 s.w ⟨rfl,rfl,rfl,Nat.le_refl _,fun _ _=>rfl⟩;obtain ⟨_,vs',g2,_,_,_⟩:=Jy (P:=P) hs1 (hx.le hl1) h hz hstr es.length (Nat.le_refl _);have:vs'=vs:=by
   rcases EC hs hx h hz with ⟨str,rfl,rfl,rfl⟩ | ⟨ad,c,rfl,hc,hrow⟩
   ·simp only [Builtin.firstCells,Sem.run_pure,Result.ok.injEq] at h2 g2;rw [<- h2.1,<- g2.1]
   ·rcases hrow with ⟨X,o,rfl,hrow,hlen⟩ | rfl
    ·obtain ⟨vl,q1,q2⟩:=hrow.vals;have hl:vl.length=es.length*sz:=by rw [<- q1.length,nu es hlen]
     have r1:=oW (P:=P) (s:=s) q2;have r2:=oW (P:=P) (s:=s1) (vs:=vl) (X:=X) (o:=o) (fun j v hj=>q2 j v hj);rw [hl] at r1 r2;simp only [Builtin.firstCells] at h2 g2;rw [r1] at h2;have g2':(loadCells ⟨X,o,none⟩ (es.length*sz)).run P s1.w=.ok vs' s1.w:=g2;rw [r2] at g2';simp at h2 g2';rw [<- h2,<- g2']
    ·have e0:∀ (w:World),(Builtin.firstCells sz ([]:List (List J)).length (.slice ad ([]:List (List J)).length c)).run P w=.ok #[] w:=by
      intro w
      cases ad with
      | none=>simp [Builtin.firstCells]
      | some a0=>simp [Builtin.firstCells,loadCells,loadCellsFrom]
     rw [e0] at h2 g2;simp at h2 g2;rw [h2,g2]
  rw [this] at g2;exact g2
 ·rcases EC hs hx h hz with ⟨str,rfl,rfl,rfl⟩ | ⟨ad,c,rfl,hc,hrow⟩
  ·have:=hstr str rfl;subst this;intro e he;simp at he;obtain ⟨b,_,rfl⟩:=he;rfl
  ·rcases hrow with ⟨X,o,rfl,hrow,hlen⟩ | rfl
   ·exact hlen
   ·simp
theorem zaE (hs:iC C s){X sz c tk:Nat}{es ys:List (List J)}{new:Array Value}(hq:s.qt<=tk)(he:gQ s X sz 0 es)(hc:es.length+ys.length<=c)(htk:s.h.toks[tk]?=some es.length)
  (hmt:s.mt[tk]?=some (X,sz)) (hsp:TI s.w X (es.length*sz) (c*sz)) (hr:aU s ys.flatten new.toList) (hk:∀ c∈ys.flatten,c.isCell=true) (hlen:∀ y∈ys,y.length=sz):
  (storeCells ((⟨X,0,none⟩:Addr).add (es.length*sz)) new.toList).run P s.w=.ok () (s.w.setCells X (es.length*sz) new.toList)/\
  Good C s (s.w.setCells X (es.length*sz) new.toList) (.gsl tk (es++ys)) {s.h with toks:=s.h.toks.set tk (es.length+ys.length)} (.slice (some ⟨X,0,none⟩) (es.length+ys.length) c):=by
 obtain ⟨vs,e,fz,p1,p2,p3⟩:=hsp;have hnl:new.toList.length=ys.length*sz:=by rw [<- hr.length,nu ys hlen]
 have hmul:es.length*sz+ys.length*sz<=c*sz:=by rw [<- Nat.add_mul];exact Nat.mul_le_mul_right _ hc
 refine ⟨by rw [lU,Nat.zero_add];exact vQ new.toList s.w p1 (by omega) (fun i h1 h2=>p3 i h1 (by omega)) (EE hr hk),?_⟩;obtain ⟨a1,a2,a3⟩:=sR X e fz new.toList (es.length*sz) s.w vs p1
 let s':St:={s with w:=s.w.setCells X (es.length*sz) new.toList,h:={s.h with toks:=s.h.toks.set tk (es.length+ys.length)}}
 have htl:tk < s.h.toks.length:=(List.getElem?_eq_some_iff.1 htk).1;have tself:s'.h.toks[tk]?=some (es.length+ys.length):=by simp [s',htl]
 have tother:∀ t:Nat,t≠tk->s'.h.toks[t]?=s.h.toks[t]?:=fun t h=>by simp [s',List.getElem?_set_ne (Ne.symm h)]
 have notb:∀ b:Nat,s.mb[b]?≠some X:=fun b hb=>hs.disj b tk X sz hb hmt;have immX : ∀ o, o < (es.length + ys.length) * sz -> Q8 s' X o := fun o ho => by
  refine ⟨fun b _ h=>absurd h (notb b),fun t z n' _ ht hn=>?_⟩;have:t=tk:=hs.injt t tk X z sz ht hmt;subst this;have hz:z=sz:=by
   have:some (X,z)=some (X,sz):=ht.symm.trans hmt;simpa using this
  rw [tself] at hn;obtain rfl:=sj hn;rw [hz];exact ho
 have hl:Le s s':=by
  refine ⟨rfl, rfl, fun Y vs' e' fz' hy => ?_, fun Y o v hi hv => ?_, fun b' X' hb' => hb', fun t m ht => ?_,
   ⟨xk X _ _ s.w,sQ X _ _ s.w,vc X _ _ s.w,Nat.le_of_eq a3.symm,fun _ _ h=>h,fun Y _ hn=>a2 Y fun e=>hn (.inr ⟨tk,sz,e ▸ hmt⟩)⟩⟩
  ·by_cases hYX:Y=X
   ·subst hYX;rw [p1] at hy;obtain ⟨rfl,rfl,rfl⟩:vs=vs'/\e=e'/\fz=fz':=by simpa using hy
    exact ⟨_,fz,a1,iH _ _ _,fun _ _ h=>h⟩
   ·exact ⟨vs',fz',(a2 Y hYX).trans hy,rfl,fun _ _ h=>h⟩
  ·by_cases hYX:Y=X
   ·subst hYX;have ho:o < es.length*sz:=hi.2 tk sz _ hq hmt htk;refine ⟨immX o (by rw [Nat.add_mul];omega),?_⟩;have h1:vs[o]?=some v:=by simpa [World.at,World.cell?,p1] using hv
    have h2:(RA vs (es.length*sz) new.toList)[o]?=some v:=by rw [nw _ _ _ _ (by omega)];exact h1
    simp only [World.at,World.cell?,s',a1];simpa using h2
   ·refine ⟨⟨hi.1,fun t z n' hqt ht hn=>?_⟩,(nl o (a2 Y hYX)).trans hv⟩;have htt:t≠tk:=by
     rintro rfl;have:some (Y,z)=some (X,sz):=ht.symm.trans hmt;simp at this;exact hYX this.1
    rw [tother t htt] at hn;exact hi.2 t z n' hqt ht hn
  ·by_cases htt:t=tk
   ·subst htt;have:m=es.length:=by
     have:some m=some es.length:=ht.symm.trans htk;simpa using this
    exact ⟨_,tself,by omega,fun _=>rfl⟩
   ·exact ⟨m,by rw [tother t htt];exact ht,Nat.le_refl _,fun _=>rfl⟩
 have hsim:iC C s':=by
  refine ⟨hs.lb,by simp [s',hs.lt],fun b Y cs' hb hc'=>?_,hs.injb,hs.injt,hs.disj,fun t Y z h=>by simpa [s',a3] using hs.old t Y z h,fun g cs' h=>(hs.glob g cs' h).le hl⟩;have hYX:Y≠X:=fun h=>notb b (h ▸ hb);obtain ⟨vs1,e1,fz1,q1,q2,q3,q4⟩:=hs.blk b Y cs' hb hc';refine ⟨vs1,e1,fz1,(a2 Y hYX).trans q1,q2,q3,fun i c hi=>?_⟩;obtain ⟨k,v,hv,hrep⟩:=q4 i c hi;exact ⟨k,v,hv,hrep.le hl⟩
 refine ⟨s',rfl,rfl,hsim,hl,?_⟩;have hrow:d8 s' X (0+es.length*sz) ys.flatten:=by
  refine d8.of_get fun i c hci=>?_;obtain ⟨v,hv,hrep⟩:=hr.get i c hci;have hi:=(List.getElem?_eq_some_iff.1 hci).1;rw [nu ys hlen] at hi;refine ⟨v,?_,immX _ (by rw [Nat.add_mul];omega),hk c (List.mem_of_getElem? hci),hrep.le hl⟩;have:=HZ new.toList vs (es.length*sz) i v hv (by omega);simp only [World.at,World.cell?,s',a1,Nat.zero_add];simpa using this
 have hE:=(he.le hl).append (Ey ys hrow hlen);refine .gsl tk _ X 0 sz c (es.length+ys.length) _ hE hc (by simp) tself (Nat.le_refl _) (fun _=>⟨hmt,rfl,_,e,fz,a1,by rw [iH];exact p2,fun i h1 h2=>p3 i (by rw [Nat.add_mul] at h1;omega) h2⟩)
theorem zdn (hs:iC C s){X sz c tk cap d:Nat}{e:TypeId}{es ys:List (List J)}{old new rest:Array Value}(htk:s.h.toks[tk]?=some es.length)
  (hr:aU s (es++ys).flatten (old++new).toList) (hk:∀ c∈(es++ys).flatten,c.isCell=true) (hlen:∀ y∈es++ys,y.length=sz) (hpos:0 < ys.length)
  (hcap:es.length+ys.length<=cap) (hrest:rest.size=(cap - (es.length+ys.length))*sz):
  Good C s {s.w with drawn:=d,heap:=s.w.heap.push (.cells (old++new++rest) e (0,0))} (.gsl tk (es++ys)) {s.h with toks:=s.h.toks.set tk (es.length+ys.length)} (.slice (some ⟨s.w.heap.size,0,none⟩) (es.length+ys.length) cap):=by
 let w':World:={s.w with drawn:=d,heap:=s.w.heap.push (.cells (old++new++rest) e (0,0))}
 let s':St:={s with w:=w',h:={s.h with toks:=s.h.toks.set tk (es.length+ys.length)},mt:=s.mt.set tk (s.w.heap.size,sz)}
 have k2:∀ Y:Nat,Y < s.w.heap.size->w'.heap[Y]?=s.w.heap[Y]?:=fun Y hY=>(vw s.w _).2 Y hY;have htl:tk < s.h.toks.length:=(List.getElem?_eq_some_iff.1 htk).1;have hml:tk < s.mt.length:=by rw [hs.lt];exact htl
 have tself:s'.h.toks[tk]?=some (es.length+ys.length):=by simp [s',htl]
 have tother:∀ t:Nat,t≠tk->s'.h.toks[t]?=s.h.toks[t]?:=fun t h=>by simp [s',List.getElem?_set_ne (Ne.symm h)]
 have mself:s'.mt[tk]?=some (s.w.heap.size,sz):=by simp [s',hml]
 have mother:∀ t:Nat,t≠tk->s'.mt[t]?=s.mt[t]?:=fun t h=>by simp [s',List.getElem?_set_ne (Ne.symm h)]
 have hT:∀ (t Y z:Nat),s'.mt[t]?=some (Y,z)->(t≠tk/\s.mt[t]?=some (Y,z))\/(t=tk/\Y=s.w.heap.size/\z=sz):=by
  intro t Y z ht;by_cases htt:t=tk
  ·subst htt;rw [mself] at ht;simp at ht;exact .inr ⟨rfl,ht.1.symm,ht.2.symm⟩
  ·rw [mother t htt] at ht;exact .inl ⟨htt,ht⟩
 have hl:Le s s':=by
  refine ⟨rfl, rfl, fun Y vs' e' fz' hy => ?_, fun Y o v hi hv => ?_, fun b' X' hb' => hb', fun t m ht => ?_,
   ⟨rfl,rfl,rfl,(C1 s.w (.cells (old++new++rest) e (0,0))).size,fun Y hY ht=>?_,fun Y hY _=>k2 Y hY⟩⟩
  ·have hlt:=(Array.getElem?_eq_some_iff.1 hy).1;exact ⟨vs',fz',(k2 Y hlt).trans hy,rfl,fun _ _ h=>h⟩
  ·have hlt:=YC hv;refine ⟨⟨hi.1,fun t z n' hqt ht hn=>?_⟩,(nl o (k2 Y hlt)).trans hv⟩;rcases hT t Y z ht with ⟨htt,h⟩ | ⟨_,h,_⟩
   ·rw [tother t htt] at hn;exact hi.2 t z n' hqt h hn
   ·omega
  ·by_cases htt:t=tk
   ·subst htt;have:m=es.length:=by
     have:some m=some es.length:=ht.symm.trans htk;simpa using this
    exact ⟨_,tself,by omega,fun h=>by omega⟩
   ·exact ⟨m,by rw [tother t htt];exact ht,Nat.le_refl _,fun _=>mother t htt⟩
  ·rcases ht with ⟨b,hb⟩ | ⟨t,z,hz⟩
   ·exact .inl ⟨b,hb⟩
   ·rcases hT t Y z hz with ⟨_,h⟩ | ⟨_,h,_⟩
    ·exact .inr ⟨t,z,h⟩
    ·omega
 have hfl:=nu (es++ys) hlen;have hvs:(old++new).size=(es.length+ys.length)*sz:=by
  have:=hr.length;rw [hfl,List.length_append] at this;simpa using this.symm
 have hsim:iC C s':=by
  refine ⟨hs.lb,by simp [s',hs.lt],fun b Y cs' hb hc'=>?_,hs.injb,fun t t' Y z z' h1 h2=>?_,fun b t Y z hb ht=>?_,fun t Y z h=>?_,fun g cs' h=>(hs.glob g cs' h).le hl⟩
  ·obtain ⟨vs1,e1,fz1,q1,q2,q3,q4⟩:=hs.blk b Y cs' hb hc';refine ⟨vs1,e1,fz1,(k2 Y (hs.blt hb)).trans q1,q2,q3,fun i c hi=>?_⟩;obtain ⟨k,v,hv,hrep⟩:=q4 i c hi;exact ⟨k,v,hv,hrep.le hl⟩
  ·rcases hT t Y z h1 with ⟨n1,h1'⟩ | ⟨rfl,rfl,rfl⟩ <;> rcases hT t' _ z' h2 with ⟨n2,h2'⟩ | ⟨rfl,h2',rfl⟩
   ·exact hs.injt t t' Y z z' h1' h2'
   ·have:=hs.old t Y z h1';omega
   ·have:=hs.old t' _ z' h2';omega
   ·rfl
  ·rcases hT t Y z ht with ⟨_,h⟩ | ⟨_,h,_⟩
   ·exact hs.disj b t Y z hb h
   ·have:=hs.blt hb;omega
  ·have hsz:s'.w.heap.size=s.w.heap.size+1:=by simp [s',w']
   rcases hT t Y z h with ⟨_,h⟩ | ⟨_,h,_⟩
   ·have:=hs.old t Y z h;omega
   ·omega
 refine ⟨s',rfl,rfl,hsim,hl,?_⟩;have hnew:s'.w.heap[s.w.heap.size]?=some (Obj.cells (old++new++rest) e (0,0)):=Array.getElem?_push_size;have hrow:d8 s' s.w.heap.size 0 (es++ys).flatten:=by
  refine d8.of_get fun i c hci=>?_;obtain ⟨v,hv,hrep⟩:=hr.get i c hci;have hi:=(List.getElem?_eq_some_iff.1 hci).1;rw [hfl,List.length_append] at hi;refine ⟨v,?_,⟨fun b _ hb=>?_,fun t z n' _ ht hn=>?_⟩,hk c (List.mem_of_getElem? hci),hrep.le hl⟩
  ·simp only [World.at,World.cell?,hnew,Nat.zero_add,Option.isSome_none,Bool.false_eq_true,if_false];rw [Array.getElem?_append_left (by omega),<- Array.getElem?_toList];exact hv
  ·have:=hs.blt hb;omega
  ·rcases hT t _ z ht with ⟨_,h⟩ | ⟨rfl,_,rfl⟩
   ·have:=hs.old t _ z h;omega
   ·rw [tself] at hn;obtain rfl:=sj hn;omega
 refine .gsl tk _ _ 0 sz cap (es.length+ys.length) _ (Ey _ hrow hlen) hcap (by simp) tself (Nat.le_refl _) (fun _=>⟨mself,rfl,_,e,(0,0),hnew,?_,fun i _ _=>by simp⟩);simp only [Array.size_append] at hvs |-;rw [hrest];have:(es.length+ys.length)*sz+(cap - (es.length+ys.length))*sz=cap*sz:=by
  rw [<- Nat.add_mul];congr 1;omega
 omega
theorem zaF (hs:iC C s){b X:Nat}(hb:s.mb[b]?=some X)(hq:s.qb<=b):
    (let s':St:={s with h:={s.h with blks:=s.h.blks.set b []}}
     iC C s'/\Le s s'):=by
  intro s'
  have hbl:b < s.h.blks.length:=by rw [<- hs.lb];exact (List.getElem?_eq_some_iff.1 hb).1
  have keepD : ∀ b' : Nat, s.h.blks[b']? = some [] -> s'.h.blks[b']? = some [] := fun b' h => by
    simp only [s']
    by_cases e:b=b'
    · subst e;rw [List.getElem?_set_self hbl]
    · rw [List.getElem?_set_ne e];exact h
  have hl : Le s s' := ⟨rfl, rfl, fun Y vs' e' fz' hy => ⟨vs', fz', hy, rfl, fun _ _ h => h⟩,
    fun Y o v hi hv=>⟨⟨fun b' hb' hX'=>keepD b' (hi.1 b' hb' hX'),hi.2⟩,hv⟩,fun _ _ h=>h,fun t m ht=>⟨m,ht,Nat.le_refl _,fun _=>rfl⟩,
    ⟨rfl,rfl,rfl,Nat.le_refl _,fun _ _ h=>h,fun _ _ _=>rfl⟩⟩
  refine ⟨⟨by simp [s',hs.lb],hs.lt,fun b' Y cs' hb' hc'=>?_,fun b1 b2 Y h1 h2 h3=>keepD b1 (hs.injb b1 b2 Y h1 h2 h3),hs.injt,hs.disj,hs.old,fun g cs' h=>(hs.glob g cs' h).le hl⟩,hl⟩
  by_cases e:b=b'
  · subst e
    have hd:cs'=[]:=by
      simp only [s'] at hc'
      rw [List.getElem?_set_self hbl] at hc'
      exact (sj hc').symm
    subst hd
    obtain ⟨cs0,h0⟩:=hs.bsome hb'
    obtain ⟨vs1,e1,fz1,q1,q2,q3,q4⟩:=hs.blk b Y cs0 hb' h0
    exact ⟨vs1,e1,fz1,q1,by simp,q3,fun i c hi=>by simp at hi⟩
  · have hc0:s.h.blks[b']?=some cs':=by
      simp only [s'] at hc'
      rw [List.getElem?_set_ne e] at hc'
      exact hc'
    obtain ⟨vs1,e1,fz1,q1,q2,q3,q4⟩:=hs.blk b' Y cs' hb' hc0
    refine ⟨vs1,e1,fz1,q1,q2,q3,fun i c hi=>?_⟩
    obtain ⟨k,v,hv,hrep⟩:=q4 i c hi
    exact ⟨k,v,hv,hrep.le hl⟩
theorem zhx (hs:iC C s){b X sz c:Nat}{es ys:List (List J)}{cs0:List J}{new:Array Value}(hq:s.qb<=b)(hb:s.mb[b]?=some X)(ho:s.h.blks[b]?=some cs0)(hne:cs0≠[])
  (hes:∀ (i:Nat) (x:J),es.flatten[i]?=some x->cs0[i]?=some x) (hlenE:∀ y∈es,y.length=sz) (hkE:∀ c∈es.flatten,c.isCell=true)
  (hcapX:∃ vs e fz,s.w.heap[X]?=some (Obj.cells vs e fz)/\0+c*sz<=vs.size) (hc:es.length+ys.length<=c)
  (hr:aU s ys.flatten new.toList) (hk:∀ c∈ys.flatten,c.isCell=true) (hlen:∀ y∈ys,y.length=sz):
  (storeCells ((⟨X,0,none⟩:Addr).add (es.length*sz)) new.toList).run P s.w=.ok () (s.w.setCells X (es.length*sz) new.toList)/\
  Good C s (s.w.setCells X (es.length*sz) new.toList) (.sl s.h.blks.length 0 sz (es.length+ys.length) none) (push {s.h with blks:=s.h.blks.set b []} (es++ys).flatten) (.slice (some ⟨X,0,none⟩) (es.length+ys.length) c):=by
 obtain ⟨vs,e,fz,q1,q2,q3,q4⟩:=hs.blk b X cs0 hb ho;have hcap2:c*sz<=vs.size:=by
  obtain ⟨vs',e',fz',k1,k2⟩:=hcapX;rw [q1] at k1;obtain ⟨rfl,rfl,rfl⟩:vs=vs'/\e=e'/\fz=fz':=by simpa using k1
  omega
 have hnl:new.toList.length=ys.length*sz:=by rw [<- hr.length,nu ys hlen]
 have hmul:es.length*sz+ys.length*sz<=c*sz:=by rw [<- Nat.add_mul];exact Nat.mul_le_mul_right _ hc
 refine ⟨by rw [lU,Nat.zero_add];exact vQ new.toList s.w q1 (by omega) (fun i h1 h2=>q3.un (by omega)) (EE hr hk),?_⟩;obtain ⟨a1,a2,a3⟩:=sR X e fz new.toList (es.length*sz) s.w vs q1
 let s':St:={s with w:=s.w.setCells X (es.length*sz) new.toList,h:=push {s.h with blks:=s.h.blks.set b []} (es++ys).flatten,mb:=s.mb++[X]}
 have hbl:b < s.h.blks.length:=by rw [<- hs.lb];exact (List.getElem?_eq_some_iff.1 hb).1
 have hnd : s.h.blks[b]? ≠ some [] := fun h => by
  rw [ho] at h;exact hne (sj h)
 have keep : ∀ b' : Nat, b' < s.h.blks.length -> b' ≠ b -> s'.h.blks[b']? = s.h.blks[b']? := fun b' h1 h2 => by
  simp only [s',push];rw [List.getElem?_append_left (by simpa using h1),List.getElem?_set_ne (Ne.symm h2)]
 have deadb:s'.h.blks[b]?=some []:=by
  simp only [s',push];rw [List.getElem?_append_left (by simpa using hbl),List.getElem?_set_self hbl]
 have keepD : ∀ b' : Nat, s.h.blks[b']? = some [] -> s'.h.blks[b']? = some [] := fun b' h => by
  by_cases e:b'=b
  ·subst e;exact deadb
  ·rw [keep b' (List.getElem?_eq_some_iff.1 h).1 e];exact h
 have hM : ∀ (b' Y : Nat), s'.mb[b']? = some Y -> s.mb[b']? = some Y \/ (b' = s.mb.length /\ Y = X) := fun b' Y h => by
  simp only [s'] at h;rw [List.getElem?_append] at h;split at h
  ·exact .inl h
  ·right
   have h0:b' - s.mb.length=0:=by
    have:=(List.getElem?_eq_some_iff.1 h).1;simp at this;omega
   rw [h0] at h;simp at h;exact ⟨by omega,h.symm⟩
 have hMk : ∀ (b' Y : Nat), s.mb[b']? = some Y -> s'.mb[b']? = some Y := fun b' Y h => by
  simp only [s'];rw [List.getElem?_append_left (List.getElem?_eq_some_iff.1 h).1];exact h
 have hl:Le s s':=by
  refine ⟨rfl, rfl, fun Y vs' e' fz' hy => ?_, fun Y o v hi hv => ?_, fun b' X' hb' => hMk b' X' hb', fun t m ht => ⟨m, ht, Nat.le_refl _, fun _ => rfl⟩,
   ⟨xk X _ _ s.w,sQ X _ _ s.w,vc X _ _ s.w,Nat.le_of_eq a3.symm,fun Y _ ht=>?_,fun Y _ hn=>a2 Y fun e=>hn (.inl ⟨b,e ▸ hb⟩)⟩⟩
  ·by_cases hYX:Y=X
   ·subst hYX;rw [q1] at hy;obtain ⟨rfl,rfl,rfl⟩:vs=vs'/\e=e'/\fz=fz':=by simpa using hy
    exact ⟨_,fz,a1,iH _ _ _,fun _ _ h=>h⟩
   ·exact ⟨vs',fz',(a2 Y hYX).trans hy,rfl,fun _ _ h=>h⟩
  ·have hYX:Y≠X:=by
    rintro rfl;exact hnd (hi.1 b hq hb)
   refine ⟨⟨fun b' hb' hX'=>?_,hi.2⟩,(nl o (a2 Y hYX)).trans hv⟩;rcases hM b' Y hX' with h | ⟨_,h⟩
   ·exact keepD b' (hi.1 b' hb' h)
   ·exact absurd h hYX
  ·rcases ht with ⟨b',hb'⟩ | ⟨t,z,hz⟩
   ·rcases hM b' Y hb' with h | ⟨_,rfl⟩
    ·exact .inl ⟨b',h⟩
    ·exact .inl ⟨b,hb⟩
   ·exact .inr ⟨t,z,hz⟩
 have hfl:=nu es hlenE;have hsim:iC C s':=by
  refine ⟨by simp [s',push,hs.lb],hs.lt,fun b' Y cs' hb' hc'=>?_,fun b1 b2 Y h1 h2 h3=>?_,hs.injt,fun b' t Y z h=>?_,fun t Y z h=>by simpa [s',a3] using hs.old t Y z h,fun g cs' h=>(hs.glob g cs' h).le hl⟩
  ·rcases hM b' Y hb' with hb0 | ⟨rfl,rfl⟩
   ·have hbl':b' < s.h.blks.length:=by rw [<- hs.lb];exact (List.getElem?_eq_some_iff.1 hb0).1
    by_cases hbb:b'=b
    ·subst hbb;rw [deadb] at hc';obtain rfl:=sj hc';have:Y=X:=by
      rw [hb] at hb0;exact (sj hb0).symm
     subst this;exact ⟨_,e,fz,a1,by simp,by rw [iH];exact q3,fun i c hi=>by simp at hi⟩
    ·rw [keep b' hbl' hbb] at hc';by_cases hYX:Y=X
     ·subst hYX;have hd:cs'=[]:=by
       rcases Nat.lt_or_gt_of_ne hbb with h | h
       ·have:=hs.injb b' b Y hb0 hb h;rw [hc'] at this;exact sj this
       ·exact absurd (hs.injb b b' Y hb hb0 h) hnd
      subst hd;exact ⟨_,e,fz,a1,by simp,by rw [iH];exact q3,fun i c hi=>by simp at hi⟩
     ·obtain ⟨vs1,e1,fz1,p1,p2,p3,p4⟩:=hs.blk b' Y cs' hb0 hc';refine ⟨vs1,e1,fz1,(a2 Y hYX).trans p1,p2,p3,fun i c hi=>?_⟩;obtain ⟨k,v,hv,hrep⟩:=p4 i c hi;exact ⟨k,v,hv,hrep.le hl⟩
   ·have hcs:cs'=(es++ys).flatten:=by
     simp only [s',push] at hc';rw [hs.lb,List.getElem?_append_right (by simp)] at hc';simpa using hc'.symm
    subst hcs;have hfl2:=nu ys hlen;refine ⟨_,e,fz,a1,?_,by rw [iH];exact q3,fun i c hi=>?_⟩
    ·rw [iH,List.flatten_append,List.length_append,hfl,hfl2];omega
    ·rw [List.flatten_append,List.getElem?_append] at hi;split at hi
     ·rename_i hlt;obtain ⟨k,v,hv,hrep⟩:=q4 i c (hes i c hi);exact ⟨k,v,by rw [nw _ _ _ _ (by omega)];exact hv,hrep.le hl⟩
     ·rename_i hge;rw [hfl] at hi hge;obtain ⟨v,hv,hrep⟩:=hr.get _ c hi;refine ⟨hk c (List.mem_of_getElem? hi),v,?_,hrep.le hl⟩;have:=HZ new.toList vs (es.length*sz) _ v hv (by omega)
      rwa [show es.length*sz+(i - es.length*sz)=i by omega] at this
  ·rcases hM b1 Y h1 with h1' | ⟨rfl,rfl⟩
   ·rcases hM b2 Y h2 with h2' | ⟨rfl,rfl⟩
    ·exact keepD b1 (hs.injb b1 b2 Y h1' h2' h3)
    ·by_cases hbb:b1=b
     ·subst hbb;exact deadb
     ·rcases Nat.lt_or_gt_of_ne hbb with h | h
      ·exact keepD b1 (hs.injb b1 b Y h1' hb h)
      ·exact absurd (hs.injb b b1 Y hb h1' h) hnd
   ·rcases hM b2 _ h2 with h2' | ⟨rfl,_⟩
    ·have:=(List.getElem?_eq_some_iff.1 h2').1;omega
    ·omega
  ·rcases hM b' Y h with h' | ⟨_,rfl⟩
   ·exact hs.disj b' t Y z h'
   ·exact hs.disj b t Y z hb
 refine ⟨s',rfl,rfl,hsim,hl,?_⟩;refine .sl _ 0 sz _ c X none ?_ hc (fun k hk=>by simp at hk) (fun _=>⟨_,e,fz,a1,by rw [iH];omega⟩);simp only [s'];rw [<- hs.lb,List.getElem?_append_right (Nat.le_refl _)];simp
theorem zaG (hs:iC C s){L:az}(hL:oT L s){sT xT e type:TypeId}{sz:Nat}{ref:Bool}{x y:J}{cx cy:Value}{ys:List (List J)}{v:J}{h':O}
  (hs0:P.underlying sT=some (.slice e)) (hx0:(∃ d,P.underlying xT=some (.slice d))\/P.underlying xT=some .string) (hsz:uB P e=some sz) (hsm:Ah P e=true) (hstr:(∃ t,y=.str t)->sz=1)
  (hx:dH s x cx) (hy:dH s y cy) (hys:aN s.h sz y=some ys) (h:C6 L ref sz s.h x ys=some (v,h')):
  ∃ cv w',(Builtin.append_ #[sT,xT] type #[cx,cy]).run P s.w=.ok cv w'/\Good C s w' v h' cv:=by
 unfold C6 at h;split at h
 ·rename_i hzy;obtain ⟨y1,new,y2,y3,y4,y5⟩:=vy (P:=P) hs hy hys hzy (fun t ht=>hstr ⟨t,ht⟩);have y2':(Builtin.firstCells sz ys.length cy).run P s.w=.ok new s.w:=y2 s.w.drawn;have fresh:∀ (es:List (List J)) (base:Option Addr) (sLen sCap:Nat) (old:Array Value),sLen=es.length->sCap < es.length+ys.length->es.length+ys.length < ao->
    (∀ d,(Builtin.firstCells sz sLen (.slice base sLen sCap)).run P {s.w with drawn:=d}=.ok old {s.w with drawn:=d})->aU s es.flatten old.toList->(∀ c∈es.flatten,c.isCell=true)->(∀ x∈es,x.length=sz)->
    ∃ cv w',(Builtin.append_ #[sT,xT] type #[.slice base sLen sCap,cy]).run P s.w=.ok cv w'/\Good C s w' (iT ref sz s.h (es++ys)).1 (iT ref sz s.h (es++ys)).2 cv:=by
   intro es base sLen sCap old h1 h2 h3 h4 h5 h6 h7;subst h1;obtain ⟨cap,d,rest,q1,q2,q3⟩:=Gw (P:=P) (type:=type) hs0 hx0 hsz hsm y1 (by omega) h3 h4 y2;refine ⟨_,_,q3,?_⟩;have:=Mn hs (es:=es++ys) (sz:=sz) (cap:=cap) (d:=d) (e:=e) (vals:=old++new) (rest:=rest) ref
    (fun x hx => (List.mem_append.1 hx).elim (h7 x) (y5 x)) (by simpa using h5.append y3) (fun c hc => by
     rw [List.flatten_append] at hc;exact (List.mem_append.1 hc).elim (h6 c) (y4 c)) (by simpa using q1) (by simpa using q2)
   simpa using this
  split at h
  ·cases hx
   split at h
   ·rename_i h0;subst h0;obtain ⟨rfl,rfl⟩:J.nsl=v/\s.h=h':=by simpa using h
    have:=pt (P:=P) (type:=type) (base:=none) (sLen:=0) (sCap:=0) (w':=s.w) hs0 hx0 hsz y1 (by simp) y2' (fun ad h=>by simp at h) (fun _=>rfl);exact ⟨_,_,this,.same hs .nsl⟩
   ·split at h
    ·rename_i hne hroom;obtain ⟨rfl,rfl⟩:(iT ref sz s.h ys).1=v/\(iT ref sz s.h ys).2=h':=by
      have:=sj h;rw [this];exact ⟨rfl,rfl⟩
     have hpos:0 < ys.length:=List.length_pos_iff.2 hne;have:=fresh [] none 0 0 #[] rfl (by simpa using hpos) (by simpa using hroom) (fun d=>by simp [Builtin.firstCells]) (by simpa using aU.nil) (by simp) (by simp);simpa using this
    ·simp at h
  ·rename_i es;split at h
   ·rename_i hze;have shape:∃ ad,cx=.slice ad es.length es.length/\∃ old,(∀ d,(Builtin.firstCells sz es.length (.slice ad es.length es.length)).run P {s.w with drawn:=d}=.ok old {s.w with drawn:=d})/\aU s es.flatten old.toList/\
      (∀ c∈es.flatten,c.isCell=true)/\(∀ x∈es,x.length=sz):=by
     obtain ⟨x1,old,x2,x3,x4,x5⟩:=vy (P:=P) hs hx (sz:=sz) (es:=es) rfl hze (fun t ht=>by simp at ht)
     cases hx with
     | vsl _ _ X o s' c n' he hn hc hcl=>
      subst hn;have:=hcl rfl;subst this;exact ⟨_,rfl,old,x2,x3,x4,x5⟩
     | vsl0 _ ad c hcl hz0=>
      have:=hcl rfl;subst this;exact ⟨_,rfl,old,x2,x3,x4,x5⟩
    obtain ⟨ad,rfl,old,o1,o2,o3,o4⟩:=shape;split at h
    ·rename_i h0;subst h0;obtain ⟨rfl,rfl⟩:J.vsl true es=v/\s.h=h':=by simpa using h
     have hn0:new=#[]:=by
      have:=y3.length;simp at this;exact Array.size_eq_zero_iff.1 this.symm
     subst hn0;have:=pt (P:=P) (type:=type) (base:=ad) (sLen:=es.length) (sCap:=es.length) (w':=s.w) hs0 hx0 hsz y1 (by simp) y2' (fun ad h=>by simp [storeCells]) (fun _=>rfl);exact ⟨_,_,this,.same hs (by simpa using hx)⟩
    ·split at h
     ·rename_i hne hroom;obtain ⟨rfl,rfl⟩:(iT ref sz s.h (es++ys)).1=v/\(iT ref sz s.h (es++ys)).2=h':=by
       have:=sj h;rw [this];exact ⟨rfl,rfl⟩
      have hpos:0 < ys.length:=List.length_pos_iff.2 hne;exact fresh es ad es.length es.length old rfl (by omega) hroom o1 o2 o3 o4
     ·simp at h
   ·simp at h
  ·rename_i b off s0 n0 c0;split at h
   ·rename_i hcond;obtain ⟨hcn,hss⟩:=hcond;subst hcn hss;obtain ⟨es,hes,hq⟩:=Option.bind_eq_some_iff.1 h;clear h;have hze:eo s0 es=true:=by
     simp only [aN] at hes;simp only [ne_eq,not_true,if_false] at hes;obtain ⟨cs,hcs,hes⟩:=Option.bind_eq_some_iff.1 hes;split at hes
     ·rename_i hle;obtain rfl:=sj hes
      cases c0 with
      | zero=>rfl
      | succ k=>simp [chunks,eo];rw [Nat.succ_mul] at hle;omega
     ·simp at hes
    obtain ⟨x1,old,x2,x3,x4,x5⟩:=vy (P:=P) hs hx hes hze (fun t ht=>by simp at ht);have hel:es.length=c0:=by
     simp only [aN] at hes;simp only [ne_eq,not_true,if_false] at hes;obtain ⟨cs,hcs,hes⟩:=Option.bind_eq_some_iff.1 hes;split at hes
     ·obtain rfl:=sj hes;exact fQ _ _ _
     ·simp at hes
    have hx2:=hx
    cases hx with
    | sl _ _ _ _ c X _ hb hc hcap=>
     have:=hcap c0 rfl;subst this;split at hq
     ·rename_i h0;subst h0;obtain ⟨rfl,rfl⟩:J.sl b off s0 c0 (some c0)=v/\s.h=h':=by simpa using hq
      have hn0:new=#[]:=by
       have:=y3.length;simp at this;exact Array.size_eq_zero_iff.1 this.symm
      subst hn0;have:=pt (P:=P) (type:=type) (base:=some ⟨X,off,none⟩) (sLen:=c0) (sCap:=c0) (w':=s.w) hs0 hx0 hsz y1 (by simp) y2' (fun ad h=>by simp [storeCells]) (fun _=>rfl);exact ⟨_,_,this,.same hs (by simpa using hx2)⟩
     ·split at hq
      ·rename_i hne hroom;obtain ⟨rfl,rfl⟩:(iT ref s0 s.h (es++ys)).1=v/\(iT ref s0 s.h (es++ys)).2=h':=by
        have:=sj hq;rw [this];exact ⟨rfl,rfl⟩
       have hpos:0 < ys.length:=List.length_pos_iff.2 hne;exact fresh es _ c0 c0 old hel.symm (by omega) hroom (by rw [hel] at x2;exact x2) x3 x4 x5
      ·simp at hq
   ·split at h
    ·rename_i hcond;obtain ⟨hss,hfit⟩:=hcond;subst hss;obtain ⟨h1,hst,hvv⟩:=map_some h;clear h;unfold dX at hst;simp only at hst;obtain ⟨old,hob,hst⟩:=Option.bind_eq_some_iff.1 hst;split at hst
     ·rename_i hcs;obtain ⟨hrob,hle,_⟩:=hcs;obtain rfl:=sj hst;obtain ⟨rfl,rfl⟩:J.sl b off s0 (n0+ys.length) (some c0)=v/\{s.h with blks:=s.h.blks.set b (setAt old (off+n0*s0) ys.flatten)}=h':=by simpa using hvv
      have hx2:=hx
      cases hx with
      | sl _ _ _ _ c X _ hb hc hcap hkk=>
       obtain rfl:=hcap c0 rfl;obtain ⟨g1,g2,g3⟩:=MF (P:=P) hs (Nat.le_trans hL.b hrob) hb hob hle y3 y4;refine ⟨_, _, pt (P := P) (type := type) hs0 hx0 hsz y1 hfit y2' (fun ad had => by
        obtain rfl:=sj had;rw [lU];exact g1) (fun hn=>by simp at hn),_,rfl,rfl,g2,g3,?_⟩
       exact .sl b off s0 (n0+ys.length) c0 X (some c0) hb hfit (fun k hk=>by simpa using hk.symm) (fun hn=>by simp at hn)
     ·simp at hst
    ·simp at h
  ·rename_i b off s0 n0;split at h
   ·rename_i hcond;obtain ⟨hrf,hof,hss,hn0,hsz0,hrob⟩:=hcond;subst hrf hof hss;obtain ⟨es,hes,hq⟩:=Option.bind_eq_some_iff.1 h;clear h;have hes0:=hes;simp only [aN,ne_eq,not_true,if_false] at hes0;obtain ⟨cs0,hcs0,hes0⟩:=Option.bind_eq_some_iff.1 hes0;rw [List.drop_zero,Nat.zero_add] at hes0;have hle:n0*s0<=cs0.length:=by
     rcases Nat.lt_or_ge cs0.length (n0*s0) with h | h
     ·rw [if_neg (by omega)] at hes0;simp at hes0
     ·exact h
    rw [if_pos hle] at hes0;obtain rfl:=sj hes0;have hze:eo s0 (chunks s0 n0 cs0)=true:=by
     cases n0 with
     | zero=>rfl
     | succ k=>simp [chunks,eo];rw [Nat.succ_mul] at hle;omega
    obtain ⟨x1,old,x2,x3,x4,x5⟩:=vy (P:=P) hs hx hes hze (fun t ht=>by simp at ht);have hel:(chunks s0 n0 cs0).length=n0:=fQ _ _ _;have hx2:=hx
    cases hx with
    | sl _ _ _ _ c X _ hb hc hcap hkk=>
     have hcX:=hkk rfl;have hne : cs0 ≠ [] := fun h => by
      subst h;have:0 < n0*s0:=Nat.mul_pos hn0 hsz0;simp at hle;omega
     have hqb:s.qb<=b:=Nat.le_trans hL.b hrob;split at hq
     ·rename_i h0;subst h0;obtain ⟨rfl,rfl⟩:J.sl b 0 s0 n0 none=v/\s.h=h':=by simpa using hq
      have hn0:new=#[]:=by
       have:=y3.length;simp at this;exact Array.size_eq_zero_iff.1 this.symm
      subst hn0;have:=pt (P:=P) (type:=type) (base:=some ⟨X,0,none⟩) (sLen:=n0) (sCap:=c) (w':=s.w) hs0 hx0 hsz y1 (by simpa using hc) y2' (fun ad h=>by simp [storeCells]) (fun _=>rfl);exact ⟨_,_,this,.same hs (by simpa using hx2)⟩
     ·split at hq
      ·rename_i hyne hroom;obtain ⟨rfl,rfl⟩:J.sl s.h.blks.length 0 s0 ((chunks s0 n0 cs0).length+ys.length) none=v/\push {s.h with blks:=s.h.blks.set b []} (chunks s0 n0 cs0++ys).flatten=h':=by simpa using hq
       have hget:∀ (i:Nat) (x:J),(chunks s0 n0 cs0).flatten[i]?=some x->cs0[i]?=some x:=by
        have key:∀ (n:Nat) (cs:List J),(chunks s0 n cs).flatten=cs.take (n*s0):=by
         intro n
         induction n with
         | zero=>intro cs;simp [chunks]
         | succ n ih=>
          intro cs;simp only [chunks,List.flatten_cons,ih];rw [Nat.succ_mul,Nat.add_comm,List.take_add]
        intro i x hi;rw [key] at hi;exact List.getElem?_eq_some_iff.2 (by
         obtain ⟨h1,h2⟩:=List.getElem?_eq_some_iff.1 hi;rw [List.getElem_take] at h2;exact ⟨by simp at h1;omega,h2⟩)
       by_cases hfit:(chunks s0 n0 cs0).length+ys.length<=c
       ·obtain ⟨g1,g2⟩:=zhx (P:=P) hs hqb hb hcs0 hne hget x5 x4 hcX hfit y3 y4 y5;rw [hel] at g1 g2 hfit |-;exact ⟨_,_,pt (P:=P) (type:=type) hs0 hx0 hsz y1 hfit y2' (fun ad had=>by obtain rfl:=sj had;exact g1) (fun h=>by simp at h),g2⟩
       ·have hpos:0 < ys.length:=List.length_pos_iff.2 hyne;rw [hel] at x2;obtain ⟨cap,d,rest,q1,q2,q3⟩:=Gw (P:=P) (type:=type) hs0 hx0 hsz hsm y1 (by rw [hel] at hfit;exact hfit) (by rw [hel] at hroom;exact hroom) x2 y2;refine ⟨_,_,q3,?_⟩;obtain ⟨k1,k2⟩:=zaF hs hb hqb;have:=Mn k1 (es:=chunks s0 n0 cs0++ys) (sz:=s0) (cap:=cap) (d:=d) (e:=e) (vals:=old++new) (rest:=rest) true
         (fun x hx => (List.mem_append.1 hx).elim (x5 x) (y5 x)) (by simpa using (x3.append y3).le k2) (fun c hc => by
          rw [List.flatten_append] at hc;exact (List.mem_append.1 hc).elim (x4 c) (y4 c)) (by simpa [hel] using q1) (by simpa [hel] using q2)
        obtain ⟨s2,g1,g2,g3,g4,g5⟩:=this;refine ⟨s2,?_,?_,g3,k2.trans g4,?_⟩
        ·simpa [hel] using g1
        ·simpa [iT] using g2
        ·simpa [iT,hel] using g5
      ·simp at hq
   ·simp at h
  ·rename_i tk es;split at h
   ·rename_i hcond;obtain ⟨hrf,hne,hze,hrot,htk,hroom⟩:=hcond;subst hrf;obtain ⟨rfl,rfl⟩:J.gsl tk (es++ys)=v/\{s.h with toks:=s.h.toks.set tk (es.length+ys.length)}=h':=by simpa using h
    obtain ⟨x1,old,x2,x3,x4,x5⟩:=vy (P:=P) hs hx (sz:=sz) (es:=es) rfl hze (fun t ht=>by simp at ht)
    cases hx with
    | gsl _ _ X o s' c m n' he hc hn ht hm hv=>
     subst hn;have hmm:m=es.length:=by
      have:some m=some es.length:=ht.symm.trans htk;simpa using this
     subst hmm;have hzs:=Ir he hze hne;subst hzs;obtain ⟨hmt,ho,hsp⟩:=hv rfl;subst ho;have hrL:aU s (es++ys).flatten (old++new).toList:=by simpa using x3.append y3
     have hkL : ∀ c ∈ (es ++ ys).flatten, c.isCell = true := fun c hc => by
      rw [List.flatten_append] at hc;exact (List.mem_append.1 hc).elim (x4 c) (y4 c)
     have hlL:∀ z∈es++ys,z.length=sz:=fun z hz=>(List.mem_append.1 hz).elim (x5 z) (y5 z);by_cases hfit:es.length+ys.length<=c
     ·obtain ⟨g1,g2⟩:=zaE (P:=P) hs (Nat.le_trans hL.t hrot) he hfit htk hmt hsp y3 y4 y5;exact ⟨_,_,pt (P:=P) (type:=type) hs0 hx0 hsz y1 hfit y2' (fun ad had=>by obtain rfl:=sj had;exact g1) (fun h=>by simp at h),g2⟩
     ·have hpos:0 < ys.length:=by omega
      obtain ⟨cap,d,rest,q1,q2,q3⟩:=Gw (P:=P) (type:=type) hs0 hx0 hsz hsm y1 hfit hroom x2 y2;exact ⟨_,_,q3,zdn hs (X:=X) (c:=c) htk hrL hkL hlL hpos q1 q2⟩
   ·simp at h
  ·simp at h
 ·simp at h
end
end Go.Av
namespace Go.Av
section
variable {C:eD} {P:Program} {s:St} {n:Nat} {fr:Fr} {a:Act}
theorem Mo : ∀ {es : List (List J)} {l : List UInt8}, rP es = some l -> eo 1 es = true /\ ∃ ns : List Int, es = ns.map (fun i => [J.int .u8 i]) /\ l = ns.map fun i => UInt8.ofNat i.toNat
 | [], l, h => by
  simp [rP] at h;subst h;exact ⟨rfl,[],rfl,rfl⟩
 | e :: es, l, h => by
  unfold rP at h;split at h
  ·rename_i heq;simp at heq
  ·rename_i i es' heq;obtain ⟨rfl,rfl⟩:e=[J.int .u8 i]/\es=es':=by simpa using heq
   obtain ⟨l',hl',h⟩:=bind_some h;obtain rfl:=sj h;obtain ⟨_,ns,h1,h2⟩:=Mo hl';exact ⟨rfl,i :: ns,by simp [h1],by simp [h2]⟩
  ·simp at h
theorem TQ (f:Value->ByteArray->Sem (ForInStep ByteArray))(hf:∀ (i:Int) (acc:ByteArray),f (.int .u8 i) acc=pure (ForInStep.yield (acc.push (UInt8.ofNat i.toNat)))):
  ∀ (ns:List Int) (acc:ByteArray) (w:World),((forIn (ns.map fun i=>Value.int .u8 i) acc f):Sem ByteArray).run P w=.ok ⟨⟨acc.data.toList++ns.map fun i=>UInt8.ofNat i.toNat⟩⟩ w
 | [],acc,w=>by simp
 | i :: ns, acc, w => by
  simp only [List.map_cons,List.forIn_cons,Sem.run_bind,hf,Sem.run_pure,Result.andThen_ok];rw [TQ f hf ns (acc.push (UInt8.ofNat i.toNat)) w]
  congr 3
  simp [ByteArray.push]
theorem zaD (hs:iC C s)(hf:du n s fr a.tmps){o:Oper}{ro:Lk}(hc:Rj C P o=some ro){v:J}(hv:H6 C fr s.h ro=some v):PV C P s (execOp a.eval o) v s.h:=by
 obtain ⟨dst,op,type,pos,after,guard⟩:=o
 cases op <;> simp only [Rj] at hc <;> first
  | (simp at hc;done)
  | skip
 case load t x=>
  obtain ⟨z,hz,hc⟩:=bind_some hc;obtain ⟨g,hg,hc⟩:=bind_some hc;obtain ⟨y,hy,hc⟩:=bind_some hc;obtain rfl:=sj hc;have r1:=aC hs hf hy;simp only [H6] at hv;generalize C.ev fr y=av at hv r1;generalize hb:a.eval x=cx at r1;unfold qk at hv;split at hv
  ·rename_i b off;obtain ⟨cs,hcs,hv⟩:=Option.bind_eq_some_iff.1 hv
   cases r1 with
   | ptr _ _ X h1=>
    obtain ⟨cv,e1,e2⟩:=Ay (P:=P) (kh.ofBlk hs h1 hcs) hz hg hv;refine (bT.pure hs (cv:=cv) ?_ e2).og;simp only [execOp,hb];refine gE ?_;rw [Nat.zero_add] at e1;simp only [Instr.loadAt,Instr.sureAddr,Sem.run_bind,Sem.run_pure,Result.andThen_ok,e1]
  ·rename_i cs off
   cases r1 with
   | vptr _ _ X o h1=>
    obtain ⟨cv,e1,e2⟩:=Ay (P:=P) (kh.ofR h1) hz hg hv;refine (bT.pure hs (cv:=cv) ?_ e2).og;simp only [execOp,hb];refine gE ?_;simp only [Instr.loadAt,Instr.sureAddr,Sem.run_bind,Sem.run_pure,Result.andThen_ok,e1]
  ·simp at hv
 case convert src dst x=>
  split at hc <;> first
   | (simp at hc;done)
   | skip
  ·rename_i e hu1 hu2
   split at hc <;> first
    | (simp at hc;done)
    | skip
   rename_i hu3;obtain ⟨y,hy,hc⟩:=map_some hc;subst hc;have r1:=aC hs hf hy;simp only [H6] at hv;obtain ⟨es,hes,hv⟩:=bind_some hv;obtain ⟨l,hl,hv⟩:=bind_some hv;obtain rfl:=sj hv;obtain ⟨hz,ns,hes',hl'⟩:=Mo hl;generalize C.ev fr y=av at hes r1;generalize hb:a.eval x=cx at r1;rcases EC hs r1 hes hz with ⟨str,rfl,rfl,rfl⟩ | ⟨ad,c,rfl,hc,hrow⟩
   ·refine (bT.pure hs (cv:=.string str) ?_ ?_).og
    ·simp only [execOp,hb];refine gE ?_;unfold convert;simp [run_underlying hu1,run_underlying hu2]
    ·have:(⟨l.toArray⟩:ByteArray)=str:=by
      have:l=str.data.toList:=by
       clear hz hes hb r1;revert hl;generalize str.data.toList=q;intro hl;have key : ∀ (q l : List UInt8), rP (q.map fun b => [J.int .u8 (b.toNat : Int)]) = some l -> l = q := by
        intro q
        induction q with
        | nil=>intro l h;simp [rP] at h;exact h
        | cons b q ih=>
         intro l h;simp only [List.map_cons,rP] at h;obtain ⟨l',hl',h⟩:=bind_some h;obtain rfl:=sj h;rw [ih l' hl'];simp
       exact key q l hl
      rw [this]
     rw [this];exact .str _
   ·refine (bT.pure hs (cv:=.string ⟨l.toArray⟩) ?_ (.str _)).og;simp only [execOp,hb];refine gE ?_;unfold convert;have hconv:(Conv.bytesToString (.slice ad es.length c)).run P s.w=.ok (.string ⟨l.toArray⟩) s.w:=by
     rcases hrow with ⟨X,o,rfl,hrow,hlen⟩ | h0
     ·obtain ⟨vs,q1,q2⟩:=hrow.vals;have hvl : vs = ns.map fun i => Value.int .u8 i := by
       rw [hes'] at q1;clear hes' hes hb hl hz hrow q2 hlen hl';have key : ∀ (ns : List Int) (vs : List Value), aU s (ns.map fun i => [J.int .u8 i]).flatten vs -> vs = ns.map fun i => Value.int .u8 i := by
        intro ns
        induction ns with
        | nil=>intro vs h;cases h;rfl
        | cons i ns ih=>
         intro vs h;simp only [List.map_cons,List.flatten_cons,List.singleton_append] at h
         cases h with
         | cons _ y _ ys hy ht=>cases hy;rw [ih ys ht];rfl
       exact key ns vs q1
      have hlv:vs.length=es.length:=by rw [<- q1.length,nu es hlen];simp
      have hld:=oW (P:=P) q2;rw [hlv] at hld;simp only [Conv.bytesToString,Sem.run_bind,hld,Result.andThen_ok];rw [<- Array.forIn_toList];rw [hvl];have e2 : (⟨l.toArray⟩ : ByteArray) = ⟨⟨ByteArray.empty.data.toList ++ ns.map fun i => UInt8.ofNat i.toNat⟩⟩ := by
       rw [hl'];rfl
      rw [e2];rw [TQ (P:=P) _ (fun i acc=>rfl) ns ByteArray.empty s.w];rfl
     ·subst h0;have:l=[]:=by simp [rP] at hl;exact hl
      subst this
      cases ad with
      | none=>simp [Conv.bytesToString];rfl
      | some a0=>simp [Conv.bytesToString,loadCells,loadCellsFrom];rfl
    simp [run_underlying hu1,run_underlying hu2,run_underlying hu3,hconv]
  ·rename_i e1 e hu1 hu2
   split at hc <;> first
    | (simp at hc;done)
    | skip
   rename_i hu3;split at hc
   ·rename_i hsd;subst hsd;obtain ⟨y,hy,hc⟩:=map_some hc;subst hc;have r1:=aC hs hf hy;simp only [H6] at hv;generalize C.ev fr y=av at hv r1;generalize hb:a.eval x=cx at r1
    cases av <;> simp only [] at hv <;> first
     | (simp at hv;done)
     | skip
    obtain rfl:=sj hv;have r0:=r1;obtain ⟨cx0,hcx0⟩:∃ z,z=cx:=⟨_,rfl⟩
    cases r1 with
    | sl _ off _ n0 c X _ h1 h2 h3=>
     obtain ⟨cs,hcs⟩:=hs.bsome h1;obtain ⟨vs,e0,fz,q1,q2,q3,q4⟩:=hs.blk _ _ _ h1 hcs
     let w':=s.w.freeze {block:=X,off:=vs.size} 1
     have hX:w'.heap[X]?=some (.cells vs e0 (if fz.1==fz.2 then (vs.size,vs.size+1) else (min fz.1 vs.size,max fz.2 (vs.size+1)))):=by
      simp [w',World.freeze,Array.getElem?_modify,q1]
     have hY : ∀ Y : Nat, Y ≠ X -> w'.heap[Y]? = s.w.heap[Y]? := fun Y hY => by
      simp [w',World.freeze,Array.getElem?_modify,Ne.symm hY]
     have hsz:w'.heap.size=s.w.heap.size:=by simp [w',World.freeze]
     have hben:Jg (if fz.1==fz.2 then (vs.size,vs.size+1) else (min fz.1 vs.size,max fz.2 (vs.size+1))) vs.size:=by
      by_cases he:fz.1=fz.2
      ·simp [he,Jg]
      ·have:vs.size<=fz.1:=q3.resolve_left he;simp [he,Jg];omega
     have hat : ∀ Y o, World.at w' Y o = World.at s.w Y o := fun Y o => by
      by_cases hYX:Y=X
      ·subst hYX;simp only [World.at,World.cell?,hX,q1]
      ·exact nl o (hY Y hYX)
     have hl:Le s {s with w:=w'}:=by
      refine ⟨rfl, rfl, fun Y vs' e' fz' hy => ?_, fun Y o v hi hv => ⟨hi, (hat Y o).trans hv⟩, fun _ _ h => h, fun t m h => ⟨m, h, Nat.le_refl _, fun _ => rfl⟩,
       ⟨rfl,rfl,rfl,Nat.le_of_eq hsz.symm,fun _ _ h=>h,fun Y _ hn=>hY Y fun e=>hn (.inl ⟨_,e ▸ h1⟩)⟩⟩
      by_cases hYX:Y=X
      ·subst hYX;rw [q1] at hy;obtain ⟨rfl,rfl,rfl⟩:vs=vs'/\e0=e'/\fz=fz':=by simpa using hy
       exact ⟨vs,_,hX,rfl,fun i hi _=>hben.un hi⟩
      ·exact ⟨vs',fz',(hY Y hYX).trans hy,rfl,fun _ _ h=>h⟩
     have hsim:iC C {s with w:=w'}:=by
      refine ⟨hs.lb,hs.lt,fun b' Y cs' hb' hc'=>?_,hs.injb,hs.injt,hs.disj,fun t Y z h=>by simpa [hsz] using hs.old t Y z h,fun g cs' h=>(hs.glob g cs' h).le hl⟩;obtain ⟨vs1,e1,fz1,p1,p2,p3,p4⟩:=hs.blk b' Y cs' hb' hc';have p4' : ∀ (i : Nat) (c : J), cs'[i]? = some c -> c.isCell = true /\ ∃ v, vs1[i]? = some v /\ dH { s with w := w' } c v := fun i c hi => by
       obtain ⟨k,v,hv,hr⟩:=p4 i c hi;exact ⟨k,v,hv,hr.le hl⟩
      by_cases hYX:Y=X
      ·subst hYX;rw [q1] at p1;obtain ⟨rfl,rfl,rfl⟩:vs=vs1/\e0=e1/\fz=fz1:=by simpa using p1
       exact ⟨vs,_,_,hX,p2,hben,p4'⟩
      ·exact ⟨vs1,e1,fz1,(hY Y hYX).trans p1,p2,p3,p4'⟩
     refine ⟨.value cx0,cx0,w',?_,.inl rfl,{s with w:=w'},rfl,rfl,hsim,hl,hcx0 ▸ r0.le hl⟩;subst hcx0;simp only [execOp,hb];refine gE ?_;unfold convert;have hsh:s.w.shape? X=some (e0,vs.size):=by simp [World.shape?,q1]
     have hee:e1=e:=by rw [hu1] at hu2;simpa using hu2
     subst hee;simp [run_underlying hu1,run_underlying hu3,markStringish,hsh,w']
   ·simp at hc
 case call c=>
  split at hc <;> first
   | (simp at hc;done)
   | skip
  ·split at hc
   ·obtain ⟨y,hy,hc⟩:=map_some hc;subst hc;simp [H6] at hv
   ·simp at hc
  ·split at hc
   ·obtain ⟨y,hy,hc⟩:=bind_some hc;obtain ⟨z,hz,hc⟩:=bind_some hc;obtain rfl:=sj hc;simp [H6] at hv
   ·simp at hc
theorem Kd (hs:iC C s){cs:List J}{vs:Array Value}(e:TypeId)(h:aU s cs vs.toList)(hk:∀ c∈cs,c.isCell=true):
  Good C s {s.w with heap:=s.w.heap.push (.cells vs e (0,0))} (.ptr s.h.blks.length 0) (push s.h cs) (.pointer (some ⟨s.w.heap.size,0,none⟩)):=by
 have hl:=h.length;obtain ⟨a1,a2,a3⟩:=vK hs (cs:=cs) (vs:=vs) (e:=e) (by rw [List.take_of_length_le (by omega)];exact h) hk;exact ⟨_,rfl,rfl,a1,a2,.ptr _ 0 _ a3⟩
theorem TR {l c:Operand}(h:Wq l c=true){k:IntKind}{i:Int}(hl:a.eval l=.int k i):∃ k',a.eval c=.int k' i:=by
 unfold Wq at h;split at h
 ·simp at h;subst h;exact ⟨k,hl⟩
 ·simp at h;simp [Act.eval] at hl;obtain ⟨rfl,rfl⟩:=hl;subst h;exact ⟨_,rfl⟩
 ·simp at h
theorem lm {t e:TypeId}(h:FJ P t=some e):P.underlying t=some (.slice e):=by
 unfold FJ at h;split at h
 ·rename_i e' hu;obtain rfl:=sj h;exact hu
 ·simp at h
theorem Ao (hs:iC C s){L:az}(hL:oT L s){x:J}{cx:Value}{cs:List J}{vs:List Value}{h':O}(hx:dH s x cx)(hr:aU s cs vs)(hk:∀ c∈cs,c.isCell=true)(h:dX L s.h x cs=some h'):
  ∃ X off w',cx=.pointer (some ⟨X,off,none⟩)/\(storeCells ⟨X,off,none⟩ vs).run P s.w=.ok () w'/\∃ s':St,s'.w=w'/\s'.h=h'/\iC C s'/\Le s s':=by
 unfold dX at h;split at h
 ·rename_i b off;obtain ⟨old,ho,h⟩:=Option.bind_eq_some_iff.1 h;split at h
  ·rename_i hcond;obtain rfl:=sj h
   cases hx with
   | ptr _ _ X hb=>
    obtain ⟨q1,q2,q3⟩:=MF (P:=P) hs (Nat.le_trans hL.b hcond.1) hb ho hcond.2.1 hr hk;exact ⟨X,off,_,rfl,q1,_,rfl,rfl,q2,q3⟩
  ·simp at h
 ·simp at h
theorem zaJ (hs:iC C s)(hf:du n s fr a.tmps){L:az}(hL:oT L s){o:Oper}{val:Bool}{o':TP}(hc:HP C P o val=some o'){v:J}{h':O}(hv:fU C L fr s.h o'=some (v,h')):
  PV C P s (execOp a.eval o) v h':=by
 obtain ⟨dst,op,type,pos,after,guard⟩:=o
 cases op <;> simp only [HP] at hc <;> first
  | (simp at hc;done)
  | skip
 case alloc t=>
  obtain ⟨z,hz,hc⟩:=map_some hc;subst hc;simp only [fU] at hv;obtain ⟨rfl,rfl⟩:J.ptr s.h.blks.length 0=v/\push s.h z=h':=by simpa using hv
  obtain ⟨zv,z1,z2,z3⟩:=pU (s:=s) hz s.w;refine ⟨_,_,_,?_,.inl rfl,Kd hs t z2 z3⟩;simp only [execOp];refine gE ?_;simp only [Instr.alloc,Sem.run_bind,z1,Result.andThen_ok,newVar,newRow,run_newObj,Sem.run_pure]
 case box t x=>
  obtain ⟨y,hy,hc⟩:=map_some hc;subst hc;simp only [fU] at hv;split at hv
  ·rename_i hok;obtain ⟨rfl,rfl⟩:J.ptr s.h.blks.length 0=v/\push s.h (C.ev fr y).cells=h':=by simpa using hv
   obtain ⟨c1,c2⟩:=y9 (aC hs hf hy) hok;refine ⟨_,_,_,?_,.inl rfl,Kd hs t c1 c2⟩;simp only [execOp];refine gE ?_;simp only [Instr.box,newVar,newRow,Sem.run_bind,run_newObj,Result.andThen_ok,Sem.run_pure]
  ·simp at hv
 case buildSlice t len parts=>
  obtain ⟨e,he,hc⟩:=bind_some hc;obtain ⟨sz,hsz,hc⟩:=bind_some hc;obtain ⟨z,hz,hc⟩:=bind_some hc;split at hc
  ·rename_i hcond;obtain ⟨hc1,hc2,hc3⟩:=hcond;obtain ⟨ps,hp,hc⟩:=bind_some hc;obtain rfl:=sj hc;simp only [fU] at hv;obtain ⟨cs,hcs,hv⟩:=bind_some hv;obtain ⟨rfl,rfl⟩:J.sl s.h.blks.length 0 sz len (some len)=v/\push s.h cs=h':=by simpa using hv
   obtain ⟨r',q1,q2,q3,q4⟩:=Mt hs hf he hsz hz hc1 hc2 hc3 hp hcs;have hlen:=q2.length;obtain ⟨a1,a2,a3⟩:=vK hs (cs:=cs) (vs:=r') (e:=e) (by rw [List.take_of_length_le (by omega)];exact q2) q3;refine ⟨_,_,_,?_,.inl rfl,_,rfl,rfl,a1,a2,.sl _ 0 sz len len _ (some len) a3 (Nat.le_refl _) (fun k hk=>by simp at hk;omega) (fun h=>by simp at h)⟩;simp only [execOp];exact gE q1
  ·simp at hc
 case makeSlice t l c=>
  obtain ⟨e,he,hc⟩:=bind_some hc;obtain ⟨sz,hsz,hc⟩:=bind_some hc;obtain ⟨z,hz,hc⟩:=bind_some hc;obtain ⟨y,hy,hc⟩:=bind_some hc;split at hc
  ·rename_i hcond;obtain ⟨hc1,hc2,hc3⟩:=hcond;obtain rfl:=sj hc;have r1:=aC hs hf hy;simp only [fU] at hv;generalize C.ev fr y=av at hv r1;generalize hb:a.eval l=cx at r1
   cases av <;> simp only [] at hv <;> first
    | (simp at hv;done)
    | skip
   rename_i k0 i0;split at hv
   ·rename_i hi;obtain ⟨rfl,rfl⟩:J.sl s.h.blks.length 0 sz i0.toNat (some i0.toNat)=v/\push s.h (rep z i0.toNat)=h':=by simpa using hv
    cases r1
    have hb2:=TR hc3 hb;obtain ⟨k1,hb2⟩:=hb2;obtain ⟨i,zv,hi1,hb1,hb3,hb4,hzv,hzc⟩:=C7 hc2;obtain ⟨zv',z1,z2,z3⟩:=pU (s:=s) hz s.w;have hisz:i.size=sz:=by simpa [uB,hi1] using hsz
    have hzl:zv'.cells.size=sz:=by have:=z2.length;simp at this;omega
    have hmr:ao=2 ^ 38:=rfl;have hw:IntKind.i64.wrap i0=i0:=by
     simp only [IntKind.wrap,IntKind.bits,IntKind.signed];have h1:i0 % (2 ^ 64:Int)=i0:=Int.emod_eq_of_lt hi.1 (by have:=hi.2;omega);simp only [h1,Bool.true_and];rw [if_neg (by simp;have:=hi.2;omega)]
    have hbm:¬((i.bytes:Int)*i0 > 2 ^ 48):=by
     have h1:(i.bytes:Int)*i0<=256*i0:=Int.mul_le_mul_of_nonneg_right (by omega) hi.1;have:=hi.2;omega
    have hti:∀ w:World,(typeInfo e).run P w=.ok i w:=fun w=>by simp [typeInfo,hi1]
    have hrz:=xD z2 (by omega) i0.toNat;rw [hc1] at hrz;have hlen:=hrz.length;generalize hvals:(Array.range (i0.toNat*sz)).map (zv'.cells[· % zv'.cells.size]!)=vals at hrz hlen;obtain ⟨a1,a2,a3⟩:=vK hs (cs:=rep z i0.toNat) (vs:=vals) (e:=e) (by rw [List.take_of_length_le (by omega)];exact hrz) (DM z z3 _);refine ⟨.value (.slice (some ⟨s.w.heap.size,0,none⟩) i0.toNat i0.toNat),_,_,?_,.inl rfl,_,rfl,rfl,a1,a2,.sl _ 0 sz _ _ _ _ a3 (Nat.le_refl _) (fun k hk=>by simp at hk;omega) (fun h=>by simp at h)⟩;simp only [execOp,hb,hb2];refine gE ?_;have hn1:¬(i0 < 0):=by have:=hi.1;omega
    by_cases h0:i0.toNat*sz=0
    ·have hz0:∀ f:Nat->Value,(Array.range 0).map f=#[]:=fun f=>by simp
     simp only [Instr.makeSlice,Sem.run_bind,run_underlying (lm he),Result.andThen_ok,asInt,asIntOf,Sem.run_pure,hti,hw,hn1,hbm,decide_false,Bool.or_self,Bool.false_eq_true,if_false,gt_iff_lt,Int.lt_irrefl,
      run_askRoom,aJ hsz,h0,if_true,hz0,newRow,run_newObj]
     rw [<- hvals,h0,hz0];rfl
    ·simp only [Instr.makeSlice,Sem.run_bind,run_underlying (lm he),Result.andThen_ok,asInt,asIntOf,Sem.run_pure,hti,hw,hn1,hbm,decide_false,Bool.or_self,Bool.false_eq_true,if_false,gt_iff_lt,Int.lt_irrefl,
      run_askRoom,aJ hsz,h0,z1,newRow,run_newObj,hvals]
     rfl
   ·simp at hv
  ·rename_i hcond0;split at hc
   ·rename_i hcond;obtain ⟨hc1,hc2⟩:=hcond;obtain ⟨yc,hyc,hc⟩:=bind_some hc;obtain rfl:=sj hc;have r1:=aC hs hf hy;have r2:=aC hs hf hyc;simp only [fU] at hv;generalize C.ev fr y=av at hv r1;generalize hb:a.eval l=cx at r1;generalize C.ev fr yc=bv at hv r2;generalize hb2:a.eval c=cy at r2
    cases av <;> cases bv <;> first
     | (simp at hv;done)
     | skip
    rename_i k0 i0 k1 j0;simp only at hv;split at hv
    ·rename_i hi;obtain ⟨rfl,rfl⟩:J.sl s.h.blks.length 0 sz i0.toNat (some j0.toNat)=v/\push s.h (rep z j0.toNat)=h':=by simpa using hv
     cases r1
     cases r2
     obtain ⟨hi0,hij,hjm⟩:=hi;obtain ⟨i,zv,hi1,hb1,hb3,hb4,hzv,hzc⟩:=C7 hc2;obtain ⟨zv',z1,z2,z3⟩:=pU (s:=s) hz s.w;have hisz:i.size=sz:=by simpa [uB,hi1] using hsz
     have hzl:zv'.cells.size=sz:=by have:=z2.length;simp at this;omega
     have hmr:ao=2 ^ 38:=rfl;have hwr : ∀ n : Int, 0 <= n -> n < 2 ^ 38 -> IntKind.i64.wrap n = n := fun n hn1 hn2 => by
      simp only [IntKind.wrap,IntKind.bits,IntKind.signed];have h1:n % (2 ^ 64:Int)=n:=Int.emod_eq_of_lt hn1 (by omega);simp only [h1,Bool.true_and];rw [if_neg (by simp;omega)]
     have hw:=hwr i0 hi0 (by omega);have hw2:=hwr j0 (by omega) (by omega);have hbm:¬((i.bytes:Int)*j0 > 2 ^ 48):=by
      have h1:(i.bytes:Int)*j0<=256*j0:=Int.mul_le_mul_of_nonneg_right (by omega) (by omega);omega
     have hti:∀ w:World,(typeInfo e).run P w=.ok i w:=fun w=>by simp [typeInfo,hi1]
     have hrz:=xD z2 (by omega) j0.toNat;rw [hc1] at hrz;have hlen:=hrz.length;generalize hvals:(Array.range (j0.toNat*sz)).map (zv'.cells[· % zv'.cells.size]!)=vals at hrz hlen;obtain ⟨a1,a2,a3⟩:=vK hs (cs:=rep z j0.toNat) (vs:=vals) (e:=e) (by rw [List.take_of_length_le (by omega)];exact hrz) (DM z z3 _);refine ⟨.value (.slice (some ⟨s.w.heap.size,0,none⟩) i0.toNat j0.toNat),_,_,?_,.inl rfl,_,rfl,rfl,a1,a2,.sl _ 0 sz _ _ _ _ a3 (by omega) (fun k hk=>by simp at hk;omega) (fun h=>by simp at h)⟩;simp only [execOp,hb,hb2];refine gE ?_;have hn1:¬(i0 < 0):=by omega
     have hn2:¬(j0 < i0):=by omega
     have hn3:¬(j0 < 0):=by omega
     have hbm0:¬((i.bytes:Int)*i0 > 2 ^ 48):=by
      have h1:(i.bytes:Int)*i0<=256*i0:=Int.mul_le_mul_of_nonneg_right (by omega) hi0;omega
     by_cases h0:j0.toNat*sz=0
     ·have hz0:∀ f:Nat->Value,(Array.range 0).map f=#[]:=fun f=>by simp
      simp only [Instr.makeSlice,Sem.run_bind,run_underlying (lm he),Result.andThen_ok,asInt,asIntOf,Sem.run_pure,hti,hw,hw2,hn1,hn2,hn3,hbm,hbm0,decide_false,Bool.or_self,Bool.false_eq_true,if_false,gt_iff_lt,Int.lt_irrefl,
       run_askRoom,aJ hsz,h0,if_true,hz0,newRow,run_newObj]
      rw [<- hvals,h0,hz0];rfl
     ·simp only [Instr.makeSlice,Sem.run_bind,run_underlying (lm he),Result.andThen_ok,asInt,asIntOf,Sem.run_pure,hti,hw,hw2,hn1,hn2,hn3,hbm,hbm0,decide_false,Bool.or_self,Bool.false_eq_true,if_false,gt_iff_lt,Int.lt_irrefl,
       run_askRoom,aJ hsz,h0,z1,newRow,run_newObj,hvals]
      rfl
    ·simp at hv
   ·simp at hc
 case store t x y=>
  obtain ⟨z,hz,hc⟩:=bind_some hc;obtain ⟨x',hx',hc⟩:=bind_some hc;obtain ⟨y',hy',hc⟩:=bind_some hc;obtain rfl:=sj hc;simp only [fU] at hv;split at hv
  ·rename_i hcond;obtain ⟨hl,hok⟩:=hcond;obtain ⟨h1,hst,hv⟩:=map_some hv;obtain ⟨rfl,rfl⟩:ba=v/\h1=h':=by simpa using hv
   obtain ⟨c1,c2⟩:=y9 (aC hs hf hy') hok;obtain ⟨X,off,w',hcx,hrun,s',e1,e2,e3,e4⟩:=Ao (P:=P) hs hL (aC hs hf hx') c1 c2 hst;refine ⟨.skip,undef,w',?_,.inr ⟨rfl,rfl⟩,s',e1,e2,e3,e4,dH.undef s'⟩;have hsz:(a.eval y).cells.size=z:=by have:=c1.length;simp at this;omega
   simp only [execOp,hcx];simp only [Instr.storeAt,Instr.sureAddr,storeVar,Sem.run_bind,Sem.run_pure,Result.andThen_ok,aJ hz,hsz,ne_eq,not_true,if_false,hrun]
  ·simp at hv
 case convert src dst x=>
  split at hc <;> first
   | (simp at hc;done)
   | skip
  rename_i e hu1 hu2
  split at hc <;> first
   | (simp at hc;done)
   | skip
  rename_i hu3 hz;obtain ⟨y,hy,hc⟩:=map_some hc;subst hc;have r1:=aC hs hf hy;simp only [fU] at hv;generalize C.ev fr y=av at hv r1;generalize hb:a.eval x=cx at r1
  cases av <;> simp only [] at hv <;> first
   | (simp at hv;done)
   | skip
  rename_i str;obtain ⟨rfl,rfl⟩:J.gsl s.h.toks.length (str.data.toList.map fun b=>[J.int .u8 (b.toNat:Int)])=v/\ptok s.h str.size=h':=by simpa using hv
  cases r1
  let cap:Nat:=Question.cut (.appendCap str.size 0 e) (s.w.tape s.w.drawn (.appendCap str.size 0 e))
  have hcap:str.size<=cap:=by simp [cap,Question.cut]
  let cells:Array Value:=(str.data.map fun b=>Value.int .u8 (b.toNat:Int))++Array.replicate (cap - str.size) (.int .u8 0)
  have hcs:cells.size=cap:=by
   have:str.data.size=str.size:=rfl;simp [cells,this];omega
  let w1:World:={s.w with drawn:=s.w.drawn+1,heap:=s.w.heap.push (.cells cells e (0,0))}
  let w':World:=w1.freeze {block:=s.w.heap.size,off:=cap} 1
  have hX1:w1.heap[s.w.heap.size]?=some (.cells cells e (0,0)):=Array.getElem?_push_size;have hX:w'.heap[s.w.heap.size]?=some (.cells cells e (cap,cap+1)):=by
   simp [w',World.freeze,Array.getElem?_modify,hX1]
  have hY : ∀ Y : Nat, Y < s.w.heap.size -> w'.heap[Y]? = s.w.heap[Y]? := fun Y hY => by
   simp only [w',World.freeze];simp only [Nat.one_ne_zero,if_false,Array.getElem?_modify,if_neg (Nat.ne_of_gt hY)];exact (vw s.w _).2 Y hY
  have hsz:s.w.heap.size < w'.heap.size:=by simp [w',World.freeze,w1]
  obtain ⟨a1,a2,a3,a4,a5⟩:=Mx hs w' hsz ⟨rfl,rfl,rfl,Nat.le_of_lt hsz,hY⟩ str.size 1;have hlen:(str.data.toList.map fun b=>[J.int .u8 (b.toNat:Int)]).length=str.size:=by simp
  have hrow : gQ (s.pushT w' str.size 1) s.w.heap.size 1 0 (str.data.toList.map fun b => [J.int .u8 (b.toNat : Int)]) := by
   refine gQ.of_get fun i c hi=>?_;rw [List.getElem?_map] at hi;obtain ⟨b,hb',rfl⟩:=Option.map_eq_some_iff.1 hi;have hilt:=(List.getElem?_eq_some_iff.1 hb').1;have hilt':i < str.size:=by simpa using hilt
   refine ⟨rfl,.cons _ _ _ _ (.int .u8 b.toNat) ?_ (a5 _ (by omega)) rfl (.int _ _) (.nil _ _)⟩;simp only [World.at,World.cell?,St.pushT,hX,Option.isSome_none,Bool.false_eq_true,if_false,Nat.zero_add,Nat.mul_one];simp only [cells];rw [Array.getElem?_append_left (by simpa using hilt)];simp only [Array.getElem?_map];have:str.data[i]?=some b:=by simpa using hb'
   rw [this];rfl
  refine ⟨.value (.slice (some ⟨s.w.heap.size,0,none⟩) str.size cap),_,w',?_,.inl rfl,_,rfl,rfl,a1,a2,?_⟩
  ·simp only [execOp,hb];refine gE ?_;unfold convert;have hsh:w1.shape? s.w.heap.size=some (e,cap):=by simp [World.shape?,hX1,hcs]
   have hconv:(Conv.stringToBytes e str).run P s.w=.ok (.slice (some ⟨s.w.heap.size,0,none⟩) str.size cap) w':=by
    simp only [Conv.stringToBytes,Sem.run_bind,run_choose,Question.forced,Bool.false_eq_true,if_false,Result.andThen_ok,newRow,run_newObj,Sem.run_pure];have hmk:(markStringish ⟨s.w.heap.size,0,none⟩).run P w1=.ok () w':=by
     simp only [markStringish,Sem.run_bind,run_shape,hsh,Result.andThen_ok,run_freeze];rfl
    have:=hmk;simp only [w1,cells,cap] at this;simp only [this,Result.andThen_ok];rfl
   simp [run_underlying hu1,run_underlying hu2,run_underlying hu3,hconv]
  ·refine .gsl _ _ _ 0 1 cap str.size str.size hrow hcap hlen.symm a4 (Nat.le_refl _) (fun _=>⟨a3,rfl,cells,e,(cap,cap+1),hX,by omega,fun i h1 h2=>by simp;omega⟩)
 case call c=>
  obtain ⟨callee,args,argTypes⟩:=c;have rb:∀ {b:Builtin} {m:Sem Value} {cv:Value} {w':World},callee=.builtin b->(∀ consts,builtin b argTypes type consts (args.map a.eval)=(do pure (.value (<- m))))->m.run P s.w=.ok cv w'->
    (execOp a.eval {dst:=dst,op:=.call ⟨callee,args,argTypes⟩,type:=type,pos:=pos,after:=after,guard:=guard}).run P s.w=.ok (.value cv) w':=by
   intro b m cv w' hb hm hr;subst hb;simp only [execOp,resolve,Sem.run_bind,Sem.run_pure,Result.andThen_ok,invoke,hm,hr]
  cases callee with
  | value f=>
   cases f <;> simp only [] at hc
   ·obtain ⟨y,hy,hc⟩:=bind_some hc;obtain ⟨ys,hys,hc⟩:=bind_some hc;obtain rfl:=sj hc;simp [fU] at hv
   ·obtain ⟨y,hy,hc⟩:=bind_some hc;obtain ⟨ys,hys,hc⟩:=bind_some hc;obtain rfl:=sj hc;simp [fU] at hv
   ·obtain ⟨y,hy,hc⟩:=bind_some hc;obtain ⟨ys,hys,hc⟩:=bind_some hc;obtain rfl:=sj hc;simp [fU] at hv
   ·obtain ⟨ys,hys,hc⟩:=map_some hc;subst hc;simp [fU] at hv
  | invoke r m=>
   obtain ⟨y,hy,hc⟩:=bind_some hc;obtain ⟨ys,hys,hc⟩:=bind_some hc;obtain rfl:=sj hc;simp [fU] at hv
  | builtin b=>
   cases b <;> simp only [] at hc <;> first
    | (simp at hc;done)
    | skip
   case append=>
    cases hargs:args.toList with
    | nil=>simp [hargs] at hc
    | cons x rest=>
     cases rest with
     | nil=>simp [hargs] at hc
     | cons y rest=>
      cases rest with
      | cons _ _=>simp [hargs] at hc
      | nil=>
       simp only [hargs] at hc;have hx0:args=#[x,y]:=by rw [<- Array.toList_inj];exact hargs
       have fin:∀ (sT xT e:TypeId) (sz:Nat) (x' y':AO),argTypes[0]?=some sT->argTypes[1]?=some xT->P.underlying sT=some (.slice e)->((∃ d,P.underlying xT=some (.slice d))\/P.underlying xT=some .string)->
         uB P e=some sz->Ah P e=true->co C x=some x'->co C y=some y'->fU C L fr s.h (.app sz (!val) x' y')=some (v,h')->
         PV C P s (execOp a.eval {dst:=dst,op:=.call ⟨.builtin .append,args,argTypes⟩,type:=type,pos:=pos,after:=after,guard:=guard}) v h':=by
        intro sT xT e sz x' y' h1 h2 h3 h4 h5 h6 h8 h9 hv;simp only [fU] at hv;obtain ⟨ys,hys,hv⟩:=bind_some hv;split at hv
        case isFalse=>simp at hv
        rename_i hsk;have h7:(∃ t,C.ev fr y'=.str t)->sz=1:=by
         rintro ⟨t,ht⟩;rw [ht] at hsk;simpa [lO] using hsk
        obtain ⟨cv,w',e1,e2⟩:=zaG (P:=P) (type:=type) hs hL h3 h4 h5 h6 h7 (aC hs hf h8) (aC hs hf h9) hys hv;refine ⟨_,cv,w',rb rfl (fun _=>rfl) ?_,.inl rfl,e2⟩;rw [<- e1];have q1:(args.map a.eval)=#[a.eval x,a.eval y]:=by simp [hx0]
        rw [q1];unfold Builtin.append_;simp only [h1,h2,List.getElem?_toArray,List.getElem?_cons_zero,List.getElem?_cons_succ]
       split at hc <;> first
        | (simp at hc;done)
        | skip
       ·rename_i e e' h1 h2;split at hc
        ·rename_i hcond;obtain ⟨rfl,hsm⟩:=hcond;obtain ⟨sz,hsz,hc⟩:=bind_some hc;obtain ⟨x',hx',hc⟩:=bind_some hc;obtain ⟨y',hy',hc⟩:=bind_some hc;obtain rfl:=sj hc;obtain ⟨sT,k1,k2⟩:=Option.bind_eq_some_iff.1 h1;obtain ⟨xT,k3,k4⟩:=Option.bind_eq_some_iff.1 h2;exact fin sT xT e' sz x' y' k1 k3 (lm k2) (.inl ⟨_,k4⟩) hsz hsm hx' hy' hv
        ·simp at hc
       ·rename_i e h1 h2;split at hc
        ·rename_i hcond;obtain ⟨hsz,hsm⟩:=hcond;obtain ⟨x',hx',hc⟩:=bind_some hc;obtain ⟨y',hy',hc⟩:=bind_some hc;obtain rfl:=sj hc;obtain ⟨sT,k1,k2⟩:=Option.bind_eq_some_iff.1 h1;obtain ⟨xT,k3,k4⟩:=Option.bind_eq_some_iff.1 h2;exact fin sT xT e 1 x' y' k1 k3 (lm k2) (.inr k4) hsz hsm hx' hy' hv
        ·simp at hc
   case copy=>
    cases hargs:args.toList with
    | nil=>simp [hargs] at hc
    | cons x rest=>
     cases rest with
     | nil=>simp [hargs] at hc
     | cons y rest=>
      cases rest with
      | cons _ _=>simp [hargs] at hc
      | nil=>
       simp only [hargs] at hc;have hx0:args=#[x,y]:=by rw [<- Array.toList_inj];exact hargs
       split at hc <;> first
        | (simp at hc;done)
        | skip
       rename_i e h1;obtain ⟨sz,hsz,hc⟩:=bind_some hc;obtain ⟨x',hx',hc⟩:=bind_some hc;obtain ⟨y',hy',hc⟩:=bind_some hc;obtain rfl:=sj hc;obtain ⟨sT,k1,k2⟩:=Option.bind_eq_some_iff.1 h1;have rx:=aC hs hf hx';have ry:=aC hs hf hy';simp only [fU] at hv;obtain ⟨es,hes,hv2⟩:=bind_some hv
       replace hv:=hv2
       clear hv2;split at hv
       ·rename_i hze;obtain ⟨hze,hsk⟩:=hze;generalize C.ev fr x'=ax at hv rx;generalize hcx:a.eval x=cx at rx
        cases ax <;> simp only [] at hv <;> first
         | (simp at hv;done)
         | skip
        rename_i b off s0 n0 cap;split at hv
        ·rename_i hss;subst hss;obtain ⟨h1',hst,hv⟩:=map_some hv;obtain ⟨rfl,rfl⟩:J.int .i64 ((min es.length n0:Nat):Int)=v/\h1'=h':=by simpa using hv
         obtain ⟨f1,vs,f2,f3,f4,f5⟩:=Jy (P:=P) hs ry hes hze (fun t ht=>by rw [ht] at hsk;simpa [lO] using hsk) (min es.length n0) (Nat.min_le_left _ _);have hk : ∀ c ∈ (es.take (min es.length n0)).flatten, c.isCell = true := fun c hc => by
          obtain ⟨l,hl,hc'⟩:=List.mem_flatten.1 hc;exact f4 c (List.mem_flatten.2 ⟨l,List.mem_of_mem_take hl,hc'⟩)
         cases rx with
         | sl _ _ _ _ c X _ hb hc0 hcap=>
          obtain ⟨X',off',w',q0,q1,q2⟩:=Ao (P:=P) hs hL (.ptr b off X hb) f3 hk hst;obtain ⟨rfl,rfl⟩:X=X'/\off=off':=by simpa using q0
          obtain ⟨s',q2,q3,q4,q5⟩:=q2;refine ⟨_,_,w',rb rfl (fun _=>rfl) ?_,.inl rfl,s',q2,q3,q4,q5,.int .i64 _⟩;have q6:(args.map a.eval)=#[.slice (some ⟨X,off,none⟩) n0 c,a.eval y]:=by simp [hx0,hcx]
          rw [q6];simp only [Builtin.copy_,k1,List.getElem?_toArray,List.getElem?_cons_zero,List.getElem?_cons_succ,Sem.run_bind,run_underlying (lm k2),Result.andThen_ok,f1,aJ hsz,Sem.run_pure];have f2':(Builtin.firstCells s0 (Nat.min es.length n0) (a.eval y)).run P s.w=.ok vs s.w:=f2;simp only [f2',Result.andThen_ok,q1,goInt]
        ·simp at hv
       ·simp at hv
   case clear=>
    cases hargs:args.toList with
    | nil=>simp [hargs] at hc
    | cons x rest=>
     cases rest with
     | cons _ _=>simp [hargs] at hc
     | nil=>
      simp only [hargs] at hc;have hx0:args=#[x]:=by rw [<- Array.toList_inj];exact hargs
      split at hc <;> first
       | (simp at hc;done)
       | skip
      rename_i e h1;obtain ⟨z,hz,hc⟩:=bind_some hc;obtain ⟨x',hx',hc⟩:=bind_some hc;obtain rfl:=sj hc;obtain ⟨sT,k1,k2⟩:=Option.bind_eq_some_iff.1 h1;have rx:=aC hs hf hx';obtain ⟨zv,z1,z2,z3⟩:=pU (s:=s) hz s.w;simp only [fU] at hv;generalize C.ev fr x'=ax at hv rx;generalize hcx:a.eval x=cx at rx
      cases ax <;> simp only [] at hv <;> first
       | (simp at hv;done)
       | skip
      rename_i b off s0 n0 cap;split at hv
      ·rename_i hss;obtain ⟨h1',hst,hv⟩:=map_some hv;obtain ⟨rfl,rfl⟩:J.tup []=v/\h1'=h':=by simpa using hv
       have hrz:aU s (rep z n0) (Builtin.zeroCells zv.cells n0).toList:=by
        by_cases h0:z.length=0
        ·have hz0:z=[]:=List.eq_nil_of_length_eq_zero h0;subst hz0;have e1:rep ([]:List J) n0=[]:=by
          apply List.eq_nil_of_length_eq_zero;rw [vY];simp
         have e2:(Builtin.zeroCells zv.cells n0).toList=[]:=by
          apply List.eq_nil_of_length_eq_zero;have:=z2.length;simp at this;rw [Array.length_toList,Dt,<- this];simp
         rw [e1,e2];exact .nil
        ·exact Oz z2 (by omega) n0
       cases rx with
       | sl _ _ _ _ c X _ hb hc0 hcap=>
        obtain ⟨X',off',w',q0,q1,q2⟩:=Ao (P:=P) hs hL (.ptr b off X hb) hrz (DM z z3 n0) hst;obtain ⟨rfl,rfl⟩:X=X'/\off=off':=by simpa using q0
        obtain ⟨s',q2,q3,q4,q5⟩:=q2;refine ⟨_,.tuple #[],w',rb rfl (fun _=>rfl) ?_,.inl rfl,s',q2,q3,q4,q5,.tup _ _ .nil⟩;have q6:(args.map a.eval)=#[.slice (some ⟨X,off,none⟩) n0 c]:=by simp [hx0,hcx]
        rw [q6]
        cases n0 with
        | zero=>
         have hw:w'=s.w:=by
          have:(Builtin.zeroCells zv.cells 0).toList=[]:=by simp [Builtin.zeroCells]
          rw [this] at q1;simp [storeCells] at q1;exact q1.symm
         subst hw;simp only [Builtin.clear_,k1,List.getElem?_toArray,List.getElem?_cons_zero,Sem.run_bind,run_underlying (lm k2),Result.andThen_ok,Sem.run_pure]
        | succ k=>
         simp only [Builtin.clear_,k1,List.getElem?_toArray,List.getElem?_cons_zero,Sem.run_bind,run_underlying (lm k2),Result.andThen_ok,Sem.run_pure,z1,q1]
      ·simp at hv
end
end Go.Av
namespace Go.Av
def PB (nb nt:Nat)(h:O):Prop:=∀ (b:Nat) (cs:List J),b < nb->h.blks[b]?=some cs->aE nb nt cs=true
structure jO (L:az) (h h':O):Prop where
 lb:h.blks.length<=h'.blks.length
 lt:h.toks.length<=h'.toks.length
 rob:∀ b:Nat,b < L.rob->b < h.blks.length->h'.blks[b]?=h.blks[b]?
 rot:∀ t:Nat,t < L.rot->t < h.toks.length->h'.toks[t]?=h.toks[t]?
 pb:∀ nb nt:Nat,nb<=L.nb->nt<=L.nt->nb<=h.blks.length->nt<=h.toks.length->PB nb nt h->PB nb nt h'
theorem jO.refl (L:az)(h:O):jO L h h:=⟨Nat.le_refl _,Nat.le_refl _,fun _ _ _=>rfl,fun _ _ _=>rfl,fun _ _ _ _ _ _ h=>h⟩
theorem jO.trans {L:az}{a b c:O}(h:jO L a b)(k:jO L b c):jO L a c where
 lb:=Nat.le_trans h.lb k.lb
 lt:=Nat.le_trans h.lt k.lt
 rob x hx hx':=(k.rob x hx (Nat.lt_of_lt_of_le hx' h.lb)).trans (h.rob x hx hx')
 rot x hx hx':=(k.rot x hx (Nat.lt_of_lt_of_le hx' h.lt)).trans (h.rot x hx hx')
 pb nb nt h1 h2 h3 h4 h5:=k.pb nb nt h1 h2 (Nat.le_trans h3 h.lb) (Nat.le_trans h4 h.lt) (h.pb nb nt h1 h2 h3 h4 h5)
mutual
theorem Gz {a b a' b':Nat}(ha:a<=a')(hb:b<=b'):∀ v:J,v.under a b=true->v.under a' b'=true
 | .int ..,_ | .bool _,_ | .str _,_ | .nilp,_ | .nsl,_ | .nfn,_ | .nif,_=>rfl
 | .ptr x _,h=>by simp [J.under] at h |-;omega
 | .sl x _ _ _ _,h=>by simp [J.under] at h |-;omega
 | .vptr cs _,h=>by simp only [J.under] at h |-;exact kW ha hb cs h
 | .gsl t es, h => by
  simp only [J.under,Bool.and_eq_true,decide_eq_true_eq] at h |-;exact ⟨by omega,An ha hb es h.2⟩
 | .vsl _ es,h=>by simp only [J.under] at h |-;exact An ha hb es h
 | .fn _ x y, h => by
  simp only [J.under,Bool.and_eq_true] at h |-;exact ⟨kW ha hb x h.1,kW ha hb y h.2⟩
 | .iface _ v,h=>by simp only [J.under] at h |-;exact Gz ha hb v h
 | .agg cs,h=>by simp only [J.under] at h |-;exact kW ha hb cs h
 | .tup cs,h=>by simp only [J.under] at h |-;exact kW ha hb cs h
theorem kW {a b a' b':Nat}(ha:a<=a')(hb:b<=b'):∀ l:List J,aE a b l=true->aE a' b' l=true
 | [],_=>rfl
 | c :: cs, h => by
  simp only [aE,Bool.and_eq_true] at h |-;exact ⟨Gz ha hb c h.1,kW ha hb cs h.2⟩
theorem An {a b a' b':Nat}(ha:a<=a')(hb:b<=b'):∀ l:List (List J),aO a b l=true->aO a' b' l=true
 | [],_=>rfl
 | e :: es, h => by
  simp only [aO,Bool.and_eq_true] at h |-;exact ⟨kW ha hb e h.1,An ha hb es h.2⟩
end
theorem pu {a b:Nat}:∀ {l:List J},aE a b l=true↔∀ c∈l,c.under a b=true
 | []=>by simp [aE]
 | c :: cs=>by simp [aE,pu (l:=cs)]
theorem PF:∀ (cs old:List J) (off:Nat) (c:J),c∈setAt old off cs->c∈old\/c∈cs
 | [],_,_,_,h=>.inl h
 | x :: cs, old, off, c, h => by
  simp only [setAt] at h;rcases PF cs _ _ c h with h | h
  ·rcases FP h with h | rfl
   ·exact .inl h
   ·exact .inr (by simp)
  ·exact .inr (by simp [h])
theorem jO.push (L:az)(h:O)(cs:List J):jO L h (push h cs) where
 lb:=by simp [Av.push]
 lt:=Nat.le_refl _
 rob b _ hb:=by simp only [Av.push];exact List.getElem?_append_left hb
 rot _ _ _:=rfl
 pb nb nt _ _ h3 _ hp b cs' hb hc:=by
  simp only [Av.push] at hc;rw [List.getElem?_append_left (by omega)] at hc;exact hp b cs' hb hc
theorem jO.ptok (L:az)(h:O)(m:Nat):jO L h (ptok h m) where
 lb:=Nat.le_refl _
 lt:=by simp [Av.ptok]
 rob _ _ _:=rfl
 rot t _ ht:=by simp only [Av.ptok];exact List.getElem?_append_left ht
 pb _ _ _ _ _ _ hp:=hp
theorem jO.fresh (L:az)(ref:Bool)(sz:Nat)(h:O)(es:List (List J)):jO L h (iT ref sz h es).2:=by
 unfold iT
 cases ref
 ·exact jO.ptok L h _
 ·exact jO.push L h _
theorem Ar {L:az}{h h':O}{x:J}{cs:List J}(hv:dX L h x cs=some h'):jO L h h':=by
 unfold dX at hv;split at hv
 ·rename_i b off;obtain ⟨old,ho,hv⟩:=Option.bind_eq_some_iff.1 hv;split at hv
  ·rename_i hc;obtain rfl:=sj hv;refine ⟨by simp,Nat.le_refl _,fun b' h1 h2=>?_,fun _ _ _=>rfl,fun nb nt h1 h2 h3 h4 hp b' cs' hb' hc'=>?_⟩
   ·simp only [];rw [List.getElem?_set_ne (by omega)]
   ·simp only [] at hc';by_cases hbb:b=b'
    ·subst hbb;rw [List.getElem?_set_self (List.getElem?_eq_some_iff.1 ho).1] at hc';obtain rfl:=sj hc';have hu:=hc.2.2.resolve_left (by omega);refine pu.2 fun c hm=>?_;rcases PF _ _ _ _ hm with hm | hm
     ·exact pu.1 (hp b old hb' ho) c hm
     ·exact Gz (Nat.zero_le _) (Nat.zero_le _) c (pu.1 hu c hm)
    ·rw [List.getElem?_set_ne hbb] at hc';exact hp b' cs' hb' hc'
  ·simp at hv
 ·simp at hv
theorem zdw {L:az}{ref:Bool}{sz:Nat}{h h':O}{x v:J}{ys:List (List J)}(hv:C6 L ref sz h x ys=some (v,h')):jO L h h':=by
 have fr : ∀ es, (iT ref sz h es) = (v, h') -> jO L h h' := fun es e => by
  have:=jO.fresh L ref sz h es;rw [e] at this;exact this
 unfold C6 at hv;split at hv
 ·split at hv
  ·split at hv
   ·obtain ⟨_,rfl⟩:J.nsl=v/\h=h':=by simpa using hv
    exact .refl _ _
   ·split at hv
    ·exact fr _ (sj hv)
    ·simp at hv
  ·split at hv
   ·split at hv
    ·rename_i es _ _;obtain ⟨_,rfl⟩:J.vsl true es=v/\h=h':=by simpa using hv
     exact .refl _ _
    ·split at hv
     ·exact fr _ (sj hv)
     ·simp at hv
   ·simp at hv
  ·split at hv
   ·obtain ⟨es,_,hq⟩:=Option.bind_eq_some_iff.1 hv;split at hq
    ·have:=(sj hq);have:h=h':=by injection this
     subst this;exact .refl _ _
    ·split at hq
     ·exact fr _ (sj hq)
     ·simp at hq
   ·split at hv
    ·obtain ⟨h1,hs,hv⟩:=map_some hv;have:h1=h':=by injection hv
     subst this;exact Ar hs
    ·simp at hv
  ·split at hv
   ·rename_i b off s0 n0 hcond;obtain ⟨es,_,hq⟩:=Option.bind_eq_some_iff.1 hv;split at hq
    ·have:h=h':=by have:=(sj hq);injection this
     subst this;exact .refl _ _
    ·split at hq
     ·have:push {h with blks:=h.blks.set b []} (es++ys).flatten=h':=by have:=(sj hq);injection this
      subst this;refine jO.trans (b:={h with blks:=h.blks.set b []}) ?_ (jO.push L _ _);have hrob:=hcond.2.2.2.2.2;refine ⟨by simp,Nat.le_refl _,fun b' h1 h2=>?_,fun _ _ _=>rfl,fun nb nt h1 h2 h3 h4 hp b' cs' hb' hc'=>?_⟩
      ·simp only [];rw [List.getElem?_set_ne (by omega)]
      ·simp only [] at hc';by_cases hbb:b=b'
       ·subst hbb;have hlt:=(List.getElem?_eq_some_iff.1 hc').1;rw [List.getElem?_set_self (by simpa using hlt)] at hc';obtain rfl:=sj hc';rfl
       ·rw [List.getElem?_set_ne hbb] at hc';exact hp b' cs' hb' hc'
     ·simp at hq
   ·simp at hv
  ·rename_i tk es;split at hv
   ·rename_i hc;have:{h with toks:=h.toks.set tk (es.length+ys.length)}=h':=by
     have:=sj hv;injection this
    subst this;refine ⟨Nat.le_refl _,by simp,fun _ _ _=>rfl,fun t h1 h2=>?_,fun _ _ _ _ _ _ hp=>hp⟩;simp only [];rw [List.getElem?_set_ne (by have:=hc.2.2.2.1;omega)]
   ·simp at hv
  ·simp at hv
 ·simp at hv
theorem zdx {C:eD}{L:az}{fr:Fr}{h h':O}{o:TP}{v:J}(hv:fU C L fr h o=some (v,h')):jO L h h':=by
 cases o <;> simp only [fU] at hv <;> first
  | (simp at hv;done)
  | skip
 case alloc z=>
  have:push h z=h':=by have:=sj hv;injection this
  subst this;exact .push _ _ _
 case box x=>
  split at hv
  ·have:push h (C.ev fr x).cells=h':=by have:=sj hv;injection this
   subst this;exact .push _ _ _
  ·simp at hv
 case slit sz len z ps=>
  obtain ⟨cs,_,hv⟩:=bind_some hv;have:push h cs=h':=by have:=sj hv;injection this
  subst this;exact .push _ _ _
 case mk sz z len=>
  split at hv
  ·split at hv
   ·have:=sj hv;injection this with _ this
    subst this;exact .push _ _ _
   ·simp at hv
  ·simp at hv
 case mkc sz z len cap=>
  split at hv
  ·split at hv
   ·have:=sj hv;injection this with _ this
    subst this;exact .push _ _ _
   ·simp at hv
  ·simp at hv
 case st m x y=>
  split at hv
  ·obtain ⟨h1,hs,hv⟩:=map_some hv;have:h1=h':=by injection hv
   subst this;exact Ar hs
  ·simp at hv
 case app sz ref x y=>
  obtain ⟨ys,_,hv⟩:=bind_some hv;split at hv
  ·exact zdw hv
  ·simp at hv
 case copy sz x y=>
  obtain ⟨es,_,hv⟩:=bind_some hv;split at hv
  ·split at hv
   ·split at hv
    ·obtain ⟨h1,hs,hv⟩:=map_some hv;have:h1=h':=by injection hv
     subst this;exact Ar hs
    ·simp at hv
   ·simp at hv
  ·simp at hv
 case clear z x=>
  split at hv
  ·split at hv
   ·obtain ⟨h1,hs,hv⟩:=map_some hv;have:h1=h':=by injection hv
    subst this;exact Ar hs
   ·simp at hv
  ·simp at hv
 case s2b x=>
  split at hv
  ·rename_i str _;have:ptok h str.size=h':=by have:=sj hv;injection this
   subst this;exact .ptok _ _ _
  ·simp at hv
theorem zaN {L:az}{h h1:O}(hi:jO ⟨L.rob,L.rot,h.blks.length,h.toks.length⟩ h h1):jO L h (fY h1 h.blks.length h.toks.length) where
 lb:=by have:=hi.lb;simp [fY];omega
 lt:=by have:=hi.lt;simp [fY];omega
 rob b h1' h2:=by simp only [fY];rw [List.getElem?_take_of_lt h2];exact hi.rob b h1' h2
 rot t h1' h2:=by simp only [fY];rw [List.getElem?_take_of_lt h2];exact hi.rot t h1' h2
 pb nb nt a1 a2 a3 a4 hp b cs hb hc:=by
  simp only [fY] at hc;rw [List.getElem?_take_of_lt (by omega)] at hc;exact hi.pb nb nt a3 a4 a3 a4 hp b cs hb hc
theorem zdy {m:Mode}{L:az}{h h1 h':O}{v v':J}(hi:jO (d4 m L h) h h1)(hr:vf m h h1 v=some (v',h')):jO L h h':=by
 unfold vf at hr;split at hr
 ·rename_i he;have:h1=h':=by have:=sj hr;injection this
  subst this;simpa [d4,he] using hi
 ·rename_i he;have hback:jO L h (if m.ro then h else fY h1 h.blks.length h.toks.length):=by
   split
   ·exact .refl _ _
   ·rename_i hro;refine zaN ?_;simpa [d4,he,hro] using hi
  have hplain : ∀ {x : J}, ((frz h1 h.blks.length h.toks.length 12 x).map fun v => (v, if m.ro then h else fY h1 h.blks.length h.toks.length)) = some (v', h') -> jO L h h' := by
   intro x hx;obtain ⟨_,_,hx⟩:=map_some hx;have:(if m.ro then h else fY h1 h.blks.length h.toks.length)=h':=by injection hx
   rw [<- this];exact hback
  simp only [] at hr;split at hr
  ·split at hr
   ·split at hr
    ·have:=sj hr;injection this with _ this
     rw [<- this];exact hback.trans (.ptok _ _ _)
    ·exact hplain hr
   ·exact hplain hr
  ·exact hplain hr
mutual
theorem vk {s:St}{v:J}{x:Value}{nb nt:Nat}(hb:s.mb.length<=nb)(ht:s.h.toks.length<=nt):dH s v x->v.under nb nt=true
 | .int .. | .bool _ | .str _ | .nilp | .nsl | .nfn | .nif=>rfl
 | .ptr b off X h=>by have:=(List.getElem?_eq_some_iff.1 h).1;simp [J.under];omega
 | .vptr cs off X o h=>by simp only [J.under];exact Aq hb ht h
 | .sl b off sz n c X cap h hc hcap _=>by have:=(List.getElem?_eq_some_iff.1 h).1;simp [J.under];omega
 | .gsl t es X o sz c m n h hc hn htk hm hv => by
  have:=(List.getElem?_eq_some_iff.1 htk).1;simp only [J.under,Bool.and_eq_true,decide_eq_true_eq];exact ⟨by omega,GC hb ht h⟩
 | .vsl clip es X o sz c n h hn hc hcl=>by simp only [J.under];exact GC hb ht h
 | .vsl0 clip a c hcl hz=>rfl
 | .fn f a b a' b' ha hb'=>by simp only [J.under,Bool.and_eq_true];exact ⟨vC hb ht ha,vC hb ht hb'⟩
 | .iface t v v' h=>by simp only [J.under];exact vk hb ht h
 | .agg cs vs h hc=>by simp only [J.under];exact vC hb ht h
 | .tup cs vs h=>by simp only [J.under];exact vC hb ht h
theorem vC {s:St}{v:List J}{x:List Value}{nb nt:Nat}(hb:s.mb.length<=nb)(ht:s.h.toks.length<=nt):aU s v x->aE nb nt v=true
 | .nil=>rfl
 | .cons x y xs ys h h'=>by simp only [aE,Bool.and_eq_true];exact ⟨vk hb ht h,vC hb ht h'⟩
theorem Aq {s:St}{X o:Nat}{v:List J}{nb nt:Nat}(hb:s.mb.length<=nb)(ht:s.h.toks.length<=nt):d8 s X o v->aE nb nt v=true
 | .nil X o=>rfl
 | .cons X o c cs v hv hi hk h h'=>by simp only [aE,Bool.and_eq_true];exact ⟨vk hb ht h,Aq hb ht h'⟩
theorem GC {s:St}{X sz o:Nat}{v:List (List J)}{nb nt:Nat}(hb:s.mb.length<=nb)(ht:s.h.toks.length<=nt):gQ s X sz o v->aO nb nt v=true
 | .nil X sz o=>rfl
 | .cons X sz o e es hl h h'=>by simp only [aO,Bool.and_eq_true];exact ⟨Aq hb ht h,GC hb ht h'⟩
end
mutual
theorem Mp {s s':St}:∀ {v:J} {x:Value},v.flat=true->dH s v x->dH s' v x
 | .int _ _,_,_,.int _ _=>.int _ _
 | .bool _,_,_,.bool _=>.bool _
 | .str _,_,_,.str _=>.str _
 | .nilp,_,_,.nilp=>.nilp
 | .nfn,_,_,.nfn=>.nfn
 | .nif,_,_,.nif=>.nif
 | .agg cs,_,h,.agg _ vs hr hc=>.agg _ vs (Jn (by simpa [J.flat] using h) hr) hc
 | .tup cs,_,h,.tup _ vs hr=>.tup _ vs (Jn (by simpa [J.flat] using h) hr)
 | .iface _ v,_,h,.iface _ _ v' hr=>.iface _ _ v' (Mp (by simpa [J.flat] using h) hr)
 | .ptr ..,_,h,_=>by simp [J.flat] at h
 | .vptr ..,_,h,_=>by simp [J.flat] at h
 | .sl ..,_,h,_=>by simp [J.flat] at h
 | .gsl ..,_,h,_=>by simp [J.flat] at h
 | .vsl ..,_,h,_=>by simp [J.flat] at h
 | .nsl,_,h,_=>by simp [J.flat] at h
 | .fn ..,_,h,_=>by simp [J.flat] at h
theorem Jn {s s':St}:∀ {v:List J} {x:List Value},bC v=true->aU s v x->aU s' v x
 | [],_,_,.nil=>.nil
 | c :: cs, _, h, .cons _ _ _ _ hr ht => by
  simp only [bC,Bool.and_eq_true] at h;exact .cons _ _ _ _ (Mp h.1 hr) (Jn h.2 ht)
end
def St.cut (s:St)(nb nt:Nat)(extra:Option Nat):St:=
 {s with h:=⟨s.h.blks.take nb,s.h.toks.take nt++(extra.bind (s.h.toks[·]?)).toList⟩,mb:=s.mb.take nb,mt:=s.mt.take nt++(extra.bind (s.mt[·]?)).toList}
structure fM (C:eD) (s:St) (nb nt:Nat) (extra:Option Nat):Prop where
 sim:iC C s
 hnb:nb<=s.mb.length
 hnt:nt<=s.mt.length
 ex:∀ t,extra=some t->nt<=t/\t < s.mt.length
 q:s.qt<=nt
section
variable {C:eD} {s:St} {nb nt:Nat} {extra:Option Nat}
theorem fM.mb (h:fM C s nb nt extra){b X:Nat}:(s.cut nb nt extra).mb[b]?=some X↔b < nb/\s.mb[b]?=some X:=by
 simp only [St.cut];by_cases hb:b < nb
 ·rw [List.getElem?_take_of_lt hb];simp [hb]
 ·rw [List.getElem?_take_eq_none (by omega)];simp [hb]
def back (nt:Nat)(extra:Option Nat)(t:Nat):Option Nat:=if t < nt then some t else if t=nt then extra else none
theorem fM.tok (h:fM C s nb nt extra)(t:Nat):(s.cut nb nt extra).mt[t]?=(back nt extra t).bind (s.mt[·]?)/\(s.cut nb nt extra).h.toks[t]?=(back nt extra t).bind (s.h.toks[·]?):=by
 have l1:(s.mt.take nt).length=nt:=by have:=h.hnt;simp;omega
 have l2:(s.h.toks.take nt).length=nt:=by have:=h.hnt;have:=h.sim.lt;simp;omega
 simp only [St.cut,back];by_cases ht:t < nt
 ·rw [List.getElem?_append_left (by omega),List.getElem?_append_left (by omega),List.getElem?_take_of_lt ht,List.getElem?_take_of_lt ht];simp [ht]
 ·rw [List.getElem?_append_right (by omega),List.getElem?_append_right (by omega),l1,l2];by_cases h1:t=nt
  ·subst h1;simp only [Nat.sub_self,Nat.lt_irrefl,if_false,if_true]
   cases extra with
   | none=>simp
   | some e=>
    obtain ⟨_,e2⟩:=h.ex e rfl;have e3:e < s.h.toks.length:=by rw [<- h.sim.lt];exact e2
    simp [List.getElem?_eq_getElem e2,List.getElem?_eq_getElem e3]
  ·simp only [ht,h1,if_false,Option.bind_none];have:1<=t - nt:=by omega
   refine ⟨List.getElem?_eq_none ?_,List.getElem?_eq_none ?_⟩
   ·cases extra.bind (s.mt[·]?) <;> simp <;> omega
   ·cases extra.bind (s.h.toks[·]?) <;> simp <;> omega
theorem Li (h:fM C s nb nt extra){t t':Nat}(hb:back nt extra t=some t'):(t < nt/\t'=t)\/(t=nt/\nt<=t'/\extra=some t'):=by
 unfold back at hb;split at hb
 ·simp at hb;exact .inl ⟨by omega,hb.symm⟩
 ·split at hb
  ·exact .inr ⟨by omega,(h.ex t' hb).1,hb⟩
  ·simp at hb
theorem fM.imm (h:fM C s nb nt extra){X o:Nat}(hi:Q8 s X o):Q8 (s.cut nb nt extra) X o:=by
 refine ⟨fun b hb hX => by
  have:=hi.1 b hb (h.mb.1 hX).2;simp only [St.cut];rw [List.getElem?_take_of_lt (h.mb.1 hX).1];exact this,fun t z n hq ht hn=>?_⟩
 obtain ⟨e1,e2⟩:=h.tok t;rw [e1] at ht;rw [e2] at hn
 cases hbk:back nt extra t with
 | none=>simp [hbk] at ht
 | some t'=>
  simp only [hbk,Option.bind_some] at ht hn;refine hi.2 t' z n ?_ ht hn;have:=h.q;simp only [St.cut] at hq
  rcases Li h hbk with ⟨h1,rfl⟩ | ⟨h1,h2,_⟩ <;> omega
mutual
theorem fM.rep (h:fM C s nb nt extra){v:J}{x:Value}(hu:v.under nb nt=true):dH s v x->dH (s.cut nb nt extra) v x
 | .int k n=>.int k n
 | .bool b=>.bool b
 | .str x=>.str x
 | .nilp=>.nilp
 | .ptr b off X hb=>.ptr b off X (h.mb.2 ⟨by simpa [J.under] using hu,hb⟩)
 | .vptr cs off X o hr=>.vptr cs off X o (fM.repR h (by simpa [J.under] using hu) hr)
 | .sl b off sz n c X cap hb hc hcap hk=>.sl b off sz n c X cap (h.mb.2 ⟨by simpa [J.under] using hu,hb⟩) hc hcap hk
 | .gsl t es X o sz c m n hr hc hn ht hm hv => by
  simp only [J.under,Bool.and_eq_true,decide_eq_true_eq] at hu;obtain ⟨e1,e2⟩:=h.tok t;have hb:back nt extra t=some t:=by simp [back,hu.1]
  rw [hb] at e1 e2;exact .gsl t es X o sz c m n (fM.repE h hu.2 hr) hc hn (by rw [e2]; exact ht) hm (fun e => by
   obtain ⟨p,q,r⟩:=hv e;exact ⟨by rw [e1];exact p,q,r⟩)
 | .vsl clip es X o sz c n hr hn hc hcl=>.vsl clip es X o sz c n (fM.repE h (by simpa [J.under] using hu) hr) hn hc hcl
 | .vsl0 clip a c hcl hz=>.vsl0 clip a c hcl hz
 | .nsl=>.nsl
 | .fn f a b a' b' ha hb => by
  simp only [J.under,Bool.and_eq_true] at hu;exact .fn f a b a' b' (fM.repL h hu.1 ha) (fM.repL h hu.2 hb)
 | .nfn=>.nfn
 | .iface t v v' hr=>.iface t v v' (fM.rep h (by simpa [J.under] using hu) hr)
 | .nif=>.nif
 | .agg cs vs hr hc=>.agg cs vs (fM.repL h (by simpa [J.under] using hu) hr) hc
 | .tup cs vs hr=>.tup cs vs (fM.repL h (by simpa [J.under] using hu) hr)
theorem fM.repL (h:fM C s nb nt extra){v:List J}{x:List Value}(hu:aE nb nt v=true):aU s v x->aU (s.cut nb nt extra) v x
 | .nil=>.nil
 | .cons x y xs ys hr ht => by
  simp only [aE,Bool.and_eq_true] at hu;exact .cons x y xs ys (fM.rep h hu.1 hr) (fM.repL h hu.2 ht)
theorem fM.repR (h:fM C s nb nt extra){X o:Nat}{v:List J}(hu:aE nb nt v=true):d8 s X o v->d8 (s.cut nb nt extra) X o v
 | .nil X o=>.nil X o
 | .cons X o c cs v hv hi hk hr ht => by
  simp only [aE,Bool.and_eq_true] at hu;exact .cons X o c cs v hv (h.imm hi) hk (fM.rep h hu.1 hr) (fM.repR h hu.2 ht)
theorem fM.repE (h:fM C s nb nt extra){X sz o:Nat}{v:List (List J)}(hu:aO nb nt v=true):gQ s X sz o v->gQ (s.cut nb nt extra) X sz o v
 | .nil X sz o=>.nil X sz o
 | .cons X sz o e es hl hr ht => by
  simp only [aO,Bool.and_eq_true] at hu;exact .cons X sz o e es hl (fM.repR h hu.1 hr) (fM.repE h hu.2 ht)
end
theorem oR {α β:Type}{f:α->Option β}:∀ {l:List α} {r:List β},l.mapM f=some r->r.length=l.length/\∀ (i:Nat) (b:β),r[i]?=some b->∃ a,l[i]?=some a/\f a=some b
 | [],r,h=>by simp at h;subst h;simp
 | a :: l, r, h => by
  rw [List.mapM_cons] at h;obtain ⟨b,hb,h⟩:=bind_some h;obtain ⟨r',hr,h⟩:=bind_some h;obtain rfl:=sj h;obtain ⟨h1,h2⟩:=oR hr;refine ⟨by simp [h1],fun i c hc=>?_⟩
  cases i with
  | zero=>simp at hc;subst hc;exact ⟨a,by simp,hb⟩
  | succ i=>simp at hc;obtain ⟨x,hx,hfx⟩:=h2 i c hc;exact ⟨x,by simpa using hx,hfx⟩
theorem Mb {n:Nat}{h:O}{v v':J}(hk:v.isCell=true)(hf:frz h nb nt n v=some v'):v'.isCell=true:=by
 cases n with
 | zero=>simp [frz] at hf
 | succ n=>
  cases v <;> simp only [frz] at hf <;> first
   | (simp [J.isCell] at hk;done)
   | (obtain rfl:=sj hf;rfl)
   | (obtain ⟨_,_,rfl⟩:=map_some hf;rfl)
   | skip
  ·split at hf
   ·obtain rfl:=sj hf;rfl
   ·obtain ⟨_,_,hf⟩:=Option.bind_eq_some_iff.1 hf;obtain ⟨_,_,rfl⟩:=map_some hf;rfl
  ·split at hf
   ·obtain rfl:=sj hf;rfl
   ·obtain ⟨_,_,hf⟩:=Option.bind_eq_some_iff.1 hf;obtain ⟨_,_,rfl⟩:=map_some hf;rfl
  ·obtain ⟨_,_,rfl⟩:=map_some hf
   split <;> rfl
  ·split at hf
   ·obtain rfl:=sj hf;rfl
   ·simp at hf
mutual
theorem Mc {a b:Nat}:∀ v:J,v.flat=true->v.under a b=true
 | .int ..,_ | .bool _,_ | .str _,_ | .nilp,_ | .nsl,_ | .nfn,_ | .nif,_=>rfl
 | .ptr ..,h=>by simp [J.flat] at h
 | .sl ..,h=>by simp [J.flat] at h
 | .vptr ..,h=>by simp [J.flat] at h
 | .gsl ..,h=>by simp [J.flat] at h
 | .vsl ..,h=>by simp [J.flat] at h
 | .fn ..,h=>by simp [J.flat] at h
 | .iface _ v,h=>by simp only [J.flat] at h;simp only [J.under];exact Mc v h
 | .agg cs,h=>by simp only [J.flat] at h;simp only [J.under];exact wY cs h
 | .tup cs,h=>by simp only [J.flat] at h;simp only [J.under];exact wY cs h
theorem wY {a b:Nat}:∀ cs:List J,bC cs=true->aE a b cs=true
 | [],_=>rfl
 | c :: cs, h => by
  simp only [bC,Bool.and_eq_true] at h;simp only [aE,Bool.and_eq_true];exact ⟨Mc c h.1,wY cs h.2⟩
end
theorem fM.block (h:fM C s nb nt extra){b X:Nat}(hb:s.mb[b]?=some X)(hnb:nb<=b)(o:Nat):Q8 (s.cut nb nt extra) X o:=by
 refine ⟨fun b' _ hX=>?_,fun t z n _ ht _=>?_⟩
 ·obtain ⟨h1,h2⟩:=h.mb.1 hX;have:=h.sim.injb b' b X h2 hb (by omega);simp only [St.cut];rw [List.getElem?_take_of_lt h1];exact this
 ·rw [(h.tok t).1] at ht;obtain ⟨t',_,ht⟩:=Option.bind_eq_some_iff.1 ht;exact (h.sim.disj b t' X z hb ht).elim
theorem zaq (h:fM C s nb nt extra):∀ (n:Nat) {v v':J} {x:Value},dH s v x->frz s.h nb nt n v=some v'->dH (s.cut nb nt extra) v' x:=by
 intro n
 induction n with
 | zero=>intro v v' x _ hf;simp [frz] at hf
 | succ n ih=>
  have L:∀ {cs cs':List J} {xs:List Value},aU s cs xs->cs.mapM (frz s.h nb nt n)=some cs'->aU (s.cut nb nt extra) cs' xs:=by
   intro cs cs' xs hr hm;obtain ⟨l1,l2⟩:=oR hm;refine aU.of_get (by rw [l1,hr.length]) fun i c y hc hy=>?_;obtain ⟨c0,hc0,hfc⟩:=l2 i c hc;obtain ⟨y',hy',hrep⟩:=hr.get i c0 hc0;rw [hy] at hy';obtain rfl:=sj hy';exact ih hrep hfc
  have cellsL:∀ {cs cs':List J},(∀ c∈cs,c.isCell=true)->cs.mapM (frz s.h nb nt n)=some cs'->∀ c∈cs',c.isCell=true:=by
   intro cs cs' hk hm c hc;obtain ⟨i,hi⟩:=List.mem_iff_getElem?.1 hc;obtain ⟨c0,hc0,hfc⟩:=(oR hm).2 i c hi;exact Mb (hk c0 (List.mem_of_getElem? hc0)) hfc
  have R:∀ {X o:Nat} {cs cs':List J},d8 s X o cs->cs.mapM (frz s.h nb nt n)=some cs'->d8 (s.cut nb nt extra) X o cs':=by
   intro X o cs cs' hr hm;refine d8.of_get fun i c hc=>?_;obtain ⟨c0,hc0,hfc⟩:=(oR hm).2 i c hc;obtain ⟨y,h1,h2,h3,h4⟩:=hr.get i c0 hc0;exact ⟨y,h1,h.imm h2,Mb h3 hfc,ih h4 hfc⟩
  have R':∀ {X o:Nat} {cs cs':List J},d8 s X o cs->VY (frz s.h nb nt n) nb nt cs=some cs'->d8 (s.cut nb nt extra) X o cs':=by
   intro X o cs cs' hr hm;unfold VY at hm;split at hm
   ·obtain rfl:=sj hm;exact h.repR (by assumption) hr
   ·exact R hr hm
  have E:∀ {X sz o:Nat} {es es':List (List J)},gQ s X sz o es->KJ (frz s.h nb nt n) nb nt es=some es'->gQ (s.cut nb nt extra) X sz o es'/\es'.length=es.length:=by
   intro X sz o es es' hr hm;unfold KJ at hm;split at hm
   ·obtain rfl:=sj hm;exact ⟨h.repE (by assumption) hr,rfl⟩
   ·obtain ⟨l1,l2⟩:=oR hm;refine ⟨gQ.of_get fun i e he=>?_,l1⟩;obtain ⟨e0,he0,hfe⟩:=l2 i e he;obtain ⟨h1,h2⟩:=hr.get i e0 he0;exact ⟨by rw [(oR hfe).1,h1],R h2 hfe⟩
  have B:∀ {b X o:Nat} {cs cs':List J},s.mb[b]?=some X->nb<=b->kh s X o cs->(aE nb nt cs=true/\cs'=cs\/cs.mapM (frz s.h nb nt n)=some cs')->d8 (s.cut nb nt extra) X o cs':=by
   intro b X o cs cs' hb hnb hr hm;refine d8.of_get fun i c hc=>?_;rcases hm with ⟨hu,rfl⟩ | hm
   ·obtain ⟨k,y,h1,h2⟩:=hr i c hc;exact ⟨y,h1,h.block hb hnb _,k,h.rep (pu.1 hu c (List.mem_of_getElem? hc)) h2⟩
   ·obtain ⟨c0,hc0,hfc⟩:=(oR hm).2 i c hc;obtain ⟨k,y,h1,h2⟩:=hr i c0 hc0;exact ⟨y,h1,h.block hb hnb _,Mb k hfc,ih h2 hfc⟩
  intro v v' x hr hf
  cases hr <;> simp only [frz] at hf
  case int=>obtain rfl:=sj hf;exact .int _ _
  case bool=>obtain rfl:=sj hf;exact .bool _
  case str=>obtain rfl:=sj hf;exact .str _
  case nilp=>obtain rfl:=sj hf;exact .nilp
  case nfn=>obtain rfl:=sj hf;exact .nfn
  case nif=>obtain rfl:=sj hf;exact .nif
  case nsl=>obtain rfl:=sj hf;exact .vsl0 false none 0 (by simp) (fun _=>rfl)
  case ptr b off X hb=>
   split at hf
   ·obtain rfl:=sj hf;exact .ptr b off X (h.mb.2 ⟨by assumption,hb⟩)
   ·rename_i hnb;obtain ⟨cs,hcs,hf⟩:=Option.bind_eq_some_iff.1 hf;obtain ⟨cs',hcs',rfl⟩:=map_some hf;have := B hb (by omega) (kh.ofBlk h.sim hb hcs) (cs' := cs') (by
     unfold VY at hcs';split at hcs'
     ·exact .inl ⟨by assumption,(sj hcs').symm⟩
     ·exact .inr hcs')
    have e:=dH.vptr (s:=s.cut nb nt extra) cs' off X 0 this
    rwa [Nat.zero_add] at e
  case vptr cs off X o hr=>
   obtain ⟨cs',hcs',rfl⟩:=map_some hf;exact .vptr cs' off X o (R' hr hcs')
  case sl b off sz m c X cap hb hc hcap hkk=>
   split at hf
   ·obtain rfl:=sj hf;exact .sl b off sz m c X cap (h.mb.2 ⟨by assumption,hb⟩) hc hcap hkk
   ·rename_i hnb;obtain ⟨es,hes,hf⟩:=Option.bind_eq_some_iff.1 hf;obtain ⟨es',hes',rfl⟩:=map_some hf;simp only [aN,ne_eq,not_true,if_false] at hes;obtain ⟨cs,hcs,hes⟩:=Option.bind_eq_some_iff.1 hes;split at hes
    ·rename_i hle;obtain rfl:=sj hes;have hrow:=(kh.ofBlk h.sim hb hcs).drop off;rw [Nat.zero_add] at hrow;have each:∀ (i:Nat) (e:List J),(chunks sz m (cs.drop off))[i]?=some e->e.length=sz/\kh s X (off+i*sz) e:=by
      have key:∀ (m:Nat) (l:List J) (o:Nat),m*sz<=l.length->kh s X o l->∀ (i:Nat) (e:List J),(chunks sz m l)[i]?=some e->e.length=sz/\kh s X (o+i*sz) e:=by
       intro m
       induction m with
       | zero=>intro l o _ _ i e he;simp [chunks] at he
       | succ m ihm=>
        intro l o hl hr i e he;rw [Nat.succ_mul] at hl;simp only [chunks] at he
        cases i with
        | zero=>simp at he;subst he;exact ⟨by simp;omega,by simpa using hr.take sz⟩
        | succ i=>
         simp at he;have:=ihm (l.drop sz) (o+sz) (by simp;omega) (hr.drop sz) i e he
         rwa [show o+sz+i*sz=o+(i+1)*sz by rw [Nat.succ_mul];omega] at this
      exact key m _ off (by simp;omega) hrow
     have hlen:es'.length=m:=by
      unfold KJ at hes';split at hes'
      ·obtain rfl:=sj hes';exact fQ _ _ _
      ·rw [(oR hes').1,fQ]
     refine .vsl false es' X off sz c m (gQ.of_get fun i e he=>?_) hlen.symm hc (by simp);unfold KJ at hes';split at hes'
     ·rename_i hu;obtain rfl:=sj hes';obtain ⟨h1,h2⟩:=each i e he;have hue:aE nb nt e=true:=by
       have key:∀ (es:List (List J)),aO nb nt es=true->∀ e∈es,aE nb nt e=true:=by
        intro es
        induction es with
        | nil=>intro _ e he;simp at he
        | cons e0 es ih0=>
         intro hh e he;simp only [aO,Bool.and_eq_true] at hh;rcases List.mem_cons.1 he with rfl | he
         ·exact hh.1
         ·exact ih0 hh.2 e he
       exact key _ hu e (List.mem_of_getElem? he)
      exact ⟨h1,B hb (by omega) h2 (.inl ⟨hue,rfl⟩)⟩
     ·obtain ⟨e0,he0,hfe⟩:=(oR hes').2 i e he;obtain ⟨h1,h2⟩:=each i e0 he0;exact ⟨by rw [(oR hfe).1,h1],B hb (by omega) h2 (.inr hfe)⟩
    ·simp at hes
  case gsl t es X o sz c m k hr hc hn ht hm hv=>
   obtain ⟨es',hes',rfl⟩:=map_some hf;obtain ⟨q1,q2⟩:=E hr hes';split
   ·rename_i hlt;obtain ⟨e1,e2⟩:=h.tok t;have hb:back nt extra t=some t:=by simp [back,hlt]
    rw [hb] at e1 e2;exact .gsl t es' X o sz c m k q1 hc (by rw [q2]; exact hn) (by rw [e2]; exact ht) hm (fun e => by
     obtain ⟨p,q,r⟩:=hv e;exact ⟨by rw [e1];exact p,q,r⟩)
   ·exact .vsl false es' X o sz c k q1 (by rw [q2];exact hn) hc (by simp)
  case vsl clip es X o sz c k hr hn hc hcl=>
   obtain ⟨es',hes',rfl⟩:=map_some hf;obtain ⟨q1,q2⟩:=E hr hes';exact .vsl false es' X o sz c k q1 (by rw [q2];exact hn) hc (by simp)
  case vsl0 clip a c hcl hz=>
   obtain ⟨es',hes',rfl⟩:=map_some hf;have:es'=[]:=by
    unfold KJ at hes';split at hes'
    ·exact (sj hes').symm
    ·simp at hes';exact hes'
   subst this;exact .vsl0 false a c (by simp) hz
  case fn f a b a' b' ha hb=>
   split at hf
   ·rename_i hu;obtain rfl:=sj hf;exact .fn f a b a' b' (h.repL hu.1 ha) (h.repL hu.2 hb)
   ·simp at hf
  case iface t v v0 hr=>
   obtain ⟨v1,hv1,rfl⟩:=map_some hf;exact .iface t v1 v0 (ih hr hv1)
  case agg cs vs hr hc=>
   split at hf
   ·rename_i hfl;obtain rfl:=sj hf;exact .agg cs vs (h.repL (wY _ hfl) hr) hc
   ·obtain ⟨cs',hcs',rfl⟩:=map_some hf;exact .agg cs' vs (L hr hcs') (cellsL hc hcs')
  case tup cs vs hr=>
   obtain ⟨cs',hcs',rfl⟩:=map_some hf;exact .tup cs' vs (L hr hcs')
end
end Go.Av
namespace Go.Av
section
variable {C:eD} {P:Program} {s s1:St} {nb nt:Nat} {extra:Option Nat}
def St.raise (s:St)(qb qt:Nat):St:={s with qb:=qb,qt:=qt}
theorem Pt {q1 q2:Nat}(h1:s.qb<=q1)(h2:s.qt<=q2){X o:Nat}(h:Q8 s X o):Q8 (s.raise q1 q2) X o:=
 ⟨fun b hb=>h.1 b (Nat.le_trans h1 hb),fun t sz n ht=>h.2 t sz n (Nat.le_trans h2 ht)⟩
theorem pM {q1 q2:Nat}(h1:s.qb<=q1)(h2:s.qt<=q2):Le0 s (s.raise q1 q2):=
 ⟨fun X vs e fz h=>⟨vs,fz,h,rfl,fun _ _ h=>h⟩,fun X o v hi hv=>⟨Pt h1 h2 hi,hv⟩,fun _ _ h=>h,fun t n h=>⟨n,h,Nat.le_refl _,fun _=>rfl⟩⟩
theorem zaf {q1 q2:Nat}(h1:s.qb<=q1)(h2:s.qt<=q2)(hs:iC C s):iC C (s.raise q1 q2):=
 ⟨hs.lb, hs.lt, fun b X cs hb hc => by
  obtain ⟨vs,e,fz,a1,a2,a3,a4⟩:=hs.blk b X cs hb hc;exact ⟨vs, e, fz, a1, a2, a3, fun i c hi => by
   obtain ⟨k,v,hv,hr⟩:=a4 i c hi;exact ⟨k,v,hv,hr.le0 (pM h1 h2)⟩⟩,hs.injb,hs.injt,hs.disj,hs.old,fun g cs h=>(hs.glob g cs h).le0 (pM h1 h2)⟩
theorem zaj (hs:iC C s){b X o:Nat}{cs:List J}(hb:s.mb[b]?=some X)(hr:kh s X o cs)(h1:s.qb<=s.mb.length)(h2:s.qt<=s.mt.length):d8 (s.raise s.mb.length s.mt.length) X o cs:=by
 refine d8.of_get fun i c hc=>?_;obtain ⟨k,v,hv,hrep⟩:=hr i c hc;refine ⟨v,hv,⟨fun b' hb' hX=>?_,fun t sz n ht hX=>?_⟩,k,hrep.le0 (pM h1 h2)⟩
 ·have:=(List.getElem?_eq_some_iff.1 hX).1;simp only [St.raise] at hb' this;exact absurd this (by omega)
 ·have:=(List.getElem?_eq_some_iff.1 hX).1;simp only [St.raise] at ht this;omega
theorem TD (hs:iC C s){b off sz n:Nat}{cap:Option Nat}{es:List (List J)}{x:Value}(hx:dH s (.sl b off sz n cap) x)(he:aN s.h sz (.sl b off sz n cap)=some es)(h1:s.qb<=s.mb.length)(h2:s.qt<=s.mt.length):
  dH (s.raise s.mb.length s.mt.length) (.vsl false es) x:=by
 cases hx with
 | sl _ _ _ _ c X _ hb hc hcap=>
  simp only [aN,ne_eq,not_true,if_false] at he;obtain ⟨cs,hcs,he⟩:=Option.bind_eq_some_iff.1 he;split at he
  ·rename_i hle;obtain rfl:=sj he;have hrow:=(kh.ofBlk hs hb hcs).drop off;rw [Nat.zero_add] at hrow;exact .vsl false _ X off sz c n (A4 n (zaj hs hb hrow h1 h2) (by simp;omega)) (fQ _ _ _).symm hc (by simp)
  ·simp at he
mutual
theorem zau (hs:iC C s)(h1:s.qb<=s.mb.length)(h2:s.qt<=s.mt.length):∀ (v:J) {v':J} {ch:Bool} {x:Value},dH s v x->nT s.h v=some (v',ch)->
  dH (s.raise s.mb.length s.mt.length) v' x/\(ch=false->dH s v' x)/\(v.isCell=true->v'.isCell=true)
 | .sl b off sz n cap, v', ch, x, hr, h => by
  simp only [nT] at h;obtain ⟨es,hes,h⟩:=bind_some h;obtain ⟨rfl,rfl⟩:J.vsl false es=v'/\true=ch:=by simpa using h
  exact ⟨TD hs hr hes h1 h2,by simp,fun _=>rfl⟩
 | .gsl t es, v', ch, x, hr, h => by
  simp only [nT] at h;obtain ⟨rfl,rfl⟩:J.vsl false es=v'/\false=ch:=by simpa using h
  have:dH s (.vsl false es) x:=by
   cases hr with
   | gsl _ _ X o sz c m n he hc hn ht hm hv=>exact .vsl false es X o sz c n he hn hc (by simp)
  exact ⟨this.le0 (pM h1 h2),fun _=>this,fun _=>rfl⟩
 | .vsl cl es, v', ch, x, hr, h => by
  simp only [nT] at h;obtain ⟨rfl,rfl⟩:J.vsl false es=v'/\false=ch:=by simpa using h
  have:dH s (.vsl false es) x:=by
   cases hr with
   | vsl _ _ X o sz c n he hn hc hcl=>exact .vsl false es X o sz c n he hn hc (by simp)
   | vsl0 _ a c hcl hz=>exact .vsl0 false a c (by simp) hz
  exact ⟨this.le0 (pM h1 h2),fun _=>this,fun _=>rfl⟩
 | .nsl, v', ch, x, hr, h => by
  simp only [nT] at h;obtain ⟨rfl,rfl⟩:J.vsl false []=v'/\false=ch:=by simpa using h
  cases hr
  have:dH s (.vsl false []) (.slice none 0 0):=.vsl0 false none 0 (by simp) (fun _=>rfl);exact ⟨this.le0 (pM h1 h2),fun _=>this,fun _=>rfl⟩
 | .agg cs, v', ch, x, hr, h => by
  simp only [nT] at h;split at h
  ·obtain ⟨rfl,rfl⟩:J.agg cs=v'/\false=ch:=by simpa using h
   exact ⟨hr.le0 (pM h1 h2),fun _=>hr,fun h=>h⟩
  ·obtain ⟨l,hl,h⟩:=bind_some h;obtain ⟨rfl,rfl⟩:J.agg l.1=v'/\l.2=ch:=by simpa using h
   cases hr with
   | agg _ vs hr hc=>
    obtain ⟨q1,q2,q3⟩:=Ae hs h1 h2 cs hr hl;exact ⟨.agg _ vs q1 (q3 hc),fun e=>.agg _ vs (q2 e) (q3 hc),fun h=>by simp [J.isCell] at h⟩
 | .int _ _,v',ch,x,hr,h | .bool _,v',ch,x,hr,h | .str _,v',ch,x,hr,h | .nilp,v',ch,x,hr,h | .ptr _ _,v',ch,x,hr,h | .vptr _ _,v',ch,x,hr,h | .fn _ _ _,v',ch,x,hr,h | .nfn,v',ch,x,hr,h
 | .iface _ _, v', ch, x, hr, h | .nif, v', ch, x, hr, h | .tup _, v', ch, x, hr, h => by
  simp only [nT] at h;have e:=sj h;injection e with e1 e2
  subst e1 e2;exact ⟨hr.le0 (pM h1 h2),fun _=>hr,fun h=>h⟩
theorem Ae (hs:iC C s)(h1:s.qb<=s.mb.length)(h2:s.qt<=s.mt.length):∀ (l:List J) {r:List J × Bool} {xs:List Value},aU s l xs->rQ s.h l=some r->
  aU (s.raise s.mb.length s.mt.length) r.1 xs/\(r.2=false->aU s r.1 xs)/\((∀ c∈l,c.isCell=true)->∀ c∈r.1,c.isCell=true)
 | [], r, xs, hr, h => by
  simp only [rQ] at h;obtain rfl:=sj h
  cases hr
  exact ⟨.nil,fun _=>.nil,fun _=>by simp⟩
 | v :: l, r, xs, hr, h => by
  simp only [rQ] at h;obtain ⟨a,ha,h⟩:=bind_some h;obtain ⟨b,hb,h⟩:=bind_some h;obtain rfl:=sj h
  cases hr with
  | cons _ y _ ys hy ht=>
   obtain ⟨p1,p2,p3⟩:=zau hs h1 h2 v (v':=a.1) (ch:=a.2) hy ha;obtain ⟨q1,q2,q3⟩:=Ae hs h1 h2 l ht hb;refine ⟨.cons _ _ _ _ p1 q1,fun e=>?_,fun hk c hc=>?_⟩
   ·simp only [Bool.or_eq_false_iff] at e;exact .cons _ _ _ _ (p2 e.1) (q2 e.2)
   ·rcases List.mem_cons.1 hc with rfl | hc
    ·exact p3 (hk v (by simp))
    ·exact q3 (fun c hc=>hk c (by simp [hc])) c hc
end
theorem TE (hs:iC C s)(h:fM C s1 nb nt extra)(hnb:nb=s.mb.length)(hnt:nt=s.mt.length){q1 q2:Nat}(hl:Le (s.raise q1 q2) s1)(hq1:s.qb<=q1)(hq2:s.qt<=q2)
  (hr:(q1=s.qb/\q2=s.qt/\PB nb nt s1.h)\/(q1=nb/\q2=nt/\(∀ t:Nat,t < nt->s1.h.toks[t]?=s.h.toks[t]?)/\(∀ b:Nat,b < nb->s1.h.blks[b]?=s.h.blks[b]?))):
  iC C ((s1.cut nb nt extra).raise s.qb s.qt)/\Le s ((s1.cut nb nt extra).raise s.qb s.qt):=by
 have bk : ∀ t : Nat, t < nt -> (s1.cut nb nt extra).mt[t]? = s1.mt[t]? /\ (s1.cut nb nt extra).h.toks[t]? = s1.h.toks[t]? := fun t ht => by
  obtain ⟨e1,e2⟩:=h.tok t;have hb:back nt extra t=some t:=by simp [back,ht]
  rw [hb] at e1 e2;exact ⟨e1,e2⟩
 have hle:Le s ((s1.cut nb nt extra).raise s.qb s.qt):=by
  refine ⟨rfl, rfl, fun X vs e fz hx => hl.blocks X vs e fz hx, fun X o v hi hv => ?_, fun b X hb => ?_, fun t n ht => ?_,
   ⟨hl.kept.os,hl.kept.tape,hl.kept.out,hl.kept.size,fun X hX ht=>hl.kept.trk X hX ?_,fun X hX ht=>hl.kept.heap X hX ht⟩⟩
  ·obtain ⟨i1,i2⟩:=hl.cells X o v (Pt hq1 hq2 hi) hv;refine ⟨⟨fun b hb hX=>?_,fun t z n hqt ht hn=>?_⟩,i2⟩
   ·obtain ⟨hlt,hX1⟩:=h.mb.1 hX;have hbl:b < s.mb.length:=by omega
    have:=hl.mb b _ (List.getElem?_eq_getElem hbl);rw [hX1] at this;obtain rfl:=sj this;have hd:=hi.1 b hb (List.getElem?_eq_getElem hbl);simp only [St.raise,St.cut];rw [List.getElem?_take_of_lt hlt];rcases hr with ⟨hq,_,_⟩ | ⟨_,_,_,hkb⟩
    ·refine i1.1 b ?_ hX1;rw [hl.qb,hq];exact hb
    ·rw [hkb b hlt];exact hd
   ·obtain ⟨e1,e2⟩:=h.tok t;have ht':(s1.cut nb nt extra).mt[t]?=some (X,z):=ht;have hn':(s1.cut nb nt extra).h.toks[t]?=some n:=hn;rw [e1] at ht';rw [e2] at hn';obtain ⟨t',hbk,ht2⟩:=Option.bind_eq_some_iff.1 ht';clear ht';simp only [hbk,Option.bind_some] at hn';rcases Li h hbk with ⟨hlt,rfl⟩ | ⟨rfl,hge,_⟩
    ·have htl:t' < s.h.toks.length:=by have:=hs.lt;omega
     obtain ⟨n',hn1,hn2,hn3⟩:=hl.mt t' _ (List.getElem?_eq_getElem htl);rw [hn'] at hn1;obtain rfl:=sj hn1;by_cases hnn:n=s.h.toks[t']
     ·have hmt:=hn3 hnn;have:s.mt[t']?=some (X,z):=by rw [<- ht2];exact hmt.symm
      have:=hi.2 t' z _ hqt this (List.getElem?_eq_getElem htl);rw [hnn];exact this
     ·rcases hr with ⟨rfl,rfl,_⟩ | ⟨rfl,rfl,hk,_⟩
      ·refine i1.2 t' z n ?_ ht2 hn';rw [hl.qt];exact hqt
      ·have:=hk t' hlt;rw [hn',List.getElem?_eq_getElem htl] at this;exact absurd (sj this) hnn
    ·refine i1.2 t' z n ?_ ht2 hn';have:=h.q;omega
  ·have hlt:=(List.getElem?_eq_some_iff.1 hb).1;exact h.mb.2 ⟨by omega,hl.mb b X hb⟩
  ·have hlt:=(List.getElem?_eq_some_iff.1 ht).1;have htn:t < nt:=by have:=hs.lt;omega
   obtain ⟨n',a1,a2,a3⟩:=hl.mt t n ht;obtain ⟨e1,e2⟩:=bk t htn;exact ⟨n',by show (s1.cut nb nt extra).h.toks[t]?=_;rw [e2];exact a1,a2,fun e=>by show (s1.cut nb nt extra).mt[t]?=_;rw [e1];exact a3 e⟩
  ·rcases ht with ⟨b,hb⟩ | ⟨t,z,hz⟩
   ·exact .inl ⟨b,(h.mb.1 hb).2⟩
   ·obtain ⟨e1,_⟩:=h.tok t;have hz':(s1.cut nb nt extra).mt[t]?=some (X,z):=hz;rw [e1] at hz';obtain ⟨t',_,ht2⟩:=Option.bind_eq_some_iff.1 hz';exact .inr ⟨t',z,ht2⟩
 refine ⟨⟨?_,?_,fun b X cs hb hc=>?_,fun b b' X h1 h2 hbb=>?_,fun t t' X z z' h1 h2=>?_,fun b t X z hb ht=>?_,fun t X z ht=>?_,fun g cs hg=>(hs.glob g cs hg).le hle⟩,hle⟩
 ·have:=h.hnb;have:=h.sim.lb;simp [St.raise,St.cut];omega
 ·have:=h.hnt;have:=h.sim.lt;simp only [St.raise,St.cut,List.length_append,List.length_take];have:(extra.bind (s1.mt[·]?)).toList.length=(extra.bind (s1.h.toks[·]?)).toList.length:=by
   cases extra with
   | none=>rfl
   | some e=>
    obtain ⟨_,e2⟩:=h.ex e rfl;have e3:e < s1.h.toks.length:=by rw [<- h.sim.lt];exact e2
    simp [List.getElem?_eq_getElem e2,List.getElem?_eq_getElem e3]
  omega
 ·obtain ⟨hlt,hb1⟩:=h.mb.1 hb;have hc1:s1.h.blks[b]?=some cs:=by
   have hc':(s1.h.blks.take nb)[b]?=some cs:=hc;rw [List.getElem?_take_of_lt hlt] at hc';exact hc'
  obtain ⟨vs,e,fz,a1,a2,a3,a4⟩:=h.sim.blk b X cs hb1 hc1;refine ⟨vs,e,fz,a1,a2,a3,fun i c hi=>?_⟩;obtain ⟨k,v,hv,hrep⟩:=a4 i c hi;refine ⟨k,v,hv,?_⟩;rcases hr with ⟨rfl,rfl,hpb⟩ | ⟨rfl,rfl,hk,hkb⟩
  ·have:=h.rep (pu.1 (hpb b cs hlt hc1) c (List.mem_of_getElem? hi)) hrep;have e1:(s1.cut nb nt extra).raise s.qb s.qt=s1.cut nb nt extra:=by
    have q1:=hl.qb;have q2:=hl.qt;simp only [St.raise] at q1 q2;simp only [St.raise,St.cut,<- q1,<- q2]
   rw [e1];exact this
  ·
   have hbl:b < s.mb.length:=by omega
   have hmb:s.mb[b]?=some X:=by
    have:=hl.mb b _ (List.getElem?_eq_getElem hbl);rw [hb1] at this;rw [List.getElem?_eq_getElem hbl];exact this.symm
   have hcs:s.h.blks[b]?=some cs:=by rw [<- hkb b hlt];exact hc1
   obtain ⟨vs0,e0,fz0,b1,b2,b3,b4⟩:=hs.blk b X cs hmb hcs;obtain ⟨k0,v0,hv0,hrep0⟩:=b4 i c hi;have himm:Q8 (s.raise q1 q2) X i:=by
    refine ⟨fun b' hb' hX=>?_,fun t z n ht hX=>?_⟩
    ·have:=(List.getElem?_eq_some_iff.1 hX).1;simp only [St.raise] at hb' this;omega
    ·have:=(List.getElem?_eq_some_iff.1 hX).1;simp only [St.raise] at ht this;omega
   have hat:World.at s.w X i=some v0:=by simp [World.at,World.cell?,b1,hv0]
   have hat1:=(hl.cells X i v0 himm hat).2;have:v=v0:=by
    have:World.at s1.w X i=some v:=by simp [World.at,World.cell?,a1,hv]
    rw [this] at hat1;exact sj hat1
   rw [this];exact hrep0.le hle
 ·simp only [St.raise,St.cut];rw [List.getElem?_take_of_lt (h.mb.1 h1).1];exact h.sim.injb b b' X (h.mb.1 h1).2 (h.mb.1 h2).2 hbb
 ·have h1':(s1.cut nb nt extra).mt[t]?=some (X,z):=h1;have h2':(s1.cut nb nt extra).mt[t']?=some (X,z'):=h2;rw [(h.tok t).1] at h1';rw [(h.tok t').1] at h2';obtain ⟨u,hu,h1'⟩:=Option.bind_eq_some_iff.1 h1';obtain ⟨u',hu',h2'⟩:=Option.bind_eq_some_iff.1 h2';have:=h.sim.injt u u' X z z' h1' h2';subst this
  rcases Li h hu with ⟨p1,p2⟩ | ⟨p1,p2,_⟩ <;> rcases Li h hu' with ⟨p3,p4⟩ | ⟨p3,p4,_⟩ <;> omega
 ·have ht':(s1.cut nb nt extra).mt[t]?=some (X,z):=ht;rw [(h.tok t).1] at ht';obtain ⟨u,hu,ht'⟩:=Option.bind_eq_some_iff.1 ht';exact h.sim.disj b u X z (h.mb.1 hb).2 ht'
 ·have ht':(s1.cut nb nt extra).mt[t]?=some (X,z):=ht;rw [(h.tok t).1] at ht';obtain ⟨u,hu,ht'⟩:=Option.bind_eq_some_iff.1 ht';exact h.sim.old u X z ht'
end
end Go.Av
