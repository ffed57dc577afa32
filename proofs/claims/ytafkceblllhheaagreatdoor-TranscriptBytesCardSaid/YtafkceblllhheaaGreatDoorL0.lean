/- How a law's call, as the machine has it, becomes the statement, under no condition but that the call returns true. -/
import Derived.Test.YtafkceblllhheaaGreatDoorV5
import Derived.ChangeSame
import Derived.ChangeVars
import Derived.JoinedOf
import Derived.RowKit
import Derived.LaidLaws
import Derived.LaidHandle
import Derived.Lay
import Derived.Carry
import Derived.Below
import Derived.MakeChecks
import Derived.Lib.LaidTab
import Derived.Lib.LaidU8
import Derived.SevenTiedAt
set_option linter.unusedVariables false
namespace Go.Av
open Go.ChangeShapes Go.WideShapes Go.RowKit
section
variable {H:Type} {enc:TypeId × Value->H} {P:Program}
theorem zi7 {W : World}{g : Nat}{k : IntKind}{zs : List Int}{cs : Array Value}{name : String}(hg : P.globalNamed name = some g)(hv : W.var? P name = some cs)(hc : cs.toList = zs.map fun z => Value.int k z) :
  BJ (JM W) g (zs.map fun z=>.int k z):=by
 have hw : ∃ vs e fz, W.heap[g]? = some (Obj.cells vs e fz) /\ vs.size = (zs.map fun z => J.int k z).length := by
  unfold World.var? at hv;rw [hg] at hv;simp only [Option.bind_some] at hv;split at hv
  ·rename_i vs e fz hh;obtain rfl:=sj hv;refine ⟨vs,e,fz,hh,?_⟩;rw [<- Array.length_toList,hc];simp
  ·simp at hv
 refine ⟨d8.of_get fun i c hi=>?_,hw⟩;rw [List.getElem?_map] at hi;obtain ⟨z,hz,rfl⟩:=Option.map_eq_some_iff.1 hi;refine ⟨.int k z,?_,zoU W g _,rfl,.int k z⟩;have:=World.var?_cell hg hv i;rw [<- Array.getElem?_toList,hc,List.getElem?_map,hz] at this;show W.cell? ⟨g,0+i,none⟩=some (.int k z);rw [Nat.zero_add];simpa using this
theorem zc8 {W:World}{l:List (String × DataW Unit)}{name:String}{k:IntKind}{zs:List Int}{g:Nat}{t e:TypeId}{n:Nat}
  (hg:P.globalNamed name=some g) (hty:(P.globals[g]?).map (·.type)=some t) (ht:P.underlying t=some (.array n e)) (he:P.underlying e=some (.int k)) (hce:P.cellsOf e=1) (hct:P.cellsOf t=n)
  (h:laidMet P l W) (hm:(name,Go.Lib.tabData k zs)∈l):BJ (JM W) g (zs.map fun z=>.int k z):=by
 obtain ⟨g',t',cs,fuel,p,h1,h2,h3,h4⟩:=Go.Lib.laidMet.reads h hm;obtain rfl:=sj (hg.symm.trans h1);obtain rfl:=sj (hty.symm.trans h2);exact zi7 hg h3 (Go.Lib.cells_of_tab ht he hce hct h4)
theorem HD {W W':World}(hl:laidOutB P=true)(hb:Below W.heap.size W W'):∀ {ts:List TypeId} {vs:List Value} {ds:List (DataW H)} {ps:List MemPlace},(∀ t∈ts,P.readableRec t=true/\t < P.types.size)->(∀ x∈ps,x.block < W.heap.size)->
  DataW.TrodAll enc P W 0 (fun _=>true) true ts vs ds ps->DataW.TrodAll enc P W' 0 (fun b=>decide (b < W.heap.size)) true ts vs ds ps
 | [], _, _, _, _, _, h => by
  obtain ⟨rfl,rfl,rfl⟩:=trodAll_nil h;exact h
 | t :: ts, _, _, _, hr, hlt, h => by
  obtain ⟨v,vs1,d,ds1,a,b,rfl,rfl,rfl,h1,h2⟩:=trodAll_cons h;have ht:=hr t (by simp);exact ⟨a,b,Below.trod hl ht.1 ht.2 h1 hb (fun x hx=>hlt x (by simp [hx])),HD hl hb (fun t ht=>hr t (by simp [ht])) (fun x hx=>hlt x (by simp [hx])) h2,rfl⟩
theorem zas {f:Func}{s:ChangeSpec}{apart fresh handsOn:Bool}{W W':World}{args:Array Value}{ds gs:List (DataW H)}{before:List MemPlace}{t:TypeId}
  (hl:laidOutB P=true) (hr:∀ t∈f.params.toList,P.readableRec t=true/\t < P.types.size) (hvars:s.vars=[])
  (hW:DataW.Whole enc P f.params.toList s.vars apart W args.toList ds gs before) (hb:Below W.heap.size W W')
  (hrt:f.resultTypes=#[t]) (ht:P.underlying t=some .bool)
  (hres:(s.fn H (ds++[])).results=[.lit (.bool true)]/\(s.fn H (ds++[])).args=ds/\(s.fn H (ds++[])).vars=[]):
  s.post enc P f apart fresh handsOn false W args (.bool true) W':=by
 have hlt:=hW.lt;have hW':=hW;obtain ⟨p,q,hA,hV,rfl,hfz,hnd⟩:=hW;rw [hvars] at hV;obtain ⟨rfl,rfl⟩:=trodVars_none hV;obtain ⟨r1,r2,r3⟩:=hres;refine ⟨ds,[],p++[],[],p,[],hW',?_,?_,?_,hb.frame _,fun h=>by cases h⟩
 ·rw [r1,hrt];exact trodAll_mk1 (shut_bool ht true)
 ·rw [r2];exact HD hl hb hr (fun x hx=>hlt x (by simp [hx])) hA
 ·rw [r3,hvars];rfl
end
theorem HE {k:IntKind}{c:J}(h:yn (.int k) c):∃ n,c=.int k n/\(Lit.int k n).wf=true:=by
 cases h with | int _ n h=>exact ⟨n,rfl,h⟩
theorem TC {ts:List Ty}{c:J}(h:yn (.sl ts) c):∃ es,c=.vsl false es/\es.length<=maxLen/\qh ts es:=by
 cases h with | sl _ es hl h=>exact ⟨es,rfl,hl,h⟩
theorem Yw {H:Type}{enc:TypeId × Value->H}{P:Program}{W:World}{base:Nat}{spare:Nat->Bool}{held:Bool}{d:Nat}{t e:TypeId}{ts:List Ty}{v:Value}{dd:DataW H}{ps:List MemPlace}(hs:shT P d t=some [.sl ts])(ht:P.underlying t=some (.slice e))
  (hok:Value.okWide P W .any base t v) (h:DataW.Trod enc P W 0 spare held t v dd ps):∃ es,es.length<=maxLen/\qh ts es/\dH (JM W) (.vsl false es) v:=by
 rcases Tp hs hok h with ⟨avs,h1,h2,cs,rfl⟩ | ⟨ty',c,h1,h2,h3,_⟩
 ·exfalso;simp [Value.okWide,ht,Cell.okWide,Cell.ok] at hok
 ·obtain rfl:Ty.sl ts=ty':=by simpa using h1
  obtain ⟨es,rfl,q1,q2⟩:=TC h2;exact ⟨es,q1,q2,h3⟩
theorem zhf {H:Type}{enc:TypeId × Value->H}{P:Program}{W:World}{base:Nat}{spare:Nat->Bool}{held:Bool}{d:Nat}{t:TypeId}{k:IntKind}{v:Value}{dd:DataW H}{ps:List MemPlace}(hs:shT P d t=some [.int k])(ht:P.underlying t=some (.int k))
  (hok:Value.okWide P W .any base t v) (h:DataW.Trod enc P W 0 spare held t v dd ps):∃ n,(Lit.int k n).wf=true/\dH (JM W) (.int k n) v:=by
 rcases Tp hs hok h with ⟨avs,h1,h2,cs,rfl⟩ | ⟨ty',c,h1,h2,h3,_⟩
 ·exfalso;simp [Value.okWide,ht,Cell.okWide,Cell.ok] at hok
 ·obtain rfl:Ty.int k=ty':=by simpa using h1
  obtain ⟨n,rfl,q1⟩:=HE h2;exact ⟨n,q1,h3⟩
theorem Gj {k:IntKind}:∀ {es:List (List J)},qh [Ty.int k] es->∃ l:List Int,es=eI k l/\∀ x∈l,(Lit.int k x).wf=true
 | [],_=>⟨[],rfl,by simp⟩
 | e :: es, h => by
  cases h with
  | cons _ _ _ h1 h2=>
   obtain ⟨l,rfl,hw⟩:=Gj h2
   cases h1 with
   | cons _ _ _ _ a1 h1=>
    cases h1
    obtain ⟨x,rfl,hx⟩:=HE a1;exact ⟨x :: l, rfl, fun y hy => by
     rcases List.mem_cons.1 hy with rfl | hy
     ·exact hx
     ·exact hw y hy⟩
theorem wf_u8 {x:Int}(h:(Lit.int .u8 x).wf=true):0<=x/\x < 256:=by
 simp only [Lit.wf,Bool.and_eq_true,decide_eq_true_eq] at h;have h1:IntKind.u8.min=0:=by decide
 have h2:IntKind.u8.max=255:=by decide
 rw [h1,h2] at h;omega
end Go.Av
