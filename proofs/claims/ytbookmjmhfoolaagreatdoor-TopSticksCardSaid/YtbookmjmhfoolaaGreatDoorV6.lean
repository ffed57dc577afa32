/- More equations: copies, carries, lists of words, methods of embedded pointers. -/
import Derived.Test.YtbookmjmhfoolaaGreatDoorV5
import Derived.ChangeKeysEq
import Derived.Laws.Externs
import Derived.Laws.Pointers
import Derived.Lib.LaidTab
import Derived.Lib.ItoaNum
import Derived.Below
set_option linter.unusedSimpArgs false
set_option linter.unusedVariables false
set_option maxHeartbeats 1000000
namespace Go.Av
def zvz (P:Program) (t:TypeId) (name:String) (f:FuncId):Bool:=
  match P.info? t with
  | some i => match i.methods.find? (·.name == name) with
    | some m => m.path.isEmpty && (match m.func, P.underlying t with
      | some (g,pr),some d=>g==f&&(match d with | .pointer _=>pr | _=>!pr)
      | _,_=>false)
    | none=>false
  | none=>false
theorem zHd {P:Program} {t:TypeId} {name:String} {f:FuncId} (hm:zvz P t name f=true) (n:Nat) (v:Value) (w:World):(method (n+1) t v name).run P w=.ok (f,v) w:=by
  unfold zvz at hm
  split at hm
  · rename_i i hi
    split at hm
    · rename_i m hf
      simp only [Bool.and_eq_true] at hm
      obtain ⟨h1,h2⟩:=hm
      split at h2
      · rename_i g pr d hg hd
        simp only [Bool.and_eq_true,beq_iff_eq] at h2
        obtain ⟨rfl,h3⟩:=h2
        have hp:m.path.toList=[]:=by simpa using h1
        have hu:(underlying t).run P w=.ok d w:=run_underlying hd w
        unfold method
        rw [Sem.run_bind,run_typeInfo w hi]
        simp only [Result.andThen,hf,hp,follow,hg]
        simp only [Sem.run_bind,Sem.run_pure,Result.andThen,receiverAt,hu]
        cases d <;> simp at h3 <;> subst h3 <;> simp [Place.get,Sem.run_pure]
      · cases h2
    · cases hm
  · cases hm
noncomputable section
variable (C:Ctx) (L:Lim) (fr:Fr) (h:zab)
def zHb (m:Option (List (Nat × Nat × Bool) × FuncId)) (v:zaa) (as:List zaa):Option (zaa × zab):=match m with
  | some (path, f) => match zcr path v with
    | some r=>zag C L f (r :: as) h
    | none=>none
  | none=>none
@[simp] theorem zNx (f:FuncId) (v:zaa) (as:List zaa):zHb C L h (some ([],f)) v as=zag C L f (v :: as) h:=rfl
def zRB (x:zaa) (name:String) (as:List zaa):Option (zaa × zab):=match x with
  | .iface t v=>zHb C L h (C.meth t name) v as
  | _=>none
@[simp] theorem zMj (t:TypeId) (v:zaa) (name:String) (as:List zaa):zRB C L h (.iface t v) name as=zHb C L h (C.meth t name) v as:=rfl
@[simp] theorem zNz (x:AO) (name:String) (as:List AO):zgc C L (.inv x name as) fr h=zRB C L h (C.ev fr x) name (as.map (C.ev fr)):=by
  rw [zgc.eq_def];rfl
end
def putAt {α:Type} (l:List α) (off:Nat) (m:List α):List α:=l.take off++(m++l.drop (off+m.length))
theorem zsa {α:Type} (l:List α) (off:Nat) (m:List α) (h:off+m.length≤l.length):(putAt l off m).length=l.length:=by
  simp [putAt];omega
theorem zxh:∀ (cs old rest pre:List zaa),old.length=cs.length→setAt (pre++(old++rest)) pre.length cs=pre++(cs++rest)
  | [],old,rest,pre,h=>by cases old with | nil=>simp [setAt] | cons a l=>simp at h
  | c :: cs,[],rest,pre,h=>by simp at h
  | c :: cs, a :: l, rest, pre, h => by
    have:=zxh cs l rest (pre++[c]) (by simpa using h)
    simp only [setAt]
    rw [List.set_append_right _ _ (Nat.le_refl _),Nat.sub_self]
    simpa using this
theorem zsc (l:List zaa) (off:Nat) (m:List zaa) (h:off+m.length≤l.length):setAt l off m=putAt l off m:=by
  have h1:l=l.take off++((l.drop off).take m.length++l.drop (off+m.length)):=by
    rw [← List.drop_drop,List.take_append_drop,List.take_append_drop]
  have h2:=zxh m ((l.drop off).take m.length) (l.drop (off+m.length)) (l.take off) (by simp;omega)
  rw [← h1,List.length_take,Nat.min_eq_left (by omega)] at h2
  exact h2
theorem zz6 (k:IntKind) (l:List Int) (off:Nat) (m:List Int) (h:off+m.length≤l.length):setAt (cI k l) off (cI k m)=cI k (putAt l off m):=by
  rw [zsc _ _ _ (by simpa using h)]
  simp [putAt,cI]
def zBw (L:Lim) (h:zab) (sz:Nat) (x y:zaa):Option (zaa × zab):=(zay h sz y).bind fun es=>
  if zeH sz es=true∧zeo sz y=true then (match x with
    | .sl b off s n _=>if s=sz then (zcx L h (.ptr b off) (es.take (min es.length n)).flatten).map fun h=>(.int .i64 ((min es.length n:Nat):Int),h) else none
    | _=>none) else none
@[simp] theorem zNC (C:Ctx) (L:Lim) (fr:Fr) (h:zab) (sz:Nat) (x y:AO):zhZ C L fr h (.copy sz x y)=zBw L h sz (C.ev fr x) (C.ev fr y):=by
  simp only [zhZ,zBw,bind]
  congr 1
@[simp] theorem zxk (y:zaa):zeo 1 y=true:=by cases y <;> rfl
theorem zD0 (k : IntKind) (l : List Int) : zap 0 0 (cI k l) = true := zti fun c hc => by
  simp only [cI,List.mem_map] at hc;obtain ⟨x,_,rfl⟩:=hc;rfl
attribute [simp] zD0
theorem zD1 (L:Lim) (h:zab) (bs:List (List zaa)) (ts:List Nat) (i off n:Nat) (cap:Option Nat) (k:IntKind) (l m:List Int) (y:zaa) (hy:zay (hx h bs ts) 1 y=some (eI k l)) (hb:bs[i]?=some (cI k m))
    (hn:off+min l.length n≤m.length) (hL:L.rob≤h.blks.length):
    zBw L (hx h bs ts) 1 (sA h.blks.length i off 1 n cap) y=some (.int .i64 ((min l.length n:Nat):Int),hx h (bs.set i (cI k (putAt m off (l.take (min l.length n))))) ts):=by
  have e1:((eI k l).take (min l.length n)).flatten=cI k (l.take (min l.length n)):=by
    rw [← zFm];simp [eI]
  have hs:=zam h bs ts L i off (cI k (l.take (min l.length n))) (by simp [hL])
  rw [hb] at hs
  simp only [zAQ,zJg] at hs
  rw [decide_eq_true (by simp;omega),zAP,zz6 _ _ _ _ (by simp;omega)] at hs
  unfold zBw
  rw [hy]
  simp only [Option.bind_some,zLm,zxk,sA,and_self,if_true,zOw]
  rw [e1]
  simp only [pA] at hs
  rw [hs]
  rfl
def zz7 (L:Lim) (h:zab) (zero:List zaa) (x:zaa):Option (zaa × zab):=match x with
  | .sl b off s n _=>if s=zero.length then (zcx L h (.ptr b off) (rep zero n)).map fun h=>(.tup [],h) else none
  | _=>none
@[simp] theorem zMk (C:Ctx) (L:Lim) (fr:Fr) (h:zab) (z:List zaa) (x:AO):zhZ C L fr h (.clear z x)=zz7 L h z (C.ev fr x):=by
  simp only [zhZ,zz7]
  cases C.ev fr x <;> rfl
theorem zHj (L:Lim) (h:zab) (bs:List (List zaa)) (ts:List Nat) (i off n:Nat) (cap:Option Nat) (k:IntKind) (z:Int) (m:List Int) (hb:bs[i]?=some (cI k m)) (hn:off+n≤m.length) (hL:L.rob≤h.blks.length):
    zz7 L (hx h bs ts) [.int k z] (sA h.blks.length i off 1 n cap)=some (.tup [],hx h (bs.set i (cI k (putAt m off (tab n fun _=>z)))) ts):=by
  have hs:=zam h bs ts L i off (cI k (tab n fun _=>z)) (by simp [hL])
  rw [hb] at hs
  simp only [zAQ,zJg,zzl] at hs
  rw [decide_eq_true hn,zAP,zz6 _ _ _ _ (by simpa using hn)] at hs
  unfold zz7
  simp only [sA,List.length_singleton,if_true,zgd,zgL]
  simp only [pA] at hs
  rw [hs]
  rfl
theorem zD4 (sz m i len c:Nat) (cap:Option Nat) (kd:IntKind) (h:(decide (c < len)&&decide (len≤cap.getD len))=true):zc0 .slc sz (sA m i 0 sz len cap) (some (.int kd (c:Int))) none none=some (sA m i (c*sz) sz (len - c) (cap.map (· - c))):=by
  simp only [Bool.and_eq_true,decide_eq_true_eq] at h
  obtain ⟨h1,h3⟩:=h
  have h0:¬len=c:=by omega
  have h4:c≤len:=by omega
  simp [zc0,sA,zio,h0,h3,h4]
theorem zNI (n m i:Nat) (es:List (List zaa)):gA (n+m) i es=gA n (m+i) es:=by simp [gA,Nat.add_assoc]
theorem zy3 (L:Lim) (h:zab) (bs:List (List zaa)) (ts:List Nat) (sz:Nat) (c:Bool) (es ys:List (List zaa))
    (hc:(zeH sz ys&&zeH sz es&&decide (L.rot≤h.toks.length)&&decide (es.length+ys.length < zat))=true):
    zrI L (hx h bs (ts++gT es)) sz false (gL .nsl h.toks.length ts.length es) (.vsl c ys)=some (gL .nsl h.toks.length ts.length (es++ys),hx h bs (ts++gT (es++ys))):=by
  simp only [Bool.and_eq_true,decide_eq_true_eq] at hc
  have e1:∀ q,hx (hx h [] ts) bs q=hx h bs (ts++q):=fun q=>by simp
  have e2 : ∀ es, gL .nsl (hx h [] ts).toks.length 0 es = gL .nsl h.toks.length ts.length es := fun es => by
    unfold gL;split
    · rfl
    · rw [zak,zNI];rfl
  have:=zqq L (hx h [] ts) bs sz c es ys (by simp only [Bool.and_eq_true,decide_eq_true_eq,zak];exact ⟨⟨⟨hc.1.1.1,hc.1.1.2⟩,by omega⟩,hc.2⟩)
  rw [e1,e1,e2,e2] at this
  exact this
end Go.Av
namespace Go.Av
theorem zDO {C:Ctx} {P:Program} {L:Lim} {f:FuncId} {fn:Func} {e:Array Value→Sem Value} (hf:P.funcs[f]?=some fn) (hname:(fn.name== "runtime.NumGoroutine")=false)
    (hb:fn.body.isNone=true) (hn:Extern.findNext fn=none) (he:Extern.find fn=some e) {args:List zaa} {h:zab} {v:zaa}
    (hr:∀ (s:St) (cargs:Array Value),zbz s args cargs.toList→∃ cv,(e cargs).run P s.w=.ok cv s.w∧Rep s v cv):zeh C P L f args h v h:=by
  refine ⟨zim.refl L h,fun s cargs hh hs hL hrep=>?_⟩
  subst hh
  obtain ⟨cv,h1,h2⟩:=hr s cargs hrep
  refine ⟨.value cv,s.w,?_,.inl ⟨cv,.inl rfl,Good.same hs h2⟩⟩
  rw [run_callFunc_extern hf hname hb hn he,h1]
  rfl
def zIZ (g : Nat → Nat → Nat → Nat × Nat) : zJt := ⟨fun _ args h => match args with
  | [.int .u64 x,.int .u64 y,.int .u64 c]=>if (decide (0≤x)&&decide (0≤y)&&decide (0≤c)&&decide (c≤1))=true then some (.inl (.tup [.int .u64 (g x.toNat y.toNat c.toNat).1,.int .u64 (g x.toNat y.toNat c.toNat).2],h)) else none
  | _=>none,fun _ _ _=>none⟩
def zPC (x y c:Nat):Nat × Nat:=((x+y+c) % 18446744073709551616,(x+y+c) / 18446744073709551616)
def zPD (x y b:Nat):Nat × Nat:=((x+18446744073709551616 - y - b) % 18446744073709551616,if x < y+b then 1 else 0)
def zNv:zJt:=zIZ zPC
def zNN:zJt:=zIZ zPD
def zAe : Array Value → Sem Value := fun args => do
  let (x,y,b) ← Extern.MathBitsCarry.three "Sub64" args
  pure (Extern.MathBitsCarry.pair ((x+Extern.MathBitsCarry.m64 - y - b) % Extern.MathBitsCarry.m64) (if x < y+b then 1 else 0))
theorem zHr {P:Program} (x y c:Nat) (hc:c≤1) (w:World):
    (add64Entry #[.int .u64 x,.int .u64 y,.int .u64 c]).run P w=.ok (.tuple #[.int .u64 (zPC x y c).1,.int .u64 (zPC x y c).2]) w:=by
  have:c=0∨c=1:=by omega
  rcases this with rfl | rfl <;> rfl
theorem zHs {P:Program} (x y b:Nat) (hb:b≤1) (w:World):
    (zAe #[.int .u64 x,.int .u64 y,.int .u64 b]).run P w=.ok (.tuple #[.int .u64 (zPD x y b).1,.int .u64 (zPD x y b).2]) w:=by
  have:b=0∨b=1:=by omega
  rcases this with rfl | rfl <;> rfl
theorem zNO {s:St} {a b c:zaa} {vs:Array Value} (h:zbz s [a,b,c] vs.toList):∃ x y z,vs=#[x,y,z]∧Rep s a x∧Rep s b y∧Rep s c z:=by
  obtain ⟨l⟩:=vs
  simp only at h
  cases h with
  | cons _ x _ l1 h1 h=>
    cases h with
    | cons _ y _ l2 h2 h=>
      cases h with
      | cons _ z _ l3 h3 h=>
        cases h
        exact ⟨x,y,z,rfl,h1,h2,h3⟩
theorem zp5 {s:St} {k:IntKind} {n:Int} {v:Value} (h:Rep s (.int k n) v):v=.int k n:=by cases h;rfl
theorem zEi {C:Ctx} {P:Program} {f:FuncId} {fn:Func} {e:Array Value→Sem Value} {g:Nat→Nat→Nat→Nat × Nat} (hf:P.funcs[f]?=some fn) (hname:(fn.name== "runtime.NumGoroutine")=false)
    (hb:fn.body.isNone=true) (hn:Extern.findNext fn=none) (he:Extern.find fn=some e)
    (hr:∀ (x y c:Nat),c≤1→∀ w,(e #[.int .u64 x,.int .u64 y,.int .u64 c]).run P w=.ok (.tuple #[.int .u64 (g x y c).1,.int .u64 (g x y c).2]) w)
    {L:Lim} {args:List zaa} {h:zab} {v:zaa} {h':zab} (hp:(zIZ g).pre L args h=some (.inl (v,h'))):zeh C P L f args h v h':=by
  unfold zIZ at hp
  simp only at hp
  split at hp
  · rename_i x y c
    split at hp
    · rename_i hc
      simp only [Bool.and_eq_true,decide_eq_true_eq] at hc
      simp only [Option.some.injEq,Sum.inl.injEq,Prod.mk.injEq] at hp
      obtain ⟨rfl,rfl⟩:=hp
      refine zDO hf hname hb hn he fun s cargs hrep=>?_
      obtain ⟨a,b,d,rfl,h1,h2,h3⟩:=zNO hrep
      obtain rfl:=zp5 h1
      obtain rfl:=zp5 h2
      obtain rfl:=zp5 h3
      refine ⟨_,?_,.tup _ #[.int .u64 (g x.toNat y.toNat c.toNat).1,.int .u64 (g x.toNat y.toNat c.toNat).2] (.cons _ _ _ _ (.int ..) (.cons _ _ _ _ (.int ..) .nil))⟩
      have:=hr x.toNat y.toNat c.toNat (by omega) s.w
      rw [show ((x.toNat:Nat):Int)=x by omega,show ((y.toNat:Nat):Int)=y by omega,show ((c.toNat:Nat):Int)=c by omega] at this
      exact this
    · cases hp
  · cases hp
theorem zAf {g:Nat→Nat→Nat→Nat × Nat} {L:Lim} {args:List zaa} {h:zab} {q:FuncId × List zaa × zab}:(zIZ g).pre L args h≠some (.inr q):=by
  unfold zIZ
  simp only
  split
  · split <;> simp
  · simp
theorem zEj {C:Ctx} {L:Lim} {f:FuncId} {h:zab} (hx:C.ext f=some zNv) (x y:W64) (c:Nat) (hc:c≤1):
    zag C L f [wd x,wd y,.int .u64 (c:Int)] h=some (.tup [wd (BitVec.ofNat 64 (x.toNat+y.toNat+c)),.int .u64 (((x.toNat+y.toNat+c) / 18446744073709551616:Nat):Int)],h):=by
  rw [zoW C L h hx]
  have:(decide (0≤(x.toNat:Int))&&decide (0≤(y.toNat:Int))&&decide (0≤(c:Int))&&decide ((c:Int)≤1))=true:=by simp;omega
  simp only [zNv,zIZ,wd,if_pos this,Option.bind_some,zPC,Int.toNat_natCast,BitVec.toNat_ofNat]
theorem zEk {C:Ctx} {L:Lim} {f:FuncId} {h:zab} (hx:C.ext f=some zNN) (x y:W64) (c:Nat) (hc:c≤1):
    zag C L f [wd x,wd y,.int .u64 (c:Int)] h=some (.tup [wd (BitVec.ofNat 64 (x.toNat+18446744073709551616 - y.toNat - c)),.int .u64 ((if x.toNat < y.toNat+c then 1 else 0:Nat):Int)],h):=by
  rw [zoW C L h hx]
  have:(decide (0≤(x.toNat:Int))&&decide (0≤(y.toNat:Int))&&decide (0≤(c:Int))&&decide ((c:Int)≤1))=true:=by simp;omega
  simp only [zNN,zIZ,wd,if_pos this,Option.bind_some,zPD,Int.toNat_natCast,BitVec.toNat_ofNat]
end Go.Av
namespace Go.Av
theorem zJj (h:zab) (bs:List (List zaa)) (ts:List Nat) (nt n i m:Nat) (cap:Option Nat) (k:IntKind) (l:List Int) (hb:bs[i]?=some (cI k l)) (hl:m≤l.length):
    frz (hx h bs ts) h.blks.length nt (n+1) (sA h.blks.length i 0 1 m cap)=some (.vsl false (eI k (l.take m))):=by
  have e1:(hx h bs ts).blks[h.blks.length+i]?=some (cI k l):=zzD ts hb
  have e2:chunks 1 m (cI k l)=eI k (l.take m):=by
    have key:∀ (m:Nat) (l:List Int),m≤l.length→chunks 1 m (cI k l)=eI k (l.take m):=by
      intro m
      induction m with
      | zero=>intro l _;simp [chunks]
      | succ m ih=>
        intro l hl
        cases l with
        | nil=>simp at hl
        | cons x l=>
          have:=ih l (by simpa using hl)
          simp only [chunks,cI,List.map_cons,List.take_succ_cons,List.take_zero,List.drop_succ_cons,List.drop_zero] at this ⊢
          rw [this];rfl
    exact key m l hl
  simp only [sA,frz]
  rw [if_neg (by omega)]
  simp only [zay,ne_eq,not_true,if_false,e1,Option.bind_some,List.drop_zero]
  rw [if_pos (by simpa using hl),e2]
  simp [zCB]
def zv2 (l:List W64):List Int:=l.map fun w=>(w.toNat:Int)
theorem zs7 (l:List W64):cW l=cI .u64 (zv2 l):=by simp [cW,cI,zv2,wd]
theorem zs8 (l:List W64):eW l=eI .u64 (zv2 l):=by simp [eW,eI,zv2,wd]
@[simp] theorem zPT (l:List W64):(zv2 l).length=l.length:=by simp [zv2]
@[simp] theorem zxV (l:List W64) (n:Nat):(zv2 l).take n=zv2 (l.take n):=by simp [zv2]
@[simp] theorem zLk (l:List W64):zeH 1 (eW l)=true:=by rw [zs8];simp
@[simp] theorem zPU (nb nt:Nat) (l:List W64):zax nb nt (eW l)=true:=by rw [zs8];simp
@[simp] theorem zRS:eW []=[]:=rfl
theorem zAI (h:zab) (bs:List (List zaa)) (ts:List Nat) (nt n i m:Nat) (cap:Option Nat) (l:List W64) (hb:bs[i]?=some (cW l)) (hl:l.length=m):
    frz (hx h bs ts) h.blks.length nt (n+1) (sA h.blks.length i 0 1 m cap)=some (.vsl false (eW l)):=by
  rw [zs7] at hb
  rw [zJj h bs ts nt n i m cap .u64 (zv2 l) hb (by simp;omega),zs8,List.take_of_length_le (by simp;omega)]
@[simp] theorem zQV (h:zab) (nb nt n:Nat) (c:Bool) (l:List W64):frz h nb nt (n+1) (.vsl c (eW l))=some (.vsl false (eW l)):=zhF h nb nt n c (by simp)
@[simp] theorem zQW (h:zab) (nb nt n i:Nat) (l:List W64):frz h nb nt (n+1) (gA nt i (eW l))=some (.vsl false (eW l)):=zFe h nb nt n i _ (by simp)
theorem zAJ (h:zab) (nb nt n b off sz m:Nat) (cap:Option Nat) (hb:decide (b < nb)=true):frz h nb nt (n+1) (.sl b off sz m cap)=some (.sl b off sz m cap):=by
  simp only [frz]
  rw [if_pos (by simpa using hb)]
@[simp] theorem zFd (h:zab) (sz:Nat) (c:Bool) (es:List (List zaa)):zay h sz (.vsl c es)=some es:=by simp only [zay]
def LsW (h:zab) (x:zaa) (l:List W64):Prop:=RdW h x l∧∀ bs ts,zay (hx h bs ts) 1 x=some (eW l)
theorem LsW.ext {h:zab} {x:zaa} {l:List W64} (hr:LsW h x l) (bs:List (List zaa)) (ts:List Nat):LsW (hx h bs ts) x l:=
  ⟨hr.1.ext bs ts,fun bs' ts'=>by rw [zFB];exact hr.2 _ _⟩
theorem LsW.vsl (h:zab) (c:Bool) (l:List W64):LsW h (.vsl c (eW l)) l:=⟨RdW.vsl h c l,fun bs ts=>by simp only [zay]⟩
theorem zJm (k:IntKind) (a b:Nat):zrh true (.int k (a:Int)) [.int k (b:Int)]=some (.int k ((max a b:Nat):Int)):=by
  simp only [zrh,zOi,bind,Option.bind_some]
  by_cases hab:a < b
  · have h1 : ((b : Int) > (a : Int)) := by omega
    simp only [if_true,if_pos h1,show max a b=b by omega]
  · have h1 : ¬ ((b : Int) > (a : Int)) := by omega
    simp only [if_true,if_neg h1,show max a b=a by omega]
theorem zfD (n i off len k:Nat) (cap:Option Nat) (h:decide (k < len)=true):zbP none 1 (sA n i off 1 len cap) (.int .i64 (k:Int))=some (pA n i (off+k)):=by
  have:=ztc n i off 1 len k cap .i64 h
  rwa [Nat.mul_one] at this
theorem zJn (h:zab) (bs:List (List zaa)) (ts:List Nat) (i n:Nat) (cap:Option Nat) (k:IntKind) (l:List Int) (hb:bs[i]?=some (cI k l)) (hl:l.length=n):
    fzA (hx h bs ts) (sA h.blks.length i 0 1 n cap)=some (.vsl false (eI k l),true):=by
  have he:=zv7 h bs ts i n (cI k l) cap hb (by simpa using hl)
  rw [zrK] at he
  simp only [sA] at he ⊢
  simp only [fzA,he,bind,Option.bind_some]
theorem zFi {m:Mode} {h:zab} {n:Nat} {res:List zyd} {as:List zaa} {r:Option (AEx × Fr × zab)} {v:zaa} {h':zab} (h1:zGb m h n res as false r=some (v,h')) (hv:v.flat=true):zGb m h n res as true r=some (v,h'):=by
  unfold zGb zLL zMB at h1 ⊢
  cases r with
  | none=>exact h1
  | some r=>
    simp only [Option.bind_some] at h1 ⊢
    split at h1
    · rename_i hc
      rw [if_pos hc]
      cases hr:zrL r.2.1 r.2.2 res with
      | none=>rw [hr] at h1;exact h1
      | some vs=>
        rw [hr] at h1
        simp only [Option.bind_some] at h1 ⊢
        rw [zCf] at h1
        rw [h1,zyb _ _ hv]
    · cases h1
end Go.Av
namespace Go.Av
section
variable {C:Ctx} {P:Program} {D:FuncId}
end
end Go.Av
namespace Go.Av
noncomputable section
variable (C:Ctx) (L:Lim) (fr:Fr) (h:zab)
def zIp (m:Option (List (Nat × Nat × Bool) × FuncId)) (v:zaa) (as:List zaa):Option zaa:=match m with
  | some (path, f) => match zcr path v with
    | some r=>zL7 (zac C f) (zag C L f (r :: as) h)
    | none=>none
  | none=>none
@[simp] theorem zOD (f:FuncId) (v:zaa) (as:List zaa):zIp C L h (some ([],f)) v as=zL7 (zac C f) (zag C L f (v :: as) h):=rfl
def zLs (x:zaa) (name:String) (as:List zaa):Option zaa:=match x with
  | .iface t v=>zIp C L h (C.meth t name) v as
  | _=>none
@[simp] theorem zLr (t:TypeId) (v:zaa) (name:String) (as:List zaa):zLs C L h (.iface t v) name as=zIp C L h (C.meth t name) v as:=rfl
@[simp] theorem zOE (x:AO) (name:String) (as:List AO):zku C L (.inv x name as) fr h=zLs C L h (C.ev fr x) name (as.map (C.ev fr)):=by
  rw [zku.eq_def]
  simp only [zLs,zIp,zL7]
  generalize C.ev fr x=v
  cases v <;> try rfl
  rename_i t v
  simp only
  cases C.meth t name with
  | none=>rfl
  | some q=>
    simp only
    cases zcr q.1 v with
    | none=>rfl
    | some r=>
      simp only
      split
      · cases zag C L q.2 (r :: as.map (C.ev fr)) h <;> rfl
      · rfl
end
end Go.Av
namespace Go.Av
def zt2:AC:=.reg [iv 2 (.mv (.k (.nsl)))]
def zrj:AC:=.cond (.t 4) (.seq (.reg [iv 2 (.mv (.k (.nsl)))]) (.ret)) (.skip)
def zOX (sz:Nat) (z:List zaa):AC:=.seq (.reg [iv 5 (.slit sz 0 z []),iv 6 (.mv (.t 0)),ic 7 (.app sz false (.t 5) (.t 6)),iv 2 (.mv (.t 7))]) (.ret)
def zJu (sz:Nat) (z:List zaa):AFn:=⟨8,zOX sz z,[.tmp 2],some (zt2,3,4,zrj)⟩
theorem zLq {L:Lim} {h:zab} {sz:Nat} {y:zaa} {ys:List (List zaa)} (hy:zay h sz y=some ys) (hstr:zeo sz y=true) (hsz:zeH sz ys=true) (hr:L.rot≤h.toks.length) (hroom:ys.length < zat):
    zrI L h sz false (.vsl true []) y=some (gL (.vsl true []) h.toks.length 0 ys,hx h [] (gT ys)):=by
  have:=zFh (L:=L) (h:=h) (bs:=[]) (sz:=sz) (s:=.vsl true []) (y:=y) (es:=[]) (ys:=ys) (.inr rfl) (by rw [show gT []=[] from rfl,zxK];exact hy) hstr hsz rfl hr (by simpa using hroom)
  rw [show gL (.vsl true []) h.toks.length 0 []=.vsl true [] from rfl,show gT []=[] from rfl,List.nil_append,zxK] at this
  exact this
theorem zQc (sz:Nat) (z:List zaa):zaA (rep z 0) []=some []:=rfl
theorem zJv (hh:zab) (nb nt m:Nat) (es:List (List zaa)) (hu:zax nb nt es=true):frz hh nb nt (m+1) (gL (.vsl true []) nt 0 es)=some (.vsl false es):=zpo (.inr rfl) hu
theorem zzC {C:Ctx} {L:Lim} {h:zab} {f:FuncId} {sz:Nat} {z:List zaa} (hx1:C.ext f=none) (hm:C.mode f=roM) (hf:C.fns f=some (zJu sz z)) (x:zaa) (es:List (List zaa)) (he:zay h sz x=some es) (hs:zeo sz x=true)
    (hn:∃ nb,zqU x=some nb) (hz:zeH sz es=true) (hu:zax h.blks.length h.toks.length es=true) (hroom:es.length < zat):zag C L f [x] h=some (.vsl false es,h):=by
  obtain ⟨nb,hn⟩:=hn
  have hap:=zLq (L:=zau h) he hs hz (Nat.le_refl _) hroom
  have hg:=fun hh m=>zJv hh h.blks.length h.toks.length m es hu
  have hch:chunks sz 0 []=[]:=rfl
  have hfl:=zQc sz z
  have hlast : ∀ fr : Fr, fr 0 = x → ∃ fr', run C (zau h) (zOX sz z) fr h = some (.ret, fr', hx h [] (gT es)) ∧ fr' 2 = gL (.vsl true []) h.toks.length 0 es := fun fr h0 => by
    simp -implicitDefEqProofs [zOX,h0,hfl,hch,hap]
  have hfin : ∀ (fr' : Fr), fr' 2 = gL (.vsl true []) h.toks.length 0 es → zt3 roM (zJu sz z) ([x], false) h (.ret, fr', hx h [] (gT es)) = some (.vsl false es, h) := fun fr' h2 => by
    simp -implicitDefEqProofs [zt3,zJu,zrL,h2,hg,zyv,zt7]
  rw [zag.eq_def]
  simp only [hx1,hf,hm,bind,Option.bind_some,zH1,zH2]
  have hq:(zJu sz z).pre=some (zt2,3,4,zrj):=rfl
  have hc:(zJu sz z).code=zOX sz z:=rfl
  simp only [hq,hc]
  have r0:run C (zau h) zt2 (fun i=>[x].getD i zaK) h=some (.normal,upd (fun i=>[x].getD i zaK) 2 .nsl,h):=by simp [zt2]
  rw [r0]
  simp only [Option.bind_some,if_true]
  have hx0:upd (fun i=>[x].getD i zaK) 2 .nsl 0=x:=rfl
  rw [hx0,hn]
  simp only [Option.bind_some]
  have rF : run C (zau h) zrj (zCC (zt2, 3, 4, zrj) (upd (fun i => [x].getD i zaK) 2 .nsl) false) h = some (.normal, zCC (zt2, 3, 4, zrj) (upd (fun i => [x].getD i zaK) 2 .nsl) false, h) := by
    simp [zrj,zCC,upd]
  have rT : run C (zau h) zrj (zCC (zt2, 3, 4, zrj) (upd (fun i => [x].getD i zaK) 2 .nsl) true) h = some (.ret, upd (zCC (zt2, 3, 4, zrj) (upd (fun i => [x].getD i zaK) 2 .nsl) true) 2 .nsl, h) := by
    simp [zrj,zCC,upd]
  obtain ⟨fr',hl1,hl2⟩:=hlast (zCC (zt2,3,4,zrj) (upd (fun i=>[x].getD i zaK) 2 .nsl) false) rfl
  have hnilfin : ∀ fr : Fr, fr 2 = .nsl → zt3 roM (zJu sz z) ([x], false) h (.ret, fr, h) = some (.vsl false [], h) := fun fr h2 => by
    have hfz:∀ (hh:zab) nb nt m,frz hh nb nt (m+1) .nsl=some (.vsl false []):=fun hh nb nt m=>by simp [frz]
    simp -implicitDefEqProofs [zt3,zJu,zrL,h2,zyv,zt7,hfz]
  cases nb with
  | some b=>
    cases b with
    | true=>
      have hxn:x=.nsl:=by
        unfold zqU at hn
        split at hn
        · rename_i b hb
          obtain rfl:=Option.some.inj (Option.some.inj hn)
          unfold eqA at hb
          split at hb <;> first | rfl | simp_all
        · split at hn <;> simp at hn
      subst hxn
      have hes:es=[]:=by simpa [zay] using he.symm
      subst hes
      simp only [rT,Option.bind_some]
      exact hnilfin _ (by simp [upd])
    | false=>
      simp only [rF,Option.bind_some,hl1]
      exact hfin _ hl2
  | none=>
    have hxn:∃ c,x=.vsl c []:=by
      unfold zqU at hn
      split at hn
      · simp at hn
      · split at hn
        · exact ⟨_,rfl⟩
        · simp at hn
    obtain ⟨c,rfl⟩:=hxn
    have hes:es=[]:=by simpa [zay] using he.symm
    subst hes
    simp only [rT,rF,Option.bind_some,and_self,if_true,hl1]
    have e1:=hnilfin (upd (zCC (zt2,3,4,zrj) (upd (fun i=>[zaa.vsl c []].getD i zaK) 2 .nsl) true) 2 .nsl) (by simp [upd])
    have e2:=hfin _ hl2
    rw [if_pos (by rw [hm];exact e1.trans e2.symm)]
    exact e2
theorem zCF (c:Bool) (es:List (List zaa)):∃ nb,zqU (.vsl c es)=some nb:=by cases es <;> exact ⟨_,rfl⟩
end Go.Av
namespace Go.Av
open Go.RowKit
def zLW:List UInt8:=[48,49,50,51,52,53,54,55,56,57,97,98,99,100,101,102]
def zCL (x:Nat):List UInt8:=[zLW.getD (x / 16) 0,zLW.getD (x % 16) 0]
def zLX (a:Int × List Nat):List UInt8:=Lib.itoa a.1++(if a.2=[] then [] else [32])++a.2.flatMap zCL++[10]
def zmG (l:List (Int × List Nat)):List UInt8:=l.flatMap zLX
def zCN (w:World) (v:Value) (l:List Nat):Prop:=
  ∃ a c,v=.slice a l.length c∧l.length≤c∧∀ (i x:Nat),l[i]?=some x→x < 256∧∃ X o,a=some ⟨X,o,none⟩∧w.cell? ⟨X,o+i,none⟩=some (.int .u8 x)
def zJx (w:World) (v:Value) (l:List (Int × List Nat)):Prop:=
  ∃ a c,v=.slice a l.length c∧l.length≤c∧∀ (i:Nat) (x:Int × List Nat),l[i]?=some x→ -9223372036854775808≤x.1∧x.1≤9223372036854775807∧
    ∃ X o v,a=some ⟨X,o,none⟩∧w.cell? ⟨X,o+i*2,none⟩=some (.int .i64 x.1)∧w.cell? ⟨X,o+i*2+1,none⟩=some v∧zCN w v x.2
def zIQ:List zaa→Option Nat
  | [.int .u8 n]=>if 0≤n∧n < 256 then some n.toNat else none
  | _=>none
def zJz (h:zab):List zaa→Option (Int × List Nat)
  | [.int .i64 n,d]=>if -9223372036854775808≤n∧n≤9223372036854775807∧zeo 2 d=true then (zay h 1 d).bind fun ds=>if zeH 1 ds=true then (ds.mapM zIQ).map fun l=>(n,l) else none else none
  | _=>none
def zwL : zJt := ⟨fun _ args h => match args with
  | [x]=>if zeo 2 x=true then (zay h 2 x).bind fun es=>if zeH 2 es=true then (es.mapM (zJz h)).bind fun l=>if l.length≤1000∧(∀ a∈l,a.2.length≤4000) then some (.inl (.str ⟨(zmG l).toArray⟩,h)) else none else none else none
  | _=>none,fun _ _ _=>none⟩
theorem mapM_at {α β:Type} {f:α→Option β} {l:List α} {m:List β} (h:l.mapM f=some m):l.length=m.length∧∀ (i:Nat) (y:β),m[i]?=some y→∃ x,l[i]?=some x∧f x=some y:=by
  induction l generalizing m with
  | nil=>
    simp at h;subst h;simp
  | cons a l ih=>
    simp only [List.mapM_cons,Option.bind_eq_bind,Option.bind_eq_some_iff,Option.pure_def,Option.some.injEq] at h
    obtain ⟨y,hy,m',hm,rfl⟩:=h
    obtain ⟨h1,h2⟩:=ih hm
    refine ⟨by simp [h1],fun i z hz=>?_⟩
    cases i with
    | zero=>simp at hz;subst hz;exact ⟨a,rfl,hy⟩
    | succ i=>simpa using h2 i z (by simpa using hz)
theorem zrp {sz:Nat}:∀ {es:List (List zaa)},(∀ e∈es,e.length=sz)→∀ {i:Nat} {e:List zaa},es[i]?=some e→∀ {j:Nat} {x:zaa},e[j]?=some x→es.flatten[i*sz+j]?=some x
  | [],_,i,e,h,j,x,_=>by simp at h
  | e0 :: es, hl, 0, e, h, j, x, hj => by
    obtain rfl:e0=e:=by simpa using h
    have:=(List.getElem?_eq_some_iff.1 hj).1
    rw [List.flatten_cons,Nat.zero_mul,Nat.zero_add,List.getElem?_append_left this]
    exact hj
  | e0 :: es, hl, i + 1, e, h, j, x, hj => by
    have ih:=zrp (es:=es) (fun e' he'=>hl e' (List.mem_cons_of_mem _ he')) (i:=i) (by simpa using h) hj
    have h0:=hl e0 (by simp)
    rw [List.flatten_cons,List.getElem?_append_right (by rw [h0,Nat.succ_mul];omega)]
    rw [show (i+1)*sz+j - e0.length=i*sz+j by rw [h0,Nat.succ_mul];omega]
    exact ih
section
variable {C:Ctx} {s:St}
theorem zzF (hs:Sim C s) {d:zaa} {cd:Value} {ds:List (List zaa)} {l:List Nat} (hd:Rep s d cd) (he:zay s.h 1 d=some ds) (hz:zeH 1 ds=true) (hst:zeo 2 d=true) (hm:ds.mapM zIQ=some l):zCN s.w cd l:=by
  obtain ⟨hl,hg⟩:=mapM_at hm
  rcases zjN hs hd he hz with ⟨str,rfl,_,_⟩ | ⟨ad,c,rfl,hc,h⟩
  · simp [zeo] at hst
  · refine ⟨ad, c, by rw [hl], by omega, fun i x hx => ?_⟩
    obtain ⟨e,he1,he2⟩:=hg i x hx
    rcases h with ⟨X,o,rfl,hrow,hlen⟩ | rfl
    · unfold zIQ at he2
      split at he2
      · rename_i n
        split at he2
        · rename_i hn
          obtain rfl:=Option.some.inj he2
          have hfl:ds.flatten[i]?=some (.int .u8 n):=by
            have:=zrp hlen (i:=i) (e:=[.int .u8 n]) he1 (j:=0) (x:=.int .u8 n) rfl
            simpa using this
          obtain ⟨_,v,h1,h2⟩:=hrow i _ hfl
          obtain rfl:=zp5 h2
          refine ⟨by omega,X,o,rfl,?_⟩
          rw [Int.toNat_of_nonneg hn.1]
          exact h1
        · simp at he2
      · simp at he2
    · simp at he1
theorem zMJ (hs:Sim C s) {x:zaa} {cx:Value} {es:List (List zaa)} {l:List (Int × List Nat)} (hx:Rep s x cx) (he:zay s.h 2 x=some es) (hz:zeH 2 es=true) (hst:zeo 2 x=true) (hm:es.mapM (zJz s.h)=some l):zJx s.w cx l:=by
  obtain ⟨hl,hg⟩:=mapM_at hm
  rcases zjN hs hx he hz with ⟨str,rfl,_,_⟩ | ⟨ad,c,rfl,hc,h⟩
  · simp [zeo] at hst
  · refine ⟨ad, c, by rw [hl], by omega, fun i y hy => ?_⟩
    obtain ⟨e,he1,he2⟩:=hg i y hy
    rcases h with ⟨X,o,rfl,hrow,hlen⟩ | rfl
    · unfold zJz at he2
      split at he2
      · rename_i n d
        split at he2
        · rename_i hn
          obtain ⟨ds,hd1,he2⟩:=Option.bind_eq_some_iff.1 he2
          split at he2
          · rename_i hzd
            obtain ⟨m,hm2,rfl⟩:=Option.map_eq_some_iff.1 he2
            have f0:=zrp hlen (i:=i) he1 (j:=0) (x:=.int .i64 n) rfl
            have f1:=zrp hlen (i:=i) he1 (j:=1) (x:=d) rfl
            obtain ⟨_,v0,h1,h2⟩:=hrow _ _ f0
            obtain ⟨_,v1,h3,h4⟩:=hrow _ _ f1
            obtain rfl:=zp5 h2
            exact ⟨hn.1,hn.2.1,X,o,v1,rfl,by simpa [World.at] using h1,by simpa [World.at,Nat.add_assoc] using h3,zzF hs h4 hd1 hzd hn.2.2 hm2⟩
          · simp at he2
        · simp at he2
      · simp at he2
    · simp at he1
end
theorem zML {C : Ctx} {P : Program} {s : St} (hs : Sim C s) {name : String} {g : Nat} {k : IntKind} {zs : List Int} (hg : P.globalNamed name = some g) (hc : C.glob g = some (zs.map fun z => .int k z)) : Lib.TabIs P s.w name k zs := by
  obtain ⟨hr,vs,e,fz,hh,hsz⟩:=hs.glob g _ hc
  unfold Lib.TabIs World.var?
  rw [hg]
  simp only [Option.bind_some,hh,Option.some.injEq]
  apply Array.ext_getElem?
  intro i
  by_cases hi:i < zs.length
  · obtain ⟨v, h1, _, _, h2⟩ := hr.get i (.int k zs[i]) (by simp [hi])
    obtain rfl:=zp5 h2
    have:vs[i]?=some (Value.int k zs[i]):=by
      have h1':s.w.cell? ⟨g,0+i,none⟩=some (Value.int k zs[i]):=h1
      simpa [World.cell?,hh] using h1'
    rw [this];simp [hi]
  · rw [Array.getElem?_eq_none (by rw [hsz];simp;omega),Array.getElem?_eq_none (by simp;omega)]
theorem zCT {L:Lim} {args:List zaa} {h:zab} {q:FuncId × List zaa × zab}:zwL.pre L args h≠some (.inr q):=by
  unfold zwL
  simp only
  split
  · split
    · intro e
      obtain ⟨es,_,e⟩:=Option.bind_eq_some_iff.1 e
      split at e
      · obtain ⟨l,_,e⟩:=Option.bind_eq_some_iff.1 e
        split at e <;> simp at e
      · simp at e
    · simp
  · simp
theorem zGu {C:Ctx} {P:Program} {f:FuncId} {fn:Func} {g:Nat} (hf:P.funcs[f]?=some fn) (hb:fn.body.isSome=true) (hn:fn.name≠ "runtime.NumGoroutine")
    (hg:P.globalNamed "internal/strconv.uint64pow10"=some g) (hc:C.glob g=some (Lib.pow10Tab.map fun z=>.int .u64 z))
    (hw:∀ (l:List (Int × List Nat)) (v:Value) (w:World),zJx w v l→l.length≤1000→(∀ x∈l,x.2.length≤4000)→Lib.TabIs P w "internal/strconv.uint64pow10" .u64 Lib.pow10Tab→Calls P f #[v] w fun e w'=>e=.returned (.string ⟨(zmG l).toArray⟩)∧Below w.heap.size w w')
    {L:Lim} {args:List zaa} {h:zab} {v:zaa} {h':zab} (hp:zwL.pre L args h=some (.inl (v,h'))):zeh C P L f args h v h':=by
  obtain ⟨x,hb⟩:=Option.isSome_iff_exists.1 hb
  unfold zwL at hp
  simp only at hp
  split at hp
  · rename_i a
    split at hp
    · rename_i hst
      obtain ⟨es,he,hp⟩:=Option.bind_eq_some_iff.1 hp
      split at hp
      · rename_i hz
        obtain ⟨l,hm,hp⟩:=Option.bind_eq_some_iff.1 hp
        split at hp
        · rename_i hlim
          simp only [Option.some.injEq,Sum.inl.injEq,Prod.mk.injEq] at hp
          obtain ⟨rfl,rfl⟩:=hp
          refine ⟨zim.refl L h,fun s cargs hh hs hL hrep=>?_⟩
          subst hh
          obtain ⟨cx,rfl,hx⟩:∃ cx,cargs=#[cx]∧Rep s a cx:=by
            obtain ⟨c⟩:=cargs
            simp only at hrep
            cases hrep with
            | cons _ y _ ys h1 h2=>cases h2;exact ⟨y,rfl,h1⟩
          refine ⟨.enter f _,s.w,zoQ hf hb hn _ _,.inr ⟨f,_,rfl,?_⟩⟩
          refine (hw l cx s.w (zMJ hs hx he hz hst hm) hlim.1 hlim.2 (zML hs hg hc)).mono fun e w' hq=>?_
          obtain ⟨rfl,hb⟩:=hq
          exact Good.ext hs ⟨hb.os,hb.tape,hb.output,hb.size,hb.block⟩ (.str _)
        · simp at hp
      · simp at hp
    · simp at hp
  · simp at hp
end Go.Av
namespace Go.Av
structure Cl where
  d:Nat
  t:Nat
  n:Nat
  b:List Nat
inductive StS where
  | done
  | err (c:Nat)
  | call (x:Cl) (r:List Nat)
def zoq (l:List Nat) (n:Nat):StS:=match l with
  | []=>.done
  | d :: r => if n = 200 then .err 9 else
    if d=0 then match r with
      | t :: lo :: hi :: q=>if q.length < lo+256*hi then .err 2 else .call ⟨0,t,0,q.take (lo+256*hi)⟩ (q.drop (lo+256*hi))
      | _=>.err 2
    else if d=1∨d=2 then match r with
      | lo :: hi :: q=>.call ⟨d,0,lo+256*hi,[]⟩ q
      | _=>.err 2
    else if d=3∨d=4 then .call ⟨d,0,0,[]⟩ r
    else .err 5
def zve:Nat→List Nat→List Cl→Nat ⊕ List Cl
  | 0,_,acc=>.inr acc
  | f + 1, l, acc => match zoq l acc.length with
    | .done=>.inr acc
    | .err c=>.inl c
    | .call x r=>zve f r (acc++[x])
def zJE (l:List Nat):Nat ⊕ (Nat × List Nat × List Cl):=match l with
  | b :: lo :: hi :: q => if q.length < lo + 256 * hi then .inl 2 else
    match zve (q.length+1) (q.drop (lo+256*hi)) [] with
    | .inl c=>.inl c
    | .inr cs=>.inr (b,q.take (lo+256*hi),cs)
  | _=>.inl 2
end Go.Av
namespace Go.Av
open Go.RowKit
def nI (l:List Nat):List Int:=l.map fun x:Nat=>(x:Int)
def clA (x:Cl):List zaa:=[.int .i64 (x.d:Int),.int .i64 (x.t:Int),.int .i64 (x.n:Int),.vsl false (eI .u8 (nI x.b))]
def zSc:Nat ⊕ (Nat × List Nat × List Cl)→zaa
  | .inl c=>.tup [.agg [.int .i64 0,.vsl false [],.vsl false []],.int .i64 (c:Int)]
  | .inr (b,p,cs)=>.tup [.agg [.int .i64 (b:Int),.vsl false (eI .u8 (nI p)),.vsl false (cs.map clA)],.int .i64 0]
def OBx (B:Nat) (w:World) (a:Option Addr) (c:Nat) (l:List Nat):Prop:=
  l.length≤c∧(a=none→c=0)∧∀ (i x:Nat),l[i]?=some x→x < 256∧∃ X o,a=some ⟨X,o,none⟩∧X < B∧w.cell? ⟨X,o+i,none⟩=some (.int .u8 x)
def NBx (T:TypeId) (B:Nat) (w:World) (v:Value) (l:List Nat):Prop:=
  ∃ a c,v=.slice a l.length c∧l.length≤c∧(a=none→c=0)∧∀ (i x:Nat),l[i]?=some x→x < 256∧∃ X o,a=some ⟨X,o,none⟩∧B≤X∧∃ (cs:Array Value) (fz:Nat × Nat),w.heap[X]?=some (Obj.cells cs T fz)∧cs[o+i]?=some (.int .u8 x)
def zJH (p:Cl × Value):List Value:=[.int .i64 (p.1.d:Int),.int .i64 (p.1.t:Int),.int .i64 (p.1.n:Int),p.2]
def zJI (T TC:TypeId) (w:World) (r:Nat ⊕ (Nat × List Nat × List Cl)) (e:Ending) (w':World):Prop:=Below w.heap.size w w'∧match r with
  | .inl c=>e=.returned (.tuple #[.agg #[.int .i64 0,.slice none 0 0,.slice none 0 0],.int .i64 (c:Int)])
  | .inr (bk,pat,cl)=>∃ (pv cv:Value) (cs:List (Cl × Value)),e=.returned (.tuple #[.agg #[.int .i64 (bk:Int),pv,cv],.int .i64 0])∧NBx T w.heap.size w' pv pat∧cs.map (·.1)=cl∧w'.ownsRow w.heap.size TC 4 cv cs.length (cs.flatMap zJH)∧∀ p∈cs,NBx T w.heap.size w' p.2 p.1.b
section
variable {C:Ctx} {s:St}
theorem zQy (hs:Sim C s) {d:zaa} {cd:Value} {ds:List (List zaa)} {l:List Nat} (hd:Rep s d cd) (he:zay s.h 1 d=some ds) (hz:zeH 1 ds=true) (hst:zeo 2 d=true) (hm:ds.mapM zIQ=some l):
    ∃ a c,cd=.slice a l.length c∧OBx s.w.heap.size s.w a c l:=by
  obtain ⟨a,c,rfl,h1,h2⟩:=zzF hs hd he hz hst hm
  refine ⟨a,c,rfl,h1,fun e=>?_,fun i x hx=>?_⟩
  · subst e
    have hk : ∀ n c, Rep s d (.slice none n c) → c = 0 := fun n c hd => by
      cases hd with
      | vsl0 _ _ _ _ h=>exact h rfl
      | nsl=>rfl
    exact hk _ _ hd
  · obtain ⟨k1,X,o,rfl,k2⟩:=h2 i x hx
    exact ⟨k1,X,o,rfl,zCc (o:=o+i) k2,k2⟩
end
end Go.Av
namespace Go.Av
end Go.Av
namespace Go.Av
def zrw (P:Program) (t:TypeId) (name:String) (f:FuncId) (off:Nat):Bool:=
  match P.info? t with
  | some i => match i.methods.find? (·.name == name) with
    | some m => match m.path.toList, m.func with
      | [s], some (g, pr) => !s.deref && g == f && pr && (match P.underlying s.struct with
        | some (.struct fields) => (match fields[s.index]? with
          | some fd=>fd.offset==off&&szT P fd.type==some 1&&zww P fd.type==some false&&(match P.underlying fd.type with | some (.pointer _)=>true | _=>false)
          | none=>false)
        | _=>false)
      | _,_=>false
    | none=>false
  | none=>false
theorem zDU {P:Program} {t:TypeId} {name:String} {f:FuncId} {off:Nat} (hm:zrw P t name f off=true) (n:Nat) {s:St} {v:zaa} {cv:Value} {r:zaa} (hr:Rep s v cv) (hf:zcr [(off,1,false)] v=some r) (w:World):
    ∃ cr,(method (n+1) t cv name).run P w=.ok (f,cr) w∧Rep s r cr:=by
  unfold zrw at hm
  split at hm
  · rename_i i hi
    split at hm
    · rename_i m hfi
      split at hm
      · rename_i st g pr hp hg
        simp only [Bool.and_eq_true,Bool.not_eq_true',beq_iff_eq] at hm
        obtain ⟨⟨⟨h1,rfl⟩,rfl⟩,h2⟩:=hm
        split at h2
        · rename_i fields hu
          split at h2
          · rename_i fd hfd
            simp only [Bool.and_eq_true,beq_iff_eq] at h2
            obtain ⟨⟨⟨rfl,hz⟩,ha⟩,h3⟩:=h2
            split at h3
            · rename_i el hel
              cases v with
              | agg cs=>
                simp only [zcr] at hf
                obtain ⟨r',hr1,hr2⟩:=Option.bind_eq_some_iff.1 hf
                obtain rfl:r'=r:=Option.some.inj hr2
                cases hr with
                | agg _ vs hrl hk=>
                  obtain ⟨cr,e1,e2⟩:=zvw (P:=P) hz ha hrl hk hr1 w
                  refine ⟨cr,?_,e2⟩
                  unfold method
                  rw [Sem.run_bind,run_typeInfo w hi]
                  simp only [Result.andThen,hfi,hp,follow,hg,h1]
                  simp only [Sem.run_bind,run_underlying hu,Result.andThen_ok,hfd,Bool.false_eq_true,if_false,e1,Sem.run_pure,receiverAt,run_underlying hel,Place.get]
              | _=>simp [zcr] at hf
            · cases h3
          · cases h2
        · cases h2
      · cases hm
    · cases hm
  · cases hm
end Go.Av
namespace Go.Av
open Go.RowKit
section
variable {C:Ctx} {s:St}
def St.pushX (s:St) (w':World) (g:Nat) (cs:List zaa):St:={s with w:=w',h:=push s.h cs,mb:=s.mb++[g]}
theorem zvC (hs:Sim C s) {w':World} {g:Nat} {cs:List zaa}:∀ (b X:Nat),(s.pushX w' g cs).mb[b]?=some X→(s.mb[b]?=some X)∨(b=s.mb.length∧X=g):=by
  intro b X hb
  simp only [St.pushX] at hb
  rw [List.getElem?_append] at hb
  split at hb
  · exact .inl hb
  · rename_i hlt
    right
    have h0:b - s.mb.length=0:=by
      have:=(List.getElem?_eq_some_iff.1 hb).1
      simp at this;omega
    rw [h0] at hb
    simp at hb
    exact ⟨by omega,hb.symm⟩
theorem zz9 (hs:Sim C s) {w':World} (hy:Ext s.w w') {g:Nat} (hg:s.w.heap.size≤g) (cs:List zaa):Le s (s.pushX w' g cs):=by
  have hX:=zvC hs (w':=w') (g:=g) (cs:=cs)
  refine ⟨rfl, rfl, fun X vs' e' fz hx => ?_, fun X o v hi hv => ?_, fun b X hb => ?_, fun t m ht => ⟨m, ht, Nat.le_refl _, fun _ => rfl⟩,
    ⟨hy.os,hy.tape,hy.out,hy.size,fun X hXl ht=>?_,fun X hXl _=>hy.heap X hXl⟩⟩
  · have hlt:=(Array.getElem?_eq_some_iff.1 hx).1
    exact ⟨vs',fz,(hy.heap X hlt).trans hx,rfl,fun _ _ h=>h⟩
  · have hlt:=zCc hv
    refine ⟨⟨fun b hb hX'=>?_,hi.2⟩,(zef o (hy.heap X hlt)).trans hv⟩
    rcases hX b X hX' with h | ⟨_,h⟩
    · have hd:=hi.1 b hb h
      simp only [St.pushX,push]
      rw [List.getElem?_append_left (List.getElem?_eq_some_iff.1 hd).1]
      exact hd
    · omega
  · simp only [St.pushX]
    have:=(List.getElem?_eq_some_iff.1 hb).1
    rw [List.getElem?_append_left this]
    exact hb
  · rcases ht with ⟨b,hb⟩ | ⟨t,z,hz⟩
    · rcases hX b X hb with h | ⟨_,h⟩
      · exact .inl ⟨b,h⟩
      · omega
    · exact .inr ⟨t,z,hz⟩
theorem zD9 (hs:Sim C s) {w':World} (hy:Ext s.w w') {g:Nat} (hg:s.w.heap.size≤g) {cs:List zaa} {vs:Array Value} {e:TypeId} (ho:w'.heap[g]?=some (.cells vs e (0,0))) (hlen:cs.length≤vs.size)
    (hc:∀ (i:Nat) (c:zaa),cs[i]?=some c→c.isCell=true∧∃ v,vs[i]?=some v∧Rep (s.pushX w' g cs) c v):
    Sim C (s.pushX w' g cs)∧(s.pushX w' g cs).mb[s.h.blks.length]?=some g:=by
  have hX:=zvC hs (w':=w') (g:=g) (cs:=cs)
  have hl:=zz9 hs hy hg cs
  refine ⟨⟨by simp [St.pushX,push,hs.lb],hs.lt,fun b X cs' hb hc'=>?_,fun b b' X h1 h2 hlt=>?_,hs.injt,fun b t X z hb=>?_,fun t X z h=>Nat.lt_of_lt_of_le (hs.old t X z h) hy.size,fun g cs' h=>(hs.glob g cs' h).le hl⟩,?_⟩
  · rcases hX b X hb with hb' | ⟨rfl,rfl⟩
    · have hlt:=(List.getElem?_eq_some_iff.1 hb').1
      have hc2:s.h.blks[b]?=some cs':=by
        simp only [St.pushX,push] at hc'
        rw [List.getElem?_append_left (by rw [← hs.lb];exact hlt)] at hc'
        exact hc'
      obtain ⟨vs1,e1,fz,q1,q2,q3,q4⟩:=hs.blk b X cs' hb' hc2
      refine ⟨vs1,e1,fz,(hy.heap X (hs.blt hb')).trans q1,q2,q3,fun i c hi=>?_⟩
      obtain ⟨k,v,hv,hr⟩:=q4 i c hi
      exact ⟨k,v,hv,hr.le hl⟩
    · have hc2:cs'=cs:=by
        simp only [St.pushX,push] at hc'
        rw [hs.lb,List.getElem?_append_right (Nat.le_refl _)] at hc'
        simpa using hc'.symm
      subst hc2
      exact ⟨vs,e,(0,0),ho,hlen,.inl rfl,hc⟩
  · rcases hX b X h1 with h1' | ⟨rfl,rfl⟩ <;> rcases hX b' _ h2 with h2' | ⟨rfl,h2'⟩
    · have hd:=hs.injb b b' X h1' h2' hlt
      simp only [St.pushX,push]
      rw [List.getElem?_append_left (List.getElem?_eq_some_iff.1 hd).1]
      exact hd
    · have:=hs.blt h1';omega
    · have:=hs.blt h2';omega
    · omega
  · rcases hX b X hb with hb' | ⟨rfl,rfl⟩
    · exact hs.disj b t X z hb'
    · intro ht
      have:=hs.old t _ z ht
      omega
  · simp only [St.pushX]
    rw [← hs.lb,List.getElem?_append_right (Nat.le_refl _)]
    simp
theorem zEb (hs:Sim C s) {w':World} {g X:Nat} {cs:List zaa} (hX:s.w.heap.size≤X) (hne:X≠g) (o:Nat):Imm (s.pushX w' g cs) X o:=by
  refine ⟨fun b _ hb=>?_,fun t sz n _ ht _=>?_⟩
  · rcases zvC hs b X hb with h | ⟨_,h⟩
    · have:=hs.blt h;omega
    · exact absurd h hne
  · have:=hs.old t _ _ ht;omega
theorem zAb (hs:Sim C s) {w':World} {g:Nat} {cs0:List zaa} {T TC:TypeId} (hT:T≠TC) {vs:Array Value} (ho:w'.heap[g]?=some (.cells vs TC (0,0))) {v:Value} {l:List Nat} (h:NBx T s.w.heap.size w' v l):Rep (s.pushX w' g cs0) (.vsl false (eI .u8 (nI l))) v:=by
  obtain ⟨a,c,rfl,h1,h2,h3⟩:=h
  cases l with
  | nil=>exact .vsl0 false a c (by simp) h2
  | cons x l=>
    obtain ⟨_,X,o,rfl,hX,cs,fz,hc,_⟩:=h3 0 x rfl
    have hne : X ≠ g := fun h => by
      subst h
      rw [hc] at ho
      simp only [Option.some.injEq,Obj.cells.injEq] at ho
      exact hT ho.2.1
    refine .vsl false _ X o 1 c _ (zg1.of_get fun i e he=>?_) (by simp [eI,nI]) h1 (by simp)
    simp only [eI,nI,List.getElem?_map,Option.map_eq_some_iff] at he
    obtain ⟨_,⟨y,hy,rfl⟩,rfl⟩:=he
    obtain ⟨_,X',o',e,_,cs',fz',hc',hy'⟩:=h3 i y hy
    obtain ⟨rfl,rfl⟩:X'=X∧o'=o:=by simpa using e.symm
    refine ⟨rfl,.cons _ _ _ _ (.int .u8 y) ?_ (zEb hs hX hne _) rfl (.int _ _) (.nil _ _)⟩
    simp only [St.pushX,World.at,World.cell?,hc',Option.bind_some,Nat.mul_one]
    exact hy'
end
def zEe (b:Nat):Nat ⊕ (Nat × List Nat × List Cl)→Option (zaa × List zaa)
  | .inr (k,p,c :: cs)=>some (.tup [.agg [.int .i64 (k:Int),.vsl false (eI .u8 (nI p)),.sl b 0 4 (cs.length+1) none],.int .i64 0],((c :: cs).map clA).flatten)
  | _=>none
def zI5 : zJt := ⟨fun _ args h => match args with
  | [x]=>if zeo 2 x=true then (zay h 1 x).bind fun es=>if zeH 1 es=true then (es.mapM zIQ).bind fun l=>if l.length≤100000 then (zEe h.blks.length (zJE l)).map fun r=>.inl (r.1,push h r.2) else none else none else none
  | _=>none,fun _ _ _=>none⟩
theorem zHp {L:Lim} {args:List zaa} {h:zab} {q:FuncId × List zaa × zab}:zI5.pre L args h≠some (.inr q):=by
  unfold zI5
  simp only
  split
  · split
    · intro e
      obtain ⟨es,_,e⟩:=Option.bind_eq_some_iff.1 e
      split at e
      · obtain ⟨l,_,e⟩:=Option.bind_eq_some_iff.1 e
        split at e
        · obtain ⟨r,_,e⟩:=Option.map_eq_some_iff.1 e
          simp at e
        · simp at e
      · simp at e
    · simp
  · simp
theorem zxn:∀ (cs:List (Cl × Value)) (i:Nat) (p:Cl × Value),cs[i]?=some p→∀ (j:Nat) (x:Value),(zJH p)[j]?=some x→(cs.flatMap zJH)[i*4+j]?=some x
  | [],i,p,h,_,_,_=>by simp at h
  | q :: cs, 0, p, h, j, x, hj => by
    obtain rfl:q=p:=by simpa using h
    have hj4:j < 4:=(List.getElem?_eq_some_iff.1 hj).1
    rw [List.flatMap_cons,Nat.zero_mul,Nat.zero_add,List.getElem?_append_left (by simpa [zJH] using hj4)]
    exact hj
  | q :: cs, i + 1, p, h, j, x, hj => by
    have hq:(zJH q).length=4:=rfl
    rw [List.flatMap_cons,List.getElem?_append_right (by rw [hq];omega),show (i+1)*4+j - (zJH q).length=i*4+j by rw [hq];omega]
    exact zxn cs i p (by simpa using h) j x hj
theorem zAd:∀ (cs:List Cl) (k:Nat) (c:zaa),((cs.map clA).flatten)[k]?=some c→∃ (i j:Nat) (p:Cl),k=i*4+j∧j < 4∧cs[i]?=some p∧(clA p)[j]?=some c
  | [],k,c,h=>by simp at h
  | q :: cs, k, c, h => by
    have hq:(clA q).length=4:=rfl
    rw [List.map_cons,List.flatten_cons] at h
    by_cases hk:k < 4
    · rw [List.getElem?_append_left (by rw [hq]; exact hk)] at h
      exact ⟨0,k,q,by omega,hk,rfl,h⟩
    · rw [List.getElem?_append_right (by rw [hq]; omega), hq] at h
      obtain ⟨i,j,p,h1,h2,h3,h4⟩:=zAd cs (k - 4) c h
      exact ⟨i+1,j,p,by omega,h2,by simpa using h3,h4⟩
theorem zxo (cs:List Cl):((cs.map clA).flatten).length=cs.length*4:=by
  induction cs with
  | nil=>rfl
  | cons q cs ih=>rw [List.map_cons,List.flatten_cons,List.length_append,ih,List.length_cons];simp [clA];omega
theorem zKx {C:Ctx} {P:Program} {f:FuncId} {fn:Func} {T TC:TypeId} (hT:T≠TC) (hf:P.funcs[f]?=some fn) (hb:fn.body.isSome=true) (hn:fn.name≠ "runtime.NumGoroutine")
    (hw:∀ (a:Option Addr) (c n:Nat) (l:List Nat) (w:World),n=l.length→OBx w.heap.size w a c l→l.length≤100000→Calls P f #[.slice a n c] w (zJI T TC w (zJE l)))
    {L:Lim} {args:List zaa} {h:zab} {v:zaa} {h':zab} (hp:zI5.pre L args h=some (.inl (v,h'))):zeh C P L f args h v h':=by
  obtain ⟨x,hb⟩:=Option.isSome_iff_exists.1 hb
  unfold zI5 at hp
  simp only at hp
  split at hp
  · rename_i a
    split at hp
    · rename_i hst
      obtain ⟨es,he,hp⟩:=Option.bind_eq_some_iff.1 hp
      split at hp
      · rename_i hz
        obtain ⟨l,hm,hp⟩:=Option.bind_eq_some_iff.1 hp
        split at hp
        · rename_i hlim
          obtain ⟨r,hr,hp⟩:=Option.map_eq_some_iff.1 hp
          simp only [Sum.inl.injEq,Prod.mk.injEq] at hp
          obtain ⟨rfl,rfl⟩:=hp
          refine ⟨zim.push L h _,fun s cargs hh hs hL hrep=>?_⟩
          subst hh
          obtain ⟨cx,rfl,hx⟩:∃ cx,cargs=#[cx]∧Rep s a cx:=by
            obtain ⟨c⟩:=cargs
            simp only at hrep
            cases hrep with
            | cons _ y _ ys h1 h2=>cases h2;exact ⟨y,rfl,h1⟩
          obtain ⟨ad,c,rfl,hob⟩:=zQy hs hx he hz hst hm
          refine ⟨.enter f _,s.w,zoQ hf hb hn _ _,.inr ⟨f,_,rfl,?_⟩⟩
          refine (hw ad c l.length l s.w rfl hob hlim).mono fun e w' hq=>?_
          generalize zJE l=d at hq hr
          obtain ⟨hb,hq⟩:=hq
          rcases d with c | ⟨bk,pat,cl⟩
          · simp [zEe] at hr
          · obtain ⟨pv,cv,cs,rfl,h1,rfl,h2,h3⟩:=hq
            obtain ⟨p0,cs,rfl⟩:∃ p0 cs',cs=p0 :: cs':=by
              cases cs with
              | nil=>simp [zEe] at hr
              | cons p0 cs=>exact ⟨p0,cs,rfl⟩
            obtain ⟨_,⟨rfl,h0⟩ | ⟨g,cap,cur,rfl,hg,ho,hc,hm2,hsz,ht⟩⟩:=h2
            · simp at h0
            · have hy:Ext s.w w':=⟨hb.os,hb.tape,hb.output,hb.size,hb.block⟩
              simp only [List.map_cons,zEe,Option.some.injEq] at hr
              subst hr
              generalize hall:p0 :: cs=ps at*
              have hmap:(clA p0.1 :: (cs.map (·.1)).map clA)=(ps.map (·.1)).map clA:=by rw [← hall];rfl
              have hln:cs.length+1=ps.length:=by rw [← hall];rfl
              rw [hmap]
              simp only [List.length_map,hln]
              have hfl:=zxo (ps.map (·.1))
              rw [List.length_map] at hfl
              have key := zD9 hs hy hg (cs := ((ps.map (·.1)).map clA).flatten) ho (by rw [hfl, hsz]; exact Nat.mul_le_mul_right 4 hc) (fun k cc hk => by
                obtain ⟨i,j,q,rfl,hj4,hi,hj⟩:=zAd _ k cc hk
                rw [List.getElem?_map,Option.map_eq_some_iff] at hi
                obtain ⟨p,hp,rfl⟩:=hi
                have hil:=(List.getElem?_eq_some_iff.1 hp).1
                have hcell : ∀ (x : Value), (zJH p)[j]? = some x → cur[i * 4 + j]? = some x := fun x hx => by
                  have h4:=zxn ps i p hp j x hx
                  rw [← ht,List.getElem?_take_of_lt (by omega)] at h4
                  simpa using h4
                have hrr:=zAb hs hT ho (cs0:=((ps.map (·.1)).map clA).flatten) (h3 p (List.mem_of_getElem? hp))
                match j,hj,hcell with
                | 0,hj,hcell=>obtain rfl:=Option.some.inj hj;exact ⟨rfl,_,hcell _ rfl,.int _ _⟩
                | 1,hj,hcell=>obtain rfl:=Option.some.inj hj;exact ⟨rfl,_,hcell _ rfl,.int _ _⟩
                | 2,hj,hcell=>obtain rfl:=Option.some.inj hj;exact ⟨rfl,_,hcell _ rfl,.int _ _⟩
                | 3,hj,hcell=>obtain rfl:=Option.some.inj hj;exact ⟨rfl,_,hcell _ rfl,hrr⟩)
              refine ⟨_,rfl,rfl,key.1,zz9 hs hy hg _,?_⟩
              refine .tup _ _ (.cons _ _ _ _ (.agg _ _ (.cons _ _ _ _ (.int _ _) (.cons _ _ _ _ (zAb hs hT ho h1) (.cons _ _ _ _ (.sl _ 0 4 _ cap g none key.2 hc (by simp) (fun _=>⟨cur,TC,(0,0),ho,by rw [hsz];omega⟩)) .nil))) (by simp [zaa.isCell])) (.cons _ _ _ _ (.int _ _) .nil))
        · simp at hp
      · simp at hp
    · simp at hp
  · simp at hp
end Go.Av
