/- More equations: copies, carries, lists of words, what is done once. -/
import Derived.Test.YtbofkfgfnaigkaaGreatDoorV5
import Derived.ChangeKeysEq
import Derived.Laws.Externs
import Derived.Laws.Pointers
set_option linter.unusedSimpArgs false
set_option linter.unusedVariables false
namespace Go.Av
def zzV (P:Program) (t:TypeId) (name:String) (f:FuncId):Bool:=
  match P.info? t with
  | some i => match i.methods.find? (·.name == name) with
    | some m => m.path.isEmpty && (match m.func, P.underlying t with
      | some (g,pr),some d=>g==f&&(match d with | .pointer _=>pr | _=>!pr)
      | _,_=>false)
    | none=>false
  | none=>false
theorem zNE {P:Program} {t:TypeId} {name:String} {f:FuncId} (hm:zzV P t name f=true) (n:Nat) (v:Value) (w:World):(method (n+1) t v name).run P w=.ok (f,v) w:=by
  unfold zzV at hm
  split at hm
  · rename_i i hi
    split at hm
    · rename_i m hf
      simp only [Bool.and_eq_true] at hm
      obtain ⟨h1,h2⟩:=hm
      split at h2
      · rename_i g pr d hg hd
        simp only [Bool.and_eq_true,beq_iff_eq] at h2
        obtain ⟨rfl,h3⟩:=h2
        have hp:m.path.toList=[]:=by simpa using h1
        have hu:(underlying t).run P w=.ok d w:=run_underlying hd w
        unfold method
        rw [Sem.run_bind,run_typeInfo w hi]
        simp only [Result.andThen,hf,hp,follow,hg]
        simp only [Sem.run_bind,Sem.run_pure,Result.andThen,receiverAt,hu]
        cases d <;> simp at h3 <;> subst h3 <;> simp [Place.get,Sem.run_pure]
      · cases h2
    · cases hm
  · cases hm
noncomputable section
variable (C:Ctx) (L:Lim) (fr:Fr) (h:zab)
def zQ1 (m:Option (List (Nat × Nat × Bool) × FuncId)) (v:zaa) (as:List zaa):Option (zaa × zab):=match m with
  | some (path, f) => match zgI path v with
    | some r=>zag C L f (r :: as) h
    | none=>none
  | none=>none
@[simp] theorem zUq (f:FuncId) (v:zaa) (as:List zaa):zQ1 C L h (some ([],f)) v as=zag C L f (v :: as) h:=rfl
def zXY (x:zaa) (name:String) (as:List zaa):Option (zaa × zab):=match x with
  | .iface t v=>zQ1 C L h (C.meth t name) v as
  | _=>none
@[simp] theorem zSo (t:TypeId) (v:zaa) (name:String) (as:List zaa):zXY C L h (.iface t v) name as=zQ1 C L h (C.meth t name) v as:=rfl
@[simp] theorem zUs (x:AO) (name:String) (as:List AO):ziu C L (.inv x name as) fr h=zXY C L h (C.ev fr x) name (as.map (C.ev fr)):=by
  rw [ziu.eq_def];rfl
end
def putAt {α:Type} (l:List α) (off:Nat) (m:List α):List α:=l.take off++(m++l.drop (off+m.length))
theorem zwA {α:Type} (l:List α) (off:Nat) (m:List α) (h:off+m.length≤l.length):(putAt l off m).length=l.length:=by
  simp [putAt];omega
theorem zBX:∀ (cs old rest pre:List zaa),old.length=cs.length→setAt (pre++(old++rest)) pre.length cs=pre++(cs++rest)
  | [],old,rest,pre,h=>by cases old with | nil=>simp [setAt] | cons a l=>simp at h
  | c :: cs,[],rest,pre,h=>by simp at h
  | c :: cs, a :: l, rest, pre, h => by
    have:=zBX cs l rest (pre++[c]) (by simpa using h)
    simp only [setAt]
    rw [List.set_append_right _ _ (Nat.le_refl _),Nat.sub_self]
    simpa using this
theorem ztu (l:List zaa) (off:Nat) (m:List zaa) (h:off+m.length≤l.length):setAt l off m=putAt l off m:=by
  have h1:l=l.take off++((l.drop off).take m.length++l.drop (off+m.length)):=by
    rw [← List.drop_drop,List.take_append_drop,List.take_append_drop]
  have h2:=zBX m ((l.drop off).take m.length) (l.drop (off+m.length)) (l.take off) (by simp;omega)
  rw [← h1,List.length_take,Nat.min_eq_left (by omega)] at h2
  exact h2
theorem zFn (k:IntKind) (l:List Int) (off:Nat) (m:List Int) (h:off+m.length≤l.length):setAt (cI k l) off (cI k m)=cI k (putAt l off m):=by
  rw [ztu _ _ _ (by simpa using h)]
  simp [putAt,cI]
def zxI (L:Lim) (h:zab) (sz:Nat) (x y:zaa):Option (zaa × zab):=(zaK h sz y).bind fun es=>
  if zh1 sz es=true∧zlT sz y=true then (match x with
    | .sl b off s n _=>if s=sz then (zc2 L h (.ptr b off) (es.take (min es.length n)).flatten).map fun h=>(.int .i64 ((min es.length n:Nat):Int),h) else none
    | _=>none) else none
@[simp] theorem zUu (C:Ctx) (L:Lim) (fr:Fr) (h:zab) (sz:Nat) (x y:AO):zkM C L fr h (.copy sz x y)=zxI L h sz (C.ev fr x) (C.ev fr y):=by
  simp only [zkM,zxI,bind]
  congr 1
@[simp] theorem ztv (y:zaa):zlT 1 y=true:=by cases y <;> rfl
theorem zBY (k : IntKind) (l : List Int) : zap 0 0 (cI k l) = true := zvY fun c hc => by
  simp only [cI,List.mem_map] at hc;obtain ⟨x,_,rfl⟩:=hc;rfl
attribute [simp] zBY
theorem zKl (L:Lim) (h:zab) (bs:List (List zaa)) (ts:List Nat) (i off n:Nat) (cap:Option Nat) (k:IntKind) (l m:List Int) (y:zaa) (hy:zaK (hx h bs ts) 1 y=some (eI k l)) (hb:bs[i]?=some (cI k m))
    (hn:off+min l.length n≤m.length) (hL:L.rob≤h.blks.length):
    zxI L (hx h bs ts) 1 (sA h.blks.length i off 1 n cap) y=some (.int .i64 ((min l.length n:Nat):Int),hx h (bs.set i (cI k (putAt m off (l.take (min l.length n))))) ts):=by
  have e1:((eI k l).take (min l.length n)).flatten=cI k (l.take (min l.length n)):=by
    rw [← zy0];simp [eI]
  have hs:=zah h bs ts L i off (cI k (l.take (min l.length n))) (by simp [hL])
  rw [hb] at hs
  simp only [zvh,zPl] at hs
  rw [decide_eq_true (by simp;omega),zvg,zFn _ _ _ _ (by simp;omega)] at hs
  unfold zxI
  rw [hy]
  simp only [Option.bind_some,zAl,ztv,sA,and_self,if_true,zLj]
  rw [e1]
  simp only [pA] at hs
  rw [hs]
  rfl
theorem zBZ (sz m i len c:Nat) (cap:Option Nat) (kd:IntKind) (h:(decide (c < len)&&decide (len≤cap.getD len))=true):zhU .slc sz (sA m i 0 sz len cap) (some (.int kd (c:Int))) none none=some (sA m i (c*sz) sz (len - c) (cap.map (· - c))):=by
  simp only [Bool.and_eq_true,decide_eq_true_eq] at h
  obtain ⟨h1,h3⟩:=h
  have h0:¬len=c:=by omega
  have h4:c≤len:=by omega
  simp [zhU,sA,zlN,h0,h3,h4]
theorem zB1 (n m i off:Nat):pA (n+m) i off=pA n (m+i) off:=by simp [pA,Nat.add_assoc]
theorem zQ6 (n m i:Nat) (es:List (List zaa)):gA (n+m) i es=gA n (m+i) es:=by simp [gA,Nat.add_assoc]
theorem zKm (L:Lim) (h:zab) (bs:List (List zaa)) (ts:List Nat) (sz:Nat) (c:Bool) (es ys:List (List zaa))
    (hc:(zh1 sz ys&&zh1 sz es&&decide (L.rot≤h.toks.length)&&decide (es.length+ys.length < zam))=true):
    zqX L (hx h bs (ts++gT es)) sz false (gL .nsl h.toks.length ts.length es) (.vsl c ys)=some (gL .nsl h.toks.length ts.length (es++ys),hx h bs (ts++gT (es++ys))):=by
  simp only [Bool.and_eq_true,decide_eq_true_eq] at hc
  have e1:∀ q,hx (hx h [] ts) bs q=hx h bs (ts++q):=fun q=>by simp
  have e2 : ∀ es, gL .nsl (hx h [] ts).toks.length 0 es = gL .nsl h.toks.length ts.length es := fun es => by
    unfold gL;split
    · rfl
    · rw [zaQ,zQ6];rfl
  have:=zw1 L (hx h [] ts) bs sz c es ys (by simp only [Bool.and_eq_true,decide_eq_true_eq,zaQ];exact ⟨⟨⟨hc.1.1.1,hc.1.1.2⟩,by omega⟩,hc.2⟩)
  rw [e1,e1,e2,e2] at this
  exact this
end Go.Av
namespace Go.Av
theorem zKh {C:Ctx} {P:Program} {L:Lim} {f:FuncId} {fn:Func} {e:Array Value→Sem Value} (hf:P.funcs[f]?=some fn) (hname:(fn.name== "runtime.NumGoroutine")=false)
    (hb:fn.body.isNone=true) (hn:Extern.findNext fn=none) (he:Extern.find fn=some e) {args:List zaa} {h:zab} {v:zaa}
    (hr:∀ (s:St) (cargs:Array Value),zcI s args cargs.toList→∃ cv,(e cargs).run P s.w=.ok cv s.w∧Rep s v cv):zh8 C P L f args h v h:=by
  refine ⟨zn3.refl L h,fun s cargs hh hs hL hrep=>?_⟩
  subst hh
  obtain ⟨cv,h1,h2⟩:=hr s cargs hrep
  refine ⟨.value cv,s.w,?_,.inl ⟨cv,.inl rfl,Good.same hs h2⟩⟩
  rw [run_callFunc_extern hf hname hb hn he,h1]
  rfl
def zPa (g : Nat → Nat → Nat → Nat × Nat) : zQZ := ⟨fun _ args h => match args with
  | [.int .u64 x,.int .u64 y,.int .u64 c]=>if (decide (0≤x)&&decide (0≤y)&&decide (0≤c)&&decide (c≤1))=true then some (.inl (.tup [.int .u64 (g x.toNat y.toNat c.toNat).1,.int .u64 (g x.toNat y.toNat c.toNat).2],h)) else none
  | _=>none,fun _ _ _=>none⟩
def zV6 (x y c:Nat):Nat × Nat:=((x+y+c) % 18446744073709551616,(x+y+c) / 18446744073709551616)
def zV7 (x y b:Nat):Nat × Nat:=((x+18446744073709551616 - y - b) % 18446744073709551616,if x < y+b then 1 else 0)
def zUo:zQZ:=zPa zV6
def zSM:zQZ:=zPa zV7
def zEy : Array Value → Sem Value := fun args => do
  let (x,y,b) ← Extern.MathBitsCarry.three "Sub64" args
  pure (Extern.MathBitsCarry.pair ((x+Extern.MathBitsCarry.m64 - y - b) % Extern.MathBitsCarry.m64) (if x < y+b then 1 else 0))
theorem zLK {P:Program} (x y c:Nat) (hc:c≤1) (w:World):
    (add64Entry #[.int .u64 x,.int .u64 y,.int .u64 c]).run P w=.ok (.tuple #[.int .u64 (zV6 x y c).1,.int .u64 (zV6 x y c).2]) w:=by
  have:c=0∨c=1:=by omega
  rcases this with rfl | rfl <;> rfl
theorem zLL {P:Program} (x y b:Nat) (hb:b≤1) (w:World):
    (zEy #[.int .u64 x,.int .u64 y,.int .u64 b]).run P w=.ok (.tuple #[.int .u64 (zV7 x y b).1,.int .u64 (zV7 x y b).2]) w:=by
  have:b=0∨b=1:=by omega
  rcases this with rfl | rfl <;> rfl
theorem zSO {s:St} {a b c:zaa} {vs:Array Value} (h:zcI s [a,b,c] vs.toList):∃ x y z,vs=#[x,y,z]∧Rep s a x∧Rep s b y∧Rep s c z:=by
  obtain ⟨l⟩:=vs
  simp only at h
  cases h with
  | cons _ x _ l1 h1 h=>
    cases h with
    | cons _ y _ l2 h2 h=>
      cases h with
      | cons _ z _ l3 h3 h=>
        cases h
        exact ⟨x,y,z,rfl,h1,h2,h3⟩
theorem zyL {s:St} {k:IntKind} {n:Int} {v:Value} (h:Rep s (.int k n) v):v=.int k n:=by cases h;rfl
theorem zHJ {C:Ctx} {P:Program} {f:FuncId} {fn:Func} {e:Array Value→Sem Value} {g:Nat→Nat→Nat→Nat × Nat} (hf:P.funcs[f]?=some fn) (hname:(fn.name== "runtime.NumGoroutine")=false)
    (hb:fn.body.isNone=true) (hn:Extern.findNext fn=none) (he:Extern.find fn=some e)
    (hr:∀ (x y c:Nat),c≤1→∀ w,(e #[.int .u64 x,.int .u64 y,.int .u64 c]).run P w=.ok (.tuple #[.int .u64 (g x y c).1,.int .u64 (g x y c).2]) w)
    {L:Lim} {args:List zaa} {h:zab} {v:zaa} {h':zab} (hp:(zPa g).pre L args h=some (.inl (v,h'))):zh8 C P L f args h v h':=by
  unfold zPa at hp
  simp only at hp
  split at hp
  · rename_i x y c
    split at hp
    · rename_i hc
      simp only [Bool.and_eq_true,decide_eq_true_eq] at hc
      simp only [Option.some.injEq,Sum.inl.injEq,Prod.mk.injEq] at hp
      obtain ⟨rfl,rfl⟩:=hp
      refine zKh hf hname hb hn he fun s cargs hrep=>?_
      obtain ⟨a,b,d,rfl,h1,h2,h3⟩:=zSO hrep
      obtain rfl:=zyL h1
      obtain rfl:=zyL h2
      obtain rfl:=zyL h3
      refine ⟨_,?_,.tup _ #[.int .u64 (g x.toNat y.toNat c.toNat).1,.int .u64 (g x.toNat y.toNat c.toNat).2] (.cons _ _ _ _ (.int ..) (.cons _ _ _ _ (.int ..) .nil))⟩
      have:=hr x.toNat y.toNat c.toNat (by omega) s.w
      rw [show ((x.toNat:Nat):Int)=x by omega,show ((y.toNat:Nat):Int)=y by omega,show ((c.toNat:Nat):Int)=c by omega] at this
      exact this
    · cases hp
  · cases hp
theorem zEA {g:Nat→Nat→Nat→Nat × Nat} {L:Lim} {args:List zaa} {h:zab} {q:FuncId × List zaa × zab}:(zPa g).pre L args h≠some (.inr q):=by
  unfold zPa
  simp only
  split
  · split <;> simp
  · simp
theorem zHL {C:Ctx} {L:Lim} {f:FuncId} {h:zab} (hx:C.ext f=some zUo) (x y:W64) (c:Nat) (hc:c≤1):
    zag C L f [wd x,wd y,.int .u64 (c:Int)] h=some (.tup [wd (BitVec.ofNat 64 (x.toNat+y.toNat+c)),.int .u64 (((x.toNat+y.toNat+c) / 18446744073709551616:Nat):Int)],h):=by
  rw [zsV C L h hx]
  have:(decide (0≤(x.toNat:Int))&&decide (0≤(y.toNat:Int))&&decide (0≤(c:Int))&&decide ((c:Int)≤1))=true:=by simp;omega
  simp only [zUo,zPa,wd,if_pos this,Option.bind_some,zV6,Int.toNat_natCast,BitVec.toNat_ofNat]
theorem zHM {C:Ctx} {L:Lim} {f:FuncId} {h:zab} (hx:C.ext f=some zSM) (x y:W64) (c:Nat) (hc:c≤1):
    zag C L f [wd x,wd y,.int .u64 (c:Int)] h=some (.tup [wd (BitVec.ofNat 64 (x.toNat+18446744073709551616 - y.toNat - c)),.int .u64 ((if x.toNat < y.toNat+c then 1 else 0:Nat):Int)],h):=by
  rw [zsV C L h hx]
  have:(decide (0≤(x.toNat:Int))&&decide (0≤(y.toNat:Int))&&decide (0≤(c:Int))&&decide ((c:Int)≤1))=true:=by simp;omega
  simp only [zSM,zPa,wd,if_pos this,Option.bind_some,zV7,Int.toNat_natCast,BitVec.toNat_ofNat]
end Go.Av
namespace Go.Av
theorem zEB (h:zab) (bs:List (List zaa)) (ts:List Nat) (nt n i m:Nat) (cap:Option Nat) (k:IntKind) (l:List Int) (hb:bs[i]?=some (cI k l)) (hl:m≤l.length):
    frz (hx h bs ts) h.blks.length nt (n+1) (sA h.blks.length i 0 1 m cap)=some (.vsl false (eI k (l.take m))):=by
  have e1:(hx h bs ts).blks[h.blks.length+i]?=some (cI k l):=zoI ts hb
  have e2:chunks 1 m (cI k l)=eI k (l.take m):=by
    have key:∀ (m:Nat) (l:List Int),m≤l.length→chunks 1 m (cI k l)=eI k (l.take m):=by
      intro m
      induction m with
      | zero=>intro l _;simp [chunks]
      | succ m ih=>
        intro l hl
        cases l with
        | nil=>simp at hl
        | cons x l=>
          have:=ih l (by simpa using hl)
          simp only [chunks,cI,List.map_cons,List.take_succ_cons,List.take_zero,List.drop_succ_cons,List.drop_zero] at this ⊢
          rw [this];rfl
    exact key m l hl
  simp only [sA,frz]
  rw [if_neg (by omega)]
  simp only [zaK,ne_eq,not_true,if_false,e1,Option.bind_some,List.drop_zero]
  rw [if_pos (by simpa using hl),e2]
  simp [zD7]
def zsO (l:List W64):List Int:=l.map fun w=>(w.toNat:Int)
theorem znO (l:List W64):cW l=cI .u64 (zsO l):=by simp [cW,cI,zsO,wd]
theorem zpo (l:List W64):eW l=eI .u64 (zsO l):=by simp [eW,eI,zsO,wd]
@[simp] theorem zVo (l:List W64):(zsO l).length=l.length:=by simp [zsO]
@[simp] theorem zvH (l:List W64) (n:Nat):(zsO l).take n=zsO (l.take n):=by simp [zsO]
@[simp] theorem zPv (l:List W64):zh1 1 (eW l)=true:=by rw [zpo];simp
@[simp] theorem zEE (nb nt:Nat) (l:List W64):zaq nb nt (eW l)=true:=by rw [zpo];simp
@[simp] theorem zXB:eW []=[]:=rfl
theorem zAP (h:zab) (bs:List (List zaa)) (ts:List Nat) (nt n i m:Nat) (cap:Option Nat) (l:List W64) (hb:bs[i]?=some (cW l)) (hl:l.length=m):
    frz (hx h bs ts) h.blks.length nt (n+1) (sA h.blks.length i 0 1 m cap)=some (.vsl false (eW l)):=by
  rw [znO] at hb
  rw [zEB h bs ts nt n i m cap .u64 (zsO l) hb (by simp;omega),zpo,List.take_of_length_le (by simp;omega)]
@[simp] theorem ztW (h:zab) (nb nt n:Nat) (c:Bool) (l:List W64):frz h nb nt (n+1) (.vsl c (eW l))=some (.vsl false (eW l)):=zhq h nb nt n c (by simp)
@[simp] theorem zWz (h:zab) (nb nt n i:Nat) (l:List W64):frz h nb nt (n+1) (gA nt i (eW l))=some (.vsl false (eW l)):=zpp h nb nt n i _ (by simp)
theorem zyP (h:zab) (nb nt n b off sz m:Nat) (cap:Option Nat) (hb:decide (b < nb)=true):frz h nb nt (n+1) (.sl b off sz m cap)=some (.sl b off sz m cap):=by
  simp only [frz]
  rw [if_pos (by simpa using hb)]
theorem zEI (h:zab) (bs:List (List zaa)) (ts:List Nat) (i n:Nat) (cap:Option Nat) (l:List W64) (hb:bs[i]?=some (cW l)) (hl:l.length=n):zaK (hx h bs ts) 1 (sA h.blks.length i 0 1 n cap)=some (eW l):=by
  rw [znO] at hb
  have:=zqE h bs ts i n (cI .u64 (zsO l)) cap hb (by simpa using hl)
  rw [this,zlW,zpo]
@[simp] theorem zvL (h:zab) (sz:Nat) (c:Bool) (es:List (List zaa)):zaK h sz (.vsl c es)=some es:=by simp only [zaK]
def LsW (h:zab) (x:zaa) (l:List W64):Prop:=RdW h x l∧∀ bs ts,zaK (hx h bs ts) 1 x=some (eW l)
theorem LsW.ext {h:zab} {x:zaa} {l:List W64} (hr:LsW h x l) (bs:List (List zaa)) (ts:List Nat):LsW (hx h bs ts) x l:=
  ⟨hr.1.ext bs ts,fun bs' ts'=>by rw [zGd];exact hr.2 _ _⟩
theorem LsW.sA {h:zab} {bs:List (List zaa)} (ts:List Nat) (i n:Nat) (cap:Option Nat) (l:List W64) (hl:l.length=n) (hb:bs[i]?=some (cW l)):LsW (hx h bs ts) (sA h.blks.length i 0 1 n cap) l:=by
  refine ⟨RdW.sA ts i n cap l hl hb,fun bs' ts'=>?_⟩
  rw [zGd]
  exact zEI h (bs++bs') (ts++ts') i n cap l (by rw [List.getElem?_append_left (List.getElem?_eq_some_iff.1 hb).1];exact hb) hl
theorem zC7 (a:zaa) (l:List zaa):zUH 0 (.tup (a :: l))=some a:=rfl
theorem zC8 (a b:zaa) (l:List zaa):zUH 1 (.tup (a :: b :: l))=some b:=rfl
theorem zOG (k:IntKind) (a b:Nat):zu9 true (.int k (a:Int)) [.int k (b:Int)]=some (.int k ((max a b:Nat):Int)):=by
  simp only [zu9,zUv,bind,Option.bind_some]
  by_cases hab:a < b
  · have h1 : ((b : Int) > (a : Int)) := by omega
    simp only [if_true,if_pos h1,show max a b=b by omega]
  · have h1 : ¬ ((b : Int) > (a : Int)) := by omega
    simp only [if_true,if_neg h1,show max a b=a by omega]
theorem zpq (n i off len k:Nat) (cap:Option Nat) (h:decide (k < len)=true):zcP none 1 (sA n i off 1 len cap) (.int .i64 (k:Int))=some (pA n i (off+k)):=by
  have:=ztZ n i off 1 len k cap .i64 h
  rwa [Nat.mul_one] at this
theorem zH8 (h:zab) (bs:List (List zaa)) (ts:List Nat) (i n:Nat) (cap:Option Nat) (k:IntKind) (l:List Int) (hb:bs[i]?=some (cI k l)) (hl:l.length=n):
    fzA (hx h bs ts) (sA h.blks.length i 0 1 n cap)=some (.vsl false (eI k l),true):=by
  have he:=zqE h bs ts i n (cI k l) cap hb (by simpa using hl)
  rw [zlW] at he
  simp only [sA] at he ⊢
  simp only [fzA,he,bind,Option.bind_some]
theorem zAR {m:Mode} {h:zab} {n:Nat} {res:List zBS} {as:List zaa} {r:Option (AEx × Fr × zab)} {v:zaa} {h':zab} (h1:zLD m h n res as false r=some (v,h')) (hv:v.flat=true):zLD m h n res as true r=some (v,h'):=by
  unfold zLD zPO zR2 at h1 ⊢
  cases r with
  | none=>exact h1
  | some r=>
    simp only [Option.bind_some] at h1 ⊢
    split at h1
    · rename_i hc
      rw [if_pos hc]
      cases hr:zwP r.2.1 r.2.2 res with
      | none=>rw [hr] at h1;exact h1
      | some vs=>
        rw [hr] at h1
        simp only [Option.bind_some] at h1 ⊢
        rw [zFZ] at h1
        rw [h1,zAU _ _ hv]
    · cases h1
end Go.Av
namespace Go.Av
def zvN : zQZ := ⟨fun L args h => match args with
  | [.ptr b off, .fn (.func f) first cap] => (h.blks[b]?).bind fun cs => match cs[off]?, cs[off + 1]? with
    | some (.int .u32 d),some (.int .i32 m)=>if d≠0 then some (.inl (.tup [],h)) else if m=0∧L.rob≤b then some (.inr (f,first++cap,{h with blks:=h.blks.set b (setAt cs (off+1) [.int .i32 1])})) else none
    | _,_=>none
  | _=>none,
  fun args _ h=>match args with
  | [.ptr b off, .fn _ _ _] => (h.blks[b]?).bind fun cs => match cs[off]?, cs[off + 1]? with
    | some (.int .u32 d),some (.int .i32 m)=>if d=0∧m=1 then some (.tup [],{h with blks:=h.blks.set b (setAt (setAt cs off [.int .u32 1]) (off+1) [.int .i32 0])}) else none
    | _,_=>none
  | _=>none⟩
structure zIb (P:Program) (D:FuncId):Prop where
  enter:∀ (args:Array Value) (w:World),(callFunc D args).run P w=.ok (.enter D args) w
  first:∀ (b off:Nat) (fi:FuncId) (first cap:Array Value) (w:World) (Q:World→Prop),w.cell? ⟨b,off,none⟩=some (.int .u32 0)→w.cell? ⟨b,off+1,none⟩=some (.int .i32 0)→
    w.frozen? ⟨b,off,none⟩=false→w.frozen? ⟨b,off+1,none⟩=false→
    (∀ (o:Oper) (a:Act) (K:Act→World→Prop) (R:Exit→Act→World→Prop),(∀ cv w2,Q w2→K (a.put o.dst cv) w2)→
      Oper.upon P o a K R (Sem.run P (callFunc fi (first++cap)) (w.setCell ⟨b,off+1,none⟩ (.int .i32 1))))→
    (∀ w2,Q w2→w2.cell? ⟨b,off,none⟩=some (.int .u32 0)∧w2.cell? ⟨b,off+1,none⟩=some (.int .i32 1)∧w2.frozen? ⟨b,off,none⟩=false∧w2.frozen? ⟨b,off+1,none⟩=false)→
    Calls P D #[.pointer (some ⟨b, off, none⟩), .func (.func fi) first cap] w fun e w' => e = .returned (.tuple #[]) ∧
      ∃ w2,Q w2∧w'=(w2.drew.setCell ⟨b,off,none⟩ (.int .u32 1)).setCell ⟨b,off+1,none⟩ (.int .i32 0)
  done:∀ (a:Addr) (d:Int),¬d=0→∀ (fv:Value) (w:World),w.cell? a=some (.int .u32 d)→Calls P D #[.pointer (some a),fv] w fun e w'=>e=.returned (.tuple #[])∧w'=w
section
variable {C:Ctx} {P:Program} {D:FuncId}
theorem cell_of {s:St} (hs:Sim C s) {b X o:Nat} {cs:List zaa} {k:IntKind} {n:Int} (hb:s.mb[b]?=some X) (hc:s.h.blks[b]?=some cs) (ho:cs[o]?=some (.int k n)):
    s.w.cell? ⟨X,o,none⟩=some (.int k n)∧s.w.frozen? ⟨X,o,none⟩=false:=by
  obtain ⟨vs,e,fz,q1,q2,q3,q4⟩:=hs.blk b X cs hb hc
  obtain ⟨_,v,h1,h2⟩:=q4 o _ ho
  obtain rfl:=zyL h2
  have hlt:o < vs.size:=(Array.getElem?_eq_some_iff.1 h1).1
  refine ⟨by simp [World.cell?,q1,h1],?_⟩
  have:=q3.un hlt
  simp only [World.frozen?,q1]
  simp only [Bool.and_eq_false_iff,decide_eq_false_iff_not]
  omega
theorem zOI {s:St} {a b:zaa} {vs:Array Value} (h:zcI s [a,b] vs.toList):∃ x y,vs=#[x,y]∧Rep s a x∧Rep s b y:=by
  obtain ⟨l⟩:=vs
  simp only at h
  cases h with
  | cons _ x _ l1 h1 h=>
    cases h with
    | cons _ y _ l2 h2 h=>
      cases h
      exact ⟨x,y,rfl,h1,h2⟩
theorem zLU (hO:zIb P D) {L:Lim} {args:List zaa} {h:zab} {v:zaa} {h':zab} (hp:zvN.pre L args h=some (.inl (v,h'))):zh8 C P L D args h v h':=by
  unfold zvN at hp
  simp only at hp
  split at hp
  · rename_i b off f first cap
    obtain ⟨cs,hcs,hp⟩:=Option.bind_eq_some_iff.1 hp
    split at hp
    · rename_i d m hd hm
      split at hp
      · rename_i hnz
        simp only [Option.some.injEq,Sum.inl.injEq,Prod.mk.injEq] at hp
        obtain ⟨rfl,rfl⟩:=hp
        refine ⟨zn3.refl L h,fun s cargs hh hs hL hrep=>?_⟩
        subst hh
        obtain ⟨x,y,rfl,h1,h2⟩:=zOI hrep
        cases h1 with
        | ptr _ _ X hX=>
          obtain ⟨c1,c2⟩:=cell_of hs hX hcs hd
          refine ⟨.enter D _,s.w,hO.enter _ _,.inr ⟨D,_,rfl,?_⟩⟩
          refine (hO.done _ d hnz y s.w c1).mono fun e w' he=>?_
          obtain ⟨rfl,rfl⟩:=he
          exact Good.same hs (.tup [] #[] .nil)
      · split at hp <;> simp at hp
    · simp at hp
  · simp at hp
theorem zpr (w:World) (X o:Nat) (v:Value):w.setCells X o [v]=w.setCell ⟨X,o,none⟩ v:=rfl
theorem zLV (hO:zIb P D) {L:Lim} {args:List zaa} {h:zab} {f1:FuncId} {bs:List zaa} {h1:zab} (hp:zvN.pre L args h=some (.inr (f1,bs,h1)))
    {v1:zaa} {h2:zab} {v:zaa} {h':zab} (hk:zh8 C P L f1 bs h1 v1 h2) (hq:zvN.post args v1 h2=some (v,h')):zh8 C P L D args h v h':=by
  unfold zvN at hp hq
  simp only at hp hq
  split at hp
  · rename_i b off f first cap
    obtain ⟨cs,hcs,hp⟩:=Option.bind_eq_some_iff.1 hp
    split at hp
    · rename_i d m hd hm
      split at hp
      · simp at hp
      · rename_i hz
        have hd0:d=0:=by omega
        subst hd0
        split at hp
        · rename_i hmr
          obtain ⟨hm0,hrob⟩:=hmr
          subst hm0
          simp only [Option.some.injEq,Sum.inr.injEq,Prod.mk.injEq] at hp
          obtain ⟨rfl,rfl,rfl⟩:=hp
          simp only at hq
          obtain ⟨cs2,hcs2,hq⟩:=Option.bind_eq_some_iff.1 hq
          split at hq
          · rename_i d2 m2 hd2 hm2
            split at hq
            · rename_i hc2
              obtain ⟨hd2z,hm2z⟩:=hc2
              subst hd2z hm2z
              obtain ⟨rfl,rfl⟩:zaa.tup []=v∧_=h':=by simpa using hq
              have hof1:off+1 < cs.length:=(List.getElem?_eq_some_iff.1 hm).1
              have hof2:off+1 < cs2.length:=(List.getElem?_eq_some_iff.1 hm2).1
              have st1:zc2 L h (.ptr b (off+1)) [.int .i32 1]=some {h with blks:=h.blks.set b (setAt cs (off+1) [.int .i32 1])}:=by
                simp only [zc2,hcs,Option.bind_some]
                rw [if_pos ⟨hrob,by simp;omega,.inr rfl⟩]
              have st2:zc2 L h2 (.ptr b off) [.int .u32 1]=some {h2 with blks:=h2.blks.set b (setAt cs2 off [.int .u32 1])}:=by
                simp only [zc2,hcs2,Option.bind_some]
                rw [if_pos ⟨hrob,by simp;omega,.inr rfl⟩]
              have hblt:b < h2.blks.length:=(List.getElem?_eq_some_iff.1 hcs2).1
              have st3:zc2 L {h2 with blks:=h2.blks.set b (setAt cs2 off [.int .u32 1])} (.ptr b (off+1)) [.int .i32 0]=some {h2 with blks:=h2.blks.set b (setAt (setAt cs2 off [.int .u32 1]) (off+1) [.int .i32 0])}:=by
                simp only [zc2]
                rw [List.getElem?_set_self hblt]
                simp only [Option.bind_some]
                rw [if_pos ⟨hrob,by simp;omega,.inr rfl⟩]
                simp
              refine ⟨((ziW st1).trans hk.1).trans ((ziW st2).trans (ziW st3)),fun s cargs hh hs hL hrep=>?_⟩
              subst hh
              obtain ⟨x,y,rfl,hx,hy⟩:=zOI hrep
              cases hx with
              | ptr _ _ X hX=>
                cases hy with
                | fn _ _ _ fa ca hfa hca=>
                  obtain ⟨c1,z1⟩:=cell_of hs hX hcs hd
                  obtain ⟨c2,z2⟩:=cell_of hs hX hcs hm
                  have hqb:s.qb≤b:=Nat.le_trans hL.b hrob
                  have g1:=zmH (P:=P) hs (off:=off+1) (cs:=[.int .i32 1]) (vs:=[.int .i32 1]) hqb hX hcs (by simp;omega) (.cons _ _ _ _ (.int ..) .nil) (by simp [zaa.isCell])
                  obtain ⟨_,hs1,hl1⟩:=g1
                  rw [zpr] at hs1 hl1
                  refine ⟨.enter D _,s.w,hO.enter _ _,.inr ⟨D,_,rfl,?_⟩⟩
                  let s1:St:={s with w:=s.w.setCell ⟨X,off+1,none⟩ (.int .i32 1),h:={s.h with blks:=s.h.blks.set b (setAt cs (off+1) [.int .i32 1])}}
                  have hs1':Sim C s1:=hs1
                  have hl1':Le s s1:=hl1
                  have hcell:∀ s2:St,s2.h=h2→Sim C s2→Le s1 s2→s2.w.cell? ⟨X,off,none⟩=some (.int .u32 0)∧s2.w.cell? ⟨X,off+1,none⟩=some (.int .i32 1)∧s2.w.frozen? ⟨X,off,none⟩=false∧s2.w.frozen? ⟨X,off+1,none⟩=false:=by
                    intro s2 e2 hs2 hl2
                    have hX2:s2.mb[b]?=some X:=hl2.mb b X (hl1'.mb b X hX)
                    have hb2:s2.h.blks[b]?=some cs2:=by rw [e2];exact hcs2
                    obtain ⟨a1,a2⟩:=cell_of hs2 hX2 hb2 hd2
                    obtain ⟨a3,a4⟩:=cell_of hs2 hX2 hb2 hm2
                    exact ⟨a1,a3,a2,a4⟩
                  refine (hO.first X off f fa ca s.w (fun w2=>∃ s2:St,s2.w=w2∧s2.h=h2∧Sim C s2∧Le s1 s2) c1 c2 z1 z2 ?_ ?_).mono fun e w' he=>?_
                  · intro o a K R hK
                    obtain ⟨nx,w1,hrun,hcase⟩:=hk.2 s1 (fa++ca) rfl hs1' (hL.le hl1' hs hs1') (by rw [Array.toList_append];exact (hfa.le hl1').append (hca.le hl1'))
                    have hrun':(callFunc f (fa++ca)).run P (s.w.setCell ⟨X,off+1,none⟩ (.int .i32 1))=.ok nx w1:=hrun
                    rw [hrun']
                    rcases hcase with ⟨cv,h3,h4⟩ | ⟨f',args',rfl,h3⟩
                    · obtain ⟨s2,e1,e2,e3,e4,e5⟩:=h4
                      rcases h3 with rfl | ⟨rfl,rfl⟩
                      · exact hK _ _ ⟨s2,e1,e2,e3,e4⟩
                      · exact hK _ _ ⟨s2,e1,e2,e3,e4⟩
                    · rw [Oper.upon_enter]
                      refine Calls.mono h3 fun e w'' he=>?_
                      cases e with
                      | returned cv=>
                        obtain ⟨s2,e1,e2,e3,e4,e5⟩:=he
                        exact hK _ _ ⟨s2,e1,e2,e3,e4⟩
                      | panicked _=>exact he.elim
                      | outgrown=>exact he.elim
                  · rintro w2 ⟨s2,rfl,e2,e3,e4⟩
                    exact hcell s2 e2 e3 e4
                  · obtain ⟨rfl,w2,⟨s2,rfl,e2,e3,e4⟩,rfl⟩:=he
                    have hX2:s2.mb[b]?=some X:=e4.mb b X (hl1'.mb b X hX)
                    have hqb2:s2.qb≤b:=by rw [e4.qb,hl1'.qb];exact hqb
                    have hy:Ext s2.w s2.w.drew:=⟨rfl,rfl,rfl,Nat.le_refl _,fun _ _=>rfl⟩
                    have hs3:=zt5 e3 s2.w.drew hy
                    have hl3:=zte s2 s2.w.drew hy
                    have hb2:s2.h.blks[b]?=some cs2:=by rw [e2];exact hcs2
                    have g2:=zmH (P:=P) hs3 (off:=off) (cs:=[.int .u32 1]) (vs:=[.int .u32 1]) hqb2 hX2 hb2 (by simp;omega) (.cons _ _ _ _ (.int ..) .nil) (by simp [zaa.isCell])
                    obtain ⟨_,hs4,hl4⟩:=g2
                    rw [zpr] at hs4 hl4
                    have hblt2:b < s2.h.blks.length:=(List.getElem?_eq_some_iff.1 hb2).1
                    have g3:=zmH (P:=P) hs4 (off:=off+1) (cs:=[.int .i32 0]) (vs:=[.int .i32 0]) hqb2 hX2 (List.getElem?_set_self hblt2) (by simp;omega) (.cons _ _ _ _ (.int ..) .nil) (by simp [zaa.isCell])
                    obtain ⟨_,hs5,hl5⟩:=g3
                    rw [zpr] at hs5 hl5
                    refine ⟨_,rfl,?_,hs5,hl1'.trans (e4.trans (hl3.trans (hl4.trans hl5))),.tup [] #[] .nil⟩
                    simp only [List.set_set,e2,zvG]
            · simp at hq
          · simp at hq
        · simp at hp
    · simp at hp
  · simp at hp
end
end Go.Av
namespace Go.Av
noncomputable section
variable (C:Ctx) (L:Lim) (fr:Fr) (h:zab)
def zL5 (m:Option (List (Nat × Nat × Bool) × FuncId)) (v:zaa) (as:List zaa):Option zaa:=match m with
  | some (path, f) => match zgI path v with
    | some r=>zSw (zac C f) (zag C L f (r :: as) h)
    | none=>none
  | none=>none
@[simp] theorem zS3 (f:FuncId) (v:zaa) (as:List zaa):zL5 C L h (some ([],f)) v as=zSw (zac C f) (zag C L f (v :: as) h):=rfl
def zPN (x:zaa) (name:String) (as:List zaa):Option zaa:=match x with
  | .iface t v=>zL5 C L h (C.meth t name) v as
  | _=>none
@[simp] theorem zPJ (t:TypeId) (v:zaa) (name:String) (as:List zaa):zPN C L h (.iface t v) name as=zL5 C L h (C.meth t name) v as:=rfl
@[simp] theorem zS6 (x:AO) (name:String) (as:List AO):zos C L (.inv x name as) fr h=zPN C L h (C.ev fr x) name (as.map (C.ev fr)):=by
  rw [zos.eq_def]
  simp only [zPN,zL5,zSw]
  generalize C.ev fr x=v
  cases v <;> try rfl
  rename_i t v
  simp only
  cases C.meth t name with
  | none=>rfl
  | some q=>
    simp only
    cases zgI q.1 v with
    | none=>rfl
    | some r=>
      simp only
      split
      · cases zag C L q.2 (r :: as.map (C.ev fr)) h <;> rfl
      · rfl
end
def zW1 (h:zab) (sz:Nat) (zero:List zaa):zaa→zaa→Option (zaa × zab)
  | .int _ n,.int _ m=>if 0≤n∧n≤m∧m < zam then some (.sl h.blks.length 0 sz n.toNat (some m.toNat),push h (rep zero m.toNat)) else none
  | _,_=>none
@[simp] theorem zVJ (C:Ctx) (L:Lim) (fr:Fr) (h:zab) (sz:Nat) (z:List zaa) (x y:AO):zkM C L fr h (.mkc sz z x y)=zW1 h sz z (C.ev fr x) (C.ev fr y):=by
  simp only [zkM]
  cases C.ev fr x <;> cases C.ev fr y <;> rfl
theorem zwg (h:zab) (bs:List (List zaa)) (ts:List Nat) (sz:Nat) (z:List zaa) (k k':IntKind) (m:Int) (hc:(decide (0≤m)&&decide (m < zam))=true):
    zW1 (hx h bs ts) sz z (.int k 0) (.int k' m)=some (sA h.blks.length bs.length 0 sz 0 (some m.toNat),hx h (bs++[rep z m.toNat]) ts):=by
  simp only [Bool.and_eq_true,decide_eq_true_eq] at hc
  unfold zW1
  simp only [if_pos (show (0:Int)≤0∧0≤m∧m < zam from ⟨Int.le_refl _,hc.1,hc.2⟩)]
  simp [sA,hx,push]
theorem zJt (L:Lim) (h:zab) (bs:List (List zaa)) (ts:List Nat) (i off n c:Nat) (k:IntKind) (l m:List Int) (cl:Bool) (hb:bs[i]?=some (cI k l))
    (hm:0 < m.length) (hc:n+m.length≤c) (hl:off+n+m.length≤l.length) (hL:L.rob≤h.blks.length):
    zqX L (hx h bs ts) 1 false (sA h.blks.length i off 1 n (some c)) (.vsl cl (eI k m))=some (sA h.blks.length i off 1 (n+m.length) (some c),hx h (bs.set i (cI k (putAt l (off+n) m))) ts):=by
  have hs:=zah h bs ts L i (off+n) (cI k m) (by simp [hL])
  rw [hb] at hs
  simp only [zvh,zPl] at hs
  rw [decide_eq_true (by omega),zvg,zFn _ _ _ _ (by omega)] at hs
  have hne:¬(c=n∧True):=fun q=>by omega
  simp only [zqX,zvL,Option.bind_some,ztv,if_true,zEp,zAl,sA]
  rw [if_neg hne,if_pos ⟨trivial,by simpa using hc⟩,zy0,Nat.mul_one]
  simp only [pA] at hs
  rw [hs]
  simp
theorem zGs (L:Lim) (h:zab) (bs:List (List zaa)) (ts:List Nat) (i off n c:Nat) (l m:List W64) (cl:Bool) (hb:bs[i]?=some (cW l))
    (hm:0 < m.length) (hc:n+m.length≤c) (hl:off+n+m.length≤l.length) (hL:L.rob≤h.blks.length):
    zqX L (hx h bs ts) 1 false (sA h.blks.length i off 1 n (some c)) (.vsl cl (eW m))=some (sA h.blks.length i off 1 (n+m.length) (some c),hx h (bs.set i (cW (putAt l (off+n) m))) ts):=by
  rw [znO] at hb
  have:=zJt L h bs ts i off n c .u64 (zsO l) (zsO m) cl hb (by simpa using hm) (by simpa using hc) (by simpa using hl) hL
  rw [zpo,this]
  have e:zsO (putAt l (off+n) m)=putAt (zsO l) (off+n) (zsO m):=by simp [putAt,zsO]
  rw [znO,e]
  simp
theorem zxz {C:Ctx} {L:Lim} {f g:FuncId} {h:zab} {bs:List (List zaa)} {ts:List Nat} {i off:Nat} {cs first cap:List zaa} {d m:Int} (hx':C.ext f=some zvN) (hb:bs[i]?=some cs)
    (h1:cs[off]?=some (.int .u32 d)) (h2:cs[off+1]?=some (.int .i32 m)) (hd:d≠0):
    zag C L f [pA h.blks.length i off,.fn (.func g) first cap] (hx h bs ts)=some (.tup [],hx h bs ts):=by
  rw [zsV C L _ hx']
  simp only [zvN,pA,zoI ts hb,Option.bind_some,h1,h2]
  rw [if_pos hd]
  rfl
theorem zwh {C:Ctx} {L:Lim} {f g:FuncId} {h:zab} {bs bs2:List (List zaa)} {ts ts2:List Nat} {i off:Nat} {cs cs2 first cap:List zaa} {v:zaa} (hx':C.ext f=some zvN) (hb:bs[i]?=some cs)
    (h1:cs[off]?=some (.int .u32 0)) (h2:cs[off+1]?=some (.int .i32 0)) (hL:L.rob≤h.blks.length)
    (hg:zag C L g (first++cap) (hx h (bs.set i (cs.set (off+1) (.int .i32 1))) ts)=some (v,hx h bs2 ts2)) (hb2:bs2[i]?=some cs2)
    (h3:cs2[off]?=some (.int .u32 0)) (h4:cs2[off+1]?=some (.int .i32 1)):
    zag C L f [pA h.blks.length i off,.fn (.func g) first cap] (hx h bs ts)=some (.tup [],hx h (bs2.set i ((cs2.set off (.int .u32 1)).set (off+1) (.int .i32 0))) ts2):=by
  rw [zsV C L _ hx']
  have hs : ∀ (bs : List (List zaa)) (ts : List Nat) (x : List zaa), ({ hx h bs ts with blks := (hx h bs ts).blks.set (h.blks.length + i) x } : zab) = hx h (bs.set i x) ts := fun bs ts x => by
    simp only [hx]
    rw [List.set_append_right _ _ (Nat.le_add_right _ _),Nat.add_sub_cancel_left]
  simp only [zvN,pA,zoI ts hb,Option.bind_some,h1,h2]
  rw [if_neg (by decide),if_pos ⟨trivial,by omega⟩]
  simp only [Option.bind_some,zvG]
  rw [hs,hg]
  simp only [Option.bind_some,zoI ts2 hb2,h3,h4,zvG]
  rw [if_pos ⟨trivial,trivial⟩,hs]
end Go.Av
