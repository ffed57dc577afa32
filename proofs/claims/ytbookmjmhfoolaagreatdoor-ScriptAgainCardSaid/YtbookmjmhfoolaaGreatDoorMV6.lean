/- More equations: copies, carries, lists of words, methods of embedded pointers. -/
import Derived.Test.YtbookmjmhfoolaaGreatDoorMV5
import Derived.ChangeKeysEq
import Derived.Laws.Externs
import Derived.Laws.Pointers
import Derived.Lib.LaidTab
import Derived.Lib.ItoaNum
import Derived.Below
set_option linter.unusedSimpArgs false
set_option linter.unusedVariables false
set_option maxHeartbeats 1000000
namespace Go.Av
def zvj (P:Program) (t:TypeId) (name:String) (f:FuncId):Bool:=
  match P.info? t with
  | some i => match i.methods.find? (·.name == name) with
    | some m => m.path.isEmpty && (match m.func, P.underlying t with
      | some (g,pr),some d=>g==f&&(match d with | .pointer _=>pr | _=>!pr)
      | _,_=>false)
    | none=>false
  | none=>false
theorem zGK {P:Program} {t:TypeId} {name:String} {f:FuncId} (hm:zvj P t name f=true) (n:Nat) (v:Value) (w:World):(method (n+1) t v name).run P w=.ok (f,v) w:=by
  unfold zvj at hm
  split at hm
  · rename_i i hi
    split at hm
    · rename_i m hf
      simp only [Bool.and_eq_true] at hm
      obtain ⟨h1,h2⟩:=hm
      split at h2
      · rename_i g pr d hg hd
        simp only [Bool.and_eq_true,beq_iff_eq] at h2
        obtain ⟨rfl,h3⟩:=h2
        have hp:m.path.toList=[]:=by simpa using h1
        have hu:(underlying t).run P w=.ok d w:=run_underlying hd w
        unfold method
        rw [Sem.run_bind,run_typeInfo w hi]
        simp only [Result.andThen,hf,hp,follow,hg]
        simp only [Sem.run_bind,Sem.run_pure,Result.andThen,receiverAt,hu]
        cases d <;> simp at h3 <;> subst h3 <;> simp [Place.get,Sem.run_pure]
      · cases h2
    · cases hm
  · cases hm
noncomputable section
variable (C:Ctx) (L:Lim) (fr:Fr) (h:zab)
def zGJ (m:Option (List (Nat × Nat × Bool) × FuncId)) (v:zaa) (as:List zaa):Option (zaa × zab):=match m with
  | some (path, f) => match zcn path v with
    | some r=>zag C L f (r :: as) h
    | none=>none
  | none=>none
@[simp] theorem zMH (f:FuncId) (v:zaa) (as:List zaa):zGJ C L h (some ([],f)) v as=zag C L f (v :: as) h:=rfl
def zQn (x:zaa) (name:String) (as:List zaa):Option (zaa × zab):=match x with
  | .iface t v=>zGJ C L h (C.meth t name) v as
  | _=>none
@[simp] theorem zKV (t:TypeId) (v:zaa) (name:String) (as:List zaa):zQn C L h (.iface t v) name as=zGJ C L h (C.meth t name) v as:=rfl
@[simp] theorem zMJ (x:AO) (name:String) (as:List AO):zf7 C L (.inv x name as) fr h=zQn C L h (C.ev fr x) name (as.map (C.ev fr)):=by
  rw [zf7.eq_def];rfl
end
def putAt {α:Type} (l:List α) (off:Nat) (m:List α):List α:=l.take off++(m++l.drop (off+m.length))
theorem zsj {α:Type} (l:List α) (off:Nat) (m:List α) (h:off+m.length≤l.length):(putAt l off m).length=l.length:=by
  simp [putAt];omega
theorem zwW:∀ (cs old rest pre:List zaa),old.length=cs.length→setAt (pre++(old++rest)) pre.length cs=pre++(cs++rest)
  | [],old,rest,pre,h=>by cases old with | nil=>simp [setAt] | cons a l=>simp at h
  | c :: cs,[],rest,pre,h=>by simp at h
  | c :: cs, a :: l, rest, pre, h => by
    have:=zwW cs l rest (pre++[c]) (by simpa using h)
    simp only [setAt]
    rw [List.set_append_right _ _ (Nat.le_refl _),Nat.sub_self]
    simpa using this
theorem zsk (l:List zaa) (off:Nat) (m:List zaa) (h:off+m.length≤l.length):setAt l off m=putAt l off m:=by
  have h1:l=l.take off++((l.drop off).take m.length++l.drop (off+m.length)):=by
    rw [← List.drop_drop,List.take_append_drop,List.take_append_drop]
  have h2:=zwW m ((l.drop off).take m.length) (l.drop (off+m.length)) (l.take off) (by simp;omega)
  rw [← h1,List.length_take,Nat.min_eq_left (by omega)] at h2
  exact h2
theorem zzA (k:IntKind) (l:List Int) (off:Nat) (m:List Int) (h:off+m.length≤l.length):setAt (cI k l) off (cI k m)=cI k (putAt l off m):=by
  rw [zsk _ _ _ (by simpa using h)]
  simp [putAt,cI]
def zAM (L:Lim) (h:zab) (sz:Nat) (x y:zaa):Option (zaa × zab):=(zaz h sz y).bind fun es=>
  if zeZ sz es=true∧zfe sz y=true then (match x with
    | .sl b off s n _=>if s=sz then (zcw L h (.ptr b off) (es.take (min es.length n)).flatten).map fun h=>(.int .i64 ((min es.length n:Nat):Int),h) else none
    | _=>none) else none
@[simp] theorem zMM (C:Ctx) (L:Lim) (fr:Fr) (h:zab) (sz:Nat) (x y:AO):zhS C L fr h (.copy sz x y)=zAM L h sz (C.ev fr x) (C.ev fr y):=by
  simp only [zhS,zAM,bind]
  congr 1
@[simp] theorem zwY (y:zaa):zfe 1 y=true:=by cases y <;> rfl
theorem zDP (k : IntKind) (l : List Int) : zap 0 0 (cI k l) = true := zsM fun c hc => by
  simp only [cI,List.mem_map] at hc;obtain ⟨x,_,rfl⟩:=hc;rfl
attribute [simp] zDP
theorem zDQ (L:Lim) (h:zab) (bs:List (List zaa)) (ts:List Nat) (i off n:Nat) (cap:Option Nat) (k:IntKind) (l m:List Int) (y:zaa) (hy:zaz (hx h bs ts) 1 y=some (eI k l)) (hb:bs[i]?=some (cI k m))
    (hn:off+min l.length n≤m.length) (hL:L.rob≤h.blks.length):
    zAM L (hx h bs ts) 1 (sA h.blks.length i off 1 n cap) y=some (.int .i64 ((min l.length n:Nat):Int),hx h (bs.set i (cI k (putAt m off (l.take (min l.length n))))) ts):=by
  have e1:((eI k l).take (min l.length n)).flatten=cI k (l.take (min l.length n)):=by
    rw [← zCe];simp [eI]
  have hs:=zak h bs ts L i off (cI k (l.take (min l.length n))) (by simp [hL])
  rw [hb] at hs
  simp only [zz4,zHB] at hs
  rw [decide_eq_true (by simp;omega),zz3,zzA _ _ _ _ (by simp;omega)] at hs
  unfold zAM
  rw [hy]
  simp only [Option.bind_some,zIX,zwY,sA,and_self,if_true,zL1]
  rw [e1]
  simp only [pA] at hs
  rw [hs]
  rfl
def zzB (L:Lim) (h:zab) (zero:List zaa) (x:zaa):Option (zaa × zab):=match x with
  | .sl b off s n _=>if s=zero.length then (zcw L h (.ptr b off) (rep zero n)).map fun h=>(.tup [],h) else none
  | _=>none
@[simp] theorem zKW (C:Ctx) (L:Lim) (fr:Fr) (h:zab) (z:List zaa) (x:AO):zhS C L fr h (.clear z x)=zzB L h z (C.ev fr x):=by
  simp only [zhS,zzB]
  cases C.ev fr x <;> rfl
theorem zGO (L:Lim) (h:zab) (bs:List (List zaa)) (ts:List Nat) (i off n:Nat) (cap:Option Nat) (k:IntKind) (z:Int) (m:List Int) (hb:bs[i]?=some (cI k m)) (hn:off+n≤m.length) (hL:L.rob≤h.blks.length):
    zzB L (hx h bs ts) [.int k z] (sA h.blks.length i off 1 n cap)=some (.tup [],hx h (bs.set i (cI k (putAt m off (tab n fun _=>z)))) ts):=by
  have hs:=zak h bs ts L i off (cI k (tab n fun _=>z)) (by simp [hL])
  rw [hb] at hs
  simp only [zz4,zHB,zyi] at hs
  rw [decide_eq_true hn,zz3,zzA _ _ _ _ (by simpa using hn)] at hs
  unfold zzB
  simp only [sA,List.length_singleton,if_true,zga,zgg]
  simp only [pA] at hs
  rw [hs]
  rfl
theorem zDR (sz m i len c:Nat) (cap:Option Nat) (kd:IntKind) (h:(decide (c < len)&&decide (len≤cap.getD len))=true):zcN .slc sz (sA m i 0 sz len cap) (some (.int kd (c:Int))) none none=some (sA m i (c*sz) sz (len - c) (cap.map (· - c))):=by
  simp only [Bool.and_eq_true,decide_eq_true_eq] at h
  obtain ⟨h1,h3⟩:=h
  have h0:¬len=c:=by omega
  have h4:c≤len:=by omega
  simp [zcN,sA,zil,h0,h3,h4]
theorem zMR (n m i:Nat) (es:List (List zaa)):gA (n+m) i es=gA n (m+i) es:=by simp [gA,Nat.add_assoc]
theorem zyE (L:Lim) (h:zab) (bs:List (List zaa)) (ts:List Nat) (sz:Nat) (c:Bool) (es ys:List (List zaa))
    (hc:(zeZ sz ys&&zeZ sz es&&decide (L.rot≤h.toks.length)&&decide (es.length+ys.length < zas))=true):
    zq6 L (hx h bs (ts++gT es)) sz false (gL .nsl h.toks.length ts.length es) (.vsl c ys)=some (gL .nsl h.toks.length ts.length (es++ys),hx h bs (ts++gT (es++ys))):=by
  simp only [Bool.and_eq_true,decide_eq_true_eq] at hc
  have e1:∀ q,hx (hx h [] ts) bs q=hx h bs (ts++q):=fun q=>by simp
  have e2 : ∀ es, gL .nsl (hx h [] ts).toks.length 0 es = gL .nsl h.toks.length ts.length es := fun es => by
    unfold gL;split
    · rfl
    · rw [zal,zMR];rfl
  have:=zpQ L (hx h [] ts) bs sz c es ys (by simp only [Bool.and_eq_true,decide_eq_true_eq,zal];exact ⟨⟨⟨hc.1.1.1,hc.1.1.2⟩,by omega⟩,hc.2⟩)
  rw [e1,e1,e2,e2] at this
  exact this
end Go.Av
namespace Go.Av
theorem zDJ {C:Ctx} {P:Program} {L:Lim} {f:FuncId} {fn:Func} {e:Array Value→Sem Value} (hf:P.funcs[f]?=some fn) (hname:(fn.name== "runtime.NumGoroutine")=false)
    (hb:fn.body.isNone=true) (hn:Extern.findNext fn=none) (he:Extern.find fn=some e) {args:List zaa} {h:zab} {v:zaa}
    (hr:∀ (s:St) (cargs:Array Value),zbw s args cargs.toList→∃ cv,(e cargs).run P s.w=.ok cv s.w∧Rep s v cv):ze2 C P L f args h v h:=by
  refine ⟨zid.refl L h,fun s cargs hh hs hL hrep=>?_⟩
  subst hh
  obtain ⟨cv,h1,h2⟩:=hr s cargs hrep
  refine ⟨.value cv,s.w,?_,.inl ⟨cv,.inl rfl,Good.same hs h2⟩⟩
  rw [run_callFunc_extern hf hname hb hn he,h1]
  rfl
def zHV (g : Nat → Nat → Nat → Nat × Nat) : zJh := ⟨fun _ args h => match args with
  | [.int .u64 x,.int .u64 y,.int .u64 c]=>if (decide (0≤x)&&decide (0≤y)&&decide (0≤c)&&decide (c≤1))=true then some (.inl (.tup [.int .u64 (g x.toNat y.toNat c.toNat).1,.int .u64 (g x.toNat y.toNat c.toNat).2],h)) else none
  | _=>none,fun _ _ _=>none⟩
def zOm (x y c:Nat):Nat × Nat:=((x+y+c) % 18446744073709551616,(x+y+c) / 18446744073709551616)
def zOn (x y b:Nat):Nat × Nat:=((x+18446744073709551616 - y - b) % 18446744073709551616,if x < y+b then 1 else 0)
def zMG:zJh:=zHV zOm
def zMW:zJh:=zHV zOn
def zzG : Array Value → Sem Value := fun args => do
  let (x,y,b) ← Extern.MathBitsCarry.three "Sub64" args
  pure (Extern.MathBitsCarry.pair ((x+Extern.MathBitsCarry.m64 - y - b) % Extern.MathBitsCarry.m64) (if x < y+b then 1 else 0))
theorem zGW {P:Program} (x y c:Nat) (hc:c≤1) (w:World):
    (add64Entry #[.int .u64 x,.int .u64 y,.int .u64 c]).run P w=.ok (.tuple #[.int .u64 (zOm x y c).1,.int .u64 (zOm x y c).2]) w:=by
  have:c=0∨c=1:=by omega
  rcases this with rfl | rfl <;> rfl
theorem zGX {P:Program} (x y b:Nat) (hb:b≤1) (w:World):
    (zzG #[.int .u64 x,.int .u64 y,.int .u64 b]).run P w=.ok (.tuple #[.int .u64 (zOn x y b).1,.int .u64 (zOn x y b).2]) w:=by
  have:b=0∨b=1:=by omega
  rcases this with rfl | rfl <;> rfl
theorem zMX {s:St} {a b c:zaa} {vs:Array Value} (h:zbw s [a,b,c] vs.toList):∃ x y z,vs=#[x,y,z]∧Rep s a x∧Rep s b y∧Rep s c z:=by
  obtain ⟨l⟩:=vs
  simp only at h
  cases h with
  | cons _ x _ l1 h1 h=>
    cases h with
    | cons _ y _ l2 h2 h=>
      cases h with
      | cons _ z _ l3 h3 h=>
        cases h
        exact ⟨x,y,z,rfl,h1,h2,h3⟩
theorem zpZ {s:St} {k:IntKind} {n:Int} {v:Value} (h:Rep s (.int k n) v):v=.int k n:=by cases h;rfl
theorem zD2 {C:Ctx} {P:Program} {f:FuncId} {fn:Func} {e:Array Value→Sem Value} {g:Nat→Nat→Nat→Nat × Nat} (hf:P.funcs[f]?=some fn) (hname:(fn.name== "runtime.NumGoroutine")=false)
    (hb:fn.body.isNone=true) (hn:Extern.findNext fn=none) (he:Extern.find fn=some e)
    (hr:∀ (x y c:Nat),c≤1→∀ w,(e #[.int .u64 x,.int .u64 y,.int .u64 c]).run P w=.ok (.tuple #[.int .u64 (g x y c).1,.int .u64 (g x y c).2]) w)
    {L:Lim} {args:List zaa} {h:zab} {v:zaa} {h':zab} (hp:(zHV g).pre L args h=some (.inl (v,h'))):ze2 C P L f args h v h':=by
  unfold zHV at hp
  simp only at hp
  split at hp
  · rename_i x y c
    split at hp
    · rename_i hc
      simp only [Bool.and_eq_true,decide_eq_true_eq] at hc
      simp only [Option.some.injEq,Sum.inl.injEq,Prod.mk.injEq] at hp
      obtain ⟨rfl,rfl⟩:=hp
      refine zDJ hf hname hb hn he fun s cargs hrep=>?_
      obtain ⟨a,b,d,rfl,h1,h2,h3⟩:=zMX hrep
      obtain rfl:=zpZ h1
      obtain rfl:=zpZ h2
      obtain rfl:=zpZ h3
      refine ⟨_,?_,.tup _ #[.int .u64 (g x.toNat y.toNat c.toNat).1,.int .u64 (g x.toNat y.toNat c.toNat).2] (.cons _ _ _ _ (.int ..) (.cons _ _ _ _ (.int ..) .nil))⟩
      have:=hr x.toNat y.toNat c.toNat (by omega) s.w
      rw [show ((x.toNat:Nat):Int)=x by omega,show ((y.toNat:Nat):Int)=y by omega,show ((c.toNat:Nat):Int)=c by omega] at this
      exact this
    · cases hp
  · cases hp
theorem zzI {g:Nat→Nat→Nat→Nat × Nat} {L:Lim} {args:List zaa} {h:zab} {q:FuncId × List zaa × zab}:(zHV g).pre L args h≠some (.inr q):=by
  unfold zHV
  simp only
  split
  · split <;> simp
  · simp
theorem zD3 {C:Ctx} {L:Lim} {f:FuncId} {h:zab} (hx:C.ext f=some zMG) (x y:W64) (c:Nat) (hc:c≤1):
    zag C L f [wd x,wd y,.int .u64 (c:Int)] h=some (.tup [wd (BitVec.ofNat 64 (x.toNat+y.toNat+c)),.int .u64 (((x.toNat+y.toNat+c) / 18446744073709551616:Nat):Int)],h):=by
  rw [zss C L h hx]
  have:(decide (0≤(x.toNat:Int))&&decide (0≤(y.toNat:Int))&&decide (0≤(c:Int))&&decide ((c:Int)≤1))=true:=by simp;omega
  simp only [zMG,zHV,wd,if_pos this,Option.bind_some,zOm,Int.toNat_natCast,BitVec.toNat_ofNat]
theorem zD5 {C:Ctx} {L:Lim} {f:FuncId} {h:zab} (hx:C.ext f=some zMW) (x y:W64) (c:Nat) (hc:c≤1):
    zag C L f [wd x,wd y,.int .u64 (c:Int)] h=some (.tup [wd (BitVec.ofNat 64 (x.toNat+18446744073709551616 - y.toNat - c)),.int .u64 ((if x.toNat < y.toNat+c then 1 else 0:Nat):Int)],h):=by
  rw [zss C L h hx]
  have:(decide (0≤(x.toNat:Int))&&decide (0≤(y.toNat:Int))&&decide (0≤(c:Int))&&decide ((c:Int)≤1))=true:=by simp;omega
  simp only [zMW,zHV,wd,if_pos this,Option.bind_some,zOn,Int.toNat_natCast,BitVec.toNat_ofNat]
end Go.Av
namespace Go.Av
theorem zH0 (h:zab) (bs:List (List zaa)) (ts:List Nat) (nt n i m:Nat) (cap:Option Nat) (k:IntKind) (l:List Int) (hb:bs[i]?=some (cI k l)) (hl:m≤l.length):
    frz (hx h bs ts) h.blks.length nt (n+1) (sA h.blks.length i 0 1 m cap)=some (.vsl false (eI k (l.take m))):=by
  have e1:(hx h bs ts).blks[h.blks.length+i]?=some (cI k l):=zy3 ts hb
  have e2:chunks 1 m (cI k l)=eI k (l.take m):=by
    have key:∀ (m:Nat) (l:List Int),m≤l.length→chunks 1 m (cI k l)=eI k (l.take m):=by
      intro m
      induction m with
      | zero=>intro l _;simp [chunks]
      | succ m ih=>
        intro l hl
        cases l with
        | nil=>simp at hl
        | cons x l=>
          have:=ih l (by simpa using hl)
          simp only [chunks,cI,List.map_cons,List.take_succ_cons,List.take_zero,List.drop_succ_cons,List.drop_zero] at this ⊢
          rw [this];rfl
    exact key m l hl
  simp only [sA,frz]
  rw [if_neg (by omega)]
  simp only [zaz,ne_eq,not_true,if_false,e1,Option.bind_some,List.drop_zero]
  rw [if_pos (by simpa using hl),e2]
  simp [zBt]
def zvv (l:List W64):List Int:=l.map fun w=>(w.toNat:Int)
theorem zsv (l:List W64):cW l=cI .u64 (zvv l):=by simp [cW,cI,zvv,wd]
theorem zsw (l:List W64):eW l=eI .u64 (zvv l):=by simp [eW,eI,zvv,wd]
@[simp] theorem zOs (l:List W64):(zvv l).length=l.length:=by simp [zvv]
@[simp] theorem zw6 (l:List W64) (n:Nat):(zvv l).take n=zvv (l.take n):=by simp [zvv]
@[simp] theorem zJS (l:List W64):zeZ 1 (eW l)=true:=by rw [zsw];simp
@[simp] theorem zOt (nb nt:Nat) (l:List W64):zaw nb nt (eW l)=true:=by rw [zsw];simp
@[simp] theorem zQv:eW []=[]:=rfl
theorem zzJ (h:zab) (bs:List (List zaa)) (ts:List Nat) (nt n i m:Nat) (cap:Option Nat) (l:List W64) (hb:bs[i]?=some (cW l)) (hl:l.length=m):
    frz (hx h bs ts) h.blks.length nt (n+1) (sA h.blks.length i 0 1 m cap)=some (.vsl false (eW l)):=by
  rw [zsv] at hb
  rw [zH0 h bs ts nt n i m cap .u64 (zvv l) hb (by simp;omega),zsw,List.take_of_length_le (by simp;omega)]
@[simp] theorem zPM (h:zab) (nb nt n:Nat) (c:Bool) (l:List W64):frz h nb nt (n+1) (.vsl c (eW l))=some (.vsl false (eW l)):=zhO h nb nt n c (by simp)
@[simp] theorem zPN (h:zab) (nb nt n i:Nat) (l:List W64):frz h nb nt (n+1) (gA nt i (eW l))=some (.vsl false (eW l)):=zB3 h nb nt n i _ (by simp)
theorem zyN (h:zab) (nb nt n b off sz m:Nat) (cap:Option Nat) (hb:decide (b < nb)=true):frz h nb nt (n+1) (.sl b off sz m cap)=some (.sl b off sz m cap):=by
  simp only [frz]
  rw [if_pos (by simpa using hb)]
@[simp] theorem zBJ (h:zab) (sz:Nat) (c:Bool) (es:List (List zaa)):zaz h sz (.vsl c es)=some es:=by simp only [zaz]
def LsW (h:zab) (x:zaa) (l:List W64):Prop:=RdW h x l∧∀ bs ts,zaz (hx h bs ts) 1 x=some (eW l)
theorem LsW.ext {h:zab} {x:zaa} {l:List W64} (hr:LsW h x l) (bs:List (List zaa)) (ts:List Nat):LsW (hx h bs ts) x l:=
  ⟨hr.1.ext bs ts,fun bs' ts'=>by rw [zEE];exact hr.2 _ _⟩
theorem LsW.vsl (h:zab) (c:Bool) (l:List W64):LsW h (.vsl c (eW l)) l:=⟨RdW.vsl h c l,fun bs ts=>by simp only [zaz]⟩
theorem zHz (k:IntKind) (a b:Nat):zqB true (.int k (a:Int)) [.int k (b:Int)]=some (.int k ((max a b:Nat):Int)):=by
  simp only [zqB,zLF,bind,Option.bind_some]
  by_cases hab:a < b
  · have h1 : ((b : Int) > (a : Int)) := by omega
    simp only [if_true,if_pos h1,show max a b=b by omega]
  · have h1 : ¬ ((b : Int) > (a : Int)) := by omega
    simp only [if_true,if_neg h1,show max a b=a by omega]
theorem zff (n i off len k:Nat) (cap:Option Nat) (h:decide (k < len)=true):zcZ none 1 (sA n i off 1 len cap) (.int .i64 (k:Int))=some (pA n i (off+k)):=by
  have:=zrB n i off 1 len k cap .i64 h
  rwa [Nat.mul_one] at this
theorem zHA (h:zab) (bs:List (List zaa)) (ts:List Nat) (i n:Nat) (cap:Option Nat) (k:IntKind) (l:List Int) (hb:bs[i]?=some (cI k l)) (hl:l.length=n):
    fzA (hx h bs ts) (sA h.blks.length i 0 1 n cap)=some (.vsl false (eI k l),true):=by
  have he:=zuD h bs ts i n (cI k l) cap hb (by simpa using hl)
  rw [zqV] at he
  simp only [sA] at he ⊢
  simp only [fzA,he,bind,Option.bind_some]
theorem zBU {m:Mode} {h:zab} {n:Nat} {res:List zwI} {as:List zaa} {r:Option (AEx × Fr × zab)} {v:zaa} {h':zab} (h1:zEU m h n res as false r=some (v,h')) (hv:v.flat=true):zEU m h n res as true r=some (v,h'):=by
  unfold zEU zII zKy at h1 ⊢
  cases r with
  | none=>exact h1
  | some r=>
    simp only [Option.bind_some] at h1 ⊢
    split at h1
    · rename_i hc
      rw [if_pos hc]
      cases hr:zri r.2.1 r.2.2 res with
      | none=>rw [hr] at h1;exact h1
      | some vs=>
        rw [hr] at h1
        simp only [Option.bind_some] at h1 ⊢
        rw [zAm] at h1
        rw [h1,zwk _ _ hv]
    · cases h1
end Go.Av
namespace Go.Av
section
variable {C:Ctx} {P:Program} {D:FuncId}
end
end Go.Av
namespace Go.Av
noncomputable section
variable (C:Ctx) (L:Lim) (fr:Fr) (h:zab)
def zFc (m:Option (List (Nat × Nat × Bool) × FuncId)) (v:zaa) (as:List zaa):Option zaa:=match m with
  | some (path, f) => match zcn path v with
    | some r=>zK5 (zac C f) (zag C L f (r :: as) h)
    | none=>none
  | none=>none
@[simp] theorem zLr (f:FuncId) (v:zaa) (as:List zaa):zFc C L h (some ([],f)) v as=zK5 (zac C f) (zag C L f (v :: as) h):=rfl
def zIo (x:zaa) (name:String) (as:List zaa):Option zaa:=match x with
  | .iface t v=>zFc C L h (C.meth t name) v as
  | _=>none
@[simp] theorem zIn (t:TypeId) (v:zaa) (name:String) (as:List zaa):zIo C L h (.iface t v) name as=zFc C L h (C.meth t name) v as:=rfl
@[simp] theorem zLs (x:AO) (name:String) (as:List AO):zkm C L (.inv x name as) fr h=zIo C L h (C.ev fr x) name (as.map (C.ev fr)):=by
  rw [zkm.eq_def]
  simp only [zIo,zFc,zK5]
  generalize C.ev fr x=v
  cases v <;> try rfl
  rename_i t v
  simp only
  cases C.meth t name with
  | none=>rfl
  | some q=>
    simp only
    cases zcn q.1 v with
    | none=>rfl
    | some r=>
      simp only
      split
      · cases zag C L q.2 (r :: as.map (C.ev fr)) h <;> rfl
      · rfl
end
end Go.Av
namespace Go.Av
def zs0:AC:=.reg [iv 2 (.mv (.k (.nsl)))]
def zqu:AC:=.cond (.t 4) (.seq (.reg [iv 2 (.mv (.k (.nsl)))]) (.ret)) (.skip)
def zND (sz:Nat) (z:List zaa):AC:=.seq (.reg [iv 5 (.slit sz 0 z []),iv 6 (.mv (.t 0)),ic 7 (.app sz false (.t 5) (.t 6)),iv 2 (.mv (.t 7))]) (.ret)
def zIr (sz:Nat) (z:List zaa):AFn:=⟨8,zND sz z,[.tmp 2],some (zs0,3,4,zqu)⟩
theorem zIm {L:Lim} {h:zab} {sz:Nat} {y:zaa} {ys:List (List zaa)} (hy:zaz h sz y=some ys) (hstr:zfe sz y=true) (hsz:zeZ sz ys=true) (hr:L.rot≤h.toks.length) (hroom:ys.length < zas):
    zq6 L h sz false (.vsl true []) y=some (gL (.vsl true []) h.toks.length 0 ys,hx h [] (gT ys)):=by
  have:=zDp (L:=L) (h:=h) (bs:=[]) (sz:=sz) (s:=.vsl true []) (y:=y) (es:=[]) (ys:=ys) (.inr rfl) (by rw [show gT []=[] from rfl,zxm];exact hy) hstr hsz rfl hr (by simpa using hroom)
  rw [show gL (.vsl true []) h.toks.length 0 []=.vsl true [] from rfl,show gT []=[] from rfl,List.nil_append,zxm] at this
  exact this
theorem zOZ (sz:Nat) (z:List zaa):zay (rep z 0) []=some []:=rfl
theorem zIu (hh:zab) (nb nt m:Nat) (es:List (List zaa)) (hu:zaw nb nt es=true):frz hh nb nt (m+1) (gL (.vsl true []) nt 0 es)=some (.vsl false es):=zoN (.inr rfl) hu
theorem zyV {C:Ctx} {L:Lim} {h:zab} {f:FuncId} {sz:Nat} {z:List zaa} (hx1:C.ext f=none) (hm:C.mode f=roM) (hf:C.fns f=some (zIr sz z)) (x:zaa) (es:List (List zaa)) (he:zaz h sz x=some es) (hs:zfe sz x=true)
    (hn:∃ nb,zqt x=some nb) (hz:zeZ sz es=true) (hu:zaw h.blks.length h.toks.length es=true) (hroom:es.length < zas):zag C L f [x] h=some (.vsl false es,h):=by
  obtain ⟨nb,hn⟩:=hn
  have hap:=zIm (L:=zau h) he hs hz (Nat.le_refl _) hroom
  have hg:=fun hh m=>zIu hh h.blks.length h.toks.length m es hu
  have hch:chunks sz 0 []=[]:=rfl
  have hfl:=zOZ sz z
  have hlast : ∀ fr : Fr, fr 0 = x → ∃ fr', run C (zau h) (zND sz z) fr h = some (.ret, fr', hx h [] (gT es)) ∧ fr' 2 = gL (.vsl true []) h.toks.length 0 es := fun fr h0 => by
    simp -implicitDefEqProofs [zND,h0,hfl,hch,hap]
  have hfin : ∀ (fr' : Fr), fr' 2 = gL (.vsl true []) h.toks.length 0 es → ztx roM (zIr sz z) ([x], false) h (.ret, fr', hx h [] (gT es)) = some (.vsl false es, h) := fun fr' h2 => by
    simp -implicitDefEqProofs [ztx,zIr,zri,h2,hg,zxK,ztf]
  rw [zag.eq_def]
  simp only [hx1,hf,hm,bind,Option.bind_some,zF6,zGd]
  have hq:(zIr sz z).pre=some (zs0,3,4,zqu):=rfl
  have hc:(zIr sz z).code=zND sz z:=rfl
  simp only [hq,hc]
  have r0:run C (zau h) zs0 (fun i=>[x].getD i zaJ) h=some (.normal,upd (fun i=>[x].getD i zaJ) 2 .nsl,h):=by simp [zs0]
  rw [r0]
  simp only [Option.bind_some,if_true]
  have hx0:upd (fun i=>[x].getD i zaJ) 2 .nsl 0=x:=rfl
  rw [hx0,hn]
  simp only [Option.bind_some]
  have rF : run C (zau h) zqu (zBF (zs0, 3, 4, zqu) (upd (fun i => [x].getD i zaJ) 2 .nsl) false) h = some (.normal, zBF (zs0, 3, 4, zqu) (upd (fun i => [x].getD i zaJ) 2 .nsl) false, h) := by
    simp [zqu,zBF,upd]
  have rT : run C (zau h) zqu (zBF (zs0, 3, 4, zqu) (upd (fun i => [x].getD i zaJ) 2 .nsl) true) h = some (.ret, upd (zBF (zs0, 3, 4, zqu) (upd (fun i => [x].getD i zaJ) 2 .nsl) true) 2 .nsl, h) := by
    simp [zqu,zBF,upd]
  obtain ⟨fr',hl1,hl2⟩:=hlast (zBF (zs0,3,4,zqu) (upd (fun i=>[x].getD i zaJ) 2 .nsl) false) rfl
  have hnilfin : ∀ fr : Fr, fr 2 = .nsl → ztx roM (zIr sz z) ([x], false) h (.ret, fr, h) = some (.vsl false [], h) := fun fr h2 => by
    have hfz:∀ (hh:zab) nb nt m,frz hh nb nt (m+1) .nsl=some (.vsl false []):=fun hh nb nt m=>by simp [frz]
    simp -implicitDefEqProofs [ztx,zIr,zri,h2,zxK,ztf,hfz]
  cases nb with
  | some b=>
    cases b with
    | true=>
      have hxn:x=.nsl:=by
        unfold zqt at hn
        split at hn
        · rename_i b hb
          obtain rfl:=Option.some.inj (Option.some.inj hn)
          unfold eqA at hb
          split at hb <;> first | rfl | simp_all
        · split at hn <;> simp at hn
      subst hxn
      have hes:es=[]:=by simpa [zaz] using he.symm
      subst hes
      simp only [rT,Option.bind_some]
      exact hnilfin _ (by simp [upd])
    | false=>
      simp only [rF,Option.bind_some,hl1]
      exact hfin _ hl2
  | none=>
    have hxn:∃ c,x=.vsl c []:=by
      unfold zqt at hn
      split at hn
      · simp at hn
      · split at hn
        · exact ⟨_,rfl⟩
        · simp at hn
    obtain ⟨c,rfl⟩:=hxn
    have hes:es=[]:=by simpa [zaz] using he.symm
    subst hes
    simp only [rT,rF,Option.bind_some,and_self,if_true,hl1]
    have e1:=hnilfin (upd (zBF (zs0,3,4,zqu) (upd (fun i=>[zaa.vsl c []].getD i zaJ) 2 .nsl) true) 2 .nsl) (by simp [upd])
    have e2:=hfin _ hl2
    rw [if_pos (by rw [hm];exact e1.trans e2.symm)]
    exact e2
theorem zB0 (c:Bool) (es:List (List zaa)):∃ nb,zqt (.vsl c es)=some nb:=by cases es <;> exact ⟨_,rfl⟩
end Go.Av
namespace Go.Av
open Go.RowKit
def zKU:List UInt8:=[48,49,50,51,52,53,54,55,56,57,97,98,99,100,101,102]
def zDM (x:Nat):List UInt8:=[zKU.getD (x / 16) 0,zKU.getD (x % 16) 0]
def zJz (a:Int × List Nat):List UInt8:=Lib.itoa a.1++(if a.2=[] then [] else [32])++a.2.flatMap zDM++[10]
def zk1 (l:List (Int × List Nat)):List UInt8:=l.flatMap zJz
def zDO (w:World) (v:Value) (l:List Nat):Prop:=
  ∃ a c,v=.slice a l.length c∧l.length≤c∧∀ (i x:Nat),l[i]?=some x→x < 256∧∃ X o,a=some ⟨X,o,none⟩∧w.cell? ⟨X,o+i,none⟩=some (.int .u8 x)
def zJA (w:World) (v:Value) (l:List (Int × List Nat)):Prop:=
  ∃ a c,v=.slice a l.length c∧l.length≤c∧∀ (i:Nat) (x:Int × List Nat),l[i]?=some x→ -9223372036854775808≤x.1∧x.1≤9223372036854775807∧
    ∃ X o v,a=some ⟨X,o,none⟩∧w.cell? ⟨X,o+i*2,none⟩=some (.int .i64 x.1)∧w.cell? ⟨X,o+i*2+1,none⟩=some v∧zDO w v x.2
def zMK:List zaa→Option Nat
  | [.int .u8 n]=>if 0≤n∧n < 256 then some n.toNat else none
  | _=>none
def zJC (h:zab):List zaa→Option (Int × List Nat)
  | [.int .i64 n,d]=>if -9223372036854775808≤n∧n≤9223372036854775807∧zfe 2 d=true then (zaz h 1 d).bind fun ds=>if zeZ 1 ds=true then (ds.mapM zMK).map fun l=>(n,l) else none else none
  | _=>none
def zwX : zJh := ⟨fun _ args h => match args with
  | [x]=>if zfe 2 x=true then (zaz h 2 x).bind fun es=>if zeZ 2 es=true then (es.mapM (zJC h)).bind fun l=>if l.length≤1000∧(∀ a∈l,a.2.length≤4000) then some (.inl (.str ⟨(zk1 l).toArray⟩,h)) else none else none else none
  | _=>none,fun _ _ _=>none⟩
theorem mapM_at {α β:Type} {f:α→Option β} {l:List α} {m:List β} (h:l.mapM f=some m):l.length=m.length∧∀ (i:Nat) (y:β),m[i]?=some y→∃ x,l[i]?=some x∧f x=some y:=by
  induction l generalizing m with
  | nil=>
    simp at h;subst h;simp
  | cons a l ih=>
    simp only [List.mapM_cons,Option.bind_eq_bind,Option.bind_eq_some_iff,Option.pure_def,Option.some.injEq] at h
    obtain ⟨y,hy,m',hm,rfl⟩:=h
    obtain ⟨h1,h2⟩:=ih hm
    refine ⟨by simp [h1],fun i z hz=>?_⟩
    cases i with
    | zero=>simp at hz;subst hz;exact ⟨a,rfl,hy⟩
    | succ i=>simpa using h2 i z (by simpa using hz)
theorem zq7 {sz:Nat}:∀ {es:List (List zaa)},(∀ e∈es,e.length=sz)→∀ {i:Nat} {e:List zaa},es[i]?=some e→∀ {j:Nat} {x:zaa},e[j]?=some x→es.flatten[i*sz+j]?=some x
  | [],_,i,e,h,j,x,_=>by simp at h
  | e0 :: es, hl, 0, e, h, j, x, hj => by
    obtain rfl:e0=e:=by simpa using h
    have:=(List.getElem?_eq_some_iff.1 hj).1
    rw [List.flatten_cons,Nat.zero_mul,Nat.zero_add,List.getElem?_append_left this]
    exact hj
  | e0 :: es, hl, i + 1, e, h, j, x, hj => by
    have ih:=zq7 (es:=es) (fun e' he'=>hl e' (List.mem_cons_of_mem _ he')) (i:=i) (by simpa using h) hj
    have h0:=hl e0 (by simp)
    rw [List.flatten_cons,List.getElem?_append_right (by rw [h0,Nat.succ_mul];omega)]
    rw [show (i+1)*sz+j - e0.length=i*sz+j by rw [h0,Nat.succ_mul];omega]
    exact ih
section
variable {C:Ctx} {s:St}
theorem zGN (hs:Sim C s) {d:zaa} {cd:Value} {ds:List (List zaa)} {l:List Nat} (hd:Rep s d cd) (he:zaz s.h 1 d=some ds) (hz:zeZ 1 ds=true) (hst:zfe 2 d=true) (hm:ds.mapM zMK=some l):zDO s.w cd l:=by
  obtain ⟨hl,hg⟩:=mapM_at hm
  rcases ziZ hs hd he hz with ⟨str,rfl,_,_⟩ | ⟨ad,c,rfl,hc,h⟩
  · simp [zfe] at hst
  · refine ⟨ad, c, by rw [hl], by omega, fun i x hx => ?_⟩
    obtain ⟨e,he1,he2⟩:=hg i x hx
    rcases h with ⟨X,o,rfl,hrow,hlen⟩ | rfl
    · unfold zMK at he2
      split at he2
      · rename_i n
        split at he2
        · rename_i hn
          obtain rfl:=Option.some.inj he2
          have hfl:ds.flatten[i]?=some (.int .u8 n):=by
            have:=zq7 hlen (i:=i) (e:=[.int .u8 n]) he1 (j:=0) (x:=.int .u8 n) rfl
            simpa using this
          obtain ⟨_,v,h1,h2⟩:=hrow i _ hfl
          obtain rfl:=zpZ h2
          refine ⟨by omega,X,o,rfl,?_⟩
          rw [Int.toNat_of_nonneg hn.1]
          exact h1
        · simp at he2
      · simp at he2
    · simp at he1
theorem zMN (hs:Sim C s) {x:zaa} {cx:Value} {es:List (List zaa)} {l:List (Int × List Nat)} (hx:Rep s x cx) (he:zaz s.h 2 x=some es) (hz:zeZ 2 es=true) (hst:zfe 2 x=true) (hm:es.mapM (zJC s.h)=some l):zJA s.w cx l:=by
  obtain ⟨hl,hg⟩:=mapM_at hm
  rcases ziZ hs hx he hz with ⟨str,rfl,_,_⟩ | ⟨ad,c,rfl,hc,h⟩
  · simp [zfe] at hst
  · refine ⟨ad, c, by rw [hl], by omega, fun i y hy => ?_⟩
    obtain ⟨e,he1,he2⟩:=hg i y hy
    rcases h with ⟨X,o,rfl,hrow,hlen⟩ | rfl
    · unfold zJC at he2
      split at he2
      · rename_i n d
        split at he2
        · rename_i hn
          obtain ⟨ds,hd1,he2⟩:=Option.bind_eq_some_iff.1 he2
          split at he2
          · rename_i hzd
            obtain ⟨m,hm2,rfl⟩:=Option.map_eq_some_iff.1 he2
            have f0:=zq7 hlen (i:=i) he1 (j:=0) (x:=.int .i64 n) rfl
            have f1:=zq7 hlen (i:=i) he1 (j:=1) (x:=d) rfl
            obtain ⟨_,v0,h1,h2⟩:=hrow _ _ f0
            obtain ⟨_,v1,h3,h4⟩:=hrow _ _ f1
            obtain rfl:=zpZ h2
            exact ⟨hn.1,hn.2.1,X,o,v1,rfl,by simpa [World.at] using h1,by simpa [World.at,Nat.add_assoc] using h3,zGN hs h4 hd1 hzd hn.2.2 hm2⟩
          · simp at he2
        · simp at he2
      · simp at he2
    · simp at he1
end
theorem zMO {C : Ctx} {P : Program} {s : St} (hs : Sim C s) {name : String} {g : Nat} {k : IntKind} {zs : List Int} (hg : P.globalNamed name = some g) (hc : C.glob g = some (zs.map fun z => .int k z)) : Lib.TabIs P s.w name k zs := by
  obtain ⟨hr,vs,e,fz,hh,hsz⟩:=hs.glob g _ hc
  unfold Lib.TabIs World.var?
  rw [hg]
  simp only [Option.bind_some,hh,Option.some.injEq]
  apply Array.ext_getElem?
  intro i
  by_cases hi:i < zs.length
  · obtain ⟨v, h1, _, _, h2⟩ := hr.get i (.int k zs[i]) (by simp [hi])
    obtain rfl:=zpZ h2
    have:vs[i]?=some (Value.int k zs[i]):=by
      have h1':s.w.cell? ⟨g,0+i,none⟩=some (Value.int k zs[i]):=h1
      simpa [World.cell?,hh] using h1'
    rw [this];simp [hi]
  · rw [Array.getElem?_eq_none (by rw [hsz];simp;omega),Array.getElem?_eq_none (by simp;omega)]
theorem zDS {L:Lim} {args:List zaa} {h:zab} {q:FuncId × List zaa × zab}:zwX.pre L args h≠some (.inr q):=by
  unfold zwX
  simp only
  split
  · split
    · intro e
      obtain ⟨es,_,e⟩:=Option.bind_eq_some_iff.1 e
      split at e
      · obtain ⟨l,_,e⟩:=Option.bind_eq_some_iff.1 e
        split at e <;> simp at e
      · simp at e
    · simp
  · simp
theorem zGS {C:Ctx} {P:Program} {f:FuncId} {fn:Func} {g:Nat} (hf:P.funcs[f]?=some fn) (hb:fn.body.isSome=true) (hn:fn.name≠ "runtime.NumGoroutine")
    (hg:P.globalNamed "internal/strconv.uint64pow10"=some g) (hc:C.glob g=some (Lib.pow10Tab.map fun z=>.int .u64 z))
    (hw:∀ (l:List (Int × List Nat)) (v:Value) (w:World),zJA w v l→l.length≤1000→(∀ x∈l,x.2.length≤4000)→Lib.TabIs P w "internal/strconv.uint64pow10" .u64 Lib.pow10Tab→Calls P f #[v] w fun e w'=>e=.returned (.string ⟨(zk1 l).toArray⟩)∧Below w.heap.size w w')
    {L:Lim} {args:List zaa} {h:zab} {v:zaa} {h':zab} (hp:zwX.pre L args h=some (.inl (v,h'))):ze2 C P L f args h v h':=by
  obtain ⟨x,hb⟩:=Option.isSome_iff_exists.1 hb
  unfold zwX at hp
  simp only at hp
  split at hp
  · rename_i a
    split at hp
    · rename_i hst
      obtain ⟨es,he,hp⟩:=Option.bind_eq_some_iff.1 hp
      split at hp
      · rename_i hz
        obtain ⟨l,hm,hp⟩:=Option.bind_eq_some_iff.1 hp
        split at hp
        · rename_i hlim
          simp only [Option.some.injEq,Sum.inl.injEq,Prod.mk.injEq] at hp
          obtain ⟨rfl,rfl⟩:=hp
          refine ⟨zid.refl L h,fun s cargs hh hs hL hrep=>?_⟩
          subst hh
          obtain ⟨cx,rfl,hx⟩:∃ cx,cargs=#[cx]∧Rep s a cx:=by
            obtain ⟨c⟩:=cargs
            simp only at hrep
            cases hrep with
            | cons _ y _ ys h1 h2=>cases h2;exact ⟨y,rfl,h1⟩
          refine ⟨.enter f _,s.w,zr3 hf hb hn _ _,.inr ⟨f,_,rfl,?_⟩⟩
          refine (hw l cx s.w (zMN hs hx he hz hst hm) hlim.1 hlim.2 (zMO hs hg hc)).mono fun e w' hq=>?_
          obtain ⟨rfl,hb⟩:=hq
          exact Good.ext hs ⟨hb.os,hb.tape,hb.output,hb.size,hb.block⟩ (.str _)
        · simp at hp
      · simp at hp
    · simp at hp
  · simp at hp
end Go.Av
namespace Go.Av
end Go.Av
namespace Go.Av
open Go.RowKit
section
variable {C:Ctx} {s:St}
end
end Go.Av
namespace Go.Av
end Go.Av
namespace Go.Av
def zrc (P:Program) (t:TypeId) (name:String) (f:FuncId) (off:Nat):Bool:=
  match P.info? t with
  | some i => match i.methods.find? (·.name == name) with
    | some m => match m.path.toList, m.func with
      | [s], some (g, pr) => !s.deref && g == f && pr && (match P.underlying s.struct with
        | some (.struct fields) => (match fields[s.index]? with
          | some fd=>fd.offset==off&&szT P fd.type==some 1&&zvL P fd.type==some false&&(match P.underlying fd.type with | some (.pointer _)=>true | _=>false)
          | none=>false)
        | _=>false)
      | _,_=>false
    | none=>false
  | none=>false
theorem zEf {P:Program} {t:TypeId} {name:String} {f:FuncId} {off:Nat} (hm:zrc P t name f off=true) (n:Nat) {s:St} {v:zaa} {cv:Value} {r:zaa} (hr:Rep s v cv) (hf:zcn [(off,1,false)] v=some r) (w:World):
    ∃ cr,(method (n+1) t cv name).run P w=.ok (f,cr) w∧Rep s r cr:=by
  unfold zrc at hm
  split at hm
  · rename_i i hi
    split at hm
    · rename_i m hfi
      split at hm
      · rename_i st g pr hp hg
        simp only [Bool.and_eq_true,Bool.not_eq_true',beq_iff_eq] at hm
        obtain ⟨⟨⟨h1,rfl⟩,rfl⟩,h2⟩:=hm
        split at h2
        · rename_i fields hu
          split at h2
          · rename_i fd hfd
            simp only [Bool.and_eq_true,beq_iff_eq] at h2
            obtain ⟨⟨⟨rfl,hz⟩,ha⟩,h3⟩:=h2
            split at h3
            · rename_i el hel
              cases v with
              | agg cs=>
                simp only [zcn] at hf
                obtain ⟨r',hr1,hr2⟩:=Option.bind_eq_some_iff.1 hf
                obtain rfl:r'=r:=Option.some.inj hr2
                cases hr with
                | agg _ vs hrl hk=>
                  obtain ⟨cr,e1,e2⟩:=zvF (P:=P) hz ha hrl hk hr1 w
                  refine ⟨cr,?_,e2⟩
                  unfold method
                  rw [Sem.run_bind,run_typeInfo w hi]
                  simp only [Result.andThen,hfi,hp,follow,hg,h1]
                  simp only [Sem.run_bind,run_underlying hu,Result.andThen_ok,hfd,Bool.false_eq_true,if_false,e1,Sem.run_pure,receiverAt,run_underlying hel,Place.get]
              | _=>simp [zcn] at hf
            · cases h3
          · cases h2
        · cases h2
      · cases hm
    · cases hm
  · cases hm
end Go.Av
