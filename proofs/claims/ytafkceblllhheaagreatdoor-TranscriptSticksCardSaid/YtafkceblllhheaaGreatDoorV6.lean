/- More equations: copies, carries, lists of words, methods of embedded pointers. -/
import Derived.Test.YtafkceblllhheaaGreatDoorV5
import Derived.ChangeKeysEq
import Derived.Laws.Externs
import Derived.Laws.Pointers
import Derived.Lib.LaidTab
import Derived.Lib.ItoaNum
import Derived.Below
set_option linter.unusedSimpArgs false
set_option linter.unusedVariables false
set_option maxHeartbeats 1000000
namespace Go.Av
def zu9 (P:Program) (t:TypeId) (name:String) (f:FuncId):Bool:=
  match P.info? t with
  | some i => match i.methods.find? (·.name == name) with
    | some m => m.path.isEmpty && (match m.func, P.underlying t with
      | some (g,pr),some d=>g==f&&(match d with | .pointer _=>pr | _=>!pr)
      | _,_=>false)
    | none=>false
  | none=>false
theorem zFF {P:Program} {t:TypeId} {name:String} {f:FuncId} (hm:zu9 P t name f=true) (n:Nat) (v:Value) (w:World):(method (n+1) t v name).run P w=.ok (f,v) w:=by
  unfold zu9 at hm
  split at hm
  · rename_i i hi
    split at hm
    · rename_i m hf
      simp only [Bool.and_eq_true] at hm
      obtain ⟨h1,h2⟩:=hm
      split at h2
      · rename_i g pr d hg hd
        simp only [Bool.and_eq_true,beq_iff_eq] at h2
        obtain ⟨rfl,h3⟩:=h2
        have hp:m.path.toList=[]:=by simpa using h1
        have hu:(underlying t).run P w=.ok d w:=run_underlying hd w
        unfold method
        rw [Sem.run_bind,run_typeInfo w hi]
        simp only [Result.andThen,hf,hp,follow,hg]
        simp only [Sem.run_bind,Sem.run_pure,Result.andThen,receiverAt,hu]
        cases d <;> simp at h3 <;> subst h3 <;> simp [Place.get,Sem.run_pure]
      · cases h2
    · cases hm
  · cases hm
noncomputable section
variable (C:Ctx) (L:Lim) (fr:Fr) (h:zab)
def zFE (m:Option (List (Nat × Nat × Bool) × FuncId)) (v:zaa) (as:List zaa):Option (zaa × zab):=match m with
  | some (path, f) => match zcm path v with
    | some r=>zae C L f (r :: as) h
    | none=>none
  | none=>none
@[simp] theorem zLQ (f:FuncId) (v:zaa) (as:List zaa):zFE C L h (some ([],f)) v as=zae C L f (v :: as) h:=rfl
def zPx (x:zaa) (name:String) (as:List zaa):Option (zaa × zab):=match x with
  | .iface t v=>zFE C L h (C.meth t name) v as
  | _=>none
@[simp] theorem zJ8 (t:TypeId) (v:zaa) (name:String) (as:List zaa):zPx C L h (.iface t v) name as=zFE C L h (C.meth t name) v as:=rfl
@[simp] theorem zLR (x:AO) (name:String) (as:List AO):zfU C L (.inv x name as) fr h=zPx C L h (C.ev fr x) name (as.map (C.ev fr)):=by
  rw [zfU.eq_def];rfl
end
def putAt {α:Type} (l:List α) (off:Nat) (m:List α):List α:=l.take off++(m++l.drop (off+m.length))
theorem zsk {α:Type} (l:List α) (off:Nat) (m:List α) (h:off+m.length≤l.length):(putAt l off m).length=l.length:=by
  simp [putAt];omega
theorem zwI:∀ (cs old rest pre:List zaa),old.length=cs.length→setAt (pre++(old++rest)) pre.length cs=pre++(cs++rest)
  | [],old,rest,pre,h=>by cases old with | nil=>simp [setAt] | cons a l=>simp at h
  | c :: cs,[],rest,pre,h=>by simp at h
  | c :: cs, a :: l, rest, pre, h => by
    have:=zwI cs l rest (pre++[c]) (by simpa using h)
    simp only [setAt]
    rw [List.set_append_right _ _ (Nat.le_refl _),Nat.sub_self]
    simpa using this
theorem zsF (l:List zaa) (off:Nat) (m:List zaa) (h:off+m.length≤l.length):setAt l off m=putAt l off m:=by
  have h1:l=l.take off++((l.drop off).take m.length++l.drop (off+m.length)):=by
    rw [← List.drop_drop,List.take_append_drop,List.take_append_drop]
  have h2:=zwI m ((l.drop off).take m.length) (l.drop (off+m.length)) (l.take off) (by simp;omega)
  rw [← h1,List.length_take,Nat.min_eq_left (by omega)] at h2
  exact h2
theorem zzF (k:IntKind) (l:List Int) (off:Nat) (m:List Int) (h:off+m.length≤l.length):setAt (cI k l) off (cI k m)=cI k (putAt l off m):=by
  rw [zsF _ _ _ (by simpa using h)]
  simp [putAt,cI]
def zAO (L:Lim) (h:zab) (sz:Nat) (x y:zaa):Option (zaa × zab):=(zaK h sz y).bind fun es=>
  if zgR sz es=true∧ziC sz y=true then (match x with
    | .sl b off s n _=>if s=sz then (zcF L h (.ptr b off) (es.take (min es.length n)).flatten).map fun h=>(.int .i64 ((min es.length n:Nat):Int),h) else none
    | _=>none) else none
@[simp] theorem zMo (C:Ctx) (L:Lim) (fr:Fr) (h:zab) (sz:Nat) (x y:AO):zhG C L fr h (.copy sz x y)=zAO L h sz (C.ev fr x) (C.ev fr y):=by
  simp only [zhG,zAO,bind]
  congr 1
@[simp] theorem zw9 (y:zaa):ziC 1 y=true:=by cases y <;> rfl
theorem zDQ (k : IntKind) (l : List Int) : zas 0 0 (cI k l) = true := zrH fun c hc => by
  simp only [cI,List.mem_map] at hc;obtain ⟨x,_,rfl⟩:=hc;rfl
attribute [simp] zDQ
theorem zDR (L:Lim) (h:zab) (bs:List (List zaa)) (ts:List Nat) (i off n:Nat) (cap:Option Nat) (k:IntKind) (l m:List Int) (y:zaa) (hy:zaK (hx h bs ts) 1 y=some (eI k l)) (hb:bs[i]?=some (cI k m))
    (hn:off+min l.length n≤m.length) (hL:L.rob≤h.blks.length):
    zAO L (hx h bs ts) 1 (sA h.blks.length i off 1 n cap) y=some (.int .i64 ((min l.length n:Nat):Int),hx h (bs.set i (cI k (putAt m off (l.take (min l.length n))))) ts):=by
  have e1:((eI k l).take (min l.length n)).flatten=cI k (l.take (min l.length n)):=by
    rw [← zCo];simp [eI]
  have hs:=zao h bs ts L i off (cI k (l.take (min l.length n))) (by simp [hL])
  rw [hb] at hs
  simp only [zyL,zGX] at hs
  rw [decide_eq_true (by simp;omega),zyJ,zzF _ _ _ _ (by simp;omega)] at hs
  unfold zAO
  rw [hy]
  simp only [Option.bind_some,zId,zw9,sA,and_self,if_true,zLr]
  rw [e1]
  simp only [pA] at hs
  rw [hs]
  rfl
def zzG (L:Lim) (h:zab) (zero:List zaa) (x:zaa):Option (zaa × zab):=match x with
  | .sl b off s n _=>if s=zero.length then (zcF L h (.ptr b off) (rep zero n)).map fun h=>(.tup [],h) else none
  | _=>none
@[simp] theorem zKo (C:Ctx) (L:Lim) (fr:Fr) (h:zab) (z:List zaa) (x:AO):zhG C L fr h (.clear z x)=zzG L h z (C.ev fr x):=by
  simp only [zhG,zzG]
  cases C.ev fr x <;> rfl
theorem zGq (L:Lim) (h:zab) (bs:List (List zaa)) (ts:List Nat) (i off n:Nat) (cap:Option Nat) (k:IntKind) (z:Int) (m:List Int) (hb:bs[i]?=some (cI k m)) (hn:off+n≤m.length) (hL:L.rob≤h.blks.length):
    zzG L (hx h bs ts) [.int k z] (sA h.blks.length i off 1 n cap)=some (.tup [],hx h (bs.set i (cI k (putAt m off (tab n fun _=>z)))) ts):=by
  have hs:=zao h bs ts L i off (cI k (tab n fun _=>z)) (by simp [hL])
  rw [hb] at hs
  simp only [zyL,zGX,zyj] at hs
  rw [decide_eq_true hn,zyJ,zzF _ _ _ _ (by simpa using hn)] at hs
  unfold zzG
  simp only [sA,List.length_singleton,if_true,zgd,zgl]
  simp only [pA] at hs
  rw [hs]
  rfl
theorem zDU (sz m i len c:Nat) (cap:Option Nat) (kd:IntKind) (h:(decide (c < len)&&decide (len≤cap.getD len))=true):zdE .slc sz (sA m i 0 sz len cap) (some (.int kd (c:Int))) none none=some (sA m i (c*sz) sz (len - c) (cap.map (· - c))):=by
  simp only [Bool.and_eq_true,decide_eq_true_eq] at h
  obtain ⟨h1,h3⟩:=h
  have h0:¬len=c:=by omega
  have h4:c≤len:=by omega
  simp [zdE,sA,ziq,h0,h3,h4]
theorem zMr (n m i:Nat) (es:List (List zaa)):gA (n+m) i es=gA n (m+i) es:=by simp [gA,Nat.add_assoc]
theorem zyx (L:Lim) (h:zab) (bs:List (List zaa)) (ts:List Nat) (sz:Nat) (c:Bool) (es ys:List (List zaa))
    (hc:(zgR sz ys&&zgR sz es&&decide (L.rot≤h.toks.length)&&decide (es.length+ys.length < zau))=true):
    zrj L (hx h bs (ts++gT es)) sz false (gL .nsl h.toks.length ts.length es) (.vsl c ys)=some (gL .nsl h.toks.length ts.length (es++ys),hx h bs (ts++gT (es++ys))):=by
  simp only [Bool.and_eq_true,decide_eq_true_eq] at hc
  have e1:∀ q,hx (hx h [] ts) bs q=hx h bs (ts++q):=fun q=>by simp
  have e2 : ∀ es, gL .nsl (hx h [] ts).toks.length 0 es = gL .nsl h.toks.length ts.length es := fun es => by
    unfold gL;split
    · rfl
    · rw [zaj,zMr];rfl
  have:=zvz L (hx h [] ts) bs sz c es ys (by simp only [Bool.and_eq_true,decide_eq_true_eq,zaj];exact ⟨⟨⟨hc.1.1.1,hc.1.1.2⟩,by omega⟩,hc.2⟩)
  rw [e1,e1,e2,e2] at this
  exact this
end Go.Av
namespace Go.Av
theorem zCW {C:Ctx} {P:Program} {L:Lim} {f:FuncId} {fn:Func} {e:Array Value→Sem Value} (hf:P.funcs[f]?=some fn) (hname:(fn.name== "runtime.NumGoroutine")=false)
    (hb:fn.body.isNone=true) (hn:Extern.findNext fn=none) (he:Extern.find fn=some e) {args:List zaa} {h:zab} {v:zaa}
    (hr:∀ (s:St) (cargs:Array Value),zbz s args cargs.toList→∃ cv,(e cargs).run P s.w=.ok cv s.w∧Rep s v cv):zfR C P L f args h v h:=by
  refine ⟨zir.refl L h,fun s cargs hh hs hL hrep=>?_⟩
  subst hh
  obtain ⟨cv,h1,h2⟩:=hr s cargs hrep
  refine ⟨.value cv,s.w,?_,.inl ⟨cv,.inl rfl,Good.same hs h2⟩⟩
  rw [run_callFunc_extern hf hname hb hn he,h1]
  rfl
def zHb (g : Nat → Nat → Nat → Nat × Nat) : zJ6 := ⟨fun _ args h => match args with
  | [.int .u64 x,.int .u64 y,.int .u64 c]=>if (decide (0≤x)&&decide (0≤y)&&decide (0≤c)&&decide (c≤1))=true then some (.inl (.tup [.int .u64 (g x.toNat y.toNat c.toNat).1,.int .u64 (g x.toNat y.toNat c.toNat).2],h)) else none
  | _=>none,fun _ _ _=>none⟩
def zNm (x y c:Nat):Nat × Nat:=((x+y+c) % 18446744073709551616,(x+y+c) / 18446744073709551616)
def zNn (x y b:Nat):Nat × Nat:=((x+18446744073709551616 - y - b) % 18446744073709551616,if x < y+b then 1 else 0)
def zLO:zJ6:=zHb zNm
def zMt:zJ6:=zHb zNn
def zzL : Array Value → Sem Value := fun args => do
  let (x,y,b) ← Extern.MathBitsCarry.three "Sub64" args
  pure (Extern.MathBitsCarry.pair ((x+Extern.MathBitsCarry.m64 - y - b) % Extern.MathBitsCarry.m64) (if x < y+b then 1 else 0))
theorem zGB {P:Program} (x y c:Nat) (hc:c≤1) (w:World):
    (add64Entry #[.int .u64 x,.int .u64 y,.int .u64 c]).run P w=.ok (.tuple #[.int .u64 (zNm x y c).1,.int .u64 (zNm x y c).2]) w:=by
  have:c=0∨c=1:=by omega
  rcases this with rfl | rfl <;> rfl
theorem zGC {P:Program} (x y b:Nat) (hb:b≤1) (w:World):
    (zzL #[.int .u64 x,.int .u64 y,.int .u64 b]).run P w=.ok (.tuple #[.int .u64 (zNn x y b).1,.int .u64 (zNn x y b).2]) w:=by
  have:b=0∨b=1:=by omega
  rcases this with rfl | rfl <;> rfl
theorem zMw {s:St} {a b c:zaa} {vs:Array Value} (h:zbz s [a,b,c] vs.toList):∃ x y z,vs=#[x,y,z]∧Rep s a x∧Rep s b y∧Rep s c z:=by
  obtain ⟨l⟩:=vs
  simp only at h
  cases h with
  | cons _ x _ l1 h1 h=>
    cases h with
    | cons _ y _ l2 h2 h=>
      cases h with
      | cons _ z _ l3 h3 h=>
        cases h
        exact ⟨x,y,z,rfl,h1,h2,h3⟩
theorem zyz {s:St} {k:IntKind} {n:Int} {v:Value} (h:Rep s (.int k n) v):v=.int k n:=by cases h;rfl
theorem zD4 {C:Ctx} {P:Program} {f:FuncId} {fn:Func} {e:Array Value→Sem Value} {g:Nat→Nat→Nat→Nat × Nat} (hf:P.funcs[f]?=some fn) (hname:(fn.name== "runtime.NumGoroutine")=false)
    (hb:fn.body.isNone=true) (hn:Extern.findNext fn=none) (he:Extern.find fn=some e)
    (hr:∀ (x y c:Nat),c≤1→∀ w,(e #[.int .u64 x,.int .u64 y,.int .u64 c]).run P w=.ok (.tuple #[.int .u64 (g x y c).1,.int .u64 (g x y c).2]) w)
    {L:Lim} {args:List zaa} {h:zab} {v:zaa} {h':zab} (hp:(zHb g).pre L args h=some (.inl (v,h'))):zfR C P L f args h v h':=by
  unfold zHb at hp
  simp only at hp
  split at hp
  · rename_i x y c
    split at hp
    · rename_i hc
      simp only [Bool.and_eq_true,decide_eq_true_eq] at hc
      simp only [Option.some.injEq,Sum.inl.injEq,Prod.mk.injEq] at hp
      obtain ⟨rfl,rfl⟩:=hp
      refine zCW hf hname hb hn he fun s cargs hrep=>?_
      obtain ⟨a,b,d,rfl,h1,h2,h3⟩:=zMw hrep
      obtain rfl:=zyz h1
      obtain rfl:=zyz h2
      obtain rfl:=zyz h3
      refine ⟨_,?_,.tup _ #[.int .u64 (g x.toNat y.toNat c.toNat).1,.int .u64 (g x.toNat y.toNat c.toNat).2] (.cons _ _ _ _ (.int ..) (.cons _ _ _ _ (.int ..) .nil))⟩
      have:=hr x.toNat y.toNat c.toNat (by omega) s.w
      rw [show ((x.toNat:Nat):Int)=x by omega,show ((y.toNat:Nat):Int)=y by omega,show ((c.toNat:Nat):Int)=c by omega] at this
      exact this
    · cases hp
  · cases hp
theorem zzO {g:Nat→Nat→Nat→Nat × Nat} {L:Lim} {args:List zaa} {h:zab} {q:FuncId × List zaa × zab}:(zHb g).pre L args h≠some (.inr q):=by
  unfold zHb
  simp only
  split
  · split <;> simp
  · simp
theorem zD5 {C:Ctx} {L:Lim} {f:FuncId} {h:zab} (hx:C.ext f=some zLO) (x y:W64) (c:Nat) (hc:c≤1):
    zae C L f [wd x,wd y,.int .u64 (c:Int)] h=some (.tup [wd (BitVec.ofNat 64 (x.toNat+y.toNat+c)),.int .u64 (((x.toNat+y.toNat+c) / 18446744073709551616:Nat):Int)],h):=by
  rw [zv8 C L h hx]
  have:(decide (0≤(x.toNat:Int))&&decide (0≤(y.toNat:Int))&&decide (0≤(c:Int))&&decide ((c:Int)≤1))=true:=by simp;omega
  simp only [zLO,zHb,wd,if_pos this,Option.bind_some,zNm,Int.toNat_natCast,BitVec.toNat_ofNat]
theorem zD6 {C:Ctx} {L:Lim} {f:FuncId} {h:zab} (hx:C.ext f=some zMt) (x y:W64) (c:Nat) (hc:c≤1):
    zae C L f [wd x,wd y,.int .u64 (c:Int)] h=some (.tup [wd (BitVec.ofNat 64 (x.toNat+18446744073709551616 - y.toNat - c)),.int .u64 ((if x.toNat < y.toNat+c then 1 else 0:Nat):Int)],h):=by
  rw [zv8 C L h hx]
  have:(decide (0≤(x.toNat:Int))&&decide (0≤(y.toNat:Int))&&decide (0≤(c:Int))&&decide ((c:Int)≤1))=true:=by simp;omega
  simp only [zMt,zHb,wd,if_pos this,Option.bind_some,zNn,Int.toNat_natCast,BitVec.toNat_ofNat]
end Go.Av
namespace Go.Av
theorem zHm (h:zab) (bs:List (List zaa)) (ts:List Nat) (nt n i m:Nat) (cap:Option Nat) (k:IntKind) (l:List Int) (hb:bs[i]?=some (cI k l)) (hl:m≤l.length):
    frz (hx h bs ts) h.blks.length nt (n+1) (sA h.blks.length i 0 1 m cap)=some (.vsl false (eI k (l.take m))):=by
  have e1:(hx h bs ts).blks[h.blks.length+i]?=some (cI k l):=zqb ts hb
  have e2:chunks 1 m (cI k l)=eI k (l.take m):=by
    have key:∀ (m:Nat) (l:List Int),m≤l.length→chunks 1 m (cI k l)=eI k (l.take m):=by
      intro m
      induction m with
      | zero=>intro l _;simp [chunks]
      | succ m ih=>
        intro l hl
        cases l with
        | nil=>simp at hl
        | cons x l=>
          have:=ih l (by simpa using hl)
          simp only [chunks,cI,List.map_cons,List.take_succ_cons,List.take_zero,List.drop_succ_cons,List.drop_zero] at this ⊢
          rw [this];rfl
    exact key m l hl
  simp only [sA,frz]
  rw [if_neg (by omega)]
  simp only [zaK,ne_eq,not_true,if_false,e1,Option.bind_some,List.drop_zero]
  rw [if_pos (by simpa using hl),e2]
  simp [zBf]
def zvx (l:List W64):List Int:=l.map fun w=>(w.toNat:Int)
theorem zsI (l:List W64):cW l=cI .u64 (zvx l):=by simp [cW,cI,zvx,wd]
theorem zsJ (l:List W64):eW l=eI .u64 (zvx l):=by simp [eW,eI,zvx,wd]
@[simp] theorem zNK (l:List W64):(zvx l).length=l.length:=by simp [zvx]
@[simp] theorem zxh (l:List W64) (n:Nat):(zvx l).take n=zvx (l.take n):=by simp [zvx]
@[simp] theorem zJB (l:List W64):zgR 1 (eW l)=true:=by rw [zsJ];simp
@[simp] theorem zNL (nb nt:Nat) (l:List W64):zaF nb nt (eW l)=true:=by rw [zsJ];simp
@[simp] theorem zPF:eW []=[]:=rfl
theorem zzP (h:zab) (bs:List (List zaa)) (ts:List Nat) (nt n i m:Nat) (cap:Option Nat) (l:List W64) (hb:bs[i]?=some (cW l)) (hl:l.length=m):
    frz (hx h bs ts) h.blks.length nt (n+1) (sA h.blks.length i 0 1 m cap)=some (.vsl false (eW l)):=by
  rw [zsI] at hb
  rw [zHm h bs ts nt n i m cap .u64 (zvx l) hb (by simp;omega),zsJ,List.take_of_length_le (by simp;omega)]
@[simp] theorem zOW (h:zab) (nb nt n:Nat) (c:Bool) (l:List W64):frz h nb nt (n+1) (.vsl c (eW l))=some (.vsl false (eW l)):=ziF h nb nt n c (by simp)
@[simp] theorem zOX (h:zab) (nb nt n i:Nat) (l:List W64):frz h nb nt (n+1) (gA nt i (eW l))=some (.vsl false (eW l)):=zB2 h nb nt n i _ (by simp)
theorem zzQ (h:zab) (nb nt n b off sz m:Nat) (cap:Option Nat) (hb:decide (b < nb)=true):frz h nb nt (n+1) (.sl b off sz m cap)=some (.sl b off sz m cap):=by
  simp only [frz]
  rw [if_pos (by simpa using hb)]
@[simp] theorem zD8 (h:zab) (sz:Nat) (c:Bool) (es:List (List zaa)):zaK h sz (.vsl c es)=some es:=by simp only [zaK]
def LsW (h:zab) (x:zaa) (l:List W64):Prop:=RdW h x l∧∀ bs ts,zaK (hx h bs ts) 1 x=some (eW l)
theorem LsW.ext {h:zab} {x:zaa} {l:List W64} (hr:LsW h x l) (bs:List (List zaa)) (ts:List Nat):LsW (hx h bs ts) x l:=
  ⟨hr.1.ext bs ts,fun bs' ts'=>by rw [zBo];exact hr.2 _ _⟩
theorem LsW.vsl (h:zab) (c:Bool) (l:List W64):LsW h (.vsl c (eW l)) l:=⟨RdW.vsl h c l,fun bs ts=>by simp only [zaK]⟩
theorem zHp (k:IntKind) (a b:Nat):zqI true (.int k (a:Int)) [.int k (b:Int)]=some (.int k ((max a b:Nat):Int)):=by
  simp only [zqI,zLP,bind,Option.bind_some]
  by_cases hab:a < b
  · have h1 : ((b : Int) > (a : Int)) := by omega
    simp only [if_true,if_pos h1,show max a b=b by omega]
  · have h1 : ¬ ((b : Int) > (a : Int)) := by omega
    simp only [if_true,if_neg h1,show max a b=a by omega]
theorem zfC (n i off len k:Nat) (cap:Option Nat) (h:decide (k < len)=true):zc1 none 1 (sA n i off 1 len cap) (.int .i64 (k:Int))=some (pA n i (off+k)):=by
  have:=zrO n i off 1 len k cap .i64 h
  rwa [Nat.mul_one] at this
theorem zHq (h:zab) (bs:List (List zaa)) (ts:List Nat) (i n:Nat) (cap:Option Nat) (k:IntKind) (l:List Int) (hb:bs[i]?=some (cI k l)) (hl:l.length=n):
    fzA (hx h bs ts) (sA h.blks.length i 0 1 n cap)=some (.vsl false (eI k l),true):=by
  have he:=zuP h bs ts i n (cI k l) cap hb (by simpa using hl)
  rw [zq5] at he
  simp only [sA] at he ⊢
  simp only [fzA,he,bind,Option.bind_some]
theorem zEd {m:Mode} {h:zab} {n:Nat} {res:List zwB} {as:List zaa} {r:Option (AEx × Fr × zab)} {v:zaa} {h':zab} (h1:zEh m h n res as false r=some (v,h')) (hv:v.flat=true):zEh m h n res as true r=some (v,h'):=by
  unfold zEh zH5 zJT at h1 ⊢
  cases r with
  | none=>exact h1
  | some r=>
    simp only [Option.bind_some] at h1 ⊢
    split at h1
    · rename_i hc
      rw [if_pos hc]
      cases hr:zqS r.2.1 r.2.2 res with
      | none=>rw [hr] at h1;exact h1
      | some vs=>
        rw [hr] at h1
        simp only [Option.bind_some] at h1 ⊢
        rw [zAv] at h1
        rw [h1,zwj _ _ hv]
    · cases h1
end Go.Av
namespace Go.Av
section
variable {C:Ctx} {P:Program} {D:FuncId}
end
end Go.Av
namespace Go.Av
noncomputable section
variable (C:Ctx) (L:Lim) (fr:Fr) (h:zab)
def zBq (m:Option (List (Nat × Nat × Bool) × FuncId)) (v:zaa) (as:List zaa):Option zaa:=match m with
  | some (path, f) => match zcm path v with
    | some r=>zIL (zac C f) (zae C L f (r :: as) h)
    | none=>none
  | none=>none
@[simp] theorem zKx (f:FuncId) (v:zaa) (as:List zaa):zBq C L h (some ([],f)) v as=zIL (zac C f) (zae C L f (v :: as) h):=rfl
def zHC (x:zaa) (name:String) (as:List zaa):Option zaa:=match x with
  | .iface t v=>zBq C L h (C.meth t name) v as
  | _=>none
@[simp] theorem zHz (t:TypeId) (v:zaa) (name:String) (as:List zaa):zHC C L h (.iface t v) name as=zBq C L h (C.meth t name) v as:=rfl
@[simp] theorem zKz (x:AO) (name:String) (as:List AO):zjB C L (.inv x name as) fr h=zHC C L h (C.ev fr x) name (as.map (C.ev fr)):=by
  rw [zjB.eq_def]
  simp only [zHC,zBq,zIL]
  generalize C.ev fr x=v
  cases v <;> try rfl
  rename_i t v
  simp only
  cases C.meth t name with
  | none=>rfl
  | some q=>
    simp only
    cases zcm q.1 v with
    | none=>rfl
    | some r=>
      simp only
      split
      · cases zae C L q.2 (r :: as.map (C.ev fr)) h <;> rfl
      · rfl
end
end Go.Av
namespace Go.Av
def zsV:AC:=.reg [iv 2 (.mv (.k (.nsl)))]
def zqp:AC:=.cond (.t 4) (.seq (.reg [iv 2 (.mv (.k (.nsl)))]) (.ret)) (.skip)
def zMF (sz:Nat) (z:List zaa):AC:=.seq (.reg [iv 5 (.slit sz 0 z []),iv 6 (.mv (.t 0)),ic 7 (.app sz false (.t 5) (.t 6)),iv 2 (.mv (.t 7))]) (.ret)
def zHH (sz:Nat) (z:List zaa):AFn:=⟨8,zMF sz z,[.tmp 2],some (zsV,3,4,zqp)⟩
theorem zHy {L:Lim} {h:zab} {sz:Nat} {y:zaa} {ys:List (List zaa)} (hy:zaK h sz y=some ys) (hstr:ziC sz y=true) (hsz:zgR sz ys=true) (hr:L.rot≤h.toks.length) (hroom:ys.length < zau):
    zrj L h sz false (.vsl true []) y=some (gL (.vsl true []) h.toks.length 0 ys,hx h [] (gT ys)):=by
  have:=zEc (L:=L) (h:=h) (bs:=[]) (sz:=sz) (s:=.vsl true []) (y:=y) (es:=[]) (ys:=ys) (.inr rfl) (by rw [show gT []=[] from rfl,zyI];exact hy) hstr hsz rfl hr (by simpa using hroom)
  rw [show gL (.vsl true []) h.toks.length 0 []=.vsl true [] from rfl,show gT []=[] from rfl,List.nil_append,zyI] at this
  exact this
theorem zNX (sz:Nat) (z:List zaa):zaE (rep z 0) []=some []:=rfl
theorem zHJ (hh:zab) (nb nt m:Nat) (es:List (List zaa)) (hu:zaF nb nt es=true):frz hh nb nt (m+1) (gL (.vsl true []) nt 0 es)=some (.vsl false es):=zsL (.inr rfl) hu
theorem zyK {C:Ctx} {L:Lim} {h:zab} {f:FuncId} {sz:Nat} {z:List zaa} (hx1:C.ext f=none) (hm:C.mode f=roM) (hf:C.fns f=some (zHH sz z)) (x:zaa) (es:List (List zaa)) (he:zaK h sz x=some es) (hs:ziC sz x=true)
    (hn:∃ nb,zp1 x=some nb) (hz:zgR sz es=true) (hu:zaF h.blks.length h.toks.length es=true) (hroom:es.length < zau):zae C L f [x] h=some (.vsl false es,h):=by
  obtain ⟨nb,hn⟩:=hn
  have hap:=zHy (L:=zav h) he hs hz (Nat.le_refl _) hroom
  have hg:=fun hh m=>zHJ hh h.blks.length h.toks.length m es hu
  have hch:chunks sz 0 []=[]:=rfl
  have hfl:=zNX sz z
  have hlast : ∀ fr : Fr, fr 0 = x → ∃ fr', run C (zav h) (zMF sz z) fr h = some (.ret, fr', hx h [] (gT es)) ∧ fr' 2 = gL (.vsl true []) h.toks.length 0 es := fun fr h0 => by
    simp -implicitDefEqProofs [zMF,h0,hfl,hch,hap]
  have hfin : ∀ (fr' : Fr), fr' 2 = gL (.vsl true []) h.toks.length 0 es → zsW roM (zHH sz z) ([x], false) h (.ret, fr', hx h [] (gT es)) = some (.vsl false es, h) := fun fr' h2 => by
    simp -implicitDefEqProofs [zsW,zHH,zqS,h2,hg,zxk,zs0]
  rw [zae.eq_def]
  simp only [hx1,hf,hm,bind,Option.bind_some,zGz,zEA]
  have hq:(zHH sz z).pre=some (zsV,3,4,zqp):=rfl
  have hc:(zHH sz z).code=zMF sz z:=rfl
  simp only [hq,hc]
  have r0:run C (zav h) zsV (fun i=>[x].getD i zaP) h=some (.normal,upd (fun i=>[x].getD i zaP) 2 .nsl,h):=by simp [zsV]
  rw [r0]
  simp only [Option.bind_some,if_true]
  have hx0:upd (fun i=>[x].getD i zaP) 2 .nsl 0=x:=rfl
  rw [hx0,hn]
  simp only [Option.bind_some]
  have rF : run C (zav h) zqp (zA1 (zsV, 3, 4, zqp) (upd (fun i => [x].getD i zaP) 2 .nsl) false) h = some (.normal, zA1 (zsV, 3, 4, zqp) (upd (fun i => [x].getD i zaP) 2 .nsl) false, h) := by
    simp [zqp,zA1,upd]
  have rT : run C (zav h) zqp (zA1 (zsV, 3, 4, zqp) (upd (fun i => [x].getD i zaP) 2 .nsl) true) h = some (.ret, upd (zA1 (zsV, 3, 4, zqp) (upd (fun i => [x].getD i zaP) 2 .nsl) true) 2 .nsl, h) := by
    simp [zqp,zA1,upd]
  obtain ⟨fr',hl1,hl2⟩:=hlast (zA1 (zsV,3,4,zqp) (upd (fun i=>[x].getD i zaP) 2 .nsl) false) rfl
  have hnilfin : ∀ fr : Fr, fr 2 = .nsl → zsW roM (zHH sz z) ([x], false) h (.ret, fr, h) = some (.vsl false [], h) := fun fr h2 => by
    have hfz:∀ (hh:zab) nb nt m,frz hh nb nt (m+1) .nsl=some (.vsl false []):=fun hh nb nt m=>by simp [frz]
    simp -implicitDefEqProofs [zsW,zHH,zqS,h2,zxk,zs0,hfz]
  cases nb with
  | some b=>
    cases b with
    | true=>
      have hxn:x=.nsl:=by
        unfold zp1 at hn
        split at hn
        · rename_i b hb
          obtain rfl:=Option.some.inj (Option.some.inj hn)
          unfold eqA at hb
          split at hb <;> first | rfl | simp_all
        · split at hn <;> simp at hn
      subst hxn
      have hes:es=[]:=by simpa [zaK] using he.symm
      subst hes
      simp only [rT,Option.bind_some]
      exact hnilfin _ (by simp [upd])
    | false=>
      simp only [rF,Option.bind_some,hl1]
      exact hfin _ hl2
  | none=>
    have hxn:∃ c,x=.vsl c []:=by
      unfold zp1 at hn
      split at hn
      · simp at hn
      · split at hn
        · exact ⟨_,rfl⟩
        · simp at hn
    obtain ⟨c,rfl⟩:=hxn
    have hes:es=[]:=by simpa [zaK] using he.symm
    subst hes
    simp only [rT,rF,Option.bind_some,and_self,if_true,hl1]
    have e1:=hnilfin (upd (zA1 (zsV,3,4,zqp) (upd (fun i=>[zaa.vsl c []].getD i zaP) 2 .nsl) true) 2 .nsl) (by simp [upd])
    have e2:=hfin _ hl2
    rw [if_pos (by rw [hm];exact e1.trans e2.symm)]
    exact e2
theorem zBA (c:Bool) (es:List (List zaa)):∃ nb,zp1 (.vsl c es)=some nb:=by cases es <;> exact ⟨_,rfl⟩
end Go.Av
namespace Go.Av
open Go.RowKit
section
variable {C:Ctx} {s:St}
end
end Go.Av
namespace Go.Av
end Go.Av
namespace Go.Av
open Go.RowKit
section
variable {C:Ctx} {s:St}
end
end Go.Av
namespace Go.Av
end Go.Av
namespace Go.Av
def zrb (P:Program) (t:TypeId) (name:String) (f:FuncId) (off:Nat):Bool:=
  match P.info? t with
  | some i => match i.methods.find? (·.name == name) with
    | some m => match m.path.toList, m.func with
      | [s], some (g, pr) => !s.deref && g == f && pr && (match P.underlying s.struct with
        | some (.struct fields) => (match fields[s.index]? with
          | some fd=>fd.offset==off&&szT P fd.type==some 1&&zvG P fd.type==some false&&(match P.underlying fd.type with | some (.pointer _)=>true | _=>false)
          | none=>false)
        | _=>false)
      | _,_=>false
    | none=>false
  | none=>false
theorem zDi {P:Program} {t:TypeId} {name:String} {f:FuncId} {off:Nat} (hm:zrb P t name f off=true) (n:Nat) {s:St} {v:zaa} {cv:Value} {r:zaa} (hr:Rep s v cv) (hf:zcm [(off,1,false)] v=some r) (w:World):
    ∃ cr,(method (n+1) t cv name).run P w=.ok (f,cr) w∧Rep s r cr:=by
  unfold zrb at hm
  split at hm
  · rename_i i hi
    split at hm
    · rename_i m hfi
      split at hm
      · rename_i st g pr hp hg
        simp only [Bool.and_eq_true,Bool.not_eq_true',beq_iff_eq] at hm
        obtain ⟨⟨⟨h1,rfl⟩,rfl⟩,h2⟩:=hm
        split at h2
        · rename_i fields hu
          split at h2
          · rename_i fd hfd
            simp only [Bool.and_eq_true,beq_iff_eq] at h2
            obtain ⟨⟨⟨rfl,hz⟩,ha⟩,h3⟩:=h2
            split at h3
            · rename_i el hel
              cases v with
              | agg cs=>
                simp only [zcm] at hf
                obtain ⟨r',hr1,hr2⟩:=Option.bind_eq_some_iff.1 hf
                obtain rfl:r'=r:=Option.some.inj hr2
                cases hr with
                | agg _ vs hrl hk=>
                  obtain ⟨cr,e1,e2⟩:=zut (P:=P) hz ha hrl hk hr1 w
                  refine ⟨cr,?_,e2⟩
                  unfold method
                  rw [Sem.run_bind,run_typeInfo w hi]
                  simp only [Result.andThen,hfi,hp,follow,hg,h1]
                  simp only [Sem.run_bind,run_underlying hu,Result.andThen_ok,hfd,Bool.false_eq_true,if_false,e1,Sem.run_pure,receiverAt,run_underlying hel,Place.get]
              | _=>simp [zcm] at hf
            · cases h3
          · cases h2
        · cases h2
      · cases hm
    · cases hm
  · cases hm
end Go.Av
