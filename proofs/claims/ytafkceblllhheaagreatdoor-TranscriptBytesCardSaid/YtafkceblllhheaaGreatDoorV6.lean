/- More equations: copies, carries, lists of words, methods of embedded pointers. -/
import Derived.Test.YtafkceblllhheaaGreatDoorV5
import Derived.ChangeKeysEq
import Derived.Laws.Externs
import Derived.Laws.Pointers
import Derived.Lib.LaidTab
import Derived.Lib.ItoaNum
import Derived.Below
set_option linter.unusedSimpArgs false
set_option linter.unusedVariables false
set_option maxHeartbeats 1000000
namespace Go.Av
def Lp (P:Program)(t:TypeId)(name:String)(f:FuncId):Bool:=
 match P.info? t with
 | some i => match i.methods.find? (·.name == name) with
  | some m => m.path.isEmpty && (match m.func, P.underlying t with
   | some (g,pr),some d=>g==f&&(match d with | .pointer _=>pr | _=>!pr)
   | _,_=>false)
  | none=>false
 | none=>false
theorem zdL {P:Program}{t:TypeId}{name:String}{f:FuncId}(hm:Lp P t name f=true)(n:Nat)(v:Value)(w:World):(method (n+1) t v name).run P w=.ok (f,v) w:=by
 unfold Lp at hm;split at hm
 ·rename_i i hi;split at hm
  ·rename_i m hf;simp only [Bool.and_eq_true] at hm;obtain ⟨h1,h2⟩:=hm;split at h2
   ·rename_i g pr d hg hd;simp only [Bool.and_eq_true,beq_iff_eq] at h2;obtain ⟨rfl,h3⟩:=h2;have hp:m.path.toList=[]:=by simpa using h1
    have hu:(underlying t).run P w=.ok d w:=run_underlying hd w;unfold method;rw [Sem.run_bind,run_typeInfo w hi];simp only [Result.andThen,hf,hp,follow,hg];simp only [Sem.run_bind,Sem.run_pure,Result.andThen,receiverAt,hu]
    cases d <;> simp at h3 <;> subst h3 <;> simp [Place.get,Sem.run_pure]
   ·cases h2
  ·cases hm
 ·cases hm
noncomputable section
variable (C:eD) (L:az) (fr:Fr) (h:O)
def YM (m:Option (List (Nat × Nat × Bool) × FuncId))(v:J)(as:List J):Option (J × O):=match m with
 | some (path, f) => match gJ path v with
  | some r=>Z C L f (r :: as) h
  | none=>none
 | none=>none
@[simp] theorem zmV (f:FuncId)(v:J)(as:List J):YM C L h (some ([],f)) v as=Z C L f (v :: as) h:=rfl
def zos (x:J)(name:String)(as:List J):Option (J × O):=match x with
 | .iface t v=>YM C L h (C.meth t name) v as
 | _=>none
@[simp] theorem zkW (t:TypeId)(v:J)(name:String)(as:List J):zos C L h (.iface t v) name as=YM C L h (C.meth t name) v as:=rfl
@[simp] theorem zmX (x:AO)(name:String)(as:List AO):iX C L (.inv x name as) fr h=zos C L h (C.ev fr x) name (as.map (C.ev fr)):=by
 rw [iX.eq_def];rfl
end
def putAt {α:Type}(l:List α)(off:Nat)(m:List α):List α:=l.take off++(m++l.drop (off+m.length))
theorem Jt {α:Type}(l:List α)(off:Nat)(m:List α)(h:off+m.length<=l.length):(putAt l off m).length=l.length:=by
 simp [putAt];omega
theorem PK:∀ (cs old rest pre:List J),old.length=cs.length->setAt (pre++(old++rest)) pre.length cs=pre++(cs++rest)
 | [],old,rest,pre,h=>by cases old with | nil=>simp [setAt] | cons a l=>simp at h
 | c :: cs,[],rest,pre,h=>by simp at h
 | c :: cs, a :: l, rest, pre, h => by
  have:=PK cs l rest (pre++[c]) (by simpa using h);simp only [setAt];rw [List.set_append_right _ _ (Nat.le_refl _),Nat.sub_self];simpa using this
theorem Ju (l:List J)(off:Nat)(m:List J)(h:off+m.length<=l.length):setAt l off m=putAt l off m:=by
 have h1:l=l.take off++((l.drop off).take m.length++l.drop (off+m.length)):=by
  rw [<- List.drop_drop,List.take_append_drop,List.take_append_drop]
 have h2:=PK m ((l.drop off).take m.length) (l.drop (off+m.length)) (l.take off) (by simp;omega);rw [<- h1,List.length_take,Nat.min_eq_left (by omega)] at h2;exact h2
theorem Mu (k:IntKind)(l:List Int)(off:Nat)(m:List Int)(h:off+m.length<=l.length):setAt (cI k l) off (cI k m)=cI k (putAt l off m):=by
 rw [Ju _ _ _ (by simpa using h)];simp [putAt,cI]
def PL (L:az)(h:O)(sz:Nat)(x y:J):Option (J × O):=(aN h sz y).bind fun es=>
 if eo sz es=true/\lO sz y=true then (match x with
  | .sl b off s n _=>if s=sz then (dX L h (.ptr b off) (es.take (min es.length n)).flatten).map fun h=>(.int .i64 ((min es.length n:Nat):Int),h) else none
  | _=>none) else none
@[simp] theorem zmZ (C:eD)(L:az)(fr:Fr)(h:O)(sz:Nat)(x y:AO):fU C L fr h (.copy sz x y)=PL L h sz (C.ev fr x) (C.ev fr y):=by
 simp only [fU,PL,bind]
 congr 1
@[simp] theorem Jw (y:J):lO 1 y=true:=by cases y <;> rfl
theorem za9 (k : IntKind)(l : List Int) : aE 0 0 (cI k l) = true := Jc fun c hc => by
 simp only [cI,List.mem_map] at hc;obtain ⟨x,_,rfl⟩:=hc;rfl
attribute [simp] za9
theorem YT (L:az)(h:O)(bs:List (List J))(ts:List Nat)(i off n:Nat)(cap:Option Nat)(k:IntKind)(l m:List Int)(y:J)(hy:aN (hx h bs ts) 1 y=some (eI k l))(hb:bs[i]?=some (cI k m))
  (hn:off+min l.length n<=m.length) (hL:L.rob<=h.blks.length):
  PL L (hx h bs ts) 1 (sA h.blks.length i off 1 n cap) y=some (.int .i64 ((min l.length n:Nat):Int),hx h (bs.set i (cI k (putAt m off (l.take (min l.length n))))) ts):=by
 have e1:((eI k l).take (min l.length n)).flatten=cI k (l.take (min l.length n)):=by
  rw [<- Bz];simp [eI]
 have hs:=am h bs ts L i off (cI k (l.take (min l.length n))) (by simp [hL]);rw [hb] at hs;simp only [L5,RX] at hs;rw [decide_eq_true (by simp;omega),L4,Mu _ _ _ _ (by simp;omega)] at hs;unfold PL;rw [hy];simp only [Option.bind_some,Lz,Jw,sA,and_self,if_true,RQ];rw [e1];simp only [pA] at hs;rw [hs];rfl
def Rt (L:az)(h:O)(zero:List J)(x:J):Option (J × O):=match x with
 | .sl b off s n _=>if s=zero.length then (dX L h (.ptr b off) (rep zero n)).map fun h=>(.tup [],h) else none
 | _=>none
@[simp] theorem zk2 (C:eD)(L:az)(fr:Fr)(h:O)(z:List J)(x:AO):fU C L fr h (.clear z x)=Rt L h z (C.ev fr x):=by
 simp only [fU,Rt]
 cases C.ev fr x <;> rfl
theorem zdX (L:az)(h:O)(bs:List (List J))(ts:List Nat)(i off n:Nat)(cap:Option Nat)(k:IntKind)(z:Int)(m:List Int)(hb:bs[i]?=some (cI k m))(hn:off+n<=m.length)(hL:L.rob<=h.blks.length):
  Rt L (hx h bs ts) [.int k z] (sA h.blks.length i off 1 n cap)=some (.tup [],hx h (bs.set i (cI k (putAt m off (tab n fun _=>z)))) ts):=by
 have hs:=am h bs ts L i off (cI k (tab n fun _=>z)) (by simp [hL]);rw [hb] at hs;simp only [L5,RX,AR] at hs;rw [decide_eq_true hn,L4,Mu _ _ _ _ (by simpa using hn)] at hs;unfold Rt;simp only [sA,List.length_singleton,if_true,eR,fJ];simp only [pA] at hs;rw [hs];rfl
theorem PO (sz m i len c:Nat)(cap:Option Nat)(kd:IntKind)(h:(decide (c < len)&&decide (len<=cap.getD len))=true):eP .slc sz (sA m i 0 sz len cap) (some (.int kd (c:Int))) none none=some (sA m i (c*sz) sz (len - c) (cap.map (· - c))):=by
 simp only [Bool.and_eq_true,decide_eq_true_eq] at h;obtain ⟨h1,h3⟩:=h;have h0:¬len=c:=by omega
 have h4:c<=len:=by omega
 simp [eP,sA,jp,h0,h3,h4]
theorem zbd (h:O)(bs:List (List J))(ts:List Nat)(i off n:Nat)(k:IntKind)(l:List Int)(cap:Option Nat)(hb:bs[i]?=some (cI k l))(hl:off+n<=l.length):aN (hx h bs ts) 1 (sA h.blks.length i off 1 n cap)=some (eI k ((l.drop off).take n)):=by
 simp only [aN,sA,hx];rw [List.getElem?_append_right (Nat.le_add_right _ _),Nat.add_sub_cancel_left,hb];have key:∀ (n:Nat) (l:List Int),n<=l.length->chunks 1 n (cI k l)=eI k (l.take n):=by
  intro n
  induction n with
  | zero=>intro l _;simp [chunks]
  | succ n ih=>
   intro l hl
   cases l with
   | nil=>simp at hl
   | cons x l=>simp only [cI,List.map_cons,chunks,List.take_succ_cons,List.drop_succ_cons,List.drop_zero,List.take_zero,eI];rw [show List.map (fun n=>J.int k n) l=cI k l from rfl,ih l (by simpa using hl)];rfl
 simp only [ne_eq,not_true_eq_false,if_false,Option.bind_some,RX,Nat.mul_one,hl,if_true,zjv];rw [key n (l.drop off) (by simp;omega)]
theorem zjQ (n m i:Nat)(es:List (List J)):gA (n+m) i es=gA n (m+i) es:=by simp [gA,Nat.add_assoc]
theorem YV (L:az)(h:O)(bs:List (List J))(ts:List Nat)(sz:Nat)(c:Bool)(es ys:List (List J))
  (hc:(eo sz ys&&eo sz es&&decide (L.rot<=h.toks.length)&&decide (es.length+ys.length < ao))=true):
  ka L (hx h bs (ts++gT es)) sz false (gL .nsl h.toks.length ts.length es) (.vsl c ys)=some (gL .nsl h.toks.length ts.length (es++ys),hx h bs (ts++gT (es++ys))):=by
 simp only [Bool.and_eq_true,decide_eq_true_eq] at hc;have e1:∀ q,hx (hx h [] ts) bs q=hx h bs (ts++q):=fun q=>by simp
 have e2 : ∀ es, gL .nsl (hx h [] ts).toks.length 0 es = gL .nsl h.toks.length ts.length es := fun es => by
  unfold gL;split
  ·rfl
  ·rw [aA,zjQ];rfl
 have:=LC L (hx h [] ts) bs sz c es ys (by simp only [Bool.and_eq_true,decide_eq_true_eq,aA];exact ⟨⟨⟨hc.1.1.1,hc.1.1.2⟩,by omega⟩,hc.2⟩);rw [e1,e1,e2,e2] at this;exact this
end Go.Av
namespace Go.Av
theorem zaU {C:eD}{P:Program}{L:az}{f:FuncId}{fn:Func}{e:Array Value->Sem Value}(hf:P.funcs[f]?=some fn)(hname:(fn.name== "runtime.NumGoroutine")=false)
  (hb:fn.body.isNone=true) (hn:Extern.findNext fn=none) (he:Extern.find fn=some e) {args:List J} {h:O} {v:J}
  (hr:∀ (s:St) (cargs:Array Value),aU s args cargs.toList->∃ cv,(e cargs).run P s.w=.ok cv s.w/\dH s v cv):ml C P L f args h v h:=by
 refine ⟨jO.refl L h,fun s cargs hh hs hL hrep=>?_⟩;subst hh;obtain ⟨cv,h1,h2⟩:=hr s cargs hrep;refine ⟨.value cv,s.w,?_,.inl ⟨cv,.inl rfl,Good.same hs h2⟩⟩;rw [run_callFunc_extern hf hname hb hn he,h1];rfl
def TX (g : Nat -> Nat -> Nat -> Nat × Nat) : zaK := ⟨fun _ args h => match args with
 | [.int .u64 x,.int .u64 y,.int .u64 c]=>if (decide (0<=x)&&decide (0<=y)&&decide (0<=c)&&decide (c<=1))=true then some (.inl (.tup [.int .u64 (g x.toNat y.toNat c.toNat).1,.int .u64 (g x.toNat y.toNat c.toNat).2],h)) else none
 | _=>none,fun _ _ _=>none⟩
def zhE (x y c:Nat):Nat × Nat:=((x+y+c) % 18446744073709551616,(x+y+c) / 18446744073709551616)
def zhG (x y b:Nat):Nat × Nat:=((x+18446744073709551616 - y - b) % 18446744073709551616,if x < y+b then 1 else 0)
def zdH:zaK:=TX zhE
def zd8:zaK:=TX zhG
def Ub : Array Value -> Sem Value := fun args => do
 let (x,y,b) <- Extern.MathBitsCarry.three "Sub64" args
 pure (Extern.MathBitsCarry.pair ((x+Extern.MathBitsCarry.m64 - y - b) % Extern.MathBitsCarry.m64) (if x < y+b then 1 else 0))
theorem zd9 {P:Program}(x y c:Nat)(hc:c<=1)(w:World):
  (add64Entry #[.int .u64 x,.int .u64 y,.int .u64 c]).run P w=.ok (.tuple #[.int .u64 (zhE x y c).1,.int .u64 (zhE x y c).2]) w:=by
 have:c=0\/c=1:=by omega
 rcases this with rfl | rfl <;> rfl
theorem zea {P:Program}(x y b:Nat)(hb:b<=1)(w:World):
  (Ub #[.int .u64 x,.int .u64 y,.int .u64 b]).run P w=.ok (.tuple #[.int .u64 (zhG x y b).1,.int .u64 (zhG x y b).2]) w:=by
 have:b=0\/b=1:=by omega
 rcases this with rfl | rfl <;> rfl
theorem zla {s:St}{a b c:J}{vs:Array Value}(h:aU s [a,b,c] vs.toList):∃ x y z,vs=#[x,y,z]/\dH s a x/\dH s b y/\dH s c z:=by
 obtain ⟨l⟩:=vs;simp only at h
 cases h with
 | cons _ x _ l1 h1 h=>
  cases h with
  | cons _ y _ l2 h2 h=>
   cases h with
   | cons _ z _ l3 h3 h=>
    cases h
    exact ⟨x,y,z,rfl,h1,h2,h3⟩
theorem Rz {s:St}{k:IntKind}{n:Int}{v:Value}(h:dH s (.int k n) v):v=.int k n:=by cases h;rfl
theorem YX {C:eD}{P:Program}{f:FuncId}{fn:Func}{e:Array Value->Sem Value}{g:Nat->Nat->Nat->Nat × Nat}(hf:P.funcs[f]?=some fn)(hname:(fn.name== "runtime.NumGoroutine")=false)
  (hb:fn.body.isNone=true) (hn:Extern.findNext fn=none) (he:Extern.find fn=some e)
  (hr:∀ (x y c:Nat),c<=1->∀ w,(e #[.int .u64 x,.int .u64 y,.int .u64 c]).run P w=.ok (.tuple #[.int .u64 (g x y c).1,.int .u64 (g x y c).2]) w)
  {L:az} {args:List J} {h:O} {v:J} {h':O} (hp:(TX g).pre L args h=some (.inl (v,h'))):ml C P L f args h v h':=by
 unfold TX at hp;simp only at hp;split at hp
 ·rename_i x y c;split at hp
  ·rename_i hc;simp only [Bool.and_eq_true,decide_eq_true_eq] at hc;simp only [Option.some.injEq,Sum.inl.injEq,Prod.mk.injEq] at hp;obtain ⟨rfl,rfl⟩:=hp;refine zaU hf hname hb hn he fun s cargs hrep=>?_;obtain ⟨a,b,d,rfl,h1,h2,h3⟩:=zla hrep;obtain rfl:=Rz h1;obtain rfl:=Rz h2;obtain rfl:=Rz h3;refine ⟨_,?_,.tup _ #[.int .u64 (g x.toNat y.toNat c.toNat).1,.int .u64 (g x.toNat y.toNat c.toNat).2] (.cons _ _ _ _ (.int ..) (.cons _ _ _ _ (.int ..) .nil))⟩;have:=hr x.toNat y.toNat c.toNat (by omega) s.w;rw [show ((x.toNat:Nat):Int)=x by omega,show ((y.toNat:Nat):Int)=y by omega,show ((c.toNat:Nat):Int)=c by omega] at this;exact this
  ·cases hp
 ·cases hp
theorem Uf {g:Nat->Nat->Nat->Nat × Nat}{L:az}{args:List J}{h:O}{q:FuncId × List J × O}:(TX g).pre L args h≠some (.inr q):=by
 unfold TX;simp only;split
 ·split <;> simp
 ·simp
theorem zbk {C:eD}{L:az}{f:FuncId}{h:O}(hx:C.ext f=some zdH)(x y:ac)(c:Nat)(hc:c<=1):
  Z C L f [wd x,wd y,.int .u64 (c:Int)] h=some (.tup [wd (BitVec.ofNat 64 (x.toNat+y.toNat+c)),.int .u64 (((x.toNat+y.toNat+c) / 18446744073709551616:Nat):Int)],h):=by
 rw [PY C L h hx];have:(decide (0<=(x.toNat:Int))&&decide (0<=(y.toNat:Int))&&decide (0<=(c:Int))&&decide ((c:Int)<=1))=true:=by simp;omega
 simp only [zdH,TX,wd,if_pos this,Option.bind_some,zhE,Int.toNat_natCast,BitVec.toNat_ofNat]
theorem zbl {C:eD}{L:az}{f:FuncId}{h:O}(hx:C.ext f=some zd8)(x y:ac)(c:Nat)(hc:c<=1):
  Z C L f [wd x,wd y,.int .u64 (c:Int)] h=some (.tup [wd (BitVec.ofNat 64 (x.toNat+18446744073709551616 - y.toNat - c)),.int .u64 ((if x.toNat < y.toNat+c then 1 else 0:Nat):Int)],h):=by
 rw [PY C L h hx];have:(decide (0<=(x.toNat:Int))&&decide (0<=(y.toNat:Int))&&decide (0<=(c:Int))&&decide ((c:Int)<=1))=true:=by simp;omega
 simp only [zd8,TX,wd,if_pos this,Option.bind_some,zhG,Int.toNat_natCast,BitVec.toNat_ofNat]
theorem GO (h:O)(bs:List (List J))(ts:List Nat)(nt n i m:Nat)(cap:Option Nat)(k:IntKind)(l:List Int)(hb:bs[i]?=some (cI k l))(hl:m<=l.length):
  frz (hx h bs ts) h.blks.length nt (n+1) (sA h.blks.length i 0 1 m cap)=some (.vsl false (eI k (l.take m))):=by
 have e1:(hx h bs ts).blks[h.blks.length+i]?=some (cI k l):=BG ts hb;have e2:chunks 1 m (cI k l)=eI k (l.take m):=by
  have key:∀ (m:Nat) (l:List Int),m<=l.length->chunks 1 m (cI k l)=eI k (l.take m):=by
   intro m
   induction m with
   | zero=>intro l _;simp [chunks]
   | succ m ih=>
    intro l hl
    cases l with
    | nil=>simp at hl
    | cons x l=>
     have:=ih l (by simpa using hl);simp only [chunks,cI,List.map_cons,List.take_succ_cons,List.take_zero,List.drop_succ_cons,List.drop_zero] at this |-;rw [this];rfl
  exact key m l hl
 simp only [sA,frz];rw [if_neg (by omega)];simp only [aN,ne_eq,not_true,if_false,e1,Option.bind_some,List.drop_zero];rw [if_pos (by simpa using hl),e2];simp [KJ]
def sf (l:List ac):List Int:=l.map fun w=>(w.toNat:Int)
theorem xm (l:List ac):cW l=cI .u64 (sf l):=by simp [cW,cI,sf,wd]
theorem AG (l:List ac):eW l=eI .u64 (sf l):=by simp [eW,eI,sf,wd]
@[simp] theorem zoB (l:List ac):(sf l).length=l.length:=by simp [sf]
@[simp] theorem JD (l:List ac)(n:Nat):(sf l).take n=sf (l.take n):=by simp [sf]
@[simp] theorem zh1 (l:List ac):eo 1 (eW l)=true:=by rw [AG];simp
@[simp] theorem zel (nb nt:Nat)(l:List ac):aO nb nt (eW l)=true:=by rw [AG];simp
@[simp] theorem zqU:eW []=[]:=rfl
theorem Nb (h:O)(bs:List (List J))(ts:List Nat)(nt n i m:Nat)(cap:Option Nat)(l:List ac)(hb:bs[i]?=some (cW l))(hl:l.length=m):
  frz (hx h bs ts) h.blks.length nt (n+1) (sA h.blks.length i 0 1 m cap)=some (.vsl false (eW l)):=by
 rw [xm] at hb;rw [GO h bs ts nt n i m cap .u64 (sf l) hb (by simp;omega),AG,List.take_of_length_le (by simp;omega)]
@[simp] theorem Zj (h:O)(nb nt n:Nat)(c:Bool)(l:List ac):frz h nb nt (n+1) (.vsl c (eW l))=some (.vsl false (eW l)):=lq h nb nt n c (by simp)
@[simp] theorem zqf (h:O)(nb nt n i:Nat)(l:List ac):frz h nb nt (n+1) (gA nt i (eW l))=some (.vsl false (eW l)):=Sk h nb nt n i _ (by simp)
theorem Nc (h:O)(nb nt n b off sz m:Nat)(cap:Option Nat)(hb:decide (b < nb)=true):frz h nb nt (n+1) (.sl b off sz m cap)=some (.sl b off sz m cap):=by
 simp only [frz];rw [if_pos (by simpa using hb)]
@[simp] theorem JP (h:O)(sz:Nat)(c:Bool)(es:List (List J)):aN h sz (.vsl c es)=some es:=by simp only [aN]
def LsW (h:O)(x:J)(l:List ac):Prop:=iV h x l/\∀ bs ts,aN (hx h bs ts) 1 x=some (eW l)
theorem LsW.ext {h:O}{x:J}{l:List ac}(hr:LsW h x l)(bs:List (List J))(ts:List Nat):LsW (hx h bs ts) x l:=
 ⟨hr.1.ext bs ts,fun bs' ts'=>by rw [LW];exact hr.2 _ _⟩
theorem LsW.vsl (h:O)(c:Bool)(l:List ac):LsW h (.vsl c (eW l)) l:=⟨iV.vsl h c l,fun bs ts=>by simp only [aN]⟩
theorem zff (k:IntKind)(a b:Nat):BI true (.int k (a:Int)) [.int k (b:Int)]=some (.int k ((max a b:Nat):Int)):=by
 simp only [BI,zc4,bind,Option.bind_some];by_cases hab:a < b
 ·have h1:((b:Int) > (a:Int)):=by omega
  simp only [if_true,if_pos h1,show max a b=b by omega]
 ·have h1:¬((b:Int) > (a:Int)):=by omega
  simp only [if_true,if_neg h1,show max a b=a by omega]
theorem kF (n i off len k:Nat)(cap:Option Nat)(h:decide (k < len)=true):bO none 1 (sA n i off 1 len cap) (.int .i64 (k:Int))=some (pA n i (off+k)):=by
 have:=om n i off 1 len k cap .i64 h
 rwa [Nat.mul_one] at this
theorem Xn (h:O)(bs:List (List J))(ts:List Nat)(i n:Nat)(cap:Option Nat)(k:IntKind)(l:List Int)(hb:bs[i]?=some (cI k l))(hl:l.length=n):
  nT (hx h bs ts) (sA h.blks.length i 0 1 n cap)=some (.vsl false (eI k l),true):=by
 have he:=Ei h bs ts i n (cI k l) cap hb (by simpa using hl);rw [zN] at he;simp only [sA] at he |-;simp only [nT,he,bind,Option.bind_some]
@[simp] theorem zqg (h:O)(l:List ac):TO true (some (.agg (cW l),h))=some (.agg (cW l),h):=Jm h _ (Ik l)
theorem zbU {m:Mode}{h:O}{n:Nat}{res:List Cm}{as:List J}{r:Option (dt × Fr × O)}{v:J}{h':O}(h1:OB m h n res as false r=some (v,h'))(hv:v.flat=true):OB m h n res as true r=some (v,h'):=by
 unfold OB Wl zaI at h1 |-
 cases r with
 | none=>exact h1
 | some r=>
  simp only [Option.bind_some] at h1 |-;split at h1
  ·rename_i hc;rw [if_pos hc]
   cases hr:vg r.2.1 r.2.2 res with
   | none=>rw [hr] at h1;exact h1
   | some vs=>
    rw [hr] at h1;simp only [Option.bind_some] at h1 |-;rw [Wj] at h1;rw [h1,Jm _ _ hv]
  ·cases h1
section
variable {C:eD} {P:Program} {D:FuncId}
end
end Go.Av
namespace Go.Av
noncomputable section
variable (C:eD) (L:az) (fr:Fr) (h:O)
def U3 (m:Option (List (Nat × Nat × Bool) × FuncId))(v:J)(as:List J):Option J:=match m with
 | some (path, f) => match gJ path v with
  | some r=>XY (U C f) (Z C L f (r :: as) h)
  | none=>none
 | none=>none
@[simp] theorem znn (f:FuncId)(v:J)(as:List J):U3 C L h (some ([],f)) v as=XY (U C f) (Z C L f (v :: as) h):=rfl
def zfH (x:J)(name:String)(as:List J):Option J:=match x with
 | .iface t v=>U3 C L h (C.meth t name) v as
 | _=>none
@[simp] theorem zj0 (t:TypeId)(v:J)(name:String)(as:List J):zfH C L h (.iface t v) name as=U3 C L h (C.meth t name) v as:=rfl
@[simp] theorem zno (x:AO)(name:String)(as:List AO):qD C L (.inv x name as) fr h=zfH C L h (C.ev fr x) name (as.map (C.ev fr)):=by
 rw [qD.eq_def];simp only [zfH,U3,XY];generalize C.ev fr x=v
 cases v <;> try rfl
 rename_i t v;simp only
 cases C.meth t name with
 | none=>rfl
 | some q=>
  simp only
  cases gJ q.1 v with
  | none=>rfl
  | some r=>
   simp only;split
   ·cases Z C L q.2 (r :: as.map (C.ev fr)) h <;> rfl
   ·rfl
end
def zl5 (h:O)(sz:Nat)(zero:List J):J->J->Option (J × O)
 | .int _ n,.int _ m=>if 0<=n/\n<=m/\m < ao then some (.sl h.blks.length 0 sz n.toNat (some m.toNat),push h (rep zero m.toNat)) else none
 | _,_=>none
@[simp] theorem zo9 (C:eD)(L:az)(fr:Fr)(h:O)(sz:Nat)(z:List J)(x y:AO):fU C L fr h (.mkc sz z x y)=zl5 h sz z (C.ev fr x) (C.ev fr y):=by
 simp only [fU]
 cases C.ev fr x <;> cases C.ev fr y <;> rfl
theorem QA (h:O)(bs:List (List J))(ts:List Nat)(sz:Nat)(z:List J)(k k':IntKind)(m:Int)(hc:(decide (0<=m)&&decide (m < ao))=true):
  zl5 (hx h bs ts) sz z (.int k 0) (.int k' m)=some (sA h.blks.length bs.length 0 sz 0 (some m.toNat),hx h (bs++[rep z m.toNat]) ts):=by
 simp only [Bool.and_eq_true,decide_eq_true_eq] at hc;unfold zl5;simp only [if_pos (show (0:Int)<=0/\0<=m/\m < ao from ⟨Int.le_refl _,hc.1,hc.2⟩)];simp [sA,hx,push]
theorem zb8 (L:az)(h:O)(bs:List (List J))(ts:List Nat)(i off n c:Nat)(k:IntKind)(l m:List Int)(cl:Bool)(hb:bs[i]?=some (cI k l))
  (hm:0 < m.length) (hc:n+m.length<=c) (hl:off+n+m.length<=l.length) (hL:L.rob<=h.blks.length):
  ka L (hx h bs ts) 1 false (sA h.blks.length i off 1 n (some c)) (.vsl cl (eI k m))=some (sA h.blks.length i off 1 (n+m.length) (some c),hx h (bs.set i (cI k (putAt l (off+n) m))) ts):=by
 have hs:=am h bs ts L i (off+n) (cI k m) (by simp [hL]);rw [hb] at hs;simp only [L5,RX] at hs;rw [decide_eq_true (by omega),L4,Mu _ _ _ _ (by omega)] at hs;have hne:¬(c=n/\True):=fun q=>by omega
 simp only [ka,JP,Option.bind_some,Jw,if_true,C6,Lz,sA];rw [if_neg hne,if_pos ⟨trivial,by simpa using hc⟩,Bz,Nat.mul_one];simp only [pA] at hs;rw [hs];simp
theorem XF (L:az)(h:O)(bs:List (List J))(ts:List Nat)(i off n c:Nat)(l m:List ac)(cl:Bool)(hb:bs[i]?=some (cW l))
  (hm:0 < m.length) (hc:n+m.length<=c) (hl:off+n+m.length<=l.length) (hL:L.rob<=h.blks.length):
  ka L (hx h bs ts) 1 false (sA h.blks.length i off 1 n (some c)) (.vsl cl (eW m))=some (sA h.blks.length i off 1 (n+m.length) (some c),hx h (bs.set i (cW (putAt l (off+n) m))) ts):=by
 rw [xm] at hb;have:=zb8 L h bs ts i off n c .u64 (sf l) (sf m) cl hb (by simpa using hm) (by simpa using hc) (by simpa using hl) hL;rw [AG,this];have e:sf (putAt l (off+n) m)=putAt (sf l) (off+n) (sf m):=by simp [putAt,sf]
 rw [xm,e];simp
end Go.Av
namespace Go.Av
def F2:AC:=.reg [iv 2 (.mv (.k (.nsl)))]
def BV:AC:=.cond (.t 4) (.seq (.reg [iv 2 (.mv (.k (.nsl)))]) (.ret)) (.skip)
def zi8 (sz:Nat)(z:List J):AC:=.seq (.reg [iv 5 (.slit sz 0 z []),iv 6 (.mv (.t 0)),ic 7 (.app sz false (.t 5) (.t 6)),iv 2 (.mv (.t 7))]) (.ret)
def XG (sz:Nat)(z:List J):aZ:=⟨8,zi8 sz z,[.tmp 2],some (F2,3,4,BV)⟩
theorem ziV {L:az}{h:O}{sz:Nat}{y:J}{ys:List (List J)}(hy:aN h sz y=some ys)(hstr:lO sz y=true)(hsz:eo sz ys=true)(hr:L.rot<=h.toks.length)(hroom:ys.length < ao):
  ka L h sz false (.vsl true []) y=some (gL (.vsl true []) h.toks.length 0 ys,hx h [] (gT ys)):=by
 have:=RZ (L:=L) (h:=h) (bs:=[]) (sz:=sz) (s:=.vsl true []) (y:=y) (es:=[]) (ys:=ys) (.inr rfl) (by rw [show gT []=[] from rfl,LY];exact hy) hstr hsz rfl hr (by simpa using hroom);rw [show gL (.vsl true []) h.toks.length 0 []=.vsl true [] from rfl,show gT []=[] from rfl,List.nil_append,LY] at this;exact this
theorem zpa (sz:Nat)(z:List J):al (rep z 0) []=some []:=rfl
theorem zjb (hh:O)(nb nt m:Nat)(es:List (List J))(hu:aO nb nt es=true):frz hh nb nt (m+1) (gL (.vsl true []) nt 0 es)=some (.vsl false es):=v6 (.inr rfl) hu
theorem Va {C:eD}{L:az}{h:O}{f:FuncId}{sz:Nat}{z:List J}(hx1:C.ext f=none)(hm:C.mode f=roM)(hf:C.fns f=some (XG sz z))(x:J)(es:List (List J))(he:aN h sz x=some es)(hs:lO sz x=true)
  (hn:∃ nb,DH x=some nb) (hz:eo sz es=true) (hu:aO h.blks.length h.toks.length es=true) (hroom:es.length < ao):Z C L f [x] h=some (.vsl false es,h):=by
 obtain ⟨nb,hn⟩:=hn;have hap:=ziV (L:=V h) he hs hz (Nat.le_refl _) hroom;have hg:=fun hh m=>zjb hh h.blks.length h.toks.length m es hu;have hch:chunks sz 0 []=[]:=rfl;have hfl:=zpa sz z;have hlast : ∀ fr : Fr, fr 0 = x -> ∃ fr', run C (V h) (zi8 sz z) fr h = some (.ret, fr', hx h [] (gT es)) /\ fr' 2 = gL (.vsl true []) h.toks.length 0 es := fun fr h0 => by
  simp -implicitDefEqProofs [zi8,h0,hfl,hch,hap]
 have hfin : ∀ (fr' : Fr), fr' 2 = gL (.vsl true []) h.toks.length 0 es -> yf roM (XG sz z) ([x], false) h (.ret, fr', hx h [] (gT es)) = some (.vsl false es, h) := fun fr' h2 => by
  simp -implicitDefEqProofs [yf,XG,vg,h2,hg,Fe,FL]
 rw [Z.eq_def];simp only [hx1,hf,hm,bind,Option.bind_some,zfc,zeC];have hq:(XG sz z).pre=some (F2,3,4,BV):=rfl;have hc:(XG sz z).code=zi8 sz z:=rfl;simp only [hq,hc];have r0:run C (V h) F2 (fun i=>[x].getD i ba) h=some (.normal,HN (fun i=>[x].getD i ba) 2 .nsl,h):=by simp [F2]
 rw [r0];simp only [Option.bind_some,if_true];have hx0:HN (fun i=>[x].getD i ba) 2 .nsl 0=x:=rfl;rw [hx0,hn];simp only [Option.bind_some];have rF : run C (V h) BV (KT (F2, 3, 4, BV) (HN (fun i => [x].getD i ba) 2 .nsl) false) h = some (.normal, KT (F2, 3, 4, BV) (HN (fun i => [x].getD i ba) 2 .nsl) false, h) := by
  simp [BV,KT,HN]
 have rT : run C (V h) BV (KT (F2, 3, 4, BV) (HN (fun i => [x].getD i ba) 2 .nsl) true) h = some (.ret, HN (KT (F2, 3, 4, BV) (HN (fun i => [x].getD i ba) 2 .nsl) true) 2 .nsl, h) := by
  simp [BV,KT,HN]
 obtain ⟨fr',hl1,hl2⟩:=hlast (KT (F2,3,4,BV) (HN (fun i=>[x].getD i ba) 2 .nsl) false) rfl;have hnilfin : ∀ fr : Fr, fr 2 = .nsl -> yf roM (XG sz z) ([x], false) h (.ret, fr, h) = some (.vsl false [], h) := fun fr h2 => by
  have hfz:∀ (hh:O) nb nt m,frz hh nb nt (m+1) .nsl=some (.vsl false []):=fun hh nb nt m=>by simp [frz]
  simp -implicitDefEqProofs [yf,XG,vg,h2,Fe,FL,hfz]
 cases nb with
 | some b=>
  cases b with
  | true=>
   have hxn:x=.nsl:=by
    unfold DH at hn;split at hn
    ·rename_i b hb;obtain rfl:=sj (sj hn);unfold GF at hb
     split at hb <;> first | rfl | simp_all
    ·split at hn <;> simp at hn
   subst hxn;have hes:es=[]:=by simpa [aN] using he.symm
   subst hes;simp only [rT,Option.bind_some];exact hnilfin _ (by simp [HN])
  | false=>
   simp only [rF,Option.bind_some,hl1];exact hfin _ hl2
 | none=>
  have hxn:∃ c,x=.vsl c []:=by
   unfold DH at hn;split at hn
   ·simp at hn
   ·split at hn
    ·exact ⟨_,rfl⟩
    ·simp at hn
  obtain ⟨c,rfl⟩:=hxn;have hes:es=[]:=by simpa [aN] using he.symm
  subst hes;simp only [rT,rF,Option.bind_some,and_self,if_true,hl1];have e1:=hnilfin (HN (KT (F2,3,4,BV) (HN (fun i=>[J.vsl c []].getD i ba) 2 .nsl) true) 2 .nsl) (by simp [HN]);have e2:=hfin _ hl2;rw [if_pos (by rw [hm];exact e1.trans e2.symm)];exact e2
theorem Zz (c:Bool)(es:List (List J)):∃ nb,DH (.vsl c es)=some nb:=by cases es <;> exact ⟨_,rfl⟩
open Go.RowKit
section
variable {C:eD} {s:St}
end
end Go.Av
namespace Go.Av
open Go.RowKit
def nI (l:List Nat):List Int:=l.map fun x:Nat=>(x:Int)
section
variable {C:eD} {s:St}
end
end Go.Av
namespace Go.Av
def Hk (P:Program)(t:TypeId)(name:String)(f:FuncId)(off:Nat):Bool:=
 match P.info? t with
 | some i => match i.methods.find? (·.name == name) with
  | some m => match m.path.toList, m.func with
   | [s], some (g, pr) => !s.deref && g == f && pr && (match P.underlying s.struct with
    | some (.struct fields) => (match fields[s.index]? with
     | some fd=>fd.offset==off&&uB P fd.type==some 1&&Ck P fd.type==some false&&(match P.underlying fd.type with | some (.pointer _)=>true | _=>false)
     | none=>false)
    | _=>false)
   | _,_=>false
  | none=>false
 | none=>false
theorem ZU {P:Program}{t:TypeId}{name:String}{f:FuncId}{off:Nat}(hm:Hk P t name f off=true)(n:Nat){s:St}{v:J}{cv:Value}{r:J}(hr:dH s v cv)(hf:gJ [(off,1,false)] v=some r)(w:World):
  ∃ cr,(method (n+1) t cv name).run P w=.ok (f,cr) w/\dH s r cr:=by
 unfold Hk at hm;split at hm
 ·rename_i i hi;split at hm
  ·rename_i m hfi;split at hm
   ·rename_i st g pr hp hg;simp only [Bool.and_eq_true,Bool.not_eq_true',beq_iff_eq] at hm;obtain ⟨⟨⟨h1,rfl⟩,rfl⟩,h2⟩:=hm;split at h2
    ·rename_i fields hu;split at h2
     ·rename_i fd hfd;simp only [Bool.and_eq_true,beq_iff_eq] at h2;obtain ⟨⟨⟨rfl,hz⟩,ha⟩,h3⟩:=h2;split at h3
      ·rename_i el hel
       cases v with
       | agg cs=>
        simp only [gJ] at hf;obtain ⟨r',hr1,hr2⟩:=Option.bind_eq_some_iff.1 hf;obtain rfl:r'=r:=sj hr2
        cases hr with
        | agg _ vs hrl hk=>
         obtain ⟨cr,e1,e2⟩:=ME (P:=P) hz ha hrl hk hr1 w;refine ⟨cr,?_,e2⟩;unfold method;rw [Sem.run_bind,run_typeInfo w hi];simp only [Result.andThen,hfi,hp,follow,hg,h1];simp only [Sem.run_bind,run_underlying hu,Result.andThen_ok,hfd,Bool.false_eq_true,if_false,e1,Sem.run_pure,receiverAt,run_underlying hel,Place.get]
       | _=>simp [gJ] at hf
      ·cases h3
     ·cases h2
    ·cases h2
   ·cases hm
  ·cases hm
 ·cases hm
end Go.Av
