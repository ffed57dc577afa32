/- More equations: copies, carries, lists of words, methods of embedded pointers. -/
import Derived.Test.YtbookmjmhfoolaaGreatDoorV5
import Derived.ChangeKeysEq
import Derived.Laws.Externs
import Derived.Laws.Pointers
import Derived.Lib.LaidTab
import Derived.Lib.ItoaNum
import Derived.Below
set_option linter.unusedSimpArgs false
set_option linter.unusedVariables false
set_option maxHeartbeats 1000000
namespace Go.Av
def MJ (P:Program)(t:TypeId)(name:String)(f:FuncId):Bool:=
 match P.info? t with
 | some i => match i.methods.find? (·.name == name) with
  | some m => m.path.isEmpty && (match m.func, P.underlying t with
   | some (g,pr),some d=>g==f&&(match d with | .pointer _=>pr | _=>!pr)
   | _,_=>false)
  | none=>false
 | none=>false
theorem ziG {P:Program}{t:TypeId}{name:String}{f:FuncId}(hm:MJ P t name f=true)(n:Nat)(v:Value)(w:World):(method (n+1) t v name).run P w=.ok (f,v) w:=by
 unfold MJ at hm;split at hm
 ·rename_i i hi;split at hm
  ·rename_i m hf;simp only [Bool.and_eq_true] at hm;obtain ⟨h1,h2⟩:=hm;split at h2
   ·rename_i g pr d hg hd;simp only [Bool.and_eq_true,beq_iff_eq] at h2;obtain ⟨rfl,h3⟩:=h2;have hp:m.path.toList=[]:=by simpa using h1
    have hu:(underlying t).run P w=.ok d w:=run_underlying hd w;unfold method;rw [Sem.run_bind,run_typeInfo w hi];simp only [Result.andThen,hf,hp,follow,hg];simp only [Sem.run_bind,Sem.run_pure,Result.andThen,receiverAt,hu]
    cases d <;> simp at h3 <;> subst h3 <;> simp [Place.get,Sem.run_pure]
   ·cases h2
  ·cases hm
 ·cases hm
noncomputable section
variable (C:eh) (L:az) (fr:Fr) (h:O)
def zbp (m:Option (List (Nat × Nat × Bool) × FuncId))(v:J)(as:List J):Option (J × O):=match m with
 | some (path, f) => match gS path v with
  | some r=>aa C L f (r :: as) h
  | none=>none
 | none=>none
@[simp] theorem zqc (f:FuncId)(v:J)(as:List J):zbp C L h (some ([],f)) v as=aa C L f (v :: as) h:=rfl
def zr9 (x:J)(name:String)(as:List J):Option (J × O):=match x with
 | .iface t v=>zbp C L h (C.meth t name) v as
 | _=>none
@[simp] theorem zo1 (t:TypeId)(v:J)(name:String)(as:List J):zr9 C L h (.iface t v) name as=zbp C L h (C.meth t name) v as:=rfl
@[simp] theorem zqd (x:AO)(name:String)(as:List AO):jj C L (.inv x name as) fr h=zr9 C L h (C.ev fr x) name (as.map (C.ev fr)):=by
 rw [jj.eq_def];rfl
end
def putAt {α:Type}(l:List α)(off:Nat)(m:List α):List α:=l.take off++(m++l.drop (off+m.length))
theorem KW {α:Type}(l:List α)(off:Nat)(m:List α)(h:off+m.length<=l.length):(putAt l off m).length=l.length:=by
 simp [putAt];omega
theorem RS:∀ (cs old rest pre:List J),old.length=cs.length->setAt (pre++(old++rest)) pre.length cs=pre++(cs++rest)
 | [],old,rest,pre,h=>by cases old with | nil=>simp [setAt] | cons a l=>simp at h
 | c :: cs,[],rest,pre,h=>by simp at h
 | c :: cs, a :: l, rest, pre, h => by
  have:=RS cs l rest (pre++[c]) (by simpa using h);simp only [setAt];rw [List.set_append_right _ _ (Nat.le_refl _),Nat.sub_self];simpa using this
theorem KX (l:List J)(off:Nat)(m:List J)(h:off+m.length<=l.length):setAt l off m=putAt l off m:=by
 have h1:l=l.take off++((l.drop off).take m.length++l.drop (off+m.length)):=by
  rw [<- List.drop_drop,List.take_append_drop,List.take_append_drop]
 have h2:=RS m ((l.drop off).take m.length) (l.drop (off+m.length)) (l.take off) (by simp;omega);rw [<- h1,List.length_take,Nat.min_eq_left (by omega)] at h2;exact h2
theorem O3 (k:IntKind)(l:List Int)(off:Nat)(m:List Int)(h:off+m.length<=l.length):setAt (cI k l) off (cI k m)=cI k (putAt l off m):=by
 rw [KX _ _ _ (by simpa using h)];simp [putAt,cI]
def RT (L:az)(h:O)(sz:Nat)(x y:J):Option (J × O):=(aH h sz y).bind fun es=>
 if cS sz es=true/\fc sz y=true then (match x with
  | .sl b off s n _=>if s=sz then (dR L h (.ptr b off) (es.take (min es.length n)).flatten).map fun h=>(.int .i64 ((min es.length n:Nat):Int),h) else none
  | _=>none) else none
@[simp] theorem zqe (C:eh)(L:az)(fr:Fr)(h:O)(sz:Nat)(x y:AO):gr C L fr h (.copy sz x y)=RT L h sz (C.ev fr x) (C.ev fr y):=by
 simp only [gr,RT,bind]
 congr 1
@[simp] theorem KY (y:J):fc 1 y=true:=by cases y <;> rfl
theorem zeg (k : IntKind)(l : List Int) : ay 0 0 (cI k l) = true := J6 fun c hc => by
 simp only [cI,List.mem_map] at hc;obtain ⟨x,_,rfl⟩:=hc;rfl
attribute [simp] zeg
theorem zbw (L:az)(h:O)(bs:List (List J))(ts:List Nat)(i off n:Nat)(cap:Option Nat)(k:IntKind)(l m:List Int)(y:J)(hy:aH (hx h bs ts) 1 y=some (eI k l))(hb:bs[i]?=some (cI k m))
  (hn:off+min l.length n<=m.length) (hL:L.rob<=h.blks.length):
  RT L (hx h bs ts) 1 (sA h.blks.length i off 1 n cap) y=some (.int .i64 ((min l.length n:Nat):Int),hx h (bs.set i (cI k (putAt m off (l.take (min l.length n))))) ts):=by
 have e1:((eI k l).take (min l.length n)).flatten=cI k (l.take (min l.length n)):=by
  rw [<- Br];simp [eI]
 have hs:=ap h bs ts L i off (cI k (l.take (min l.length n))) (by simp [hL]);rw [hb] at hs;simp only [Nc,Sa] at hs;rw [decide_eq_true (by simp;omega),Nb,O3 _ _ _ _ (by simp;omega)] at hs;unfold RT;rw [hy];simp only [Option.bind_some,MI,KY,sA,and_self,if_true,TR];rw [e1];simp only [pA] at hs;rw [hs];rfl
def TW (L:az)(h:O)(zero:List J)(x:J):Option (J × O):=match x with
 | .sl b off s n _=>if s=zero.length then (dR L h (.ptr b off) (rep zero n)).map fun h=>(.tup [],h) else none
 | _=>none
@[simp] theorem zo2 (C:eh)(L:az)(fr:Fr)(h:O)(z:List J)(x:AO):gr C L fr h (.clear z x)=TW L h z (C.ev fr x):=by
 simp only [gr,TW]
 cases C.ev fr x <;> rfl
theorem ziP (L:az)(h:O)(bs:List (List J))(ts:List Nat)(i off n:Nat)(cap:Option Nat)(k:IntKind)(z:Int)(m:List Int)(hb:bs[i]?=some (cI k m))(hn:off+n<=m.length)(hL:L.rob<=h.blks.length):
  TW L (hx h bs ts) [.int k z] (sA h.blks.length i off 1 n cap)=some (.tup [],hx h (bs.set i (cI k (putAt m off (tab n fun _=>z)))) ts):=by
 have hs:=ap h bs ts L i off (cI k (tab n fun _=>z)) (by simp [hL]);rw [hb] at hs;simp only [Nc,Sa,AK] at hs;rw [decide_eq_true hn,Nb,O3 _ _ _ _ (by simpa using hn)] at hs;unfold TW;simp only [sA,List.length_singleton,if_true,eV,gQ];simp only [pA] at hs;rw [hs];rfl
theorem RU (sz m i len c:Nat)(cap:Option Nat)(kd:IntKind)(h:(decide (c < len)&&decide (len<=cap.getD len))=true):eP .slc sz (sA m i 0 sz len cap) (some (.int kd (c:Int))) none none=some (sA m i (c*sz) sz (len - c) (cap.map (· - c))):=by
 simp only [Bool.and_eq_true,decide_eq_true_eq] at h;obtain ⟨h1,h3⟩:=h;have h0:¬len=c:=by omega
 have h4:c<=len:=by omega
 simp [eP,sA,jE,h0,h3,h4]
theorem zek (h:O)(bs:List (List J))(ts:List Nat)(i off n:Nat)(k:IntKind)(l:List Int)(cap:Option Nat)(hb:bs[i]?=some (cI k l))(hl:off+n<=l.length):aH (hx h bs ts) 1 (sA h.blks.length i off 1 n cap)=some (eI k ((l.drop off).take n)):=by
 simp only [aH,sA,hx];rw [List.getElem?_append_right (Nat.le_add_right _ _),Nat.add_sub_cancel_left,hb];have key:∀ (n:Nat) (l:List Int),n<=l.length->chunks 1 n (cI k l)=eI k (l.take n):=by
  intro n
  induction n with
  | zero=>intro l _;simp [chunks]
  | succ n ih=>
   intro l hl
   cases l with
   | nil=>simp at hl
   | cons x l=>simp only [cI,List.map_cons,chunks,List.take_succ_cons,List.drop_succ_cons,List.drop_zero,List.take_zero,eI];rw [show List.map (fun n=>J.int k n) l=cI k l from rfl,ih l (by simpa using hl)];rfl
 simp only [ne_eq,not_true_eq_false,if_false,Option.bind_some,Sa,Nat.mul_one,hl,if_true,zkc];rw [key n (l.drop off) (by simp;omega)]
theorem zlU (n m i:Nat)(es:List (List J)):gA (n+m) i es=gA n (m+i) es:=by simp [gA,Nat.add_assoc]
theorem RV (L:az)(h:O)(bs:List (List J))(ts:List Nat)(sz:Nat)(c:Bool)(es ys:List (List J))
  (hc:(cS sz ys&&cS sz es&&decide (L.rot<=h.toks.length)&&decide (es.length+ys.length < am))=true):
  jm L (hx h bs (ts++gT es)) sz false (gL .nsl h.toks.length ts.length es) (.vsl c ys)=some (gL .nsl h.toks.length ts.length (es++ys),hx h bs (ts++gT (es++ys))):=by
 simp only [Bool.and_eq_true,decide_eq_true_eq] at hc;have e1:∀ q,hx (hx h [] ts) bs q=hx h bs (ts++q):=fun q=>by simp
 have e2 : ∀ es, gL .nsl (hx h [] ts).toks.length 0 es = gL .nsl h.toks.length ts.length es := fun es => by
  unfold gL;split
  ·rfl
  ·rw [aB,zlU];rfl
 have:=FL L (hx h [] ts) bs sz c es ys (by simp only [Bool.and_eq_true,decide_eq_true_eq,aB];exact ⟨⟨⟨hc.1.1.1,hc.1.1.2⟩,by omega⟩,hc.2⟩);rw [e1,e1,e2,e2] at this;exact this
end Go.Av
namespace Go.Av
theorem zed {C:eh}{P:Program}{L:az}{f:FuncId}{fn:Func}{e:Array Value->Sem Value}(hf:P.funcs[f]?=some fn)(hname:(fn.name== "runtime.NumGoroutine")=false)
  (hb:fn.body.isNone=true) (hn:Extern.findNext fn=none) (he:Extern.find fn=some e) {args:List J} {h:O} {v:J}
  (hr:∀ (s:St) (cargs:Array Value),aX s args cargs.toList->∃ cv,(e cargs).run P s.w=.ok cv s.w/\dG s v cv):kU C P L f args h v h:=by
 refine ⟨jJ.refl L h,fun s cargs hh hs hL hrep=>?_⟩;subst hh;obtain ⟨cv,h1,h2⟩:=hr s cargs hrep;refine ⟨.value cv,s.w,?_,.inl ⟨cv,.inl rfl,Good.same hs h2⟩⟩;rw [run_callFunc_extern hf hname hb hn he,h1];rfl
def WO (g : Nat -> Nat -> Nat -> Nat × Nat) : Zc := ⟨fun _ args h => match args with
 | [.int .u64 x,.int .u64 y,.int .u64 c]=>if (decide (0<=x)&&decide (0<=y)&&decide (0<=c)&&decide (c<=1))=true then some (.inl (.tup [.int .u64 (g x.toNat y.toNat c.toNat).1,.int .u64 (g x.toNat y.toNat c.toNat).2],h)) else none
 | _=>none,fun _ _ _=>none⟩
def zlH (x y c:Nat):Nat × Nat:=((x+y+c) % 18446744073709551616,(x+y+c) / 18446744073709551616)
def zlJ (x y b:Nat):Nat × Nat:=((x+18446744073709551616 - y - b) % 18446744073709551616,if x < y+b then 1 else 0)
def ziF:Zc:=WO zlH
def zez:Zc:=WO zlJ
def Uq : Array Value -> Sem Value := fun args => do
 let (x,y,b) <- Extern.MathBitsCarry.three "Sub64" args
 pure (Extern.MathBitsCarry.pair ((x+Extern.MathBitsCarry.m64 - y - b) % Extern.MathBitsCarry.m64) (if x < y+b then 1 else 0))
theorem zeA {P:Program}(x y c:Nat)(hc:c<=1)(w:World):
  (add64Entry #[.int .u64 x,.int .u64 y,.int .u64 c]).run P w=.ok (.tuple #[.int .u64 (zlH x y c).1,.int .u64 (zlH x y c).2]) w:=by
 have:c=0\/c=1:=by omega
 rcases this with rfl | rfl <;> rfl
theorem zeC {P:Program}(x y b:Nat)(hb:b<=1)(w:World):
  (Uq #[.int .u64 x,.int .u64 y,.int .u64 b]).run P w=.ok (.tuple #[.int .u64 (zlJ x y b).1,.int .u64 (zlJ x y b).2]) w:=by
 have:b=0\/b=1:=by omega
 rcases this with rfl | rfl <;> rfl
theorem zmD {s:St}{a b c:J}{vs:Array Value}(h:aX s [a,b,c] vs.toList):∃ x y z,vs=#[x,y,z]/\dG s a x/\dG s b y/\dG s c z:=by
 obtain ⟨l⟩:=vs;simp only at h
 cases h with
 | cons _ x _ l1 h1 h=>
  cases h with
  | cons _ y _ l2 h2 h=>
   cases h with
   | cons _ z _ l3 h3 h=>
    cases h
    exact ⟨x,y,z,rfl,h1,h2,h3⟩
theorem Fd {s:St}{k:IntKind}{n:Int}{v:Value}(h:dG s (.int k n) v):v=.int k n:=by cases h;rfl
theorem ZG {C:eh}{P:Program}{f:FuncId}{fn:Func}{e:Array Value->Sem Value}{g:Nat->Nat->Nat->Nat × Nat}(hf:P.funcs[f]?=some fn)(hname:(fn.name== "runtime.NumGoroutine")=false)
  (hb:fn.body.isNone=true) (hn:Extern.findNext fn=none) (he:Extern.find fn=some e)
  (hr:∀ (x y c:Nat),c<=1->∀ w,(e #[.int .u64 x,.int .u64 y,.int .u64 c]).run P w=.ok (.tuple #[.int .u64 (g x y c).1,.int .u64 (g x y c).2]) w)
  {L:az} {args:List J} {h:O} {v:J} {h':O} (hp:(WO g).pre L args h=some (.inl (v,h'))):kU C P L f args h v h':=by
 unfold WO at hp;simp only at hp;split at hp
 ·rename_i x y c;split at hp
  ·rename_i hc;simp only [Bool.and_eq_true,decide_eq_true_eq] at hc;simp only [Option.some.injEq,Sum.inl.injEq,Prod.mk.injEq] at hp;obtain ⟨rfl,rfl⟩:=hp;refine zed hf hname hb hn he fun s cargs hrep=>?_;obtain ⟨a,b,d,rfl,h1,h2,h3⟩:=zmD hrep;obtain rfl:=Fd h1;obtain rfl:=Fd h2;obtain rfl:=Fd h3;refine ⟨_,?_,.tup _ #[.int .u64 (g x.toNat y.toNat c.toNat).1,.int .u64 (g x.toNat y.toNat c.toNat).2] (.cons _ _ _ _ (.int ..) (.cons _ _ _ _ (.int ..) .nil))⟩;have:=hr x.toNat y.toNat c.toNat (by omega) s.w;rw [show ((x.toNat:Nat):Int)=x by omega,show ((y.toNat:Nat):Int)=y by omega,show ((c.toNat:Nat):Int)=c by omega] at this;exact this
  ·cases hp
 ·cases hp
theorem Ur {g:Nat->Nat->Nat->Nat × Nat}{L:az}{args:List J}{h:O}{q:FuncId × List J × O}:(WO g).pre L args h≠some (.inr q):=by
 unfold WO;simp only;split
 ·split <;> simp
 ·simp
theorem zbA {C:eh}{L:az}{f:FuncId}{h:O}(hx:C.ext f=some ziF)(x y:ac)(c:Nat)(hc:c<=1):
  aa C L f [wd x,wd y,.int .u64 (c:Int)] h=some (.tup [wd (BitVec.ofNat 64 (x.toNat+y.toNat+c)),.int .u64 (((x.toNat+y.toNat+c) / 18446744073709551616:Nat):Int)],h):=by
 rw [J0 C L h hx];have:(decide (0<=(x.toNat:Int))&&decide (0<=(y.toNat:Int))&&decide (0<=(c:Int))&&decide ((c:Int)<=1))=true:=by simp;omega
 simp only [ziF,WO,wd,if_pos this,Option.bind_some,zlH,Int.toNat_natCast,BitVec.toNat_ofNat]
theorem zbB {C:eh}{L:az}{f:FuncId}{h:O}(hx:C.ext f=some zez)(x y:ac)(c:Nat)(hc:c<=1):
  aa C L f [wd x,wd y,.int .u64 (c:Int)] h=some (.tup [wd (BitVec.ofNat 64 (x.toNat+18446744073709551616 - y.toNat - c)),.int .u64 ((if x.toNat < y.toNat+c then 1 else 0:Nat):Int)],h):=by
 rw [J0 C L h hx];have:(decide (0<=(x.toNat:Int))&&decide (0<=(y.toNat:Int))&&decide (0<=(c:Int))&&decide ((c:Int)<=1))=true:=by simp;omega
 simp only [zez,WO,wd,if_pos this,Option.bind_some,zlJ,Int.toNat_natCast,BitVec.toNat_ofNat]
theorem G6 (h:O)(bs:List (List J))(ts:List Nat)(nt n i m:Nat)(cap:Option Nat)(k:IntKind)(l:List Int)(hb:bs[i]?=some (cI k l))(hl:m<=l.length):
  frz (hx h bs ts) h.blks.length nt (n+1) (sA h.blks.length i 0 1 m cap)=some (.vsl false (eI k (l.take m))):=by
 have e1:(hx h bs ts).blks[h.blks.length+i]?=some (cI k l):=SQ ts hb;have e2:chunks 1 m (cI k l)=eI k (l.take m):=by
  have key:∀ (m:Nat) (l:List Int),m<=l.length->chunks 1 m (cI k l)=eI k (l.take m):=by
   intro m
   induction m with
   | zero=>intro l _;simp [chunks]
   | succ m ih=>
    intro l hl
    cases l with
    | nil=>simp at hl
    | cons x l=>
     have:=ih l (by simpa using hl);simp only [chunks,cI,List.map_cons,List.take_succ_cons,List.take_zero,List.drop_succ_cons,List.drop_zero] at this |-;rw [this];rfl
  exact key m l hl
 simp only [sA,frz];rw [if_neg (by omega)];simp only [aH,ne_eq,not_true,if_false,e1,Option.bind_some,List.drop_zero];rw [if_pos (by simpa using hl),e2];simp [Ma]
def sy (l:List ac):List Int:=l.map fun w=>(w.toNat:Int)
theorem xD (l:List ac):cW l=cI .u64 (sy l):=by simp [cW,cI,sy,wd]
theorem AJ (l:List ac):eW l=eI .u64 (sy l):=by simp [eW,eI,sy,wd]
@[simp] theorem zqi (l:List ac):(sy l).length=l.length:=by simp [sy]
@[simp] theorem JS (l:List ac)(n:Nat):(sy l).take n=sy (l.take n):=by simp [sy]
@[simp] theorem zi2 (l:List ac):cS 1 (eW l)=true:=by rw [AJ];simp
@[simp] theorem zeH (nb nt:Nat)(l:List ac):aJ nb nt (eW l)=true:=by rw [AJ];simp
@[simp] theorem zs7:eW []=[]:=rfl
theorem MP (h:O)(bs:List (List J))(ts:List Nat)(nt n i m:Nat)(cap:Option Nat)(l:List ac)(hb:bs[i]?=some (cW l))(hl:l.length=m):
  frz (hx h bs ts) h.blks.length nt (n+1) (sA h.blks.length i 0 1 m cap)=some (.vsl false (eW l)):=by
 rw [xD] at hb;rw [G6 h bs ts nt n i m cap .u64 (sy l) hb (by simp;omega),AJ,List.take_of_length_le (by simp;omega)]
@[simp] theorem ZI (h:O)(nb nt n:Nat)(c:Bool)(l:List ac):frz h nb nt (n+1) (.vsl c (eW l))=some (.vsl false (eW l)):=ix h nb nt n c (by simp)
@[simp] theorem zsc (h:O)(nb nt n i:Nat)(l:List ac):frz h nb nt (n+1) (gA nt i (eW l))=some (.vsl false (eW l)):=Sj h nb nt n i _ (by simp)
theorem MQ (h:O)(nb nt n b off sz m:Nat)(cap:Option Nat)(hb:decide (b < nb)=true):frz h nb nt (n+1) (.sl b off sz m cap)=some (.sl b off sz m cap):=by
 simp only [frz];rw [if_pos (by simpa using hb)]
@[simp] theorem JT (h:O)(sz:Nat)(c:Bool)(es:List (List J)):aH h sz (.vsl c es)=some es:=by simp only [aH]
def LsW (h:O)(x:J)(l:List ac):Prop:=i6 h x l/\∀ bs ts,aH (hx h bs ts) 1 x=some (eW l)
theorem LsW.ext {h:O}{x:J}{l:List ac}(hr:LsW h x l)(bs:List (List J))(ts:List Nat):LsW (hx h bs ts) x l:=
 ⟨hr.1.ext bs ts,fun bs' ts'=>by rw [Ng];exact hr.2 _ _⟩
theorem LsW.vsl (h:O)(c:Bool)(l:List ac):LsW h (.vsl c (eW l)) l:=⟨i6.vsl h c l,fun bs ts=>by simp only [aH]⟩
theorem zeO (k:IntKind)(a b:Nat):CJ true (.int k (a:Int)) [.int k (b:Int)]=some (.int k ((max a b:Nat):Int)):=by
 simp only [CJ,zic,bind,Option.bind_some];by_cases hab:a < b
 ·have h1:((b:Int) > (a:Int)):=by omega
  simp only [if_true,if_pos h1,show max a b=b by omega]
 ·have h1:¬((b:Int) > (a:Int)):=by omega
  simp only [if_true,if_neg h1,show max a b=a by omega]
theorem kC (n i off len k:Nat)(cap:Option Nat)(h:decide (k < len)=true):bA none 1 (sA n i off 1 len cap) (.int .i64 (k:Int))=some (pA n i (off+k)):=by
 have:=om n i off 1 len k cap .i64 h
 rwa [Nat.mul_one] at this
theorem Xj (h:O)(bs:List (List J))(ts:List Nat)(i n:Nat)(cap:Option Nat)(k:IntKind)(l:List Int)(hb:bs[i]?=some (cI k l))(hl:l.length=n):
  oL (hx h bs ts) (sA h.blks.length i 0 1 n cap)=some (.vsl false (eI k l),true):=by
 have he:=DX h bs ts i n (cI k l) cap hb (by simpa using hl);rw [zI] at he;simp only [sA] at he |-;simp only [oL,he,bind,Option.bind_some]
@[simp] theorem zsd (h:O)(l:List ac):Va true (some (.agg (cW l),h))=some (.agg (cW l),h):=Kj h _ (Ih l)
theorem zbI {m:Mode}{h:O}{n:Nat}{res:List DB}{as:List J}{r:Option (cL × Fr × O)}{v:J}{h':O}(h1:PS m h n res as false r=some (v,h'))(hv:v.flat=true):PS m h n res as true r=some (v,h'):=by
 unfold PS Ya zcy at h1 |-
 cases r with
 | none=>exact h1
 | some r=>
  simp only [Option.bind_some] at h1 |-;split at h1
  ·rename_i hc;rw [if_pos hc]
   cases hr:vN r.2.1 r.2.2 res with
   | none=>rw [hr] at h1;exact h1
   | some vs=>
    rw [hr] at h1;simp only [Option.bind_some] at h1 |-;rw [X7] at h1;rw [h1,Kj _ _ hv]
  ·cases h1
section
variable {C:eh} {P:Program} {D:FuncId}
end
end Go.Av
namespace Go.Av
noncomputable section
variable (C:eh) (L:az) (fr:Fr) (h:O)
def zaH (m:Option (List (Nat × Nat × Bool) × FuncId))(v:J)(as:List J):Option J:=match m with
 | some (path, f) => match gS path v with
  | some r=>zc0 (U C f) (aa C L f (r :: as) h)
  | none=>none
 | none=>none
@[simp] theorem zpW (f:FuncId)(v:J)(as:List J):zaH C L h (some ([],f)) v as=zc0 (U C f) (aa C L f (v :: as) h):=rfl
def zg2 (x:J)(name:String)(as:List J):Option J:=match x with
 | .iface t v=>zaH C L h (C.meth t name) v as
 | _=>none
@[simp] theorem zmq (t:TypeId)(v:J)(name:String)(as:List J):zg2 C L h (.iface t v) name as=zaH C L h (C.meth t name) v as:=rfl
@[simp] theorem zpX (x:AO)(name:String)(as:List AO):rP C L (.inv x name as) fr h=zg2 C L h (C.ev fr x) name (as.map (C.ev fr)):=by
 rw [rP.eq_def];simp only [zg2,zaH,zc0];generalize C.ev fr x=v
 cases v <;> try rfl
 rename_i t v;simp only
 cases C.meth t name with
 | none=>rfl
 | some q=>
  simp only
  cases gS q.1 v with
  | none=>rfl
  | some r=>
   simp only;split
   ·cases aa C L q.2 (r :: as.map (C.ev fr)) h <;> rfl
   ·rfl
end
def zoh (h:O)(sz:Nat)(zero:List J):J->J->Option (J × O)
 | .int _ n,.int _ m=>if 0<=n/\n<=m/\m < am then some (.sl h.blks.length 0 sz n.toNat (some m.toNat),push h (rep zero m.toNat)) else none
 | _,_=>none
@[simp] theorem zry (C:eh)(L:az)(fr:Fr)(h:O)(sz:Nat)(z:List J)(x y:AO):gr C L fr h (.mkc sz z x y)=zoh h sz z (C.ev fr x) (C.ev fr y):=by
 simp only [gr]
 cases C.ev fr x <;> cases C.ev fr y <;> rfl
theorem Rn (h:O)(bs:List (List J))(ts:List Nat)(sz:Nat)(z:List J)(k k':IntKind)(m:Int)(hc:(decide (0<=m)&&decide (m < am))=true):
  zoh (hx h bs ts) sz z (.int k 0) (.int k' m)=some (sA h.blks.length bs.length 0 sz 0 (some m.toNat),hx h (bs++[rep z m.toNat]) ts):=by
 simp only [Bool.and_eq_true,decide_eq_true_eq] at hc;unfold zoh;simp only [if_pos (show (0:Int)<=0/\0<=m/\m < am from ⟨Int.le_refl _,hc.1,hc.2⟩)];simp [sA,hx,push]
theorem zdi (L:az)(h:O)(bs:List (List J))(ts:List Nat)(i off n c:Nat)(k:IntKind)(l m:List Int)(cl:Bool)(hb:bs[i]?=some (cI k l))
  (hm:0 < m.length) (hc:n+m.length<=c) (hl:off+n+m.length<=l.length) (hL:L.rob<=h.blks.length):
  jm L (hx h bs ts) 1 false (sA h.blks.length i off 1 n (some c)) (.vsl cl (eI k m))=some (sA h.blks.length i off 1 (n+m.length) (some c),hx h (bs.set i (cI k (putAt l (off+n) m))) ts):=by
 have hs:=ap h bs ts L i (off+n) (cI k m) (by simp [hL]);rw [hb] at hs;simp only [Nc,Sa] at hs;rw [decide_eq_true (by omega),Nb,O3 _ _ _ _ (by omega)] at hs;have hne:¬(c=n/\True):=fun q=>by omega
 simp only [jm,JT,Option.bind_some,KY,if_true,Fb,MI,sA];rw [if_neg hne,if_pos ⟨trivial,by simpa using hc⟩,Br,Nat.mul_one];simp only [pA] at hs;rw [hs];simp
theorem YT (L:az)(h:O)(bs:List (List J))(ts:List Nat)(i off n c:Nat)(l m:List ac)(cl:Bool)(hb:bs[i]?=some (cW l))
  (hm:0 < m.length) (hc:n+m.length<=c) (hl:off+n+m.length<=l.length) (hL:L.rob<=h.blks.length):
  jm L (hx h bs ts) 1 false (sA h.blks.length i off 1 n (some c)) (.vsl cl (eW m))=some (sA h.blks.length i off 1 (n+m.length) (some c),hx h (bs.set i (cW (putAt l (off+n) m))) ts):=by
 rw [xD] at hb;have:=zdi L h bs ts i off n c .u64 (sy l) (sy m) cl hb (by simpa using hm) (by simpa using hc) (by simpa using hl) hL;rw [AJ,this];have e:sy (putAt l (off+n) m)=putAt (sy l) (off+n) (sy m):=by simp [putAt,sy]
 rw [xD,e];simp
end Go.Av
namespace Go.Av
def GH:AC:=.reg [iv 2 (.mv (.k (.nsl)))]
def CI:AC:=.cond (.t 4) (.seq (.reg [iv 2 (.mv (.k (.nsl)))]) (.ret)) (.skip)
def zkH (sz:Nat)(z:List J):AC:=.seq (.reg [iv 5 (.slit sz 0 z []),iv 6 (.mv (.t 0)),ic 7 (.app sz false (.t 5) (.t 6)),iv 2 (.mv (.t 7))]) (.ret)
def YX (sz:Nat)(z:List J):a8:=⟨8,zkH sz z,[.tmp 2],some (GH,3,4,CI)⟩
theorem zi7 {L:az}{h:O}{sz:Nat}{y:J}{ys:List (List J)}(hy:aH h sz y=some ys)(hstr:fc sz y=true)(hsz:cS sz ys=true)(hr:L.rot<=h.toks.length)(hroom:ys.length < am):
  jm L h sz false (.vsl true []) y=some (gL (.vsl true []) h.toks.length 0 ys,hx h [] (gT ys)):=by
 have:=TT (L:=L) (h:=h) (bs:=[]) (sz:=sz) (s:=.vsl true []) (y:=y) (es:=[]) (ys:=ys) (.inr rfl) (by rw [show gT []=[] from rfl,M5];exact hy) hstr hsz rfl hr (by simpa using hroom);rw [show gL (.vsl true []) h.toks.length 0 []=.vsl true [] from rfl,show gT []=[] from rfl,List.nil_append,M5] at this;exact this
theorem zrD (sz:Nat)(z:List J):ak (rep z 0) []=some []:=rfl
theorem zkI (hh:O)(nb nt m:Nat)(es:List (List J))(hu:aJ nb nt es=true):frz hh nb nt (m+1) (gL (.vsl true []) nt 0 es)=some (.vsl false es):=pe (.inr rfl) hu
theorem V5 {C:eh}{L:az}{h:O}{f:FuncId}{sz:Nat}{z:List J}(hx1:C.ext f=none)(hm:C.mode f=roM)(hf:C.fns f=some (YX sz z))(x:J)(es:List (List J))(he:aH h sz x=some es)(hs:fc sz x=true)
  (hn:∃ nb,E7 x=some nb) (hz:cS sz es=true) (hu:aJ h.blks.length h.toks.length es=true) (hroom:es.length < am):aa C L f [x] h=some (.vsl false es,h):=by
 obtain ⟨nb,hn⟩:=hn;have hap:=zi7 (L:=V h) he hs hz (Nat.le_refl _) hroom;have hg:=fun hh m=>zkI hh h.blks.length h.toks.length m es hu;have hch:chunks sz 0 []=[]:=rfl;have hfl:=zrD sz z;have hlast : ∀ fr : Fr, fr 0 = x -> ∃ fr', run C (V h) (zkH sz z) fr h = some (.ret, fr', hx h [] (gT es)) /\ fr' 2 = gL (.vsl true []) h.toks.length 0 es := fun fr h0 => by
  simp -implicitDefEqProofs [zkH,h0,hfl,hch,hap]
 have hfin : ∀ (fr' : Fr), fr' 2 = gL (.vsl true []) h.toks.length 0 es -> y9 roM (YX sz z) ([x], false) h (.ret, fr', hx h [] (gT es)) = some (.vsl false es, h) := fun fr' h2 => by
  simp -implicitDefEqProofs [y9,YX,vN,h2,hg,Gz,GU]
 rw [aa.eq_def];simp only [hx1,hf,hm,bind,Option.bind_some,ziy,zir];have hq:(YX sz z).pre=some (GH,3,4,CI):=rfl;have hc:(YX sz z).code=zkH sz z:=rfl;simp only [hq,hc];have r0:run C (V h) GH (fun i=>[x].getD i bh) h=some (.normal,zb (fun i=>[x].getD i bh) 2 .nsl,h):=by simp [GH]
 rw [r0];simp only [Option.bind_some,if_true];have hx0:zb (fun i=>[x].getD i bh) 2 .nsl 0=x:=rfl;rw [hx0,hn];simp only [Option.bind_some];have rF : run C (V h) CI (Mb (GH, 3, 4, CI) (zb (fun i => [x].getD i bh) 2 .nsl) false) h = some (.normal, Mb (GH, 3, 4, CI) (zb (fun i => [x].getD i bh) 2 .nsl) false, h) := by
  simp [CI,Mb,zb]
 have rT : run C (V h) CI (Mb (GH, 3, 4, CI) (zb (fun i => [x].getD i bh) 2 .nsl) true) h = some (.ret, zb (Mb (GH, 3, 4, CI) (zb (fun i => [x].getD i bh) 2 .nsl) true) 2 .nsl, h) := by
  simp [CI,Mb,zb]
 obtain ⟨fr',hl1,hl2⟩:=hlast (Mb (GH,3,4,CI) (zb (fun i=>[x].getD i bh) 2 .nsl) false) rfl;have hnilfin : ∀ fr : Fr, fr 2 = .nsl -> y9 roM (YX sz z) ([x], false) h (.ret, fr, h) = some (.vsl false [], h) := fun fr h2 => by
  have hfz:∀ (hh:O) nb nt m,frz hh nb nt (m+1) .nsl=some (.vsl false []):=fun hh nb nt m=>by simp [frz]
  simp -implicitDefEqProofs [y9,YX,vN,h2,Gz,GU,hfz]
 cases nb with
 | some b=>
  cases b with
  | true=>
   have hxn:x=.nsl:=by
    unfold E7 at hn;split at hn
    ·rename_i b hb;obtain rfl:=sj (sj hn);unfold JQ at hb
     split at hb <;> first | rfl | simp_all
    ·split at hn <;> simp at hn
   subst hxn;have hes:es=[]:=by simpa [aH] using he.symm
   subst hes;simp only [rT,Option.bind_some];exact hnilfin _ (by simp [zb])
  | false=>
   simp only [rF,Option.bind_some,hl1];exact hfin _ hl2
 | none=>
  have hxn:∃ c,x=.vsl c []:=by
   unfold E7 at hn;split at hn
   ·simp at hn
   ·split at hn
    ·exact ⟨_,rfl⟩
    ·simp at hn
  obtain ⟨c,rfl⟩:=hxn;have hes:es=[]:=by simpa [aH] using he.symm
  subst hes;simp only [rT,rF,Option.bind_some,and_self,if_true,hl1];have e1:=hnilfin (zb (Mb (GH,3,4,CI) (zb (fun i=>[J.vsl c []].getD i bh) 2 .nsl) true) 2 .nsl) (by simp [zb]);have e2:=hfin _ hl2;rw [if_pos (by rw [hm];exact e1.trans e2.symm)];exact e2
theorem zaR (c:Bool)(es:List (List J)):∃ nb,E7 (.vsl c es)=some nb:=by cases es <;> exact ⟨_,rfl⟩
open Go.RowKit
def Qi:List UInt8:=[48,49,50,51,52,53,54,55,56,57,97,98,99,100,101,102]
def uv (x:Nat):List UInt8:=[Qi.getD (x / 16) 0,Qi.getD (x % 16) 0]
def L5 (a:Int × List Nat):List UInt8:=Lib.itoa a.1++(if a.2=[] then [] else [32])++a.2.flatMap uv++[10]
def iL (l:List (Int × List Nat)):List UInt8:=l.flatMap L5
def zaX (w:World)(v:Value)(l:List Nat):Prop:=
 ∃ a c,v=.slice a l.length c/\l.length<=c/\∀ (i x:Nat),l[i]?=some x->x < 256/\∃ X o,a=some ⟨X,o,none⟩/\w.cell? ⟨X,o+i,none⟩=some (.int .u8 x)
def zhC (w:World)(v:Value)(l:List (Int × List Nat)):Prop:=
 ∃ a c,v=.slice a l.length c/\l.length<=c/\∀ (i:Nat) (x:Int × List Nat),l[i]?=some x-> -9223372036854775808<=x.1/\x.1<=9223372036854775807/\
  ∃ X o v,a=some ⟨X,o,none⟩/\w.cell? ⟨X,o+i*2,none⟩=some (.int .i64 x.1)/\w.cell? ⟨X,o+i*2+1,none⟩=some v/\zaX w v x.2
def zdE:List J->Option Nat
 | [.int .u8 n]=>if 0<=n/\n < 256 then some n.toNat else none
 | _=>none
def Y6 (h:O):List J->Option (Int × List Nat)
 | [.int .i64 n,d]=>if -9223372036854775808<=n/\n<=9223372036854775807/\fc 2 d=true then (aH h 1 d).bind fun ds=>if cS 1 ds=true then (ds.mapM zdE).map fun l=>(n,l) else none else none
 | _=>none
def Lp : Zc := ⟨fun _ args h => match args with
 | [x]=>if fc 2 x=true then (aH h 2 x).bind fun es=>if cS 2 es=true then (es.mapM (Y6 h)).bind fun l=>if l.length<=1000/\(∀ a∈l,a.2.length<=4000) then some (.inl (.str ⟨(iL l).toArray⟩,h)) else none else none else none
 | _=>none,fun _ _ _=>none⟩
theorem mapM_at {α β:Type}{f:α->Option β}{l:List α}{m:List β}(h:l.mapM f=some m):l.length=m.length/\∀ (i:Nat) (y:β),m[i]?=some y->∃ x,l[i]?=some x/\f x=some y:=by
 induction l generalizing m with
 | nil=>
  simp at h;subst h;simp
 | cons a l ih=>
  simp only [List.mapM_cons,Option.bind_eq_bind,Option.bind_eq_some_iff,Option.pure_def,Option.some.injEq] at h;obtain ⟨y,hy,m',hm,rfl⟩:=h;obtain ⟨h1,h2⟩:=ih hm;refine ⟨by simp [h1],fun i z hz=>?_⟩
  cases i with
  | zero=>simp at hz;subst hz;exact ⟨a,rfl,hy⟩
  | succ i=>simpa using h2 i z (by simpa using hz)
theorem Jq {sz:Nat}:∀ {es:List (List J)},(∀ e∈es,e.length=sz)->∀ {i:Nat} {e:List J},es[i]?=some e->∀ {j:Nat} {x:J},e[j]?=some x->es.flatten[i*sz+j]?=some x
 | [],_,i,e,h,j,x,_=>by simp at h
 | e0 :: es, hl, 0, e, h, j, x, hj => by
  obtain rfl:e0=e:=by simpa using h
  have:=(List.getElem?_eq_some_iff.1 hj).1;rw [List.flatten_cons,Nat.zero_mul,Nat.zero_add,List.getElem?_append_left this];exact hj
 | e0 :: es, hl, i + 1, e, h, j, x, hj => by
  have ih:=Jq (es:=es) (fun e' he'=>hl e' (List.mem_cons_of_mem _ he')) (i:=i) (by simpa using h) hj;have h0:=hl e0 (by simp);rw [List.flatten_cons,List.getElem?_append_right (by rw [h0,Nat.succ_mul];omega)];rw [show (i+1)*sz+j - e0.length=i*sz+j by rw [h0,Nat.succ_mul];omega];exact ih
section
variable {C:eh} {s:St}
theorem Wm (hs:gV C s){d:J}{cd:Value}{ds:List (List J)}{l:List Nat}(hd:dG s d cd)(he:aH s.h 1 d=some ds)(hz:cS 1 ds=true)(hst:fc 2 d=true)(hm:ds.mapM zdE=some l):zaX s.w cd l:=by
 obtain ⟨hl,hg⟩:=mapM_at hm;rcases vQ hs hd he hz with ⟨str,rfl,_,_⟩ | ⟨ad,c,rfl,hc,h⟩
 ·simp [fc] at hst
 ·refine ⟨ad,c,by rw [hl],by omega,fun i x hx=>?_⟩;obtain ⟨e,he1,he2⟩:=hg i x hx;rcases h with ⟨X,o,rfl,hrow,hlen⟩ | rfl
  ·unfold zdE at he2;split at he2
   ·rename_i n;split at he2
    ·rename_i hn;obtain rfl:=sj he2;have hfl:ds.flatten[i]?=some (.int .u8 n):=by
      have:=Jq hlen (i:=i) (e:=[.int .u8 n]) he1 (j:=0) (x:=.int .u8 n) rfl;simpa using this
     obtain ⟨_,v,h1,h2⟩:=hrow i _ hfl;obtain rfl:=Fd h2;refine ⟨by omega,X,o,rfl,?_⟩;rw [Int.toNat_of_nonneg hn.1];exact h1
    ·simp at he2
   ·simp at he2
  ·simp at he1
theorem zow (hs:gV C s){x:J}{cx:Value}{es:List (List J)}{l:List (Int × List Nat)}(hx:dG s x cx)(he:aH s.h 2 x=some es)(hz:cS 2 es=true)(hst:fc 2 x=true)(hm:es.mapM (Y6 s.h)=some l):zhC s.w cx l:=by
 obtain ⟨hl,hg⟩:=mapM_at hm;rcases vQ hs hx he hz with ⟨str,rfl,_,_⟩ | ⟨ad,c,rfl,hc,h⟩
 ·simp [fc] at hst
 ·refine ⟨ad,c,by rw [hl],by omega,fun i y hy=>?_⟩;obtain ⟨e,he1,he2⟩:=hg i y hy;rcases h with ⟨X,o,rfl,hrow,hlen⟩ | rfl
  ·unfold Y6 at he2;split at he2
   ·rename_i n d;split at he2
    ·rename_i hn;obtain ⟨ds,hd1,he2⟩:=Option.bind_eq_some_iff.1 he2;split at he2
     ·rename_i hzd;obtain ⟨m,hm2,rfl⟩:=Option.map_eq_some_iff.1 he2;have f0:=Jq hlen (i:=i) he1 (j:=0) (x:=.int .i64 n) rfl;have f1:=Jq hlen (i:=i) he1 (j:=1) (x:=d) rfl;obtain ⟨_,v0,h1,h2⟩:=hrow _ _ f0;obtain ⟨_,v1,h3,h4⟩:=hrow _ _ f1;obtain rfl:=Fd h2;exact ⟨hn.1,hn.2.1,X,o,v1,rfl,by simpa [World.at] using h1,by simpa [World.at,Nat.add_assoc] using h3,Wm hs h4 hd1 hzd hn.2.2 hm2⟩
     ·simp at he2
    ·simp at he2
   ·simp at he2
  ·simp at he1
end
theorem zox {C : eh}{P : Program}{s : St}(hs : gV C s){name : String}{g : Nat}{k : IntKind}{zs : List Int}(hg : P.globalNamed name = some g)(hc : C.glob g = some (zs.map fun z => .int k z)) : Lib.TabIs P s.w name k zs := by
 obtain ⟨hr,vs,e,fz,hh,hsz⟩:=hs.glob g _ hc;unfold Lib.TabIs World.var?;rw [hg];simp only [Option.bind_some,hh,Option.some.injEq];apply Array.ext_getElem?;intro i;by_cases hi:i < zs.length
 ·obtain ⟨v,h1,_,_,h2⟩:=hr.get i (.int k zs[i]) (by simp [hi]);obtain rfl:=Fd h2;have:vs[i]?=some (Value.int k zs[i]):=by
   have h1':s.w.cell? ⟨g,0+i,none⟩=some (Value.int k zs[i]):=h1;simpa [World.cell?,hh] using h1'
  rw [this];simp [hi]
 ·rw [Array.getElem?_eq_none (by rw [hsz];simp;omega),Array.getElem?_eq_none (by simp;omega)]
theorem zdK {L:az}{args:List J}{h:O}{q:FuncId × List J × O}:Lp.pre L args h≠some (.inr q):=by
 unfold Lp;simp only;split
 ·split
  ·intro e;obtain ⟨es,_,e⟩:=Option.bind_eq_some_iff.1 e;split at e
   ·obtain ⟨l,_,e⟩:=Option.bind_eq_some_iff.1 e
    split at e <;> simp at e
   ·simp at e
  ·simp
 ·simp
theorem zhH {C:eh}{P:Program}{f:FuncId}{fn:Func}{g:Nat}(hf:P.funcs[f]?=some fn)(hb:fn.body.isSome=true)(hn:fn.name≠ "runtime.NumGoroutine")
  (hg:P.globalNamed "internal/strconv.uint64pow10"=some g) (hc:C.glob g=some (Lib.pow10Tab.map fun z=>.int .u64 z))
  (hw:∀ (l:List (Int × List Nat)) (v:Value) (w:World),zhC w v l->l.length<=1000->(∀ x∈l,x.2.length<=4000)->Lib.TabIs P w "internal/strconv.uint64pow10" .u64 Lib.pow10Tab->Calls P f #[v] w fun e w'=>e=.returned (.string ⟨(iL l).toArray⟩)/\Below w.heap.size w w')
  {L:az} {args:List J} {h:O} {v:J} {h':O} (hp:Lp.pre L args h=some (.inl (v,h'))):kU C P L f args h v h':=by
 obtain ⟨x,hb⟩:=Option.isSome_iff_exists.1 hb;unfold Lp at hp;simp only at hp;split at hp
 ·rename_i a;split at hp
  ·rename_i hst;obtain ⟨es,he,hp⟩:=Option.bind_eq_some_iff.1 hp;split at hp
   ·rename_i hz;obtain ⟨l,hm,hp⟩:=Option.bind_eq_some_iff.1 hp;split at hp
    ·rename_i hlim;simp only [Option.some.injEq,Sum.inl.injEq,Prod.mk.injEq] at hp;obtain ⟨rfl,rfl⟩:=hp;refine ⟨jJ.refl L h,fun s cargs hh hs hL hrep=>?_⟩;subst hh;obtain ⟨cx,rfl,hx⟩:∃ cx,cargs=#[cx]/\dG s a cx:=by
      obtain ⟨c⟩:=cargs;simp only at hrep
      cases hrep with
      | cons _ y _ ys h1 h2=>cases h2;exact ⟨y,rfl,h1⟩
     refine ⟨.enter f _,s.w,J7 hf hb hn _ _,.inr ⟨f,_,rfl,?_⟩⟩;refine (hw l cx s.w (zow hs hx he hz hst hm) hlim.1 hlim.2 (zox hs hg hc)).mono fun e w' hq=>?_;obtain ⟨rfl,hb⟩:=hq;exact Good.ext hs ⟨hb.os,hb.tape,hb.output,hb.size,hb.block⟩ (.str _)
    ·simp at hp
   ·simp at hp
  ·simp at hp
 ·simp at hp
end Go.Av
namespace Go.Av
structure Cl where
 d:Nat
 t:Nat
 n:Nat
 b:List Nat
inductive StS where
 | done
 | err (c:Nat)
 | call (x:Cl) (r:List Nat)
def zrJ (l:List Nat)(n:Nat):StS:=match l with
 | []=>.done
 | d :: r => if n = 200 then .err 9 else
  if d=0 then match r with
   | t :: lo :: hi :: q=>if q.length < lo+256*hi then .err 2 else .call ⟨0,t,0,q.take (lo+256*hi)⟩ (q.drop (lo+256*hi))
   | _=>.err 2
  else if d=1\/d=2 then match r with
   | lo :: hi :: q=>.call ⟨d,0,lo+256*hi,[]⟩ q
   | _=>.err 2
  else if d=3\/d=4 then .call ⟨d,0,0,[]⟩ r
  else .err 5
def zrq:Nat->List Nat->List Cl->Nat ⊕ List Cl
 | 0,_,acc=>.inr acc
 | f + 1, l, acc => match zrJ l acc.length with
  | .done=>.inr acc
  | .err c=>.inl c
  | .call x r=>zrq f r (acc++[x])
def zug (l:List Nat):Nat ⊕ (Nat × List Nat × List Cl):=match l with
 | b :: lo :: hi :: q => if q.length < lo + 256 * hi then .inl 2 else
  match zrq (q.length+1) (q.drop (lo+256*hi)) [] with
  | .inl c=>.inl c
  | .inr cs=>.inr (b,q.take (lo+256*hi),cs)
 | _=>.inl 2
open Go.RowKit
def nI (l:List Nat):List Int:=l.map fun x:Nat=>(x:Int)
def clA (x:Cl):List J:=[.int .i64 (x.d:Int),.int .i64 (x.t:Int),.int .i64 (x.n:Int),.vsl false (eI .u8 (nI x.b))]
def zui:Nat ⊕ (Nat × List Nat × List Cl)->J
 | .inl c=>.tup [.agg [.int .i64 0,.vsl false [],.vsl false []],.int .i64 (c:Int)]
 | .inr (b,p,cs)=>.tup [.agg [.int .i64 (b:Int),.vsl false (eI .u8 (nI p)),.vsl false (cs.map clA)],.int .i64 0]
def OBx (B:Nat)(w:World)(a:Option Addr)(c:Nat)(l:List Nat):Prop:=
 l.length<=c/\(a=none->c=0)/\∀ (i x:Nat),l[i]?=some x->x < 256/\∃ X o,a=some ⟨X,o,none⟩/\X < B/\w.cell? ⟨X,o+i,none⟩=some (.int .u8 x)
def NBx (T:TypeId)(B:Nat)(w:World)(v:Value)(l:List Nat):Prop:=
 ∃ a c,v=.slice a l.length c/\l.length<=c/\(a=none->c=0)/\∀ (i x:Nat),l[i]?=some x->x < 256/\∃ X o,a=some ⟨X,o,none⟩/\B<=X/\∃ (cs:Array Value) (fz:Nat × Nat),w.heap[X]?=some (Obj.cells cs T fz)/\cs[o+i]?=some (.int .u8 x)
def ztJ (p:Cl × Value):List Value:=[.int .i64 (p.1.d:Int),.int .i64 (p.1.t:Int),.int .i64 (p.1.n:Int),p.2]
def zsP (T TC:TypeId)(w:World)(r:Nat ⊕ (Nat × List Nat × List Cl))(e:Ending)(w':World):Prop:=Below w.heap.size w w'/\match r with
 | .inl c=>e=.returned (.tuple #[.agg #[.int .i64 0,.slice none 0 0,.slice none 0 0],.int .i64 (c:Int)])
 | .inr (bk,pat,cl)=>∃ (pv cv:Value) (cs:List (Cl × Value)),e=.returned (.tuple #[.agg #[.int .i64 (bk:Int),pv,cv],.int .i64 0])/\NBx T w.heap.size w' pv pat/\cs.map (·.1)=cl/\w'.ownsRow w.heap.size TC 4 cv cs.length (cs.flatMap ztJ)/\∀ p∈cs,NBx T w.heap.size w' p.2 p.1.b
section
variable {C:eh} {s:St}
theorem zt2 (hs:gV C s){d:J}{cd:Value}{ds:List (List J)}{l:List Nat}(hd:dG s d cd)(he:aH s.h 1 d=some ds)(hz:cS 1 ds=true)(hst:fc 2 d=true)(hm:ds.mapM zdE=some l):
  ∃ a c,cd=.slice a l.length c/\OBx s.w.heap.size s.w a c l:=by
 obtain ⟨a,c,rfl,h1,h2⟩:=Wm hs hd he hz hst hm;refine ⟨a,c,rfl,h1,fun e=>?_,fun i x hx=>?_⟩
 ·subst e;have hk : ∀ n c, dG s d (.slice none n c) -> c = 0 := fun n c hd => by
   cases hd with
   | vsl0 _ _ _ _ h=>exact h rfl
   | nsl=>rfl
  exact hk _ _ hd
 ·obtain ⟨k1,X,o,rfl,k2⟩:=h2 i x hx;exact ⟨k1,X,o,rfl,WS (o:=o+i) k2,k2⟩
end
end Go.Av
namespace Go.Av
def I7 (P:Program)(t:TypeId)(name:String)(f:FuncId)(off:Nat):Bool:=
 match P.info? t with
 | some i => match i.methods.find? (·.name == name) with
  | some m => match m.path.toList, m.func with
   | [s], some (g, pr) => !s.deref && g == f && pr && (match P.underlying s.struct with
    | some (.struct fields) => (match fields[s.index]? with
     | some fd=>fd.offset==off&&uW P fd.type==some 1&&C2 P fd.type==some false&&(match P.underlying fd.type with | some (.pointer _)=>true | _=>false)
     | none=>false)
    | _=>false)
   | _,_=>false
  | none=>false
 | none=>false
theorem zc5 {P:Program}{t:TypeId}{name:String}{f:FuncId}{off:Nat}(hm:I7 P t name f off=true)(n:Nat){s:St}{v:J}{cv:Value}{r:J}(hr:dG s v cv)(hf:gS [(off,1,false)] v=some r)(w:World):
  ∃ cr,(method (n+1) t cv name).run P w=.ok (f,cr) w/\dG s r cr:=by
 unfold I7 at hm;split at hm
 ·rename_i i hi;split at hm
  ·rename_i m hfi;split at hm
   ·rename_i st g pr hp hg;simp only [Bool.and_eq_true,Bool.not_eq_true',beq_iff_eq] at hm;obtain ⟨⟨⟨h1,rfl⟩,rfl⟩,h2⟩:=hm;split at h2
    ·rename_i fields hu;split at h2
     ·rename_i fd hfd;simp only [Bool.and_eq_true,beq_iff_eq] at h2;obtain ⟨⟨⟨rfl,hz⟩,ha⟩,h3⟩:=h2;split at h3
      ·rename_i el hel
       cases v with
       | agg cs=>
        simp only [gS] at hf;obtain ⟨r',hr1,hr2⟩:=Option.bind_eq_some_iff.1 hf;obtain rfl:r'=r:=sj hr2
        cases hr with
        | agg _ vs hrl hk=>
         obtain ⟨cr,e1,e2⟩:=Nw (P:=P) hz ha hrl hk hr1 w;refine ⟨cr,?_,e2⟩;unfold method;rw [Sem.run_bind,run_typeInfo w hi];simp only [Result.andThen,hfi,hp,follow,hg,h1];simp only [Sem.run_bind,run_underlying hu,Result.andThen_ok,hfd,Bool.false_eq_true,if_false,e1,Sem.run_pure,receiverAt,run_underlying hel,Place.get]
       | _=>simp [gS] at hf
      ·cases h3
     ·cases h2
    ·cases h2
   ·cases hm
  ·cases hm
 ·cases hm
end Go.Av
