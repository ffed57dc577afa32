/- An abstract machine of Go code, the compiler to it, and what its values and plain operations are in the model. -/
import Derived.Calls
import Derived.Orders
import Derived.Laws.Sem
import Derived.Laws.Entries
import Derived.Laws.Cells
import Derived.ChangeKeysEq
import Derived.Laws.StructEq
set_option linter.unusedSimpArgs false
set_option linter.unusedVariables false
namespace Go.Av
inductive J where
 | int (k:IntKind) (n:Int)
 | bool (b:Bool)
 | str (s:ByteArray)
 | nilp
 | ptr (b off:Nat)
 | vptr (cs:List J) (off:Nat)
 | sl (b off sz len:Nat) (cap:Option Nat)
 | gsl (t:Nat) (es:List (List J))
 | vsl (clip:Bool) (es:List (List J))
 | nsl
 | fn (f:Fn) (first cap:List J)
 | nfn
 | iface (t:TypeId) (v:J)
 | nif
 | agg (cs:List J)
 | tup (vs:List J)
 deriving Inhabited
abbrev Ii (n:Int):J:=.int .i64 n
abbrev Wr (n:Int):Int:=IntKind.i64.wrap n
abbrev Fr:=Nat->J
theorem sj {α:Type _}{a b:α}(h:some a=some b):a=b:=Option.some.inj h
theorem kp {l:List Nat}{f g:Fr}(k:∀ t,t∉l->f t=g t){n:Nat}{v:J}(e:g n=v)(d:n∉l:=by decide):f n=v:=(k n d).trans e
def ba:J:=.tup []
def J.isCell:J->Bool
 | .agg _ | .tup _=>false
 | _=>true
def J.okV:J->Bool
 | .tup _=>false
 | _=>true
def J.cells:J->List J
 | .agg cs=>cs
 | v=>[v]
structure O where
 blks:List (List J)
 toks:List Nat
 deriving Inhabited
inductive AO where
 | t (n:Nat)
 | k (v:J)
 | g (n:Nat)
inductive CK where
 | i | b | s
 deriving DecidableEq,Inhabited
inductive zaH where
 | bool | ptr | slc | fn | ifc | agg (sh:List CK)
 deriving DecidableEq,Inhabited
inductive SK where
 | str | slc | arr (n:Nat)
 deriving DecidableEq,Inhabited
inductive Vw where
 | mv (x:AO)
 | pick (c a b:AO)
 | boxv (x:AO)
 | build (zero:List J) (parts:List (Nat × Nat × AO))
 | slit (sz len:Nat) (zero:List J) (parts:List (Nat × AO))
 | nck (x:AO)
 | bin (op:BinOp) (x y:AO)
 | eq (cls:zaH) (neg:Bool) (x y:AO)
 | un (op:UnOp) (x:AO)
 | i2i (k:IntKind) (x:AO)
 | s2s (x:AO)
 | s2a (n:Nat) (x:AO)
 | mkif (t:TypeId) (x:AO)
 | mkfn (f:Fn) (first cap:List AO)
 | slice (k:SK) (sz:Nat) (x:AO) (lo hi mx:Option AO)
 | fadr (off:Nat) (x:AO)
 | fld (off sz:Nat) (agg:Bool) (x:AO)
 | iadr (arr:Option Nat) (sz:Nat) (x i:AO)
 | idxA (len sz:Nat) (agg:Bool) (x i:AO)
 | idxS (x i:AO)
 | ext (x:AO) (i:Nat)
 | lenS (x:AO)
 | lenL (x:AO)
 | mxmn (mx:Bool) (xs:List AO)
 | tas (t:TypeId) (zero:J) (ok:Bool) (x:AO)
inductive Lk where
 | ld (n:Nat) (agg:Bool) (x:AO)
 | b2s (x:AO)
 | mark (x:AO)
 | call (f:FuncId) (args:List AO)
 | inv (x:AO) (name:String) (args:List AO)
inductive TP where
 | alloc (zero:List J)
 | box (x:AO)
 | slit (sz len:Nat) (zero:List J) (parts:List (Nat × AO))
 | mk (sz:Nat) (zero:List J) (len:AO)
 | mkc (sz:Nat) (zero:List J) (len cap:AO)
 | st (n:Nat) (x y:AO)
 | app (sz:Nat) (ref:Bool) (x y:AO)
 | copy (sz:Nat) (x y:AO)
 | clear (zero:List J) (x:AO)
 | s2b (x:AO)
 | call (f:FuncId) (args:List AO)
 | callv (x:AO) (args:List AO)
 | inv (x:AO) (name:String) (args:List AO)
inductive Wk where
 | v (o:Vw)
 | r (o:Lk)
 | c (o:TP)
structure AI where
 dst:Option Nat
 op:Wk
 grd:Option (Nat × Bool):=none
 use:List Nat:=[]
 lo:Nat:=0
 hi:Nat:=0
inductive AC where
 | skip
 | reg (ops:List AI)
 | draw (ops:List AI)
 | draw2 (a b:List AI) (ag:List (Nat × Nat))
 | seq (a b:AC)
 | cond (c:AO) (a b:AC)
 | blk (id:Nat) (a:AC)
 | loop (a:AC)
 | exit (id:Nat)
 | scope (a:AC)
 | label (l:Nat)
 | goto (l:Nat)
 | ret
inductive Cm where
 | tmp (t:Nat)
 | cell (a n:Nat) (agg:Bool)
structure aZ where
 n:Nat
 code:AC
 res:List Cm
 pre:Option (AC × Nat × Nat × AC)
structure Mode where
 ro:Bool
 fz:Bool
 esc:Bool
 own:Bool:=false
 deriving DecidableEq,Inhabited
def Mode.pure:Mode:=⟨true,true,false,false⟩
structure az where
 rob:Nat
 rot:Nat
 nb:Nat
 nt:Nat
 deriving Inhabited
structure zaK where
 pre:az->List J->O->Option ((J × O) ⊕ (FuncId × List J × O))
 post:List J->J->O->Option (J × O)
structure eD where
 fns:FuncId->Option aZ
 mode:FuncId->Mode
 glob:Nat->Option (List J)
 meth:TypeId->String->Option (List (Nat × Nat × Bool) × FuncId)
 ext:FuncId->Option zaK
 qinv:String->Bool:=fun _=>false
def eD.ev (C:eD)(fr:Fr):AO->J
 | .t n=>fr n
 | .k v=>v
 | .g n=>match C.glob n with | some cs=>.vptr cs 0 | none=>ba
def HN (fr:Fr)(d:Nat)(v:J):Fr:=fun i=>if i=d then v else fr i
def put (fr:Fr):Option Nat->J->Fr
 | some d,v=>HN fr d v
 | none,_=>fr
def oU (use:List Nat)(fr:Fr):Fr:=fun i=>if use.contains i then fr i else ba
def Ke:J->Option Int
 | .int _ n=>some n
 | _=>none
def GD:CK->J->J->Option Bool
 | .i,.int k a,.int k' b=>if k=k' then some (a==b) else none
 | .b,.bool a,.bool b=>some (a==b)
 | .s,.str a,.str b=>some (a==b)
 | _,_,_=>none
def cK:List CK->List J->List J->Option Bool
 | [],[],[]=>some true
 | k :: ks, x :: xs, y :: ys => do
  let a <- GD k x y
  let b <- cK ks xs ys
  some (a&&b)
 | _,_,_=>none
def GF (cls:zaH)(x y:J):Option Bool:=
 match cls,x,y with
 | .bool,.bool a,.bool b=>some (a==b)
 | .agg sh,.agg xs,.agg ys=>cK sh xs ys
 | .ptr,.nilp,.nilp=>some true
 | .ptr,.nilp,.ptr ..=>some false
 | .ptr,.nilp,.vptr ..=>some false
 | .ptr,.ptr ..,.nilp=>some false
 | .ptr,.vptr ..,.nilp=>some false
 | .slc,.nsl,.nsl=>some true
 | .slc,.nsl,.sl ..=>some false
 | .slc,.sl ..,.nsl=>some false
 | .slc,.nsl,.vsl _ (_ :: _)=>some false
 | .slc,.vsl _ (_ :: _),.nsl=>some false
 | .slc,.nsl,.gsl _ (_ :: _)=>some false
 | .slc,.gsl _ (_ :: _),.nsl=>some false
 | .fn,.nfn,.nfn=>some true
 | .fn,.nfn,.fn ..=>some false
 | .fn,.fn ..,.nfn=>some false
 | .ifc,.nif,.nif=>some true
 | .ifc,.nif,.iface ..=>some false
 | .ifc,.iface ..,.nif=>some false
 | _,_,_=>none
def md (op:BinOp)(k:IntKind)(x y:Int):Option J:=
 match op with
 | .add=>some (.int k (k.wrap (x+y)))
 | .sub=>some (.int k (k.wrap (x - y)))
 | .mul=>some (.int k (k.wrap (x*y)))
 | .quo=>if y=0 then none else some (.int k (k.wrap (x.tdiv y)))
 | .rem=>if y=0 then none else some (.int k (x.tmod y))
 | .and=>some (.int k (k.wrap (BitVec.ofInt k.bits x&&&BitVec.ofInt k.bits y).toNat))
 | .or=>some (.int k (k.wrap (BitVec.ofInt k.bits x|||BitVec.ofInt k.bits y).toNat))
 | .xor=>some (.int k (k.wrap (BitVec.ofInt k.bits x ^^^ BitVec.ofInt k.bits y).toNat))
 | .andNot=>some (.int k (k.wrap (BitVec.ofInt k.bits x&&&~~~ (BitVec.ofInt k.bits y)).toNat))
 | .eql=>some (.bool (x==y))
 | .neq=>some (.bool (x !=y))
 | .lss=>some (.bool (decide (x < y)))
 | .leq=>some (.bool (decide (x<=y)))
 | .gtr=>some (.bool (decide (x > y)))
 | .geq=>some (.bool (decide (x>=y)))
 | _=>none
def ua (op:BinOp)(k:IntKind)(x y:Int):Option J:=
 if y < 0 then none else
 match op with
 | .shl=>some (.int k (k.wrap (x*2 ^ (min y.toNat k.bits))))
 | .shr=>some (.int k (x.fdiv (2 ^ (min y.toNat k.bits))))
 | _=>none
def aV (op:BinOp)(x y:J):Option J:=
 match op,x,y with
 | .shl,.int k a,.int _ b=>ua .shl k a b
 | .shr,.int k a,.int _ b=>ua .shr k a b
 | op,.int k a,.int k' b=>if k=k' then md op k a b else none
 | .add,.str a,.str b=>if ((a.size+b.size:Nat):Int) > IntKind.i64.max then none else some (.str (a++b))
 | .eql,.str a,.str b=>some (.bool (a==b))
 | .neq,.str a,.str b=>some (.bool !(a==b))
 | _,_,_=>none
def unA (op:UnOp)(x:J):Option J:=
 match op,x with
 | .neg,.int k n=>some (.int k (k.wrap (0 - n)))
 | .xor,.int k n=>some (.int k (k.wrap (BitVec.ofInt k.bits (if k.signed then -1 else k.max) ^^^ BitVec.ofInt k.bits n).toNat))
 | .not,.bool b=>some (.bool !b)
 | _,_=>none
def cL (agg:Bool)(cs:List J)(off sz:Nat):Option J:=
 if agg then (if off+sz<=cs.length then some (.agg ((cs.drop off).take sz)) else none) else cs[off]?
def setAt:List J->Nat->List J->List J
 | cs,_,[]=>cs
 | cs,off,v :: vs=>setAt (cs.set off v) (off+1) vs
def al (cells:List J):List (Nat × Nat × J)->Option (List J)
 | []=>some cells
 | (off,sz,v) :: rest=>
  if v.cells.length≠sz\/off+sz > cells.length\/v.okV=false then none else al (setAt cells off v.cells) rest
def chunks (sz:Nat):Nat->List J->List (List J)
 | 0,_=>[]
 | n+1,cs=>cs.take sz :: chunks sz n (cs.drop sz)
def rep (zero:List J):Nat->List J
 | 0=>[]
 | n+1=>zero++rep zero n
def B9:J->Option Nat
 | .sl _ _ _ n _=>some n
 | .gsl _ es=>some es.length
 | .vsl _ es=>some es.length
 | .nsl=>some 0
 | _=>none
def jp (x:Option J)(dflt most:Nat):Option Nat:=
 match x with
 | none=>some dflt
 | some (.int _ i)=>if 0<=i/\i<=most then some i.toNat else none
 | _=>none
def CV {α:Type}(l h:Nat)(es:List α):List α:=(es.take h).drop l
def eo (sz:Nat):List (List J)->Bool
 | []=>true
 | e :: _=>e.length==sz
def eP (k:SK)(sz:Nat)(x:J)(lo hi mx:Option J):Option J:=
 match k,x with
 | .str, .str s => do
  if mx.isSome then none else
  let h <- jp hi s.size s.size
  let l <- jp lo 0 h
  some (.str (s.extract l h))
 | .slc, .nsl => do
  let m <- jp mx 0 0
  let h <- jp hi 0 m
  let _ <- jp lo 0 h
  some .nsl
 | .slc, .vsl c es => do
  let m <- jp mx es.length es.length
  let h <- jp hi es.length m
  let l <- jp lo 0 h
  if eo sz es=true then some (.vsl ((mx.isSome&&h==m)||(c&&h==es.length)) (CV l h es)) else none
 | .slc, .gsl _ es => do
  let m <- jp mx es.length es.length
  let h <- jp hi es.length m
  let l <- jp lo 0 h
  if eo sz es=true then some (.vsl (mx.isSome&&h==m) (CV l h es)) else none
 | .slc, .sl b off s n cap => do
  if s≠sz then none else
  let m <- jp mx (cap.getD n) (cap.getD n)
  let h <- jp hi n m
  let l <- jp lo 0 h
  if h=l then some (.vsl (mx.isSome&&m==l||mx.isNone&&cap==some l) []) else
  some (.sl b (off+l*sz) sz (h - l) (if mx.isSome then some (m - l) else cap.map (· - l)))
 | .arr n, .ptr b off => do
  let m <- jp mx n n
  let h <- jp hi n m
  let l <- jp lo 0 h
  if h=l then some (.vsl (m==l) []) else
  some (.sl b (off+l*sz) sz (h - l) (some (m - l)))
 | .arr n, .vptr cs off => do
  let m <- jp mx n n
  let h <- jp hi n m
  let l <- jp lo 0 h
  if off+n*sz<=cs.length then some (.vsl (h==m) (CV l h (chunks sz n (cs.drop off)))) else none
 | _,_=>none
def bO (arr:Option Nat)(sz:Nat)(x i:J):Option J:=do
 let i <- Ke i
 match arr,x with
 | none,.sl b off s n _=>if s=sz/\0<=i/\i < n then some (.ptr b (off+i.toNat*sz)) else none
 | none,.gsl _ es=>if 0<=i then (es[i.toNat]?).bind fun e=>if e.length=sz then some (.vptr e 0) else none else none
 | none,.vsl _ es=>if 0<=i then (es[i.toNat]?).bind fun e=>if e.length=sz then some (.vptr e 0) else none else none
 | some n,.ptr b off=>if 0<=i/\i < n then some (.ptr b (off+i.toNat*sz)) else none
 | some n,.vptr cs off=>if 0<=i/\i < n then some (.vptr cs (off+i.toNat*sz)) else none
 | _,_=>none
def zc4 (mx:Bool):J->J->Option J
 | .int k x,.int _ y=>some (.int k (if mx then (if y > x then y else x) else (if y < x then y else x)))
 | _,_=>none
def BI (mx:Bool):J->List J->Option J
 | x,[]=>some x
 | x,y :: ys=>do BI mx (<- zc4 mx x y) ys
def bp (C:eD)(fr:Fr):Vw->Option J
 | .mv x=>some (C.ev fr x)
 | .pick c a b=>match C.ev fr c with | .bool t=>some (if t then C.ev fr a else C.ev fr b) | _=>none
 | .boxv x=>if (C.ev fr x).okV then some (.vptr (C.ev fr x).cells 0) else none
 | .build zero parts=>do some (.agg (<- al zero (parts.map fun p=>(p.1,p.2.1,C.ev fr p.2.2))))
 | .slit sz len zero parts=>do some (.vsl true (chunks sz len (<- al (rep zero len) (parts.map fun p=>(p.1*sz,sz,C.ev fr p.2)))))
 | .nck x => match C.ev fr x with
  | .ptr b o=>some (.ptr b o)
  | .vptr cs o=>some (.vptr cs o)
  | .iface t v=>some (.iface t v)
  | _=>none
 | .bin op x y=>aV op (C.ev fr x) (C.ev fr y)
 | .eq cls neg x y=>(GF cls (C.ev fr x) (C.ev fr y)).map fun b=>.bool (if neg then !b else b)
 | .un op x=>unA op (C.ev fr x)
 | .i2i k x=>match C.ev fr x with | .int _ n=>some (.int k (k.wrap n)) | _=>none
 | .s2s x=>match C.ev fr x with | .str s=>some (.str s) | _=>none
 | .s2a n x => match C.ev fr x with
  | .sl b off _ len _=>if n<=len then some (.ptr b off) else none
  | .vsl _ es=>if n<=es.length/\0 < n then some (.vptr (es.take n).flatten 0) else none
  | .gsl _ es=>if n<=es.length/\0 < n then some (.vptr (es.take n).flatten 0) else none
  | _=>none
 | .mkif t x=>some (.iface t (C.ev fr x))
 | .mkfn f first cap=>some (.fn f (first.map (C.ev fr)) (cap.map (C.ev fr)))
 | .slice k sz x lo hi mx=>eP k sz (C.ev fr x) (lo.map (C.ev fr)) (hi.map (C.ev fr)) (mx.map (C.ev fr))
 | .fadr off x => match C.ev fr x with
  | .ptr b o=>some (.ptr b (o+off))
  | .vptr cs o=>some (.vptr cs (o+off))
  | _=>none
 | .fld off sz agg x=>match C.ev fr x with | .agg cs=>cL agg cs off sz | _=>none
 | .iadr arr sz x i=>bO arr sz (C.ev fr x) (C.ev fr i)
 | .idxA len sz agg x i => match C.ev fr x, C.ev fr i with
  | .agg cs,.int _ i=>if 0<=i/\i < len then cL agg cs (i.toNat*sz) sz else none
  | _,_=>none
 | .idxS x i => match C.ev fr x, C.ev fr i with
  | .str s,.int _ i=>if 0<=i then (s.data.toList[i.toNat]?).map fun b=>.int .u8 b.toNat else none
  | _,_=>none
 | .ext x i=>match C.ev fr x with | .tup vs=>vs[i]? | _=>none
 | .lenS x=>match C.ev fr x with | .str s=>some (.int .i64 s.size) | _=>none
 | .lenL x=>(B9 (C.ev fr x)).map fun (n:Nat)=>J.int .i64 (n:Int)
 | .mxmn mx xs=>match xs.map (C.ev fr) with | []=>none | x :: ys=>BI mx x ys
 | .tas t zero ok x => match C.ev fr x with
  | .iface u v=>if u=t then some (if ok then .tup [v,.bool true] else v) else if ok then some (.tup [zero,.bool false]) else none
  | .nif=>if ok then some (.tup [zero,.bool false]) else none
  | _=>none
def qk (h:O)(x:J)(n:Nat)(agg:Bool):Option J:=
 match x with
 | .ptr b off=>(h.blks[b]?).bind fun cs=>cL agg cs off n
 | .vptr cs off=>cL agg cs off n
 | _=>none
def aN (h:O)(sz:Nat):J->Option (List (List J))
 | .sl b off s n _ => if s ≠ sz then none else (h.blks[b]?).bind fun cs =>
   if off+n*sz<=cs.length then some (chunks sz n (cs.drop off)) else none
 | .gsl _ es=>some es
 | .vsl _ es=>some es
 | .nsl=>some []
 | .str s=>some (s.data.toList.map fun b=>[.int .u8 b.toNat])
 | _=>none
def rP:List (List J)->Option (List UInt8)
 | []=>some []
 | [.int .u8 n] :: es=>do some (UInt8.ofNat n.toNat :: (<- rP es))
 | _=>none
mutual
def J.flat:J->Bool
 | .int .. | .bool _ | .str _ | .nilp | .nfn | .nif=>true
 | .agg cs=>bC cs
 | .tup cs=>bC cs
 | .iface _ v=>v.flat
 | _=>false
def bC:List J->Bool
 | []=>true
 | c :: cs=>c.flat&&bC cs
end
mutual
def J.under (nb nt:Nat):J->Bool
 | .int .. | .bool _ | .str _ | .nilp | .nsl | .nfn | .nif=>true
 | .ptr b _=>decide (b < nb)
 | .sl b _ _ _ _=>decide (b < nb)
 | .vptr cs _=>aE nb nt cs
 | .gsl t es=>decide (t < nt)&&aO nb nt es
 | .vsl _ es=>aO nb nt es
 | .fn _ a b=>aE nb nt a&&aE nb nt b
 | .iface _ v=>v.under nb nt
 | .agg cs=>aE nb nt cs
 | .tup cs=>aE nb nt cs
def aE (nb nt:Nat):List J->Bool
 | []=>true
 | c :: cs=>c.under nb nt&&aE nb nt cs
def aO (nb nt:Nat):List (List J)->Bool
 | []=>true
 | e :: es=>aE nb nt e&&aO nb nt es
end
def VY (f:J->Option J)(nb nt:Nat)(cs:List J):Option (List J):=if aE nb nt cs=true then some cs else cs.mapM f
def KJ (f:J->Option J)(nb nt:Nat)(es:List (List J)):Option (List (List J)):=if aO nb nt es=true then some es else es.mapM fun e=>e.mapM f
def frz (h:O)(nb nt:Nat):Nat->J->Option J
 | 0,_=>none
 | n + 1, v => match v with
  | .nsl=>some (.vsl false [])
  | .ptr b off=>if b < nb then some (.ptr b off) else (h.blks[b]?).bind fun cs=>(VY (frz h nb nt n) nb nt cs).map fun cs=>.vptr cs off
  | .vptr cs off=>(VY (frz h nb nt n) nb nt cs).map fun cs=>.vptr cs off
  | .sl b off sz m cap=>if b < nb then some (.sl b off sz m cap) else (aN h sz (.sl b off sz m cap)).bind fun es=>(KJ (frz h nb nt n) nb nt es).map fun es=>.vsl false es
  | .gsl t es=>(KJ (frz h nb nt n) nb nt es).map fun es=>if t < nt then .gsl t es else .vsl false es
  | .vsl _ es=>(KJ (frz h nb nt n) nb nt es).map fun es=>.vsl false es
  | .fn f a b=>if aE nb nt a=true/\aE nb nt b=true then some (.fn f a b) else none
  | .iface t v=>(frz h nb nt n v).map (.iface t)
  | .agg cs=>if bC cs=true then some (.agg cs) else (cs.mapM (frz h nb nt n)).map .agg
  | .tup cs=>(cs.mapM (frz h nb nt n)).map .tup
  | v=>some v
mutual
def nT (h:O):J->Option (J × Bool)
 | .sl b off sz n cap=>do some (.vsl false (<- aN h sz (.sl b off sz n cap)),true)
 | .gsl _ es=>some (.vsl false es,false)
 | .vsl _ es=>some (.vsl false es,false)
 | .nsl=>some (.vsl false [],false)
 | .agg cs => if bC cs then some (.agg cs, false) else do
   let l <- rQ h cs
   some (.agg l.1,l.2)
 | v=>some (v,false)
def rQ (h:O):List J->Option (List J × Bool)
 | []=>some ([],false)
 | x :: xs => do
  let a <- nT h x
  let b <- rQ h xs
  some (a.1 :: b.1,a.2||b.2)
end
def Hg (p b:Nat):Nat:=if b=p then p+1 else if b=p+1 then p else b
inductive SwV (p nt:Nat):J->J->Prop
 | same (v:J) (h:v.under p nt=true):SwV p nt v v
 | ptr (b off:Nat):SwV p nt (.ptr (Hg p b) off) (.ptr b off)
 | sl (b off sz n:Nat) (cap:Option Nat):SwV p nt (.sl (Hg p b) off sz n cap) (.sl b off sz n cap)
inductive SwL (p nt:Nat):List J->List J->Prop
 | nil:SwL p nt [] []
 | cons (a b:J) (as bs:List J) (h:SwV p nt a b) (t:SwL p nt as bs):SwL p nt (a :: as) (b :: bs)
def zn2 (h:O)(ds:List Nat)(frA frB:Fr)(hA hB:O):Prop:=
 (hA=hB/\∀ t∈ds,frA t=frB t)\/
 ∃ a b a' b',hA=⟨h.blks++[a,b],h.toks⟩/\hB=⟨h.blks++[b',a'],h.toks⟩/\a≠[]/\b≠[]/\SwL h.blks.length h.toks.length a a'/\
  SwL h.blks.length h.toks.length b b'/\∀ t∈ds,SwV h.blks.length h.toks.length (frA t) (frB t)
def ao:Nat:=2 ^ 38
def dX (L:az)(h:O)(x:J)(cs:List J):Option O:=
 match x with
 | .ptr b off => (h.blks[b]?).bind fun old =>
   if L.rob<=b/\off+cs.length<=old.length/\(L.nb<=b\/aE 0 0 cs=true) then some {h with blks:=h.blks.set b (setAt old off cs)} else none
 | _=>none
def push (h:O)(cs:List J):O:={h with blks:=h.blks++[cs]}
def ptok (h:O)(n:Nat):O:={h with toks:=h.toks++[n]}
def iT (ref:Bool)(sz:Nat)(h:O)(es:List (List J)):J × O:=
 if ref then (.sl h.blks.length 0 sz es.length none,push h es.flatten) else (.gsl h.toks.length es,ptok h es.length)
def C6 (L:az)(ref:Bool)(sz:Nat)(h:O)(x:J)(ys:List (List J)):Option (J × O):=
 if eo sz ys=true then
  match x with
  | .nsl=>if ys=[] then some (.nsl,h) else if ys.length < ao then some (iT ref sz h ys) else none
  | .vsl true es=>if eo sz es=true then (if ys=[] then some (.vsl true es,h) else if es.length+ys.length < ao then some (iT ref sz h (es++ys)) else none) else none
  | .sl b off s n (some c) => if c = n /\ s = sz then (aN h sz (.sl b off s n (some c))).bind fun es =>
    if ys=[] then some (.sl b off s n (some c),h) else if es.length+ys.length < ao then some (iT ref sz h (es++ys)) else none
   else if s=sz/\n+ys.length<=c then (dX L h (.ptr b (off+n*sz)) ys.flatten).map fun h=>(.sl b off sz (n+ys.length) (some c),h)
   else none
  | .sl b off s n none => if ref = true /\ off = 0 /\ s = sz /\ 0 < n /\ 0 < sz /\ L.rob <= b then (aN h sz (.sl b off s n none)).bind fun es =>
    if ys=[] then some (.sl b off s n none,h) else if es.length+ys.length < ao then
     some (.sl h.blks.length 0 sz (es.length+ys.length) none,push {h with blks:=h.blks.set b []} (es++ys).flatten) else none
   else none
  | .gsl t es => if ref = false /\ es ≠ [] /\ eo sz es = true /\ L.rot <= t /\ h.toks[t]? = some es.length /\ es.length + ys.length < ao then
    some (.gsl t (es++ys),{h with toks:=h.toks.set t (es.length+ys.length)}) else none
  | _=>none
 else none
def lO (sz:Nat):J->Bool
 | .str _=>sz==1
 | _=>true
def fU (C:eD)(L:az)(fr:Fr)(h:O):TP->Option (J × O)
 | .alloc zero=>some (.ptr h.blks.length 0,push h zero)
 | .box x=>if (C.ev fr x).okV then some (.ptr h.blks.length 0,push h (C.ev fr x).cells) else none
 | .slit sz len zero parts => do
   let cs <- al (rep zero len) (parts.map fun p=>(p.1*sz,sz,C.ev fr p.2))
   some (.sl h.blks.length 0 sz len (some len),push h cs)
 | .mk sz zero len => match C.ev fr len with
  | .int _ n=>if 0<=n/\n < ao then some (.sl h.blks.length 0 sz n.toNat (some n.toNat),push h (rep zero n.toNat)) else none
  | _=>none
 | .mkc sz zero len cap => match C.ev fr len, C.ev fr cap with
  | .int _ n,.int _ m=>if 0<=n/\n<=m/\m < ao then some (.sl h.blks.length 0 sz n.toNat (some m.toNat),push h (rep zero m.toNat)) else none
  | _,_=>none
 | .st n x y => let cs := (C.ev fr y).cells
   if cs.length=n/\(C.ev fr y).okV=true then (dX L h (C.ev fr x) cs).map fun h=>(ba,h) else none
 | .app sz ref x y => do
   let ys <- aN h sz (C.ev fr y)
   if lO sz (C.ev fr y)=true then C6 L ref sz h (C.ev fr x) ys else none
 | .copy sz x y => do
   let es <- aN h sz (C.ev fr y)
   if eo sz es=true/\lO sz (C.ev fr y)=true then
    match C.ev fr x with
    | .sl b off s n _ => if s = sz then
      let k:=min es.length n
      (dX L h (.ptr b off) (es.take k).flatten).map fun h=>(.int .i64 k,h) else none
    | _=>none
   else none
 | .clear zero x => match C.ev fr x with
  | .sl b off s n _=>if s=zero.length then (dX L h (.ptr b off) (rep zero n)).map fun h=>(.tup [],h) else none
  | _=>none
 | .s2b x => match C.ev fr x with
  | .str s=>some (.gsl h.toks.length (s.data.toList.map fun b=>[.int .u8 b.toNat]),ptok h s.size)
  | _=>none
 | _=>none
def H6 (C:eD)(fr:Fr)(h:O):Lk->Option J
 | .ld n agg x=>qk h (C.ev fr x) n agg
 | .b2s x => do
   let es <- aN h 1 (C.ev fr x)
   some (.str ⟨(<- rP es).toArray⟩)
 | .mark x => match C.ev fr x with
  | .sl b off sz n c=>some (.sl b off sz n c)
  | _=>none
 | _=>none
inductive dt where
 | normal | exit (id:Nat) | goto (l:Nat) | ret
 deriving DecidableEq
def kC:AC->Nat->Option AC
 | .seq a b,l=>
  match kC a l with
  | some rest=>some (.seq rest b)
  | none=>kC b l
 | .label l',l=>if l'==l then some .skip else none
 | _,_=>none
def d4 (m:Mode)(L:az)(h:O):az:=
 if m.esc then L else if m.ro then ⟨h.blks.length,h.toks.length,h.blks.length,h.toks.length⟩ else ⟨L.rob,L.rot,h.blks.length,h.toks.length⟩
def fY (h:O)(nb nt:Nat):O:=⟨h.blks.take nb,h.toks.take nt⟩
def vf (m:Mode)(h h1:O)(v:J):Option (J × O):=
 if m.esc then some (v,h1) else
 let back:=if m.ro then h else fY h1 h.blks.length h.toks.length
 let plain:=(frz h1 h.blks.length h.toks.length 12 v).map fun v=>(v,back)
 if m.own then
  match v with
  | .gsl t es => if h.toks.length <= t /\ h1.toks[t]? = some es.length /\ aO h.blks.length h.toks.length es = true then
    some (.gsl h.toks.length es,ptok back es.length) else plain
  | _=>plain
 else plain
def vg (fr:Fr)(h:O):List Cm->Option (List J)
 | []=>some []
 | .tmp t :: rs=>do some (fr t :: (<- vg fr h rs))
 | .cell a n agg :: rs=>do some ((<- qk h (fr a) n agg) :: (<- vg fr h rs))
def Fe:List J->J
 | [v]=>v
 | vs=>.tup vs
def o6 (m:Mode)(h:O)(args:List J):Option (List J × Bool):=if m.fz&&m.ro&&!m.esc then rQ h args else some (args,false)
def cM (fr:Fr):Option (Nat × Bool)->Bool
 | none=>true
 | some (t,want)=>match fr t with | .bool b=>b==want | _=>false
def gJ:List (Nat × Nat × Bool)->J->Option J
 | [],v=>some v
 | (off,sz,agg) :: rest,.agg cs=>(cL agg cs off sz).bind (gJ rest)
 | _ :: _,_=>none
def U (C:eD)(f:FuncId):Bool:=(C.mode f).ro&&!(C.mode f).esc&&!(C.mode f).own&&(C.ext f).isNone
def bj:List AI->List Nat
 | []=>[]
 | i :: is=>match i.dst with | some d=>d :: bj is | none=>bj is
def WX (h:O)(a:List AI)(ag:List (Nat × Nat))(rA rB:Fr × List O × List J):Prop:=
 zn2 h (bj a) rA.1 rB.1 (rA.2.1.getLastD h) (rB.2.1.getLastD h)/\∀ q∈ag,rA.2.2[q.1]?=rB.2.2[q.2]?
def yf (m:Mode)(F:aZ)(a:List J × Bool)(h:O)(r:dt × Fr × O):Option (J × O):=
 if (r.1=.normal\/r.1=.ret)/\a.1.length<=F.n then
  (vg r.2.1 r.2.2 F.res).bind fun vs=>(vf m h r.2.2 (Fe vs)).bind fun o=>if (a.2&&!o.1.flat)=true then none else some o
 else none
def DH (x:J):Option (Option Bool):=match GF .slc x .nsl with
 | some b=>some (some b)
 | none => match x with
  | .vsl _ []=>some none
  | _=>none
def KT (q:AC × Nat × Nat × AC)(fr:Fr)(b:Bool):Fr:=HN (HN fr q.2.1 (fr 0)) q.2.2.1 (.bool b)
open Classical in
mutual
noncomputable def Z (C:eD)(L:az)(f:FuncId)(args:List J)(h:O):Option (J × O):=
 match C.ext f with
 | some g => do
  let q <- g.pre L args h
  match q with
  | .inl r=>some r
  | .inr q => do
   let r <- Z C L q.1 q.2.1 q.2.2
   g.post args r.1 r.2
 | none => do
  let F <- C.fns f
  let a <- o6 (C.mode f) h args
  match F.pre with
  | none => do
   let r <- run C (d4 (C.mode f) L h) F.code (fun i=>a.1.getD i ba) h
   yf (C.mode f) F a h r
  | some q => do
   let r0 <- run C (d4 (C.mode f) L h) q.1 (fun i=>a.1.getD i ba) h
   if r0.1=.normal then do
    let nb <- DH (r0.2.1 0)
    match nb with
    | some b => do
     let r1 <- run C (d4 (C.mode f) L h) q.2.2.2 (KT q r0.2.1 b) r0.2.2
     match r1.1 with
     | .normal => do
      let r <- run C (d4 (C.mode f) L h) F.code r1.2.1 r1.2.2
      yf (C.mode f) F a h r
     | _=>yf (C.mode f) F a h r1
    | none => do
     let t1 <- run C (d4 (C.mode f) L h) q.2.2.2 (KT q r0.2.1 true) r0.2.2
     let u1 <- run C (d4 (C.mode f) L h) q.2.2.2 (KT q r0.2.1 false) r0.2.2
     if t1.1=.ret/\u1.1=.normal then do
      let u <- run C (d4 (C.mode f) L h) F.code u1.2.1 u1.2.2
      if yf (C.mode f) F a h t1=yf (C.mode f) F a h u then yf (C.mode f) F a h u else none
     else none
   else none
 partial_fixpoint
noncomputable def run (C:eD)(L:az)(c:AC)(fr:Fr)(h:O):Option (dt × Fr × O):=
 match c with
 | .skip=>some (.normal,fr,h)
 | .label _=>some (.normal,fr,h)
 | .reg ops=>do let r <- ss C L ops fr h;some (.normal,r.1,r.2)
 | .draw ops => do
   let r <- mi C L ops fr h
   let _ <- rg C L ops r.2.2 fr (h :: r.2.1)
   some (.normal,r.1,r.2.1.getLastD h)
 | .draw2 a b ag => do
   let rA <- mi C L a fr h
   let _ <- rg C L a rA.2.2 fr (h :: rA.2.1)
   let rB <- mi C L b fr h
   let _ <- rg C L b rB.2.2 fr (h :: rB.2.1)
   if WX h a ag rA rB then some (.normal,rA.1,rA.2.1.getLastD h) else none
 | .seq a b => do
   let r <- run C L a fr h
   match r.1 with
   | .normal=>run C L b r.2.1 r.2.2
   | _=>some r
 | .cond c a b => match C.ev fr c with
   | .bool true=>run C L a fr h
   | .bool false=>run C L b fr h
   | _=>none
 | .blk id a => do
   let r <- run C L a fr h
   if r.1=.exit id then some (.normal,r.2) else some r
 | .loop a => do
   let r <- run C L a fr h
   match r.1 with
   | .normal=>run C L (.loop a) r.2.1 r.2.2
   | _=>some r
 | .exit id=>some (.exit id,fr,h)
 | .scope a => do
   let r <- run C L a fr h
   JL C L a r.1 r.2.1 r.2.2
 | .goto l=>some (.goto l,fr,h)
 | .ret=>some (.ret,fr,h)
 partial_fixpoint
noncomputable def JL (C:eD)(L:az)(a:AC)(e:dt)(fr:Fr)(h:O):Option (dt × Fr × O):=
 match e with
 | .goto l => match kC a l with
  | some rest => do
   let r <- run C L rest fr h
   JL C L a r.1 r.2.1 r.2.2
  | none=>some (e,fr,h)
 | _=>some (e,fr,h)
 partial_fixpoint
noncomputable def qD (C:eD)(L:az)(o:Lk)(fr:Fr)(h:O):Option J:=
 match o with
 | .call f args => if U C f then do
   let r <- Z C L f (args.map (C.ev fr)) h
   some r.1 else none
 | .inv x name args => match C.ev fr x with
  | .iface t v => match C.meth t name with
   | some (path, f) => match gJ path v with
    | some r => if U C f then do
     let q <- Z C L f (r :: args.map (C.ev fr)) h
     some q.1 else none
    | none=>none
   | none=>none
  | _=>none
 | o=>H6 C fr h o
 partial_fixpoint
noncomputable def iX (C:eD)(L:az)(o:TP)(fr:Fr)(h:O):Option (J × O):=
 match o with
 | .call f args=>Z C L f (args.map (C.ev fr)) h
 | .callv x args => match C.ev fr x with
  | .fn (.func f) first cap=>Z C L f (first++args.map (C.ev fr)++cap) h
  | _=>none
 | .inv x name args => match C.ev fr x with
  | .iface t v => match C.meth t name with
   | some (path, f) => match gJ path v with
    | some r=>Z C L f (r :: args.map (C.ev fr)) h
    | none=>none
   | none=>none
  | _=>none
 | o=>fU C L fr h o
 partial_fixpoint
noncomputable def step1 (C:eD)(L:az)(o:Wk)(fr:Fr)(h:O):Option (J × O):=
 match o with
 | .v o => match bp C fr o with
  | some v=>some (v,h)
  | none=>none
 | .r o=>do let v <- qD C L o fr h;some (v,h)
 | .c o=>iX C L o fr h
 partial_fixpoint
noncomputable def ss (C:eD)(L:az)(ops:List AI)(fr:Fr)(h:O):Option (Fr × O):=
 match ops with
 | []=>some (fr,h)
 | i :: rest => if cM fr i.grd then do
   let r <- step1 C L i.op fr h
   ss C L rest (put fr i.dst r.1) r.2
  else ss C L rest (put fr i.dst ba) h
 partial_fixpoint
noncomputable def mi (C:eD)(L:az)(ops:List AI)(fr:Fr)(h:O):Option (Fr × List O × List J):=
 match ops with
 | []=>some (fr,[],[])
 | i :: rest => if cM fr i.grd then do
   let r <- step1 C L i.op (oU i.use fr) h
   let q <- mi C L rest (put fr i.dst r.1) r.2
   some (q.1,(match i.op with | .c _=>r.2 :: q.2.1 | _=>q.2.1),r.1 :: q.2.2)
  else do
   let q <- mi C L rest (put fr i.dst ba) h
   some (q.1,(match i.op with | .c _=>h :: q.2.1 | _=>q.2.1),ba :: q.2.2)
 partial_fixpoint
noncomputable def rg (C:eD)(L:az)(ops:List AI)(vs:List J)(fr:Fr)(hs:List O):Option Unit:=
 match ops with
 | []=>some ()
 | i :: rest => match vs with
  | v :: vs => match i.op with
   | .r o => if cM fr i.grd && decide (i.lo < i.hi) then do
     let _ <- KU C L o (oU i.use fr) ((hs.take (i.hi+1)).drop i.lo) v
     rg C L rest vs (put fr i.dst v) hs
    else rg C L rest vs (put fr i.dst v) hs
   | _=>rg C L rest vs (put fr i.dst v) hs
  | []=>none
 partial_fixpoint
noncomputable def KU (C:eD)(L:az)(o:Lk)(fr:Fr)(hs:List O)(v:J):Option Unit:=
 match hs with
 | []=>some ()
 | h :: hs => do
   let u <- qD C L o fr h
   if u=v then KU C L o fr hs v else none
 partial_fixpoint
end
end Go.Av
namespace Go.Av
structure St where
 w:World
 h:O
 mb:List Nat
 mt:List (Nat × Nat)
 qb:Nat
 qt:Nat
def Q8 (s:St)(X o:Nat):Prop:=
 (∀ b:Nat,s.qb<=b->s.mb[b]?=some X->s.h.blks[b]?=some [])/\(∀ t sz n:Nat,s.qt<=t->s.mt[t]?=some (X,sz)->s.h.toks[t]?=some n->o < n*sz)
def _root_.Go.World.at (w:World)(X o:Nat):Option Value:=w.cell? ⟨X,o,none⟩
def TI (w:World)(X n c:Nat):Prop:=
 ∃ vs e fz,w.heap[X]?=some (.cells vs e fz)/\c<=vs.size/\∀ i,n<=i->i < c->¬(fz.1<=i/\i < fz.2)
mutual
inductive dH (s:St):J->Value->Prop
 | int (k:IntKind) (n:Int):dH s (.int k n) (.int k n)
 | bool (b:Bool):dH s (.bool b) (.bool b)
 | str (x:ByteArray):dH s (.str x) (.string x)
 | nilp:dH s .nilp (.pointer none)
 | ptr (b off X:Nat) (h:s.mb[b]?=some X):dH s (.ptr b off) (.pointer (some ⟨X,off,none⟩))
 | vptr (cs:List J) (off X o:Nat) (h:d8 s X o cs):dH s (.vptr cs off) (.pointer (some ⟨X,o+off,none⟩))
 | sl (b off sz n c X:Nat) (cap:Option Nat) (h:s.mb[b]?=some X) (hc:n<=c) (hcap:∀ k,cap=some k->k=c)
   (hk:cap=none->∃ vs e fz,s.w.heap[X]?=some (Obj.cells vs e fz)/\off+c*sz<=vs.size):
   dH s (.sl b off sz n cap) (.slice (some ⟨X,off,none⟩) n c)
 | gsl (t:Nat) (es:List (List J)) (X o sz c m n:Nat) (h:gQ s X sz o es) (hc:n<=c) (hn:n=es.length) (ht:s.h.toks[t]?=some m) (hm:n<=m)
   (hv:m=n->s.mt[t]?=some (X,sz)/\o=0/\TI s.w X (n*sz) (c*sz)):
   dH s (.gsl t es) (.slice (some ⟨X,o,none⟩) n c)
 | vsl (clip:Bool) (es:List (List J)) (X o sz c n:Nat) (h:gQ s X sz o es) (hn:n=es.length) (hc:n<=c) (hcl:clip=true->c=n):
   dH s (.vsl clip es) (.slice (some ⟨X,o,none⟩) n c)
 | vsl0 (clip:Bool) (a:Option Addr) (c:Nat) (hcl:clip=true->c=0) (hz:a=none->c=0):dH s (.vsl clip []) (.slice a 0 c)
 | nsl:dH s .nsl (.slice none 0 0)
 | fn (f:Fn) (a b:List J) (a' b':Array Value) (ha:aU s a a'.toList) (hb:aU s b b'.toList):dH s (.fn f a b) (.func f a' b')
 | nfn:dH s .nfn .nilFunc
 | iface (t:TypeId) (v:J) (v':Value) (h:dH s v v'):dH s (.iface t v) (.iface t v')
 | nif:dH s .nif .nilIface
 | agg (cs:List J) (vs:Array Value) (h:aU s cs vs.toList) (hc:∀ c∈cs,c.isCell=true):dH s (.agg cs) (.agg vs)
 | tup (cs:List J) (vs:Array Value) (h:aU s cs vs.toList):dH s (.tup cs) (.tuple vs)
inductive aU (s:St):List J->List Value->Prop
 | nil:aU s [] []
 | cons (x:J) (y:Value) (xs:List J) (ys:List Value) (h:dH s x y) (ht:aU s xs ys):aU s (x :: xs) (y :: ys)
inductive d8 (s:St):Nat->Nat->List J->Prop
 | nil (X o:Nat):d8 s X o []
 | cons (X o:Nat) (c:J) (cs:List J) (v:Value) (hv:World.at s.w X o=some v) (hi:Q8 s X o) (hk:c.isCell=true) (h:dH s c v)
   (ht:d8 s X (o+1) cs):d8 s X o (c :: cs)
inductive gQ (s:St):Nat->Nat->Nat->List (List J)->Prop
 | nil (X sz o:Nat):gQ s X sz o []
 | cons (X sz o:Nat) (e:List J) (es:List (List J)) (hl:e.length=sz) (h:d8 s X o e) (ht:gQ s X sz (o+sz) es):gQ s X sz o (e :: es)
end
structure Le0 (s s':St):Prop where
 blocks:∀ (X:Nat) vs e fz,s.w.heap[X]?=some (Obj.cells vs e fz)->∃ vs' fz',s'.w.heap[X]?=some (Obj.cells vs' e fz')/\vs'.size=vs.size/\
  ∀ i,i < vs.size->¬(fz.1<=i/\i < fz.2)->¬(fz'.1<=i/\i < fz'.2)
 cells:∀ (X o:Nat) (v:Value),Q8 s X o->World.at s.w X o=some v->Q8 s' X o/\World.at s'.w X o=some v
 mb:∀ (b X:Nat),s.mb[b]?=some X->s'.mb[b]?=some X
 mt:∀ (t n:Nat),s.h.toks[t]?=some n->∃ n',s'.h.toks[t]?=some n'/\n<=n'/\(n'=n->s'.mt[t]?=s.mt[t]?)
def Trk (s:St)(X:Nat):Prop:=(∃ b:Nat,s.mb[b]?=some X)\/∃ t z:Nat,s.mt[t]?=some (X,z)
structure Kept (s s':St):Prop where
 os:s'.w.os=s.w.os
 tape:s'.w.tape=s.w.tape
 out:s'.w.output=s.w.output
 size:s.w.heap.size<=s'.w.heap.size
 trk:∀ X,X < s.w.heap.size->Trk s' X->Trk s X
 heap:∀ X:Nat,X < s.w.heap.size->¬Trk s X->s'.w.heap[X]?=s.w.heap[X]?
theorem Kept.refl (s:St):Kept s s:=⟨rfl,rfl,rfl,Nat.le_refl _,fun _ _ h=>h,fun _ _ _=>rfl⟩
theorem Kept.trans {a b c:St}(h:Kept a b)(k:Kept b c):Kept a c:=
 ⟨k.os.trans h.os, k.tape.trans h.tape, k.out.trans h.out, Nat.le_trans h.size k.size, fun X hX ht => h.trk X hX (k.trk X (Nat.lt_of_lt_of_le hX h.size) ht),
  fun X hX ht=>(k.heap X (Nat.lt_of_lt_of_le hX h.size) fun hb=>ht (h.trk X hX hb)).trans (h.heap X hX ht)⟩
structure Ext (w w':World):Prop where
 os:w'.os=w.os
 tape:w'.tape=w.tape
 out:w'.output=w.output
 size:w.heap.size<=w'.heap.size
 heap:∀ X:Nat,X < w.heap.size->w'.heap[X]?=w.heap[X]?
structure Le (s s':St):Prop where
 qb:s'.qb=s.qb
 qt:s'.qt=s.qt
 blocks:∀ (X:Nat) vs e fz,s.w.heap[X]?=some (Obj.cells vs e fz)->∃ vs' fz',s'.w.heap[X]?=some (Obj.cells vs' e fz')/\vs'.size=vs.size/\
  ∀ i,i < vs.size->¬(fz.1<=i/\i < fz.2)->¬(fz'.1<=i/\i < fz'.2)
 cells:∀ (X o:Nat) (v:Value),Q8 s X o->World.at s.w X o=some v->Q8 s' X o/\World.at s'.w X o=some v
 mb:∀ (b X:Nat),s.mb[b]?=some X->s'.mb[b]?=some X
 mt:∀ (t n:Nat),s.h.toks[t]?=some n->∃ n',s'.h.toks[t]?=some n'/\n<=n'/\(n'=n->s'.mt[t]?=s.mt[t]?)
 kept:Kept s s'
theorem Le.le0 {s s':St}(h:Le s s'):Le0 s s':=⟨h.blocks,h.cells,h.mb,h.mt⟩
theorem Le.refl (s:St):Le s s:=
 ⟨rfl,rfl,fun _ vs _ fz h=>⟨vs,fz,h,rfl,fun _ _ h=>h⟩,fun _ _ _ h h'=>⟨h,h'⟩,fun _ _ h=>h,fun _ n h=>⟨n,h,Nat.le_refl _,fun _=>rfl⟩,.refl s⟩
theorem Le.trans {a b c:St}(h:Le a b)(k:Le b c):Le a c where
 qb:=k.qb.trans h.qb
 qt:=k.qt.trans h.qt
 kept:=h.kept.trans k.kept
 blocks X vs e fz hx:=by
  obtain ⟨v1,f1,h1,e1,g1⟩:=h.blocks X vs e fz hx;obtain ⟨v2,f2,h2,e2,g2⟩:=k.blocks X v1 e f1 h1;exact ⟨v2,f2,h2,e2.trans e1,fun i hi hf=>g2 i (by omega) (g1 i hi hf)⟩
 cells X o v hi hv:=by
  obtain ⟨h1,h2⟩:=h.cells X o v hi hv;exact k.cells X o v h1 h2
 mb b X hb:=k.mb b X (h.mb b X hb)
 mt t n hn:=by
  obtain ⟨n1,h1,l1,e1⟩:=h.mt t n hn;obtain ⟨n2,h2,l2,e2⟩:=k.mt t n1 h1;refine ⟨n2,h2,Nat.le_trans l1 l2,fun e=>?_⟩;have:n1=n:=by omega
  subst this;rw [e2 e,e1 rfl]
theorem TI.le0 {s s':St}(hl:Le0 s s'){X n c:Nat}(h:TI s.w X n c):TI s'.w X n c:=by
 obtain ⟨vs,e,fz,h1,h2,h3⟩:=h;obtain ⟨vs',fz',h1',hs,hf⟩:=hl.blocks _ _ _ _ h1;exact ⟨vs',e,fz',h1',by omega,fun i a b=>hf i (by omega) (h3 i a b)⟩
mutual
theorem dH.le0 {s s':St}(hl:Le0 s s'){v:J}{x:Value}:dH s v x->dH s' v x
 | .int k n=>.int k n
 | .bool b=>.bool b
 | .str x=>.str x
 | .nilp=>.nilp
 | .ptr b off X h=>.ptr b off X (hl.mb _ _ h)
 | .vptr cs off X o h=>.vptr cs off X o (d8.le0 hl h)
 | .sl b off sz n c X cap h hc hcap hk => .sl b off sz n c X cap (hl.mb _ _ h) hc hcap fun e => by
  obtain ⟨vs,e0,fz,h1,h2⟩:=hk e;obtain ⟨vs',fz',h3,h4,_⟩:=hl.blocks _ _ _ _ h1;exact ⟨vs',e0,fz',h3,by omega⟩
 | .gsl t es X o sz c m n h hc hn ht hm hv => by
  obtain ⟨m',ht',hle,heq⟩:=hl.mt t m ht;refine .gsl t es X o sz c m' n (gQ.le0 hl h) hc hn ht' (by omega) (fun e=>?_);have e0:m=n:=by omega
  obtain ⟨a,b,d⟩:=hv e0;exact ⟨by rw [heq (by omega)];exact a,b,d.le0 hl⟩
 | .vsl clip es X o sz c n h hn hc hcl=>.vsl clip es X o sz c n (gQ.le0 hl h) hn hc hcl
 | .vsl0 clip a c hcl hz=>.vsl0 clip a c hcl hz
 | .nsl=>.nsl
 | .fn f a b a' b' ha hb=>.fn f a b a' b' (aU.le0 hl ha) (aU.le0 hl hb)
 | .nfn=>.nfn
 | .iface t v v' h=>.iface t v v' (dH.le0 hl h)
 | .nif=>.nif
 | .agg cs vs h hc=>.agg cs vs (aU.le0 hl h) hc
 | .tup cs vs h=>.tup cs vs (aU.le0 hl h)
theorem aU.le0 {s s':St}(hl:Le0 s s'){v:List J}{x:List Value}:aU s v x->aU s' v x
 | .nil=>.nil
 | .cons x y xs ys h ht=>.cons x y xs ys (dH.le0 hl h) (aU.le0 hl ht)
theorem d8.le0 {s s':St}(hl:Le0 s s'){X o:Nat}{v:List J}:d8 s X o v->d8 s' X o v
 | .nil X o=>.nil X o
 | .cons X o c cs v hv hi hk h ht=>.cons X o c cs v (hl.cells _ _ _ hi hv).2 (hl.cells _ _ _ hi hv).1 hk (dH.le0 hl h) (d8.le0 hl ht)
theorem gQ.le0 {s s':St}(hl:Le0 s s'){X sz o:Nat}{v:List (List J)}:gQ s X sz o v->gQ s' X sz o v
 | .nil X sz o=>.nil X sz o
 | .cons X sz o e es hl' h ht=>.cons X sz o e es hl' (d8.le0 hl h) (gQ.le0 hl ht)
end
theorem dH.le {s s':St}(hl:Le s s'){v:J}{x:Value}(h:dH s v x):dH s' v x:=h.le0 hl.le0
theorem aU.le {s s':St}(hl:Le s s'){v:List J}{x:List Value}(h:aU s v x):aU s' v x:=h.le0 hl.le0
theorem gQ.le {s s':St}(hl:Le s s'){X sz o:Nat}{v:List (List J)}(h:gQ s X sz o v):gQ s' X sz o v:=h.le0 hl.le0
theorem aU.length {s:St}:∀ {xs:List J} {ys:List Value},aU s xs ys->xs.length=ys.length
 | _,_,.nil=>rfl
 | _,_,.cons _ _ _ _ _ ht=>by simp [ht.length]
theorem aU.get {s:St}:∀ {xs:List J} {ys:List Value},aU s xs ys->∀ (i:Nat) (x:J),xs[i]?=some x->∃ y,ys[i]?=some y/\dH s x y
 | _,_,.nil,i,x,h=>by simp at h
 | _, _, .cons x0 y0 xs ys h0 ht, i, x, h => by
  cases i with
  | zero=>simp at h;subst h;exact ⟨y0,by simp,h0⟩
  | succ i=>simp at h;obtain ⟨y,hy,hr⟩:=ht.get i x h;exact ⟨y,by simpa using hy,hr⟩
theorem aU.append {s:St}:∀ {xs:List J} {ys:List Value} {xs':List J} {ys':List Value},aU s xs ys->aU s xs' ys'->aU s (xs++xs') (ys++ys')
 | _,_,_,_,.nil,h=>h
 | _,_,_,_,.cons x y xs ys h ht,h'=>.cons _ _ _ _ h (ht.append h')
theorem aU.take {s:St}:∀ {xs:List J} {ys:List Value} (n:Nat),aU s xs ys->aU s (xs.take n) (ys.take n)
 | _,_,0,_=>by simp;exact .nil
 | _,_,n+1,.nil=>by simp;exact .nil
 | _,_,n+1,.cons x y xs ys h ht=>by simp only [List.take_succ_cons];exact .cons _ _ _ _ h (ht.take n)
theorem aU.drop {s:St}:∀ {xs:List J} {ys:List Value} (n:Nat),aU s xs ys->aU s (xs.drop n) (ys.drop n)
 | _,_,0,h=>by simpa using h
 | _,_,n+1,.nil=>by simp;exact .nil
 | _,_,n+1,.cons x y xs ys h ht=>by simp only [List.drop_succ_cons];exact ht.drop n
theorem aU.set {s:St}:∀ {xs:List J} {ys:List Value} (i:Nat) {x:J} {y:Value},aU s xs ys->dH s x y->aU s (xs.set i x) (ys.set i y)
 | _,_,_,_,_,.nil,_=>by simp;exact .nil
 | _,_,0,_,_,.cons x0 y0 xs ys h ht,hx=>by simp;exact .cons _ _ _ _ hx ht
 | _,_,i+1,_,_,.cons x0 y0 xs ys h ht,hx=>by simp;exact .cons _ _ _ _ h (ht.set i hx)
theorem aU.of_get {s:St}:∀ {xs:List J} {ys:List Value},xs.length=ys.length->
  (∀ (i:Nat) (x:J) (y:Value),xs[i]?=some x->ys[i]?=some y->dH s x y)->aU s xs ys
 | [],[],_,_=>.nil
 | [],_ :: _,h,_=>by simp at h
 | _ :: _,[],h,_=>by simp at h
 | x :: xs, y :: ys, hl, h => .cons _ _ _ _ (h 0 x y (by simp) (by simp))
   (aU.of_get (by simpa using hl) fun i a b ha hb=>h (i+1) a b (by simpa using ha) (by simpa using hb))
theorem d8.get {s:St}{X:Nat}:∀ {o:Nat} {cs:List J},d8 s X o cs->∀ (i:Nat) (c:J),cs[i]?=some c->
  ∃ v,World.at s.w X (o+i)=some v/\Q8 s X (o+i)/\c.isCell=true/\dH s c v
 | _,_,.nil X o,i,x,h=>by simp at h
 | _, _, .cons X o c0 cs v hv hi hk h0 ht, i, c, h => by
  cases i with
  | zero=>simp at h;subst h;exact ⟨v,hv,hi,hk,h0⟩
  | succ i=>
   simp at h;obtain ⟨v',a,b,d,e⟩:=ht.get i c h;have:o+1+i=o+(i+1):=by omega
   rw [this] at a b;exact ⟨v',a,b,d,e⟩
theorem d8.of_get {s:St}{X:Nat}:∀ {o:Nat} {cs:List J},(∀ (i:Nat) (c:J),cs[i]?=some c->
  ∃ v,World.at s.w X (o+i)=some v/\Q8 s X (o+i)/\c.isCell=true/\dH s c v)->d8 s X o cs
 | o,[],_=>.nil X o
 | o, c :: cs, h => by
  obtain ⟨v,a,b,d,e⟩:=h 0 c (by simp);refine .cons X o c cs v a b d e (d8.of_get fun i c' hc=>?_);have:o+1+i=o+(i+1):=by omega
  rw [this];exact h (i+1) c' (by simpa using hc)
theorem d8.append {s:St}{X o:Nat}{a b:List J}(ha:d8 s X o a)(hb:d8 s X (o+a.length) b):d8 s X o (a++b):=by
 refine d8.of_get fun i c hc=>?_;by_cases hlt:i < a.length
 ·exact ha.get i c (by rw [List.getElem?_append_left hlt] at hc;exact hc)
 ·rw [List.getElem?_append_right (by omega)] at hc;have:=hb.get _ c hc;have e:o+a.length+(i - a.length)=o+i:=by omega
  rw [e] at this;exact this
theorem d8.drop {s:St}{X o:Nat}{a:List J}(n:Nat)(ha:d8 s X o a):d8 s X (o+n) (a.drop n):=by
 refine d8.of_get fun i c hc=>?_;rw [List.getElem?_drop] at hc;have:=ha.get _ c hc;have e:o+(n+i)=o+n+i:=by omega
 rw [e] at this;exact this
theorem d8.take {s:St}{X o:Nat}{a:List J}(n:Nat)(ha:d8 s X o a):d8 s X o (a.take n):=by
 refine d8.of_get fun i c hc=>?_;by_cases h:i < n
 ·rw [List.getElem?_take_of_lt h] at hc;exact ha.get i c hc
 ·rw [List.getElem?_take_eq_none (by omega)] at hc;simp at hc
theorem gQ.get {s:St}{X sz:Nat}:∀ {o:Nat} {es:List (List J)},gQ s X sz o es->∀ (i:Nat) (e:List J),es[i]?=some e->
  e.length=sz/\d8 s X (o+i*sz) e
 | _,_,.nil X sz o,i,x,h=>by simp at h
 | _, _, .cons X sz o e0 es hl h0 ht, i, e, h => by
  cases i with
  | zero=>simp at h;subst h;exact ⟨hl,by simpa using h0⟩
  | succ i=>
   simp at h;obtain ⟨a,b⟩:=ht.get i e h;have:o+sz+i*sz=o+(i+1)*sz:=by rw [Nat.succ_mul];omega
   rw [this] at b;exact ⟨a,b⟩
theorem gQ.of_get {s:St}{X sz:Nat}:∀ {o:Nat} {es:List (List J)},(∀ (i:Nat) (e:List J),es[i]?=some e->
  e.length=sz/\d8 s X (o+i*sz) e)->gQ s X sz o es
 | o,[],_=>.nil X sz o
 | o, e :: es, h => by
  obtain ⟨a,b⟩:=h 0 e (by simp);refine .cons X sz o e es a (by simpa using b) (gQ.of_get fun i e' he=>?_);obtain ⟨c,d⟩:=h (i+1) e' (by simpa using he);have:o+sz+i*sz=o+(i+1)*sz:=by rw [Nat.succ_mul];omega
  rw [this];exact ⟨c,d⟩
theorem gQ.append {s:St}{X sz o:Nat}{a b:List (List J)}(ha:gQ s X sz o a)(hb:gQ s X sz (o+a.length*sz) b):gQ s X sz o (a++b):=by
 refine gQ.of_get fun i c hc=>?_;by_cases hlt:i < a.length
 ·exact ha.get i c (by rw [List.getElem?_append_left hlt] at hc;exact hc)
 ·rw [List.getElem?_append_right (by omega)] at hc;obtain ⟨p,q⟩:=hb.get _ c hc;have e:o+a.length*sz+(i - a.length)*sz=o+i*sz:=by
   rw [Nat.add_assoc,<- Nat.add_mul];congr 2;omega
  rw [e] at q;exact ⟨p,q⟩
theorem gQ.sub {s:St}{X sz o:Nat}{a:List (List J)}(l n:Nat)(ha:gQ s X sz o a):gQ s X sz (o+l*sz) (CV l n a):=by
 refine gQ.of_get fun i c hc=>?_;unfold CV at hc;rw [List.getElem?_drop] at hc;by_cases h:l+i < n
 ·rw [List.getElem?_take_of_lt h] at hc;obtain ⟨p,q⟩:=ha.get _ c hc;have e:o+(l+i)*sz=o+l*sz+i*sz:=by rw [Nat.add_mul];omega
  rw [e] at q;exact ⟨p,q⟩
 ·rw [List.getElem?_take_eq_none (by omega)] at hc;simp at hc
theorem gQ.flatten {s:St}{X sz:Nat}:∀ {o:Nat} {es:List (List J)},gQ s X sz o es->d8 s X o es.flatten/\es.flatten.length=es.length*sz
 | _,_,.nil X sz o=>⟨.nil X o,by simp⟩
 | _, _, .cons X sz o e0 es hl h0 ht => by
  obtain ⟨a,b⟩:=ht.flatten;simp only [List.flatten_cons,List.length_cons,List.length_append];exact ⟨h0.append (by rw [hl];exact a),by rw [hl,b,Nat.succ_mul];omega⟩
def Jg (fz:Nat × Nat)(n:Nat):Prop:=fz.1=fz.2\/n<=fz.1
theorem Jg.un {fz:Nat × Nat}{n i:Nat}(h:Jg fz n)(hi:i < n):¬(fz.1<=i/\i < fz.2):=by
 rcases h with h | h <;> omega
def BJ (s:St)(g:Nat)(cs:List J):Prop:=d8 s g 0 cs/\∃ vs e fz,s.w.heap[g]?=some (Obj.cells vs e fz)/\vs.size=cs.length
theorem BJ.le0 {s s':St}(hl:Le0 s s'){g:Nat}{cs:List J}(h:BJ s g cs):BJ s' g cs:=by
 obtain ⟨h1,vs,e,fz,h2,h3⟩:=h;obtain ⟨vs',fz',h4,h5,_⟩:=hl.blocks g vs e fz h2;exact ⟨h1.le0 hl,vs',e,fz',h4,h5.trans h3⟩
theorem BJ.le {s s':St}(hl:Le s s'){g:Nat}{cs:List J}(h:BJ s g cs):BJ s' g cs:=h.le0 hl.le0
structure iC (C:eD) (s:St):Prop where
 lb:s.mb.length=s.h.blks.length
 lt:s.mt.length=s.h.toks.length
 blk:∀ (b X:Nat) (cs:List J),s.mb[b]?=some X->s.h.blks[b]?=some cs->∃ vs e fz,s.w.heap[X]?=some (Obj.cells vs e fz)/\
  cs.length<=vs.size/\Jg fz vs.size/\(∀ (i:Nat) (c:J),cs[i]?=some c->c.isCell=true/\∃ v,vs[i]?=some v/\dH s c v)
 injb:∀ (b b' X:Nat),s.mb[b]?=some X->s.mb[b']?=some X->b < b'->s.h.blks[b]?=some []
 injt:∀ (t t' X z z':Nat),s.mt[t]?=some (X,z)->s.mt[t']?=some (X,z')->t=t'
 disj:∀ (b t X z:Nat),s.mb[b]?=some X->s.mt[t]?≠some (X,z)
 old:∀ (t X z:Nat),s.mt[t]?=some (X,z)->X < s.w.heap.size
 glob:∀ g cs,C.glob g=some cs->BJ s g cs
theorem iC.bsome {C:eD}{s:St}(h:iC C s){b X:Nat}(hb:s.mb[b]?=some X):∃ cs,s.h.blks[b]?=some cs:=by
 have:=(List.getElem?_eq_some_iff.1 hb).1;exact ⟨_,List.getElem?_eq_getElem (by rw [<- h.lb];exact this)⟩
theorem iC.blt {C:eD}{s:St}(h:iC C s){b X:Nat}(hb:s.mb[b]?=some X):X < s.w.heap.size:=by
 obtain ⟨cs,hcs⟩:=h.bsome hb;obtain ⟨vs,e,fz,hx,_⟩:=h.blk b X cs hb hcs;exact (Array.getElem?_eq_some_iff.1 hx).1
structure oT (L:az) (s:St):Prop where
 b:s.qb<=L.rob
 t:s.qt<=L.rot
 lb:s.qb<=s.mb.length
 lt:s.qt<=s.mt.length
theorem Le.mbl {s s':St}(h:Le s s'):s.mb.length<=s'.mb.length:=by
 rcases Nat.lt_or_ge s'.mb.length s.mb.length with hlt | hge
 ·have:=h.mb s'.mb.length _ (List.getElem?_eq_getElem hlt);simp at this
 ·exact hge
theorem oT.le {C:eD}{L:az}{s s':St}(hl:Le s s')(hs:iC C s)(hs':iC C s')(h:oT L s):oT L s':=by
 refine ⟨by rw [hl.qb]; exact h.b, by rw [hl.qt]; exact h.t, by rw [hl.qb]; exact Nat.le_trans h.lb hl.mbl, by
  rw [hl.qt,hs'.lt];have h1:s.h.toks.length<=s'.h.toks.length:=by
   rcases Nat.lt_or_ge s'.h.toks.length s.h.toks.length with hlt | hge
   ·obtain ⟨n',hn,_⟩:=hl.mt s'.h.toks.length _ (List.getElem?_eq_getElem hlt);simp at hn
   ·exact hge
  have:=h.lt;have:=hs.lt;omega⟩
def du (n:Nat)(s:St)(fr:Fr)(tmps:Array Value):Prop:=tmps.size=n/\∀ i,dH s (fr i) (tmps.getD i undef)
theorem du.le {n:Nat}{s s':St}{fr:Fr}{tmps:Array Value}(hl:Le s s')(h:du n s fr tmps):du n s' fr tmps:=
 ⟨h.1,fun i=>(h.2 i).le hl⟩
theorem dH.undef (s:St):dH s ba undef:=.tup [] #[] (by simpa using aU.nil)
theorem du.put {n:Nat}{s:St}{fr:Fr}{a:Act}{d:Option Nat}{v:J}{x:Value}(h:du n s fr a.tmps)(hd:∀ i,d=some i->i < n)(hv:dH s v x):
  du n s (put fr d v) (a.put d x).tmps:=by
 cases d with
 | none=>exact h
 | some d=>
  refine ⟨by simp [Act.put,h.1],fun i=>?_⟩;have hlt:=hd d rfl;simp only [Av.put,HN,Act.put];by_cases e:i=d
  ·subst e;rw [if_pos rfl];simp [Array.getD_eq_getD_getElem?,h.1,hlt,hv]
  ·rw [if_neg e];have:=h.2 i;simpa [Array.getD_eq_getD_getElem?,Array.getElem?_setIfInBounds_ne (Ne.symm e)] using this
def Q7:Value->Option J
 | .int k n=>some (.int k n)
 | .bool b=>some (.bool b)
 | .string s=>some (.str s)
 | .pointer none=>some .nilp
 | .slice none 0 0=>some .nsl
 | .nilFunc=>some .nfn
 | .nilIface=>some .nif
 | _=>none
def HH:List Value->Option (List J)
 | []=>some []
 | v :: vs => match Q7 v, HH vs with
  | some a,some b=>some (a :: b)
  | _,_=>none
def Mf:Value->Option J
 | .agg cs=>(HH cs.toList).map .agg
 | .tuple cs=>if cs.size=0 then some (.tup []) else none
 | v=>Q7 v
def co (C:eD):Operand->Option AO
 | .tmp t=>some (.t t)
 | .const v=>(Mf v).map .k
 | .global g=>if (C.glob g).isSome then some (.g g) else none
 | .func f=>some (.k (.fn (.func f) [] []))
def Q9 (C:eD):List Operand->Option (List AO)
 | []=>some []
 | x :: xs => match co C x, Q9 C xs with
  | some a,some b=>some (a :: b)
  | _,_=>none
def coo (C:eD):Option Operand->Option (Option AO)
 | none=>some none
 | some x=>(co C x).map some
def uB (P:Program)(t:TypeId):Option Nat:=(P.info? t).map (·.size)
def HI (P:Program)(t:TypeId):Option (List J):=match (P.info? t).bind (·.zero) with
 | some z=>(Mf z).bind fun a=>if a.okV then some a.cells else none
 | none=>none
def Ck (P:Program)(t:TypeId):Option Bool:=match P.underlying t with
 | some (.struct _)=>some true
 | some (.array _ _)=>some true
 | some _=>some false
 | none=>none
def FJ (P:Program)(t:TypeId):Option TypeId:=match P.underlying t with
 | some (.slice e)=>some e
 | _=>none
def Ah (P:Program)(t:TypeId):Bool:=match P.info? t with
 | some i=>decide (i.bytes<=256)&&decide (0 < i.bytes)&&decide (0 < i.size)&&(match i.zero with | some z=>decide (z.cells.size=i.size) | none=>false)
 | none=>false
def FK (P:Program)(rec:TypeId->Option (List CK))(z:Nat):Nat->List Field->Option (List CK)
 | o,[]=>if o=z then some [] else none
 | o, f :: fs => if f.offset = o /\ f.name ≠ "_" then
   match uB P f.type,rec f.type with
   | some zf,some l=>if l.length=zf then (FK P rec z (o+zf) fs).map (l++·) else none
   | _,_=>none
  else none
def TJ {α:Type}(l:List α):Nat->List α
 | 0=>[]
 | n+1=>l++TJ l n
def Oy (P:Program):Nat->TypeId->Option (List CK)
 | 0,_=>none
 | d + 1, t => match P.underlying t, uB P t with
  | some .bool,some 1=>some [.b]
  | some (.int _),some 1=>some [.i]
  | some .string,some 1=>some [.s]
  | some (.struct fs),some z=>if P.stoodInHeld t=true then none else FK P (Oy P d) z 0 fs.toList
  | some (.array n e), some z => match Oy P d e, uB P e with
   | some l,some b=>if z=n*b/\l.length=b then some (TJ l n) else none
   | _,_=>none
  | _,_=>none
def Mh (C:eD)(P:Program)(places:Nat->Option (Nat × Nat)):List (Nat × Operand)->Option (List (Nat × Nat × AO))
 | []=>some []
 | (i, x) :: rest => match places i, co C x, Mh C P places rest with
  | some (o,z),some a,some b=>some ((o,z,a) :: b)
  | _,_,_=>none
def Ew (C:eD):List (Nat × Operand)->Option (List (Nat × AO))
 | []=>some []
 | (i, x) :: rest => match co C x, Ew C rest with
  | some a,some b=>some ((i,a) :: b)
  | _,_=>none
structure KK where
 val:Nat->Nat->Bool
 nilq:Bool
def zdj:BinOp->Bool
 | .eql | .neq=>false
 | _=>true
def BL:BinOp->Bool
 | .neq=>true
 | _=>false
def isK:Operand->Bool
 | .const _=>true
 | _=>false
def Wp (C:eD)(P:Program)(o:Oper)(val:Bool):Option Vw:=
 match o.op with
 | .move x=>(co C x).map .mv
 | .assign x=>(co C x).map .mv
 | .pick c a b=>do some (.pick (<- co C c) (<- co C a) (<- co C b))
 | .box _ x=>if val then (co C x).map .boxv else none
 | .build t parts => do
  let z <- HI P t
  match P.underlying t with
  | some (.struct fs) => do
    let ps <- Mh C P (fun i=>match fs[i]? with | some f=>(uB P f.type).map fun z=>(f.offset,z) | none=>none) parts.toList
    if fs.toList.all (fun f=>(uB P f.type).isSome) then some (.build z ps) else none
  | some (.array _ e) => do
    let sz <- uB P e
    some (.build z (<- Mh C P (fun i=>some (i*sz,sz)) parts.toList))
  | _=>none
 | .buildSlice t len parts => if val then do
   let e <- FJ P t
   let sz <- uB P e
   let z <- HI P e
   if len*sz<=2 ^ 24/\z.length=sz/\0 < sz then some (.slit sz len z (<- Ew C parts.toList)) else none
  else none
 | .nilCheck x=>(co C x).map .nck
 | .binOp op t x y _ => do
  let a <- co C x
  let b <- co C y
  if zdj op=true then some (.bin op a b) else
  match P.underlying t with
  | some (.int _) | some .string=>some (.bin op a b)
  | some .bool=>some (.eq .bool (BL op) a b)
  | some (.pointer _)=>some (.eq .ptr (BL op) a b)
  | some (.slice _)=>some (.eq .slc (BL op) a b)
  | some (.func ..)=>some (.eq .fn (BL op) a b)
  | some (.interface _)=>if isK x||isK y then some (.eq .ifc (BL op) a b) else none
  | some (.struct _) | some (.array ..)=>if P.eqGuardType P.depth t=true then none else (Oy P 40 t).map fun sh=>.eq (.agg sh) (BL op) a b
  | _=>none
 | .unOp op _ x=>(co C x).map (.un op)
 | .convert src dst x => match P.underlying src, P.underlying dst with
  | some _,some (.int k)=>(co C x).map (.i2i k)
  | some .string,some .string=>(co C x).map .s2s
  | _,_=>none
 | .sliceToArrayPointer arr x => match P.underlying arr with
  | some (.array n _)=>(co C x).map (.s2a n)
  | _=>none
 | .makeInterface t x => match P.underlying t with
  | some (.interface _)=>none
  | some _=>(co C x).map (.mkif t)
  | none=>none
 | .makeFunc f first cap=>do some (.mkfn f (<- Q9 C first.toList) (<- Q9 C cap.toList))
 | .slice t x lo hi mx => do
  let x' <- co C x
  let lo' <- coo C lo
  let hi' <- coo C hi
  let mx' <- coo C mx
  if mx.isSome&&hi.isNone then none else
  match P.underlying t with
  | some .string=>some (.slice .str 0 x' lo' hi' mx')
  | some (.slice e)=>do some (.slice .slc (<- uB P e) x' lo' hi' mx')
  | some (.array n e)=>do some (.slice (.arr n) (<- uB P e) x' lo' hi' mx')
  | _=>none
 | .fieldAddr s x f => match P.underlying s with
  | some (.struct fs) => match fs[f]? with
   | some fd => match uB P fd.type with
    | some z=>if z=0 then none else (co C x).map (.fadr fd.offset)
    | none=>none
   | none=>none
  | _=>none
 | .field t x f => match P.underlying t with
  | some (.struct fs) => match fs[f]? with
   | some fd=>do some (.fld fd.offset (<- uB P fd.type) (<- Ck P fd.type) (<- co C x))
   | none=>none
  | _=>none
 | .indexAddr t x i => match P.underlying t with
  | some (.array n e)=>do some (.iadr (some n) (<- uB P e) (<- co C x) (<- co C i))
  | some (.slice e)=>do some (.iadr none (<- uB P e) (<- co C x) (<- co C i))
  | _=>none
 | .index t x i => match P.underlying t with
  | some (.array n e)=>do some (.idxA n (<- uB P e) (<- Ck P e) (<- co C x) (<- co C i))
  | some .string=>do some (.idxS (<- co C x) (<- co C i))
  | _=>none
 | .extract x i=>do some (.ext (<- co C x) i)
 | .typeAssert x _ t ok => match P.underlying t with
  | some (.interface _)=>none
  | some _ => match (P.info? t).bind (·.zero) with
   | some z=>do some (.tas t (<- Mf z) ok (<- co C x))
   | none=>none
  | none=>none
 | .call c => match c.callee, c.args.toList with
  | .builtin .len, [x] => match (c.argTypes[0]?).bind P.underlying with
   | some .string=>(co C x).map .lenS
   | some (.slice _)=>(co C x).map .lenL
   | some (.array n _)=>some (.mv (.k (.int .i64 n)))
   | _=>none
  | .builtin .max,xs=>do some (.mxmn true (<- Q9 C xs))
  | .builtin .min,xs=>do some (.mxmn false (<- Q9 C xs))
  | _,_=>none
 | _=>none
def Rj (C:eD)(P:Program)(o:Oper):Option Lk:=
 match o.op with
 | .load t x=>do some (.ld (<- uB P t) (<- Ck P t) (<- co C x))
 | .convert src dst x => match P.underlying src, P.underlying dst with
  | some (.slice e), some .string => match P.underlying e with
   | some (.int .u8)=>(co C x).map .b2s
   | _=>none
  | some (.slice _), some (.slice e) => match P.underlying e with
   | some (.int .u8)=>if src=dst then (co C x).map .mark else none
   | _=>none
  | _,_=>none
 | .call c => match c.callee with
  | .value (.func f)=>if U C f then (Q9 C c.args.toList).map (.call f) else none
  | .invoke r name=>if C.qinv name then do some (.inv (<- co C r) name (<- Q9 C c.args.toList)) else none
  | _=>none
 | _=>none
def Wq:Operand->Operand->Bool
 | .tmp i,.tmp j=>i==j
 | .const (.int _ i),.const (.int _ j)=>i==j
 | _,_=>false
def HP (C:eD)(P:Program)(o:Oper)(val:Bool):Option TP:=
 match o.op with
 | .alloc t=>(HI P t).map .alloc
 | .box _ x=>(co C x).map .box
 | .buildSlice t len parts => do
   let e <- FJ P t
   let sz <- uB P e
   let z <- HI P e
   if len*sz<=2 ^ 24/\z.length=sz/\0 < sz then some (.slit sz len z (<- Ew C parts.toList)) else none
 | .makeSlice t l c => do
   let e <- FJ P t
   let sz <- uB P e
   let z <- HI P e
   let a <- co C l
   if z.length=sz/\Ah P e=true/\Wq l c=true then some (.mk sz z a) else
   if z.length=sz/\Ah P e=true then do some (.mkc sz z a (<- co C c)) else none
 | .store t x y=>do some (.st (<- uB P t) (<- co C x) (<- co C y))
 | .convert src dst x => match P.underlying src, P.underlying dst with
  | some .string, some (.slice e) => match P.underlying e, uB P e with
   | some (.int .u8),some 1=>(co C x).map .s2b
   | _,_=>none
  | _,_=>none
 | .call c => match c.callee, c.args.toList with
  | .builtin .append, [x, y] => match (c.argTypes[0]?).bind (FJ P), (c.argTypes[1]?).bind P.underlying with
   | some e,some (.slice e')=>if e'=e/\Ah P e then do some (.app (<- uB P e) (!val) (<- co C x) (<- co C y)) else none
   | some e,some .string=>if uB P e=some 1/\Ah P e then do some (.app 1 (!val) (<- co C x) (<- co C y)) else none
   | _,_=>none
  | .builtin .copy, [x, y] => match (c.argTypes[0]?).bind (FJ P) with
   | some e=>do some (.copy (<- uB P e) (<- co C x) (<- co C y))
   | _=>none
  | .builtin .clear, [x] => match (c.argTypes[0]?).bind (FJ P) with
   | some e=>do some (.clear (<- HI P e) (<- co C x))
   | _=>none
  | .value (.func f),xs=>(Q9 C xs).map (.call f)
  | .value x,xs=>do some (.callv (<- co C x) (<- Q9 C xs))
  | .invoke r name,xs=>do some (.inv (<- co C r) name (<- Q9 C xs))
  | _,_=>none
 | _=>none
def vE (C:eD)(P:Program)(o:Oper)(val:Bool):Option Wk:=
 match Wp C P o val with
 | some v=>some (.v v)
 | none => match Rj C P o with
  | some r=>some (.r r)
  | none=>(HP C P o val).map .c
def zdE (ops:Array Oper):Option (Nat × Bool)->Option (Option (Nat × Bool))
 | none=>some none
 | some (j, b) => match (ops[j]?).bind (·.dst) with
  | some t=>some (some (t,b))
  | none=>none
def zdG (n:Nat):Option Nat->Bool
 | none=>true
 | some d=>decide (d < n)
def Au (ops:Array Oper)(o:Oper):List Nat:=
 o.op.operands.toList.filterMap (fun | .tmp t=>some t | _=>none)++(match o.guard with | some (g,_)=>((ops[g]?).bind (·.dst)).toList | none=>[])
def cop (C:eD)(P:Program)(n:Nat)(ops:Array Oper)(val:Bool)(o:Oper):Option AI:=
 match vE C P o val,zdE ops o.guard with
 | some a,some g=>if zdG n o.dst&&(match g with | some (t,_)=>decide (t < n) | none=>true) then some {dst:=o.dst,op:=a,grd:=g} else none
 | _,_=>none
def qn (C:eD)(P:Program)(n:Nat)(ops:Array Oper)(val:Nat->Bool):Nat->List Oper->Option (List AI)
 | _,[]=>some []
 | i, o :: rest => match cop C P n ops (val i) o, qn C P n ops val (i + 1) rest with
  | some a,some b=>some (a :: b)
  | _,_=>none
def xX:Wk->Bool
 | .c _=>true
 | _=>false
def zqD:AO->List Nat
 | .t n=>[n]
 | _=>[]
def aq (ops:List Oper):List Nat:=
 ops.foldl (fun acc o=>acc++[o.after.foldl (fun s e=>if Region.binds .any e then s|||2 ^ e.on|||acc.getD e.on 0 else s) 0]) []
def fp (bs:List Nat)(j i:Nat):Bool:=(bs.getD j 0).testBit i
def TY (ops:Array Oper)(j:Nat):List Nat:=match ops[j]? with
 | some o=>Au ops o
 | none=>[]
def eU (ops:Array Oper)(bs:List Nat)(is:List AI):List AI:=
 is.zipIdx.map fun (i, j) => match i.op with
  | .r _ => { i with
    use:=TY ops j,
    lo:=(is.zipIdx.filter fun (c,k)=>xX c.op&&fp bs j k).length,
    hi:=(is.zipIdx.filter fun (c,k)=>xX c.op&&!fp bs k j).length}
  | _=>{i with use:=TY ops j}
def GH (ops:Array Oper)(bs:List Nat)(is:List AI):Bool:=
 (ops.toList.zipIdx.all fun (o,j)=>o.after.toList.all fun e=>decide (e.on < j)||!Region.binds .any e)&&
 (is.zipIdx.all fun (a,j)=>is.zipIdx.all fun (b,i)=>!(xX a.op&&xX b.op&&decide (i < j))||fp bs j i)&&
 (ops.toList.zipIdx.all fun (a, j) => ops.toList.zipIdx.all fun (b, i) => i == j ||
  !(match a.dst with | some d=>(b.dst==some d)||(Au ops b).contains d | none=>false)||(if i < j then fp bs j i else fp bs i j))
def Rq (m:Region.Mode)(ops:Array Oper)(rk:List Nat):Bool:=
 ops.toList.zipIdx.all fun (o,j)=>o.after.toList.all fun e=>!Region.binds m e||(decide (e.on < ops.size)&&decide (rk.getD e.on 0 < rk.getD j 0))
def zdQ (m:Region.Mode)(ops:Array Oper):List Nat:=
 let l:=Region.linearise m ops 0
 (List.range ops.size).map fun j=>l.idxOf j
def qo (ops:Array Oper):Bool:=Rq .text ops (zdQ .text ops)&&Rq .gc ops (zdQ .gc ops)
def zot (pos:Nat->Nat)(e:Edge):Edge:={e with on:=pos e.on}
def Mw (pos:Nat->Nat)(x:List Edge)(o:Oper):Oper:={o with after:=(o.after.toList.map (zot pos)++x).toArray,guard:=o.guard.map fun g=>(pos g.1,g.2)}
def za8 (ord:List Nat)(i j k:Nat):List Edge:=if k=i then [⟨ord.idxOf j,.chain⟩] else []
def a7 (ops:Array Oper)(ord:List Nat)(i j:Nat):Array Oper:=(ord.map fun k=>Mw ord.idxOf (za8 ord i j k) (ops.getD k default)).toArray
def YS (n:Nat)(ord:List Nat):Bool:=decide (ord.length=n)&&decide ord.Nodup&&(List.range n).all (fun k=>ord.contains k)&&ord.all (fun k=>decide (k < n))
def PM (ops:Array Oper)(dep:Nat->Bool)(i j:Nat):Bool:=
 ops.toList.zipIdx.all fun (o,k)=>!dep k||k==i||k==j||o.after.toList.any fun e=>Region.binds .any e&&decide (e.on < k)&&dep e.on
def PN (ops:Array Oper):Bool:=ops.toList.zipIdx.all fun (o,k)=>ops.toList.zipIdx.all fun (o',k')=>k==k'||match o.dst,o'.dst with | some d,some d'=>d !=d' | _,_=>true
def zk3 (bs:List Nat)(is:List AI):Option (Nat × Nat):=
 (is.zipIdx.findSome? fun (b,j)=>if xX b.op then is.zipIdx.findSome? fun (a,i)=>if xX a.op&&decide (i < j)&&!fp bs j i then some (i,j) else none else none)
def quietAt (is:List AI)(ord:List Nat)(k:Nat):Bool:=match is[ord.idxOf k]? with
 | some x=>!xX x.op
 | none=>true
def zdZ (ops:Array Oper)(bs:List Nat)(i:Nat):List Nat × List Nat:=
 (List.range ops.size,(List.range ops.size).filter (fun k=>!(k==i||fp bs k i))++(List.range ops.size).filter (fun k=>k==i||fp bs k i))
def zd0 (bs:List Nat)(i j k:Nat):Bool:=k==i||k==j||fp bs k i||fp bs k j
def zjN (ops:Array Oper)(oA oB:List Nat)(i j:Nat)(dep:Nat->Bool)(isA isB:List AI):Bool:=
 decide (i < ops.size)&&(i !=j)&&YS ops.size oA&&YS ops.size oB&&
 GH (a7 ops oA j i) (aq (a7 ops oA j i).toList) isA&&GH (a7 ops oB i j) (aq (a7 ops oB i j).toList) isB&&
 PM ops dep i j&&PN ops&&(List.range ops.size).all fun k=>dep k||(quietAt isA oA k&&quietAt isB oB k)
def zhN (n:Nat)(oA oB:List Nat)(dep:Nat->Bool):List (Nat × Nat):=((List.range n).filter fun k=>!dep k).map fun k=>(oA.idxOf k,oB.idxOf k)
def two (C:eD)(P:Program)(n:Nat)(ops:Array Oper)(val:Nat->Bool)(is:List AI):Option AC:=do
 let bs:=aq ops.toList
 let (i,j) <- zk3 bs is
 let (oA,oB):=zdZ ops bs i
 let isA <- qn C P n (a7 ops oA j i) (fun q=>val (oA.getD q 0)) 0 (a7 ops oA j i).toList
 let isB <- qn C P n (a7 ops oB i j) (fun q=>val (oB.getD q 0)) 0 (a7 ops oB i j).toList
 if zjN ops oA oB i j (zd0 bs i j) isA isB then
  some (.draw2 (eU (a7 ops oA j i) (aq (a7 ops oA j i).toList) isA) (eU (a7 ops oB i j) (aq (a7 ops oB i j).toList) isB) (zhN ops.size oA oB (zd0 bs i j)))
 else none
def cc (C:eD)(P:Program)(fl:KK)(n:Nat):Code->Option AC
 | .skip=>some .skip
 | .region id ops false=>(qn C P n ops (fl.val id) 0 ops.toList).map .reg
 | .region id ops true => match qn C P n ops (fl.val id) 0 ops.toList with
  | some is => if (P.follows .mixedOrders || !Region.departs ops || qo ops) then
    (if GH ops (aq ops.toList) is then some (.draw (eU ops (aq ops.toList) is)) else two C P n ops (fl.val id) is)
   else none
  | none=>none
 | .seq a b => match cc C P fl n a, cc C P fl n b with
  | some a,some b=>some (.seq a b)
  | _,_=>none
 | .cond c a b => match co C c, cc C P fl n a, cc C P fl n b with
  | some c,some a,some b=>some (.cond c a b)
  | _,_,_=>none
 | .block id a=>(cc C P fl n a).map (.blk id)
 | .loop a=>(cc C P fl n a).map .loop
 | .exit id=>some (.exit id)
 | .scope a=>(cc C P fl n a).map .scope
 | .label l=>some (.label l)
 | .goto l=>some (.goto l)
 | .ret=>some .ret
 | _=>none
def T8 (P:Program):List ResultVar->Option (List Cm)
 | []=>some []
 | .tmp t :: rs=>(T8 P rs).map (.tmp t :: ·)
 | .cell a t :: rs => match uB P t, Ck P t, T8 P rs with
  | some n,some g,some l=>some (.cell a n g :: l)
  | _,_,_=>none
def WE:List AI->Option (Nat × Nat)
 | [⟨some a,.v (.mv (.t 0)),none,_,_,_⟩,⟨some b,.v (.eq .slc false (.t a') (.k .nsl)),none,_,_,_⟩]=>if a=a' then some (a,b) else none
 | _=>none
def zd4 (C:eD)(P:Program)(fl:KK)(n:Nat):Code->Option ((AC × Nat × Nat × AC) × AC)
 | .seq z (.seq (.seq (.region id ops false) x) y) => match cc C P fl n z, (qn C P n ops (fl.val id) 0 ops.toList).bind WE, cc C P fl n x, cc C P fl n y with
  | some c0,some (a,b),some c1,some c2=>some ((c0,a,b,c1),c2)
  | _,_,_,_=>none
 | _=>none
def WG (C:eD)(P:Program)(fl:KK)(f:Func):Option aZ:=
 match f.body with
 | some c => match T8 P f.results.toList with
  | some r => if f.params.size + f.nfree <= f.ntmps then
    (if fl.nilq then (zd4 C P fl f.ntmps c).map fun q=>⟨f.ntmps,q.2,r,some q.1⟩ else (cc C P fl f.ntmps c).map fun c=>⟨f.ntmps,c,r,none⟩) else none
  | none=>none
 | none=>none
theorem YC {w:World}{X o:Nat}{v:Value}(h:World.at w X o=some v):X < w.heap.size:=by
 unfold World.at World.cell? at h;by_cases hx:X < w.heap.size
 ·exact hx
 ·simp [Array.getElem?_eq_none (Nat.not_lt.1 hx)] at h
theorem nl {w w':World}{X:Nat}(o:Nat)(h:w'.heap[X]?=w.heap[X]?):World.at w' X o=World.at w X o:=by
 unfold World.at World.cell?;simp [h]
theorem C8 (s:St)(w':World)(hy:Ext s.w w'):
  Le s {s with w:=w'} where
 qb:=rfl
 qt:=rfl
 kept:=⟨hy.os,hy.tape,hy.out,hy.size,fun _ _ h=>h,fun X h _=>hy.heap X h⟩
 blocks X vs e fz h:=by
  have hlt:=(Array.getElem?_eq_some_iff.1 h).1;exact ⟨vs,fz,by simpa using (hy.heap X hlt).trans h,rfl,fun _ _ h=>h⟩
 cells X o v hi hv:=⟨hi,by rw [nl o (hy.heap X (YC hv))];exact hv⟩
 mb _ _ h:=h
 mt _ n h:=⟨n,h,Nat.le_refl _,fun _=>rfl⟩
theorem HF {C:eD}{s:St}(hs:iC C s)(w':World)(hy:Ext s.w w'):
  iC C {s with w:=w'}:=by
 have hl:=C8 s w' hy;have hx:=hy.heap;have hsz:=hy.size;refine ⟨hs.lb,hs.lt,fun b X cs hb hc=>?_,hs.injb,hs.injt,hs.disj,fun t X z h=>Nat.lt_of_lt_of_le (hs.old t X z h) hsz,fun g cs h=>(hs.glob g cs h).le hl⟩;obtain ⟨vs,e,fz,h1,h2,h3,h4⟩:=hs.blk b X cs hb hc;refine ⟨vs,e,fz,(hx X (hs.blt hb)).trans h1,h2,h3,fun i c hi=>?_⟩;obtain ⟨k,v,hv,hr⟩:=h4 i c hi;exact ⟨k,v,hv,hr.le hl⟩
def Good (C:eD)(s:St)(w':World)(v:J)(h':O)(cv:Value):Prop:=
 ∃ s':St,s'.w=w'/\s'.h=h'/\iC C s'/\Le s s'/\dH s' v cv
theorem Good.same {C:eD}{s:St}(hs:iC C s){v:J}{cv:Value}(h:dH s v cv):Good C s s.w v s.h cv:=⟨s,rfl,rfl,hs,.refl s,h⟩
theorem Good.ext {C:eD}{s:St}(hs:iC C s){w':World}(hy:Ext s.w w')
  {v:J} {cv:Value} (h:dH {s with w:=w'} v cv):Good C s w' v s.h cv:=
 ⟨{s with w:=w'},rfl,rfl,HF hs w' hy,C8 s w' hy,h⟩
theorem C1 (w:World)(o:Obj):Ext w {w with heap:=w.heap.push o}:=
 ⟨rfl,rfl,rfl,by simp,fun X h=>by simp [Array.getElem?_push,Nat.ne_of_lt h]⟩
theorem vw (w:World)(o:Obj):w.heap.size<=({w with heap:=w.heap.push o}:World).heap.size/\
  ∀ X:Nat,X < w.heap.size->({w with heap:=w.heap.push o}:World).heap[X]?=w.heap[X]?:=
 ⟨by simp,fun X h=>by simp [Array.getElem?_push,Nat.ne_of_lt h]⟩
theorem zhh {C:eD}{s:St}(hs:iC C s)(o:Nat):Q8 s s.w.heap.size o:=by
 refine ⟨fun b _ hb=>?_,fun t sz n _ ht _=>?_⟩
 ·have:=hs.blt hb;omega
 ·have:=hs.old t _ _ ht;omega
theorem Yx {C:eD}{s:St}(hs:iC C s)(e:TypeId)(fz:Nat × Nat){cs:List J}{vs:Array Value}(h:aU s cs (vs.toList.take cs.length))(hk:∀ c∈cs,c.isCell=true):
  d8 {s with w:={s.w with heap:=s.w.heap.push (.cells vs e fz)}} s.w.heap.size 0 cs:=by
 have hl:=C8 s _ (C1 s.w (.cells vs e fz));refine d8.of_get fun i c hc=>?_;obtain ⟨v,hv,hr⟩:=h.get i c hc;have hlt:=(List.getElem?_eq_some_iff.1 hc).1;rw [List.getElem?_take_of_lt hlt] at hv;refine ⟨v,?_,?_,hk c (List.mem_of_getElem? hc),hr.le hl⟩
 ·simp only [World.at,World.cell?,Nat.zero_add];simpa using hv
 ·have:=zhh hs (s:=s) (0+i);exact this
theorem HG {s:St}{v:Value}{a:J}(h:Q7 v=some a):dH s a v/\a.isCell=true:=by
 unfold Q7 at h
 split at h <;> first
  | (simp at h;done)
  | (obtain rfl:=sj h;exact ⟨by constructor,rfl⟩)
theorem FH {s:St}:∀ {vs:List Value} {cs:List J},HH vs=some cs->aU s cs vs/\∀ c∈cs,c.isCell=true
 | [], cs, h => by
  obtain rfl:=sj h;exact ⟨.nil,by simp⟩
 | v :: vs, cs, h => by
  simp only [HH] at h;split at h
  ·rename_i a b ha hb;obtain rfl:=sj h;obtain ⟨h1,h2⟩:=HG (s:=s) ha;obtain ⟨h3,h4⟩:=FH (s:=s) hb;exact ⟨.cons _ _ _ _ h1 h3,fun c hc=>(List.mem_cons.1 hc).elim (fun e=>e ▸ h2) (h4 c)⟩
  ·simp at h
theorem C2 {s:St}{v:Value}{a:J}(h:Mf v=some a):dH s a v:=by
 unfold Mf at h;split at h
 ·rename_i cs
  cases hc:HH cs.toList with
  | none=>simp [hc] at h
  | some l=>
   simp [hc] at h;subst h;obtain ⟨h1,h2⟩:=FH (s:=s) hc;exact .agg l cs h1 h2
 ·rename_i cs;split at h
  ·rename_i h0;obtain rfl:=sj h;have:cs=#[]:=Array.size_eq_zero_iff.1 h0;subst this;exact .tup [] #[] .nil
  ·simp at h
 ·exact (HG h).1
section
variable {C:eD} {P:Program} {s:St} {n:Nat} {fr:Fr} {a:Act}
theorem aC (hs:iC C s)(hf:du n s fr a.tmps){x:Operand}{y:AO}(h:co C x=some y):dH s (C.ev fr y) (a.eval x):=by
 cases x with
 | tmp t=>simp [co] at h;subst h;exact hf.2 t
 | const v=>
  simp only [co] at h
  cases hv:Mf v with
  | none=>simp [hv] at h
  | some av=>simp [hv] at h;subst h;exact C2 hv
 | global g=>
  simp only [co] at h;split at h
  ·rename_i hg;obtain rfl:=sj h;obtain ⟨cs,hcs⟩:=Option.isSome_iff_exists.1 hg;simp only [eD.ev,hcs,Act.eval];exact .vptr cs 0 g 0 (hs.glob g cs hcs).1
  ·simp at h
 | func f=>simp [co] at h;subst h;exact .fn _ [] [] #[] #[] .nil .nil
theorem pR (hs:iC C s)(hf:du n s fr a.tmps):∀ {xs:List Operand} {ys:List AO},Q9 C xs=some ys->aU s (ys.map (C.ev fr)) (xs.map a.eval)
 | [],ys,h=>by obtain rfl:=sj h;exact .nil
 | x :: xs, ys, h => by
  simp only [Q9] at h;split at h
  ·rename_i y zs h1 h2;obtain rfl:=sj h;exact .cons _ _ _ _ (aC hs hf h1) (pR hs hf h2)
  ·simp at h
theorem JC (hs:iC C s)(hf:du n s fr a.tmps){x:Option Operand}{y:Option AO}(h:coo C x=some y):
  (x=none/\y=none)\/∃ x' y',x=some x'/\y=some y'/\dH s (C.ev fr y') (a.eval x'):=by
 cases x with
 | none=>simp [coo] at h;exact .inl ⟨rfl,h.symm⟩
 | some x=>
  simp only [coo] at h
  cases hc:co C x with
  | none=>simp [hc] at h
  | some y'=>simp [hc] at h;exact .inr ⟨x,y',rfl,h.symm,aC hs hf hc⟩
end
theorem y9 {s:St}{v:J}{x:Value}(h:dH s v x)(hk:v.okV=true):aU s v.cells x.cells.toList/\∀ c∈v.cells,c.isCell=true:=by
 cases h with
 | agg cs vs h hc=>exact ⟨h,hc⟩
 | tup cs vs h=>simp [J.okV] at hk
 | _=>exact ⟨.cons _ _ _ _ (by constructor <;> assumption) .nil,by intro c hc;simp [J.cells] at hc;subst hc;rfl⟩
end Go.Av
namespace Go.Av
def bT (C:eD)(P:Program)(s:St)(m:Sem Next)(v:J)(h:O):Prop:=
 ∃ cv w',m.run P s.w=.ok (.value cv) w'/\Good C s w' v h cv
theorem bT.pure {C:eD}{P:Program}{s:St}(hs:iC C s){m:Sem Next}{v:J}{cv:Value}(h:m.run P s.w=.ok (.value cv) s.w)(hr:dH s v cv):bT C P s m v s.h:=
 ⟨cv,s.w,h,.same hs hr⟩
theorem gE {P:Program}{w w':World}{m:Sem Value}{cv:Value}(h:m.run P w=.ok cv w'):
  (do pure (Next.value (<- m)):Sem Next).run P w=.ok (.value cv) w':=by simp [h]
section
variable {C:eD} {P:Program} {s:St} {n:Nat} {fr:Fr} {a:Act}
theorem Lv {s:St}{cs:List J}{x:Value}(h:dH s (.agg cs) x):∃ vs:Array Value,x=.agg vs/\aU s cs vs.toList/\∀ c∈cs,c.isCell=true:=by
 cases h with
 | agg _ vs h hc=>exact ⟨vs,rfl,h,hc⟩
theorem zhW {s:St}{cs:List J}{x:Value}(h:dH s (.tup cs) x):∃ vs:Array Value,x=.tuple vs/\aU s cs vs.toList:=by
 cases h with
 | tup _ vs h=>exact ⟨vs,rfl,h⟩
theorem aJ {t:TypeId}{z:Nat}(h:uB P t=some z)(w:World):(sizeOf t).run P w=.ok z w:=by
 unfold uB at h
 cases hi:P.info? t with
 | none=>simp [hi] at h
 | some i=>simp [hi] at h;subst h;simp [sizeOf,typeInfo,hi]
theorem n7 {t:TypeId}{b:Bool}(h:Ck P t=some b)(w:World):(isAgg t).run P w=.ok b w:=by
 unfold Ck at h
 cases hd:P.underlying t with
 | none=>simp [hd] at h
 | some d=>cases d <;> simp [hd] at h <;> subst h <;> simp [isAgg,run_underlying hd]
theorem ME {t:TypeId}{off z:Nat}{b:Bool}{cs:List J}{vs:Array Value}{v:J}(hz:uB P t=some z)(hb:Ck P t=some b)
  (hr:aU s cs vs.toList) (hk:∀ c∈cs,c.isCell=true) (h:cL b cs off z=some v) (w:World):
  ∃ cv,(part t vs off).run P w=.ok cv w/\dH s v cv:=by
 unfold cL at h
 cases b with
 | true=>
  simp only [if_true] at h;split at h
  ·rename_i hle;obtain rfl:=sj h;refine ⟨.agg (vs.extract off (off+z)),by simp [part,n7 hb,aJ hz],.agg _ _ ?_ fun c hc=>hk c (List.mem_of_mem_drop (List.mem_of_mem_take hc))⟩;have:=(hr.drop off).take z;simpa [Array.toList_extract,List.extract_eq_take_drop] using this
  ·simp at h
 | false=>
  simp only [Bool.false_eq_true,if_false] at h;obtain ⟨cv,hcv,hrep⟩:=hr.get off v h;refine ⟨cv,?_,hrep⟩;have hx:vs[off]?=some cv:=by simpa using hcv
  simp [part,n7 hb,hx]
theorem Kk:∀ (vs:List J) (xs:List Value) (cs:List J) (cells:Array Value) (off:Nat),aU s cs cells.toList->aU s vs xs->
  ∀ j0,aU s (setAt cs (off+j0) vs) ((xs.zipIdx j0).foldl (fun cs (cj:Value × Nat)=>cs.setIfInBounds (off+cj.2) cj.1) cells).toList
 | [],_,cs,cells,off,h,.nil,j0=>by simpa [setAt] using h
 | v :: vs, _, cs, cells, off, h, .cons _ x _ xs hx ht, j0 => by
  simp only [setAt,List.zipIdx_cons,List.foldl_cons];have h':aU s (cs.set (off+j0) v) (cells.setIfInBounds (off+j0) x).toList:=by simpa using h.set (off+j0) hx
  exact Kk vs xs _ _ off h' ht (j0+1)
theorem AH:∀ (vs cs:List J) (off:Nat),(setAt cs off vs).length=cs.length
 | [],cs,off=>rfl
 | v :: vs,cs,off=>by simp [setAt,AH vs]
theorem FP {α:Type}{l:List α}{i:Nat}{x y:α}(h:y∈l.set i x):y∈l\/y=x:=List.mem_or_eq_of_mem_set h
theorem MV:∀ (vs cs:List J) (off:Nat),(∀ c∈cs,c.isCell=true)->(∀ c∈vs,c.isCell=true)->∀ c∈setAt cs off vs,c.isCell=true
 | [],cs,off,h,_=>h
 | v :: vs, cs, off, h, h' => by
  simp only [setAt];refine MV vs _ _ (fun c hc=>?_) (fun c hc=>h' c (List.mem_cons_of_mem _ hc));rcases FP hc with hc | rfl
  ·exact h c hc
  ·exact h' _ (List.mem_cons_self)
inductive Qa (s:St) (place:Nat->Option (Nat × Nat)):List (Nat × Nat × J)->List (Nat × Value)->Prop
 | nil:Qa s place [] []
 | cons (i o z:Nat) (v:J) (x:Value) (as:List (Nat × Nat × J)) (bs:List (Nat × Value)) (hp:place i=some (o,z)) (hr:dH s v x) (ht:Qa s place as bs):
   Qa s place ((o,z,v) :: as) ((i,x) :: bs)
theorem AV {place:Nat->Option (Nat × Nat)}:∀ {as:List (Nat × Nat × J)} {bs:List (Nat × Value)},Qa s place as bs->∀ {cs:List J} {cells:Array Value} {r:List J},
  aU s cs cells.toList->(∀ c∈cs,c.isCell=true)->al cs as=some r->∃ r',Instr.fill place cells bs=some r'/\aU s r r'.toList/\(∀ c∈r,c.isCell=true)/\r.length=cs.length
 | _, _, .nil, cs, cells, r, h, hk, hf => by
  obtain rfl:=sj hf;exact ⟨cells,rfl,h,hk,rfl⟩
 | _, _, .cons i o z v x as bs hp hr ht, cs, cells, r, h, hk, hf => by
  simp only [al] at hf;split at hf
  ·simp at hf
  ·rename_i hcond;simp only [not_or,Nat.not_lt,ne_eq,Decidable.not_not,Bool.not_eq_false] at hcond;obtain ⟨hl,hle,hok⟩:=hcond;obtain ⟨hc1,hc2⟩:=y9 hr hok;have hlen:=hc1.length;have hlen2:=h.length;have h1:=Kk v.cells x.cells.toList cs cells o h hc1 0;simp only [Nat.add_zero] at h1;obtain ⟨r',e1,e2,e3,e4⟩:=AV ht h1 (MV _ _ _ hk hc2) hf;refine ⟨r',?_,e2,e3,by rw [e4,AH]⟩;simp only [Instr.fill,hp];have a1:x.cells.size=z:=by rw [<- hl,hlen];simp
   have a2:o+x.cells.size<=cells.size:=by rw [a1];simp at hlen2;omega
   rw [if_neg (by simp [a1];omega)];rw [<- e1]
   congr 1
   rw [<- Array.foldl_toList,Array.toList_zipIdx]
theorem AX (hs:iC C s)(hf:du n s fr a.tmps){place:Nat->Option (Nat × Nat)}:∀ {xs:List (Nat × Operand)} {ys:List (Nat × Nat × AO)},Mh C P place xs=some ys->
  Qa s place (ys.map fun p=>(p.1,p.2.1,C.ev fr p.2.2)) (xs.map fun p=>(p.1,a.eval p.2))
 | [],ys,h=>by obtain rfl:=sj h;exact .nil
 | (i, x) :: xs, ys, h => by
  simp only [Mh] at h;split at h
  ·rename_i o z y zs h1 h2 h3;obtain rfl:=sj h;exact .cons i o z _ _ _ _ h1 (aC hs hf h2) (AX hs hf h3)
  ·simp at h
theorem FQ (hs:iC C s)(hf:du n s fr a.tmps)(sz:Nat):∀ {xs:List (Nat × Operand)} {ys:List (Nat × AO)},Ew C xs=some ys->
  Qa s (fun i=>some (i*sz,sz)) (ys.map fun p=>(p.1*sz,sz,C.ev fr p.2)) (xs.map fun p=>(p.1,a.eval p.2))
 | [],ys,h=>by obtain rfl:=sj h;exact .nil
 | (i, x) :: xs, ys, h => by
  simp only [Ew] at h;split at h
  ·rename_i y zs h1 h2;obtain rfl:=sj h;exact .cons i _ _ _ _ _ _ rfl (aC hs hf h1) (FQ hs hf sz h2)
  ·simp at h
theorem pU {t:TypeId}{z:List J}(h:HI P t=some z)(w:World):∃ zv:Value,(zeroValue t).run P w=.ok zv w/\aU s z zv.cells.toList/\∀ c∈z,c.isCell=true:=by
 unfold HI at h
 cases hi:P.info? t with
 | none=>simp [hi] at h
 | some i=>
  cases hz:i.zero with
  | none=>simp [hi,hz] at h
  | some zv=>
   cases hav:Mf zv with
   | none=>simp [hi,hz,hav] at h
   | some av=>
    by_cases hok:av.okV=true
    ·simp [hi,hz,hav,hok] at h;subst h;obtain ⟨h1,h2⟩:=y9 (C2 (s:=s) hav) hok;exact ⟨zv,by simp [zeroValue,typeInfo,hi,hz],h1,h2⟩
    ·simp [hi,hz,hav,hok] at h
theorem vY (z:List J):∀ n,(rep z n).length=n*z.length
 | 0=>by simp [rep]
 | n+1=>by simp [rep,vY z n,Nat.succ_mul];omega
theorem DM (z:List J)(h:∀ c∈z,c.isCell=true):∀ n,∀ c∈rep z n,c.isCell=true
 | 0,c,hc=>by simp [rep] at hc
 | n + 1, c, hc => by
  simp only [rep,List.mem_append] at hc;exact hc.elim (h c) (DM z h n c)
theorem Y3 (z:List J)(hz:0 < z.length):∀ (n i:Nat),i < n*z.length->(rep z n)[i]?=z[i % z.length]?
 | 0,i,h=>by simp at h
 | n + 1, i, h => by
  simp only [rep];by_cases hlt:i < z.length
  ·rw [List.getElem?_append_left hlt,Nat.mod_eq_of_lt hlt]
  ·rw [List.getElem?_append_right (by omega),Y3 z hz n (i - z.length) (by rw [Nat.succ_mul] at h;omega)]
   congr 1
   exact (Nat.mod_eq_sub_mod (by omega)).symm
theorem xD {z:List J}{zv:Value}(h:aU s z zv.cells.toList)(hz:0 < z.length)(n:Nat):
  aU s (rep z n) ((Array.range (n*z.length)).map (zv.cells[· % zv.cells.size]!)).toList:=by
 have hlen:=h.length;have hsz:zv.cells.size=z.length:=by simpa using hlen.symm
 refine aU.of_get (by simp [vY]) fun i x y hx hy=>?_;have hi:i < n*z.length:=by have:=(List.getElem?_eq_some_iff.1 hx).1;rwa [vY] at this
 rw [Y3 z hz n i hi] at hx;obtain ⟨y',hy',hr⟩:=h.get _ _ hx;have hmod:i % z.length < z.length:=Nat.mod_lt _ hz;have:y=y':=by
  simp only [Array.toList_map,Array.toList_range,List.getElem?_map,List.getElem?_range hi,Option.map_some,Option.some.injEq] at hy;rw [hsz] at hy;rw [<- hy,getElem!_pos _ _ (by rw [hsz];exact hmod)];have:=hy';simp [Array.getElem?_eq_getElem (show i % z.length < zv.cells.size by rw [hsz];exact hmod)] at this;exact this
 rw [this];exact hr
theorem fQ (sz:Nat):∀ (n:Nat) (cs:List J),(chunks sz n cs).length=n
 | 0,_=>rfl
 | n+1,cs=>by simp [chunks,fQ sz n]
theorem A4 {X sz:Nat}:∀ (n:Nat) {o:Nat} {cs:List J},d8 s X o cs->n*sz<=cs.length->gQ s X sz o (chunks sz n cs)
 | 0,_,_,_,_=>.nil _ _ _
 | n + 1, o, cs, h, hl => by
  rw [Nat.succ_mul] at hl;refine .cons _ _ _ _ _ (by simp;omega) (h.take sz) (A4 n (h.drop sz) (by simp;omega))
end
end Go.Av
namespace Go.Av
section
variable {C:eD} {P:Program} {s:St} {n:Nat} {fr:Fr} {a:Act}
theorem RB {op:BinOp}{k:IntKind}{x y:Int}{v:J}(h:md op k x y=some v)(hne1:op≠.shl)(hne2:op≠.shr)(t:TypeId)(w:World):
    ∃ cv,(binOp op t (.int k x) (.int k y)).run P w=.ok cv w/\dH s v cv:=by
  cases op <;> simp only [md] at h <;> first
    | exact absurd rfl hne1
    | exact absurd rfl hne2
    | (simp at h;done)
    | (obtain rfl:=sj h;exact ⟨_,by simp only [binOp,ne_eq,not_true,if_false,Op.intArith,Op.intBits,Op.intCmp];rfl,by constructor⟩)
    | (split at h
       · simp at h
       · rename_i hy
         obtain rfl:=sj h
         exact ⟨_,by simp [binOp,Op.intDiv,hy];rfl,by constructor⟩)
theorem zbK {op:BinOp}{x y:J}{cx cy:Value}{v:J}(hx:dH s x cx)(hy:dH s y cy)(h:aV op x y=some v)(t:TypeId)(w:World):
  ∃ cv,(binOp op t cx cy).run P w=.ok cv w/\dH s v cv:=by
 unfold aV at h;split at h
 ·cases hx;cases hy
  unfold ua at h;split at h
  ·simp at h
  ·rename_i hneg;obtain rfl:=sj h;exact ⟨_,by simp [binOp,Op.shift,hneg];rfl,by constructor⟩
 ·cases hx;cases hy
  unfold ua at h;split at h
  ·simp at h
  ·rename_i hneg;obtain rfl:=sj h;exact ⟨_,by simp [binOp,Op.shift,hneg];rfl,by constructor⟩
 ·rename_i k x k' y hn1 hn2
  cases hx;cases hy
  split at h
  ·rename_i hk;subst hk;exact RB h (by rintro rfl;simp at hn1) (by rintro rfl;simp at hn2) t w
  ·simp at h
 ·cases hx;cases hy
  split at h
  ·simp at h
  ·rename_i hsz;obtain rfl:=sj h;refine ⟨_,?_,.str _⟩;simp only [binOp,Op.stringOp];rw [if_neg (by simpa using hsz)];rfl
 ·cases hx;cases hy
  obtain rfl:=sj h;exact ⟨_,by simp only [binOp,Op.stringOp,<- beq_toListBytes];rfl,by constructor⟩
 ·cases hx;cases hy
  obtain rfl:=sj h;exact ⟨_,by simp only [binOp,Op.stringOp,<- beq_toListBytes];rfl,by constructor⟩
 ·simp at h
theorem ym {op:BinOp}{t:TypeId}{x y:Operand}{cx cy:Value}(w:World)
    (h1:cx=.nilIface->cy=.nilIface->(isK x||isK y)=true) (h2:∀ a b,cx=.agg a->cy=.agg b->P.eqGuardType P.depth t=false):
    (eqGuard op t x y cx cy).run P w=.ok () w:=by
  unfold eqGuard
  cases op <;> first
    | rfl
    | (simp only [Bool.not_true,Bool.false_eq_true,if_false]
       split
       · cases x <;> cases y <;> first | rfl | exact absurd (h1 rfl rfl) (by simp [isK])
       · rename_i a b
         simp [h2 a b rfl rfl]
       · rfl)
theorem Du:∀ {k1:List CK} {l1 m1:List J} {k2:List CK} {l2 m2:List J} {b:Bool},l1.length=k1.length->m1.length=k1.length->cK (k1++k2) (l1++l2) (m1++m2)=some b->
  ∃ b1 b2,cK k1 l1 m1=some b1/\cK k2 l2 m2=some b2/\b=(b1&&b2)
 | [],[],[],k2,l2,m2,b,_,_,h=>⟨true,b,rfl,h,by simp⟩
 | [],[],_ :: _,_,_,_,_,_,hl,_=>by simp at hl
 | [],_ :: _,_,_,_,_,_,hl,_,_=>by simp at hl
 | _ :: _,[],_,_,_,_,_,hl,_,_=>by simp at hl
 | _ :: _,_ :: _,[],_,_,_,_,_,hl,_=>by simp at hl
 | k :: k1, x :: l1, y :: m1, k2, l2, m2, b, hl, hl', h => by
  simp only [List.cons_append,cK,Option.bind_eq_bind,Option.bind_eq_some_iff,Option.some.injEq] at h;obtain ⟨a,ha,c,hc,rfl⟩:=h;obtain ⟨b1,b2,h1,h2,rfl⟩:=Du (by simpa using hl) (by simpa using hl') hc;exact ⟨a&&b1,b2,by simp [cK,ha,h1],h2,by simp [Bool.and_assoc]⟩
theorem FW {k1 k2:List CK}{l m:List J}{b:Bool}(hn:k1.length<=l.length)(hm:k1.length<=m.length)(h:cK (k1++k2) l m=some b):
  ∃ b1 b2,cK k1 (l.take k1.length) (m.take k1.length)=some b1/\cK k2 (l.drop k1.length) (m.drop k1.length)=some b2/\b=(b1&&b2):=by
 refine Du (by simp;omega) (by simp;omega) ?_;simpa using h
theorem Kp {l m:List J}{b:Bool}(h:cK [] l m=some b):b=true:=by
 cases l <;> cases m <;> simp [cK] at h <;> simp [h]
def EqAt (P:Program)(d:Nat)(t:TypeId)(vs us:Array Value)(off:Nat)(b:Bool):Prop:=
 ∀ w,∃ x y,(part t vs off).run P w=.ok x w/\(part t us off).run P w=.ok y w/\(Op.equalIn d t x y).run P w=.ok b w
theorem DP {rec:TypeId->Option (List CK)}{z:Nat}:∀ (fs:List Field) (o:Nat) (l:List CK),FK P rec z o fs=some l->o+l.length=z
 | [], o, l, h => by
  simp only [FK] at h;split at h
  ·obtain rfl:=sj h;simpa using ‹o=z›
  ·simp at h
 | f :: fs, o, l, h => by
  simp only [FK] at h;split at h
  ·split at h
   ·rename_i zf lf h1 h2;split at h
    ·rename_i hl
     cases hr:FK P rec z (o+zf) fs with
     | none=>simp [hr] at h
     | some l'=>
      simp [hr] at h;subst h;have:=DP fs _ _ hr;simp;omega
    ·simp at h
   ·simp at h
  ·simp at h
theorem DQ {d:Nat}{rec:TypeId->Option (List CK)}{z:Nat}{cs ds:List J}{vs us:Array Value}(hz1:cs.length=z)(hz2:ds.length=z)
  (ih:∀ (t:TypeId) (l:List CK) (zt off:Nat) (b:Bool),rec t=some l->uB P t=some zt->off+zt<=z->cK l ((cs.drop off).take zt) ((ds.drop off).take zt)=some b->EqAt P d t vs us off b):
  ∀ (fs:List Field) (o:Nat) (l:List CK) (b:Bool),FK P rec z o fs=some l->cK l (cs.drop o) (ds.drop o)=some b->∀ w,(Op.eqFields d vs us fs).run P w=.ok b w
 | [], o, l, b, hok, h, w => by
  have:=DP _ _ _ hok;simp only [FK] at hok;split at hok
  ·obtain rfl:=sj hok;have:=Kp h;subst this;simp [Op.eqFields]
  ·simp at hok
 | f :: fs, o, l, b, hok, h, w => by
  have hle:=DP _ _ _ hok;simp only [FK] at hok;split at hok
  ·rename_i hn;split at hok
   ·rename_i zf lf h1 h2;split at hok
    ·rename_i hlf
     cases hr:FK P rec z (o+zf) fs with
     | none=>simp [hr] at hok
     | some l'=>
      simp [hr] at hok;subst hok;have hle2:=DP _ _ _ hr;obtain ⟨b1,b2,e1,e2,rfl⟩:=FW (by simp;omega) (by simp;omega) h;rw [List.drop_drop,List.drop_drop,hlf] at e2;rw [hlf] at e1;obtain ⟨x,y,r1,r2,r3⟩:=ih f.type lf zf o b1 h2 h1 (by omega) e1 w;simp only [Op.eqFields,Sem.run_bind,Sem.run_ite];rw [hn.1];rw [if_pos hn.2];simp only [r1,r2,r3,Result.andThen_ok]
      cases b1 with
      | false=>simp
      | true=>simpa using DQ hz1 hz2 ih fs (o+zf) l' b2 hr e2 w
    ·simp at hok
   ·simp at hok
  ·simp at hok
theorem Kq {α:Type}(l:List α):∀ n,(TJ l n).length=n*l.length
 | 0=>by simp [TJ]
 | n+1=>by simp [TJ,Kq l n,Nat.succ_mul];omega
theorem Kr {d n ze:Nat}{e:TypeId}{l:List CK}{z:Nat}{cs ds:List J}{vs us:Array Value}(hz1:cs.length=z)(hz2:ds.length=z)(hz:z=n*ze)(hl:l.length=ze)
  (ih:∀ (off:Nat) (b:Bool),off+ze<=z->cK l ((cs.drop off).take ze) ((ds.drop off).take ze)=some b->EqAt P d e vs us off b):
  ∀ (m i:Nat) (b:Bool),i+m=n->cK (TJ l m) (cs.drop (i*ze)) (ds.drop (i*ze))=some b->∀ w,((do
   let r <- forIn (List.range' i m) ((none, ()) : Option Bool × Unit) (fun i _ => do
    let x <- part e vs (i*ze);let y <- part e us (i*ze);let q <- Op.equalIn d e x y
    if (!q)=true then pure (ForInStep.done (some false,())) else pure (ForInStep.yield (none,())))
   match r.1 with | some a=>pure a | none=>pure true):Sem Bool).run P w=.ok b w
 | 0, i, b, hi, h, w => by
  have:=Kp h;subst this;simp
 | m + 1, i, b, hi, h, w => by
  have e3:i*ze+ze=(i+1)*ze:=by rw [Nat.succ_mul]
  have hle:i*ze+ze<=z:=by
   rw [hz,<- hi,e3];exact Nat.mul_le_mul_right _ (by omega)
  obtain ⟨b1,b2,e1,e2,rfl⟩:=FW (by simp;omega) (by simp;omega) h;rw [List.drop_drop,List.drop_drop,hl,e3] at e2;rw [hl] at e1;obtain ⟨x,y,r1,r2,r3⟩:=ih (i*ze) b1 hle e1 w;have:=Kr hz1 hz2 hz hl ih m (i+1) b2 (by omega) e2 w;simp only [List.range'_succ,List.forIn_cons,Sem.run_bind,r1,r2,r3,Result.andThen_ok,Sem.run_ite]
  cases b1 with
  | false=>simp
  | true=>simpa using this
theorem G5:∀ (D:Nat) (t:TypeId) (l:List CK) (z:Nat),Oy P D t=some l->uB P t=some z->∀ (d:Nat),D<=d->∀ (cs ds:List J) (vs us:Array Value),aU s cs vs.toList->aU s ds us.toList->
  ∀ (off:Nat) (b:Bool),off+z<=cs.length->off+z<=ds.length->
  cK l ((cs.drop off).take z) ((ds.drop off).take z)=some b->EqAt P d t vs us off b
 | 0,_,_,_,h,_,_,_,_,_,_,_,_,_,_,_,_,_,_=>by simp [Oy] at h
 | D+1,t,l,z,hok,hz,0,hd,_,_,_,_,_,_,_,_,_,_,_=>by omega
 | D + 1, t, l, z, hok, hz, d + 1, hd, cs, ds, vs, us, hv, hu, off, b, h1, h2, h => by
  intro w;simp only [Oy,hz] at hok;have scal:∀ k,z=1->l=[k]->Ck P t=some false->∃ c e v u,GD k c e=some b/\dH s c v/\dH s e u/\(part t vs off).run P w=.ok v w/\(part t us off).run P w=.ok u w:=by
   rintro k rfl rfl ha;have hc:off < cs.length:=by omega
   have hd':off < ds.length:=by omega
   obtain ⟨v,hv1,hv2⟩:=hv.get off _ (List.getElem?_eq_getElem hc);obtain ⟨u,hu1,hu2⟩:=hu.get off _ (List.getElem?_eq_getElem hd');refine ⟨cs[off],ds[off],v,u,?_,hv2,hu2,?_,?_⟩
   ·rw [List.drop_eq_getElem_cons hc,List.drop_eq_getElem_cons hd'] at h;simp only [List.take_succ_cons,List.take_zero,cK,Option.bind_eq_bind,Option.bind_eq_some_iff,Option.some.injEq] at h;obtain ⟨a,ha,c,hc,rfl⟩:=h;subst hc;simpa using ha
   ·have hx:vs[off]?=some v:=by simpa using hv1
    simp [part,n7 ha,hx]
   ·have hx:us[off]?=some u:=by simpa using hu1
    simp [part,n7 ha,hx]
  have aggr:Ck P t=some true->(part t vs off).run P w=.ok (.agg (vs.extract off (off+z))) w/\(part t us off).run P w=.ok (.agg (us.extract off (off+z))) w:=fun ha=>
   ⟨by simp [part,n7 ha,aJ hz],by simp [part,n7 ha,aJ hz]⟩
  have rv:aU s ((cs.drop off).take z) (vs.extract off (off+z)).toList:=by
   have:=(hv.drop off).take z;simpa [Array.toList_extract,List.extract_eq_take_drop] using this
  have ru:aU s ((ds.drop off).take z) (us.extract off (off+z)).toList:=by
   have:=(hu.drop off).take z;simpa [Array.toList_extract,List.extract_eq_take_drop] using this
  have lc:((cs.drop off).take z).length=z:=by simp;omega
  have ld:((ds.drop off).take z).length=z:=by simp;omega
  split at hok
  ·rename_i hut hz1;obtain rfl:=sj hz1;obtain rfl:=sj hok;obtain ⟨c,e,v,u,hce,r1,r2,p1,p2⟩:=scal _ rfl rfl (by simp [Ck,hut]);refine ⟨v,u,p1,p2,?_⟩
   cases c <;> cases e <;> simp [GD] at hce
   cases r1;cases r2
   subst hce;simp [Op.equalIn,run_underlying hut]
  ·rename_i k0 hut hz1;obtain rfl:=sj hz1;obtain rfl:=sj hok;obtain ⟨c,e,v,u,hce,r1,r2,p1,p2⟩:=scal _ rfl rfl (by simp [Ck,hut]);refine ⟨v,u,p1,p2,?_⟩
   cases c <;> cases e <;> simp [GD] at hce
   cases r1;cases r2
   obtain ⟨e1,e2⟩:=hce;subst e1 e2;simp [Op.equalIn,run_underlying hut]
  ·rename_i hut hz1;obtain rfl:=sj hz1;obtain rfl:=sj hok;obtain ⟨c,e,v,u,hce,r1,r2,p1,p2⟩:=scal _ rfl rfl (by simp [Ck,hut]);refine ⟨v,u,p1,p2,?_⟩
   cases c <;> cases e <;> simp [GD] at hce
   cases r1;cases r2
   subst hce;simp [Op.equalIn,run_underlying hut]
  ·rename_i fs z' hut hz1;obtain rfl:=sj hz1;split at hok
   ·simp at hok
   ·rename_i hst;obtain ⟨p1,p2⟩:=aggr (by simp [Ck,hut]);refine ⟨_,_,p1,p2,?_⟩;have hfo:P.fieldsOf t=fs:=by simp [Program.fieldsOf,hut]
    rw [run_equalIn_struct w d t _ _ (by rw [hfo];exact hut) (by simpa using hst),hfo];refine DQ lc ld (fun t' l' zt off' b' hl' hz' hle hb=>?_) fs.toList 0 l b hok (by simpa using h) w;exact G5 D t' l' zt hl' hz' d (by omega) _ _ _ _ rv ru off' b' (by omega) (by omega) hb
  ·rename_i n e z' hut hz1;obtain rfl:=sj hz1;split at hok
   ·rename_i le be hle hbe;split at hok
    ·rename_i hcond;obtain rfl:=sj hok;obtain ⟨p1,p2⟩:=aggr (by simp [Ck,hut]);refine ⟨_,_,p1,p2,?_⟩;have:=Kr (P:=P) (d:=d) (e:=e) lc ld hcond.1 hcond.2 (fun off' b' hle' hb=>G5 D e le be hle hbe d (by omega) _ _ _ _ rv ru off' b' (by omega) (by omega) hb) n 0 b (by omega) (by simpa using h) w;rw [<- this];simp only [Op.equalIn,Sem.run_bind,run_underlying hut,aJ hbe,Result.andThen_ok];simp only [Std.Legacy.Range.forIn_eq_forIn_range',Std.Legacy.Range.size,Nat.sub_zero,Nat.add_sub_cancel,Nat.div_one]
     congr 1
     funext r w'
     obtain ⟨r,u⟩:=r
     cases r <;> rfl
    ·simp at hok
   ·simp at hok
  ·simp at hok
end
end Go.Av
namespace Go.Av
section
variable {C:eD} {P:Program} {s:St} {n:Nat} {fr:Fr} {a:Act}
theorem bind_some {α β:Type}{x:Option α}{f:α->Option β}{b:β}(h:(x >>= f)=some b):∃ a,x=some a/\f a=some b:=Option.bind_eq_some_iff.1 h
theorem map_some {α β:Type}{x:Option α}{f:α->β}{b:β}(h:x.map f=some b):∃ a,x=some a/\f a=b:=Option.map_eq_some_iff.1 h
theorem pV {x:Option J}{cx:Option Value}{dflt most r:Nat}(hx:(x=none/\cx=none)\/∃ v cv,x=some v/\cx=some cv/\dH s v cv)(h:jp x dflt most=some r):
    (cx=none/\x=none/\r=dflt)\/∃ cv,cx=some cv/\x.isSome=true/\r<=most/\∀ code w,(Instr.sliceBound cv most code).run P w=.ok r w:=by
  rcases hx with ⟨rfl,rfl⟩ | ⟨v,cv,rfl,rfl,hr⟩
  · simp [jp] at h;exact .inl ⟨rfl,rfl,h.symm⟩
  · cases hr <;> simp only [jp] at h <;> first
      | (simp at h;done)
      | (split at h
         · rename_i k i hi
           obtain rfl:=sj h
           refine .inr ⟨_,rfl,rfl,by omega,fun code w=>?_⟩
           simp [Instr.sliceBound,asIntOf,hi]
         · simp at h)
theorem nK {lo hi mx:Option J}{clo chi cmx:Option Value}(hlo:(lo=none/\clo=none)\/∃ v cv,lo=some v/\clo=some cv/\dH s v cv)
    (hhi:(hi=none/\chi=none)\/∃ v cv,hi=some v/\chi=some cv/\dH s v cv) (hmx:(mx=none/\cmx=none)\/∃ v cv,mx=some v/\cmx=some cv/\dH s v cv)
    {isS:Bool} {len capA cap l h m:Nat} (e1:jp mx capA capA=some m) (e2:jp hi len m=some h) (e3:jp lo 0 h=some l) (hcap:capA<=cap) (hh:mx.isSome=true->hi.isSome=true) (w:World):
    ∃ mc,(Instr.sliceBounds isS len cap clo chi cmx).run P w=.ok (l,h,mc) w/\l<=h/\(hi.isSome=true->h<=m)/\(hi=none->h=len)/\(mx.isSome=true->mc=m/\m<=capA)/\(mx=none->mc=cap/\m=capA):=by
  rcases hmx with ⟨rfl,rfl⟩ | ⟨v1,cv1,rfl,rfl,hr1⟩
  · simp [jp] at e1
    subst e1
    rcases hhi with ⟨rfl,rfl⟩ | ⟨v2,cv2,rfl,rfl,hr2⟩
    · simp [jp] at e2
      subst e2
      rcases pV (P:=P) hlo e3 with ⟨rfl,rfl,rfl⟩ | ⟨cv3,rfl,i3,l3,r3⟩
      · exact ⟨cap,by simp [Instr.sliceBounds],by omega,by simp,by simp,by simp,by simp⟩
      · exact ⟨cap,by simp [Instr.sliceBounds,r3],l3,by simp,by simp,by simp,by simp⟩
    · have e2':jp (some v2) len cap=some h:=by
        cases hr2 <;> simp only [jp] at e2 |- <;> first
          | (simp at e2;done)
          | (split at e2
             · rename_i hi;rw [if_pos (by omega)];exact e2
             · simp at e2)
      have hm:h<=capA:=by
        rcases pV (P:=P) (.inr ⟨v2,cv2,rfl,rfl,hr2⟩) e2 with ⟨x,_⟩ | ⟨_,_,_,x,_⟩
        · simp at x
        · exact x
      rcases pV (P:=P) (.inr ⟨v2,cv2,rfl,rfl,hr2⟩) e2' with ⟨x,_⟩ | ⟨cv2',x,i2,l2,r2⟩
      · simp at x
      · obtain rfl:=sj x
        rcases pV (P:=P) hlo e3 with ⟨rfl,rfl,rfl⟩ | ⟨cv3,rfl,i3,l3,r3⟩
        · exact ⟨cap,by simp [Instr.sliceBounds,r2],by omega,fun _=>hm,by simp,by simp,by simp⟩
        · exact ⟨cap,by simp [Instr.sliceBounds,r2,r3],l3,fun _=>hm,by simp,by simp,by simp⟩
  · have hm:m<=capA:=by
      rcases pV (P:=P) (.inr ⟨v1,cv1,rfl,rfl,hr1⟩) e1 with ⟨x,_⟩ | ⟨_,_,_,x,_⟩
      · simp at x
      · exact x
    have e1':jp (some v1) cap cap=some m:=by
      cases hr1 <;> simp only [jp] at e1 |- <;> first
        | (simp at e1;done)
        | (split at e1
           · rename_i hi;rw [if_pos (by omega)];exact e1
           · simp at e1)
    rcases pV (P:=P) (.inr ⟨v1,cv1,rfl,rfl,hr1⟩) e1' with ⟨x,_⟩ | ⟨cv1',x,i1,l1,r1⟩
    · simp at x
    · obtain rfl:=sj x
      rcases pV (P:=P) hhi e2 with ⟨rfl,rfl,rfl⟩ | ⟨cv2,rfl,i2,l2,r2⟩
      · simp at hh
      · rcases pV (P:=P) hlo e3 with ⟨rfl,rfl,rfl⟩ | ⟨cv3,rfl,i3,l3,r3⟩
        · exact ⟨m,by simp [Instr.sliceBounds,r1,r2],by omega,fun _=>l2,fun h0=>by simp [h0] at i2,fun _=>⟨rfl,hm⟩,by simp⟩
        · exact ⟨m,by simp [Instr.sliceBounds,r1,r2,r3],l3,fun _=>l2,fun h0=>by simp [h0] at i2,fun _=>⟨rfl,hm⟩,by simp⟩
theorem Kt {α:Type}(l h:Nat)(es:List α)(hh:h<=es.length):(CV l h es).length=h - l:=by simp [CV];omega
theorem R0 {X o sz:Nat}{es:List (List J)}{l h m:Nat}(he:gQ s X sz o es)(h1:l<=h)(h2:h<=m)(h4:h<=es.length)(clip:Bool)(hcl:clip=true->m=h)
  {z:Nat} (hz:es≠[]->z=sz):
  dH s (.vsl clip (CV l h es)) (.slice (if m=l then some ⟨X,o,none⟩ else (some (⟨X,o,none⟩:Addr)).map (·.add (l*z))) (h - l) (m - l)):=by
 by_cases hl:h=l
 ·have e0:CV l h es=[]:=by
   apply List.eq_nil_of_length_eq_zero;rw [Kt _ _ _ h4];omega
  rw [e0,show h - l=0 by omega];refine .vsl0 clip _ _ (fun hc=>?_) (fun hn=>?_)
  ·have:=hcl hc;omega
  ·split at hn <;> simp at hn
 ·rw [if_neg (by omega)];have hne:es≠[]:=by rintro rfl;simp at h4;omega
  have hz':=hz hne;subst hz';have key:=he.sub l h;have e1:(⟨X,o,none⟩:Addr).add (l*z)=⟨X,o+l*z,none⟩:=by
   unfold Addr.add;split
   ·rename_i h0;rw [h0];rfl
   ·rfl
  simp only [Option.map_some,e1];exact .vsl clip _ X (o+l*z) z (m - l) (h - l) key (Kt l h es h4).symm (by omega) (fun hc=>by have:=hcl hc;omega)
theorem lU (X o k:Nat):(⟨X,o,none⟩:Addr).add k=⟨X,o+k,none⟩:=by
 unfold Addr.add;split
 ·rename_i h0;rw [h0];rfl
 ·rfl
theorem Ir {X o sz z:Nat}{es:List (List J)}(he:gQ s X sz o es)(h:eo z es=true):es≠[]->z=sz:=by
 intro hne
 cases es with
 | nil=>exact absurd rfl hne
 | cons e es=>
  have:=(he.get 0 e (by simp)).1;simp [eo] at h;omega
theorem Zc {x:Option J}{d m k:Nat}(h:jp x d m=some k):k=d\/k<=m:=by
 unfold jp at h;split at h
 ·left;simpa using h.symm
 ·split at h
  ·rename_i i hi
   right
   have:i.toNat=k:=by simpa using h
   omega
  ·simp at h
 ·simp at h
def zoX (P:Program)(t:TypeId)(sz:Nat):SK->Prop
 | .str=>P.underlying t=some .string
 | .slc=>∃ e,P.underlying t=some (.slice e)/\uB P e=some sz
 | .arr m=>∃ e,P.underlying t=some (.array m e)/\uB P e=some sz
theorem UN {t:TypeId}{k:SK}{sz:Nat}{x:J}{cx:Value}{lo hi mx:Option J}{clo chi cmx:Option Value}(hx:dH s x cx)
  (hlo:(lo=none/\clo=none)\/∃ v cv,lo=some v/\clo=some cv/\dH s v cv)
  (hhi:(hi=none/\chi=none)\/∃ v cv,hi=some v/\chi=some cv/\dH s v cv) (hmx:(mx=none/\cmx=none)\/∃ v cv,mx=some v/\cmx=some cv/\dH s v cv)
  (hh:mx.isSome=true->hi.isSome=true) (ht:zoX P t sz k)
  {v:J} (hv:eP k sz x lo hi mx=some v) (w:World):∃ cv,(Instr.sliceAt t cx clo chi cmx).run P w=.ok cv w/\dH s v cv:=by
 unfold eP at hv;split at hv
 ·
  rename_i str
  cases hx
  split at hv
  ·simp at hv
  ·rename_i hmn;obtain ⟨h,e2,hv⟩:=bind_some hv;obtain ⟨l,e3,hv⟩:=bind_some hv;obtain rfl:=sj hv;have hm0:mx=none:=by simpa using hmn
   subst hm0;have hcm:cmx=none:=by
    rcases hmx with ⟨_,h⟩ | ⟨_,_,h,_⟩
    ·exact h
    ·simp at h
   subst hcm;obtain ⟨mc,hr,h1,h2,h3,_,_⟩:=nK (P:=P) (isS:=false) (cap:=str.size) hlo hhi hmx (capA:=str.size) (by simp [jp]) e2 e3 (Nat.le_refl _) hh w;exact ⟨_,by simp [Instr.sliceAt,Instr.slice,run_underlying ht,hr],.str _⟩
 ·
  obtain ⟨e,ht1,ht2⟩:=ht
  cases hx
  obtain ⟨m,e1,hv⟩:=bind_some hv;obtain ⟨h,e2,hv⟩:=bind_some hv;obtain ⟨l,e3,hv⟩:=bind_some hv;obtain rfl:=sj hv;obtain ⟨mc,hr,h1,h2,h3,h4,h5⟩:=nK (P:=P) (isS:=true) (cap:=0) hlo hhi hmx e1 e2 e3 (Nat.le_refl _) hh w;have hmc:mc=0:=by
   cases hm:mx with
   | none=>exact (h5 hm).1
   | some _=>have:=h4 (by simp [hm]);omega
  have hh0:h=0:=by
   cases hhi':hi with
   | none=>exact h3 hhi'
   | some _=>
    have:=h2 (by simp [hhi'])
    cases hm:mx with
    | none=>have:=(h5 hm).2;omega
    | some _=>have:=h4 (by simp [hm]);omega
  have hl0:l=0:=by omega
  subst hmc hh0 hl0;exact ⟨_,by simp [Instr.sliceAt,Instr.slice,run_underlying ht1,hr,aJ ht2],.nsl⟩
 ·
  rename_i c es;obtain ⟨e,ht1,ht2⟩:=ht;obtain ⟨m,e1,hv⟩:=bind_some hv;obtain ⟨h,e2,hv⟩:=bind_some hv;obtain ⟨l,e3,hv⟩:=bind_some hv;split at hv
  ·rename_i hz;obtain rfl:=sj hv
   cases hx with
   | vsl _ _ X o sz' cc n' he hn hc hcl=>
    subst hn;obtain ⟨mc,hr,h1,h2,h3,h4,h5⟩:=nK (P:=P) (isS:=true) (cap:=cc) hlo hhi hmx e1 e2 e3 hc hh w;have hhm:h<=es.length:=by
     cases hhi':hi with
     | none=>rw [h3 hhi'];exact Nat.le_refl _
     | some _=>
      have:=h2 (by simp [hhi'])
      cases hm:mx with
      | none=>have:=(h5 hm).2;omega
      | some _=>have:=h4 (by simp [hm]);omega
    have hmch:h<=mc:=by
     cases hm:mx with
     | none=>have:=(h5 hm).1;omega
     | some _=>
      have:=h4 (by simp [hm]);have:=h2 (hh (by simp [hm]));omega
    refine ⟨.slice (if mc=l then some ⟨X,o,none⟩ else (some (⟨X,o,none⟩:Addr)).map (·.add (l*sz))) (h - l) (mc - l),by simp [Instr.sliceAt,Instr.slice,run_underlying ht1,hr,aJ ht2],?_⟩;have := R0 he h1 hmch hhm ((mx.isSome && h == m) || (c && h == es.length)) (fun hcc => by
     simp only [Bool.or_eq_true,Bool.and_eq_true,beq_iff_eq] at hcc;rcases hcc with ⟨p,q⟩ | ⟨p,q⟩
     ·have:=(h4 p).1;omega
     ·have:=hcl p
      cases hm:mx with
      | none=>have:=(h5 hm).1;omega
      | some _=>have:=h4 (by simp [hm]);omega) (Ir he hz)
    simpa using this
   | vsl0 _ a0 cc hcl hz0=>
    obtain ⟨mc,hr,h1,h2,h3,h4,h5⟩:=nK (P:=P) (isS:=true) (cap:=cc) hlo hhi hmx e1 e2 e3 (Nat.zero_le _) hh w;have hh0:h=0:=by
     cases hhi':hi with
     | none=>exact h3 hhi'
     | some _=>
      have:=h2 (by simp [hhi'])
      cases hm:mx with
      | none=>have:=(h5 hm).2;simp at this;omega
      | some _=>have:=h4 (by simp [hm]);simp at this;omega
    have hl0:l=0:=by omega
    subst hh0 hl0;have hr':(Instr.sliceBounds true 0 cc clo chi cmx).run P w=.ok (0,0,mc) w:=hr;refine ⟨.slice (if mc=0 then a0 else a0.map (·.add (0*sz))) (0 - 0) (mc - 0),by simp [Instr.sliceAt,Instr.slice,run_underlying ht1,hr',aJ ht2],?_⟩;simp only [CV,List.take_nil,List.drop_nil,Nat.sub_zero];refine .vsl0 _ _ _ (fun hcc=>?_) (fun hn=>?_)
    ·simp only [Bool.or_eq_true,Bool.and_eq_true,beq_iff_eq] at hcc;rcases hcc with ⟨p,q⟩ | ⟨p,q⟩
     ·have:=(h4 p).1;omega
     ·have:=hcl p
      cases hm:mx with
      | none=>have:=(h5 hm).1;omega
      | some _=>have:=h4 (by simp [hm]);simp at this;omega
    ·have ha:a0=none:=by
      split at hn
      ·exact hn
      ·simpa using hn
     have:=hz0 ha
     cases hm:mx with
     | none=>have:=(h5 hm).1;omega
     | some _=>have:=h4 (by simp [hm]);simp at this;omega
  ·simp at hv
 ·
  rename_i tk es;obtain ⟨e,ht1,ht2⟩:=ht;obtain ⟨m,e1,hv⟩:=bind_some hv;obtain ⟨h,e2,hv⟩:=bind_some hv;obtain ⟨l,e3,hv⟩:=bind_some hv;split at hv
  ·rename_i hz;obtain rfl:=sj hv
   cases hx with
   | gsl _ _ X o sz' cc m' n' he hc hn htk hm' hvv=>
    subst hn;obtain ⟨mc,hr,h1,h2,h3,h4,h5⟩:=nK (P:=P) (isS:=true) (cap:=cc) hlo hhi hmx e1 e2 e3 hc hh w;have hhm:h<=es.length:=by
     cases hhi':hi with
     | none=>rw [h3 hhi'];exact Nat.le_refl _
     | some _=>
      have:=h2 (by simp [hhi'])
      cases hm:mx with
      | none=>have:=(h5 hm).2;omega
      | some _=>have:=h4 (by simp [hm]);omega
    have hmch:h<=mc:=by
     cases hm:mx with
     | none=>have:=(h5 hm).1;omega
     | some _=>
      have:=h4 (by simp [hm]);have:=h2 (hh (by simp [hm]));omega
    refine ⟨.slice (if mc=l then some ⟨X,o,none⟩ else (some (⟨X,o,none⟩:Addr)).map (·.add (l*sz))) (h - l) (mc - l),by simp [Instr.sliceAt,Instr.slice,run_underlying ht1,hr,aJ ht2],?_⟩;have := R0 he h1 hmch hhm (mx.isSome && h == m) (fun hcc => by
     simp only [Bool.and_eq_true,beq_iff_eq] at hcc;have:=(h4 hcc.1).1;omega) (Ir he hz)
    simpa using this
  ·simp at hv
 ·
  rename_i b off s0 n0 cap;obtain ⟨e,ht1,ht2⟩:=ht;split at hv
  ·simp at hv
  ·rename_i hsz;have hsz':s0=sz:=by simpa using hsz
   subst hsz';obtain ⟨m,e1,hv⟩:=bind_some hv;obtain ⟨h,e2,hv⟩:=bind_some hv;obtain ⟨l,e3,hv⟩:=bind_some hv
   cases hx with
   | sl _ _ _ _ cc X _ hb hc hcap hkk=>
    have hcA:cap.getD n0<=cc:=by
     cases hcp:cap with
     | none=>simpa using hc
     | some k=>simp;have:=hcap k hcp;omega
    obtain ⟨mc,hr,h1,h2,h3,h4,h5⟩:=nK (P:=P) (isS:=true) (cap:=cc) hlo hhi hmx e1 e2 e3 hcA hh w;have hnA:n0<=cc:=hc;have hmch:h<=mc:=by
     cases hm:mx with
     | none=>
      have:=(h5 hm).1
      cases hhi':hi with
      | none=>have:=h3 hhi';omega
      | some _=>have:=h2 (by simp [hhi']);have:=(h5 hm).2;omega
     | some _=>
      have:=h4 (by simp [hm]);have:=h2 (hh (by simp [hm]));omega
    refine ⟨.slice (if mc=l then some ⟨X,off,none⟩ else (some (⟨X,off,none⟩:Addr)).map (·.add (l*s0))) (h - l) (mc - l),by simp [Instr.sliceAt,Instr.slice,run_underlying ht1,hr,aJ ht2],?_⟩;split at hv
    ·rename_i hhl;obtain rfl:=sj hv;rw [show h - l=0 by omega];refine .vsl0 _ _ _ (fun hcc=>?_) (fun hn=>?_)
     ·simp only [Bool.or_eq_true,Bool.and_eq_true,beq_iff_eq] at hcc;rcases hcc with ⟨p,q⟩ | ⟨p,q⟩
      ·have:=(h4 p).1;omega
      ·have hm0:mx=none:=by simpa using p
       have:=(h5 hm0).1;have:=hcap l q;omega
     ·split at hn <;> simp at hn
    ·rename_i hhl;obtain rfl:=sj hv;have hne:¬mc=l:=by omega
     simp only [hne,if_false,Option.map_some,lU];refine .sl b (off+l*s0) s0 (h - l) (mc - l) X _ hb (by omega) (fun k hk=>?_) (fun hcn=>?_)
     case refine_2=>
      have hm:mx=none:=by cases mx <;> simp_all
      have hcn':cap=none:=by cases cap <;> simp_all
      obtain ⟨vs,e0,fz,k1,k2⟩:=hkk hcn';refine ⟨vs,e0,fz,k1,?_⟩;have hmc:=(h5 hm).1;have hle:l*s0+(mc - l)*s0=mc*s0:=by rw [<- Nat.add_mul];congr 1;omega
      have hmm:mc*s0<=cc*s0:=Nat.mul_le_mul_right _ (by omega);omega
     cases hm:mx with
     | none=>
      have:=(h5 hm).1;simp [hm] at hk;obtain ⟨a',ha',rfl⟩:=hk;have:=hcap a' ha';omega
     | some _=>
      have:=h4 (by simp [hm]);simp [hm] at hk;omega
 ·
  rename_i n0 b off;obtain ⟨e,ht1,ht2⟩:=ht;obtain ⟨m,e1,hv⟩:=bind_some hv;obtain ⟨h,e2,hv⟩:=bind_some hv;obtain ⟨l,e3,hv⟩:=bind_some hv
  cases hx with
  | ptr _ _ X hb=>
   obtain ⟨mc,hr,h1,h2,h3,h4,h5⟩:=nK (P:=P) (isS:=false) (cap:=n0) hlo hhi hmx e1 e2 e3 (Nat.le_refl _) hh w;have hmm:mc=m:=by
    cases hm:mx with
    | none=>have:=h5 hm;omega
    | some _=>have:=h4 (by simp [hm]);omega
   subst hmm;have hmch:h<=mc:=by
    cases hm:mx with
    | none=>
     have:=(h5 hm).1
     cases hhi':hi with
     | none=>have:=h3 hhi';omega
     | some _=>have:=h2 (by simp [hhi']);omega
    | some _=>have:=h2 (hh (by simp [hm]));omega
   refine ⟨.slice (some (if mc=l then ⟨X,off,none⟩ else (⟨X,off,none⟩:Addr).add (l*sz))) (h - l) (mc - l),by simp [Instr.sliceAt,Instr.sureAddr,run_underlying ht1,hr,aJ ht2],?_⟩;split at hv
   ·rename_i hhl;obtain rfl:=sj hv;rw [show h - l=0 by omega];exact .vsl0 _ _ _ (fun hcc=>by simp at hcc;omega) (fun hn=>by simp at hn)
   ·rename_i hhl;obtain rfl:=sj hv;rw [if_neg (by omega),lU];exact .sl b (off+l*sz) sz (h - l) (mc - l) X _ hb (by omega) (fun k hk=>by simp at hk;omega) (fun h=>by simp at h)
 ·
  rename_i n0 cs off;obtain ⟨e,ht1,ht2⟩:=ht;obtain ⟨m,e1,hv⟩:=bind_some hv;obtain ⟨h,e2,hv⟩:=bind_some hv;obtain ⟨l,e3,hv⟩:=bind_some hv;split at hv
  ·rename_i hcs;obtain rfl:=sj hv
   cases hx with
   | vptr _ _ X o hrr=>
    have hmn:m<=n0:=by have:=Zc e1;omega
    have hhn:h<=n0:=by have:=Zc e2;omega
    obtain ⟨mc,hr,h1,h2,h3,h4,h5⟩:=nK (P:=P) (isS:=false) (cap:=n0) hlo hhi hmx e1 e2 e3 (Nat.le_refl _) hh w;have hmm:mc=m:=by
     cases hm:mx with
     | none=>have:=h5 hm;omega
     | some _=>have:=h4 (by simp [hm]);omega
    subst hmm;have hmch:h<=mc:=by
     cases hm:mx with
     | none=>
      have:=(h5 hm).1
      cases hhi':hi with
      | none=>have:=h3 hhi';omega
      | some _=>have:=h2 (by simp [hhi']);omega
     | some _=>have:=h2 (hh (by simp [hm]));omega
    have he:gQ s X sz (o+off) (chunks sz n0 (cs.drop off)):=A4 n0 (hrr.drop off) (by simp;omega);have hlen:(chunks sz n0 (cs.drop off)).length=n0:=fQ _ _ _;have hrep:=R0 he h1 hmch (by rw [hlen];exact hhn) (h==mc) (fun hc=>by simp at hc;omega) (fun _=>rfl);refine ⟨.slice (some (if mc=l then ⟨X,o+off,none⟩ else (⟨X,o+off,none⟩:Addr).add (l*sz))) (h - l) (mc - l),by simp [Instr.sliceAt,Instr.sureAddr,run_underlying ht1,hr,aJ ht2],?_⟩
    have e4:(if mc=l then some (⟨X,o+off,none⟩:Addr) else (some (⟨X,o+off,none⟩:Addr)).map (·.add (l*sz)))=some (if mc=l then ⟨X,o+off,none⟩ else (⟨X,o+off,none⟩:Addr).add (l*sz)):=by split <;> rfl
    rw [<- e4];exact hrep
  ·simp at hv
 ·simp at hv
end
end Go.Av
