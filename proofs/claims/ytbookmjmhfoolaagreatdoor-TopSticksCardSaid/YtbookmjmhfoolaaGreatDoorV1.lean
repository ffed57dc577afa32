/- An abstract machine of Go code, the compiler to it, and what its values and plain operations are in the model. -/
import Derived.Calls
import Derived.Orders
import Derived.Laws.Sem
import Derived.Laws.Entries
import Derived.Laws.Cells
import Derived.ChangeKeysEq
import Derived.Laws.StructEq
set_option linter.unusedSimpArgs false
set_option linter.unusedVariables false
namespace Go.Av
inductive zaa where
  | int (k:IntKind) (n:Int)
  | bool (b:Bool)
  | str (s:ByteArray)
  | nilp
  | ptr (b off:Nat)
  | vptr (cs:List zaa) (off:Nat)
  | sl (b off sz len:Nat) (cap:Option Nat)
  | gsl (t:Nat) (es:List (List zaa))
  | vsl (clip:Bool) (es:List (List zaa))
  | nsl
  | fn (f:Fn) (first cap:List zaa)
  | nfn
  | iface (t:TypeId) (v:zaa)
  | nif
  | agg (cs:List zaa)
  | tup (vs:List zaa)
  deriving Inhabited
abbrev Fr:=Nat→zaa
def zaK:zaa:=.tup []
def zaa.isCell:zaa→Bool
  | .agg _ | .tup _=>false
  | _=>true
def zaa.okV:zaa→Bool
  | .tup _=>false
  | _=>true
def zaa.cells:zaa→List zaa
  | .agg cs=>cs
  | v=>[v]
structure zab where
  blks:List (List zaa)
  toks:List Nat
  deriving Inhabited
inductive AO where
  | t (n:Nat)
  | k (v:zaa)
  | g (n:Nat)
inductive CK where
  | i | b | s
  deriving DecidableEq,Inhabited
inductive zMA where
  | bool | ptr | slc | fn | ifc | agg (sh:List CK)
  deriving DecidableEq,Inhabited
inductive SK where
  | str | slc | arr (n:Nat)
  deriving DecidableEq,Inhabited
inductive VOp where
  | mv (x:AO)
  | pick (c a b:AO)
  | boxv (x:AO)
  | build (zero:List zaa) (parts:List (Nat × Nat × AO))
  | slit (sz len:Nat) (zero:List zaa) (parts:List (Nat × AO))
  | nck (x:AO)
  | bin (op:BinOp) (x y:AO)
  | eq (cls:zMA) (neg:Bool) (x y:AO)
  | un (op:UnOp) (x:AO)
  | i2i (k:IntKind) (x:AO)
  | s2s (x:AO)
  | s2a (n:Nat) (x:AO)
  | mkif (t:TypeId) (x:AO)
  | mkfn (f:Fn) (first cap:List AO)
  | slice (k:SK) (sz:Nat) (x:AO) (lo hi mx:Option AO)
  | fadr (off:Nat) (x:AO)
  | fld (off sz:Nat) (agg:Bool) (x:AO)
  | iadr (arr:Option Nat) (sz:Nat) (x i:AO)
  | idxA (len sz:Nat) (agg:Bool) (x i:AO)
  | idxS (x i:AO)
  | ext (x:AO) (i:Nat)
  | lenS (x:AO)
  | lenL (x:AO)
  | mxmn (mx:Bool) (xs:List AO)
  | tas (t:TypeId) (zero:zaa) (ok:Bool) (x:AO)
inductive ROp where
  | ld (n:Nat) (agg:Bool) (x:AO)
  | b2s (x:AO)
  | mark (x:AO)
  | call (f:FuncId) (args:List AO)
  | inv (x:AO) (name:String) (args:List AO)
inductive COp where
  | alloc (zero:List zaa)
  | box (x:AO)
  | slit (sz len:Nat) (zero:List zaa) (parts:List (Nat × AO))
  | mk (sz:Nat) (zero:List zaa) (len:AO)
  | mkc (sz:Nat) (zero:List zaa) (len cap:AO)
  | st (n:Nat) (x y:AO)
  | app (sz:Nat) (ref:Bool) (x y:AO)
  | copy (sz:Nat) (x y:AO)
  | clear (zero:List zaa) (x:AO)
  | s2b (x:AO)
  | call (f:FuncId) (args:List AO)
  | callv (x:AO) (args:List AO)
  | inv (x:AO) (name:String) (args:List AO)
inductive AOp where
  | v (o:VOp)
  | r (o:ROp)
  | c (o:COp)
structure AI where
  dst:Option Nat
  op:AOp
  grd:Option (Nat × Bool):=none
  use:List Nat:=[]
  lo:Nat:=0
  hi:Nat:=0
inductive AC where
  | skip
  | reg (ops:List AI)
  | draw (ops:List AI)
  | draw2 (a b:List AI) (ag:List (Nat × Nat))
  | seq (a b:AC)
  | cond (c:AO) (a b:AC)
  | blk (id:Nat) (a:AC)
  | loop (a:AC)
  | exit (id:Nat)
  | scope (a:AC)
  | label (l:Nat)
  | goto (l:Nat)
  | ret
inductive zyd where
  | tmp (t:Nat)
  | cell (a n:Nat) (agg:Bool)
structure AFn where
  n:Nat
  code:AC
  res:List zyd
  pre:Option (AC × Nat × Nat × AC)
structure Mode where
  ro:Bool
  fz:Bool
  esc:Bool
  own:Bool:=false
  deriving DecidableEq,Inhabited
def Mode.pure:Mode:=⟨true,true,false,false⟩
structure Lim where
  rob:Nat
  rot:Nat
  nb:Nat
  nt:Nat
  deriving Inhabited
structure zJt where
  pre:Lim→List zaa→zab→Option ((zaa × zab) ⊕ (FuncId × List zaa × zab))
  post:List zaa→zaa→zab→Option (zaa × zab)
structure Ctx where
  fns:FuncId→Option AFn
  mode:FuncId→Mode
  glob:Nat→Option (List zaa)
  meth:TypeId→String→Option (List (Nat × Nat × Bool) × FuncId)
  ext:FuncId→Option zJt
  qinv:String→Bool:=fun _=>false
def Ctx.ev (C:Ctx) (fr:Fr):AO→zaa
  | .t n=>fr n
  | .k v=>v
  | .g n=>match C.glob n with | some cs=>.vptr cs 0 | none=>zaK
def upd (fr:Fr) (d:Nat) (v:zaa):Fr:=fun i=>if i=d then v else fr i
def put (fr:Fr):Option Nat→zaa→Fr
  | some d,v=>upd fr d v
  | none,_=>fr
def zi2 (use:List Nat) (fr:Fr):Fr:=fun i=>if use.contains i then fr i else zaK
def asI:zaa→Option Int
  | .int _ n=>some n
  | _=>none
def zsQ:CK→zaa→zaa→Option Bool
  | .i,.int k a,.int k' b=>if k=k' then some (a==b) else none
  | .b,.bool a,.bool b=>some (a==b)
  | .s,.str a,.str b=>some (a==b)
  | _,_,_=>none
def zbo:List CK→List zaa→List zaa→Option Bool
  | [],[],[]=>some true
  | k :: ks, x :: xs, y :: ys => do
    let a ← zsQ k x y
    let b ← zbo ks xs ys
    some (a&&b)
  | _,_,_=>none
def eqA (cls:zMA) (x y:zaa):Option Bool:=
  match cls,x,y with
  | .bool,.bool a,.bool b=>some (a==b)
  | .agg sh,.agg xs,.agg ys=>zbo sh xs ys
  | .ptr,.nilp,.nilp=>some true
  | .ptr,.nilp,.ptr ..=>some false
  | .ptr,.nilp,.vptr ..=>some false
  | .ptr,.ptr ..,.nilp=>some false
  | .ptr,.vptr ..,.nilp=>some false
  | .slc,.nsl,.nsl=>some true
  | .slc,.nsl,.sl ..=>some false
  | .slc,.sl ..,.nsl=>some false
  | .slc,.nsl,.vsl _ (_ :: _)=>some false
  | .slc,.vsl _ (_ :: _),.nsl=>some false
  | .slc,.nsl,.gsl _ (_ :: _)=>some false
  | .slc,.gsl _ (_ :: _),.nsl=>some false
  | .fn,.nfn,.nfn=>some true
  | .fn,.nfn,.fn ..=>some false
  | .fn,.fn ..,.nfn=>some false
  | .ifc,.nif,.nif=>some true
  | .ifc,.nif,.iface ..=>some false
  | .ifc,.iface ..,.nif=>some false
  | _,_,_=>none
def zgI (op:BinOp) (k:IntKind) (x y:Int):Option zaa:=
  match op with
  | .add=>some (.int k (k.wrap (x+y)))
  | .sub=>some (.int k (k.wrap (x - y)))
  | .mul=>some (.int k (k.wrap (x*y)))
  | .quo=>if y=0 then none else some (.int k (k.wrap (x.tdiv y)))
  | .rem=>if y=0 then none else some (.int k (x.tmod y))
  | .and=>some (.int k (k.wrap (BitVec.ofInt k.bits x&&&BitVec.ofInt k.bits y).toNat))
  | .or=>some (.int k (k.wrap (BitVec.ofInt k.bits x|||BitVec.ofInt k.bits y).toNat))
  | .xor=>some (.int k (k.wrap (BitVec.ofInt k.bits x ^^^ BitVec.ofInt k.bits y).toNat))
  | .andNot=>some (.int k (k.wrap (BitVec.ofInt k.bits x&&&~~~ (BitVec.ofInt k.bits y)).toNat))
  | .eql=>some (.bool (x==y))
  | .neq=>some (.bool (x !=y))
  | .lss=>some (.bool (decide (x < y)))
  | .leq=>some (.bool (decide (x≤y)))
  | .gtr=>some (.bool (decide (x > y)))
  | .geq=>some (.bool (decide (x≥y)))
  | _=>none
def zkP (op:BinOp) (k:IntKind) (x y:Int):Option zaa:=
  if y < 0 then none else
  match op with
  | .shl=>some (.int k (k.wrap (x*2 ^ (min y.toNat k.bits))))
  | .shr=>some (.int k (x.fdiv (2 ^ (min y.toNat k.bits))))
  | _=>none
def zew (op:BinOp) (x y:zaa):Option zaa:=
  match op,x,y with
  | .shl,.int k a,.int _ b=>zkP .shl k a b
  | .shr,.int k a,.int _ b=>zkP .shr k a b
  | op,.int k a,.int k' b=>if k=k' then zgI op k a b else none
  | .add,.str a,.str b=>if ((a.size+b.size:Nat):Int) > IntKind.i64.max then none else some (.str (a++b))
  | .eql,.str a,.str b=>some (.bool (a==b))
  | .neq,.str a,.str b=>some (.bool !(a==b))
  | _,_,_=>none
def unA (op:UnOp) (x:zaa):Option zaa:=
  match op,x with
  | .neg,.int k n=>some (.int k (k.wrap (0 - n)))
  | .xor,.int k n=>some (.int k (k.wrap (BitVec.ofInt k.bits (if k.signed then -1 else k.max) ^^^ BitVec.ofInt k.bits n).toNat))
  | .not,.bool b=>some (.bool !b)
  | _,_=>none
def zeb (agg:Bool) (cs:List zaa) (off sz:Nat):Option zaa:=
  if agg then (if off+sz≤cs.length then some (.agg ((cs.drop off).take sz)) else none) else cs[off]?
def setAt:List zaa→Nat→List zaa→List zaa
  | cs,_,[]=>cs
  | cs,off,v :: vs=>setAt (cs.set off v) (off+1) vs
def zaA (cells:List zaa):List (Nat × Nat × zaa)→Option (List zaa)
  | []=>some cells
  | (off,sz,v) :: rest=>
    if v.cells.length≠sz∨off+sz > cells.length∨v.okV=false then none else zaA (setAt cells off v.cells) rest
def chunks (sz:Nat):Nat→List zaa→List (List zaa)
  | 0,_=>[]
  | n+1,cs=>cs.take sz :: chunks sz n (cs.drop sz)
def rep (zero:List zaa):Nat→List zaa
  | 0=>[]
  | n+1=>zero++rep zero n
def zwy:zaa→Option Nat
  | .sl _ _ _ n _=>some n
  | .gsl _ es=>some es.length
  | .vsl _ es=>some es.length
  | .nsl=>some 0
  | _=>none
def zio (x:Option zaa) (dflt most:Nat):Option Nat:=
  match x with
  | none=>some dflt
  | some (.int _ i)=>if 0≤i∧i≤most then some i.toNat else none
  | _=>none
def zwz {α:Type} (l h:Nat) (es:List α):List α:=(es.take h).drop l
def zeH (sz:Nat):List (List zaa)→Bool
  | []=>true
  | e :: _=>e.length==sz
def zc0 (k:SK) (sz:Nat) (x:zaa) (lo hi mx:Option zaa):Option zaa:=
  match k,x with
  | .str, .str s => do
    if mx.isSome then none else
    let h ← zio hi s.size s.size
    let l ← zio lo 0 h
    some (.str (s.extract l h))
  | .slc, .nsl => do
    let m ← zio mx 0 0
    let h ← zio hi 0 m
    let _ ← zio lo 0 h
    some .nsl
  | .slc, .vsl c es => do
    let m ← zio mx es.length es.length
    let h ← zio hi es.length m
    let l ← zio lo 0 h
    if zeH sz es=true then some (.vsl ((mx.isSome&&h==m)||(c&&h==es.length)) (zwz l h es)) else none
  | .slc, .gsl _ es => do
    let m ← zio mx es.length es.length
    let h ← zio hi es.length m
    let l ← zio lo 0 h
    if zeH sz es=true then some (.vsl (mx.isSome&&h==m) (zwz l h es)) else none
  | .slc, .sl b off s n cap => do
    if s≠sz then none else
    let m ← zio mx (cap.getD n) (cap.getD n)
    let h ← zio hi n m
    let l ← zio lo 0 h
    if h=l then some (.vsl (mx.isSome&&m==l||mx.isNone&&cap==some l) []) else
    some (.sl b (off+l*sz) sz (h - l) (if mx.isSome then some (m - l) else cap.map (· - l)))
  | .arr n, .ptr b off => do
    let m ← zio mx n n
    let h ← zio hi n m
    let l ← zio lo 0 h
    if h=l then some (.vsl (m==l) []) else
    some (.sl b (off+l*sz) sz (h - l) (some (m - l)))
  | .arr n, .vptr cs off => do
    let m ← zio mx n n
    let h ← zio hi n m
    let l ← zio lo 0 h
    if off+n*sz≤cs.length then some (.vsl (h==m) (zwz l h (chunks sz n (cs.drop off)))) else none
  | _,_=>none
def zbP (arr:Option Nat) (sz:Nat) (x i:zaa):Option zaa:=do
  let i ← asI i
  match arr,x with
  | none,.sl b off s n _=>if s=sz∧0≤i∧i < n then some (.ptr b (off+i.toNat*sz)) else none
  | none,.gsl _ es=>if 0≤i then (es[i.toNat]?).bind fun e=>if e.length=sz then some (.vptr e 0) else none else none
  | none,.vsl _ es=>if 0≤i then (es[i.toNat]?).bind fun e=>if e.length=sz then some (.vptr e 0) else none else none
  | some n,.ptr b off=>if 0≤i∧i < n then some (.ptr b (off+i.toNat*sz)) else none
  | some n,.vptr cs off=>if 0≤i∧i < n then some (.vptr cs (off+i.toNat*sz)) else none
  | _,_=>none
def zOi (mx:Bool):zaa→zaa→Option zaa
  | .int k x,.int _ y=>some (.int k (if mx then (if y > x then y else x) else (if y < x then y else x)))
  | _,_=>none
def zrh (mx:Bool):zaa→List zaa→Option zaa
  | x,[]=>some x
  | x,y :: ys=>do zrh mx (← zOi mx x y) ys
def zb4 (C:Ctx) (fr:Fr):VOp→Option zaa
  | .mv x=>some (C.ev fr x)
  | .pick c a b=>match C.ev fr c with | .bool t=>some (if t then C.ev fr a else C.ev fr b) | _=>none
  | .boxv x=>if (C.ev fr x).okV then some (.vptr (C.ev fr x).cells 0) else none
  | .build zero parts=>do some (.agg (← zaA zero (parts.map fun p=>(p.1,p.2.1,C.ev fr p.2.2))))
  | .slit sz len zero parts=>do some (.vsl true (chunks sz len (← zaA (rep zero len) (parts.map fun p=>(p.1*sz,sz,C.ev fr p.2)))))
  | .nck x => match C.ev fr x with
    | .ptr b o=>some (.ptr b o)
    | .vptr cs o=>some (.vptr cs o)
    | .iface t v=>some (.iface t v)
    | _=>none
  | .bin op x y=>zew op (C.ev fr x) (C.ev fr y)
  | .eq cls neg x y=>(eqA cls (C.ev fr x) (C.ev fr y)).map fun b=>.bool (if neg then !b else b)
  | .un op x=>unA op (C.ev fr x)
  | .i2i k x=>match C.ev fr x with | .int _ n=>some (.int k (k.wrap n)) | _=>none
  | .s2s x=>match C.ev fr x with | .str s=>some (.str s) | _=>none
  | .s2a n x => match C.ev fr x with
    | .sl b off _ len _=>if n≤len then some (.ptr b off) else none
    | .vsl _ es=>if n≤es.length∧0 < n then some (.vptr (es.take n).flatten 0) else none
    | .gsl _ es=>if n≤es.length∧0 < n then some (.vptr (es.take n).flatten 0) else none
    | _=>none
  | .mkif t x=>some (.iface t (C.ev fr x))
  | .mkfn f first cap=>some (.fn f (first.map (C.ev fr)) (cap.map (C.ev fr)))
  | .slice k sz x lo hi mx=>zc0 k sz (C.ev fr x) (lo.map (C.ev fr)) (hi.map (C.ev fr)) (mx.map (C.ev fr))
  | .fadr off x => match C.ev fr x with
    | .ptr b o=>some (.ptr b (o+off))
    | .vptr cs o=>some (.vptr cs (o+off))
    | _=>none
  | .fld off sz agg x=>match C.ev fr x with | .agg cs=>zeb agg cs off sz | _=>none
  | .iadr arr sz x i=>zbP arr sz (C.ev fr x) (C.ev fr i)
  | .idxA len sz agg x i => match C.ev fr x, C.ev fr i with
    | .agg cs,.int _ i=>if 0≤i∧i < len then zeb agg cs (i.toNat*sz) sz else none
    | _,_=>none
  | .idxS x i => match C.ev fr x, C.ev fr i with
    | .str s,.int _ i=>if 0≤i then (s.data.toList[i.toNat]?).map fun b=>.int .u8 b.toNat else none
    | _,_=>none
  | .ext x i=>match C.ev fr x with | .tup vs=>vs[i]? | _=>none
  | .lenS x=>match C.ev fr x with | .str s=>some (.int .i64 s.size) | _=>none
  | .lenL x=>(zwy (C.ev fr x)).map fun (n:Nat)=>zaa.int .i64 (n:Int)
  | .mxmn mx xs=>match xs.map (C.ev fr) with | []=>none | x :: ys=>zrh mx x ys
  | .tas t zero ok x => match C.ev fr x with
    | .iface u v=>if u=t then some (if ok then .tup [v,.bool true] else v) else if ok then some (.tup [zero,.bool false]) else none
    | .nif=>if ok then some (.tup [zero,.bool false]) else none
    | _=>none
def zkn (h:zab) (x:zaa) (n:Nat) (agg:Bool):Option zaa:=
  match x with
  | .ptr b off=>(h.blks[b]?).bind fun cs=>zeb agg cs off n
  | .vptr cs off=>zeb agg cs off n
  | _=>none
def zay (h:zab) (sz:Nat):zaa→Option (List (List zaa))
  | .sl b off s n _ => if s ≠ sz then none else (h.blks[b]?).bind fun cs =>
      if off+n*sz≤cs.length then some (chunks sz n (cs.drop off)) else none
  | .gsl _ es=>some es
  | .vsl _ es=>some es
  | .nsl=>some []
  | .str s=>some (s.data.toList.map fun b=>[.int .u8 b.toNat])
  | _=>none
def zjE:List (List zaa)→Option (List UInt8)
  | []=>some []
  | [.int .u8 n] :: es=>do some (UInt8.ofNat n.toNat :: (← zjE es))
  | _=>none
mutual
def zaa.flat:zaa→Bool
  | .int .. | .bool _ | .str _ | .nilp | .nfn | .nif=>true
  | .agg cs=>zck cs
  | .tup cs=>zck cs
  | .iface _ v=>v.flat
  | _=>false
def zck:List zaa→Bool
  | []=>true
  | c :: cs=>c.flat&&zck cs
end
mutual
def zaa.under (nb nt:Nat):zaa→Bool
  | .int .. | .bool _ | .str _ | .nilp | .nsl | .nfn | .nif=>true
  | .ptr b _=>decide (b < nb)
  | .sl b _ _ _ _=>decide (b < nb)
  | .vptr cs _=>zap nb nt cs
  | .gsl t es=>decide (t < nt)&&zax nb nt es
  | .vsl _ es=>zax nb nt es
  | .fn _ a b=>zap nb nt a&&zap nb nt b
  | .iface _ v=>v.under nb nt
  | .agg cs=>zap nb nt cs
  | .tup cs=>zap nb nt cs
def zap (nb nt:Nat):List zaa→Bool
  | []=>true
  | c :: cs=>c.under nb nt&&zap nb nt cs
def zax (nb nt:Nat):List (List zaa)→Bool
  | []=>true
  | e :: es=>zap nb nt e&&zax nb nt es
end
def zK7 (f:zaa→Option zaa) (nb nt:Nat) (cs:List zaa):Option (List zaa):=if zap nb nt cs=true then some cs else cs.mapM f
def zCB (f:zaa→Option zaa) (nb nt:Nat) (es:List (List zaa)):Option (List (List zaa)):=if zax nb nt es=true then some es else es.mapM fun e=>e.mapM f
def frz (h:zab) (nb nt:Nat):Nat→zaa→Option zaa
  | 0,_=>none
  | n + 1, v => match v with
    | .nsl=>some (.vsl false [])
    | .ptr b off=>if b < nb then some (.ptr b off) else (h.blks[b]?).bind fun cs=>(zK7 (frz h nb nt n) nb nt cs).map fun cs=>.vptr cs off
    | .vptr cs off=>(zK7 (frz h nb nt n) nb nt cs).map fun cs=>.vptr cs off
    | .sl b off sz m cap=>if b < nb then some (.sl b off sz m cap) else (zay h sz (.sl b off sz m cap)).bind fun es=>(zCB (frz h nb nt n) nb nt es).map fun es=>.vsl false es
    | .gsl t es=>(zCB (frz h nb nt n) nb nt es).map fun es=>if t < nt then .gsl t es else .vsl false es
    | .vsl _ es=>(zCB (frz h nb nt n) nb nt es).map fun es=>.vsl false es
    | .fn f a b=>if zap nb nt a=true∧zap nb nt b=true then some (.fn f a b) else none
    | .iface t v=>(frz h nb nt n v).map (.iface t)
    | .agg cs=>if zck cs=true then some (.agg cs) else (cs.mapM (frz h nb nt n)).map .agg
    | .tup cs=>(cs.mapM (frz h nb nt n)).map .tup
    | v=>some v
mutual
def fzA (h:zab):zaa→Option (zaa × Bool)
  | .sl b off sz n cap=>do some (.vsl false (← zay h sz (.sl b off sz n cap)),true)
  | .gsl _ es=>some (.vsl false es,false)
  | .vsl _ es=>some (.vsl false es,false)
  | .nsl=>some (.vsl false [],false)
  | .agg cs => if zck cs then some (.agg cs, false) else do
      let l ← zgK h cs
      some (.agg l.1,l.2)
  | v=>some (v,false)
def zgK (h:zab):List zaa→Option (List zaa × Bool)
  | []=>some ([],false)
  | x :: xs => do
    let a ← fzA h x
    let b ← zgK h xs
    some (a.1 :: b.1,a.2||b.2)
end
def swI (p b:Nat):Nat:=if b=p then p+1 else if b=p+1 then p else b
inductive SwV (p nt:Nat):zaa→zaa→Prop
  | same (v:zaa) (h:v.under p nt=true):SwV p nt v v
  | ptr (b off:Nat):SwV p nt (.ptr (swI p b) off) (.ptr b off)
  | sl (b off sz n:Nat) (cap:Option Nat):SwV p nt (.sl (swI p b) off sz n cap) (.sl b off sz n cap)
inductive SwL (p nt:Nat):List zaa→List zaa→Prop
  | nil:SwL p nt [] []
  | cons (a b:zaa) (as bs:List zaa) (h:SwV p nt a b) (t:SwL p nt as bs):SwL p nt (a :: as) (b :: bs)
def zQQ (h:zab) (ds:List Nat) (frA frB:Fr) (hA hB:zab):Prop:=
  (hA=hB∧∀ t∈ds,frA t=frB t)∨
  ∃ a b a' b',hA=⟨h.blks++[a,b],h.toks⟩∧hB=⟨h.blks++[b',a'],h.toks⟩∧a≠[]∧b≠[]∧SwL h.blks.length h.toks.length a a'∧
    SwL h.blks.length h.toks.length b b'∧∀ t∈ds,SwV h.blks.length h.toks.length (frA t) (frB t)
end Go.Av
namespace Go.Av
def zat:Nat:=2 ^ 38
def zcx (L:Lim) (h:zab) (x:zaa) (cs:List zaa):Option zab:=
  match x with
  | .ptr b off => (h.blks[b]?).bind fun old =>
      if L.rob≤b∧off+cs.length≤old.length∧(L.nb≤b∨zap 0 0 cs=true) then some {h with blks:=h.blks.set b (setAt old off cs)} else none
  | _=>none
def push (h:zab) (cs:List zaa):zab:={h with blks:=h.blks++[cs]}
def ptok (h:zab) (n:Nat):zab:={h with toks:=h.toks++[n]}
def zeD (ref:Bool) (sz:Nat) (h:zab) (es:List (List zaa)):zaa × zab:=
  if ref then (.sl h.blks.length 0 sz es.length none,push h es.flatten) else (.gsl h.toks.length es,ptok h es.length)
def zCr (L:Lim) (ref:Bool) (sz:Nat) (h:zab) (x:zaa) (ys:List (List zaa)):Option (zaa × zab):=
  if zeH sz ys=true then
    match x with
    | .nsl=>if ys=[] then some (.nsl,h) else if ys.length < zat then some (zeD ref sz h ys) else none
    | .vsl true es=>if zeH sz es=true then (if ys=[] then some (.vsl true es,h) else if es.length+ys.length < zat then some (zeD ref sz h (es++ys)) else none) else none
    | .sl b off s n (some c) => if c = n ∧ s = sz then (zay h sz (.sl b off s n (some c))).bind fun es =>
        if ys=[] then some (.sl b off s n (some c),h) else if es.length+ys.length < zat then some (zeD ref sz h (es++ys)) else none
      else if s=sz∧n+ys.length≤c then (zcx L h (.ptr b (off+n*sz)) ys.flatten).map fun h=>(.sl b off sz (n+ys.length) (some c),h)
      else none
    | .sl b off s n none => if ref = true ∧ off = 0 ∧ s = sz ∧ 0 < n ∧ 0 < sz ∧ L.rob ≤ b then (zay h sz (.sl b off s n none)).bind fun es =>
        if ys=[] then some (.sl b off s n none,h) else if es.length+ys.length < zat then
          some (.sl h.blks.length 0 sz (es.length+ys.length) none,push {h with blks:=h.blks.set b []} (es++ys).flatten) else none
      else none
    | .gsl t es => if ref = false ∧ es ≠ [] ∧ zeH sz es = true ∧ L.rot ≤ t ∧ h.toks[t]? = some es.length ∧ es.length + ys.length < zat then
        some (.gsl t (es++ys),{h with toks:=h.toks.set t (es.length+ys.length)}) else none
    | _=>none
  else none
def zeo (sz:Nat):zaa→Bool
  | .str _=>sz==1
  | _=>true
def zhZ (C:Ctx) (L:Lim) (fr:Fr) (h:zab):COp→Option (zaa × zab)
  | .alloc zero=>some (.ptr h.blks.length 0,push h zero)
  | .box x=>if (C.ev fr x).okV then some (.ptr h.blks.length 0,push h (C.ev fr x).cells) else none
  | .slit sz len zero parts => do
      let cs ← zaA (rep zero len) (parts.map fun p=>(p.1*sz,sz,C.ev fr p.2))
      some (.sl h.blks.length 0 sz len (some len),push h cs)
  | .mk sz zero len => match C.ev fr len with
    | .int _ n=>if 0≤n∧n < zat then some (.sl h.blks.length 0 sz n.toNat (some n.toNat),push h (rep zero n.toNat)) else none
    | _=>none
  | .mkc sz zero len cap => match C.ev fr len, C.ev fr cap with
    | .int _ n,.int _ m=>if 0≤n∧n≤m∧m < zat then some (.sl h.blks.length 0 sz n.toNat (some m.toNat),push h (rep zero m.toNat)) else none
    | _,_=>none
  | .st n x y => let cs := (C.ev fr y).cells
      if cs.length=n∧(C.ev fr y).okV=true then (zcx L h (C.ev fr x) cs).map fun h=>(zaK,h) else none
  | .app sz ref x y => do
      let ys ← zay h sz (C.ev fr y)
      if zeo sz (C.ev fr y)=true then zCr L ref sz h (C.ev fr x) ys else none
  | .copy sz x y => do
      let es ← zay h sz (C.ev fr y)
      if zeH sz es=true∧zeo sz (C.ev fr y)=true then
        match C.ev fr x with
        | .sl b off s n _ => if s = sz then
            let k:=min es.length n
            (zcx L h (.ptr b off) (es.take k).flatten).map fun h=>(.int .i64 k,h) else none
        | _=>none
      else none
  | .clear zero x => match C.ev fr x with
    | .sl b off s n _=>if s=zero.length then (zcx L h (.ptr b off) (rep zero n)).map fun h=>(.tup [],h) else none
    | _=>none
  | .s2b x => match C.ev fr x with
    | .str s=>some (.gsl h.toks.length (s.data.toList.map fun b=>[.int .u8 b.toNat]),ptok h s.size)
    | _=>none
  | _=>none
def zzX (C:Ctx) (fr:Fr) (h:zab):ROp→Option zaa
  | .ld n agg x=>zkn h (C.ev fr x) n agg
  | .b2s x => do
      let es ← zay h 1 (C.ev fr x)
      some (.str ⟨(← zjE es).toArray⟩)
  | .mark x => match C.ev fr x with
    | .sl b off sz n c=>some (.sl b off sz n c)
    | _=>none
  | _=>none
inductive AEx where
  | normal | exit (id:Nat) | goto (l:Nat) | ret
  deriving DecidableEq
def zep:AC→Nat→Option AC
  | .seq a b,l=>
    match zep a l with
    | some rest=>some (.seq rest b)
    | none=>zep b l
  | .label l',l=>if l'==l then some .skip else none
  | _,_=>none
def zc3 (m:Mode) (L:Lim) (h:zab):Lim:=
  if m.esc then L else if m.ro then ⟨h.blks.length,h.toks.length,h.blks.length,h.toks.length⟩ else ⟨L.rob,L.rot,h.blks.length,h.toks.length⟩
def zdW (h:zab) (nb nt:Nat):zab:=⟨h.blks.take nb,h.toks.take nt⟩
def ztz (m:Mode) (h h1:zab) (v:zaa):Option (zaa × zab):=
  if m.esc then some (v,h1) else
  let back:=if m.ro then h else zdW h1 h.blks.length h.toks.length
  let plain:=(frz h1 h.blks.length h.toks.length 12 v).map fun v=>(v,back)
  if m.own then
    match v with
    | .gsl t es => if h.toks.length ≤ t ∧ h1.toks[t]? = some es.length ∧ zax h.blks.length h.toks.length es = true then
        some (.gsl h.toks.length es,ptok back es.length) else plain
    | _=>plain
  else plain
def zrL (fr:Fr) (h:zab):List zyd→Option (List zaa)
  | []=>some []
  | .tmp t :: rs=>do some (fr t :: (← zrL fr h rs))
  | .cell a n agg :: rs=>do some ((← zkn h (fr a) n agg) :: (← zrL fr h rs))
def zyv:List zaa→zaa
  | [v]=>v
  | vs=>.tup vs
def ziu (m:Mode) (h:zab) (args:List zaa):Option (List zaa × Bool):=if m.fz&&m.ro&&!m.esc then zgK h args else some (args,false)
def zbs (fr:Fr):Option (Nat × Bool)→Bool
  | none=>true
  | some (t,want)=>match fr t with | .bool b=>b==want | _=>false
def zcr:List (Nat × Nat × Bool)→zaa→Option zaa
  | [],v=>some v
  | (off,sz,agg) :: rest,.agg cs=>(zeb agg cs off sz).bind (zcr rest)
  | _ :: _,_=>none
def zac (C:Ctx) (f:FuncId):Bool:=(C.mode f).ro&&!(C.mode f).esc&&!(C.mode f).own&&(C.ext f).isNone
def zgR:List AI→List Nat
  | []=>[]
  | i :: is=>match i.dst with | some d=>d :: zgR is | none=>zgR is
def zFp (h:zab) (a:List AI) (ag:List (Nat × Nat)) (rA rB:Fr × List zab × List zaa):Prop:=
  zQQ h (zgR a) rA.1 rB.1 (rA.2.1.getLastD h) (rB.2.1.getLastD h)∧∀ q∈ag,rA.2.2[q.1]?=rB.2.2[q.2]?
def zt3 (m:Mode) (F:AFn) (a:List zaa × Bool) (h:zab) (r:AEx × Fr × zab):Option (zaa × zab):=
  if (r.1=.normal∨r.1=.ret)∧a.1.length≤F.n then
    (zrL r.2.1 r.2.2 F.res).bind fun vs=>(ztz m h r.2.2 (zyv vs)).bind fun o=>if (a.2&&!o.1.flat)=true then none else some o
  else none
def zqU (x:zaa):Option (Option Bool):=match eqA .slc x .nsl with
  | some b=>some (some b)
  | none => match x with
    | .vsl _ []=>some none
    | _=>none
def zCC (q:AC × Nat × Nat × AC) (fr:Fr) (b:Bool):Fr:=upd (upd fr q.2.1 (fr 0)) q.2.2.1 (.bool b)
open Classical in
mutual
noncomputable def zag (C:Ctx) (L:Lim) (f:FuncId) (args:List zaa) (h:zab):Option (zaa × zab):=
  match C.ext f with
  | some g => do
    let q ← g.pre L args h
    match q with
    | .inl r=>some r
    | .inr q => do
      let r ← zag C L q.1 q.2.1 q.2.2
      g.post args r.1 r.2
  | none => do
    let F ← C.fns f
    let a ← ziu (C.mode f) h args
    match F.pre with
    | none => do
      let r ← run C (zc3 (C.mode f) L h) F.code (fun i=>a.1.getD i zaK) h
      zt3 (C.mode f) F a h r
    | some q => do
      let r0 ← run C (zc3 (C.mode f) L h) q.1 (fun i=>a.1.getD i zaK) h
      if r0.1=.normal then do
        let nb ← zqU (r0.2.1 0)
        match nb with
        | some b => do
          let r1 ← run C (zc3 (C.mode f) L h) q.2.2.2 (zCC q r0.2.1 b) r0.2.2
          match r1.1 with
          | .normal => do
            let r ← run C (zc3 (C.mode f) L h) F.code r1.2.1 r1.2.2
            zt3 (C.mode f) F a h r
          | _=>zt3 (C.mode f) F a h r1
        | none => do
          let t1 ← run C (zc3 (C.mode f) L h) q.2.2.2 (zCC q r0.2.1 true) r0.2.2
          let u1 ← run C (zc3 (C.mode f) L h) q.2.2.2 (zCC q r0.2.1 false) r0.2.2
          if t1.1=.ret∧u1.1=.normal then do
            let u ← run C (zc3 (C.mode f) L h) F.code u1.2.1 u1.2.2
            if zt3 (C.mode f) F a h t1=zt3 (C.mode f) F a h u then zt3 (C.mode f) F a h u else none
          else none
      else none
  partial_fixpoint
noncomputable def run (C:Ctx) (L:Lim) (c:AC) (fr:Fr) (h:zab):Option (AEx × Fr × zab):=
  match c with
  | .skip=>some (.normal,fr,h)
  | .label _=>some (.normal,fr,h)
  | .reg ops=>do let r ← zqs C L ops fr h;some (.normal,r.1,r.2)
  | .draw ops => do
      let r ← zld C L ops fr h
      let _ ← zpF C L ops r.2.2 fr (h :: r.2.1)
      some (.normal,r.1,r.2.1.getLastD h)
  | .draw2 a b ag => do
      let rA ← zld C L a fr h
      let _ ← zpF C L a rA.2.2 fr (h :: rA.2.1)
      let rB ← zld C L b fr h
      let _ ← zpF C L b rB.2.2 fr (h :: rB.2.1)
      if zFp h a ag rA rB then some (.normal,rA.1,rA.2.1.getLastD h) else none
  | .seq a b => do
      let r ← run C L a fr h
      match r.1 with
      | .normal=>run C L b r.2.1 r.2.2
      | _=>some r
  | .cond c a b => match C.ev fr c with
      | .bool true=>run C L a fr h
      | .bool false=>run C L b fr h
      | _=>none
  | .blk id a => do
      let r ← run C L a fr h
      if r.1=.exit id then some (.normal,r.2) else some r
  | .loop a => do
      let r ← run C L a fr h
      match r.1 with
      | .normal=>run C L (.loop a) r.2.1 r.2.2
      | _=>some r
  | .exit id=>some (.exit id,fr,h)
  | .scope a => do
      let r ← run C L a fr h
      zuR C L a r.1 r.2.1 r.2.2
  | .goto l=>some (.goto l,fr,h)
  | .ret=>some (.ret,fr,h)
  partial_fixpoint
noncomputable def zuR (C:Ctx) (L:Lim) (a:AC) (e:AEx) (fr:Fr) (h:zab):Option (AEx × Fr × zab):=
  match e with
  | .goto l => match zep a l with
    | some rest => do
      let r ← run C L rest fr h
      zuR C L a r.1 r.2.1 r.2.2
    | none=>some (e,fr,h)
  | _=>some (e,fr,h)
  partial_fixpoint
noncomputable def zku (C:Ctx) (L:Lim) (o:ROp) (fr:Fr) (h:zab):Option zaa:=
  match o with
  | .call f args => if zac C f then do
      let r ← zag C L f (args.map (C.ev fr)) h
      some r.1 else none
  | .inv x name args => match C.ev fr x with
    | .iface t v => match C.meth t name with
      | some (path, f) => match zcr path v with
        | some r => if zac C f then do
          let q ← zag C L f (r :: args.map (C.ev fr)) h
          some q.1 else none
        | none=>none
      | none=>none
    | _=>none
  | o=>zzX C fr h o
  partial_fixpoint
noncomputable def zgc (C:Ctx) (L:Lim) (o:COp) (fr:Fr) (h:zab):Option (zaa × zab):=
  match o with
  | .call f args=>zag C L f (args.map (C.ev fr)) h
  | .callv x args => match C.ev fr x with
    | .fn (.func f) first cap=>zag C L f (first++args.map (C.ev fr)++cap) h
    | _=>none
  | .inv x name args => match C.ev fr x with
    | .iface t v => match C.meth t name with
      | some (path, f) => match zcr path v with
        | some r=>zag C L f (r :: args.map (C.ev fr)) h
        | none=>none
      | none=>none
    | _=>none
  | o=>zhZ C L fr h o
  partial_fixpoint
noncomputable def step1 (C:Ctx) (L:Lim) (o:AOp) (fr:Fr) (h:zab):Option (zaa × zab):=
  match o with
  | .v o => match zb4 C fr o with
    | some v=>some (v,h)
    | none=>none
  | .r o=>do let v ← zku C L o fr h;some (v,h)
  | .c o=>zgc C L o fr h
  partial_fixpoint
noncomputable def zqs (C:Ctx) (L:Lim) (ops:List AI) (fr:Fr) (h:zab):Option (Fr × zab):=
  match ops with
  | []=>some (fr,h)
  | i :: rest => if zbs fr i.grd then do
      let r ← step1 C L i.op fr h
      zqs C L rest (put fr i.dst r.1) r.2
    else zqs C L rest (put fr i.dst zaK) h
  partial_fixpoint
noncomputable def zld (C:Ctx) (L:Lim) (ops:List AI) (fr:Fr) (h:zab):Option (Fr × List zab × List zaa):=
  match ops with
  | []=>some (fr,[],[])
  | i :: rest => if zbs fr i.grd then do
      let r ← step1 C L i.op (zi2 i.use fr) h
      let q ← zld C L rest (put fr i.dst r.1) r.2
      some (q.1,(match i.op with | .c _=>r.2 :: q.2.1 | _=>q.2.1),r.1 :: q.2.2)
    else do
      let q ← zld C L rest (put fr i.dst zaK) h
      some (q.1,(match i.op with | .c _=>h :: q.2.1 | _=>q.2.1),zaK :: q.2.2)
  partial_fixpoint
noncomputable def zpF (C:Ctx) (L:Lim) (ops:List AI) (vs:List zaa) (fr:Fr) (hs:List zab):Option Unit:=
  match ops with
  | []=>some ()
  | i :: rest => match vs with
    | v :: vs => match i.op with
      | .r o => if zbs fr i.grd && decide (i.lo < i.hi) then do
          let _ ← zCD C L o (zi2 i.use fr) ((hs.take (i.hi+1)).drop i.lo) v
          zpF C L rest vs (put fr i.dst v) hs
        else zpF C L rest vs (put fr i.dst v) hs
      | _=>zpF C L rest vs (put fr i.dst v) hs
    | []=>none
  partial_fixpoint
noncomputable def zCD (C:Ctx) (L:Lim) (o:ROp) (fr:Fr) (hs:List zab) (v:zaa):Option Unit:=
  match hs with
  | []=>some ()
  | h :: hs => do
      let u ← zku C L o fr h
      if u=v then zCD C L o fr hs v else none
  partial_fixpoint
end
end Go.Av
namespace Go.Av
structure St where
  w:World
  h:zab
  mb:List Nat
  mt:List (Nat × Nat)
  qb:Nat
  qt:Nat
def Imm (s:St) (X o:Nat):Prop:=
  (∀ b:Nat,s.qb≤b→s.mb[b]?=some X→s.h.blks[b]?=some [])∧(∀ t sz n:Nat,s.qt≤t→s.mt[t]?=some (X,sz)→s.h.toks[t]?=some n→o < n*sz)
def _root_.Go.World.at (w:World) (X o:Nat):Option Value:=w.cell? ⟨X,o,none⟩
def zEo (w:World) (X n c:Nat):Prop:=
  ∃ vs e fz,w.heap[X]?=some (.cells vs e fz)∧c≤vs.size∧∀ i,n≤i→i < c→¬(fz.1≤i∧i < fz.2)
mutual
inductive Rep (s:St):zaa→Value→Prop
  | int (k:IntKind) (n:Int):Rep s (.int k n) (.int k n)
  | bool (b:Bool):Rep s (.bool b) (.bool b)
  | str (x:ByteArray):Rep s (.str x) (.string x)
  | nilp:Rep s .nilp (.pointer none)
  | ptr (b off X:Nat) (h:s.mb[b]?=some X):Rep s (.ptr b off) (.pointer (some ⟨X,off,none⟩))
  | vptr (cs:List zaa) (off X o:Nat) (h:ze3 s X o cs):Rep s (.vptr cs off) (.pointer (some ⟨X,o+off,none⟩))
  | sl (b off sz n c X:Nat) (cap:Option Nat) (h:s.mb[b]?=some X) (hc:n≤c) (hcap:∀ k,cap=some k→k=c)
      (hk:cap=none→∃ vs e fz,s.w.heap[X]?=some (Obj.cells vs e fz)∧off+c*sz≤vs.size):
      Rep s (.sl b off sz n cap) (.slice (some ⟨X,off,none⟩) n c)
  | gsl (t:Nat) (es:List (List zaa)) (X o sz c m n:Nat) (h:zg1 s X sz o es) (hc:n≤c) (hn:n=es.length) (ht:s.h.toks[t]?=some m) (hm:n≤m)
      (hv:m=n→s.mt[t]?=some (X,sz)∧o=0∧zEo s.w X (n*sz) (c*sz)):
      Rep s (.gsl t es) (.slice (some ⟨X,o,none⟩) n c)
  | vsl (clip:Bool) (es:List (List zaa)) (X o sz c n:Nat) (h:zg1 s X sz o es) (hn:n=es.length) (hc:n≤c) (hcl:clip=true→c=n):
      Rep s (.vsl clip es) (.slice (some ⟨X,o,none⟩) n c)
  | vsl0 (clip:Bool) (a:Option Addr) (c:Nat) (hcl:clip=true→c=0) (hz:a=none→c=0):Rep s (.vsl clip []) (.slice a 0 c)
  | nsl:Rep s .nsl (.slice none 0 0)
  | fn (f:Fn) (a b:List zaa) (a' b':Array Value) (ha:zbz s a a'.toList) (hb:zbz s b b'.toList):Rep s (.fn f a b) (.func f a' b')
  | nfn:Rep s .nfn .nilFunc
  | iface (t:TypeId) (v:zaa) (v':Value) (h:Rep s v v'):Rep s (.iface t v) (.iface t v')
  | nif:Rep s .nif .nilIface
  | agg (cs:List zaa) (vs:Array Value) (h:zbz s cs vs.toList) (hc:∀ c∈cs,c.isCell=true):Rep s (.agg cs) (.agg vs)
  | tup (cs:List zaa) (vs:Array Value) (h:zbz s cs vs.toList):Rep s (.tup cs) (.tuple vs)
inductive zbz (s:St):List zaa→List Value→Prop
  | nil:zbz s [] []
  | cons (x:zaa) (y:Value) (xs:List zaa) (ys:List Value) (h:Rep s x y) (ht:zbz s xs ys):zbz s (x :: xs) (y :: ys)
inductive ze3 (s:St):Nat→Nat→List zaa→Prop
  | nil (X o:Nat):ze3 s X o []
  | cons (X o:Nat) (c:zaa) (cs:List zaa) (v:Value) (hv:World.at s.w X o=some v) (hi:Imm s X o) (hk:c.isCell=true) (h:Rep s c v)
      (ht:ze3 s X (o+1) cs):ze3 s X o (c :: cs)
inductive zg1 (s:St):Nat→Nat→Nat→List (List zaa)→Prop
  | nil (X sz o:Nat):zg1 s X sz o []
  | cons (X sz o:Nat) (e:List zaa) (es:List (List zaa)) (hl:e.length=sz) (h:ze3 s X o e) (ht:zg1 s X sz (o+sz) es):zg1 s X sz o (e :: es)
end
structure Le0 (s s':St):Prop where
  blocks:∀ (X:Nat) vs e fz,s.w.heap[X]?=some (Obj.cells vs e fz)→∃ vs' fz',s'.w.heap[X]?=some (Obj.cells vs' e fz')∧vs'.size=vs.size∧
    ∀ i,i < vs.size→¬(fz.1≤i∧i < fz.2)→¬(fz'.1≤i∧i < fz'.2)
  cells:∀ (X o:Nat) (v:Value),Imm s X o→World.at s.w X o=some v→Imm s' X o∧World.at s'.w X o=some v
  mb:∀ (b X:Nat),s.mb[b]?=some X→s'.mb[b]?=some X
  mt:∀ (t n:Nat),s.h.toks[t]?=some n→∃ n',s'.h.toks[t]?=some n'∧n≤n'∧(n'=n→s'.mt[t]?=s.mt[t]?)
def Trk (s:St) (X:Nat):Prop:=(∃ b:Nat,s.mb[b]?=some X)∨∃ t z:Nat,s.mt[t]?=some (X,z)
structure Kept (s s':St):Prop where
  os:s'.w.os=s.w.os
  tape:s'.w.tape=s.w.tape
  out:s'.w.output=s.w.output
  size:s.w.heap.size≤s'.w.heap.size
  trk:∀ X,X < s.w.heap.size→Trk s' X→Trk s X
  heap:∀ X:Nat,X < s.w.heap.size→¬Trk s X→s'.w.heap[X]?=s.w.heap[X]?
theorem Kept.refl (s:St):Kept s s:=⟨rfl,rfl,rfl,Nat.le_refl _,fun _ _ h=>h,fun _ _ _=>rfl⟩
theorem Kept.trans {a b c:St} (h:Kept a b) (k:Kept b c):Kept a c:=
  ⟨k.os.trans h.os, k.tape.trans h.tape, k.out.trans h.out, Nat.le_trans h.size k.size, fun X hX ht => h.trk X hX (k.trk X (Nat.lt_of_lt_of_le hX h.size) ht),
    fun X hX ht=>(k.heap X (Nat.lt_of_lt_of_le hX h.size) fun hb=>ht (h.trk X hX hb)).trans (h.heap X hX ht)⟩
structure Ext (w w':World):Prop where
  os:w'.os=w.os
  tape:w'.tape=w.tape
  out:w'.output=w.output
  size:w.heap.size≤w'.heap.size
  heap:∀ X:Nat,X < w.heap.size→w'.heap[X]?=w.heap[X]?
structure Le (s s':St):Prop where
  qb:s'.qb=s.qb
  qt:s'.qt=s.qt
  blocks:∀ (X:Nat) vs e fz,s.w.heap[X]?=some (Obj.cells vs e fz)→∃ vs' fz',s'.w.heap[X]?=some (Obj.cells vs' e fz')∧vs'.size=vs.size∧
    ∀ i,i < vs.size→¬(fz.1≤i∧i < fz.2)→¬(fz'.1≤i∧i < fz'.2)
  cells:∀ (X o:Nat) (v:Value),Imm s X o→World.at s.w X o=some v→Imm s' X o∧World.at s'.w X o=some v
  mb:∀ (b X:Nat),s.mb[b]?=some X→s'.mb[b]?=some X
  mt:∀ (t n:Nat),s.h.toks[t]?=some n→∃ n',s'.h.toks[t]?=some n'∧n≤n'∧(n'=n→s'.mt[t]?=s.mt[t]?)
  kept:Kept s s'
theorem Le.le0 {s s':St} (h:Le s s'):Le0 s s':=⟨h.blocks,h.cells,h.mb,h.mt⟩
theorem Le.refl (s:St):Le s s:=
  ⟨rfl,rfl,fun _ vs _ fz h=>⟨vs,fz,h,rfl,fun _ _ h=>h⟩,fun _ _ _ h h'=>⟨h,h'⟩,fun _ _ h=>h,fun _ n h=>⟨n,h,Nat.le_refl _,fun _=>rfl⟩,.refl s⟩
theorem Le.trans {a b c:St} (h:Le a b) (k:Le b c):Le a c where
  qb:=k.qb.trans h.qb
  qt:=k.qt.trans h.qt
  kept:=h.kept.trans k.kept
  blocks X vs e fz hx:=by
    obtain ⟨v1,f1,h1,e1,g1⟩:=h.blocks X vs e fz hx
    obtain ⟨v2,f2,h2,e2,g2⟩:=k.blocks X v1 e f1 h1
    exact ⟨v2,f2,h2,e2.trans e1,fun i hi hf=>g2 i (by omega) (g1 i hi hf)⟩
  cells X o v hi hv:=by
    obtain ⟨h1,h2⟩:=h.cells X o v hi hv
    exact k.cells X o v h1 h2
  mb b X hb:=k.mb b X (h.mb b X hb)
  mt t n hn:=by
    obtain ⟨n1,h1,l1,e1⟩:=h.mt t n hn
    obtain ⟨n2,h2,l2,e2⟩:=k.mt t n1 h1
    refine ⟨n2,h2,Nat.le_trans l1 l2,fun e=>?_⟩
    have:n1=n:=by omega
    subst this
    rw [e2 e,e1 rfl]
theorem zEo.le0 {s s':St} (hl:Le0 s s') {X n c:Nat} (h:zEo s.w X n c):zEo s'.w X n c:=by
  obtain ⟨vs,e,fz,h1,h2,h3⟩:=h
  obtain ⟨vs',fz',h1',hs,hf⟩:=hl.blocks _ _ _ _ h1
  exact ⟨vs',e,fz',h1',by omega,fun i a b=>hf i (by omega) (h3 i a b)⟩
mutual
theorem Rep.le0 {s s':St} (hl:Le0 s s') {v:zaa} {x:Value}:Rep s v x→Rep s' v x
  | .int k n=>.int k n
  | .bool b=>.bool b
  | .str x=>.str x
  | .nilp=>.nilp
  | .ptr b off X h=>.ptr b off X (hl.mb _ _ h)
  | .vptr cs off X o h=>.vptr cs off X o (ze3.le0 hl h)
  | .sl b off sz n c X cap h hc hcap hk => .sl b off sz n c X cap (hl.mb _ _ h) hc hcap fun e => by
    obtain ⟨vs,e0,fz,h1,h2⟩:=hk e
    obtain ⟨vs',fz',h3,h4,_⟩:=hl.blocks _ _ _ _ h1
    exact ⟨vs',e0,fz',h3,by omega⟩
  | .gsl t es X o sz c m n h hc hn ht hm hv => by
    obtain ⟨m',ht',hle,heq⟩:=hl.mt t m ht
    refine .gsl t es X o sz c m' n (zg1.le0 hl h) hc hn ht' (by omega) (fun e=>?_)
    have e0:m=n:=by omega
    obtain ⟨a,b,d⟩:=hv e0
    exact ⟨by rw [heq (by omega)];exact a,b,d.le0 hl⟩
  | .vsl clip es X o sz c n h hn hc hcl=>.vsl clip es X o sz c n (zg1.le0 hl h) hn hc hcl
  | .vsl0 clip a c hcl hz=>.vsl0 clip a c hcl hz
  | .nsl=>.nsl
  | .fn f a b a' b' ha hb=>.fn f a b a' b' (zbz.le0 hl ha) (zbz.le0 hl hb)
  | .nfn=>.nfn
  | .iface t v v' h=>.iface t v v' (Rep.le0 hl h)
  | .nif=>.nif
  | .agg cs vs h hc=>.agg cs vs (zbz.le0 hl h) hc
  | .tup cs vs h=>.tup cs vs (zbz.le0 hl h)
theorem zbz.le0 {s s':St} (hl:Le0 s s') {v:List zaa} {x:List Value}:zbz s v x→zbz s' v x
  | .nil=>.nil
  | .cons x y xs ys h ht=>.cons x y xs ys (Rep.le0 hl h) (zbz.le0 hl ht)
theorem ze3.le0 {s s':St} (hl:Le0 s s') {X o:Nat} {v:List zaa}:ze3 s X o v→ze3 s' X o v
  | .nil X o=>.nil X o
  | .cons X o c cs v hv hi hk h ht=>.cons X o c cs v (hl.cells _ _ _ hi hv).2 (hl.cells _ _ _ hi hv).1 hk (Rep.le0 hl h) (ze3.le0 hl ht)
theorem zg1.le0 {s s':St} (hl:Le0 s s') {X sz o:Nat} {v:List (List zaa)}:zg1 s X sz o v→zg1 s' X sz o v
  | .nil X sz o=>.nil X sz o
  | .cons X sz o e es hl' h ht=>.cons X sz o e es hl' (ze3.le0 hl h) (zg1.le0 hl ht)
end
theorem Rep.le {s s':St} (hl:Le s s') {v:zaa} {x:Value} (h:Rep s v x):Rep s' v x:=h.le0 hl.le0
theorem zbz.le {s s':St} (hl:Le s s') {v:List zaa} {x:List Value} (h:zbz s v x):zbz s' v x:=h.le0 hl.le0
theorem zg1.le {s s':St} (hl:Le s s') {X sz o:Nat} {v:List (List zaa)} (h:zg1 s X sz o v):zg1 s' X sz o v:=h.le0 hl.le0
theorem zbz.length {s:St}:∀ {xs:List zaa} {ys:List Value},zbz s xs ys→xs.length=ys.length
  | _,_,.nil=>rfl
  | _,_,.cons _ _ _ _ _ ht=>by simp [ht.length]
theorem zbz.get {s:St}:∀ {xs:List zaa} {ys:List Value},zbz s xs ys→∀ (i:Nat) (x:zaa),xs[i]?=some x→∃ y,ys[i]?=some y∧Rep s x y
  | _,_,.nil,i,x,h=>by simp at h
  | _, _, .cons x0 y0 xs ys h0 ht, i, x, h => by
    cases i with
    | zero=>simp at h;subst h;exact ⟨y0,by simp,h0⟩
    | succ i=>simp at h;obtain ⟨y,hy,hr⟩:=ht.get i x h;exact ⟨y,by simpa using hy,hr⟩
theorem zbz.append {s:St}:∀ {xs:List zaa} {ys:List Value} {xs':List zaa} {ys':List Value},zbz s xs ys→zbz s xs' ys'→zbz s (xs++xs') (ys++ys')
  | _,_,_,_,.nil,h=>h
  | _,_,_,_,.cons x y xs ys h ht,h'=>.cons _ _ _ _ h (ht.append h')
theorem zbz.take {s:St}:∀ {xs:List zaa} {ys:List Value} (n:Nat),zbz s xs ys→zbz s (xs.take n) (ys.take n)
  | _,_,0,_=>by simp;exact .nil
  | _,_,n+1,.nil=>by simp;exact .nil
  | _,_,n+1,.cons x y xs ys h ht=>by simp only [List.take_succ_cons];exact .cons _ _ _ _ h (ht.take n)
theorem zbz.drop {s:St}:∀ {xs:List zaa} {ys:List Value} (n:Nat),zbz s xs ys→zbz s (xs.drop n) (ys.drop n)
  | _,_,0,h=>by simpa using h
  | _,_,n+1,.nil=>by simp;exact .nil
  | _,_,n+1,.cons x y xs ys h ht=>by simp only [List.drop_succ_cons];exact ht.drop n
theorem zbz.set {s:St}:∀ {xs:List zaa} {ys:List Value} (i:Nat) {x:zaa} {y:Value},zbz s xs ys→Rep s x y→zbz s (xs.set i x) (ys.set i y)
  | _,_,_,_,_,.nil,_=>by simp;exact .nil
  | _,_,0,_,_,.cons x0 y0 xs ys h ht,hx=>by simp;exact .cons _ _ _ _ hx ht
  | _,_,i+1,_,_,.cons x0 y0 xs ys h ht,hx=>by simp;exact .cons _ _ _ _ h (ht.set i hx)
theorem zbz.of_get {s:St}:∀ {xs:List zaa} {ys:List Value},xs.length=ys.length→
    (∀ (i:Nat) (x:zaa) (y:Value),xs[i]?=some x→ys[i]?=some y→Rep s x y)→zbz s xs ys
  | [],[],_,_=>.nil
  | [],_ :: _,h,_=>by simp at h
  | _ :: _,[],h,_=>by simp at h
  | x :: xs, y :: ys, hl, h => .cons _ _ _ _ (h 0 x y (by simp) (by simp))
      (zbz.of_get (by simpa using hl) fun i a b ha hb=>h (i+1) a b (by simpa using ha) (by simpa using hb))
theorem ze3.get {s:St} {X:Nat}:∀ {o:Nat} {cs:List zaa},ze3 s X o cs→∀ (i:Nat) (c:zaa),cs[i]?=some c→
    ∃ v,World.at s.w X (o+i)=some v∧Imm s X (o+i)∧c.isCell=true∧Rep s c v
  | _,_,.nil X o,i,x,h=>by simp at h
  | _, _, .cons X o c0 cs v hv hi hk h0 ht, i, c, h => by
    cases i with
    | zero=>simp at h;subst h;exact ⟨v,hv,hi,hk,h0⟩
    | succ i=>
      simp at h
      obtain ⟨v',a,b,d,e⟩:=ht.get i c h
      have:o+1+i=o+(i+1):=by omega
      rw [this] at a b
      exact ⟨v',a,b,d,e⟩
theorem ze3.of_get {s:St} {X:Nat}:∀ {o:Nat} {cs:List zaa},(∀ (i:Nat) (c:zaa),cs[i]?=some c→
    ∃ v,World.at s.w X (o+i)=some v∧Imm s X (o+i)∧c.isCell=true∧Rep s c v)→ze3 s X o cs
  | o,[],_=>.nil X o
  | o, c :: cs, h => by
    obtain ⟨v,a,b,d,e⟩:=h 0 c (by simp)
    refine .cons X o c cs v a b d e (ze3.of_get fun i c' hc=>?_)
    have:o+1+i=o+(i+1):=by omega
    rw [this]
    exact h (i+1) c' (by simpa using hc)
theorem ze3.append {s:St} {X o:Nat} {a b:List zaa} (ha:ze3 s X o a) (hb:ze3 s X (o+a.length) b):ze3 s X o (a++b):=by
  refine ze3.of_get fun i c hc=>?_
  by_cases hlt:i < a.length
  · exact ha.get i c (by rw [List.getElem?_append_left hlt] at hc;exact hc)
  · rw [List.getElem?_append_right (by omega)] at hc
    have:=hb.get _ c hc
    have e:o+a.length+(i - a.length)=o+i:=by omega
    rw [e] at this
    exact this
theorem ze3.drop {s:St} {X o:Nat} {a:List zaa} (n:Nat) (ha:ze3 s X o a):ze3 s X (o+n) (a.drop n):=by
  refine ze3.of_get fun i c hc=>?_
  rw [List.getElem?_drop] at hc
  have:=ha.get _ c hc
  have e:o+(n+i)=o+n+i:=by omega
  rw [e] at this;exact this
theorem ze3.take {s:St} {X o:Nat} {a:List zaa} (n:Nat) (ha:ze3 s X o a):ze3 s X o (a.take n):=by
  refine ze3.of_get fun i c hc=>?_
  by_cases h:i < n
  · rw [List.getElem?_take_of_lt h] at hc;exact ha.get i c hc
  · rw [List.getElem?_take_eq_none (by omega)] at hc;simp at hc
theorem zg1.get {s:St} {X sz:Nat}:∀ {o:Nat} {es:List (List zaa)},zg1 s X sz o es→∀ (i:Nat) (e:List zaa),es[i]?=some e→
    e.length=sz∧ze3 s X (o+i*sz) e
  | _,_,.nil X sz o,i,x,h=>by simp at h
  | _, _, .cons X sz o e0 es hl h0 ht, i, e, h => by
    cases i with
    | zero=>simp at h;subst h;exact ⟨hl,by simpa using h0⟩
    | succ i=>
      simp at h
      obtain ⟨a,b⟩:=ht.get i e h
      have:o+sz+i*sz=o+(i+1)*sz:=by rw [Nat.succ_mul];omega
      rw [this] at b
      exact ⟨a,b⟩
theorem zg1.of_get {s:St} {X sz:Nat}:∀ {o:Nat} {es:List (List zaa)},(∀ (i:Nat) (e:List zaa),es[i]?=some e→
    e.length=sz∧ze3 s X (o+i*sz) e)→zg1 s X sz o es
  | o,[],_=>.nil X sz o
  | o, e :: es, h => by
    obtain ⟨a,b⟩:=h 0 e (by simp)
    refine .cons X sz o e es a (by simpa using b) (zg1.of_get fun i e' he=>?_)
    obtain ⟨c,d⟩:=h (i+1) e' (by simpa using he)
    have:o+sz+i*sz=o+(i+1)*sz:=by rw [Nat.succ_mul];omega
    rw [this]
    exact ⟨c,d⟩
theorem zg1.append {s:St} {X sz o:Nat} {a b:List (List zaa)} (ha:zg1 s X sz o a) (hb:zg1 s X sz (o+a.length*sz) b):zg1 s X sz o (a++b):=by
  refine zg1.of_get fun i c hc=>?_
  by_cases hlt:i < a.length
  · exact ha.get i c (by rw [List.getElem?_append_left hlt] at hc;exact hc)
  · rw [List.getElem?_append_right (by omega)] at hc
    obtain ⟨p,q⟩:=hb.get _ c hc
    have e:o+a.length*sz+(i - a.length)*sz=o+i*sz:=by
      rw [Nat.add_assoc,← Nat.add_mul];congr 2;omega
    rw [e] at q
    exact ⟨p,q⟩
theorem zg1.sub {s:St} {X sz o:Nat} {a:List (List zaa)} (l n:Nat) (ha:zg1 s X sz o a):zg1 s X sz (o+l*sz) (zwz l n a):=by
  refine zg1.of_get fun i c hc=>?_
  unfold zwz at hc
  rw [List.getElem?_drop] at hc
  by_cases h:l+i < n
  · rw [List.getElem?_take_of_lt h] at hc
    obtain ⟨p,q⟩:=ha.get _ c hc
    have e:o+(l+i)*sz=o+l*sz+i*sz:=by rw [Nat.add_mul];omega
    rw [e] at q;exact ⟨p,q⟩
  · rw [List.getElem?_take_eq_none (by omega)] at hc;simp at hc
theorem zg1.flatten {s:St} {X sz:Nat}:∀ {o:Nat} {es:List (List zaa)},zg1 s X sz o es→ze3 s X o es.flatten∧es.flatten.length=es.length*sz
  | _,_,.nil X sz o=>⟨.nil X o,by simp⟩
  | _, _, .cons X sz o e0 es hl h0 ht => by
    obtain ⟨a,b⟩:=ht.flatten
    simp only [List.flatten_cons,List.length_cons,List.length_append]
    exact ⟨h0.append (by rw [hl];exact a),by rw [hl,b,Nat.succ_mul];omega⟩
def zuG (fz:Nat × Nat) (n:Nat):Prop:=fz.1=fz.2∨n≤fz.1
theorem zuG.un {fz:Nat × Nat} {n i:Nat} (h:zuG fz n) (hi:i < n):¬(fz.1≤i∧i < fz.2):=by
  rcases h with h | h <;> omega
def zqd (s:St) (g:Nat) (cs:List zaa):Prop:=ze3 s g 0 cs∧∃ vs e fz,s.w.heap[g]?=some (Obj.cells vs e fz)∧vs.size=cs.length
theorem zqd.le0 {s s':St} (hl:Le0 s s') {g:Nat} {cs:List zaa} (h:zqd s g cs):zqd s' g cs:=by
  obtain ⟨h1,vs,e,fz,h2,h3⟩:=h
  obtain ⟨vs',fz',h4,h5,_⟩:=hl.blocks g vs e fz h2
  exact ⟨h1.le0 hl,vs',e,fz',h4,h5.trans h3⟩
theorem zqd.le {s s':St} (hl:Le s s') {g:Nat} {cs:List zaa} (h:zqd s g cs):zqd s' g cs:=h.le0 hl.le0
structure Sim (C:Ctx) (s:St):Prop where
  lb:s.mb.length=s.h.blks.length
  lt:s.mt.length=s.h.toks.length
  blk:∀ (b X:Nat) (cs:List zaa),s.mb[b]?=some X→s.h.blks[b]?=some cs→∃ vs e fz,s.w.heap[X]?=some (Obj.cells vs e fz)∧
    cs.length≤vs.size∧zuG fz vs.size∧(∀ (i:Nat) (c:zaa),cs[i]?=some c→c.isCell=true∧∃ v,vs[i]?=some v∧Rep s c v)
  injb:∀ (b b' X:Nat),s.mb[b]?=some X→s.mb[b']?=some X→b < b'→s.h.blks[b]?=some []
  injt:∀ (t t' X z z':Nat),s.mt[t]?=some (X,z)→s.mt[t']?=some (X,z')→t=t'
  disj:∀ (b t X z:Nat),s.mb[b]?=some X→s.mt[t]?≠some (X,z)
  old:∀ (t X z:Nat),s.mt[t]?=some (X,z)→X < s.w.heap.size
  glob:∀ g cs,C.glob g=some cs→zqd s g cs
theorem Sim.bsome {C:Ctx} {s:St} (h:Sim C s) {b X:Nat} (hb:s.mb[b]?=some X):∃ cs,s.h.blks[b]?=some cs:=by
  have:=(List.getElem?_eq_some_iff.1 hb).1
  exact ⟨_,List.getElem?_eq_getElem (by rw [← h.lb];exact this)⟩
theorem Sim.blt {C:Ctx} {s:St} (h:Sim C s) {b X:Nat} (hb:s.mb[b]?=some X):X < s.w.heap.size:=by
  obtain ⟨cs,hcs⟩:=h.bsome hb
  obtain ⟨vs,e,fz,hx,_⟩:=h.blk b X cs hb hcs
  exact (Array.getElem?_eq_some_iff.1 hx).1
structure zi1 (L:Lim) (s:St):Prop where
  b:s.qb≤L.rob
  t:s.qt≤L.rot
  lb:s.qb≤s.mb.length
  lt:s.qt≤s.mt.length
theorem Le.mbl {s s':St} (h:Le s s'):s.mb.length≤s'.mb.length:=by
  rcases Nat.lt_or_ge s'.mb.length s.mb.length with hlt | hge
  · have:=h.mb s'.mb.length _ (List.getElem?_eq_getElem hlt)
    simp at this
  · exact hge
theorem zi1.le {C:Ctx} {L:Lim} {s s':St} (hl:Le s s') (hs:Sim C s) (hs':Sim C s') (h:zi1 L s):zi1 L s':=by
  refine ⟨by rw [hl.qb]; exact h.b, by rw [hl.qt]; exact h.t, by rw [hl.qb]; exact Nat.le_trans h.lb hl.mbl, by
    rw [hl.qt,hs'.lt]
    have h1:s.h.toks.length≤s'.h.toks.length:=by
      rcases Nat.lt_or_ge s'.h.toks.length s.h.toks.length with hlt | hge
      · obtain ⟨n',hn,_⟩:=hl.mt s'.h.toks.length _ (List.getElem?_eq_getElem hlt)
        simp at hn
      · exact hge
    have:=h.lt;have:=hs.lt;omega⟩
def zcj (n:Nat) (s:St) (fr:Fr) (tmps:Array Value):Prop:=tmps.size=n∧∀ i,Rep s (fr i) (tmps.getD i undef)
theorem zcj.le {n:Nat} {s s':St} {fr:Fr} {tmps:Array Value} (hl:Le s s') (h:zcj n s fr tmps):zcj n s' fr tmps:=
  ⟨h.1,fun i=>(h.2 i).le hl⟩
theorem Rep.undef (s:St):Rep s zaK undef:=.tup [] #[] (by simpa using zbz.nil)
theorem zcj.put {n:Nat} {s:St} {fr:Fr} {a:Act} {d:Option Nat} {v:zaa} {x:Value} (h:zcj n s fr a.tmps) (hd:∀ i,d=some i→i < n) (hv:Rep s v x):
    zcj n s (put fr d v) (a.put d x).tmps:=by
  cases d with
  | none=>exact h
  | some d=>
    refine ⟨by simp [Act.put,h.1],fun i=>?_⟩
    have hlt:=hd d rfl
    simp only [Av.put,upd,Act.put]
    by_cases e:i=d
    · subst e
      rw [if_pos rfl]
      simp [Array.getD_eq_getD_getElem?,h.1,hlt,hv]
    · rw [if_neg e]
      have:=h.2 i
      simpa [Array.getD_eq_getD_getElem?,Array.getElem?_setIfInBounds_ne (Ne.symm e)] using this
end Go.Av
namespace Go.Av
def zAv:Value→Option zaa
  | .int k n=>some (.int k n)
  | .bool b=>some (.bool b)
  | .string s=>some (.str s)
  | .pointer none=>some .nilp
  | .slice none 0 0=>some .nsl
  | .nilFunc=>some .nfn
  | .nilIface=>some .nif
  | _=>none
def zsN:List Value→Option (List zaa)
  | []=>some []
  | v :: vs => match zAv v, zsN vs with
    | some a,some b=>some (a :: b)
    | _,_=>none
def zzi:Value→Option zaa
  | .agg cs=>(zsN cs.toList).map .agg
  | .tuple cs=>if cs.size=0 then some (.tup []) else none
  | v=>zAv v
def co (C:Ctx):Operand→Option AO
  | .tmp t=>some (.t t)
  | .const v=>(zzi v).map .k
  | .global g=>if (C.glob g).isSome then some (.g g) else none
  | .func f=>some (.k (.fn (.func f) [] []))
def cos (C:Ctx):List Operand→Option (List AO)
  | []=>some []
  | x :: xs => match co C x, cos C xs with
    | some a,some b=>some (a :: b)
    | _,_=>none
def coo (C:Ctx):Option Operand→Option (Option AO)
  | none=>some none
  | some x=>(co C x).map some
def szT (P:Program) (t:TypeId):Option Nat:=(P.info? t).map (·.size)
def zvV (P:Program) (t:TypeId):Option (List zaa):=match (P.info? t).bind (·.zero) with
  | some z=>(zzi z).bind fun a=>if a.okV then some a.cells else none
  | none=>none
def zww (P:Program) (t:TypeId):Option Bool:=match P.underlying t with
  | some (.struct _)=>some true
  | some (.array _ _)=>some true
  | some _=>some false
  | none=>none
def ztN (P:Program) (t:TypeId):Option TypeId:=match P.underlying t with
  | some (.slice e)=>some e
  | _=>none
def zoY (P:Program) (t:TypeId):Bool:=match P.info? t with
  | some i=>decide (i.bytes≤256)&&decide (0 < i.bytes)&&decide (0 < i.size)&&(match i.zero with | some z=>decide (z.cells.size=i.size) | none=>false)
  | none=>false
def ztP (P:Program) (rec:TypeId→Option (List CK)) (z:Nat):Nat→List Field→Option (List CK)
  | o,[]=>if o=z then some [] else none
  | o, f :: fs => if f.offset = o ∧ f.name ≠ "_" then
      match szT P f.type,rec f.type with
      | some zf,some l=>if l.length=zf then (ztP P rec z (o+zf) fs).map (l++·) else none
      | _,_=>none
    else none
def zI8 {α:Type} (l:List α):Nat→List α
  | 0=>[]
  | n+1=>l++zI8 l n
def zF6 (P:Program):Nat→TypeId→Option (List CK)
  | 0,_=>none
  | d + 1, t => match P.underlying t, szT P t with
    | some .bool,some 1=>some [.b]
    | some (.int _),some 1=>some [.i]
    | some .string,some 1=>some [.s]
    | some (.struct fs),some z=>if P.stoodInHeld t=true then none else ztP P (zF6 P d) z 0 fs.toList
    | some (.array n e), some z => match zF6 P d e, szT P e with
      | some l,some b=>if z=n*b∧l.length=b then some (zI8 l n) else none
      | _,_=>none
    | _,_=>none
def zxp (C:Ctx) (P:Program) (places:Nat→Option (Nat × Nat)):List (Nat × Operand)→Option (List (Nat × Nat × AO))
  | []=>some []
  | (i, x) :: rest => match places i, co C x, zxp C P places rest with
    | some (o,z),some a,some b=>some ((o,z,a) :: b)
    | _,_,_=>none
def zp6 (C:Ctx):List (Nat × Operand)→Option (List (Nat × AO))
  | []=>some []
  | (i, x) :: rest => match co C x, zp6 C rest with
    | some a,some b=>some ((i,a) :: b)
    | _,_=>none
structure zCt where
  val:Nat→Nat→Bool
  nilq:Bool
def zKE:BinOp→Bool
  | .eql | .neq=>false
  | _=>true
def zq9:BinOp→Bool
  | .neq=>true
  | _=>false
def isK:Operand→Bool
  | .const _=>true
  | _=>false
def zKG (C:Ctx) (P:Program) (o:Oper) (val:Bool):Option VOp:=
  match o.op with
  | .move x=>(co C x).map .mv
  | .assign x=>(co C x).map .mv
  | .pick c a b=>do some (.pick (← co C c) (← co C a) (← co C b))
  | .box _ x=>if val then (co C x).map .boxv else none
  | .build t parts => do
    let z ← zvV P t
    match P.underlying t with
    | some (.struct fs) => do
        let ps ← zxp C P (fun i=>match fs[i]? with | some f=>(szT P f.type).map fun z=>(f.offset,z) | none=>none) parts.toList
        if fs.toList.all (fun f=>(szT P f.type).isSome) then some (.build z ps) else none
    | some (.array _ e) => do
        let sz ← szT P e
        some (.build z (← zxp C P (fun i=>some (i*sz,sz)) parts.toList))
    | _=>none
  | .buildSlice t len parts => if val then do
      let e ← ztN P t
      let sz ← szT P e
      let z ← zvV P e
      if len*sz≤2 ^ 24∧z.length=sz∧0 < sz then some (.slit sz len z (← zp6 C parts.toList)) else none
    else none
  | .nilCheck x=>(co C x).map .nck
  | .binOp op t x y _ => do
    let a ← co C x
    let b ← co C y
    if zKE op=true then some (.bin op a b) else
    match P.underlying t with
    | some (.int _) | some .string=>some (.bin op a b)
    | some .bool=>some (.eq .bool (zq9 op) a b)
    | some (.pointer _)=>some (.eq .ptr (zq9 op) a b)
    | some (.slice _)=>some (.eq .slc (zq9 op) a b)
    | some (.func ..)=>some (.eq .fn (zq9 op) a b)
    | some (.interface _)=>if isK x||isK y then some (.eq .ifc (zq9 op) a b) else none
    | some (.struct _) | some (.array ..)=>if P.eqGuardType P.depth t=true then none else (zF6 P 40 t).map fun sh=>.eq (.agg sh) (zq9 op) a b
    | _=>none
  | .unOp op _ x=>(co C x).map (.un op)
  | .convert src dst x => match P.underlying src, P.underlying dst with
    | some _,some (.int k)=>(co C x).map (.i2i k)
    | some .string,some .string=>(co C x).map .s2s
    | _,_=>none
  | .sliceToArrayPointer arr x => match P.underlying arr with
    | some (.array n _)=>(co C x).map (.s2a n)
    | _=>none
  | .makeInterface t x => match P.underlying t with
    | some (.interface _)=>none
    | some _=>(co C x).map (.mkif t)
    | none=>none
  | .makeFunc f first cap=>do some (.mkfn f (← cos C first.toList) (← cos C cap.toList))
  | .slice t x lo hi mx => do
    let x' ← co C x
    let lo' ← coo C lo
    let hi' ← coo C hi
    let mx' ← coo C mx
    if mx.isSome&&hi.isNone then none else
    match P.underlying t with
    | some .string=>some (.slice .str 0 x' lo' hi' mx')
    | some (.slice e)=>do some (.slice .slc (← szT P e) x' lo' hi' mx')
    | some (.array n e)=>do some (.slice (.arr n) (← szT P e) x' lo' hi' mx')
    | _=>none
  | .fieldAddr s x f => match P.underlying s with
    | some (.struct fs) => match fs[f]? with
      | some fd => match szT P fd.type with
        | some z=>if z=0 then none else (co C x).map (.fadr fd.offset)
        | none=>none
      | none=>none
    | _=>none
  | .field t x f => match P.underlying t with
    | some (.struct fs) => match fs[f]? with
      | some fd=>do some (.fld fd.offset (← szT P fd.type) (← zww P fd.type) (← co C x))
      | none=>none
    | _=>none
  | .indexAddr t x i => match P.underlying t with
    | some (.array n e)=>do some (.iadr (some n) (← szT P e) (← co C x) (← co C i))
    | some (.slice e)=>do some (.iadr none (← szT P e) (← co C x) (← co C i))
    | _=>none
  | .index t x i => match P.underlying t with
    | some (.array n e)=>do some (.idxA n (← szT P e) (← zww P e) (← co C x) (← co C i))
    | some .string=>do some (.idxS (← co C x) (← co C i))
    | _=>none
  | .extract x i=>do some (.ext (← co C x) i)
  | .typeAssert x _ t ok => match P.underlying t with
    | some (.interface _)=>none
    | some _ => match (P.info? t).bind (·.zero) with
      | some z=>do some (.tas t (← zzi z) ok (← co C x))
      | none=>none
    | none=>none
  | .call c => match c.callee, c.args.toList with
    | .builtin .len, [x] => match (c.argTypes[0]?).bind P.underlying with
      | some .string=>(co C x).map .lenS
      | some (.slice _)=>(co C x).map .lenL
      | some (.array n _)=>some (.mv (.k (.int .i64 n)))
      | _=>none
    | .builtin .max,xs=>do some (.mxmn true (← cos C xs))
    | .builtin .min,xs=>do some (.mxmn false (← cos C xs))
    | _,_=>none
  | _=>none
def zHG (C:Ctx) (P:Program) (o:Oper):Option ROp:=
  match o.op with
  | .load t x=>do some (.ld (← szT P t) (← zww P t) (← co C x))
  | .convert src dst x => match P.underlying src, P.underlying dst with
    | some (.slice e), some .string => match P.underlying e with
      | some (.int .u8)=>(co C x).map .b2s
      | _=>none
    | some (.slice _), some (.slice e) => match P.underlying e with
      | some (.int .u8)=>if src=dst then (co C x).map .mark else none
      | _=>none
    | _,_=>none
  | .call c => match c.callee with
    | .value (.func f)=>if zac C f then (cos C c.args.toList).map (.call f) else none
    | .invoke r name=>if C.qinv name then do some (.inv (← co C r) name (← cos C c.args.toList)) else none
    | _=>none
  | _=>none
def zEu:Operand→Operand→Bool
  | .tmp i,.tmp j=>i==j
  | .const (.int _ i),.const (.int _ j)=>i==j
  | _,_=>false
def zAg (C:Ctx) (P:Program) (o:Oper) (val:Bool):Option COp:=
  match o.op with
  | .alloc t=>(zvV P t).map .alloc
  | .box _ x=>(co C x).map .box
  | .buildSlice t len parts => do
      let e ← ztN P t
      let sz ← szT P e
      let z ← zvV P e
      if len*sz≤2 ^ 24∧z.length=sz∧0 < sz then some (.slit sz len z (← zp6 C parts.toList)) else none
  | .makeSlice t l c => do
      let e ← ztN P t
      let sz ← szT P e
      let z ← zvV P e
      let a ← co C l
      if z.length=sz∧zoY P e=true∧zEu l c=true then some (.mk sz z a) else
      if z.length=sz∧zoY P e=true then do some (.mkc sz z a (← co C c)) else none
  | .store t x y=>do some (.st (← szT P t) (← co C x) (← co C y))
  | .convert src dst x => match P.underlying src, P.underlying dst with
    | some .string, some (.slice e) => match P.underlying e, szT P e with
      | some (.int .u8),some 1=>(co C x).map .s2b
      | _,_=>none
    | _,_=>none
  | .call c => match c.callee, c.args.toList with
    | .builtin .append, [x, y] => match (c.argTypes[0]?).bind (ztN P), (c.argTypes[1]?).bind P.underlying with
      | some e,some (.slice e')=>if e'=e∧zoY P e then do some (.app (← szT P e) (!val) (← co C x) (← co C y)) else none
      | some e,some .string=>if szT P e=some 1∧zoY P e then do some (.app 1 (!val) (← co C x) (← co C y)) else none
      | _,_=>none
    | .builtin .copy, [x, y] => match (c.argTypes[0]?).bind (ztN P) with
      | some e=>do some (.copy (← szT P e) (← co C x) (← co C y))
      | _=>none
    | .builtin .clear, [x] => match (c.argTypes[0]?).bind (ztN P) with
      | some e=>do some (.clear (← zvV P e) (← co C x))
      | _=>none
    | .value (.func f),xs=>(cos C xs).map (.call f)
    | .value x,xs=>do some (.callv (← co C x) (← cos C xs))
    | .invoke r name,xs=>do some (.inv (← co C r) name (← cos C xs))
    | _,_=>none
  | _=>none
def zlR (C:Ctx) (P:Program) (o:Oper) (val:Bool):Option AOp:=
  match zKG C P o val with
  | some v=>some (.v v)
  | none => match zHG C P o with
    | some r=>some (.r r)
    | none=>(zAg C P o val).map .c
def zN1 (ops:Array Oper):Option (Nat × Bool)→Option (Option (Nat × Bool))
  | none=>some none
  | some (j, b) => match (ops[j]?).bind (·.dst) with
    | some t=>some (some (t,b))
    | none=>none
def zKH (n:Nat):Option Nat→Bool
  | none=>true
  | some d=>decide (d < n)
def znN (ops:Array Oper) (o:Oper):List Nat:=
  o.op.operands.toList.filterMap (fun | .tmp t=>some t | _=>none)++(match o.guard with | some (g,_)=>((ops[g]?).bind (·.dst)).toList | none=>[])
def cop (C:Ctx) (P:Program) (n:Nat) (ops:Array Oper) (val:Bool) (o:Oper):Option AI:=
  match zlR C P o val,zN1 ops o.guard with
  | some a,some g=>if zKH n o.dst&&(match g with | some (t,_)=>decide (t < n) | none=>true) then some {dst:=o.dst,op:=a,grd:=g} else none
  | _,_=>none
def zo5 (C:Ctx) (P:Program) (n:Nat) (ops:Array Oper) (val:Nat→Bool):Nat→List Oper→Option (List AI)
  | _,[]=>some []
  | i, o :: rest => match cop C P n ops (val i) o, zo5 C P n ops val (i + 1) rest with
    | some a,some b=>some (a :: b)
    | _,_=>none
def isC:AOp→Bool
  | .c _=>true
  | _=>false
def zRJ:AO→List Nat
  | .t n=>[n]
  | _=>[]
def zai (ops:List Oper):List Nat:=
  ops.foldl (fun acc o=>acc++[o.after.foldl (fun s e=>if Region.binds .any e then s|||2 ^ e.on|||acc.getD e.on 0 else s) 0]) []
def zcI (bs:List Nat) (j i:Nat):Bool:=(bs.getD j 0).testBit i
def zEy (ops:Array Oper) (j:Nat):List Nat:=match ops[j]? with
  | some o=>znN ops o
  | none=>[]
def zc8 (ops:Array Oper) (bs:List Nat) (is:List AI):List AI:=
  is.zipIdx.map fun (i, j) => match i.op with
    | .r _ => { i with
        use:=zEy ops j,
        lo:=(is.zipIdx.filter fun (c,k)=>isC c.op&&zcI bs j k).length,
        hi:=(is.zipIdx.filter fun (c,k)=>isC c.op&&!zcI bs k j).length}
    | _=>{i with use:=zEy ops j}
def zsB (ops:Array Oper) (bs:List Nat) (is:List AI):Bool:=
  (ops.toList.zipIdx.all fun (o,j)=>o.after.toList.all fun e=>decide (e.on < j)||!Region.binds .any e)&&
  (is.zipIdx.all fun (a,j)=>is.zipIdx.all fun (b,i)=>!(isC a.op&&isC b.op&&decide (i < j))||zcI bs j i)&&
  (ops.toList.zipIdx.all fun (a, j) => ops.toList.zipIdx.all fun (b, i) => i == j ||
    !(match a.dst with | some d=>(b.dst==some d)||(znN ops b).contains d | none=>false)||(if i < j then zcI bs j i else zcI bs i j))
def zAk (m:Region.Mode) (ops:Array Oper) (rk:List Nat):Bool:=
  ops.toList.zipIdx.all fun (o,j)=>o.after.toList.all fun e=>!Region.binds m e||(decide (e.on < ops.size)&&decide (rk.getD e.on 0 < rk.getD j 0))
def zJa (m:Region.Mode) (ops:Array Oper):List Nat:=
  let l:=Region.linearise m ops 0
  (List.range ops.size).map fun j=>l.idxOf j
def zhu (ops:Array Oper):Bool:=zAk .text ops (zJa .text ops)&&zAk .gc ops (zJa .gc ops)
def zRK (pos:Nat→Nat) (e:Edge):Edge:={e with on:=pos e.on}
def zEC (pos:Nat→Nat) (x:List Edge) (o:Oper):Oper:={o with after:=(o.after.toList.map (zRK pos)++x).toArray,guard:=o.guard.map fun g=>(pos g.1,g.2)}
def zMp (ord:List Nat) (i j k:Nat):List Edge:=if k=i then [⟨ord.idxOf j,.chain⟩] else []
def zbE (ops:Array Oper) (ord:List Nat) (i j:Nat):Array Oper:=(ord.map fun k=>zEC ord.idxOf (zMp ord i j k) (ops.getD k default)).toArray
def zHQ (n:Nat) (ord:List Nat):Bool:=decide (ord.length=n)&&decide ord.Nodup&&(List.range n).all (fun k=>ord.contains k)&&ord.all (fun k=>decide (k < n))
def zBP (ops:Array Oper) (dep:Nat→Bool) (i j:Nat):Bool:=
  ops.toList.zipIdx.all fun (o,k)=>!dep k||k==i||k==j||o.after.toList.any fun e=>Region.binds .any e&&decide (e.on < k)&&dep e.on
def zBQ (ops:Array Oper):Bool:=ops.toList.zipIdx.all fun (o,k)=>ops.toList.zipIdx.all fun (o',k')=>k==k'||match o.dst,o'.dst with | some d,some d'=>d !=d' | _,_=>true
def zN7 (bs:List Nat) (is:List AI):Option (Nat × Nat):=
  (is.zipIdx.findSome? fun (b,j)=>if isC b.op then is.zipIdx.findSome? fun (a,i)=>if isC a.op&&decide (i < j)&&!zcI bs j i then some (i,j) else none else none)
def quietAt (is:List AI) (ord:List Nat) (k:Nat):Bool:=match is[ord.idxOf k]? with
  | some x=>!isC x.op
  | none=>true
def zN8 (ops:Array Oper) (bs:List Nat) (i:Nat):List Nat × List Nat:=
  (List.range ops.size,(List.range ops.size).filter (fun k=>!(k==i||zcI bs k i))++(List.range ops.size).filter (fun k=>k==i||zcI bs k i))
def zKV (bs:List Nat) (i j k:Nat):Bool:=k==i||k==j||zcI bs k i||zcI bs k j
def zN9 (ops:Array Oper) (oA oB:List Nat) (i j:Nat) (dep:Nat→Bool) (isA isB:List AI):Bool:=
  decide (i < ops.size)&&(i !=j)&&zHQ ops.size oA&&zHQ ops.size oB&&
  zsB (zbE ops oA j i) (zai (zbE ops oA j i).toList) isA&&zsB (zbE ops oB i j) (zai (zbE ops oB i j).toList) isB&&
  zBP ops dep i j&&zBQ ops&&(List.range ops.size).all fun k=>dep k||(quietAt isA oA k&&quietAt isB oB k)
def zPN (n:Nat) (oA oB:List Nat) (dep:Nat→Bool):List (Nat × Nat):=((List.range n).filter fun k=>!dep k).map fun k=>(oA.idxOf k,oB.idxOf k)
def two (C:Ctx) (P:Program) (n:Nat) (ops:Array Oper) (val:Nat→Bool) (is:List AI):Option AC:=do
  let bs:=zai ops.toList
  let (i,j) ← zN7 bs is
  let (oA,oB):=zN8 ops bs i
  let isA ← zo5 C P n (zbE ops oA j i) (fun q=>val (oA.getD q 0)) 0 (zbE ops oA j i).toList
  let isB ← zo5 C P n (zbE ops oB i j) (fun q=>val (oB.getD q 0)) 0 (zbE ops oB i j).toList
  if zN9 ops oA oB i j (zKV bs i j) isA isB then
    some (.draw2 (zc8 (zbE ops oA j i) (zai (zbE ops oA j i).toList) isA) (zc8 (zbE ops oB i j) (zai (zbE ops oB i j).toList) isB) (zPN ops.size oA oB (zKV bs i j)))
  else none
def cc (C:Ctx) (P:Program) (fl:zCt) (n:Nat):Code→Option AC
  | .skip=>some .skip
  | .region id ops false=>(zo5 C P n ops (fl.val id) 0 ops.toList).map .reg
  | .region id ops true => match zo5 C P n ops (fl.val id) 0 ops.toList with
    | some is => if (P.follows .mixedOrders || !Region.departs ops || zhu ops) then
        (if zsB ops (zai ops.toList) is then some (.draw (zc8 ops (zai ops.toList) is)) else two C P n ops (fl.val id) is)
      else none
    | none=>none
  | .seq a b => match cc C P fl n a, cc C P fl n b with
    | some a,some b=>some (.seq a b)
    | _,_=>none
  | .cond c a b => match co C c, cc C P fl n a, cc C P fl n b with
    | some c,some a,some b=>some (.cond c a b)
    | _,_,_=>none
  | .block id a=>(cc C P fl n a).map (.blk id)
  | .loop a=>(cc C P fl n a).map .loop
  | .exit id=>some (.exit id)
  | .scope a=>(cc C P fl n a).map .scope
  | .label l=>some (.label l)
  | .goto l=>some (.goto l)
  | .ret=>some .ret
  | _=>none
def zJc (P:Program):List ResultVar→Option (List zyd)
  | []=>some []
  | .tmp t :: rs=>(zJc P rs).map (.tmp t :: ·)
  | .cell a t :: rs => match szT P t, zww P t, zJc P rs with
    | some n,some g,some l=>some (.cell a n g :: l)
    | _,_,_=>none
def zEJ:List AI→Option (Nat × Nat)
  | [⟨some a,.v (.mv (.t 0)),none,_,_,_⟩,⟨some b,.v (.eq .slc false (.t a') (.k .nsl)),none,_,_,_⟩]=>if a=a' then some (a,b) else none
  | _=>none
def zK1 (C:Ctx) (P:Program) (fl:zCt) (n:Nat):Code→Option ((AC × Nat × Nat × AC) × AC)
  | .seq z (.seq (.seq (.region id ops false) x) y) => match cc C P fl n z, (zo5 C P n ops (fl.val id) 0 ops.toList).bind zEJ, cc C P fl n x, cc C P fl n y with
    | some c0,some (a,b),some c1,some c2=>some ((c0,a,b,c1),c2)
    | _,_,_,_=>none
  | _=>none
def cfn (C:Ctx) (P:Program) (fl:zCt) (f:Func):Option AFn:=
  match f.body with
  | some c => match zJc P f.results.toList with
    | some r => if f.params.size + f.nfree ≤ f.ntmps then
        (if fl.nilq then (zK1 C P fl f.ntmps c).map fun q=>⟨f.ntmps,q.2,r,some q.1⟩ else (cc C P fl f.ntmps c).map fun c=>⟨f.ntmps,c,r,none⟩) else none
    | none=>none
  | none=>none
end Go.Av
namespace Go.Av
theorem zCc {w:World} {X o:Nat} {v:Value} (h:World.at w X o=some v):X < w.heap.size:=by
  unfold World.at World.cell? at h
  by_cases hx:X < w.heap.size
  · exact hx
  · simp [Array.getElem?_eq_none (Nat.not_lt.1 hx)] at h
theorem zef {w w':World} {X:Nat} (o:Nat) (h:w'.heap[X]?=w.heap[X]?):World.at w' X o=World.at w X o:=by
  unfold World.at World.cell?
  simp [h]
theorem zqV (s:St) (w':World) (hy:Ext s.w w'):
    Le s {s with w:=w'} where
  qb:=rfl
  qt:=rfl
  kept:=⟨hy.os,hy.tape,hy.out,hy.size,fun _ _ h=>h,fun X h _=>hy.heap X h⟩
  blocks X vs e fz h:=by
    have hlt:=(Array.getElem?_eq_some_iff.1 h).1
    exact ⟨vs,fz,by simpa using (hy.heap X hlt).trans h,rfl,fun _ _ h=>h⟩
  cells X o v hi hv:=⟨hi,by rw [zef o (hy.heap X (zCc hv))];exact hv⟩
  mb _ _ h:=h
  mt _ n h:=⟨n,h,Nat.le_refl _,fun _=>rfl⟩
theorem zsI {C:Ctx} {s:St} (hs:Sim C s) (w':World) (hy:Ext s.w w'):
    Sim C {s with w:=w'}:=by
  have hl:=zqV s w' hy
  have hx:=hy.heap
  have hsz:=hy.size
  refine ⟨hs.lb,hs.lt,fun b X cs hb hc=>?_,hs.injb,hs.injt,hs.disj,fun t X z h=>Nat.lt_of_lt_of_le (hs.old t X z h) hsz,fun g cs h=>(hs.glob g cs h).le hl⟩
  obtain ⟨vs,e,fz,h1,h2,h3,h4⟩:=hs.blk b X cs hb hc
  refine ⟨vs,e,fz,(hx X (hs.blt hb)).trans h1,h2,h3,fun i c hi=>?_⟩
  obtain ⟨k,v,hv,hr⟩:=h4 i c hi
  exact ⟨k,v,hv,hr.le hl⟩
def Good (C:Ctx) (s:St) (w':World) (v:zaa) (h':zab) (cv:Value):Prop:=
  ∃ s':St,s'.w=w'∧s'.h=h'∧Sim C s'∧Le s s'∧Rep s' v cv
theorem Good.same {C:Ctx} {s:St} (hs:Sim C s) {v:zaa} {cv:Value} (h:Rep s v cv):Good C s s.w v s.h cv:=⟨s,rfl,rfl,hs,.refl s,h⟩
theorem Good.ext {C:Ctx} {s:St} (hs:Sim C s) {w':World} (hy:Ext s.w w')
    {v:zaa} {cv:Value} (h:Rep {s with w:=w'} v cv):Good C s w' v s.h cv:=
  ⟨{s with w:=w'},rfl,rfl,zsI hs w' hy,zqV s w' hy,h⟩
theorem zpe (w:World) (o:Obj):Ext w {w with heap:=w.heap.push o}:=
  ⟨rfl,rfl,rfl,by simp,fun X h=>by simp [Array.getElem?_push,Nat.ne_of_lt h]⟩
theorem zjA (w:World) (o:Obj):w.heap.size≤({w with heap:=w.heap.push o}:World).heap.size∧
    ∀ X:Nat,X < w.heap.size→({w with heap:=w.heap.push o}:World).heap[X]?=w.heap[X]?:=
  ⟨by simp,fun X h=>by simp [Array.getElem?_push,Nat.ne_of_lt h]⟩
theorem zK4 {C:Ctx} {s:St} (hs:Sim C s) (o:Nat):Imm s s.w.heap.size o:=by
  refine ⟨fun b _ hb=>?_,fun t sz n _ ht _=>?_⟩
  · have:=hs.blt hb;omega
  · have:=hs.old t _ _ ht;omega
theorem zEM {C:Ctx} {s:St} (hs:Sim C s) (e:TypeId) (fz:Nat × Nat) {cs:List zaa} {vs:Array Value} (h:zbz s cs (vs.toList.take cs.length)) (hk:∀ c∈cs,c.isCell=true):
    ze3 {s with w:={s.w with heap:=s.w.heap.push (.cells vs e fz)}} s.w.heap.size 0 cs:=by
  have hl:=zqV s _ (zpe s.w (.cells vs e fz))
  refine ze3.of_get fun i c hc=>?_
  obtain ⟨v,hv,hr⟩:=h.get i c hc
  have hlt:=(List.getElem?_eq_some_iff.1 hc).1
  rw [List.getElem?_take_of_lt hlt] at hv
  refine ⟨v,?_,?_,hk c (List.mem_of_getElem? hc),hr.le hl⟩
  · simp only [World.at,World.cell?,Nat.zero_add]
    simpa using hv
  · have:=zK4 hs (s:=s) (0+i)
    exact this
theorem zqM {s:St} {v:Value} {a:zaa} (h:zAv v=some a):Rep s a v∧a.isCell=true:=by
  unfold zAv at h
  split at h <;> first
    | (simp at h;done)
    | (obtain rfl:=Option.some.inj h;exact ⟨by constructor,rfl⟩)
theorem zpf {s:St}:∀ {vs:List Value} {cs:List zaa},zsN vs=some cs→zbz s cs vs∧∀ c∈cs,c.isCell=true
  | [], cs, h => by
    obtain rfl:=Option.some.inj h
    exact ⟨.nil,by simp⟩
  | v :: vs, cs, h => by
    simp only [zsN] at h
    split at h
    · rename_i a b ha hb
      obtain rfl:=Option.some.inj h
      obtain ⟨h1,h2⟩:=zqM (s:=s) ha
      obtain ⟨h3,h4⟩:=zpf (s:=s) hb
      exact ⟨.cons _ _ _ _ h1 h3,fun c hc=>(List.mem_cons.1 hc).elim (fun e=>e ▸ h2) (h4 c)⟩
    · simp at h
theorem znR {s:St} {v:Value} {a:zaa} (h:zzi v=some a):Rep s a v:=by
  unfold zzi at h
  split at h
  · rename_i cs
    cases hc:zsN cs.toList with
    | none=>simp [hc] at h
    | some l=>
      simp [hc] at h
      subst h
      obtain ⟨h1,h2⟩:=zpf (s:=s) hc
      exact .agg l cs h1 h2
  · rename_i cs
    split at h
    · rename_i h0
      obtain rfl:=Option.some.inj h
      have:cs=#[]:=Array.size_eq_zero_iff.1 h0
      subst this
      exact .tup [] #[] .nil
    · simp at h
  · exact (zqM h).1
section
variable {C:Ctx} {P:Program} {s:St} {n:Nat} {fr:Fr} {a:Act}
theorem zal (hs:Sim C s) (hf:zcj n s fr a.tmps) {x:Operand} {y:AO} (h:co C x=some y):Rep s (C.ev fr y) (a.eval x):=by
  cases x with
  | tmp t=>simp [co] at h;subst h;exact hf.2 t
  | const v=>
    simp only [co] at h
    cases hv:zzi v with
    | none=>simp [hv] at h
    | some av=>simp [hv] at h;subst h;exact znR hv
  | global g=>
    simp only [co] at h
    split at h
    · rename_i hg
      obtain rfl:=Option.some.inj h
      obtain ⟨cs,hcs⟩:=Option.isSome_iff_exists.1 hg
      simp only [Ctx.ev,hcs,Act.eval]
      exact .vptr cs 0 g 0 (hs.glob g cs hcs).1
    · simp at h
  | func f=>simp [co] at h;subst h;exact .fn _ [] [] #[] #[] .nil .nil
theorem zgH (hs:Sim C s) (hf:zcj n s fr a.tmps):∀ {xs:List Operand} {ys:List AO},cos C xs=some ys→zbz s (ys.map (C.ev fr)) (xs.map a.eval)
  | [],ys,h=>by obtain rfl:=Option.some.inj h;exact .nil
  | x :: xs, ys, h => by
    simp only [cos] at h
    split at h
    · rename_i y zs h1 h2
      obtain rfl:=Option.some.inj h
      exact .cons _ _ _ _ (zal hs hf h1) (zgH hs hf h2)
    · simp at h
theorem zsO (hs:Sim C s) (hf:zcj n s fr a.tmps) {x:Option Operand} {y:Option AO} (h:coo C x=some y):
    (x=none∧y=none)∨∃ x' y',x=some x'∧y=some y'∧Rep s (C.ev fr y') (a.eval x'):=by
  cases x with
  | none=>simp [coo] at h;exact .inl ⟨rfl,h.symm⟩
  | some x=>
    simp only [coo] at h
    cases hc:co C x with
    | none=>simp [hc] at h
    | some y'=>simp [hc] at h;exact .inr ⟨x,y',rfl,h.symm,zal hs hf hc⟩
end
theorem zl5 {s:St} {v:zaa} {x:Value} (h:Rep s v x) (hk:v.okV=true):zbz s v.cells x.cells.toList∧∀ c∈v.cells,c.isCell=true:=by
  cases h with
  | agg cs vs h hc=>exact ⟨h,hc⟩
  | tup cs vs h=>simp [zaa.okV] at hk
  | _=>exact ⟨.cons _ _ _ _ (by constructor <;> assumption) .nil,by intro c hc;simp [zaa.cells] at hc;subst hc;rfl⟩
end Go.Av
namespace Go.Av
def zbA (C:Ctx) (P:Program) (s:St) (m:Sem Next) (v:zaa) (h:zab):Prop:=
  ∃ cv w',m.run P s.w=.ok (.value cv) w'∧Good C s w' v h cv
theorem zbA.pure {C:Ctx} {P:Program} {s:St} (hs:Sim C s) {m:Sem Next} {v:zaa} {cv:Value} (h:m.run P s.w=.ok (.value cv) s.w) (hr:Rep s v cv):zbA C P s m v s.h:=
  ⟨cv,s.w,h,.same hs hr⟩
theorem zd9 {P:Program} {w w':World} {m:Sem Value} {cv:Value} (h:m.run P w=.ok cv w'):
    (do pure (Next.value (← m)):Sem Next).run P w=.ok (.value cv) w':=by simp [h]
section
variable {C:Ctx} {P:Program} {s:St} {n:Nat} {fr:Fr} {a:Act}
theorem zvv {s:St} {cs:List zaa} {x:Value} (h:Rep s (.agg cs) x):∃ vs:Array Value,x=.agg vs∧zbz s cs vs.toList∧∀ c∈cs,c.isCell=true:=by
  cases h with
  | agg _ vs h hc=>exact ⟨vs,rfl,h,hc⟩
theorem zKc {s:St} {cs:List zaa} {x:Value} (h:Rep s (.tup cs) x):∃ vs:Array Value,x=.tuple vs∧zbz s cs vs.toList:=by
  cases h with
  | tup _ vs h=>exact ⟨vs,rfl,h⟩
theorem zaq {t:TypeId} {z:Nat} (h:szT P t=some z) (w:World):(sizeOf t).run P w=.ok z w:=by
  unfold szT at h
  cases hi:P.info? t with
  | none=>simp [hi] at h
  | some i=>simp [hi] at h;subst h;simp [sizeOf,typeInfo,hi]
theorem zfr {t:TypeId} {b:Bool} (h:zww P t=some b) (w:World):(isAgg t).run P w=.ok b w:=by
  unfold zww at h
  cases hd:P.underlying t with
  | none=>simp [hd] at h
  | some d=>cases d <;> simp [hd] at h <;> subst h <;> simp [isAgg,run_underlying hd]
theorem zvw {t:TypeId} {off z:Nat} {b:Bool} {cs:List zaa} {vs:Array Value} {v:zaa} (hz:szT P t=some z) (hb:zww P t=some b)
    (hr:zbz s cs vs.toList) (hk:∀ c∈cs,c.isCell=true) (h:zeb b cs off z=some v) (w:World):
    ∃ cv,(part t vs off).run P w=.ok cv w∧Rep s v cv:=by
  unfold zeb at h
  cases b with
  | true=>
    simp only [if_true] at h
    split at h
    · rename_i hle
      obtain rfl:=Option.some.inj h
      refine ⟨.agg (vs.extract off (off+z)),by simp [part,zfr hb,zaq hz],.agg _ _ ?_ fun c hc=>hk c (List.mem_of_mem_drop (List.mem_of_mem_take hc))⟩
      have:=(hr.drop off).take z
      simpa [Array.toList_extract,List.extract_eq_take_drop] using this
    · simp at h
  | false=>
    simp only [Bool.false_eq_true,if_false] at h
    obtain ⟨cv,hcv,hrep⟩:=hr.get off v h
    refine ⟨cv,?_,hrep⟩
    have hx:vs[off]?=some cv:=by simpa using hcv
    simp [part,zfr hb,hx]
theorem zr8:∀ (vs:List zaa) (xs:List Value) (cs:List zaa) (cells:Array Value) (off:Nat),zbz s cs cells.toList→zbz s vs xs→
    ∀ j0,zbz s (setAt cs (off+j0) vs) ((xs.zipIdx j0).foldl (fun cs (cj:Value × Nat)=>cs.setIfInBounds (off+cj.2) cj.1) cells).toList
  | [],_,cs,cells,off,h,.nil,j0=>by simpa [setAt] using h
  | v :: vs, _, cs, cells, off, h, .cons _ x _ xs hx ht, j0 => by
    simp only [setAt,List.zipIdx_cons,List.foldl_cons]
    have h':zbz s (cs.set (off+j0) v) (cells.setIfInBounds (off+j0) x).toList:=by simpa using h.set (off+j0) hx
    exact zr8 vs xs _ _ off h' ht (j0+1)
theorem zlJ:∀ (vs cs:List zaa) (off:Nat),(setAt cs off vs).length=cs.length
  | [],cs,off=>rfl
  | v :: vs,cs,off=>by simp [setAt,zlJ vs]
theorem zoN {α:Type} {l:List α} {i:Nat} {x y:α} (h:y∈l.set i x):y∈l∨y=x:=List.mem_or_eq_of_mem_set h
theorem zuw:∀ (vs cs:List zaa) (off:Nat),(∀ c∈cs,c.isCell=true)→(∀ c∈vs,c.isCell=true)→∀ c∈setAt cs off vs,c.isCell=true
  | [],cs,off,h,_=>h
  | v :: vs, cs, off, h, h' => by
    simp only [setAt]
    refine zuw vs _ _ (fun c hc=>?_) (fun c hc=>h' c (List.mem_cons_of_mem _ hc))
    rcases zoN hc with hc | rfl
    · exact h c hc
    · exact h' _ (List.mem_cons_self)
inductive zBp (s:St) (place:Nat→Option (Nat × Nat)):List (Nat × Nat × zaa)→List (Nat × Value)→Prop
  | nil:zBp s place [] []
  | cons (i o z:Nat) (v:zaa) (x:Value) (as:List (Nat × Nat × zaa)) (bs:List (Nat × Value)) (hp:place i=some (o,z)) (hr:Rep s v x) (ht:zBp s place as bs):
      zBp s place ((o,z,v) :: as) ((i,x) :: bs)
theorem zmn {place:Nat→Option (Nat × Nat)}:∀ {as:List (Nat × Nat × zaa)} {bs:List (Nat × Value)},zBp s place as bs→∀ {cs:List zaa} {cells:Array Value} {r:List zaa},
    zbz s cs cells.toList→(∀ c∈cs,c.isCell=true)→zaA cs as=some r→∃ r',Instr.fill place cells bs=some r'∧zbz s r r'.toList∧(∀ c∈r,c.isCell=true)∧r.length=cs.length
  | _, _, .nil, cs, cells, r, h, hk, hf => by
    obtain rfl:=Option.some.inj hf
    exact ⟨cells,rfl,h,hk,rfl⟩
  | _, _, .cons i o z v x as bs hp hr ht, cs, cells, r, h, hk, hf => by
    simp only [zaA] at hf
    split at hf
    · simp at hf
    · rename_i hcond
      simp only [not_or,Nat.not_lt,ne_eq,Decidable.not_not,Bool.not_eq_false] at hcond
      obtain ⟨hl,hle,hok⟩:=hcond
      obtain ⟨hc1,hc2⟩:=zl5 hr hok
      have hlen:=hc1.length
      have hlen2:=h.length
      have h1:=zr8 v.cells x.cells.toList cs cells o h hc1 0
      simp only [Nat.add_zero] at h1
      obtain ⟨r',e1,e2,e3,e4⟩:=zmn ht h1 (zuw _ _ _ hk hc2) hf
      refine ⟨r',?_,e2,e3,by rw [e4,zlJ]⟩
      simp only [Instr.fill,hp]
      have a1:x.cells.size=z:=by rw [← hl,hlen];simp
      have a2:o+x.cells.size≤cells.size:=by rw [a1];simp at hlen2;omega
      rw [if_neg (by simp [a1];omega)]
      rw [← e1]
      congr 1
      rw [← Array.foldl_toList,Array.toList_zipIdx]
theorem zlK (hs:Sim C s) (hf:zcj n s fr a.tmps) {place:Nat→Option (Nat × Nat)}:∀ {xs:List (Nat × Operand)} {ys:List (Nat × Nat × AO)},zxp C P place xs=some ys→
    zBp s place (ys.map fun p=>(p.1,p.2.1,C.ev fr p.2.2)) (xs.map fun p=>(p.1,a.eval p.2))
  | [],ys,h=>by obtain rfl:=Option.some.inj h;exact .nil
  | (i, x) :: xs, ys, h => by
    simp only [zxp] at h
    split at h
    · rename_i o z y zs h1 h2 h3
      obtain rfl:=Option.some.inj h
      exact .cons i o z _ _ _ _ h1 (zal hs hf h2) (zlK hs hf h3)
    · simp at h
theorem zoO (hs:Sim C s) (hf:zcj n s fr a.tmps) (sz:Nat):∀ {xs:List (Nat × Operand)} {ys:List (Nat × AO)},zp6 C xs=some ys→
    zBp s (fun i=>some (i*sz,sz)) (ys.map fun p=>(p.1*sz,sz,C.ev fr p.2)) (xs.map fun p=>(p.1,a.eval p.2))
  | [],ys,h=>by obtain rfl:=Option.some.inj h;exact .nil
  | (i, x) :: xs, ys, h => by
    simp only [zp6] at h
    split at h
    · rename_i y zs h1 h2
      obtain rfl:=Option.some.inj h
      exact .cons i _ _ _ _ _ _ rfl (zal hs hf h1) (zoO hs hf sz h2)
    · simp at h
theorem zf0 {t:TypeId} {z:List zaa} (h:zvV P t=some z) (w:World):∃ zv:Value,(zeroValue t).run P w=.ok zv w∧zbz s z zv.cells.toList∧∀ c∈z,c.isCell=true:=by
  unfold zvV at h
  cases hi:P.info? t with
  | none=>simp [hi] at h
  | some i=>
    cases hz:i.zero with
    | none=>simp [hi,hz] at h
    | some zv=>
      cases hav:zzi zv with
      | none=>simp [hi,hz,hav] at h
      | some av=>
        by_cases hok:av.okV=true
        · simp [hi,hz,hav,hok] at h
          subst h
          obtain ⟨h1,h2⟩:=zl5 (znR (s:=s) hav) hok
          exact ⟨zv,by simp [zeroValue,typeInfo,hi,hz],h1,h2⟩
        · simp [hi,hz,hav,hok] at h
theorem zjr (z:List zaa):∀ n,(rep z n).length=n*z.length
  | 0=>by simp [rep]
  | n+1=>by simp [rep,zjr z n,Nat.succ_mul];omega
theorem zoP (z:List zaa) (h:∀ c∈z,c.isCell=true):∀ n,∀ c∈rep z n,c.isCell=true
  | 0,c,hc=>by simp [rep] at hc
  | n + 1, c, hc => by
    simp only [rep,List.mem_append] at hc
    exact hc.elim (h c) (zoP z h n c)
theorem zDQ (z:List zaa) (hz:0 < z.length):∀ (n i:Nat),i < n*z.length→(rep z n)[i]?=z[i % z.length]?
  | 0,i,h=>by simp at h
  | n + 1, i, h => by
    simp only [rep]
    by_cases hlt:i < z.length
    · rw [List.getElem?_append_left hlt,Nat.mod_eq_of_lt hlt]
    · rw [List.getElem?_append_right (by omega), zDQ z hz n (i - z.length) (by rw [Nat.succ_mul] at h; omega)]
      congr 1
      exact (Nat.mod_eq_sub_mod (by omega)).symm
theorem zj4 {z:List zaa} {zv:Value} (h:zbz s z zv.cells.toList) (hz:0 < z.length) (n:Nat):
    zbz s (rep z n) ((Array.range (n*z.length)).map (zv.cells[· % zv.cells.size]!)).toList:=by
  have hlen:=h.length
  have hsz:zv.cells.size=z.length:=by simpa using hlen.symm
  refine zbz.of_get (by simp [zjr]) fun i x y hx hy=>?_
  have hi:i < n*z.length:=by have:=(List.getElem?_eq_some_iff.1 hx).1;rwa [zjr] at this
  rw [zDQ z hz n i hi] at hx
  obtain ⟨y',hy',hr⟩:=h.get _ _ hx
  have hmod:i % z.length < z.length:=Nat.mod_lt _ hz
  have:y=y':=by
    simp only [Array.toList_map,Array.toList_range,List.getElem?_map,List.getElem?_range hi,Option.map_some,Option.some.injEq] at hy
    rw [hsz] at hy
    rw [← hy,getElem!_pos _ _ (by rw [hsz];exact hmod)]
    have:=hy'
    simp [Array.getElem?_eq_getElem (show i % z.length < zv.cells.size by rw [hsz];exact hmod)] at this
    exact this
  rw [this];exact hr
theorem zbW (sz:Nat):∀ (n:Nat) (cs:List zaa),(chunks sz n cs).length=n
  | 0,_=>rfl
  | n+1,cs=>by simp [chunks,zbW sz n]
theorem zmp {X sz:Nat}:∀ (n:Nat) {o:Nat} {cs:List zaa},ze3 s X o cs→n*sz≤cs.length→zg1 s X sz o (chunks sz n cs)
  | 0,_,_,_,_=>.nil _ _ _
  | n + 1, o, cs, h, hl => by
    rw [Nat.succ_mul] at hl
    refine .cons _ _ _ _ _ (by simp;omega) (h.take sz) (zmp n (h.drop sz) (by simp;omega))
end
end Go.Av
namespace Go.Av
section
variable {C:Ctx} {P:Program} {s:St} {n:Nat} {fr:Fr} {a:Act}
theorem zxa {op:BinOp} {k:IntKind} {x y:Int} {v:zaa} (h:zgI op k x y=some v) (hne1:op≠.shl) (hne2:op≠.shr) (t:TypeId) (w:World):
    ∃ cv,(binOp op t (.int k x) (.int k y)).run P w=.ok cv w∧Rep s v cv:=by
  cases op <;> simp only [zgI] at h <;> first
    | exact absurd rfl hne1
    | exact absurd rfl hne2
    | (simp at h;done)
    | (obtain rfl:=Option.some.inj h;exact ⟨_,by simp only [binOp,ne_eq,not_true,if_false,Op.intArith,Op.intBits,Op.intCmp];rfl,by constructor⟩)
    | (split at h
       · simp at h
       · rename_i hy
         obtain rfl:=Option.some.inj h
         exact ⟨_,by simp [binOp,Op.intDiv,hy];rfl,by constructor⟩)
theorem zDV {op:BinOp} {x y:zaa} {cx cy:Value} {v:zaa} (hx:Rep s x cx) (hy:Rep s y cy) (h:zew op x y=some v) (t:TypeId) (w:World):
    ∃ cv,(binOp op t cx cy).run P w=.ok cv w∧Rep s v cv:=by
  unfold zew at h
  split at h
  · cases hx;cases hy
    unfold zkP at h
    split at h
    · simp at h
    · rename_i hneg
      obtain rfl:=Option.some.inj h
      exact ⟨_,by simp [binOp,Op.shift,hneg];rfl,by constructor⟩
  · cases hx;cases hy
    unfold zkP at h
    split at h
    · simp at h
    · rename_i hneg
      obtain rfl:=Option.some.inj h
      exact ⟨_,by simp [binOp,Op.shift,hneg];rfl,by constructor⟩
  · rename_i k x k' y hn1 hn2
    cases hx;cases hy
    split at h
    · rename_i hk
      subst hk
      exact zxa h (by rintro rfl;simp at hn1) (by rintro rfl;simp at hn2) t w
    · simp at h
  · cases hx;cases hy
    split at h
    · simp at h
    · rename_i hsz
      obtain rfl:=Option.some.inj h
      refine ⟨_,?_,.str _⟩
      simp only [binOp,Op.stringOp]
      rw [if_neg (by simpa using hsz)]
      rfl
  · cases hx;cases hy
    obtain rfl:=Option.some.inj h
    exact ⟨_,by simp only [binOp,Op.stringOp,← beq_toListBytes];rfl,by constructor⟩
  · cases hx;cases hy
    obtain rfl:=Option.some.inj h
    exact ⟨_,by simp only [binOp,Op.stringOp,← beq_toListBytes];rfl,by constructor⟩
  · simp at h
theorem zj5 {op:BinOp} {t:TypeId} {x y:Operand} {cx cy:Value} (w:World)
    (h1:cx=.nilIface→cy=.nilIface→(isK x||isK y)=true) (h2:∀ a b,cx=.agg a→cy=.agg b→P.eqGuardType P.depth t=false):
    (eqGuard op t x y cx cy).run P w=.ok () w:=by
  unfold eqGuard
  cases op <;> first
    | rfl
    | (simp only [Bool.not_true,Bool.false_eq_true,if_false]
       split
       · cases x <;> cases y <;> first | rfl | exact absurd (h1 rfl rfl) (by simp [isK])
       · rename_i a b
         simp [h2 a b rfl rfl]
       · rfl)
theorem znf:∀ {k1:List CK} {l1 m1:List zaa} {k2:List CK} {l2 m2:List zaa} {b:Bool},l1.length=k1.length→m1.length=k1.length→zbo (k1++k2) (l1++l2) (m1++m2)=some b→
    ∃ b1 b2,zbo k1 l1 m1=some b1∧zbo k2 l2 m2=some b2∧b=(b1&&b2)
  | [],[],[],k2,l2,m2,b,_,_,h=>⟨true,b,rfl,h,by simp⟩
  | [],[],_ :: _,_,_,_,_,_,hl,_=>by simp at hl
  | [],_ :: _,_,_,_,_,_,hl,_,_=>by simp at hl
  | _ :: _,[],_,_,_,_,_,hl,_,_=>by simp at hl
  | _ :: _,_ :: _,[],_,_,_,_,_,hl,_=>by simp at hl
  | k :: k1, x :: l1, y :: m1, k2, l2, m2, b, hl, hl', h => by
    simp only [List.cons_append,zbo,Option.bind_eq_bind,Option.bind_eq_some_iff,Option.some.injEq] at h
    obtain ⟨a,ha,c,hc,rfl⟩:=h
    obtain ⟨b1,b2,h1,h2,rfl⟩:=znf (by simpa using hl) (by simpa using hl') hc
    exact ⟨a&&b1,b2,by simp [zbo,ha,h1],h2,by simp [Bool.and_assoc]⟩
theorem zoS {k1 k2:List CK} {l m:List zaa} {b:Bool} (hn:k1.length≤l.length) (hm:k1.length≤m.length) (h:zbo (k1++k2) l m=some b):
    ∃ b1 b2,zbo k1 (l.take k1.length) (m.take k1.length)=some b1∧zbo k2 (l.drop k1.length) (m.drop k1.length)=some b2∧b=(b1&&b2):=by
  refine znf (by simp;omega) (by simp;omega) ?_
  simpa using h
theorem zsd {l m:List zaa} {b:Bool} (h:zbo [] l m=some b):b=true:=by
  cases l <;> cases m <;> simp [zbo] at h <;> simp [h]
def EqAt (P:Program) (d:Nat) (t:TypeId) (vs us:Array Value) (off:Nat) (b:Bool):Prop:=
  ∀ w,∃ x y,(part t vs off).run P w=.ok x w∧(part t us off).run P w=.ok y w∧(Op.equalIn d t x y).run P w=.ok b w
theorem zoT {rec:TypeId→Option (List CK)} {z:Nat}:∀ (fs:List Field) (o:Nat) (l:List CK),ztP P rec z o fs=some l→o+l.length=z
  | [], o, l, h => by
    simp only [ztP] at h
    split at h
    · obtain rfl:=Option.some.inj h;simpa using ‹o=z›
    · simp at h
  | f :: fs, o, l, h => by
    simp only [ztP] at h
    split at h
    · split at h
      · rename_i zf lf h1 h2
        split at h
        · rename_i hl
          cases hr:ztP P rec z (o+zf) fs with
          | none=>simp [hr] at h
          | some l'=>
            simp [hr] at h
            subst h
            have:=zoT fs _ _ hr
            simp;omega
        · simp at h
      · simp at h
    · simp at h
theorem zng {d:Nat} {rec:TypeId→Option (List CK)} {z:Nat} {cs ds:List zaa} {vs us:Array Value} (hz1:cs.length=z) (hz2:ds.length=z)
    (ih:∀ (t:TypeId) (l:List CK) (zt off:Nat) (b:Bool),rec t=some l→szT P t=some zt→off+zt≤z→zbo l ((cs.drop off).take zt) ((ds.drop off).take zt)=some b→EqAt P d t vs us off b):
    ∀ (fs:List Field) (o:Nat) (l:List CK) (b:Bool),ztP P rec z o fs=some l→zbo l (cs.drop o) (ds.drop o)=some b→∀ w,(Op.eqFields d vs us fs).run P w=.ok b w
  | [], o, l, b, hok, h, w => by
    have:=zoT _ _ _ hok
    simp only [ztP] at hok
    split at hok
    · obtain rfl:=Option.some.inj hok
      have:=zsd h
      subst this
      simp [Op.eqFields]
    · simp at hok
  | f :: fs, o, l, b, hok, h, w => by
    have hle:=zoT _ _ _ hok
    simp only [ztP] at hok
    split at hok
    · rename_i hn
      split at hok
      · rename_i zf lf h1 h2
        split at hok
        · rename_i hlf
          cases hr:ztP P rec z (o+zf) fs with
          | none=>simp [hr] at hok
          | some l'=>
            simp [hr] at hok
            subst hok
            have hle2:=zoT _ _ _ hr
            obtain ⟨b1,b2,e1,e2,rfl⟩:=zoS (by simp;omega) (by simp;omega) h
            rw [List.drop_drop,List.drop_drop,hlf] at e2
            rw [hlf] at e1
            obtain ⟨x,y,r1,r2,r3⟩:=ih f.type lf zf o b1 h2 h1 (by omega) e1 w
            simp only [Op.eqFields,Sem.run_bind,Sem.run_ite]
            rw [hn.1]
            rw [if_pos hn.2]
            simp only [r1,r2,r3,Result.andThen_ok]
            cases b1 with
            | false=>simp
            | true=>simpa using zng hz1 hz2 ih fs (o+zf) l' b2 hr e2 w
        · simp at hok
      · simp at hok
    · simp at hok
theorem zse {α:Type} (l:List α):∀ n,(zI8 l n).length=n*l.length
  | 0=>by simp [zI8]
  | n+1=>by simp [zI8,zse l n,Nat.succ_mul];omega
theorem zsf {d n ze:Nat} {e:TypeId} {l:List CK} {z:Nat} {cs ds:List zaa} {vs us:Array Value} (hz1:cs.length=z) (hz2:ds.length=z) (hz:z=n*ze) (hl:l.length=ze)
    (ih:∀ (off:Nat) (b:Bool),off+ze≤z→zbo l ((cs.drop off).take ze) ((ds.drop off).take ze)=some b→EqAt P d e vs us off b):
    ∀ (m i:Nat) (b:Bool),i+m=n→zbo (zI8 l m) (cs.drop (i*ze)) (ds.drop (i*ze))=some b→∀ w,((do
      let r ← forIn (List.range' i m) ((none, ()) : Option Bool × Unit) (fun i _ => do
        let x ← part e vs (i*ze);let y ← part e us (i*ze);let q ← Op.equalIn d e x y
        if (!q)=true then pure (ForInStep.done (some false,())) else pure (ForInStep.yield (none,())))
      match r.1 with | some a=>pure a | none=>pure true):Sem Bool).run P w=.ok b w
  | 0, i, b, hi, h, w => by
    have:=zsd h
    subst this
    simp
  | m + 1, i, b, hi, h, w => by
    have e3:i*ze+ze=(i+1)*ze:=by rw [Nat.succ_mul]
    have hle:i*ze+ze≤z:=by
      rw [hz,← hi,e3];exact Nat.mul_le_mul_right _ (by omega)
    obtain ⟨b1,b2,e1,e2,rfl⟩:=zoS (by simp;omega) (by simp;omega) h
    rw [List.drop_drop,List.drop_drop,hl,e3] at e2
    rw [hl] at e1
    obtain ⟨x,y,r1,r2,r3⟩:=ih (i*ze) b1 hle e1 w
    have:=zsf hz1 hz2 hz hl ih m (i+1) b2 (by omega) e2 w
    simp only [List.range'_succ,List.forIn_cons,Sem.run_bind,r1,r2,r3,Result.andThen_ok,Sem.run_ite]
    cases b1 with
    | false=>simp
    | true=>simpa using this
theorem zp2:∀ (D:Nat) (t:TypeId) (l:List CK) (z:Nat),zF6 P D t=some l→szT P t=some z→∀ (d:Nat),D≤d→∀ (cs ds:List zaa) (vs us:Array Value),zbz s cs vs.toList→zbz s ds us.toList→
    ∀ (off:Nat) (b:Bool),off+z≤cs.length→off+z≤ds.length→
    zbo l ((cs.drop off).take z) ((ds.drop off).take z)=some b→EqAt P d t vs us off b
  | 0,_,_,_,h,_,_,_,_,_,_,_,_,_,_,_,_,_,_=>by simp [zF6] at h
  | D+1,t,l,z,hok,hz,0,hd,_,_,_,_,_,_,_,_,_,_,_=>by omega
  | D + 1, t, l, z, hok, hz, d + 1, hd, cs, ds, vs, us, hv, hu, off, b, h1, h2, h => by
    intro w
    simp only [zF6,hz] at hok
    have scal:∀ k,z=1→l=[k]→zww P t=some false→∃ c e v u,zsQ k c e=some b∧Rep s c v∧Rep s e u∧(part t vs off).run P w=.ok v w∧(part t us off).run P w=.ok u w:=by
      rintro k rfl rfl ha
      have hc:off < cs.length:=by omega
      have hd':off < ds.length:=by omega
      obtain ⟨v,hv1,hv2⟩:=hv.get off _ (List.getElem?_eq_getElem hc)
      obtain ⟨u,hu1,hu2⟩:=hu.get off _ (List.getElem?_eq_getElem hd')
      refine ⟨cs[off],ds[off],v,u,?_,hv2,hu2,?_,?_⟩
      · rw [List.drop_eq_getElem_cons hc,List.drop_eq_getElem_cons hd'] at h
        simp only [List.take_succ_cons,List.take_zero,zbo,Option.bind_eq_bind,Option.bind_eq_some_iff,Option.some.injEq] at h
        obtain ⟨a,ha,c,hc,rfl⟩:=h
        subst hc
        simpa using ha
      · have hx : vs[off]? = some v := by simpa using hv1
        simp [part,zfr ha,hx]
      · have hx : us[off]? = some u := by simpa using hu1
        simp [part,zfr ha,hx]
    have aggr:zww P t=some true→(part t vs off).run P w=.ok (.agg (vs.extract off (off+z))) w∧(part t us off).run P w=.ok (.agg (us.extract off (off+z))) w:=fun ha=>
      ⟨by simp [part,zfr ha,zaq hz],by simp [part,zfr ha,zaq hz]⟩
    have rv:zbz s ((cs.drop off).take z) (vs.extract off (off+z)).toList:=by
      have:=(hv.drop off).take z
      simpa [Array.toList_extract,List.extract_eq_take_drop] using this
    have ru:zbz s ((ds.drop off).take z) (us.extract off (off+z)).toList:=by
      have:=(hu.drop off).take z
      simpa [Array.toList_extract,List.extract_eq_take_drop] using this
    have lc:((cs.drop off).take z).length=z:=by simp;omega
    have ld:((ds.drop off).take z).length=z:=by simp;omega
    split at hok
    · rename_i hut hz1
      obtain rfl:=Option.some.inj hz1
      obtain rfl:=Option.some.inj hok
      obtain ⟨c,e,v,u,hce,r1,r2,p1,p2⟩:=scal _ rfl rfl (by simp [zww,hut])
      refine ⟨v,u,p1,p2,?_⟩
      cases c <;> cases e <;> simp [zsQ] at hce
      cases r1;cases r2
      subst hce
      simp [Op.equalIn,run_underlying hut]
    · rename_i k0 hut hz1
      obtain rfl:=Option.some.inj hz1
      obtain rfl:=Option.some.inj hok
      obtain ⟨c,e,v,u,hce,r1,r2,p1,p2⟩:=scal _ rfl rfl (by simp [zww,hut])
      refine ⟨v,u,p1,p2,?_⟩
      cases c <;> cases e <;> simp [zsQ] at hce
      cases r1;cases r2
      obtain ⟨e1,e2⟩:=hce
      subst e1 e2
      simp [Op.equalIn,run_underlying hut]
    · rename_i hut hz1
      obtain rfl:=Option.some.inj hz1
      obtain rfl:=Option.some.inj hok
      obtain ⟨c,e,v,u,hce,r1,r2,p1,p2⟩:=scal _ rfl rfl (by simp [zww,hut])
      refine ⟨v,u,p1,p2,?_⟩
      cases c <;> cases e <;> simp [zsQ] at hce
      cases r1;cases r2
      subst hce
      simp [Op.equalIn,run_underlying hut]
    · rename_i fs z' hut hz1
      obtain rfl:=Option.some.inj hz1
      split at hok
      · simp at hok
      · rename_i hst
        obtain ⟨p1,p2⟩:=aggr (by simp [zww,hut])
        refine ⟨_,_,p1,p2,?_⟩
        have hfo:P.fieldsOf t=fs:=by simp [Program.fieldsOf,hut]
        rw [run_equalIn_struct w d t _ _ (by rw [hfo];exact hut) (by simpa using hst),hfo]
        refine zng lc ld (fun t' l' zt off' b' hl' hz' hle hb=>?_) fs.toList 0 l b hok (by simpa using h) w
        exact zp2 D t' l' zt hl' hz' d (by omega) _ _ _ _ rv ru off' b' (by omega) (by omega) hb
    · rename_i n e z' hut hz1
      obtain rfl:=Option.some.inj hz1
      split at hok
      · rename_i le be hle hbe
        split at hok
        · rename_i hcond
          obtain rfl:=Option.some.inj hok
          obtain ⟨p1,p2⟩:=aggr (by simp [zww,hut])
          refine ⟨_,_,p1,p2,?_⟩
          have:=zsf (P:=P) (d:=d) (e:=e) lc ld hcond.1 hcond.2 (fun off' b' hle' hb=>zp2 D e le be hle hbe d (by omega) _ _ _ _ rv ru off' b' (by omega) (by omega) hb) n 0 b (by omega) (by simpa using h) w
          rw [← this]
          simp only [Op.equalIn,Sem.run_bind,run_underlying hut,zaq hbe,Result.andThen_ok]
          simp only [Std.Legacy.Range.forIn_eq_forIn_range',Std.Legacy.Range.size,Nat.sub_zero,Nat.add_sub_cancel,Nat.div_one]
          congr 1
          funext r w'
          obtain ⟨r,u⟩:=r
          cases r <;> rfl
        · simp at hok
      · simp at hok
    · simp at hok
end
end Go.Av
namespace Go.Av
section
variable {C:Ctx} {P:Program} {s:St} {n:Nat} {fr:Fr} {a:Act}
theorem bind_some {α β:Type} {x:Option α} {f:α→Option β} {b:β} (h:(x >>= f)=some b):∃ a,x=some a∧f a=some b:=Option.bind_eq_some_iff.1 h
theorem map_some {α β:Type} {x:Option α} {f:α→β} {b:β} (h:x.map f=some b):∃ a,x=some a∧f a=b:=Option.map_eq_some_iff.1 h
theorem zgz {x:Option zaa} {cx:Option Value} {dflt most r:Nat} (hx:(x=none∧cx=none)∨∃ v cv,x=some v∧cx=some cv∧Rep s v cv) (h:zio x dflt most=some r):
    (cx=none∧x=none∧r=dflt)∨∃ cv,cx=some cv∧x.isSome=true∧r≤most∧∀ code w,(Instr.sliceBound cv most code).run P w=.ok r w:=by
  rcases hx with ⟨rfl,rfl⟩ | ⟨v,cv,rfl,rfl,hr⟩
  · simp [zio] at h;exact .inl ⟨rfl,rfl,h.symm⟩
  · cases hr <;> simp only [zio] at h <;> first
      | (simp at h;done)
      | (split at h
         · rename_i k i hi
           obtain rfl:=Option.some.inj h
           refine .inr ⟨_,rfl,rfl,by omega,fun code w=>?_⟩
           simp [Instr.sliceBound,asIntOf,hi]
         · simp at h)
theorem zfb {lo hi mx:Option zaa} {clo chi cmx:Option Value} (hlo:(lo=none∧clo=none)∨∃ v cv,lo=some v∧clo=some cv∧Rep s v cv)
    (hhi:(hi=none∧chi=none)∨∃ v cv,hi=some v∧chi=some cv∧Rep s v cv) (hmx:(mx=none∧cmx=none)∨∃ v cv,mx=some v∧cmx=some cv∧Rep s v cv)
    {isS:Bool} {len capA cap l h m:Nat} (e1:zio mx capA capA=some m) (e2:zio hi len m=some h) (e3:zio lo 0 h=some l) (hcap:capA≤cap) (hh:mx.isSome=true→hi.isSome=true) (w:World):
    ∃ mc,(Instr.sliceBounds isS len cap clo chi cmx).run P w=.ok (l,h,mc) w∧l≤h∧(hi.isSome=true→h≤m)∧(hi=none→h=len)∧(mx.isSome=true→mc=m∧m≤capA)∧(mx=none→mc=cap∧m=capA):=by
  rcases hmx with ⟨rfl,rfl⟩ | ⟨v1,cv1,rfl,rfl,hr1⟩
  · simp [zio] at e1
    subst e1
    rcases hhi with ⟨rfl,rfl⟩ | ⟨v2,cv2,rfl,rfl,hr2⟩
    · simp [zio] at e2
      subst e2
      rcases zgz (P:=P) hlo e3 with ⟨rfl,rfl,rfl⟩ | ⟨cv3,rfl,i3,l3,r3⟩
      · exact ⟨cap,by simp [Instr.sliceBounds],by omega,by simp,by simp,by simp,by simp⟩
      · exact ⟨cap,by simp [Instr.sliceBounds,r3],l3,by simp,by simp,by simp,by simp⟩
    · have e2':zio (some v2) len cap=some h:=by
        cases hr2 <;> simp only [zio] at e2 ⊢ <;> first
          | (simp at e2;done)
          | (split at e2
             · rename_i hi;rw [if_pos (by omega)];exact e2
             · simp at e2)
      have hm:h≤capA:=by
        rcases zgz (P:=P) (.inr ⟨v2,cv2,rfl,rfl,hr2⟩) e2 with ⟨x,_⟩ | ⟨_,_,_,x,_⟩
        · simp at x
        · exact x
      rcases zgz (P:=P) (.inr ⟨v2,cv2,rfl,rfl,hr2⟩) e2' with ⟨x,_⟩ | ⟨cv2',x,i2,l2,r2⟩
      · simp at x
      · obtain rfl:=Option.some.inj x
        rcases zgz (P:=P) hlo e3 with ⟨rfl,rfl,rfl⟩ | ⟨cv3,rfl,i3,l3,r3⟩
        · exact ⟨cap,by simp [Instr.sliceBounds,r2],by omega,fun _=>hm,by simp,by simp,by simp⟩
        · exact ⟨cap,by simp [Instr.sliceBounds,r2,r3],l3,fun _=>hm,by simp,by simp,by simp⟩
  · have hm:m≤capA:=by
      rcases zgz (P:=P) (.inr ⟨v1,cv1,rfl,rfl,hr1⟩) e1 with ⟨x,_⟩ | ⟨_,_,_,x,_⟩
      · simp at x
      · exact x
    have e1':zio (some v1) cap cap=some m:=by
      cases hr1 <;> simp only [zio] at e1 ⊢ <;> first
        | (simp at e1;done)
        | (split at e1
           · rename_i hi;rw [if_pos (by omega)];exact e1
           · simp at e1)
    rcases zgz (P:=P) (.inr ⟨v1,cv1,rfl,rfl,hr1⟩) e1' with ⟨x,_⟩ | ⟨cv1',x,i1,l1,r1⟩
    · simp at x
    · obtain rfl:=Option.some.inj x
      rcases zgz (P:=P) hhi e2 with ⟨rfl,rfl,rfl⟩ | ⟨cv2,rfl,i2,l2,r2⟩
      · simp at hh
      · rcases zgz (P:=P) hlo e3 with ⟨rfl,rfl,rfl⟩ | ⟨cv3,rfl,i3,l3,r3⟩
        · exact ⟨m,by simp [Instr.sliceBounds,r1,r2],by omega,fun _=>l2,fun h0=>by simp [h0] at i2,fun _=>⟨rfl,hm⟩,by simp⟩
        · exact ⟨m,by simp [Instr.sliceBounds,r1,r2,r3],l3,fun _=>l2,fun h0=>by simp [h0] at i2,fun _=>⟨rfl,hm⟩,by simp⟩
theorem zsj {α:Type} (l h:Nat) (es:List α) (hh:h≤es.length):(zwz l h es).length=h - l:=by simp [zwz];omega
theorem zy5 {X o sz:Nat} {es:List (List zaa)} {l h m:Nat} (he:zg1 s X sz o es) (h1:l≤h) (h2:h≤m) (h4:h≤es.length) (clip:Bool) (hcl:clip=true→m=h)
    {z:Nat} (hz:es≠[]→z=sz):
    Rep s (.vsl clip (zwz l h es)) (.slice (if m=l then some ⟨X,o,none⟩ else (some (⟨X,o,none⟩:Addr)).map (·.add (l*z))) (h - l) (m - l)):=by
  by_cases hl:h=l
  · have e0:zwz l h es=[]:=by
      apply List.eq_nil_of_length_eq_zero
      rw [zsj _ _ _ h4];omega
    rw [e0,show h - l=0 by omega]
    refine .vsl0 clip _ _ (fun hc=>?_) (fun hn=>?_)
    · have:=hcl hc;omega
    · split at hn <;> simp at hn
  · rw [if_neg (by omega)]
    have hne:es≠[]:=by rintro rfl;simp at h4;omega
    have hz':=hz hne
    subst hz'
    have key:=he.sub l h
    have e1:(⟨X,o,none⟩:Addr).add (l*z)=⟨X,o+l*z,none⟩:=by
      unfold Addr.add;split
      · rename_i h0;rw [h0];rfl
      · rfl
    simp only [Option.map_some,e1]
    exact .vsl clip _ X (o+l*z) z (m - l) (h - l) key (zsj l h es h4).symm (by omega) (fun hc=>by have:=hcl hc;omega)
theorem zeR (X o k:Nat):(⟨X,o,none⟩:Addr).add k=⟨X,o+k,none⟩:=by
  unfold Addr.add;split
  · rename_i h0;rw [h0];rfl
  · rfl
theorem zsk {X o sz z:Nat} {es:List (List zaa)} (he:zg1 s X sz o es) (h:zeH z es=true):es≠[]→z=sz:=by
  intro hne
  cases es with
  | nil=>exact absurd rfl hne
  | cons e es=>
    have:=(he.get 0 e (by simp)).1
    simp [zeH] at h
    omega
theorem zEf {x:Option zaa} {d m k:Nat} (h:zio x d m=some k):k=d∨k≤m:=by
  unfold zio at h
  split at h
  · left;simpa using h.symm
  · split at h
    · rename_i i hi
      right
      have:i.toNat=k:=by simpa using h
      omega
    · simp at h
  · simp at h
def zRI (P:Program) (t:TypeId) (sz:Nat):SK→Prop
  | .str=>P.underlying t=some .string
  | .slc=>∃ e,P.underlying t=some (.slice e)∧szT P e=some sz
  | .arr m=>∃ e,P.underlying t=some (.array m e)∧szT P e=some sz
theorem zy7 {t:TypeId} {k:SK} {sz:Nat} {x:zaa} {cx:Value} {lo hi mx:Option zaa} {clo chi cmx:Option Value} (hx:Rep s x cx)
    (hlo:(lo=none∧clo=none)∨∃ v cv,lo=some v∧clo=some cv∧Rep s v cv)
    (hhi:(hi=none∧chi=none)∨∃ v cv,hi=some v∧chi=some cv∧Rep s v cv) (hmx:(mx=none∧cmx=none)∨∃ v cv,mx=some v∧cmx=some cv∧Rep s v cv)
    (hh:mx.isSome=true→hi.isSome=true) (ht:zRI P t sz k)
    {v:zaa} (hv:zc0 k sz x lo hi mx=some v) (w:World):∃ cv,(Instr.sliceAt t cx clo chi cmx).run P w=.ok cv w∧Rep s v cv:=by
  unfold zc0 at hv
  split at hv
  ·
    rename_i str
    cases hx
    split at hv
    · simp at hv
    · rename_i hmn
      obtain ⟨h,e2,hv⟩:=bind_some hv
      obtain ⟨l,e3,hv⟩:=bind_some hv
      obtain rfl:=Option.some.inj hv
      have hm0:mx=none:=by simpa using hmn
      subst hm0
      have hcm:cmx=none:=by
        rcases hmx with ⟨_,h⟩ | ⟨_,_,h,_⟩
        · exact h
        · simp at h
      subst hcm
      obtain ⟨mc,hr,h1,h2,h3,_,_⟩:=zfb (P:=P) (isS:=false) (cap:=str.size) hlo hhi hmx (capA:=str.size) (by simp [zio]) e2 e3 (Nat.le_refl _) hh w
      exact ⟨_,by simp [Instr.sliceAt,Instr.slice,run_underlying ht,hr],.str _⟩
  ·
    obtain ⟨e,ht1,ht2⟩:=ht
    cases hx
    obtain ⟨m,e1,hv⟩:=bind_some hv
    obtain ⟨h,e2,hv⟩:=bind_some hv
    obtain ⟨l,e3,hv⟩:=bind_some hv
    obtain rfl:=Option.some.inj hv
    obtain ⟨mc,hr,h1,h2,h3,h4,h5⟩:=zfb (P:=P) (isS:=true) (cap:=0) hlo hhi hmx e1 e2 e3 (Nat.le_refl _) hh w
    have hmc:mc=0:=by
      cases hm:mx with
      | none=>exact (h5 hm).1
      | some _=>have:=h4 (by simp [hm]);omega
    have hh0:h=0:=by
      cases hhi':hi with
      | none=>exact h3 hhi'
      | some _=>
        have:=h2 (by simp [hhi'])
        cases hm:mx with
        | none=>have:=(h5 hm).2;omega
        | some _=>have:=h4 (by simp [hm]);omega
    have hl0:l=0:=by omega
    subst hmc hh0 hl0
    exact ⟨_,by simp [Instr.sliceAt,Instr.slice,run_underlying ht1,hr,zaq ht2],.nsl⟩
  ·
    rename_i c es
    obtain ⟨e,ht1,ht2⟩:=ht
    obtain ⟨m,e1,hv⟩:=bind_some hv
    obtain ⟨h,e2,hv⟩:=bind_some hv
    obtain ⟨l,e3,hv⟩:=bind_some hv
    split at hv
    · rename_i hz
      obtain rfl:=Option.some.inj hv
      cases hx with
      | vsl _ _ X o sz' cc n' he hn hc hcl=>
        subst hn
        obtain ⟨mc,hr,h1,h2,h3,h4,h5⟩:=zfb (P:=P) (isS:=true) (cap:=cc) hlo hhi hmx e1 e2 e3 hc hh w
        have hhm:h≤es.length:=by
          cases hhi':hi with
          | none=>rw [h3 hhi'];exact Nat.le_refl _
          | some _=>
            have:=h2 (by simp [hhi'])
            cases hm:mx with
            | none=>have:=(h5 hm).2;omega
            | some _=>have:=h4 (by simp [hm]);omega
        have hmch:h≤mc:=by
          cases hm:mx with
          | none=>have:=(h5 hm).1;omega
          | some _=>
            have:=h4 (by simp [hm])
            have:=h2 (hh (by simp [hm]))
            omega
        refine ⟨.slice (if mc=l then some ⟨X,o,none⟩ else (some (⟨X,o,none⟩:Addr)).map (·.add (l*sz))) (h - l) (mc - l),by simp [Instr.sliceAt,Instr.slice,run_underlying ht1,hr,zaq ht2],?_⟩
        have := zy5 he h1 hmch hhm ((mx.isSome && h == m) || (c && h == es.length)) (fun hcc => by
          simp only [Bool.or_eq_true,Bool.and_eq_true,beq_iff_eq] at hcc
          rcases hcc with ⟨p,q⟩ | ⟨p,q⟩
          · have:=(h4 p).1;omega
          · have:=hcl p
            cases hm:mx with
            | none=>have:=(h5 hm).1;omega
            | some _=>have:=h4 (by simp [hm]);omega) (zsk he hz)
        simpa using this
      | vsl0 _ a0 cc hcl hz0=>
        obtain ⟨mc,hr,h1,h2,h3,h4,h5⟩:=zfb (P:=P) (isS:=true) (cap:=cc) hlo hhi hmx e1 e2 e3 (Nat.zero_le _) hh w
        have hh0:h=0:=by
          cases hhi':hi with
          | none=>exact h3 hhi'
          | some _=>
            have:=h2 (by simp [hhi'])
            cases hm:mx with
            | none=>have:=(h5 hm).2;simp at this;omega
            | some _=>have:=h4 (by simp [hm]);simp at this;omega
        have hl0:l=0:=by omega
        subst hh0 hl0
        have hr':(Instr.sliceBounds true 0 cc clo chi cmx).run P w=.ok (0,0,mc) w:=hr
        refine ⟨.slice (if mc=0 then a0 else a0.map (·.add (0*sz))) (0 - 0) (mc - 0),by simp [Instr.sliceAt,Instr.slice,run_underlying ht1,hr',zaq ht2],?_⟩
        simp only [zwz,List.take_nil,List.drop_nil,Nat.sub_zero]
        refine .vsl0 _ _ _ (fun hcc=>?_) (fun hn=>?_)
        · simp only [Bool.or_eq_true,Bool.and_eq_true,beq_iff_eq] at hcc
          rcases hcc with ⟨p,q⟩ | ⟨p,q⟩
          · have:=(h4 p).1;omega
          · have:=hcl p
            cases hm:mx with
            | none=>have:=(h5 hm).1;omega
            | some _=>have:=h4 (by simp [hm]);simp at this;omega
        · have ha:a0=none:=by
            split at hn
            · exact hn
            · simpa using hn
          have:=hz0 ha
          cases hm:mx with
          | none=>have:=(h5 hm).1;omega
          | some _=>have:=h4 (by simp [hm]);simp at this;omega
    · simp at hv
  ·
    rename_i tk es
    obtain ⟨e,ht1,ht2⟩:=ht
    obtain ⟨m,e1,hv⟩:=bind_some hv
    obtain ⟨h,e2,hv⟩:=bind_some hv
    obtain ⟨l,e3,hv⟩:=bind_some hv
    split at hv
    · rename_i hz
      obtain rfl:=Option.some.inj hv
      cases hx with
      | gsl _ _ X o sz' cc m' n' he hc hn htk hm' hvv=>
        subst hn
        obtain ⟨mc,hr,h1,h2,h3,h4,h5⟩:=zfb (P:=P) (isS:=true) (cap:=cc) hlo hhi hmx e1 e2 e3 hc hh w
        have hhm:h≤es.length:=by
          cases hhi':hi with
          | none=>rw [h3 hhi'];exact Nat.le_refl _
          | some _=>
            have:=h2 (by simp [hhi'])
            cases hm:mx with
            | none=>have:=(h5 hm).2;omega
            | some _=>have:=h4 (by simp [hm]);omega
        have hmch:h≤mc:=by
          cases hm:mx with
          | none=>have:=(h5 hm).1;omega
          | some _=>
            have:=h4 (by simp [hm])
            have:=h2 (hh (by simp [hm]))
            omega
        refine ⟨.slice (if mc=l then some ⟨X,o,none⟩ else (some (⟨X,o,none⟩:Addr)).map (·.add (l*sz))) (h - l) (mc - l),by simp [Instr.sliceAt,Instr.slice,run_underlying ht1,hr,zaq ht2],?_⟩
        have := zy5 he h1 hmch hhm (mx.isSome && h == m) (fun hcc => by
          simp only [Bool.and_eq_true,beq_iff_eq] at hcc
          have:=(h4 hcc.1).1;omega) (zsk he hz)
        simpa using this
    · simp at hv
  ·
    rename_i b off s0 n0 cap
    obtain ⟨e,ht1,ht2⟩:=ht
    split at hv
    · simp at hv
    · rename_i hsz
      have hsz':s0=sz:=by simpa using hsz
      subst hsz'
      obtain ⟨m,e1,hv⟩:=bind_some hv
      obtain ⟨h,e2,hv⟩:=bind_some hv
      obtain ⟨l,e3,hv⟩:=bind_some hv
      cases hx with
      | sl _ _ _ _ cc X _ hb hc hcap hkk=>
        have hcA:cap.getD n0≤cc:=by
          cases hcp:cap with
          | none=>simpa using hc
          | some k=>simp;have:=hcap k hcp;omega
        obtain ⟨mc,hr,h1,h2,h3,h4,h5⟩:=zfb (P:=P) (isS:=true) (cap:=cc) hlo hhi hmx e1 e2 e3 hcA hh w
        have hnA:n0≤cc:=hc
        have hmch:h≤mc:=by
          cases hm:mx with
          | none=>
            have:=(h5 hm).1
            cases hhi':hi with
            | none=>have:=h3 hhi';omega
            | some _=>have:=h2 (by simp [hhi']);have:=(h5 hm).2;omega
          | some _=>
            have:=h4 (by simp [hm])
            have:=h2 (hh (by simp [hm]))
            omega
        refine ⟨.slice (if mc=l then some ⟨X,off,none⟩ else (some (⟨X,off,none⟩:Addr)).map (·.add (l*s0))) (h - l) (mc - l),by simp [Instr.sliceAt,Instr.slice,run_underlying ht1,hr,zaq ht2],?_⟩
        split at hv
        · rename_i hhl
          obtain rfl:=Option.some.inj hv
          rw [show h - l=0 by omega]
          refine .vsl0 _ _ _ (fun hcc=>?_) (fun hn=>?_)
          · simp only [Bool.or_eq_true,Bool.and_eq_true,beq_iff_eq] at hcc
            rcases hcc with ⟨p,q⟩ | ⟨p,q⟩
            · have:=(h4 p).1;omega
            · have hm0 : mx = none := by simpa using p
              have:=(h5 hm0).1
              have:=hcap l q
              omega
          · split at hn <;> simp at hn
        · rename_i hhl
          obtain rfl:=Option.some.inj hv
          have hne:¬mc=l:=by omega
          simp only [hne,if_false,Option.map_some,zeR]
          refine .sl b (off+l*s0) s0 (h - l) (mc - l) X _ hb (by omega) (fun k hk=>?_) (fun hcn=>?_)
          case refine_2=>
            have hm:mx=none:=by cases mx <;> simp_all
            have hcn':cap=none:=by cases cap <;> simp_all
            obtain ⟨vs,e0,fz,k1,k2⟩:=hkk hcn'
            refine ⟨vs,e0,fz,k1,?_⟩
            have hmc:=(h5 hm).1
            have hle:l*s0+(mc - l)*s0=mc*s0:=by rw [← Nat.add_mul];congr 1;omega
            have hmm:mc*s0≤cc*s0:=Nat.mul_le_mul_right _ (by omega)
            omega
          cases hm:mx with
          | none=>
            have:=(h5 hm).1
            simp [hm] at hk
            obtain ⟨a',ha',rfl⟩:=hk
            have:=hcap a' ha'
            omega
          | some _=>
            have:=h4 (by simp [hm])
            simp [hm] at hk
            omega
  ·
    rename_i n0 b off
    obtain ⟨e,ht1,ht2⟩:=ht
    obtain ⟨m,e1,hv⟩:=bind_some hv
    obtain ⟨h,e2,hv⟩:=bind_some hv
    obtain ⟨l,e3,hv⟩:=bind_some hv
    cases hx with
    | ptr _ _ X hb=>
      obtain ⟨mc,hr,h1,h2,h3,h4,h5⟩:=zfb (P:=P) (isS:=false) (cap:=n0) hlo hhi hmx e1 e2 e3 (Nat.le_refl _) hh w
      have hmm:mc=m:=by
        cases hm:mx with
        | none=>have:=h5 hm;omega
        | some _=>have:=h4 (by simp [hm]);omega
      subst hmm
      have hmch:h≤mc:=by
        cases hm:mx with
        | none=>
          have:=(h5 hm).1
          cases hhi':hi with
          | none=>have:=h3 hhi';omega
          | some _=>have:=h2 (by simp [hhi']);omega
        | some _=>have:=h2 (hh (by simp [hm]));omega
      refine ⟨.slice (some (if mc=l then ⟨X,off,none⟩ else (⟨X,off,none⟩:Addr).add (l*sz))) (h - l) (mc - l),by simp [Instr.sliceAt,Instr.sureAddr,run_underlying ht1,hr,zaq ht2],?_⟩
      split at hv
      · rename_i hhl
        obtain rfl:=Option.some.inj hv
        rw [show h - l=0 by omega]
        exact .vsl0 _ _ _ (fun hcc=>by simp at hcc;omega) (fun hn=>by simp at hn)
      · rename_i hhl
        obtain rfl:=Option.some.inj hv
        rw [if_neg (by omega),zeR]
        exact .sl b (off+l*sz) sz (h - l) (mc - l) X _ hb (by omega) (fun k hk=>by simp at hk;omega) (fun h=>by simp at h)
  ·
    rename_i n0 cs off
    obtain ⟨e,ht1,ht2⟩:=ht
    obtain ⟨m,e1,hv⟩:=bind_some hv
    obtain ⟨h,e2,hv⟩:=bind_some hv
    obtain ⟨l,e3,hv⟩:=bind_some hv
    split at hv
    · rename_i hcs
      obtain rfl:=Option.some.inj hv
      cases hx with
      | vptr _ _ X o hrr=>
        have hmn:m≤n0:=by have:=zEf e1;omega
        have hhn:h≤n0:=by have:=zEf e2;omega
        obtain ⟨mc,hr,h1,h2,h3,h4,h5⟩:=zfb (P:=P) (isS:=false) (cap:=n0) hlo hhi hmx e1 e2 e3 (Nat.le_refl _) hh w
        have hmm:mc=m:=by
          cases hm:mx with
          | none=>have:=h5 hm;omega
          | some _=>have:=h4 (by simp [hm]);omega
        subst hmm
        have hmch:h≤mc:=by
          cases hm:mx with
          | none=>
            have:=(h5 hm).1
            cases hhi':hi with
            | none=>have:=h3 hhi';omega
            | some _=>have:=h2 (by simp [hhi']);omega
          | some _=>have:=h2 (hh (by simp [hm]));omega
        have he:zg1 s X sz (o+off) (chunks sz n0 (cs.drop off)):=zmp n0 (hrr.drop off) (by simp;omega)
        have hlen:(chunks sz n0 (cs.drop off)).length=n0:=zbW _ _ _
        have hrep:=zy5 he h1 hmch (by rw [hlen];exact hhn) (h==mc) (fun hc=>by simp at hc;omega) (fun _=>rfl)
        refine ⟨.slice (some (if mc=l then ⟨X,o+off,none⟩ else (⟨X,o+off,none⟩:Addr).add (l*sz))) (h - l) (mc - l),by simp [Instr.sliceAt,Instr.sureAddr,run_underlying ht1,hr,zaq ht2],?_⟩
        have e4:(if mc=l then some (⟨X,o+off,none⟩:Addr) else (some (⟨X,o+off,none⟩:Addr)).map (·.add (l*sz)))=some (if mc=l then ⟨X,o+off,none⟩ else (⟨X,o+off,none⟩:Addr).add (l*sz)):=by split <;> rfl
        rw [← e4]
        exact hrep
    · simp at hv
  · simp at hv
end
end Go.Av
