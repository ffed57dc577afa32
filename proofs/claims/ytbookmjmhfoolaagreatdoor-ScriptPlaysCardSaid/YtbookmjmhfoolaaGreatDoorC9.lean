/- What script.Text gives, over strings.Builder and strconv.Itoa, whatever the answers are. -/
import Derived.Shelf.Lay
import Derived.Shelf.LaySoft
import Derived.Shelf.Strings.BuilderK
import Derived.Shelf.Strconv.Itoa4
import Derived.Test.YtbookmjmhfoolaaGreatDoorProg
import Derived.KernelRfl
import Derived.Test.YtbookmjmhfoolaaGreatDoorV6
import Derived.WalkKit
import Derived.BigCall
import Derived.Lib.ItoaLen
set_option linter.unusedSimpArgs false
set_option linter.unusedVariables false
namespace Go.Proofs
open Go.Shelf
def zkZ:Ren:=⟨fun | 240=>43 | 276=>76 | 167=>22 | 166=>20 | 169=>23 | n=>n,fun | 0=>0 | 3=>3 | 4=>4 | 5=>5 | 9=>9 | 20=>20 | 37=>22 | 70=>55 | 72=>57 | 75=>59 | 80=>65 | 164=>179 | 127=>126 | n=>n,fun n=>n⟩
theorem zqq:Lays.n167 Tryz.prog zkZ where
 mixed:=by kernel_rfl
 f167:=Tryz.func22.trans (congrArg some (by kernel_rfl))
 f240:=Tryz.func43.trans (congrArg some (by kernel_rfl))
 f276:=Tryz.func76.trans (congrArg some (by kernel_rfl))
 t0:=Tryz.underlying0
 a0:=Tryz.isAgg0
 z0:=Tryz.sizeOf0
 v0:=Tryz.zeroValue0
 t4:=Tryz.underlying4
 a4:=Tryz.isAgg4
 z4:=Tryz.sizeOf4
 v4:=Tryz.zeroValue4
 t5:=Tryz.underlying5
 a5:=Tryz.isAgg5
 z5:=Tryz.sizeOf5
 v5:=Tryz.zeroValue5
 t9:=Tryz.underlying9
 a9:=Tryz.isAgg9
 z9:=Tryz.sizeOf9
 v9:=Tryz.zeroValue9
 t20:=Tryz.underlying20
 a20:=Tryz.isAgg20
 z20:=Tryz.sizeOf20
 v20:=Tryz.zeroValue20
 t37:=Tryz.underlying22
 a37:=Tryz.isAgg22
 z37:=Tryz.sizeOf22
 v37:=Tryz.zeroValue22
 t70:=Tryz.underlying55
 a70:=Tryz.isAgg55
 z70:=Tryz.sizeOf55
 v70:=Tryz.zeroValue55
 t72:=Tryz.underlying57
 a72:=Tryz.isAgg57
 z72:=Tryz.sizeOf57
 v72:=Tryz.zeroValue57
 t75:=Tryz.underlying59
 a75:=Tryz.isAgg59
 z75:=Tryz.sizeOf59
 v75:=Tryz.zeroValue59
 t164:=Tryz.underlying179
 a164:=Tryz.isAgg179
 z164:=Tryz.sizeOf179
 v164:=Tryz.zeroValue179
theorem zqs:Lays.n166 Tryz.prog zkZ where
 mixed:=by kernel_rfl
 f166:=Tryz.func20.trans (congrArg some (by kernel_rfl))
 f240:=Tryz.func43.trans (congrArg some (by kernel_rfl))
 f276:=Tryz.func76.trans (congrArg some (by kernel_rfl))
 t0:=Tryz.underlying0
 a0:=Tryz.isAgg0
 z0:=Tryz.sizeOf0
 v0:=Tryz.zeroValue0
 t3:=Tryz.underlying3
 a3:=Tryz.isAgg3
 z3:=Tryz.sizeOf3
 v3:=Tryz.zeroValue3
 t4:=Tryz.underlying4
 a4:=Tryz.isAgg4
 z4:=Tryz.sizeOf4
 v4:=Tryz.zeroValue4
 t9:=Tryz.underlying9
 a9:=Tryz.isAgg9
 z9:=Tryz.sizeOf9
 v9:=Tryz.zeroValue9
 t20:=Tryz.underlying20
 a20:=Tryz.isAgg20
 z20:=Tryz.sizeOf20
 v20:=Tryz.zeroValue20
 t37:=Tryz.underlying22
 a37:=Tryz.isAgg22
 z37:=Tryz.sizeOf22
 v37:=Tryz.zeroValue22
 t70:=Tryz.underlying55
 a70:=Tryz.isAgg55
 z70:=Tryz.sizeOf55
 v70:=Tryz.zeroValue55
 t72:=Tryz.underlying57
 a72:=Tryz.isAgg57
 z72:=Tryz.sizeOf57
 v72:=Tryz.zeroValue57
 t75:=Tryz.underlying59
 a75:=Tryz.isAgg59
 z75:=Tryz.sizeOf59
 v75:=Tryz.zeroValue59
 t164:=Tryz.underlying179
 a164:=Tryz.isAgg179
 z164:=Tryz.sizeOf179
 v164:=Tryz.zeroValue179
theorem zqt:Lays.n169 Tryz.prog zkZ where
 mixed:=by kernel_rfl
 f169:=Tryz.func23.trans (congrArg some (by kernel_rfl))
 t0:=Tryz.underlying0
 a0:=Tryz.isAgg0
 z0:=Tryz.sizeOf0
 v0:=Tryz.zeroValue0
 t3:=Tryz.underlying3
 a3:=Tryz.isAgg3
 z3:=Tryz.sizeOf3
 v3:=Tryz.zeroValue3
 t9:=Tryz.underlying9
 a9:=Tryz.isAgg9
 z9:=Tryz.sizeOf9
 v9:=Tryz.zeroValue9
 t37:=Tryz.underlying22
 a37:=Tryz.isAgg22
 z37:=Tryz.sizeOf22
 v37:=Tryz.zeroValue22
 t70:=Tryz.underlying55
 a70:=Tryz.isAgg55
 z70:=Tryz.sizeOf55
 v70:=Tryz.zeroValue55
 t72:=Tryz.underlying57
 a72:=Tryz.isAgg57
 z72:=Tryz.sizeOf57
 v72:=Tryz.zeroValue57
 t127:=Tryz.underlying126
 a127:=Tryz.isAgg126
 z127:=Tryz.sizeOf126
 v127:=Tryz.zeroValue126
theorem bX:Builder.Extra Tryz.prog zkZ where
 sizeBuilder:=by kernel_rfl
 liesBuilder:=by kernel_rfl
 t5:=Tryz.underlying5
 a5:=Tryz.isAgg5
 z5:=Tryz.sizeOf5
 v5:=Tryz.zeroValue5
 infoByte:=by kernel_rfl
 cellsByte:=by kernel_rfl
 sizeByte:=by kernel_rfl
 neB5:=by decide
theorem zqu:Tryz.prog.globalNamed "internal/strconv.uint64pow10"=some 0:=by kernel_rfl
def ztd:Ren:=⟨fun | 171=>21 | 243=>44 | 246=>77 | 283=>119 | 284=>120 | 285=>121 | 286=>122 | 129=>170 | 317=>169 | 318=>171 | 319=>172 | 320=>173 | 337=>205 | 338=>206 | n=>n,fun | 0=>0 | 2=>2 | 3=>3 | 4=>4 | 5=>5 | 9=>9 | 20=>20 | 37=>22 | 46=>64 | 51=>287 | 53=>120 | 171=>248 | 173=>251 | 212=>323 | 213=>324 | 232=>97 | 233=>380 | n=>n,fun | 17=>0 | 18=>1 | 19=>2 | n=>n⟩
theorem zqv:LaysM.n171 Tryz.prog ztd where
 mixed:=by kernel_rfl
 f129:=Tryz.func170.trans (congrArg some (by kernel_rfl))
 f171:=Tryz.func21.trans (congrArg some (by kernel_rfl))
 f243:=Tryz.func44.trans (congrArg some (by kernel_rfl))
 f246:=Tryz.func77.trans (congrArg some (by kernel_rfl))
 f283:=Tryz.func119.trans (congrArg some (by kernel_rfl))
 f284:=Tryz.func120.trans (congrArg some (by kernel_rfl))
 f285:=Tryz.func121.trans (congrArg some (by kernel_rfl))
 f286:=Tryz.func122.trans (congrArg some (by kernel_rfl))
 f317:=Tryz.func169.trans (congrArg some (by kernel_rfl))
 f318:=Tryz.func171.trans (congrArg some (by kernel_rfl))
 f319:=Tryz.func172.trans (congrArg some (by kernel_rfl))
 f320:=Tryz.func173.trans (congrArg some (by kernel_rfl))
 f337:=Tryz.func205.trans (congrArg some (by kernel_rfl))
 f338:=Tryz.func206.trans (congrArg some (by kernel_rfl))
 t0:=Tryz.underlying0
 a0:=Tryz.isAgg0
 z0:=Tryz.sizeOf0
 v0:=Tryz.zeroValue0
 t2:=Tryz.underlying2
 a2:=Tryz.isAgg2
 z2:=Tryz.sizeOf2
 v2:=Tryz.zeroValue2
 t3:=Tryz.underlying3
 a3:=Tryz.isAgg3
 z3:=Tryz.sizeOf3
 v3:=Tryz.zeroValue3
 t4:=Tryz.underlying4
 a4:=Tryz.isAgg4
 z4:=Tryz.sizeOf4
 v4:=Tryz.zeroValue4
 t5:=Tryz.underlying5
 a5:=Tryz.isAgg5
 z5:=Tryz.sizeOf5
 v5:=Tryz.zeroValue5
 t9:=Tryz.underlying9
 a9:=Tryz.isAgg9
 z9:=Tryz.sizeOf9
 v9:=Tryz.zeroValue9
 t20:=Tryz.underlying20
 a20:=Tryz.isAgg20
 z20:=Tryz.sizeOf20
 v20:=Tryz.zeroValue20
 t37:=Tryz.underlying22
 a37:=Tryz.isAgg22
 z37:=Tryz.sizeOf22
 v37:=Tryz.zeroValue22
 t46:=Tryz.underlying64
 a46:=Tryz.isAgg64
 z46:=Tryz.sizeOf64
 v46:=Tryz.zeroValue64
 t51:=Tryz.underlying287
 a51:=Tryz.isAgg287
 z51:=Tryz.sizeOf287
 v51:=Tryz.zeroValue287
 t53:=Tryz.underlying120
 a53:=Tryz.isAgg120
 z53:=Tryz.sizeOf120
 v53:=Tryz.zeroValue120
 t171:=Tryz.underlying248
 a171:=Tryz.isAgg248
 z171:=Tryz.sizeOf248
 v171:=Tryz.zeroValue248
 t173:=Tryz.underlying251
 a173:=Tryz.isAgg251
 z173:=Tryz.sizeOf251
 v173:=Tryz.zeroValue251
 t212:=Tryz.underlying323
 a212:=Tryz.isAgg323
 z212:=Tryz.sizeOf323
 v212:=Tryz.zeroValue323
 t213:=Tryz.underlying324
 a213:=Tryz.isAgg324
 z213:=Tryz.sizeOf324
 t232:=Tryz.underlying97
 a232:=Tryz.isAgg97
 z232:=Tryz.sizeOf97
 v232:=Tryz.zeroValue97
 t233:=Tryz.underlying380
 a233:=Tryz.isAgg380
 z233:=Tryz.sizeOf380
 v233:=Tryz.zeroValue380
 g17:=by kernel_rfl
 g18:=by kernel_rfl
 g19:=by kernel_rfl
 i0:=by kernel_rfl
 i2:=by kernel_rfl
 i3:=by kernel_rfl
 i4:=by kernel_rfl
 i5:=by kernel_rfl
 i9:=by kernel_rfl
 i20:=by kernel_rfl
 i37:=by kernel_rfl
 i46:=by kernel_rfl
 i51:=by kernel_rfl
 i53:=by kernel_rfl
 i171:=by kernel_rfl
 i173:=by kernel_rfl
 i212:=by kernel_rfl
 i232:=by kernel_rfl
 i233:=by kernel_rfl
 m17:=by kernel_rfl
 m18:=by kernel_rfl
 m19:=by kernel_rfl
abbrev Uy:TypeId:=57
open Go.RowKit in
theorem b_WriteString (B b:Nat)(bs:List Value)(s:ByteArray)(w:World)(h:Lib.IsBuilderF Uy 5 B b bs w)(hlen:bs.length+s.size<=140737488355328)(hBw:B<=w.heap.size):
  Calls Tryz.prog 20 #[.pointer (some ⟨b,0,none⟩),.string s] w fun e w'=>e=.returned (.tuple #[.int .i64 s.size,.nilIface])/\Lib.IsBuilderF Uy 5 B b (bs++Lib.strCells s) w'/\Below B w w'/\Lib.OthersKept 5 (some b) w w':=
 (Any.Builder_WriteString_k zqs bX B b bs s w h hlen hBw).mono fun e w' h=>⟨h.1,.inr h.2.1,h.2.2⟩
open Go.RowKit in
theorem b_WriteByte (B b:Nat)(bs:List Value)(c:Int)(w:World)(h:Lib.IsBuilderF Uy 5 B b bs w)(hlen:bs.length+1<=140737488355328)(hBw:B<=w.heap.size):
  Calls Tryz.prog 22 #[.pointer (some ⟨b,0,none⟩),.int .u8 c] w fun e w'=>e=.returned .nilIface/\Lib.IsBuilderF Uy 5 B b (bs++[.int .u8 c]) w'/\Below B w w'/\Lib.OthersKept 5 (some b) w w':=
 (Any.Builder_WriteByte_k zqq bX B b bs c w h hlen hBw).mono fun e w' h=>⟨h.1,.inr h.2.1,h.2.2⟩
open Go.RowKit in
theorem b_String (B b:Nat)(l:List UInt8)(w:World)(h:Lib.IsBuilderF Uy 5 B b (Lib.byteCells l) w)(hBw:B<=w.heap.size):
  Calls Tryz.prog 23 #[.pointer (some ⟨b,0,none⟩)] w fun e w'=>e=.returned (.string ⟨l.toArray⟩)/\Below B w w':=
 (Any.Builder_String_any_f zqt bX B b l w h hBw).mono fun e w' h=>⟨h.1,h.2.2⟩
theorem zdm {w w':World}{B:Nat}{zs:List Int}(h:Lib.TabIs Tryz.prog w "internal/strconv.uint64pow10" .u64 zs)(hb:RowKit.Below B w w')(hB:w.heap.size<=B):Lib.TabIs Tryz.prog w' "internal/strconv.uint64pow10" .u64 zs:=by
 have hg:Tryz.prog.globalNamed "internal/strconv.uint64pow10"=some ((Tryz.prog.globalNamed "internal/strconv.uint64pow10").getD 0):=by kernel_rfl
 generalize (Tryz.prog.globalNamed "internal/strconv.uint64pow10").getD 0=g at hg;unfold Lib.TabIs World.var? at*;rw [hg] at h |-;simp only [Option.bind_some] at h |-;have hlt:g < w.heap.size:=by
  rcases Nat.lt_or_ge g w.heap.size with h' | h'
  ·exact h'
  ·rw [Array.getElem?_eq_none h'] at h;cases h
 rw [hb.block g (by omega)];exact h
theorem zok (n:Int)(h0: -9223372036854775808<=n)(h1:n<=9223372036854775807)(w:World)(htab:Lib.TabIs Tryz.prog w "internal/strconv.uint64pow10" .u64 Lib.pow10Tab):
  Calls Tryz.prog 21 #[.int .i64 n] w fun e w'=>e=.returned (.string ⟨(Lib.itoa n).toArray⟩)/\RowKit.Below w.heap.size w w':=
 (Any.strconv_Itoa zqv n h0 h1 w htab).mono fun e w' h => ⟨h.1, by
  obtain ⟨_,k,os,rfl⟩:=h;exact ⟨rfl,rfl,rfl,by simp [Sort.grow],fun i hi=>by simp [Sort.grow,Array.getElem?_append,hi]⟩⟩
theorem zdn {T e:TypeId}{B b:Nat}{bs:List Value}{W W':World}(h:Lib.IsBuilderF T e B b bs W)(hb:RowKit.Below W.heap.size W W'):Lib.IsBuilderF T e B b bs W':=by
 refine h.imp ?_ ?_ <;>
 ·intro x;have hlt:=x.lt;obtain ⟨hB,v,hv,ho,hne⟩:=x;exact ⟨hB,v,(hb.block b hlt).trans hv,ho.kept (row:=none) ⟨hb.os,hb.tape,hb.output,hb.size,fun k hk _=>hb.block k hk⟩ (Classical.em _),hne⟩
end Go.Proofs
namespace Go.Proofs
open Go.RowKit Go.Av
theorem EO {w w':World}(h:Below w.heap.size w w'){p:Addr}{v:Value}(hc:w.cell? p=some v):w'.cell? p=some v:=(h.cell (World.block_lt_of_cell? _ _ hc)).trans hc
theorem zrF (x:UInt8)(l:List UInt8):Lib.byteCells l++[.int .u8 (x.toNat:Int)]=Lib.byteCells (l++[x]):=by rw [Lib.byteCells_append];rfl
theorem zrG (k:Nat)(h:k < (⟨#[48,49,50,51,52,53,54,55,56,57,97,98,99,100,101,102]⟩:ByteArray).size):(((⟨#[48,49,50,51,52,53,54,55,56,57,97,98,99,100,101,102]⟩:ByteArray)[k]'h).toNat:Int)=((Qi.getD k 0).toNat:Int):=by
 have:∀ (k:Fin 16),((⟨#[48,49,50,51,52,53,54,55,56,57,97,98,99,100,101,102]⟩:ByteArray)[k.1]'(k.2)).toNat=(Qi.getD k.1 0).toNat:=by decide
 exact congrArg Int.ofNat (this ⟨k,h⟩)
theorem YZ (l:List (Int × List Nat))(k:Nat)(x:Int × List Nat)(h:l[k]?=some x):iL (l.take (k+1))=iL (l.take k)++L5 x:=by
 rw [List.take_add_one,h];simp [iL]
theorem zho (l:List Nat)(k:Nat)(x:Nat)(h:l[k]?=some x):(l.take (k+1)).flatMap uv=(l.take k).flatMap uv++uv x:=by
 rw [List.take_add_one,h];simp
theorem Tn (l:List Nat):(l.flatMap uv).length=2*l.length:=by
 induction l with
 | nil=>rfl
 | cons x l ih=>simp only [List.flatMap_cons,List.length_append,ih,uv,List.length_cons,List.length_nil];omega
theorem zkK (x:Int × List Nat)(h0: -9223372036854775808<=x.1)(h1:x.1<=9223372036854775807)(hm:x.2.length<=4000):(L5 x).length<=9000:=by
 have:=Lib.itoa_length_le x.1 h0 h1;unfold L5;simp only [List.length_append,Tn,List.length_cons,List.length_nil]
 split <;> simp <;> omega
def BI (w wr:World)(acc:List UInt8):Prop:=Lib.IsBuilderF Uy 5 w.heap.size w.heap.size (Lib.byteCells acc) wr/\Below w.heap.size w wr
def CA (wr:World)(A:Nat)(x:Value)(v:Value):Prop:=wr.heap[A]?=some (.cells #[x,v] 37)
theorem CA.c0 {wr:World}{A:Nat}{x v:Value}(h:CA wr A x v):wr.cell? ⟨A,0,none⟩=some x:=by rw [Lib.cell_of_heap h];rfl
theorem CA.c1 {wr:World}{A:Nat}{x v:Value}(h:CA wr A x v):wr.cell? ⟨A,1,none⟩=some v:=by rw [Lib.cell_of_heap h];rfl
theorem CA.kept {w W W':World}{A:Nat}{x v:Value}(h:CA W A x v)(k:Lib.OthersKept 5 (some w.heap.size) W W')(hA:w.heap.size < A):CA W' A x v:=
 k A _ h (fun e=>by injection e;omega) (fun c fz e=>by cases e)
theorem BI.lt {w W:World}{acc:List UInt8}(h:BI w W acc):w.heap.size < W.heap.size:=h.1.elim (fun h=>h.lt) (fun h=>h.lt)
theorem BI.ws {w W:World}{acc:List UInt8}(h:BI w W acc)(s:List UInt8)(hl:acc.length+s.length<=100000000):
  Calls Tryz.prog 20 #[.pointer (some ⟨w.heap.size,0,none⟩),.string ⟨s.toArray⟩] W fun e w'=>e=.returned (.tuple #[.int .i64 s.length,.nilIface])/\BI w w' (acc++s)/\Lib.OthersKept 5 (some w.heap.size) W w':=
 (b_WriteString _ _ _ ⟨s.toArray⟩ W h.1 (by rw [Lib.byteCells_length];simp [ByteArray.size];omega) h.2.size).mono fun e w' g=>⟨by simpa [ByteArray.size] using g.1,⟨by rw [Lib.byteCells_append];simpa only [Lib.strCells_eq] using g.2.1,h.2.trans g.2.2.1⟩,g.2.2.2⟩
theorem BI.wb {w W:World}{acc:List UInt8}(h:BI w W acc)(x:UInt8)(y:Int)(hy:y=(x.toNat:Int))(hl:acc.length<=100000000):
  Calls Tryz.prog 22 #[.pointer (some ⟨w.heap.size,0,none⟩),.int .u8 y] W fun e w'=>e=.returned .nilIface/\BI w w' (acc++[x])/\Lib.OthersKept 5 (some w.heap.size) W w':=
 (b_WriteByte _ _ _ y W h.1 (by rw [Lib.byteCells_length];omega) h.2.size).mono fun e w' g=>⟨g.1,⟨by rw [<- zrF,<- hy];exact g.2.1,h.2.trans g.2.2.1⟩,g.2.2.2⟩
set_option maxHeartbeats 4000000 in
set_option maxRecDepth 1000000 in
theorem zdz (l:List (Int × List Nat))(v:Value)(w:World)(hv:zhC w v l)(hn:l.length<=1000)(hm:∀ x∈l,x.2.length<=4000)
  (htab:Lib.TabIs Tryz.prog w "internal/strconv.uint64pow10" .u64 Lib.pow10Tab):
  Calls Tryz.prog 11 #[v] w fun e w'=>e=.returned (.string ⟨(iL l).toArray⟩)/\Below w.heap.size w w':=by
 obtain ⟨a,c,rfl,hc,hl⟩:=hv;have h0:BI w (w.alloc (.cells #[.pointer none,.slice none 0 0] Uy)) []:=⟨Lib.IsBuilderF.of (Lib.fresh_isBuilder Uy 5 w),(Below.refl _ w).alloc (Nat.le_refl _) _⟩
 go_enter Tryz.func11,Tryz.ntmps11
 go_wp2
 go_loopw [10] (fun i wr=>∃ k:Nat,i=.int .i64 k/\k<=l.length/\BI w wr (iL (l.take k))/\w.heap.size < wr.heap.size/\(iL (l.take k)).length<=9000*k) (fun i _=>l.length - (Lib.intOf i).toNat)
 case atStart=>exact ⟨0,rfl,Nat.zero_le _,h0,by simp,by simp [iL]⟩
 case round=>
  obtain ⟨k,rfl,hk,hI,hlt,hlen⟩:=hrel;by_cases hkl:k < l.length
  ·obtain ⟨x,hx⟩:∃ x,l[k]?=some x:=⟨l[k],List.getElem?_eq_getElem hkl⟩;obtain ⟨hx0,hx1,X,o,v,rfl,hc0,hc1,hby⟩:=hl k x hx;have hc0':=EO hI.2 hc0;have hc1':=EO hI.2 hc1;obtain ⟨ad,cd,rfl,hcd,hld⟩:=hby;have hxm:=hm x (List.mem_of_getElem? hx);have hil:=Lib.itoa_length_le x.1 hx0 hx1;have hsn:=YZ l k x hx;have hal:=zkK x hx0 hx1 hxm;have hA:CA (wr.alloc (.cells #[.int .i64 x.1,.slice ad x.2.length cd] 37)) wr.heap.size (.int .i64 x.1) (.slice ad x.2.length cd):=heap_alloc_new wr _;clear hl h0
   go_wp2_with (go_at_call 21;refine (zok x.1 hx0 hx1 _ ?tab).mono ?_)
   case tab=>exact zdm htab (hI.2.alloc hI.2.size _) (Nat.le_refl _)
   rintro e W1 ⟨rfl,hb1⟩;have hA1:CA W1 wr.heap.size (.int .i64 x.1) (.slice ad x.2.length cd):=(hb1.block _ (by simp)).trans hA;have hI1:BI w W1 (iL (l.take k)):=⟨zdn (hI.1.alloc _) hb1,(hI.2.alloc hI.2.size _).trans (hb1.mono (by simp;omega))⟩;have hz1:wr.heap.size < W1.heap.size:=by have:=hb1.size;simp at this;omega
   clear hA hb1
   go_wp2_with (go_at_call 20;refine (hI1.ws (Lib.itoa x.1) (by omega)).mono ?_)
   rintro e W2 ⟨rfl,hI2,hk2⟩;have hA2:=hA1.kept hk2 hlt;clear hA1 hI1 hk2;have h20:=hA2.c0;have h21:=hA2.c1;obtain ⟨acc,hacc⟩:∃ acc,acc=iL (l.take k)++Lib.itoa x.1:=⟨_,rfl⟩;have hacl:acc.length<=9000*k+21:=by rw [hacc,List.length_append];omega
   rw [<- hacc] at hI2;obtain ⟨wo,rfl⟩:∃ wo:World,wo=wr:=⟨wr,rfl⟩;by_cases hd:x.2.length=0
   ·have hd0:x.2=[]:=List.length_eq_zero_iff.1 hd;have hz2:=hI2.lt
    go_wp2_with fail
    go_loopw [26] (fun i wi=>∃ j:Nat,i=.int .i64 j/\j<=x.2.length/\BI w wi (acc++(x.2.take j).flatMap uv)/\w.heap.size < wi.heap.size) (fun i _=>x.2.length - (Lib.intOf i).toNat)
    case atStart=>exact ⟨0,rfl,Nat.zero_le _,by simpa using hI2,by omega⟩
    case round=>
     obtain ⟨j,rfl,hj,hIj,hzj⟩:=hrel;have hbl:(acc++(x.2.take j).flatMap uv).length<=10000000:=by simp only [List.length_append,Tn,List.length_take,List.length_cons,List.length_nil];omega
     by_cases hjl:j < x.2.length
     ·omega
     ·go_wp2_with (go_at_call 22;refine (hIj.wb 10 10 rfl (by omega)).mono ?_)
      rintro e W6 ⟨rfl,hI6,hk6⟩;have hz6:=hI6.lt
      go_wp2
      go_roundw
      case rel=>
       have hfin:BI w W6 (iL (l.take (k+1))):=by
        rw [show j=x.2.length by omega,List.take_length,hacc] at hI6;rw [hsn];have hdn:x.2=[]:=hd0;simpa [L5,hdn,List.append_assoc] using hI6
       exact ⟨k+1,by simp,by omega,hfin,by omega,by rw [hsn,List.length_append];omega⟩
      case measure=>simp [Lib.intOf];omega
   ·go_wp2_with (go_at_call 22;refine (hI2.wb 32 32 rfl (by omega)).mono ?_)
    rintro e W3 ⟨rfl,hI3,hk3⟩;have hA3:=hA2.kept hk3 hlt;have h30:=hA3.c0;have h31:=hA3.c1;have hz3:w.heap.size < W3.heap.size:=by have:=(Array.getElem?_eq_some_iff.1 hA3).1;omega
    clear hA2 hI2 hk3 h20 h21
    go_wp2_with fail
    go_loopw [26] (fun i wi=>∃ j:Nat,i=.int .i64 j/\j<=x.2.length/\BI w wi ((acc++[32])++(x.2.take j).flatMap uv)/\w.heap.size < wi.heap.size) (fun i _=>x.2.length - (Lib.intOf i).toNat)
    case atStart=>exact ⟨0,rfl,Nat.zero_le _,by simpa using hI3,by omega⟩
    case round=>
     obtain ⟨j,rfl,hj,hIj,hzj⟩:=hrel;have hbl:((acc++[32])++(x.2.take j).flatMap uv).length<=10000000:=by simp only [List.length_append,Tn,List.length_take,List.length_cons,List.length_nil];omega
     by_cases hjl:j < x.2.length
     ·obtain ⟨y,hy⟩:∃ y,x.2[j]?=some y:=⟨x.2[j],List.getElem?_eq_getElem hjl⟩;obtain ⟨hy0,X',o',rfl,hcy⟩:=hld j y hy;have hcy':=EO hIj.2 hcy;have hjn:=zho x.2 j y hy
      go_wp2_with (go_at_call 22;refine (hIj.wb (Qi.getD (y / 16) 0) _ ?hv (by omega)).mono ?_)
      case hv=>exact zrG _ _
      rintro e W4 ⟨rfl,hI4,hk4⟩;have hz4:=hI4.lt
      go_wp2_with (go_at_call 22;refine (hI4.wb (Qi.getD (y % 16) 0) _ ?hv (by simp only [List.length_append,List.length_cons,List.length_nil] at*;omega)).mono ?_)
      case hv=>exact zrG _ _
      rintro e W5 ⟨rfl,hI5,hk5⟩;have hz5:=hI5.lt
      go_wp2
      go_roundw
      case rel=>exact ⟨j+1,by simp,by omega,by rw [hjn];simpa [uv,List.append_assoc] using hI5,by omega⟩
      case measure=>simp [Lib.intOf];omega
     ·go_wp2_with (go_at_call 22;refine (hIj.wb 10 10 rfl (by omega)).mono ?_)
      rintro e W6 ⟨rfl,hI6,hk6⟩;have hz6:=hI6.lt
      go_wp2
      go_roundw
      case rel=>
       have hfin:BI w W6 (iL (l.take (k+1))):=by
        rw [show j=x.2.length by omega,List.take_length,hacc] at hI6;rw [hsn];have hdn:x.2≠[]:=fun e=>hd (by rw [e];rfl);simpa [L5,hdn,List.append_assoc] using hI6
       exact ⟨k+1,by simp,by omega,hfin,by omega,by rw [hsn,List.length_append];omega⟩
      case measure=>simp [Lib.intOf];omega
  ·go_wp2_with (go_at_call 23;refine (b_String _ _ _ _ hI.1 hI.2.size).mono ?_)
   rintro e W1 ⟨rfl,hb1⟩
   go_wp2
   go_ret
   rw [show k=l.length by omega,List.take_length];exact ⟨rfl,hI.2.trans hb1⟩
end Go.Proofs
