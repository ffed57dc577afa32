/- What script.Text gives, over strings.Builder and strconv.Itoa, and what script.Decode gives, whatever the answers and the bytes are. -/
import Derived.Shelf.Lay
import Derived.Shelf.LaySoft
import Derived.Shelf.Strings.BuilderK
import Derived.Shelf.Strconv.Itoa4
import Derived.Test.YtafkceblllhheaaDoorProg
import Derived.KernelRfl
import Derived.Test.YtafkceblllhheaaDoorV6
import Derived.WalkKit
import Derived.BigCall
import Derived.Lib.ItoaLen
import Derived.WalkLawsBesides
import Derived.Lib.SliceRun
import Derived.Lib.Walk
import Derived.Deep.LoopGhost
import Derived.Tactics2
import Derived.Defers
import Derived.Recover
import Derived.Laws.Pointers
namespace Go.Proofs
open Go.Shelf
set_option linter.unusedVariables false
def bRen : Ren := ⟨fun | 240 => 33 | 276 => 37 | 167 => 17 | 166 => 15 | 169 => 18 | n => n, fun | 0 => 0 | 3 => 3 | 4 => 4 | 5 => 5 | 9 => 9 | 20 => 20 | 37 => 25 | 70 => 54 | 72 => 56 | 75 => 58 | 80 => 64 | 164 => 87 | 127 => 81 | n => n, fun n => n⟩
theorem bn240 : Lays.n240 Tryd.prog bRen where
  mixed := by kernel_rfl
  f240 := Tryd.func33.trans (congrArg some (by kernel_rfl))
  f276 := Tryd.func37.trans (congrArg some (by kernel_rfl))
  t0 := Tryd.underlying0
  a0 := Tryd.isAgg0
  z0 := Tryd.sizeOf0
  v0 := Tryd.zeroValue0
  t4 := Tryd.underlying4
  a4 := Tryd.isAgg4
  z4 := Tryd.sizeOf4
  v4 := Tryd.zeroValue4
  t9 := Tryd.underlying9
  a9 := Tryd.isAgg9
  z9 := Tryd.sizeOf9
  v9 := Tryd.zeroValue9
  t20 := Tryd.underlying20
  a20 := Tryd.isAgg20
  z20 := Tryd.sizeOf20
  v20 := Tryd.zeroValue20
  t70 := Tryd.underlying54
  a70 := Tryd.isAgg54
  z70 := Tryd.sizeOf54
  v70 := Tryd.zeroValue54
  t72 := Tryd.underlying56
  a72 := Tryd.isAgg56
  z72 := Tryd.sizeOf56
  v72 := Tryd.zeroValue56
  t164 := Tryd.underlying87
  a164 := Tryd.isAgg87
  z164 := Tryd.sizeOf87
  v164 := Tryd.zeroValue87
theorem bn167 : Lays.n167 Tryd.prog bRen where
  mixed := by kernel_rfl
  f167 := Tryd.func17.trans (congrArg some (by kernel_rfl))
  f240 := Tryd.func33.trans (congrArg some (by kernel_rfl))
  f276 := Tryd.func37.trans (congrArg some (by kernel_rfl))
  t0 := Tryd.underlying0
  a0 := Tryd.isAgg0
  z0 := Tryd.sizeOf0
  v0 := Tryd.zeroValue0
  t4 := Tryd.underlying4
  a4 := Tryd.isAgg4
  z4 := Tryd.sizeOf4
  v4 := Tryd.zeroValue4
  t5 := Tryd.underlying5
  a5 := Tryd.isAgg5
  z5 := Tryd.sizeOf5
  v5 := Tryd.zeroValue5
  t9 := Tryd.underlying9
  a9 := Tryd.isAgg9
  z9 := Tryd.sizeOf9
  v9 := Tryd.zeroValue9
  t20 := Tryd.underlying20
  a20 := Tryd.isAgg20
  z20 := Tryd.sizeOf20
  v20 := Tryd.zeroValue20
  t37 := Tryd.underlying25
  a37 := Tryd.isAgg25
  z37 := Tryd.sizeOf25
  v37 := Tryd.zeroValue25
  t70 := Tryd.underlying54
  a70 := Tryd.isAgg54
  z70 := Tryd.sizeOf54
  v70 := Tryd.zeroValue54
  t72 := Tryd.underlying56
  a72 := Tryd.isAgg56
  z72 := Tryd.sizeOf56
  v72 := Tryd.zeroValue56
  t75 := Tryd.underlying58
  a75 := Tryd.isAgg58
  z75 := Tryd.sizeOf58
  v75 := Tryd.zeroValue58
  t164 := Tryd.underlying87
  a164 := Tryd.isAgg87
  z164 := Tryd.sizeOf87
  v164 := Tryd.zeroValue87
theorem bn166 : Lays.n166 Tryd.prog bRen where
  mixed := by kernel_rfl
  f166 := Tryd.func15.trans (congrArg some (by kernel_rfl))
  f240 := Tryd.func33.trans (congrArg some (by kernel_rfl))
  f276 := Tryd.func37.trans (congrArg some (by kernel_rfl))
  t0 := Tryd.underlying0
  a0 := Tryd.isAgg0
  z0 := Tryd.sizeOf0
  v0 := Tryd.zeroValue0
  t3 := Tryd.underlying3
  a3 := Tryd.isAgg3
  z3 := Tryd.sizeOf3
  v3 := Tryd.zeroValue3
  t4 := Tryd.underlying4
  a4 := Tryd.isAgg4
  z4 := Tryd.sizeOf4
  v4 := Tryd.zeroValue4
  t9 := Tryd.underlying9
  a9 := Tryd.isAgg9
  z9 := Tryd.sizeOf9
  v9 := Tryd.zeroValue9
  t20 := Tryd.underlying20
  a20 := Tryd.isAgg20
  z20 := Tryd.sizeOf20
  v20 := Tryd.zeroValue20
  t37 := Tryd.underlying25
  a37 := Tryd.isAgg25
  z37 := Tryd.sizeOf25
  v37 := Tryd.zeroValue25
  t70 := Tryd.underlying54
  a70 := Tryd.isAgg54
  z70 := Tryd.sizeOf54
  v70 := Tryd.zeroValue54
  t72 := Tryd.underlying56
  a72 := Tryd.isAgg56
  z72 := Tryd.sizeOf56
  v72 := Tryd.zeroValue56
  t75 := Tryd.underlying58
  a75 := Tryd.isAgg58
  z75 := Tryd.sizeOf58
  v75 := Tryd.zeroValue58
  t164 := Tryd.underlying87
  a164 := Tryd.isAgg87
  z164 := Tryd.sizeOf87
  v164 := Tryd.zeroValue87
theorem bn169 : Lays.n169 Tryd.prog bRen where
  mixed := by kernel_rfl
  f169 := Tryd.func18.trans (congrArg some (by kernel_rfl))
  t0 := Tryd.underlying0
  a0 := Tryd.isAgg0
  z0 := Tryd.sizeOf0
  v0 := Tryd.zeroValue0
  t3 := Tryd.underlying3
  a3 := Tryd.isAgg3
  z3 := Tryd.sizeOf3
  v3 := Tryd.zeroValue3
  t9 := Tryd.underlying9
  a9 := Tryd.isAgg9
  z9 := Tryd.sizeOf9
  v9 := Tryd.zeroValue9
  t37 := Tryd.underlying25
  a37 := Tryd.isAgg25
  z37 := Tryd.sizeOf25
  v37 := Tryd.zeroValue25
  t70 := Tryd.underlying54
  a70 := Tryd.isAgg54
  z70 := Tryd.sizeOf54
  v70 := Tryd.zeroValue54
  t72 := Tryd.underlying56
  a72 := Tryd.isAgg56
  z72 := Tryd.sizeOf56
  v72 := Tryd.zeroValue56
  t127 := Tryd.underlying81
  a127 := Tryd.isAgg81
  z127 := Tryd.sizeOf81
  v127 := Tryd.zeroValue81
theorem bX : Builder.Extra Tryd.prog bRen where
  sizeBuilder := by kernel_rfl
  liesBuilder := by kernel_rfl
  t5 := Tryd.underlying5
  a5 := Tryd.isAgg5
  z5 := Tryd.sizeOf5
  v5 := Tryd.zeroValue5
  infoByte := by kernel_rfl
  cellsByte := by kernel_rfl
  sizeByte := by kernel_rfl
  neB5 := by decide
theorem gPow : Tryd.prog.globalNamed "internal/strconv.uint64pow10" = some 0 := by kernel_rfl
def iRen : Ren := ⟨fun | 171 => 16 | 243 => 34 | 246 => 38 | 283 => 39 | 284 => 40 | 285 => 41 | 286 => 42 | 129 => 44 | 317 => 43 | 318 => 45 | 319 => 46 | 320 => 47 | 337 => 48 | 338 => 49 | n => n, fun | 0 => 0 | 2 => 2 | 3 => 3 | 4 => 4 | 5 => 5 | 9 => 9 | 20 => 20 | 37 => 25 | 46 => 63 | 51 => 98 | 53 => 91 | 171 => 90 | 173 => 94 | 212 => 97 | 213 => 99 | 232 => 103 | 233 => 104 | n => n, fun | 17 => 0 | 18 => 1 | 19 => 2 | n => n⟩
theorem bItoa : LaysM.n171 Tryd.prog iRen where
  mixed := by kernel_rfl
  f129 := Tryd.func44.trans (congrArg some (by kernel_rfl))
  f171 := Tryd.func16.trans (congrArg some (by kernel_rfl))
  f243 := Tryd.func34.trans (congrArg some (by kernel_rfl))
  f246 := Tryd.func38.trans (congrArg some (by kernel_rfl))
  f283 := Tryd.func39.trans (congrArg some (by kernel_rfl))
  f284 := Tryd.func40.trans (congrArg some (by kernel_rfl))
  f285 := Tryd.func41.trans (congrArg some (by kernel_rfl))
  f286 := Tryd.func42.trans (congrArg some (by kernel_rfl))
  f317 := Tryd.func43.trans (congrArg some (by kernel_rfl))
  f318 := Tryd.func45.trans (congrArg some (by kernel_rfl))
  f319 := Tryd.func46.trans (congrArg some (by kernel_rfl))
  f320 := Tryd.func47.trans (congrArg some (by kernel_rfl))
  f337 := Tryd.func48.trans (congrArg some (by kernel_rfl))
  f338 := Tryd.func49.trans (congrArg some (by kernel_rfl))
  t0 := Tryd.underlying0
  a0 := Tryd.isAgg0
  z0 := Tryd.sizeOf0
  v0 := Tryd.zeroValue0
  t2 := Tryd.underlying2
  a2 := Tryd.isAgg2
  z2 := Tryd.sizeOf2
  v2 := Tryd.zeroValue2
  t3 := Tryd.underlying3
  a3 := Tryd.isAgg3
  z3 := Tryd.sizeOf3
  v3 := Tryd.zeroValue3
  t4 := Tryd.underlying4
  a4 := Tryd.isAgg4
  z4 := Tryd.sizeOf4
  v4 := Tryd.zeroValue4
  t5 := Tryd.underlying5
  a5 := Tryd.isAgg5
  z5 := Tryd.sizeOf5
  v5 := Tryd.zeroValue5
  t9 := Tryd.underlying9
  a9 := Tryd.isAgg9
  z9 := Tryd.sizeOf9
  v9 := Tryd.zeroValue9
  t20 := Tryd.underlying20
  a20 := Tryd.isAgg20
  z20 := Tryd.sizeOf20
  v20 := Tryd.zeroValue20
  t37 := Tryd.underlying25
  a37 := Tryd.isAgg25
  z37 := Tryd.sizeOf25
  v37 := Tryd.zeroValue25
  t46 := Tryd.underlying63
  a46 := Tryd.isAgg63
  z46 := Tryd.sizeOf63
  v46 := Tryd.zeroValue63
  t51 := Tryd.underlying98
  a51 := Tryd.isAgg98
  z51 := Tryd.sizeOf98
  v51 := Tryd.zeroValue98
  t53 := Tryd.underlying91
  a53 := Tryd.isAgg91
  z53 := Tryd.sizeOf91
  v53 := Tryd.zeroValue91
  t171 := Tryd.underlying90
  a171 := Tryd.isAgg90
  z171 := Tryd.sizeOf90
  v171 := Tryd.zeroValue90
  t173 := Tryd.underlying94
  a173 := Tryd.isAgg94
  z173 := Tryd.sizeOf94
  v173 := Tryd.zeroValue94
  t212 := Tryd.underlying97
  a212 := Tryd.isAgg97
  z212 := Tryd.sizeOf97
  v212 := Tryd.zeroValue97
  t213 := Tryd.underlying99
  a213 := Tryd.isAgg99
  z213 := Tryd.sizeOf99
  t232 := Tryd.underlying103
  a232 := Tryd.isAgg103
  z232 := Tryd.sizeOf103
  v232 := Tryd.zeroValue103
  t233 := Tryd.underlying104
  a233 := Tryd.isAgg104
  z233 := Tryd.sizeOf104
  v233 := Tryd.zeroValue104
  g17 := by kernel_rfl
  g18 := by kernel_rfl
  g19 := by kernel_rfl
  i0 := by kernel_rfl
  i2 := by kernel_rfl
  i3 := by kernel_rfl
  i4 := by kernel_rfl
  i5 := by kernel_rfl
  i9 := by kernel_rfl
  i20 := by kernel_rfl
  i37 := by kernel_rfl
  i46 := by kernel_rfl
  i51 := by kernel_rfl
  i53 := by kernel_rfl
  i171 := by kernel_rfl
  i173 := by kernel_rfl
  i212 := by kernel_rfl
  i232 := by kernel_rfl
  i233 := by kernel_rfl
  m17 := by kernel_rfl
  m18 := by kernel_rfl
  m19 := by kernel_rfl
abbrev tBld : TypeId := 56
open Go.RowKit in
theorem b_WriteString (B b : Nat) (bs : List Value) (s : ByteArray) (w : World) (h : Lib.IsBuilderF tBld 5 B b bs w) (hlen : bs.length + s.size ≤ 140737488355328) (hBw : B ≤ w.heap.size) :
    Calls Tryd.prog 15 #[.pointer (some ⟨b, 0, none⟩), .string s] w fun e w' => e = .returned (.tuple #[.int .i64 s.size, .nilIface]) ∧ Lib.IsBuilderF tBld 5 B b (bs ++ Lib.strCells s) w' ∧ Below B w w' ∧ Lib.OthersKept 5 (some b) w w' :=
  (Any.Builder_WriteString_k bn166 bX B b bs s w h hlen hBw).mono fun e w' h => ⟨h.1, .inr h.2.1, h.2.2⟩
open Go.RowKit in
theorem b_WriteByte (B b : Nat) (bs : List Value) (c : Int) (w : World) (h : Lib.IsBuilderF tBld 5 B b bs w) (hlen : bs.length + 1 ≤ 140737488355328) (hBw : B ≤ w.heap.size) :
    Calls Tryd.prog 17 #[.pointer (some ⟨b, 0, none⟩), .int .u8 c] w fun e w' => e = .returned .nilIface ∧ Lib.IsBuilderF tBld 5 B b (bs ++ [.int .u8 c]) w' ∧ Below B w w' ∧ Lib.OthersKept 5 (some b) w w' :=
  (Any.Builder_WriteByte_k bn167 bX B b bs c w h hlen hBw).mono fun e w' h => ⟨h.1, .inr h.2.1, h.2.2⟩
open Go.RowKit in
theorem b_String (B b : Nat) (l : List UInt8) (w : World) (h : Lib.IsBuilderF tBld 5 B b (Lib.byteCells l) w) (hBw : B ≤ w.heap.size) :
    Calls Tryd.prog 18 #[.pointer (some ⟨b, 0, none⟩)] w fun e w' => e = .returned (.string ⟨l.toArray⟩) ∧ Below B w w' :=
  (Any.Builder_String_any_f bn169 bX B b l w h hBw).mono fun e w' h => ⟨h.1, h.2.2⟩
theorem tab_below {w w' : World} {B : Nat} {zs : List Int} (h : Lib.TabIs Tryd.prog w "internal/strconv.uint64pow10" .u64 zs) (hb : RowKit.Below B w w') (hB : w.heap.size ≤ B) : Lib.TabIs Tryd.prog w' "internal/strconv.uint64pow10" .u64 zs := by
  have hg : Tryd.prog.globalNamed "internal/strconv.uint64pow10" = some ((Tryd.prog.globalNamed "internal/strconv.uint64pow10").getD 0) := by kernel_rfl
  generalize (Tryd.prog.globalNamed "internal/strconv.uint64pow10").getD 0 = g at hg
  unfold Lib.TabIs World.var? at *
  rw [hg] at h ⊢
  simp only [Option.bind_some] at h ⊢
  have hlt : g < w.heap.size := by
    rcases Nat.lt_or_ge g w.heap.size with h' | h'
    · exact h'
    · rw [Array.getElem?_eq_none h'] at h; cases h
  rw [hb.block g (by omega)]
  exact h
theorem b_Itoa (n : Int) (h0 : -9223372036854775808 ≤ n) (h1 : n ≤ 9223372036854775807) (w : World) (htab : Lib.TabIs Tryd.prog w "internal/strconv.uint64pow10" .u64 Lib.pow10Tab) :
    Calls Tryd.prog 16 #[.int .i64 n] w fun e w' => e = .returned (.string ⟨(Lib.itoa n).toArray⟩) ∧ RowKit.Below w.heap.size w w' :=
  (Any.strconv_Itoa bItoa n h0 h1 w htab).mono fun e w' h => ⟨h.1, by
    obtain ⟨_, k, os, rfl⟩ := h
    exact ⟨rfl, rfl, rfl, by simp [Sort.grow], fun i hi => by simp [Sort.grow, Array.getElem?_append, hi]⟩⟩
theorem bld_below {T e : TypeId} {B b : Nat} {bs : List Value} {W W' : World} (h : Lib.IsBuilderF T e B b bs W) (hb : RowKit.Below W.heap.size W W') : Lib.IsBuilderF T e B b bs W' := by
  refine h.imp ?_ ?_ <;>
  · intro x
    have hlt := x.lt
    obtain ⟨hB, v, hv, ho, hne⟩ := x
    exact ⟨hB, v, (hb.block b hlt).trans hv, ho.kept (row := none) ⟨hb.os, hb.tape, hb.output, hb.size, fun k hk _ => hb.block k hk⟩ (Classical.em _), hne⟩
end Go.Proofs

namespace Go.Proofs
open Go.RowKit Go.Av
set_option linter.unusedVariables false
set_option linter.unusedSimpArgs false
theorem cells_below {w w' : World} (h : Below w.heap.size w w') {p : Addr} {v : Value} (hc : w.cell? p = some v) : w'.cell? p = some v := (h.cell (World.block_lt_of_cell? _ _ hc)).trans hc
theorem byte1 (x : UInt8) (l : List UInt8) : Lib.byteCells l ++ [.int .u8 (x.toNat : Int)] = Lib.byteCells (l ++ [x]) := by rw [Lib.byteCells_append]; rfl
theorem hexT_get (k : Nat) (h : k < 16) : hexT[k]? = some (hexT.getD k 0) := by
  have : ∀ k, k < 16 → hexT[k]? = some (hexT.getD k 0) := by decide
  exact this k h
theorem hexS (k : Nat) (h : k < (⟨#[48, 49, 50, 51, 52, 53, 54, 55, 56, 57, 97, 98, 99, 100, 101, 102]⟩ : ByteArray).size) : (((⟨#[48, 49, 50, 51, 52, 53, 54, 55, 56, 57, 97, 98, 99, 100, 101, 102]⟩ : ByteArray)[k]'h).toNat : Int) = ((hexT.getD k 0).toNat : Int) := by
  have : ∀ (k : Fin 16), ((⟨#[48, 49, 50, 51, 52, 53, 54, 55, 56, 57, 97, 98, 99, 100, 101, 102]⟩ : ByteArray)[k.1]'(k.2)).toNat = (hexT.getD k.1 0).toNat := by decide
  exact congrArg Int.ofNat (this ⟨k, h⟩)
theorem textT_snoc (l : List (Int × List Nat)) (k : Nat) (x : Int × List Nat) (h : l[k]? = some x) : textT (l.take (k + 1)) = textT (l.take k) ++ ansT x := by
  rw [List.take_add_one, h]; simp [textT]
theorem hex_snoc (l : List Nat) (k : Nat) (x : Nat) (h : l[k]? = some x) : (l.take (k + 1)).flatMap hexB = (l.take k).flatMap hexB ++ hexB x := by
  rw [List.take_add_one, h]; simp
theorem hex_len (l : List Nat) : (l.flatMap hexB).length = 2 * l.length := by
  induction l with
  | nil => rfl
  | cons x l ih => simp only [List.flatMap_cons, List.length_append, ih, hexB, List.length_cons, List.length_nil]; omega
theorem ans_len (x : Int × List Nat) (h0 : -9223372036854775808 ≤ x.1) (h1 : x.1 ≤ 9223372036854775807) (hm : x.2.length ≤ 1000) : (ansT x).length ≤ 3000 := by
  have := Lib.itoa_length_le x.1 h0 h1
  unfold ansT
  simp only [List.length_append, hex_len, List.length_cons, List.length_nil]
  split <;> simp <;> omega
/-- The builder within the call. -/
def BI (w wr : World) (acc : List UInt8) : Prop := Lib.IsBuilderF tBld 5 w.heap.size w.heap.size (Lib.byteCells acc) wr ∧ Below w.heap.size w wr
def CA (wr : World) (A : Nat) (x : Value) (v : Value) : Prop := wr.heap[A]? = some (.cells #[x, v] 30)
theorem CA.c0 {wr : World} {A : Nat} {x v : Value} (h : CA wr A x v) : wr.cell? ⟨A, 0, none⟩ = some x := by rw [Lib.cell_of_heap h]; rfl
theorem CA.c1 {wr : World} {A : Nat} {x v : Value} (h : CA wr A x v) : wr.cell? ⟨A, 1, none⟩ = some v := by rw [Lib.cell_of_heap h]; rfl
theorem CA.kept {w W W' : World} {A : Nat} {x v : Value} (h : CA W A x v) (k : Lib.OthersKept 5 (some w.heap.size) W W') (hA : w.heap.size < A) : CA W' A x v :=
  k A _ h (fun e => by injection e; omega) (fun c fz e => by cases e)
theorem BI.lt {w W : World} {acc : List UInt8} (h : BI w W acc) : w.heap.size < W.heap.size := h.1.elim (fun h => h.lt) (fun h => h.lt)
theorem BI.ws {w W : World} {acc : List UInt8} (h : BI w W acc) (s : List UInt8) (hl : acc.length + s.length ≤ 100000000) :
    Calls Tryd.prog 15 #[.pointer (some ⟨w.heap.size, 0, none⟩), .string ⟨s.toArray⟩] W fun e w' => e = .returned (.tuple #[.int .i64 s.length, .nilIface]) ∧ BI w w' (acc ++ s) ∧ Lib.OthersKept 5 (some w.heap.size) W w' :=
  (b_WriteString _ _ _ ⟨s.toArray⟩ W h.1 (by rw [Lib.byteCells_length]; simp [ByteArray.size]; omega) h.2.size).mono fun e w' g => ⟨by simpa [ByteArray.size] using g.1, ⟨by rw [Lib.byteCells_append]; simpa only [Lib.strCells_eq] using g.2.1, h.2.trans g.2.2.1⟩, g.2.2.2⟩
theorem BI.wb {w W : World} {acc : List UInt8} (h : BI w W acc) (x : UInt8) (y : Int) (hy : y = (x.toNat : Int)) (hl : acc.length ≤ 100000000) :
    Calls Tryd.prog 17 #[.pointer (some ⟨w.heap.size, 0, none⟩), .int .u8 y] W fun e w' => e = .returned .nilIface ∧ BI w w' (acc ++ [x]) ∧ Lib.OthersKept 5 (some w.heap.size) W w' :=
  (b_WriteByte _ _ _ y W h.1 (by rw [Lib.byteCells_length]; omega) h.2.size).mono fun e w' g => ⟨g.1, ⟨by rw [← byte1, ← hy]; exact g.2.1, h.2.trans g.2.2.1⟩, g.2.2.2⟩
set_option maxHeartbeats 4000000 in
set_option maxRecDepth 1000000 in
theorem text_walk (l : List (Int × List Nat)) (v : Value) (w : World) (hv : AnsAt w v l) (hn : l.length ≤ 1000) (hm : ∀ x ∈ l, x.2.length ≤ 1000)
    (htab : Lib.TabIs Tryd.prog w "internal/strconv.uint64pow10" .u64 Lib.pow10Tab) :
    Calls Tryd.prog 7 #[v] w fun e w' => e = .returned (.string ⟨(textT l).toArray⟩) ∧ Below w.heap.size w w' := by
  obtain ⟨a, c, rfl, hc, hl⟩ := hv
  have h0 : BI w (w.alloc (.cells #[.pointer none, .slice none 0 0] tBld)) [] := ⟨Lib.IsBuilderF.of (Lib.fresh_isBuilder tBld 5 w), (Below.refl _ w).alloc (Nat.le_refl _) _⟩
  go_enter Tryd.func7, Tryd.ntmps7
  go_wp2
  go_loopw [10] (fun i wr => ∃ k : Nat, i = .int .i64 k ∧ k ≤ l.length ∧ BI w wr (textT (l.take k)) ∧ w.heap.size < wr.heap.size ∧ (textT (l.take k)).length ≤ 3000 * k) (fun i _ => l.length - (Lib.intOf i).toNat)
  case atStart => exact ⟨0, rfl, Nat.zero_le _, h0, by simp, by simp [textT]⟩
  case round =>
    obtain ⟨k, rfl, hk, hI, hlt, hlen⟩ := hrel
    by_cases hkl : k < l.length
    · obtain ⟨x, hx⟩ : ∃ x, l[k]? = some x := ⟨l[k], List.getElem?_eq_getElem hkl⟩
      obtain ⟨hx0, hx1, X, o, v, rfl, hc0, hc1, hby⟩ := hl k x hx
      have hc0' := cells_below hI.2 hc0
      have hc1' := cells_below hI.2 hc1
      obtain ⟨ad, cd, rfl, hcd, hld⟩ := hby
      have hxm := hm x (List.mem_of_getElem? hx)
      have hil := Lib.itoa_length_le x.1 hx0 hx1
      have hsn := textT_snoc l k x hx
      have hal := ans_len x hx0 hx1 hxm
      have hA : CA (wr.alloc (.cells #[.int .i64 x.1, .slice ad x.2.length cd] 30)) wr.heap.size (.int .i64 x.1) (.slice ad x.2.length cd) := heap_alloc_new wr _
      clear hl h0
      go_wp2_with (go_at_call 16; refine (b_Itoa x.1 hx0 hx1 _ ?tab).mono ?_)
      case tab => exact tab_below htab (hI.2.alloc hI.2.size _) (Nat.le_refl _)
      rintro e W1 ⟨rfl, hb1⟩
      have hA1 : CA W1 wr.heap.size (.int .i64 x.1) (.slice ad x.2.length cd) := (hb1.block _ (by simp)).trans hA
      have hI1 : BI w W1 (textT (l.take k)) := ⟨bld_below (hI.1.alloc _) hb1, (hI.2.alloc hI.2.size _).trans (hb1.mono (by simp; omega))⟩
      have hz1 : wr.heap.size < W1.heap.size := by have := hb1.size; simp at this; omega
      clear hA hb1
      go_wp2_with (go_at_call 15; refine (hI1.ws (Lib.itoa x.1) (by omega)).mono ?_)
      rintro e W2 ⟨rfl, hI2, hk2⟩
      have hA2 := hA1.kept hk2 hlt
      clear hA1 hI1 hk2
      have h20 := hA2.c0
      have h21 := hA2.c1
      obtain ⟨acc, hacc⟩ : ∃ acc, acc = textT (l.take k) ++ Lib.itoa x.1 := ⟨_, rfl⟩
      have hacl : acc.length ≤ 3000 * k + 21 := by rw [hacc, List.length_append]; omega
      rw [← hacc] at hI2
      obtain ⟨wo, rfl⟩ : ∃ wo : World, wo = wr := ⟨wr, rfl⟩
      by_cases hd : x.2.length = 0
      · have hd0 : x.2 = [] := List.length_eq_zero_iff.1 hd
        have hz2 := hI2.lt
        go_wp2_with fail
        go_loopw [26] (fun i wi => ∃ j : Nat, i = .int .i64 j ∧ j ≤ x.2.length ∧ BI w wi (acc ++ (x.2.take j).flatMap hexB) ∧ w.heap.size < wi.heap.size) (fun i _ => x.2.length - (Lib.intOf i).toNat)
        case atStart => exact ⟨0, rfl, Nat.zero_le _, by simpa using hI2, by omega⟩
        case round =>
          obtain ⟨j, rfl, hj, hIj, hzj⟩ := hrel
          have hbl : (acc ++ (x.2.take j).flatMap hexB).length ≤ 10000000 := by simp only [List.length_append, hex_len, List.length_take, List.length_cons, List.length_nil]; omega
          by_cases hjl : j < x.2.length
          · omega
          · go_wp2_with (go_at_call 17; refine (hIj.wb 10 10 rfl (by omega)).mono ?_)
            rintro e W6 ⟨rfl, hI6, hk6⟩
            have hz6 := hI6.lt
            go_wp2
            go_roundw
            case rel =>
              have hfin : BI w W6 (textT (l.take (k + 1))) := by
                rw [show j = x.2.length by omega, List.take_length, hacc] at hI6
                rw [hsn]
                have hdn : x.2 = [] := hd0
                simpa [ansT, hdn, List.append_assoc] using hI6
              exact ⟨k + 1, by simp, by omega, hfin, by omega, by rw [hsn, List.length_append]; omega⟩
            case measure => simp [Lib.intOf]; omega
      · go_wp2_with (go_at_call 17; refine (hI2.wb 32 32 rfl (by omega)).mono ?_)
        rintro e W3 ⟨rfl, hI3, hk3⟩
        have hA3 := hA2.kept hk3 hlt
        have h30 := hA3.c0
        have h31 := hA3.c1
        have hz3 : w.heap.size < W3.heap.size := by have := (Array.getElem?_eq_some_iff.1 hA3).1; omega
        clear hA2 hI2 hk3 h20 h21
        go_wp2_with fail
        go_loopw [26] (fun i wi => ∃ j : Nat, i = .int .i64 j ∧ j ≤ x.2.length ∧ BI w wi ((acc ++ [32]) ++ (x.2.take j).flatMap hexB) ∧ w.heap.size < wi.heap.size) (fun i _ => x.2.length - (Lib.intOf i).toNat)
        case atStart => exact ⟨0, rfl, Nat.zero_le _, by simpa using hI3, by omega⟩
        case round =>
          obtain ⟨j, rfl, hj, hIj, hzj⟩ := hrel
          have hbl : ((acc ++ [32]) ++ (x.2.take j).flatMap hexB).length ≤ 10000000 := by simp only [List.length_append, hex_len, List.length_take, List.length_cons, List.length_nil]; omega
          by_cases hjl : j < x.2.length
          · obtain ⟨y, hy⟩ : ∃ y, x.2[j]? = some y := ⟨x.2[j], List.getElem?_eq_getElem hjl⟩
            obtain ⟨hy0, X', o', rfl, hcy⟩ := hld j y hy
            have hcy' := cells_below hIj.2 hcy
            have hjn := hex_snoc x.2 j y hy
            go_wp2_with (go_at_call 17; refine (hIj.wb (hexT.getD (y / 16) 0) _ ?hv (by omega)).mono ?_)
            case hv => exact hexS _ _
            rintro e W4 ⟨rfl, hI4, hk4⟩
            have hz4 := hI4.lt
            go_wp2_with (go_at_call 17; refine (hI4.wb (hexT.getD (y % 16) 0) _ ?hv (by simp only [List.length_append, List.length_cons, List.length_nil] at *; omega)).mono ?_)
            case hv => exact hexS _ _
            rintro e W5 ⟨rfl, hI5, hk5⟩
            have hz5 := hI5.lt
            go_wp2
            go_roundw
            case rel => exact ⟨j + 1, by simp, by omega, by rw [hjn]; simpa [hexB, List.append_assoc] using hI5, by omega⟩
            case measure => simp [Lib.intOf]; omega
          · go_wp2_with (go_at_call 17; refine (hIj.wb 10 10 rfl (by omega)).mono ?_)
            rintro e W6 ⟨rfl, hI6, hk6⟩
            have hz6 := hI6.lt
            go_wp2
            go_roundw
            case rel =>
              have hfin : BI w W6 (textT (l.take (k + 1))) := by
                rw [show j = x.2.length by omega, List.take_length, hacc] at hI6
                rw [hsn]
                have hdn : x.2 ≠ [] := fun e => hd (by rw [e]; rfl)
                simpa [ansT, hdn, List.append_assoc] using hI6
              exact ⟨k + 1, by simp, by omega, hfin, by omega, by rw [hsn, List.length_append]; omega⟩
            case measure => simp [Lib.intOf]; omega
    · go_wp2_with (go_at_call 18; refine (b_String _ _ _ _ hI.1 hI.2.size).mono ?_)
      rintro e W1 ⟨rfl, hb1⟩
      go_wp2
      go_ret
      rw [show k = l.length by omega, List.take_length]
      exact ⟨rfl, hI.2.trans hb1⟩
end Go.Proofs

namespace Go.Proofs
open Go.RowKit Go.Av
set_option linter.unusedVariables false
set_option linter.unusedSimpArgs false
/-- Bytes that lie in blocks from B on. -/
def NB (B : Nat) (w : World) (v : Value) (l : List Nat) : Prop :=
  ∃ a c, v = .slice a l.length c ∧ l.length ≤ c ∧ (a = none → c = 0) ∧ ∀ (i x : Nat), l[i]? = some x → x < 256 ∧ ∃ X o, a = some ⟨X, o, none⟩ ∧ B ≤ X ∧ ∃ (cs : Array Value) (fz : Nat × Nat), w.heap[X]? = some (Obj.cells cs 5 fz) ∧ cs[o + i]? = some (.int .u8 x)
/-- Rows of bytes stay. -/
def KB (w w' : World) : Prop := ∀ (k : Nat) (cs : Array Value) (fz : Nat × Nat), w.heap[k]? = some (Obj.cells cs 5 fz) → w'.heap[k]? = some (Obj.cells cs 5 fz)
theorem KB.trans {a b c : World} (h : KB a b) (k : KB b c) : KB a c := fun i cs fz hi => k i cs fz (h i cs fz hi)
theorem KB.refl (a : World) : KB a a := fun _ _ _ h => h
theorem KB.alloc (w : World) (o : Obj) : KB w (w.alloc o) := fun k cs fz h => (Below.heap_alloc w o k (Array.getElem?_eq_some_iff.1 h).1).trans h
theorem KB.grown {w w' : World} {R : Nat} {cs : Array Value} {T : TypeId} {fz : Nat × Nat} (hg : w.grownBy w' (some R)) (hR : w.heap[R]? = some (.cells cs T fz)) (hT : T ≠ 5) : KB w w' := fun k c f h =>
  (hg.block k (Array.getElem?_eq_some_iff.1 h).1 (fun e => by
    injection e with e
    subst e
    rw [hR] at h
    simp at h
    exact hT h.2.1)).trans h
theorem KB.setCell {w : World} {R : Nat} {cs : Array Value} {T : TypeId} {fz : Nat × Nat} (hR : w.heap[R]? = some (.cells cs T fz)) (hT : T ≠ 5) (j : Nat) (u : Value) : KB w (w.setCell ⟨R, j, none⟩ u) := fun k c f h =>
  (Below.heap_setCell _ _ _ k (fun e => by
    subst e
    rw [hR] at h
    simp at h
    exact hT h.2.1)).trans h
theorem NB.keep {B : Nat} {w w' : World} {v : Value} {l : List Nat} (h : NB B w v l) (hk : KB w w') : NB B w' v l := by
  obtain ⟨a, c, rfl, h1, h2, h3⟩ := h
  refine ⟨a, c, rfl, h1, h2, fun i x hx => ?_⟩
  obtain ⟨k1, X, o', rfl, k2, cs, fz, k3, k4⟩ := h3 i x hx
  exact ⟨k1, X, o', rfl, k2, cs, fz, hk _ _ _ k3, k4⟩
theorem NB.mono {B B' : Nat} {w : World} {v : Value} {l : List Nat} (h : NB B w v l) (hB : B' ≤ B) : NB B' w v l := by
  obtain ⟨a, c, rfl, h1, h2, h3⟩ := h
  refine ⟨a, c, rfl, h1, h2, fun i x hx => ?_⟩
  obtain ⟨k1, X, o', rfl, k2, k3⟩ := h3 i x hx
  exact ⟨k1, X, o', rfl, Nat.le_trans hB k2, k3⟩
/-- Bytes that lie in blocks below B. -/
def OB (B : Nat) (w : World) (a : Option Addr) (c : Nat) (l : List Nat) : Prop :=
  l.length ≤ c ∧ (a = none → c = 0) ∧ ∀ (i x : Nat), l[i]? = some x → x < 256 ∧ ∃ X o, a = some ⟨X, o, none⟩ ∧ X < B ∧ w.cell? ⟨X, o + i, none⟩ = some (.int .u8 x)
theorem NB.of_row {B : Nat} {w : World} {v : Value} {l : List Nat} (h : w.ownsRow B 5 1 v l.length (l.map fun x : Nat => Value.int .u8 (x : Int))) (hl : ∀ x ∈ l, x < 256) : NB B w v l := by
  obtain ⟨_, ⟨rfl, h0⟩ | ⟨g, cap, cur, rfl, hg, hb, hc, hm, hs, ht⟩⟩ := h
  · exact ⟨none, 0, by rw [h0], by omega, fun _ => rfl, fun i x hx => by
      have := (List.getElem?_eq_some_iff.1 hx).1; omega⟩
  · refine ⟨_, cap, rfl, hc, (by simp), fun i x hx => ⟨hl x (List.mem_of_getElem? hx), g, 0, rfl, hg, cur, (0, 0), hb, ?_⟩⟩
    rw [Nat.zero_add]
    have h1 : (cur.toList.take (l.length * 1))[i]? = some (Value.int .u8 (x : Int)) := by rw [ht, List.getElem?_map, hx]; rfl
    have hi := (List.getElem?_eq_some_iff.1 hx).1
    rw [List.getElem?_take_of_lt (by omega)] at h1
    simpa using h1
set_option maxHeartbeats 2000000 in
set_option maxRecDepth 100000 in
theorem clone_walk (B : Nat) (a : Option Addr) (c : Nat) (l : List Nat) (w : World) (h : OB B w a c l) (hl : l.length ≤ 1000000) :
    Calls Tryd.prog 36 #[.slice a l.length c] w fun e w' => ∃ v, e = .returned v ∧ NB w.heap.size w' v l ∧ Below w.heap.size w w' := by
  have q22 : ∀ (w : World) (a : Option Addr) (n c n' c' : Nat), (binOp .eql 76 (.slice a n c) (.slice none n' c')).run Tryd.prog w = .ok (.bool a.isNone) w := fun w a n c n' c' => Lib.run_eql_slice_nil w _ _ a n c n' c' Tryd.underlying76
  obtain ⟨h1, h2, h3⟩ := h
  have hall : ∀ x ∈ l, x < 256 := fun x hx => by
    obtain ⟨i, hi⟩ := List.mem_iff_getElem?.1 hx
    exact (h3 i x hi).1
  cases a with
  | none =>
    obtain rfl : c = 0 := h2 rfl
    go_enter Tryd.func36, Tryd.ntmps36
    go_wp2
    go_ret
    exact ⟨.slice none 0 0, rfl, ⟨none, 0, by rw [show l.length = 0 by omega], h1, fun _ => rfl, fun i x hx => by
      have := (List.getElem?_eq_some_iff.1 hx).1; omega⟩, Below.refl _ _⟩
  | some ad =>
    obtain ⟨i0, hi, hz0, hz1, hz2⟩ : ∃ i, Tryd.prog.info? 5 = some i ∧ i.zero = some (.int .u8 0) ∧ i.size = 1 ∧ i.bytes = 1 := ⟨_, rfl, rfl, rfl, rfl⟩
    have A : Aside (∀ (i x : Nat), l[i]? = some x → x < 256 ∧ ∃ X o, some ad = some ⟨X, o, none⟩ ∧ X < B ∧ w.cell? ⟨X, o + i, none⟩ = some (.int .u8 x)) := h3
    clear h3
    go_enter Tryd.func36, Tryd.ntmps36
    go_wp2_with (at_builtin; refine wpList_append_own _ rfl _ _ 76 rfl w.heap.size 5 i0 (.int .u8 0) 1 1 Tryd.underlying76 hi hz0 hz1 hz2 rfl (by decide) _ _ _ rfl (World.ownsRow_made w #[] 0 (Nat.le_refl _) (Nat.zero_le _) rfl) ad l.length c (l.map fun x : Nat => Value.int .u8 (x : Int)) rfl ?qc1 ?qc2 ?qc3 ?qc4 ?qc5 ?qc6 ?_)
    case qc1 => simp
    case qc2 =>
      intro j u hj
      rw [List.getElem?_map] at hj
      obtain ⟨x, hx, rfl⟩ := Option.map_eq_some_iff.1 hj
      obtain ⟨_, X, o, he, _, hc⟩ := A.out j x hx
      obtain rfl := Option.some.inj he
      rw [Addr.add_lit]
      exact Lib.cell?_alloc_some _ hc
    case qc3 => intro u hu; obtain ⟨x, _, rfl⟩ := List.mem_map.1 hu; rfl
    case qc4 => unfold maxLen; omega
    case qc5 => omega
    case qc6 => simp
    intro v' w1 hown hgrow hnil
    go_wp2
    go_ret
    refine ⟨v', rfl, ?_, ?_⟩
    · exact NB.of_row (by simpa using hown) hall
    · exact ((Below.refl _ w).alloc (Nat.le_refl _) _).grown hgrow (by simp) (by intro k hk; simp [Value.ownBlock] at hk; omega)
/-- The reader: a block that holds what is still to be read. -/
def RD (B : Nat) (w : World) (R : Nat) (l : List Nat) : Prop := ∃ a c, w.heap[R]? = some (.cells #[.slice a l.length c] 76 (0, 0)) ∧ OB B w a c l
/-- What a call leaves as it was: all blocks but the reader's. -/
theorem OB.kept {B : Nat} {w w' : World} {a : Option Addr} {c : Nat} {l : List Nat} (h : OB B w a c l) (hb : Below B w w') : OB B w' a c l :=
  ⟨h.1, h.2.1, fun i x hx => by
    obtain ⟨h1, X, o, h2, h3, h4⟩ := h.2.2 i x hx
    exact ⟨h1, X, o, h2, h3, (hb.cell (p := ⟨X, o + i, none⟩) h3).trans h4⟩⟩
theorem OB.take {B : Nat} {w : World} {a : Option Addr} {c : Nat} {l : List Nat} (n : Nat) (h : OB B w a c l) : OB B w a c (l.take n) :=
  ⟨by have := h.1; simp; omega, h.2.1, fun i x hx => h.2.2 i x (by
    rw [List.getElem?_take] at hx
    split at hx
    · exact hx
    · simp at hx)⟩
theorem OB.drop {B : Nat} {w : World} {a : Option Addr} {c : Nat} {l : List Nat} (n : Nat) (hn : n ≤ c) (h : OB B w a c l) : OB B w (a.map fun x => x.add n) (c - n) (l.drop n) :=
  ⟨by have := h.1; simp; omega, fun e => by
    have := h.2.1 (by simpa using e); omega, fun i x hx => by
    rw [List.getElem?_drop] at hx
    obtain ⟨h1, X, o, rfl, h3, h4⟩ := h.2.2 _ x hx
    refine ⟨h1, X, o + n, by simp [Addr.add], h3, ?_⟩
    rw [Nat.add_assoc]; exact h4⟩
theorem OB.set {B R : Nat} {w : World} {a : Option Addr} {c : Nat} {l : List Nat} (h : OB B w a c l) (hB : B ≤ R) (o : Nat) (u : Value) : OB B (w.setCell ⟨R, o, none⟩ u) a c l :=
  h.kept ⟨rfl, rfl, rfl, by simp [World.setCell], fun k hk => Below.heap_setCell _ _ _ k (by simp; omega)⟩
theorem set1 {w : World} {R : Nat} {T : TypeId} {x : Value} (h : w.heap[R]? = some (.cells #[x] T (0, 0))) (u : Value) : (w.setCell ⟨R, 0, none⟩ u).heap[R]? = some (.cells #[u] T (0, 0)) := by
  simp [World.setCell, Array.getElem?_modify, h]
theorem RD.set {B R : Nat} {w : World} {x : Value} {a : Option Addr} {c : Nat} {l : List Nat} (hR : w.heap[R]? = some (.cells #[x] 76 (0, 0))) (h : OB B w a c l) (hB : B ≤ R) : RD B (w.setCell ⟨R, 0, none⟩ (.slice a l.length c)) R l :=
  ⟨a, c, set1 hR _, h.set hB 0 _⟩
set_option maxHeartbeats 2000000 in
set_option maxRecDepth 100000 in
theorem take_walk (B R : Nat) (l : List Nat) (n : Nat) (w : World) (h : RD B w R l) (hB : B ≤ R) (hl : l.length ≤ 1000000) (hn : n ≤ l.length) :
    Calls Tryd.prog 30 #[.pointer (some ⟨R, 0, none⟩), .int .i64 n] w fun e w' => ∃ v, e = .returned v ∧ NB w.heap.size w' v (l.take n) ∧ RD B w' R (l.drop n) ∧ w.grownBy w' (some R) := by
  obtain ⟨a, c, hR, hO⟩ := h
  have hc0 : w.cell? ⟨R, 0, none⟩ = some (.slice a l.length c) := by rw [Lib.cell_of_heap hR]; rfl
  have hf0 : w.frozen? ⟨R, 0, none⟩ = false := by rw [Lib.frozen_of_heap hR]
  have h1 := hO.1
  have hcl := clone_walk B a c (l.take n) w (hO.take n) (by simp; omega)
  rw [show (l.take n).length = n by simp; omega] at hcl
  go_enter Tryd.func30, Tryd.ntmps30
  go_wp2_with (go_at_call 36; refine hcl.mono ?_)
  rintro e w1 ⟨v, rfl, hv, hb1⟩
  have hlt : R < w.heap.size := (Array.getElem?_eq_some_iff.1 hR).1
  have hR1 : w1.heap[R]? = some (.cells #[.slice a l.length c] 76 (0, 0)) := (hb1.block R hlt).trans hR
  have hc1 : w1.cell? ⟨R, 0, none⟩ = some (.slice a l.length c) := by rw [Lib.cell_of_heap hR1]; rfl
  have hf1 : w1.frozen? ⟨R, 0, none⟩ = false := by rw [Lib.frozen_of_heap hR1]
  have hend : ∀ a' c', OB B w1 a' c' (l.drop n) → NB w.heap.size (w1.setCell ⟨R, 0, none⟩ (.slice a' (l.length - n) c')) v (l.take n) ∧ RD B (w1.setCell ⟨R, 0, none⟩ (.slice a' (l.length - n) c')) R (l.drop n) ∧ w.grownBy (w1.setCell ⟨R, 0, none⟩ (.slice a' (l.length - n) c')) (some R) := fun a' c' ho =>
    ⟨hv.keep (KB.setCell hR1 (by decide) _ _), by rw [show l.length - n = (l.drop n).length by simp]; exact RD.set hR1 ho hB, hb1.os, hb1.tape, hb1.output, by have := hb1.size; simpa [World.setCell] using this, fun k hk hne => (Below.heap_setCell _ _ _ k (fun e => hne (by rw [e]))).trans (hb1.block k hk)⟩
  have hO1 := hO.kept (hb1.mono (by omega))
  go_wp2_with fail
  · go_ret
    exact ⟨v, rfl, hend a 0 ⟨by simp; omega, fun _ => rfl, fun i x hx => by
      have := (List.getElem?_eq_some_iff.1 hx).1; simp at this; omega⟩⟩
  · go_ret
    exact ⟨v, rfl, hend _ _ (hO1.drop n (by omega))⟩
theorem bits_or8 (a b : Nat) (ha : a < 256) (hb : b < 256) : bits BinOp.or IntKind.i64 (a : Int) ((b : Int) * 256) = ((a + 256 * b : Nat) : Int) := by
  have h1 : (BitVec.ofInt 64 (a : Int)).toNat = a := by
    rw [BitVec.ofInt_natCast, BitVec.toNat_ofNat]; exact Nat.mod_eq_of_lt (by omega)
  have h2 : (BitVec.ofInt 64 ((b : Int) * 256)).toNat = b * 256 := by
    rw [show (b : Int) * 256 = ((b * 256 : Nat) : Int) by omega, BitVec.ofInt_natCast, BitVec.toNat_ofNat]; exact Nat.mod_eq_of_lt (by omega)
  have h3 : a ||| b * 256 = a + 256 * b := by
    rw [Nat.or_comm, Nat.mul_comm b, show (256 : Nat) = 2 ^ 8 from rfl, ← Nat.two_pow_add_eq_or_of_lt (by omega), Nat.add_comm]
  show IntKind.i64.wrap ((BitVec.ofInt 64 (a : Int) ||| BitVec.ofInt 64 ((b : Int) * 256)).toNat : Int) = _
  rw [BitVec.toNat_or, h1, h2, h3]
  exact wrap_i64 (by omega) (by omega)
theorem bits_or0 (a : Nat) (ha : a < 256) : bits BinOp.or IntKind.i64 0 (a : Int) = (a : Int) := by
  have h1 : (BitVec.ofInt 64 (a : Int)).toNat = a := by
    rw [BitVec.ofInt_natCast, BitVec.toNat_ofNat]; exact Nat.mod_eq_of_lt (by omega)
  show IntKind.i64.wrap ((BitVec.ofInt 64 (0 : Int) ||| BitVec.ofInt 64 (a : Int)).toNat : Int) = _
  rw [BitVec.toNat_or, h1]
  rw [show (BitVec.ofInt 64 (0 : Int)).toNat = 0 from rfl, Nat.zero_or]
  exact wrap_i64 (by omega) (by omega)
/-- What a reader panics with. -/
abbrev shortE : PanicEntry := { v := .iface 74 (.agg #[]), recovered := false }
set_option maxHeartbeats 2000000 in
set_option maxRecDepth 100000 in
theorem take_short (B R : Nat) (l : List Nat) (n : Nat) (w : World) (h : RD B w R l) (hl : l.length ≤ 1000000) (hn : l.length < n) (hn2 : n ≤ 1000000) :
    Calls Tryd.prog 30 #[.pointer (some ⟨R, 0, none⟩), .int .i64 n] w fun e w' => e = .panicked [shortE] ∧ w' = w := by
  obtain ⟨a, c, hR, hO⟩ := h
  have hc0 : w.cell? ⟨R, 0, none⟩ = some (.slice a l.length c) := by rw [Lib.cell_of_heap hR]; rfl
  go_enter Tryd.func30, Tryd.ntmps30
  go_wp2
  exact ⟨rfl, rfl, rfl⟩
set_option maxHeartbeats 2000000 in
set_option maxRecDepth 100000 in
theorem number_short (B R : Nat) (l : List Nat) (n : Nat) (w : World) (h : RD B w R l) (hl : l.length ≤ 1000000) (hn : l.length < n) (hn2 : n ≤ 1000000) :
    Calls Tryd.prog 29 #[.pointer (some ⟨R, 0, none⟩), .int .i64 n] w fun e w' => e = .panicked [shortE] ∧ w' = w := by
  go_enter Tryd.func29, Tryd.ntmps29
  go_wp2_with (go_at_call 30; refine (take_short B R l n w h hl hn hn2).mono ?_)
  rintro e w1 ⟨rfl, rfl⟩
  go_wp2
  exact ⟨rfl, rfl, rfl⟩
set_option maxHeartbeats 2000000 in
set_option maxRecDepth 100000 in
theorem number1 (B R x : Nat) (l : List Nat) (w : World) (h : RD B w R (x :: l)) (hB : B ≤ R) (hl : (x :: l).length ≤ 1000000) :
    Calls Tryd.prog 29 #[.pointer (some ⟨R, 0, none⟩), .int .i64 1] w fun e w' => e = .returned (.int .i64 x) ∧ RD B w' R l ∧ w.grownBy w' (some R) := by
  have ht := take_walk B R (x :: l) 1 w h hB hl (by simp)
  go_enter Tryd.func29, Tryd.ntmps29
  go_wp2_with (go_at_call 30; refine ht.mono ?_)
  rintro e w1 ⟨v, rfl, ⟨a, c, rfl, h1, h2, h3⟩, hr, hg⟩
  obtain ⟨hx, X, o, rfl, hX, cs0, fz0, hc0, hc⟩ := h3 0 x rfl
  rw [Nat.add_zero, ← Lib.cell_of_heap hc0] at hc
  clear h3 h2 hc0
  go_wp2
  go_loopw [5, 12] (fun v i wr => ∃ k : Nat, i = .int .i64 k ∧ wr = w1 ∧ (k = 0 ∧ v = .int .i64 0 ∨ k = 1 ∧ v = .int .i64 x)) (fun _ i _ => 1 - (Lib.intOf i).toNat)
  case atStart => exact ⟨0, rfl, rfl, .inl ⟨rfl, rfl⟩⟩
  case round =>
    obtain ⟨k, rfl, rfl, ⟨rfl, rfl⟩ | ⟨rfl, rfl⟩⟩ := hrel
    · go_wp2
      go_roundw
      case rel => exact ⟨1, rfl, trivial, .inr ⟨rfl, by rw [bits_or0 x hx]⟩⟩
      case measure => simp [Lib.intOf]
    · go_wp2
      go_ret
      exact ⟨rfl, hr, hg⟩
set_option maxHeartbeats 2000000 in
set_option maxRecDepth 100000 in
theorem number2 (B R x y : Nat) (l : List Nat) (w : World) (h : RD B w R (x :: y :: l)) (hB : B ≤ R) (hl : (x :: y :: l).length ≤ 1000000) :
    Calls Tryd.prog 29 #[.pointer (some ⟨R, 0, none⟩), .int .i64 2] w fun e w' => e = .returned (.int .i64 ((x + 256 * y : Nat) : Int)) ∧ RD B w' R l ∧ w.grownBy w' (some R) := by
  have ht := take_walk B R (x :: y :: l) 2 w h hB hl (by simp)
  go_enter Tryd.func29, Tryd.ntmps29
  go_wp2_with (go_at_call 30; refine ht.mono ?_)
  rintro e w1 ⟨v, rfl, ⟨a, c, rfl, h1, h2, h3⟩, hr, hg⟩
  obtain ⟨hx, X, o, rfl, hX, cs0, fz0, hc0, hc⟩ := h3 0 x rfl
  obtain ⟨hy, X', o', he, hX', cs1, fz1, hc1, hc'⟩ := h3 1 y rfl
  obtain ⟨rfl, rfl⟩ : X' = X ∧ o' = o := by simpa using he.symm
  rw [← Lib.cell_of_heap hc1] at hc'
  rw [Nat.add_zero, ← Lib.cell_of_heap hc0] at hc
  clear h3 h2 he hc0 hc1
  go_wp2
  go_loopw [5, 12] (fun v i wr => ∃ k : Nat, i = .int .i64 k ∧ wr = w1 ∧ (k = 0 ∧ v = .int .i64 0 ∨ k = 1 ∧ v = .int .i64 x ∨ k = 2 ∧ v = .int .i64 ((x + 256 * y : Nat) : Int))) (fun _ i _ => 2 - (Lib.intOf i).toNat)
  case atStart => exact ⟨0, rfl, rfl, .inl ⟨rfl, rfl⟩⟩
  case round =>
    obtain ⟨k, rfl, rfl, ⟨rfl, rfl⟩ | ⟨rfl, rfl⟩ | ⟨rfl, rfl⟩⟩ := hrel
    · go_wp2
      go_roundw
      case rel => exact ⟨1, rfl, trivial, .inr (.inl ⟨rfl, by rw [bits_or0 x hx]⟩)⟩
      case measure => simp [Lib.intOf]
    · go_wp2
      go_roundw
      case rel => exact ⟨2, rfl, trivial, .inr (.inr ⟨rfl, by rw [bits_or8 x y hx hy]⟩)⟩
      case measure => simp [Lib.intOf]
    · go_wp2
      go_ret
      exact ⟨rfl, hr, hg⟩
end Go.Proofs

namespace Go.Proofs
open Go.RowKit Go.Av
set_option linter.unusedVariables false
set_option linter.unusedSimpArgs false
set_option maxHeartbeats 4000000 in
set_option maxRecDepth 100000 in
theorem catch_idle (p q : Addr) (w : World) :
    CallsD Tryd.prog 28 #[.pointer (some p), .pointer (some q)] .returning w fun e u' w' => e = .returned (.tuple #[]) ∧ u' = .returning ∧ w' = w := by
  refine callsD_of_wpS Tryd.func28 rfl fun c₀ cs hu => ?_
  apply wpS_seq
  apply wpS_region
  simp [wpOpsS, go_sem, recoverD, hu, Tryd.ntmps28, Exit.thenS]
  apply wpS_seq
  apply wpS_region
  simp [wpOpsS, go_sem, Exit.thenS]
  refine wpS_cond (t := false) (by simp [Act.eval, Array.replicate]) ?_
  simp only [Bool.false_eq_true, if_false]
  refine wpS_of_wp (wp_skip ?_)
  cases c₀
  simp_all [bodyPostS, results, Tryd.results28]
set_option maxHeartbeats 4000000 in
set_option maxRecDepth 100000 in
theorem catch_short (S E : Nat) (w : World) (x y z t : Value) (hS : w.heap[S]? = some (.cells #[x, y, z] 43 (0, 0))) (hE : w.heap[E]? = some (.cells #[t] 28 (0, 0))) :
    CallsD Tryd.prog 28 #[.pointer (some ⟨S, 0, none⟩), .pointer (some ⟨E, 0, none⟩)] (.panicking [shortE]) w fun e u' w' =>
      e = .returned (.tuple #[]) ∧ u' = .panicking [{ v := .iface 74 (.agg #[]), recovered := true }] ∧
        w'.heap[S]? = some (.cells #[.int .i64 0, .slice none 0 0, .slice none 0 0] 43 (0, 0)) ∧ w'.heap[E]? = some (.cells #[.int .i64 2] 28 (0, 0)) ∧ (∀ B, B ≤ S → B ≤ E → B ≤ w.heap.size → Below B w w') := by
  have hne : S ≠ E := fun e => by rw [e, hE] at hS; simp at hS
  have hlS : S < w.heap.size := (Array.getElem?_eq_some_iff.1 hS).1
  have hlE : E < w.heap.size := (Array.getElem?_eq_some_iff.1 hE).1
  have key : ∀ (u : World) (x y z t : Value), u.heap[S]? = some (.cells #[x, y, z] 43 (0, 0)) → u.heap[E]? = some (.cells #[t] 28 (0, 0)) → (u.alloc (.cells #[] 74)).heap[S]? = some (.cells #[x, y, z] 43 (0, 0)) ∧ (u.alloc (.cells #[] 74)).heap[E]? = some (.cells #[t] 28 (0, 0)) := fun u x y z t h1 h2 =>
    ⟨(Below.heap_alloc u _ S (Array.getElem?_eq_some_iff.1 h1).1).trans h1, (Below.heap_alloc u _ E (Array.getElem?_eq_some_iff.1 h2).1).trans h2⟩
  have hS1 : (w.setCell ⟨S, 0, none⟩ (.int .i64 0)).heap[S]? = some (.cells #[.int .i64 0, y, z] 43 (0, 0)) := by simp [World.setCell, Array.getElem?_modify, hS]
  have hE1 : (w.setCell ⟨S, 0, none⟩ (.int .i64 0)).heap[E]? = some (.cells #[t] 28 (0, 0)) := (Below.heap_setCell _ _ _ E (fun e => hne e.symm)).trans hE
  have hS2 : ((w.setCell ⟨S, 0, none⟩ (.int .i64 0)).setCell ⟨S, 1, none⟩ (.slice none 0 0)).heap[S]? = some (.cells #[.int .i64 0, .slice none 0 0, z] 43 (0, 0)) := by simp [World.setCell, Array.getElem?_modify, hS]
  have hE2 : ((w.setCell ⟨S, 0, none⟩ (.int .i64 0)).setCell ⟨S, 1, none⟩ (.slice none 0 0)).heap[E]? = some (.cells #[t] 28 (0, 0)) := (Below.heap_setCell _ _ _ E (fun e => hne e.symm)).trans hE1
  have hS3 : (((w.setCell ⟨S, 0, none⟩ (.int .i64 0)).setCell ⟨S, 1, none⟩ (.slice none 0 0)).setCell ⟨S, 2, none⟩ (.slice none 0 0)).heap[S]? = some (.cells #[.int .i64 0, .slice none 0 0, .slice none 0 0] 43 (0, 0)) := by simp [World.setCell, Array.getElem?_modify, hS]
  have hE3 : (((w.setCell ⟨S, 0, none⟩ (.int .i64 0)).setCell ⟨S, 1, none⟩ (.slice none 0 0)).setCell ⟨S, 2, none⟩ (.slice none 0 0)).heap[E]? = some (.cells #[t] 28 (0, 0)) := (Below.heap_setCell _ _ _ E (fun e => hne e.symm)).trans hE2
  obtain ⟨k1, k2⟩ := key _ _ _ _ _ hS hE
  obtain ⟨k3, k4⟩ := key _ _ _ _ _ hS1 hE1
  obtain ⟨k5, k6⟩ := key _ _ _ _ _ hS2 hE2
  obtain ⟨k7, k8⟩ := key _ _ _ _ _ hS3 hE3
  have c0 := Lib.cell_of_heap k1 0
  have z0 := Lib.frozen_of_heap k1 0
  have c1 := Lib.cell_of_heap k3 1
  have z1 := Lib.frozen_of_heap k3 1
  have c2 := Lib.cell_of_heap k5 2
  have z2 := Lib.frozen_of_heap k5 2
  have c3 := Lib.cell_of_heap k8 0
  have z3 := Lib.frozen_of_heap k8 0
  simp only [List.getElem?_toArray, List.getElem?_cons_zero, List.getElem?_cons_succ] at c0 c1 c2 c3
  refine callsD_of_wpS Tryd.func28 rfl fun c₀ cs hu => ?_
  apply wpS_seq
  apply wpS_region
  simp [wpOpsS, go_sem, recoverD, hu, Tryd.ntmps28, Exit.thenS]
  apply wpS_seq
  apply wpS_region
  simp [wpOpsS, go_sem, Exit.thenS]
  refine wpS_cond (t := true) (by simp [Act.eval, Array.replicate]) ?_
  simp only [if_true]
  refine wpS_of_wp ?_
  have hta : ∀ w, Sem.run Tryd.prog (Instr.typeAssert (Value.iface 74 (Value.agg #[])) 20 74 true) w = .ok (.tuple #[.agg #[], .bool true]) w := fun _ => by kernel_rfl
  go_wp2
  have hE4 : ((((w.setCell ⟨S, 0, none⟩ (.int .i64 0)).setCell ⟨S, 1, none⟩ (.slice none 0 0)).setCell ⟨S, 2, none⟩ (.slice none 0 0)).setCell ⟨E, 0, none⟩ (.int .i64 2)).heap[E]? = some (.cells #[.int .i64 2] 28 (0, 0)) := set1 hE3 _
  have hS4 : ((((w.setCell ⟨S, 0, none⟩ (.int .i64 0)).setCell ⟨S, 1, none⟩ (.slice none 0 0)).setCell ⟨S, 2, none⟩ (.slice none 0 0)).setCell ⟨E, 0, none⟩ (.int .i64 2)).heap[S]? = some (.cells #[.int .i64 0, .slice none 0 0, .slice none 0 0] 43 (0, 0)) := (Below.heap_setCell _ _ _ S (fun e => hne e)).trans hS3
  obtain ⟨m1, m2⟩ := key _ _ _ _ _ hS4 hE4
  simp only [bodyPostS, results, Tryd.results28]
  refine ⟨trivial, _, rfl, .tuple #[], by simp, rfl, rfl, m1, m2, fun B h1 h2 h3 => ?_⟩
  exact (((((Below.refl B w).setCell (p := ⟨S, 0, none⟩) h1 _).setCell (p := ⟨S, 1, none⟩) h1 _).setCell (p := ⟨S, 2, none⟩) h1 _).setCell (p := ⟨E, 0, none⟩) h2 _).alloc (by simpa [World.setCell] using h3) _
end Go.Proofs

namespace Go.Proofs
open Go.RowKit Go.Av
set_option linter.unusedVariables false
set_option linter.unusedSimpArgs false
/-- Calls of a script, with the values that hold their bytes. -/
def clV (p : Cl × Value) : List Value := [.int .i64 (p.1.d : Int), .int .i64 (p.1.t : Int), .int .i64 (p.1.n : Int), p.2]
def rdLen (w : World) (R : Nat) : Nat := match w.cell? ⟨R, 0, none⟩ with
  | some (.slice _ n _) => n
  | _ => 0
/-- What the call holds within its loop. -/
structure DI (w wr : World) (l : List Nat) (bk : Nat) (pv cv : Value) (pat : List Nat) (cs : List (Cl × Value)) : Prop where
  rd : RD w.heap.size wr (w.heap.size + 2) l
  scr : wr.heap[w.heap.size]? = some (.cells #[.int .i64 (bk : Int), pv, cv] 43 (0, 0))
  err : wr.heap[w.heap.size + 1]? = some (.cells #[.int .i64 0] 28 (0, 0))
  pat : NB w.heap.size wr pv pat
  row : wr.ownsRow w.heap.size 67 4 cv cs.length (cs.flatMap clV)
  data : ∀ p ∈ cs, NB w.heap.size wr p.2 p.1.b
  below : Below w.heap.size w wr
/-- How Decode ends. -/
def decEnd (w : World) (r : Nat ⊕ (Nat × List Nat × List Cl)) (e : Ending) (w' : World) : Prop := Below w.heap.size w w' ∧ match r with
  | .inl c => e = .returned (.tuple #[.agg #[.int .i64 0, .slice none 0 0, .slice none 0 0], .int .i64 (c : Int)])
  | .inr (bk, pat, cl) => ∃ (pv cv : Value) (cs : List (Cl × Value)), e = .returned (.tuple #[.agg #[.int .i64 (bk : Int), pv, cv], .int .i64 0]) ∧ NB w.heap.size w' pv pat ∧ cs.map (·.1) = cl ∧ w'.ownsRow w.heap.size 67 4 cv cs.length (cs.flatMap clV) ∧ ∀ p ∈ cs, NB w.heap.size w' p.2 p.1.b
abbrev doorD (w : World) : List Deferred := [{ target := Target.fn (Fn.func 28) #[.pointer (some ⟨w.heap.size, 0, none⟩), .pointer (some ⟨w.heap.size + 1, 0, none⟩)], args := #[] }]
theorem dies (w wX : World) (tmps : Array Value) (x y z t : Value) (h2 : tmps.getD 2 undef = .pointer (some ⟨w.heap.size, 0, none⟩)) (h3 : tmps.getD 3 undef = .pointer (some ⟨w.heap.size + 1, 0, none⟩))
    (hS : wX.heap[w.heap.size]? = some (.cells #[x, y, z] 43 (0, 0))) (hE : wX.heap[w.heap.size + 1]? = some (.cells #[t] 28 (0, 0))) (hb : Below w.heap.size w wX) (D : Nat ⊕ (Nat × List Nat × List Cl)) (hr : D = .inl 2) :
    bodyPostD Tryd.prog Tryd.f12 (decEnd w D) (Exit.panic [shortE]) { tmps := tmps, defers := doorD w } wX := by
  refine leaves_cons (f := 28) (args := #[.pointer (some ⟨w.heap.size, 0, none⟩), .pointer (some ⟨w.heap.size + 1, 0, none⟩)]) (by simp) (by simp [go_sem]) ?_
  refine (catch_short w.heap.size (w.heap.size + 1) wX x y z t hS hE).mono ?_
  rintro e u' w'' ⟨rfl, rfl, m1, m2, mb⟩
  have c0 := Lib.cell_of_heap m1 0
  have c1 := Lib.cell_of_heap m1 1
  have c2 := Lib.cell_of_heap m1 2
  have c3 := Lib.cell_of_heap m2 0
  simp only [List.getElem?_toArray, List.getElem?_cons_zero, List.getElem?_cons_succ] at c0 c1 c2 c3
  have hbb := hb.trans (mb w.heap.size (Nat.le_refl _) (by omega) hb.size)
  have h2' : tmps[2]?.getD undef = .pointer (some ⟨w.heap.size, 0, none⟩) := by simpa using h2
  have h3' : tmps[3]?.getD undef = .pointer (some ⟨w.heap.size + 1, 0, none⟩) := by simpa using h3
  simp [Leaves, settle, results, Tryd.results12, go_sem, h2', h3', c0, c1, c2, c3]
  rw [hr]
  exact ⟨hbb, rfl⟩
theorem ends (w wX : World) (tmps : Array Value) (R : Ending → World → Prop) (x y z t : Value) (h2 : tmps.getD 2 undef = .pointer (some ⟨w.heap.size, 0, none⟩)) (h3 : tmps.getD 3 undef = .pointer (some ⟨w.heap.size + 1, 0, none⟩))
    (hS : wX.heap[w.heap.size]? = some (.cells #[x, y, z] 43 (0, 0))) (hE : wX.heap[w.heap.size + 1]? = some (.cells #[t] 28 (0, 0))) (hR : R (.returned (.tuple #[.agg #[x, y, z], t])) wX) :
    bodyPostD Tryd.prog Tryd.f12 R Exit.ret { tmps := tmps, defers := doorD w } wX := by
  refine leaves_cons (f := 28) (args := #[.pointer (some ⟨w.heap.size, 0, none⟩), .pointer (some ⟨w.heap.size + 1, 0, none⟩)]) (by simp) (by simp [go_sem]) ?_
  refine (catch_idle ⟨w.heap.size, 0, none⟩ ⟨w.heap.size + 1, 0, none⟩ wX).mono ?_
  rintro e u' w'' ⟨rfl, rfl, rfl⟩
  have c0 := Lib.cell_of_heap hS 0
  have c1 := Lib.cell_of_heap hS 1
  have c2 := Lib.cell_of_heap hS 2
  have c3 := Lib.cell_of_heap hE 0
  simp only [List.getElem?_toArray, List.getElem?_cons_zero, List.getElem?_cons_succ] at c0 c1 c2 c3
  have h2' : tmps[2]?.getD undef = .pointer (some ⟨w.heap.size, 0, none⟩) := by simpa using h2
  have h3' : tmps[3]?.getD undef = .pointer (some ⟨w.heap.size + 1, 0, none⟩) := by simpa using h3
  simp [Leaves, settle, results, Tryd.results12, go_sem, h2', h3', c0, c1, c2, c3]
  exact hR
def decR (b : Nat) (pat : List Nat) (r : Nat ⊕ List Cl) : Nat ⊕ (Nat × List Nat × List Cl) := match r with
  | .inl c => .inl c
  | .inr cs => .inr (b, pat, cs)
theorem grown_keep {w w' : World} {R k : Nat} {o : Obj} (g : w.grownBy w' (some R)) (hk : k ≠ R) (h : w.heap[k]? = some o) : w'.heap[k]? = some o :=
  (g.block k (Array.getElem?_eq_some_iff.1 h).1 (fun e => hk (by injection e))).trans h
theorem grown_below {B : Nat} {a w w' : World} {R : Nat} (h : Below B a w) (g : w.grownBy w' (some R)) (hB : B ≤ w.heap.size) (hR : B ≤ R) : Below B a w' :=
  h.grown g hB (fun k hk => by injection hk with hk; omega)
theorem scr_set {w : World} {S : Nat} {x y z : Value} (h : w.heap[S]? = some (.cells #[x, y, z] 43 (0, 0))) (u : Value) :
    (w.setCell ⟨S, 0, none⟩ u).heap[S]? = some (.cells #[u, y, z] 43 (0, 0)) ∧ (w.setCell ⟨S, 1, none⟩ u).heap[S]? = some (.cells #[x, u, z] 43 (0, 0)) ∧ (w.setCell ⟨S, 2, none⟩ u).heap[S]? = some (.cells #[x, y, u] 43 (0, 0)) := by
  simp [World.setCell, Array.getElem?_modify, h]
theorem set_keep {w : World} {S j k : Nat} {u : Value} {o : Obj} (hk : k ≠ S) (h : w.heap[k]? = some o) : (w.setCell ⟨S, j, none⟩ u).heap[k]? = some o := (Below.heap_setCell _ _ _ k hk).trans h
theorem RD.setOther {B R S j : Nat} {w : World} {l : List Nat} (h : RD B w R l) (hR : R ≠ S) (hS : B ≤ S) (u : Value) : RD B (w.setCell ⟨S, j, none⟩ u) R l := by
  obtain ⟨a, c, h1, h2⟩ := h
  exact ⟨a, c, set_keep hR h1, h2.set hS _ _⟩
theorem row_same {w w' : World} {B n : Nat} {v : Value} {xs : List Value} (h : w.ownsRow B 67 4 v n xs) (hk : ∀ (k : Nat) (cs : Array Value) (fz : Nat × Nat), w.heap[k]? = some (Obj.cells cs 67 fz) → w'.heap[k]? = some (Obj.cells cs 67 fz)) : w'.ownsRow B 67 4 v n xs := by
  obtain ⟨h1, h2 | ⟨g, cap, cur, h2, h3, h4, h5⟩⟩ := h
  · exact ⟨h1, .inl h2⟩
  · exact ⟨h1, .inr ⟨g, cap, cur, h2, h3, hk _ _ _ h4, h5⟩⟩
theorem fin_world {wr : World} {S E : Nat} {x y z t : Value} (x' y' z' t' : Value) (hne : S ≠ E) (hS : wr.heap[S]? = some (.cells #[x, y, z] 43 (0, 0))) (hE : wr.heap[E]? = some (.cells #[t] 28 (0, 0))) :
    ∃ w', w' = (((wr.setCell ⟨S, 0, none⟩ x').setCell ⟨S, 1, none⟩ y').setCell ⟨S, 2, none⟩ z').setCell ⟨E, 0, none⟩ t' ∧ w'.heap[S]? = some (.cells #[x', y', z'] 43 (0, 0)) ∧ w'.heap[E]? = some (.cells #[t'] 28 (0, 0)) ∧
      (∀ (k : Nat) (cs : Array Value) (T : TypeId) (fz : Nat × Nat), T ≠ 43 → T ≠ 28 → wr.heap[k]? = some (Obj.cells cs T fz) → w'.heap[k]? = some (Obj.cells cs T fz)) ∧ ∀ B, B ≤ S → B ≤ E → Below B wr w' := by
  have h1 := (scr_set hS x').1
  have h2 := (scr_set h1 y').2.1
  have h3 := (scr_set h2 z').2.2
  have e3 : (((wr.setCell ⟨S, 0, none⟩ x').setCell ⟨S, 1, none⟩ y').setCell ⟨S, 2, none⟩ z').heap[E]? = some (.cells #[t] 28 (0, 0)) := set_keep hne.symm (set_keep hne.symm (set_keep hne.symm hE))
  refine ⟨_, rfl, set_keep hne h3, set1 e3 _, fun k cs T fz hT1 hT2 hk => ?_, fun B b1 b2 => ?_⟩
  · have k1 : k ≠ S := fun e => by subst e; rw [hS] at hk; simp at hk; exact hT1 hk.2.1.symm
    have k2 : k ≠ E := fun e => by subst e; rw [hE] at hk; simp at hk; exact hT2 hk.2.1.symm
    exact set_keep k2 (set_keep k1 (set_keep k1 (set_keep k1 hk)))
  · exact ((((Below.refl B wr).setCell (p := ⟨S, 0, none⟩) b1 _).setCell (p := ⟨S, 1, none⟩) b1 _).setCell (p := ⟨S, 2, none⟩) b1 _).setCell (p := ⟨E, 0, none⟩) b2 _
theorem grow_keep {x y : World} {B n : Nat} {v : Value} {xs : List Value} (hr : x.ownsRow B 67 4 v n xs) (hg : x.grownBy y v.ownBlock) {k : Nat} {c : Array Value} {T : TypeId} {f : Nat × Nat} (hT : T ≠ 67) (hk : x.heap[k]? = some (Obj.cells c T f)) : y.heap[k]? = some (Obj.cells c T f) := by
  refine (hg.block k (Array.getElem?_eq_some_iff.1 hk).1 fun e => ?_).trans hk
  rcases hr.2 with ⟨rfl, _⟩ | ⟨g, cap, cur, rfl, _, h4, _⟩
  · simp [Value.ownBlock] at e
  · simp only [Value.ownBlock, Option.some.injEq] at e
    subst e
    rw [hk] at h4
    simp at h4
    exact hT h4.2.1
theorem grow_below {a x y : World} {B n : Nat} {v : Value} {xs : List Value} (hb : Below B a x) (hr : x.ownsRow B 67 4 v n xs) (hg : x.grownBy y v.ownBlock) (hB : B ≤ x.heap.size) : Below B a y :=
  hb.grown hg hB fun k hk => by
    rcases hr.2 with ⟨rfl, _⟩ | ⟨g, cap, cur, rfl, h3, _⟩
    · simp [Value.ownBlock] at hk
    · simp only [Value.ownBlock, Option.some.injEq] at hk
      omega
theorem app_end {w wr wB w7 : World} {l r : List Nat} {b : Nat} {pv : Value} {ac a7 : Option Addr} {nc cc n7 c7 : Nat} {pat : List Nat} {cs : List (Cl × Value)} (hI : DI w wr l b pv (.slice ac nc cc) pat cs)
    (hS : wB.heap[w.heap.size]? = some (.cells #[.int .i64 (b : Int), pv, .slice ac nc cc] 43 (0, 0))) (hE : wB.heap[w.heap.size + 1]? = some (.cells #[.int .i64 0] 28 (0, 0))) (hrd : RD w.heap.size wB (w.heap.size + 2) r) (hb : Below w.heap.size w wB)
    (hK : KB wr wB) (hrow : wB.ownsRow w.heap.size 67 4 (.slice ac nc cc) cs.length (cs.flatMap clV)) (x : Cl) (v4 : Value) (hv : NB w.heap.size wB v4 x.b) (o : Obj)
    (hown : w7.ownsRow w.heap.size 67 4 (.slice a7 n7 c7) (cs.length + 1) (cs.flatMap clV ++ clV (x, v4))) (hg : (wB.alloc o).grownBy w7 (Value.slice ac nc cc).ownBlock) :
    DI w (w7.setCell ⟨w.heap.size, 2, none⟩ (.slice a7 n7 c7)) r b pv (.slice a7 n7 c7) pat (cs ++ [(x, v4)]) ∧ rdLen (w7.setCell ⟨w.heap.size, 2, none⟩ (.slice a7 n7 c7)) (w.heap.size + 2) = r.length := by
  have hrow2 := hrow.kept (World.grownBy_alloc wB o none) (Classical.em _)
  have hS7 := grow_keep hrow2 hg (by decide) ((Below.heap_alloc _ _ _ (Array.getElem?_eq_some_iff.1 hS).1).trans hS)
  have hE7 := grow_keep hrow2 hg (by decide) ((Below.heap_alloc _ _ _ (Array.getElem?_eq_some_iff.1 hE).1).trans hE)
  have hb17 : Below w.heap.size wB w7 := grow_below ((Below.refl _ wB).alloc hb.size _) hrow2 hg (by have := hb.size; simp; omega)
  have hb78 : Below w.heap.size w7 (w7.setCell ⟨w.heap.size, 2, none⟩ (.slice a7 n7 c7)) := (Below.refl _ w7).setCell (p := ⟨w.heap.size, 2, none⟩) (Nat.le_refl _) _
  have hkeep : ∀ (k : Nat) (c : Array Value) (T : TypeId) (f : Nat × Nat), T ≠ 67 → T ≠ 43 → wB.heap[k]? = some (.cells c T f) → (w7.setCell ⟨w.heap.size, 2, none⟩ (.slice a7 n7 c7)).heap[k]? = some (.cells c T f) := fun k c T f hT hT2 hk => by
    have h1 := (Below.heap_alloc wB o k (Array.getElem?_eq_some_iff.1 hk).1).trans hk
    have h3 := grow_keep hrow2 hg hT h1
    exact set_keep (fun e => by subst e; rw [hS7] at h3; simp at h3; exact hT2 h3.2.1.symm) h3
  have hKB2 : KB wB (w7.setCell ⟨w.heap.size, 2, none⟩ (.slice a7 n7 c7)) := fun k c f => hkeep k c _ f (by decide) (by decide)
  have hKB := hK.trans hKB2
  obtain ⟨aR1, cR1, hRD, hOD⟩ := hrd
  refine ⟨⟨⟨aR1, cR1, hkeep _ _ _ _ (by decide) (by decide) hRD, hOD.kept (hb17.trans hb78)⟩, (scr_set hS7 _).2.2, set_keep (by omega) hE7, hI.pat.keep hKB, ?row, ?data, (hb.trans hb17).trans hb78⟩, ?ms⟩
  case row =>
    have h2 : w7.ownsRow w.heap.size 67 4 (.slice a7 n7 c7) (cs ++ [(x, v4)]).length ((cs ++ [(x, v4)]).flatMap clV) := by simpa using hown
    exact row_same h2 fun k c f hk => set_keep (fun e => by subst e; rw [hS7] at hk; simp at hk) hk
  case data =>
    intro p hp
    rcases List.mem_append.1 hp with hp | hp
    · exact (hI.data p hp).keep hKB
    · obtain rfl : p = _ := List.mem_singleton.1 hp
      exact hv.keep hKB2
  case ms =>
    have := Lib.cell_of_heap (hkeep _ _ _ _ (by decide) (by decide) hRD) 0
    unfold rdLen
    rw [this]
    rfl
theorem row_grown {w w' : World} {B n R : Nat} {v : Value} {xs : List Value} (h : w.ownsRow B 67 4 v n xs) (g : w.grownBy w' (some R)) {l : List Nat} {B' : Nat} (hR : RD B' w R l) : w'.ownsRow B 67 4 v n xs :=
  row_same h fun k cs f hk => (g.block k (Array.getElem?_eq_some_iff.1 hk).1 (fun e => by
    injection e with e
    subst e
    obtain ⟨_, _, h2, _⟩ := hR
    rw [h2] at hk; simp at hk)).trans hk
theorem row_alloc {w : World} {B n : Nat} {v : Value} {xs : List Value} (h : w.ownsRow B 67 4 v n xs) (o : Obj) : (w.alloc o).ownsRow B 67 4 v n xs :=
  row_same h fun k cs f hk => (Below.heap_alloc w o k (Array.getElem?_eq_some_iff.1 hk).1).trans hk
theorem row_set {w : World} {B n C j : Nat} {v : Value} {xs : List Value} (h : w.ownsRow B 67 4 v n xs) (u : Value) (hC : v.ownBlock ≠ some C) : (w.setCell ⟨C, j, none⟩ u).ownsRow B 67 4 v n xs := by
  obtain ⟨h1, h2 | ⟨g, cap, cur, rfl, h3, h4, h5⟩⟩ := h
  · exact ⟨h1, .inl h2⟩
  · exact ⟨h1, .inr ⟨g, cap, cur, rfl, h3, set_keep (fun e => hC (by rw [← e]; rfl)) h4, h5⟩⟩
theorem row_ne {w : World} {B n C : Nat} {v : Value} {xs : List Value} (h : w.ownsRow B 67 4 v n xs) (hC : w.heap.size ≤ C) : v.ownBlock ≠ some C := by
  obtain ⟨h1, ⟨rfl, _⟩ | ⟨g, cap, cur, rfl, h3, h4, h5⟩⟩ := h
  · simp [Value.ownBlock]
  · have := (Array.getElem?_eq_some_iff.1 h4).1
    simp only [Value.ownBlock, ne_eq, Option.some.injEq]
    omega
theorem cells4 {w : World} {C : Nat} {x y z t : Value} (h : w.heap[C]? = some (.cells #[x, y, z, t] 67 (0, 0))) :
    (w.cell? ⟨C, 0, none⟩ = some x ∧ w.cell? ⟨C, 1, none⟩ = some y ∧ w.cell? ⟨C, 2, none⟩ = some z ∧ w.cell? ⟨C, 3, none⟩ = some t) ∧ (∀ j, w.frozen? ⟨C, j, none⟩ = false) ∧
    ∀ u, (w.setCell ⟨C, 1, none⟩ u).heap[C]? = some (.cells #[x, u, z, t] 67 (0, 0)) ∧ (w.setCell ⟨C, 2, none⟩ u).heap[C]? = some (.cells #[x, y, u, t] 67 (0, 0)) ∧ (w.setCell ⟨C, 3, none⟩ u).heap[C]? = some (.cells #[x, y, z, u] 67 (0, 0)) := by
  refine ⟨⟨?_, ?_, ?_, ?_⟩, fun j => Lib.frozen_of_heap h j, fun u => by simp [World.setCell, Array.getElem?_modify, h]⟩ <;> rw [Lib.cell_of_heap h] <;> rfl
set_option maxHeartbeats 1500000 in
set_option maxRecDepth 1000000 in
theorem dec_walk (a : Option Addr) (c n : Nat) (l : List Nat) (w : World) (hn : n = l.length) (h : OB w.heap.size w a c l) (hl : l.length ≤ 100000) :
    Calls Tryd.prog 12 #[.slice a n c] w (decEnd w (decS l)) := by
  have hmf : ∀ (fn : Fn) (first cap : Array Value) (w : World), (Instr.makeFunc fn first cap).run Tryd.prog w = .ok (.func fn first cap) w := fun _ _ _ _ => rfl
  obtain ⟨w0, hw0⟩ : ∃ w0, w0 = ((w.alloc (.cells #[.int .i64 0, .slice none 0 0, .slice none 0 0] 43)).alloc (.cells #[.int .i64 0] 28)).alloc (.cells #[.slice a n c] 76) := ⟨_, rfl⟩
  have hb0 : Below w.heap.size w w0 := by rw [hw0]; exact (((Below.refl _ w).alloc (Nat.le_refl _) _).alloc (by simp) _).alloc (by simp; omega) _
  have hS0 : w0.heap[w.heap.size]? = some (.cells #[.int .i64 0, .slice none 0 0, .slice none 0 0] 43 (0, 0)) := by
    rw [hw0]
    exact (Below.heap_alloc _ _ _ (by simp; omega)).trans ((Below.heap_alloc _ _ _ (by simp)).trans (heap_alloc_new w _))
  have hE0 : w0.heap[w.heap.size + 1]? = some (.cells #[.int .i64 0] 28 (0, 0)) := by
    rw [hw0]
    refine (Below.heap_alloc _ _ _ (by simp)).trans ?_
    have := heap_alloc_new (w.alloc (.cells #[.int .i64 0, .slice none 0 0, .slice none 0 0] 43)) (.cells #[.int .i64 0] 28)
    simpa using this
  have hR0 : w0.heap[w.heap.size + 2]? = some (.cells #[.slice a n c] 76 (0, 0)) := by
    rw [hw0]
    have := heap_alloc_new ((w.alloc (.cells #[.int .i64 0, .slice none 0 0, .slice none 0 0] 43)).alloc (.cells #[.int .i64 0] 28)) (.cells #[.slice a n c] 76)
    simpa using this
  have hrd0 : RD w.heap.size w0 (w.heap.size + 2) l := ⟨a, c, by rw [← hn]; exact hR0, h.kept hb0⟩
  clear hn hR0 h
  go_enter_defers Tryd.func12, Tryd.ntmps12
  rcases l with _ | ⟨b, l⟩
  · go_wp2_with (go_at_call 29; rw [← hw0]; refine (number_short w.heap.size (w.heap.size + 2) [] 1 _ hrd0 (by simp) (by simp) (by omega)).mono ?_)
    rintro e w1 ⟨rfl, rfl⟩
    exact dies w _ _ _ _ _ _ rfl rfl hS0 hE0 hb0 _ rfl
  · have hn1 := number1 w.heap.size (w.heap.size + 2) b l w0 hrd0 (by omega) (by simp at hl ⊢; omega)
    go_wp2_with (go_at_call 29; rw [← hw0]; refine hn1.mono ?_)
    rintro e w1 ⟨rfl, hrd1, hg1⟩
    have hS1 := grown_keep hg1 (by omega) hS0
    have hE1 := grown_keep hg1 (by omega) hE0
    have hb1 := grown_below hb0 hg1 hb0.size (by omega)
    have c0 := Lib.cell_of_heap hS1 0
    have z0 := Lib.frozen_of_heap hS1 0
    simp only [List.getElem?_toArray, List.getElem?_cons_zero, List.getElem?_cons_succ] at c0
    go_wp2_with fail
    have hS2 : (w1.setCell ⟨w.heap.size, 0, none⟩ (.int .i64 (b : Int))).heap[w.heap.size]? = some (.cells #[.int .i64 (b : Int), .slice none 0 0, .slice none 0 0] 43 (0, 0)) :=  (scr_set hS1 _).1
    have hE2 : (w1.setCell ⟨w.heap.size, 0, none⟩ (.int .i64 (b : Int))).heap[w.heap.size + 1]? = some (.cells #[.int .i64 0] 28 (0, 0)) :=  set_keep (by omega) hE1
    have hrd2 : RD w.heap.size (w1.setCell ⟨w.heap.size, 0, none⟩ (.int .i64 (b : Int))) (w.heap.size + 2) l :=  hrd1.setOther (by omega) (Nat.le_refl _) _
    have hb2 : Below w.heap.size w (w1.setCell ⟨w.heap.size, 0, none⟩ (.int .i64 (b : Int))) :=  hb1.setCell (p := ⟨w.heap.size, 0, none⟩) (Nat.le_refl _) _
    have hll : l.length ≤ 99999 := by simp at hl; omega
    clear hl hw0 hb0 hS0 hE0 hrd0 hn1 hS1 hE1 hb1 hrd1 hg1
    rcases l with _ | ⟨x, _ | ⟨y, q⟩⟩
    · refine (number_short w.heap.size (w.heap.size + 2) [] 2 _ hrd2 (by simp) (by simp) (by omega)).mono ?_
      rintro e w1 ⟨rfl, rfl⟩
      exact dies w _ _ _ _ _ _ rfl rfl hS2 hE2 hb2 _ rfl
    · refine (number_short w.heap.size (w.heap.size + 2) [x] 2 _ hrd2 (by simp) (by simp) (by omega)).mono ?_
      rintro e w1 ⟨rfl, rfl⟩
      exact dies w _ _ _ _ _ _ rfl rfl hS2 hE2 hb2 _ rfl
    · have hn2 := number2 w.heap.size (w.heap.size + 2) x y q _ hrd2 (by omega) (by simp at hll ⊢; omega)
      have hdec : decS (b :: x :: y :: q) = if q.length < x + 256 * y then .inl 2 else match runS (q.length + 1) (q.drop (x + 256 * y)) [] with
        | .inl c => .inl c
        | .inr cs => .inr (b, q.take (x + 256 * y), cs) := rfl
      have hx : x < 256 ∧ y < 256 := by
        obtain ⟨a', c', _, _, _, h3⟩ := hrd2
        exact ⟨(h3 0 x rfl).1, (h3 1 y rfl).1⟩
      obtain ⟨m, hm⟩ : ∃ m, m = x + 256 * y := ⟨_, rfl⟩
      rw [← hm] at hdec hn2
      have hmb : m ≤ 1000000 := by omega
      have hqb : q.length ≤ 99997 := by simp at hll; omega
      generalize decS (b :: x :: y :: q) = D at *
      clear hm hx hll
      refine hn2.mono ?_
      rintro e w3 ⟨rfl, hrd3, hg3⟩
      have hS3 := grown_keep hg3 (by omega) hS2
      have hE3 := grown_keep hg3 (by omega) hE2
      have hb3 := grown_below hb2 hg3 hb2.size (by omega)
      clear hn2 hg3 hS2 hE2 hb2 hrd2
      have A : Aside (D = if q.length < m then .inl 2 else match runS (q.length + 1) (q.drop m) [] with
        | .inl c => .inl c
        | .inr cs => .inr (b, q.take m, cs)) := hdec
      clear hdec
      by_cases hq : q.length < m
      · go_wp2_with (go_at_call 30; refine (take_short w.heap.size (w.heap.size + 2) q m _ hrd3 (by omega) hq hmb).mono ?_)
        rintro e w1 ⟨rfl, rfl⟩
        exact dies w _ _ _ _ _ _ rfl rfl hS3 hE3 hb3 _ (by rw [A.out, if_pos hq])
      · have ht := take_walk w.heap.size (w.heap.size + 2) q m w3 hrd3 (by omega) (by omega) (by omega)
        go_wp2_with (go_at_call 30; refine ht.mono ?_)
        rintro e w4 ⟨pv, rfl, hpv, hrd4, hg4⟩
        have hS4 := grown_keep hg4 (by omega) hS3
        have hE4 := grown_keep hg4 (by omega) hE3
        have hb4 := grown_below hb3 hg4 hb3.size (by omega)
        obtain ⟨ap, np, cp, rfl⟩ : ∃ ap np cp, pv = .slice ap np cp := by
          obtain ⟨a', c', e, _⟩ := hpv
          exact ⟨_, _, _, e⟩
        have c1 : w4.cell? ⟨w.heap.size, 1, none⟩ = some (.slice none 0 0) := by rw [Lib.cell_of_heap hS4]; rfl
        have z1 := Lib.frozen_of_heap hS4 1
        go_wp2_with fail
        obtain ⟨w5, hw5⟩ : ∃ w5, w5 = w4.setCell ⟨w.heap.size, 1, none⟩ (.slice ap np cp) := ⟨_, rfl⟩
        have hD : DI w w5 (q.drop m) b (.slice ap np cp) (.slice none 0 0) (q.take m) [] := by
          rw [hw5]
          exact ⟨hrd4.setOther (by omega) (Nat.le_refl _) _, (scr_set hS4 _).2.1, set_keep (by omega) hE4, (hpv.mono hb3.size).keep (KB.setCell hS4 (by decide) _ _), World.ownsRow_nil _ _ _ _, by simp, hb4.setCell (p := ⟨w.heap.size, 1, none⟩) (Nat.le_refl _) _⟩
        have A2 : Aside (D = decR b (q.take m) (runS (q.length + 1) (q.drop m) [])) := by
          have := A.out
          rw [if_neg hq] at this
          rw [Aside, this]
          rfl
        rw [← hw5]
        clear hw5 A hS4 hE4 hb4 hrd4 hpv hS3 hE3 hb3 hrd3 ht hg4 c1 z1
        go_loopw [] (fun wr => ∃ (l : List Nat) (f : Nat) (cs : List (Cl × Value)) (cv : Value), DI w wr l b (.slice ap np cp) cv (q.take m) cs ∧ Aside (D = decR b (q.take m) (runS f l (cs.map fun p => p.1)) ∧ l.length < f ∧ l.length ≤ 100000 ∧ cs.length ≤ 200)) (fun wr => rdLen wr (w.heap.size + 2))
        case atStart => exact ⟨q.drop m, q.length + 1, [], _, hD, A2.out, by simp; omega, by simp; omega, by simp⟩
        case round =>
          obtain ⟨l, f, cs, cv, hI, A3⟩ := hrel
          clear hD A2
          obtain ⟨ac, nc, cc, rfl⟩ : ∃ ac nc cc, cv = .slice ac nc cc := by
            rcases hI.row.2 with ⟨e, _⟩ | ⟨g, cap, cur, e, _⟩
            · exact ⟨_, _, _, e⟩
            · exact ⟨_, _, _, e⟩
          obtain ⟨aR, cR, hR, hO⟩ := hI.rd
          have hS := hI.scr
          have hE := hI.err
          have cS0 : wr.cell? ⟨w.heap.size, 0, none⟩ = some (.int .i64 (b : Int)) := by rw [Lib.cell_of_heap hS]; rfl
          have cS1 : wr.cell? ⟨w.heap.size, 1, none⟩ = some (.slice ap np cp) := by rw [Lib.cell_of_heap hS]; rfl
          have cS2 : wr.cell? ⟨w.heap.size, 2, none⟩ = some (.slice ac nc cc) := by rw [Lib.cell_of_heap hS]; rfl
          have cE0 : wr.cell? ⟨w.heap.size + 1, 0, none⟩ = some (.int .i64 0) := by rw [Lib.cell_of_heap hE]; rfl
          have zS0 := Lib.frozen_of_heap hS 0
          have zS1 := Lib.frozen_of_heap hS 1
          have zS2 := Lib.frozen_of_heap hS 2
          have zE0 := Lib.frozen_of_heap hE 0
          rcases l with _ | ⟨d, r⟩
          · have cR0 : wr.cell? ⟨w.heap.size + 1 + 1, 0, none⟩ = some (.slice aR 0 cR) := by
              have := Lib.cell_of_heap hR 0
              simpa using this
            clear hR hO
            go_wp2_with fail
            obtain ⟨w6, hw6, hS6, hE6, hk6, hb6⟩ := fin_world (.int .i64 (b : Int)) (.slice ap np cp) (.slice ac nc cc) (.int .i64 0) (by omega) hS hE
            rw [← hw6]
            refine ends w _ _ _ _ _ _ _ rfl rfl hS6 hE6 ?_
            rw [A3.out.1]
            obtain ⟨f', rfl⟩ : ∃ f', f = f' + 1 := ⟨f - 1, by have := A3.out.2.1; omega⟩
            exact ⟨hI.below.trans (hb6 _ (Nat.le_refl _) (by omega)), _, _, cs, rfl, hI.pat.keep fun k c f => hk6 k c _ f (by decide) (by decide), rfl, row_same hI.row fun k c f => hk6 k c _ f (by decide) (by decide), fun p hp => (hI.data p hp).keep fun k c f => hk6 k c _ f (by decide) (by decide)⟩
          · have cR0 : wr.cell? ⟨w.heap.size + 1 + 1, 0, none⟩ = some (.slice aR (r.length + 1) cR) := by
              have := Lib.cell_of_heap hR 0
              simpa using this
            have hd8 : d < 256 := (hO.2.2 0 d rfl).1
            clear hR hO
            go_wp2_with fail
            refine (number1 w.heap.size (w.heap.size + 2) d r wr hI.rd (by omega) (by have := A3.out.2.2.1; omega)).mono ?_
            rintro e w1 ⟨rfl, hrd1, hg1⟩
            have hS1 := grown_keep hg1 (by omega) hS
            have hE1 := grown_keep hg1 (by omega) hE
            have hR1 : ∃ cs T, wr.heap[w.heap.size + 2]? = some (.cells cs T (0, 0)) ∧ T ≠ 5 ∧ T ≠ 67 := by
              obtain ⟨_, _, h, _⟩ := hI.rd
              exact ⟨_, _, h, by decide, by decide⟩
            have hnc : nc = cs.length := by
              rcases hI.row.2 with ⟨e, h0⟩ | ⟨g, cap, cur, e, _⟩
              · injection e with _ e _; omega
              · injection e
            have hSC : (w1.alloc (.cells #[.int .i64 (d : Int), .int .i64 0, .int .i64 0, .slice none 0 0] 67)).heap[w.heap.size]? = some (.cells #[.int .i64 (b : Int), .slice ap np cp, .slice ac nc cc] 43 (0, 0)) := (Below.heap_alloc _ _ _ (Array.getElem?_eq_some_iff.1 hS1).1).trans hS1
            have hEC : (w1.alloc (.cells #[.int .i64 (d : Int), .int .i64 0, .int .i64 0, .slice none 0 0] 67)).heap[w.heap.size + 1]? = some (.cells #[.int .i64 0] 28 (0, 0)) := (Below.heap_alloc _ _ _ (Array.getElem?_eq_some_iff.1 hE1).1).trans hE1
            have hbC : Below w.heap.size w (w1.alloc (.cells #[.int .i64 (d : Int), .int .i64 0, .int .i64 0, .slice none 0 0] 67)) := by
              have h1 := grown_below hI.below hg1 hI.below.size (by omega)
              exact h1.alloc h1.size _
            have cC0 : (w1.alloc (.cells #[.int .i64 (d : Int), .int .i64 0, .int .i64 0, .slice none 0 0] 67)).cell? ⟨w.heap.size, 0, none⟩ = some (.int .i64 (b : Int)) := by rw [Lib.cell_of_heap hSC]; rfl
            have cC1 : (w1.alloc (.cells #[.int .i64 (d : Int), .int .i64 0, .int .i64 0, .slice none 0 0] 67)).cell? ⟨w.heap.size, 1, none⟩ = some (.slice ap np cp) := by rw [Lib.cell_of_heap hSC]; rfl
            have cC2 : (w1.alloc (.cells #[.int .i64 (d : Int), .int .i64 0, .int .i64 0, .slice none 0 0] 67)).cell? ⟨w.heap.size, 2, none⟩ = some (.slice ac nc cc) := by rw [Lib.cell_of_heap hSC]; rfl
            have cC3 : (w1.alloc (.cells #[.int .i64 (d : Int), .int .i64 0, .int .i64 0, .slice none 0 0] 67)).cell? ⟨w.heap.size + 1, 0, none⟩ = some (.int .i64 0) := by rw [Lib.cell_of_heap hEC]; rfl
            have zC0 := Lib.frozen_of_heap hSC 0
            have zC1 := Lib.frozen_of_heap hSC 1
            have zC2 := Lib.frozen_of_heap hSC 2
            have zC3 := Lib.frozen_of_heap hEC 0
            by_cases hn2 : nc = 200
            · have A4 : Aside (D = .inl 9) := by
                show D = .inl 9
                rw [A3.out.1]
                obtain ⟨f', rfl⟩ : ∃ f', f = f' + 1 := ⟨f - 1, by have := A3.out.2.1; omega⟩
                have hl2 : (cs.map fun p => p.1).length = 200 := by simp; omega
                simp [runS, stepS, hl2, decR]
              clear hnc
              subst hn2
              go_wp2_with fail
              obtain ⟨w6, hw6, hS6, hE6, hk6, hb6⟩ := fin_world (.int .i64 0) (.slice none 0 0) (.slice none 0 0) (.int .i64 9) (by omega) hSC hEC
              rw [← hw6]
              refine ends w _ _ _ _ _ _ _ rfl rfl hS6 hE6 ?_
              rw [A4.out]
              exact ⟨hbC.trans (hb6 _ (Nat.le_refl _) (by omega)), rfl⟩
            · have hn200 : ¬ cs.length = 200 := by omega
              have hCC : (w1.alloc (.cells #[.int .i64 (d : Int), .int .i64 0, .int .i64 0, .slice none 0 0] 67)).heap[w1.heap.size]? = some (.cells #[.int .i64 (d : Int), .int .i64 0, .int .i64 0, .slice none 0 0] 67 (0, 0)) := heap_alloc_new w1 _
              have cD0 : (w1.alloc (.cells #[.int .i64 (d : Int), .int .i64 0, .int .i64 0, .slice none 0 0] 67)).cell? ⟨w1.heap.size, 0, none⟩ = some (.int .i64 (d : Int)) := by rw [Lib.cell_of_heap hCC]; rfl
              obtain ⟨f', rfl⟩ : ∃ f', f = f' + 1 := ⟨f - 1, by have := A3.out.2.1; omega⟩
              clear hnc
              by_cases hd5 : 4 < d
              · have A4 : Aside (D = .inl 5) := by
                  show D = .inl 5
                  rw [A3.out.1]
                  have hl2 : ¬ (cs.map fun p => p.1).length = 200 := by simpa using hn200
                  simp only [runS, stepS]
                  rw [if_neg hl2, if_neg (by omega), if_neg (by omega), if_neg (by omega)]
                  rfl
                have d0 : ¬ d = 0 := by omega
                have d1 : ¬ (d : Int) = 1 := by omega
                have d2 : ¬ (d : Int) = 2 := by omega
                have d3 : ¬ (d : Int) = 3 := by omega
                have d4 : ¬ (d : Int) = 4 := by omega
                have hn2' : ¬ (nc : Int) = 200 := by omega
                go_wp2_with fail
                obtain ⟨w6, hw6, hS6, hE6, hk6, hb6⟩ := fin_world (.int .i64 0) (.slice none 0 0) (.slice none 0 0) (.int .i64 5) (by omega) hSC hEC
                rw [← hw6]
                refine ends w _ _ _ _ _ _ _ rfl rfl hS6 hE6 ?_
                rw [A4.out]
                exact ⟨hbC.trans (hb6 _ (Nat.le_refl _) (by omega)), rfl⟩
              · have hn2' : ¬ (nc : Int) = 200 := by omega
                have cD1 : (w1.alloc (.cells #[.int .i64 (d : Int), .int .i64 0, .int .i64 0, .slice none 0 0] 67)).cell? ⟨w1.heap.size, 1, none⟩ = some (.int .i64 0) := by rw [Lib.cell_of_heap hCC]; rfl
                have cD2 : (w1.alloc (.cells #[.int .i64 (d : Int), .int .i64 0, .int .i64 0, .slice none 0 0] 67)).cell? ⟨w1.heap.size, 2, none⟩ = some (.int .i64 0) := by rw [Lib.cell_of_heap hCC]; rfl
                have cD3 : (w1.alloc (.cells #[.int .i64 (d : Int), .int .i64 0, .int .i64 0, .slice none 0 0] 67)).cell? ⟨w1.heap.size, 3, none⟩ = some (.slice none 0 0) := by rw [Lib.cell_of_heap hCC]; rfl
                by_cases h34 : d = 3 ∨ d = 4
                · have d0 : ¬ d = 0 := by omega
                  have d1 : ¬ (d : Int) = 1 := by omega
                  have d2 : ¬ (d : Int) = 2 := by omega
                  by_cases h3 : d = 3
                  · have d3 : ((d : Int) == 3) = true := by simp; omega
                    have A5 : Aside (d = 3) := h3
                    clear h3 h34
                    have hrowC : (w1.alloc (.cells #[.int .i64 (d : Int), .int .i64 0, .int .i64 0, .slice none 0 0] 67)).ownsRow w.heap.size 67 4 (.slice ac nc cc) cs.length (cs.flatMap clV) := by
                      refine row_same hI.row fun k c' f h => ?_
                      have h1 : w1.heap[k]? = some (.cells c' 67 f) := (hg1.block k (Array.getElem?_eq_some_iff.1 h).1 (fun e => by
                        injection e with e
                        subst e
                        obtain ⟨_, _, h2, _⟩ := hI.rd
                        rw [h2] at h; simp at h)).trans h
                      exact (Below.heap_alloc _ _ _ (Array.getElem?_eq_some_iff.1 h1).1).trans h1
                    have hcl : cs.length ≤ 200 := A3.out.2.2.2
                    obtain ⟨i0, hi, hz0, hz1, hz2⟩ : ∃ i, Tryd.prog.info? 67 = some i ∧ i.zero = some (.agg #[.int .i64 0, .int .i64 0, .int .i64 0, .slice none 0 0]) ∧ i.size = 4 ∧ i.bytes = 48 := ⟨_, rfl, rfl, rfl, rfl⟩
                    go_wp2_with (at_builtin; refine wpList_append_own _ rfl _ _ 41 rfl w.heap.size 67 i0 _ 4 48 Tryd.underlying41 hi hz0 hz1 hz2 rfl (by decide) _ _ _ rfl (hrowC.kept (World.grownBy_alloc _ _ none) (Classical.em _)) ⟨w1.heap.size + 1, 0, none⟩ 1 1 (clV (⟨d, 0, 0, []⟩, .slice none 0 0)) rfl ?qc1 ?qc2 ?qc3 ?qc4 ?qc5 ?qc6 ?_)
                    case qc1 => rfl
                    case qc2 =>
                      intro j u hj
                      rw [Addr.add_lit, Nat.zero_add]
                      have hnew := heap_alloc_new (w1.alloc (.cells #[.int .i64 (d : Int), .int .i64 0, .int .i64 0, .slice none 0 0] 67)) (.cells #[.int .i64 (d : Int), .int .i64 0, .int .i64 0, .slice none 0 0] 67)
                      rw [show (w1.alloc (.cells #[.int .i64 (d : Int), .int .i64 0, .int .i64 0, .slice none 0 0] 67)).heap.size = w1.heap.size + 1 by simp] at hnew
                      rw [Lib.cell_of_heap hnew]
                      simpa [clV] using hj
                    case qc3 => intro u hu; simp [clV] at hu; rcases hu with rfl | rfl | rfl <;> rfl
                    case qc4 => unfold maxLen; omega
                    case qc5 => omega
                    case qc6 => have := hbC.size; simp at this ⊢; omega
                    intro v' w7 hown hgrow hnil
                    have hrowC2 := hrowC.kept (World.grownBy_alloc (w1.alloc (.cells #[.int .i64 (d : Int), .int .i64 0, .int .i64 0, .slice none 0 0] 67)) (.cells #[.int .i64 (d : Int), .int .i64 0, .int .i64 0, .slice none 0 0] 67) none) (Classical.em _)
                    have hS7 := grow_keep hrowC2 hgrow (by decide) ((Below.heap_alloc _ _ _ (Array.getElem?_eq_some_iff.1 hSC).1).trans hSC)
                    have hE7 := grow_keep hrowC2 hgrow (by decide) ((Below.heap_alloc _ _ _ (Array.getElem?_eq_some_iff.1 hEC).1).trans hEC)
                    obtain ⟨a7, n7, c7, rfl⟩ : ∃ a7 n7 c7, v' = .slice a7 n7 c7 := by
                      rcases hown.2 with ⟨e, _⟩ | ⟨g, cap, cur, e, _⟩
                      · exact ⟨_, _, _, e⟩
                      · exact ⟨_, _, _, e⟩
                    have k0 : w7.cell? ⟨w.heap.size, 2, none⟩ = some (.slice ac nc cc) := by rw [Lib.cell_of_heap hS7]; rfl
                    have k1 := Lib.frozen_of_heap hS7 2
                    go_wp2_with fail
                    have hw1 : w.heap.size ≤ w1.heap.size := (grown_below hI.below hg1 hI.below.size (by omega)).size
                    have hb17 : Below w.heap.size w1 w7 := grow_below ((((Below.refl _ w1).alloc hw1 _).alloc (by simp; omega) _)) hrowC2 hgrow (by simp; omega)
                    have hb78 : Below w.heap.size w7 (w7.setCell ⟨w.heap.size, 2, none⟩ (.slice a7 n7 c7)) := (Below.refl _ w7).setCell (p := ⟨w.heap.size, 2, none⟩) (Nat.le_refl _) _
                    have hkeep : ∀ (k : Nat) (c : Array Value) (T : TypeId) (f : Nat × Nat), T ≠ 67 → T ≠ 43 → w1.heap[k]? = some (.cells c T f) → (w7.setCell ⟨w.heap.size, 2, none⟩ (.slice a7 n7 c7)).heap[k]? = some (.cells c T f) := fun k c T f hT hT2 hk => by
                      have h1 := (Below.heap_alloc w1 (.cells #[.int .i64 (d : Int), .int .i64 0, .int .i64 0, .slice none 0 0] 67) k (Array.getElem?_eq_some_iff.1 hk).1).trans hk
                      have h2 := (Below.heap_alloc _ (.cells #[.int .i64 (d : Int), .int .i64 0, .int .i64 0, .slice none 0 0] 67) k (Array.getElem?_eq_some_iff.1 h1).1).trans h1
                      have h3 := grow_keep hrowC2 hgrow hT h2
                      exact set_keep (fun e => by subst e; rw [hS7] at h3; simp at h3; exact hT2 h3.2.1.symm) h3
                    have hKB : KB wr (w7.setCell ⟨w.heap.size, 2, none⟩ (.slice a7 n7 c7)) := by
                      obtain ⟨cR', TR, hRR, hT1, hT2⟩ := hR1
                      exact (KB.grown hg1 hRR hT1).trans fun k c f => hkeep k c _ f (by decide) (by decide)
                    obtain ⟨aR1, cR1, hRD, hOD⟩ := hrd1
                    refine ⟨⟨r, f', cs ++ [(⟨d, 0, 0, []⟩, .slice none 0 0)], .slice a7 n7 c7, ⟨⟨aR1, cR1, hkeep _ _ _ _ (by decide) (by decide) hRD, hOD.kept (hb17.trans hb78)⟩, (scr_set hS7 _).2.2, set_keep (by omega) hE7, hI.pat.keep hKB, ?row, ?data, ((grown_below hI.below hg1 hI.below.size (by omega)).trans hb17).trans hb78⟩, ?asd⟩, ?ms⟩
                    case row =>
                      have h2 : w7.ownsRow w.heap.size 67 4 (.slice a7 n7 c7) (cs ++ [((⟨d, 0, 0, []⟩ : Cl), Value.slice none 0 0)]).length ((cs ++ [((⟨d, 0, 0, []⟩ : Cl), Value.slice none 0 0)]).flatMap clV) := by simpa using hown
                      exact row_same h2 fun k c f hk => set_keep (fun e => by subst e; rw [hS7] at hk; simp at hk) hk
                    case data =>
                      intro p hp
                      rcases List.mem_append.1 hp with hp | hp
                      · exact (hI.data p hp).keep hKB
                      · obtain rfl : p = _ := List.mem_singleton.1 hp
                        exact ⟨none, 0, rfl, Nat.le_refl _, fun _ => rfl, fun i x hx => by simp at hx⟩
                    case asd =>
                      have hl2 : ¬ (cs.map fun p => p.1).length = 200 := by simpa using hn200
                      refine ⟨?_, by have := A3.out.2.1; simp at this; omega, by have := A3.out.2.2.1; simp at this; omega, by simp; omega⟩
                      rw [A3.out.1]
                      have h5 := A5.out
                      simp only [runS, stepS]
                      rw [if_neg hl2, if_neg (by omega), if_neg (by omega), if_pos (by omega)]
                      simp
                    case ms =>
                      have e1 : rdLen wr (w.heap.size + 2) = r.length + 1 := by simp [rdLen, cR0]
                      have e2 : rdLen (w7.setCell ⟨w.heap.size, 2, none⟩ (.slice a7 n7 c7)) (w.heap.size + 2) = r.length := by
                        have := Lib.cell_of_heap (hkeep _ _ _ _ (by decide) (by decide) hRD) 0
                        unfold rdLen
                        rw [this]
                        rfl
                      omega
                  · have d3 : ((d : Int) == 3) = false := by simp; omega
                    have d4 : ((d : Int) == 4) = true := by simp; omega
                    have A5 : Aside (d = 4) := by show d = 4; omega
                    clear h3 h34
                    have hrowC : (w1.alloc (.cells #[.int .i64 (d : Int), .int .i64 0, .int .i64 0, .slice none 0 0] 67)).ownsRow w.heap.size 67 4 (.slice ac nc cc) cs.length (cs.flatMap clV) := by
                      refine row_same hI.row fun k c' f h => ?_
                      have h1 : w1.heap[k]? = some (.cells c' 67 f) := (hg1.block k (Array.getElem?_eq_some_iff.1 h).1 (fun e => by
                        injection e with e
                        subst e
                        obtain ⟨_, _, h2, _⟩ := hI.rd
                        rw [h2] at h; simp at h)).trans h
                      exact (Below.heap_alloc _ _ _ (Array.getElem?_eq_some_iff.1 h1).1).trans h1
                    have hcl : cs.length ≤ 200 := A3.out.2.2.2
                    obtain ⟨i0, hi, hz0, hz1, hz2⟩ : ∃ i, Tryd.prog.info? 67 = some i ∧ i.zero = some (.agg #[.int .i64 0, .int .i64 0, .int .i64 0, .slice none 0 0]) ∧ i.size = 4 ∧ i.bytes = 48 := ⟨_, rfl, rfl, rfl, rfl⟩
                    go_wp2_with (at_builtin; refine wpList_append_own _ rfl _ _ 41 rfl w.heap.size 67 i0 _ 4 48 Tryd.underlying41 hi hz0 hz1 hz2 rfl (by decide) _ _ _ rfl (hrowC.kept (World.grownBy_alloc _ _ none) (Classical.em _)) ⟨w1.heap.size + 1, 0, none⟩ 1 1 (clV (⟨d, 0, 0, []⟩, .slice none 0 0)) rfl ?qc1 ?qc2 ?qc3 ?qc4 ?qc5 ?qc6 ?_)
                    case qc1 => rfl
                    case qc2 =>
                      intro j u hj
                      rw [Addr.add_lit, Nat.zero_add]
                      have hnew := heap_alloc_new (w1.alloc (.cells #[.int .i64 (d : Int), .int .i64 0, .int .i64 0, .slice none 0 0] 67)) (.cells #[.int .i64 (d : Int), .int .i64 0, .int .i64 0, .slice none 0 0] 67)
                      rw [show (w1.alloc (.cells #[.int .i64 (d : Int), .int .i64 0, .int .i64 0, .slice none 0 0] 67)).heap.size = w1.heap.size + 1 by simp] at hnew
                      rw [Lib.cell_of_heap hnew]
                      simpa [clV] using hj
                    case qc3 => intro u hu; simp [clV] at hu; rcases hu with rfl | rfl | rfl <;> rfl
                    case qc4 => unfold maxLen; omega
                    case qc5 => omega
                    case qc6 => have := hbC.size; simp at this ⊢; omega
                    intro v' w7 hown hgrow hnil
                    have hrowC2 := hrowC.kept (World.grownBy_alloc (w1.alloc (.cells #[.int .i64 (d : Int), .int .i64 0, .int .i64 0, .slice none 0 0] 67)) (.cells #[.int .i64 (d : Int), .int .i64 0, .int .i64 0, .slice none 0 0] 67) none) (Classical.em _)
                    have hS7 := grow_keep hrowC2 hgrow (by decide) ((Below.heap_alloc _ _ _ (Array.getElem?_eq_some_iff.1 hSC).1).trans hSC)
                    have hE7 := grow_keep hrowC2 hgrow (by decide) ((Below.heap_alloc _ _ _ (Array.getElem?_eq_some_iff.1 hEC).1).trans hEC)
                    obtain ⟨a7, n7, c7, rfl⟩ : ∃ a7 n7 c7, v' = .slice a7 n7 c7 := by
                      rcases hown.2 with ⟨e, _⟩ | ⟨g, cap, cur, e, _⟩
                      · exact ⟨_, _, _, e⟩
                      · exact ⟨_, _, _, e⟩
                    have k0 : w7.cell? ⟨w.heap.size, 2, none⟩ = some (.slice ac nc cc) := by rw [Lib.cell_of_heap hS7]; rfl
                    have k1 := Lib.frozen_of_heap hS7 2
                    go_wp2_with fail
                    have hw1 : w.heap.size ≤ w1.heap.size := (grown_below hI.below hg1 hI.below.size (by omega)).size
                    have hb17 : Below w.heap.size w1 w7 := grow_below ((((Below.refl _ w1).alloc hw1 _).alloc (by simp; omega) _)) hrowC2 hgrow (by simp; omega)
                    have hb78 : Below w.heap.size w7 (w7.setCell ⟨w.heap.size, 2, none⟩ (.slice a7 n7 c7)) := (Below.refl _ w7).setCell (p := ⟨w.heap.size, 2, none⟩) (Nat.le_refl _) _
                    have hkeep : ∀ (k : Nat) (c : Array Value) (T : TypeId) (f : Nat × Nat), T ≠ 67 → T ≠ 43 → w1.heap[k]? = some (.cells c T f) → (w7.setCell ⟨w.heap.size, 2, none⟩ (.slice a7 n7 c7)).heap[k]? = some (.cells c T f) := fun k c T f hT hT2 hk => by
                      have h1 := (Below.heap_alloc w1 (.cells #[.int .i64 (d : Int), .int .i64 0, .int .i64 0, .slice none 0 0] 67) k (Array.getElem?_eq_some_iff.1 hk).1).trans hk
                      have h2 := (Below.heap_alloc _ (.cells #[.int .i64 (d : Int), .int .i64 0, .int .i64 0, .slice none 0 0] 67) k (Array.getElem?_eq_some_iff.1 h1).1).trans h1
                      have h3 := grow_keep hrowC2 hgrow hT h2
                      exact set_keep (fun e => by subst e; rw [hS7] at h3; simp at h3; exact hT2 h3.2.1.symm) h3
                    have hKB : KB wr (w7.setCell ⟨w.heap.size, 2, none⟩ (.slice a7 n7 c7)) := by
                      obtain ⟨cR', TR, hRR, hT1, hT2⟩ := hR1
                      exact (KB.grown hg1 hRR hT1).trans fun k c f => hkeep k c _ f (by decide) (by decide)
                    obtain ⟨aR1, cR1, hRD, hOD⟩ := hrd1
                    refine ⟨⟨r, f', cs ++ [(⟨d, 0, 0, []⟩, .slice none 0 0)], .slice a7 n7 c7, ⟨⟨aR1, cR1, hkeep _ _ _ _ (by decide) (by decide) hRD, hOD.kept (hb17.trans hb78)⟩, (scr_set hS7 _).2.2, set_keep (by omega) hE7, hI.pat.keep hKB, ?row, ?data, ((grown_below hI.below hg1 hI.below.size (by omega)).trans hb17).trans hb78⟩, ?asd⟩, ?ms⟩
                    case row =>
                      have h2 : w7.ownsRow w.heap.size 67 4 (.slice a7 n7 c7) (cs ++ [((⟨d, 0, 0, []⟩ : Cl), Value.slice none 0 0)]).length ((cs ++ [((⟨d, 0, 0, []⟩ : Cl), Value.slice none 0 0)]).flatMap clV) := by simpa using hown
                      exact row_same h2 fun k c f hk => set_keep (fun e => by subst e; rw [hS7] at hk; simp at hk) hk
                    case data =>
                      intro p hp
                      rcases List.mem_append.1 hp with hp | hp
                      · exact (hI.data p hp).keep hKB
                      · obtain rfl : p = _ := List.mem_singleton.1 hp
                        exact ⟨none, 0, rfl, Nat.le_refl _, fun _ => rfl, fun i x hx => by simp at hx⟩
                    case asd =>
                      have hl2 : ¬ (cs.map fun p => p.1).length = 200 := by simpa using hn200
                      refine ⟨?_, by have := A3.out.2.1; simp at this; omega, by have := A3.out.2.2.1; simp at this; omega, by simp; omega⟩
                      rw [A3.out.1]
                      have h5 := A5.out
                      simp only [runS, stepS]
                      rw [if_neg hl2, if_neg (by omega), if_neg (by omega), if_pos (by omega)]
                      simp
                    case ms =>
                      have e1 : rdLen wr (w.heap.size + 2) = r.length + 1 := by simp [rdLen, cR0]
                      have e2 : rdLen (w7.setCell ⟨w.heap.size, 2, none⟩ (.slice a7 n7 c7)) (w.heap.size + 2) = r.length := by
                        have := Lib.cell_of_heap (hkeep _ _ _ _ (by decide) (by decide) hRD) 0
                        unfold rdLen
                        rw [this]
                        rfl
                      omega
                · have hrdC : RD w.heap.size (w1.alloc (.cells #[.int .i64 (d : Int), .int .i64 0, .int .i64 0, .slice none 0 0] 67)) (w.heap.size + 2) r := by
                    obtain ⟨aR1, cR1, hRD, hOD⟩ := hrd1
                    exact ⟨aR1, cR1, (Below.heap_alloc _ _ _ (Array.getElem?_eq_some_iff.1 hRD).1).trans hRD, hOD.kept ((Below.refl _ w1).alloc (grown_below hI.below hg1 hI.below.size (by omega)).size _)⟩
                  have hrl : r.length ≤ 100000 := by have := A3.out.2.2.1; simp at this; omega
                  by_cases h12 : d = 1 ∨ d = 2
                  · have d0 : ¬ d = 0 := by omega
                    have A5 : Aside (d = 1 ∨ d = 2) := h12
                    by_cases h1 : d = 1
                    · have d1 : ((d : Int) == 1) = true := by simp; omega
                      clear h1 h12 h34
                      go_wp2_with fail
                      by_cases hr2 : r.length < 2
                      · refine (number_short w.heap.size (w.heap.size + 2) r 2 _ hrdC (by omega) hr2 (by omega)).mono ?_
                        rintro e w8 ⟨rfl, rfl⟩
                        refine dies w _ _ _ _ _ _ rfl rfl hSC hEC hbC _ ?_
                        rw [A3.out.1]
                        have hl2 : ¬ (cs.map fun p => p.1).length = 200 := by simpa using hn200
                        have h5 := A5.out
                        simp only [runS, stepS]
                        rw [if_neg hl2, if_neg (by omega), if_pos h5]
                        rcases r with _ | ⟨u, _ | ⟨v, r⟩⟩
                        · rfl
                        · rfl
                        · simp at hr2; omega
                      · obtain ⟨lo, hi', q', rfl⟩ : ∃ lo hi' q', r = lo :: hi' :: q' := by
                          rcases r with _ | ⟨u, _ | ⟨v, r⟩⟩
                          · simp at hr2
                          · simp at hr2
                          · exact ⟨_, _, _, rfl⟩
                        have hm2 := number2 w.heap.size (w.heap.size + 2) lo hi' q' _ hrdC (by omega) (by omega)
                        obtain ⟨m2, hm2e⟩ : ∃ m2, m2 = lo + 256 * hi' := ⟨_, rfl⟩
                        have A6 : Aside (m2 = lo + 256 * hi') := hm2e
                        rw [← hm2e] at hm2
                        clear hm2e
                        refine hm2.mono ?_
                        rintro e w9 ⟨rfl, hrd9, hg9⟩
                        clear hm2
                        have hS9 := grown_keep hg9 (by omega) hSC
                        have hE9 := grown_keep hg9 (by omega) hEC
                        have hsz1 : w.heap.size + 2 < w1.heap.size := by
                          obtain ⟨_, _, h2, _⟩ := hrd1
                          exact (Array.getElem?_eq_some_iff.1 h2).1
                        have hC9 := grown_keep hg9 (by omega) hCC
                        have hb9 := grown_below hbC hg9 hbC.size (by omega)
                        have hrow9 := row_grown (row_alloc (row_grown hI.row hg1 hI.rd) (.cells #[.int .i64 (d : Int), .int .i64 0, .int .i64 0, .slice none 0 0] 67)) hg9 hrdC
                        have hne9 := row_ne (row_grown hI.row hg1 hI.rd) (Nat.le_refl _)
                        have hK9 : KB wr w9 := by
                          obtain ⟨cR', TR, hRR, hT1, hT2⟩ := hR1
                          obtain ⟨_, _, hRC, _⟩ := hrdC
                          exact ((KB.grown hg1 hRR hT1).trans (KB.alloc _ _)).trans (KB.grown hg9 hRC (by decide))
                        obtain ⟨⟨c90, c91, c92, c93⟩, z9, hset⟩ := cells4 hC9
                        have z92 := z9 2
                        have s92 : w9.cell? ⟨w.heap.size, 2, none⟩ = some (.slice ac nc cc) := by rw [Lib.cell_of_heap hS9]; rfl
                        obtain ⟨wB, hwB⟩ : ∃ wB, wB = w9.setCell ⟨w1.heap.size, 2, none⟩ (.int .i64 (m2 : Int)) := ⟨_, rfl⟩
                        have hwsz : wB.heap.size = w9.heap.size := by rw [hwB]; simp [World.setCell]
                        have hSB : wB.heap[w.heap.size]? = some (.cells #[.int .i64 (b : Int), .slice ap np cp, .slice ac nc cc] 43 (0, 0)) := by rw [hwB]; exact set_keep (by omega) hS9
                        have hEB : wB.heap[w.heap.size + 1]? = some (.cells #[.int .i64 0] 28 (0, 0)) := by rw [hwB]; exact set_keep (by omega) hE9
                        have hrdB : RD w.heap.size wB (w.heap.size + 2) q' := by rw [hwB]; exact hrd9.setOther (by omega) (by omega) _
                        have hbB : Below w.heap.size w wB := by rw [hwB]; exact hb9.setCell (p := ⟨w1.heap.size, 2, none⟩) (by show w.heap.size ≤ w1.heap.size; omega) _
                        have hKB : KB wr wB := by rw [hwB]; exact hK9.trans (KB.setCell hC9 (by decide) _ _)
                        have hrowB : wB.ownsRow w.heap.size 67 4 (.slice ac nc cc) cs.length (cs.flatMap clV) := by rw [hwB]; exact row_set hrow9 _ hne9
                        have hvB : NB w.heap.size wB (.slice none 0 0) [] := ⟨none, 0, rfl, Nat.le_refl _, fun _ => rfl, fun i x hx => by simp at hx⟩
                        have hCB := (hset (.int .i64 (m2 : Int))).2.1
                        rw [← hwB] at hCB
                        obtain ⟨⟨cB0, cB1, cB2, cB3⟩, _, _⟩ := cells4 hCB
                      
                        have hcl : cs.length ≤ 200 := A3.out.2.2.2
                        obtain ⟨i0, hi, hz0, hz1, hz2⟩ : ∃ i, Tryd.prog.info? 67 = some i ∧ i.zero = some (.agg #[.int .i64 0, .int .i64 0, .int .i64 0, .slice none 0 0]) ∧ i.size = 4 ∧ i.bytes = 48 := ⟨_, rfl, rfl, rfl, rfl⟩
                        go_wp2_with (at_builtin; rw [← hwB]; refine wpList_append_own _ rfl _ _ 41 rfl w.heap.size 67 i0 _ 4 48 Tryd.underlying41 hi hz0 hz1 hz2 rfl (by decide) _ _ _ rfl (row_alloc hrowB _) ⟨w9.heap.size, 0, none⟩ 1 1 (clV (⟨d, 0, m2, []⟩, .slice none 0 0)) rfl ?qc1 ?qc2 ?qc3 ?qc4 ?qc5 ?qc6 ?_)
                        case qc1 => rfl
                        case qc2 =>
                          intro j u hj
                          rw [Addr.add_lit, Nat.zero_add]
                          have hnew := heap_alloc_new wB (.cells #[.int .i64 (d : Int), .int .i64 0, .int .i64 m2, .slice none 0 0] 67)
                          rw [hwsz] at hnew
                          rw [Lib.cell_of_heap hnew]
                          simpa [clV] using hj
                        case qc3 => intro u hu; simp [clV] at hu; rcases hu with rfl | rfl | rfl | rfl <;> rfl
                        case qc4 => unfold maxLen; omega
                        case qc5 => omega
                        case qc6 => have := hbB.size; simp at this ⊢; omega
                        intro v' w7 hown hgrow hnil
                        rw [← hwB] at hgrow
                        clear hwB
                        obtain ⟨a7, n7, c7, rfl⟩ : ∃ a7 n7 c7, v' = .slice a7 n7 c7 := by
                          rcases hown.2 with ⟨e, _⟩ | ⟨g, cap, cur, e, _⟩
                          · exact ⟨_, _, _, e⟩
                          · exact ⟨_, _, _, e⟩
                        have hS7 := grow_keep (row_alloc hrowB _) hgrow (by decide) ((Below.heap_alloc _ _ _ (Array.getElem?_eq_some_iff.1 hSB).1).trans hSB)
                        have k0 : w7.cell? ⟨w.heap.size, 2, none⟩ = some (.slice ac nc cc) := by rw [Lib.cell_of_heap hS7]; rfl
                        have k1 := Lib.frozen_of_heap hS7 2
                        go_wp2_with fail
                        obtain ⟨hDI, hms⟩ := app_end hI hSB hEB hrdB hbB hKB hrowB (⟨d, 0, m2, []⟩ : Cl) (.slice none 0 0) hvB _ (by simpa using hown) hgrow
                        refine ⟨⟨_, f', cs ++ [(⟨d, 0, m2, []⟩, .slice none 0 0)], .slice a7 n7 c7, hDI, ?asd⟩, ?ms⟩
                        case asd =>
                          have hl2 : ¬ (cs.map fun p => p.1).length = 200 := by simpa using hn200
                          refine ⟨?_, by have := A3.out.2.1; simp at this; omega, by have := A3.out.2.2.1; simp at this; omega, by simp; omega⟩
                          rw [A3.out.1]
                          have h5 := A5.out
                          have h6 := A6.out
                          simp only [runS, stepS]
                          rw [if_neg hl2, if_neg (by omega), if_pos h5, ← h6]
                          simp
                        case ms =>
                          have e1 : rdLen wr (w.heap.size + 2) = (lo :: hi' :: q').length + 1 := by simp [rdLen, cR0]
                          simp only [List.length_cons] at e1
                          omega
                    · have d1 : ((d : Int) == 1) = false := by simp; omega
                      have d2 : ((d : Int) == 2) = true := by simp; omega
                      clear h1 h12 h34
                      go_wp2_with fail
                      by_cases hr2 : r.length < 2
                      · refine (number_short w.heap.size (w.heap.size + 2) r 2 _ hrdC (by omega) hr2 (by omega)).mono ?_
                        rintro e w8 ⟨rfl, rfl⟩
                        refine dies w _ _ _ _ _ _ rfl rfl hSC hEC hbC _ ?_
                        rw [A3.out.1]
                        have hl2 : ¬ (cs.map fun p => p.1).length = 200 := by simpa using hn200
                        have h5 := A5.out
                        simp only [runS, stepS]
                        rw [if_neg hl2, if_neg (by omega), if_pos h5]
                        rcases r with _ | ⟨u, _ | ⟨v, r⟩⟩
                        · rfl
                        · rfl
                        · simp at hr2; omega
                      · obtain ⟨lo, hi', q', rfl⟩ : ∃ lo hi' q', r = lo :: hi' :: q' := by
                          rcases r with _ | ⟨u, _ | ⟨v, r⟩⟩
                          · simp at hr2
                          · simp at hr2
                          · exact ⟨_, _, _, rfl⟩
                        have hm2 := number2 w.heap.size (w.heap.size + 2) lo hi' q' _ hrdC (by omega) (by omega)
                        obtain ⟨m2, hm2e⟩ : ∃ m2, m2 = lo + 256 * hi' := ⟨_, rfl⟩
                        have A6 : Aside (m2 = lo + 256 * hi') := hm2e
                        rw [← hm2e] at hm2
                        clear hm2e
                        refine hm2.mono ?_
                        rintro e w9 ⟨rfl, hrd9, hg9⟩
                        clear hm2
                        have hS9 := grown_keep hg9 (by omega) hSC
                        have hE9 := grown_keep hg9 (by omega) hEC
                        have hsz1 : w.heap.size + 2 < w1.heap.size := by
                          obtain ⟨_, _, h2, _⟩ := hrd1
                          exact (Array.getElem?_eq_some_iff.1 h2).1
                        have hC9 := grown_keep hg9 (by omega) hCC
                        have hb9 := grown_below hbC hg9 hbC.size (by omega)
                        have hrow9 := row_grown (row_alloc (row_grown hI.row hg1 hI.rd) (.cells #[.int .i64 (d : Int), .int .i64 0, .int .i64 0, .slice none 0 0] 67)) hg9 hrdC
                        have hne9 := row_ne (row_grown hI.row hg1 hI.rd) (Nat.le_refl _)
                        have hK9 : KB wr w9 := by
                          obtain ⟨cR', TR, hRR, hT1, hT2⟩ := hR1
                          obtain ⟨_, _, hRC, _⟩ := hrdC
                          exact ((KB.grown hg1 hRR hT1).trans (KB.alloc _ _)).trans (KB.grown hg9 hRC (by decide))
                        obtain ⟨⟨c90, c91, c92, c93⟩, z9, hset⟩ := cells4 hC9
                        have z92 := z9 2
                        have s92 : w9.cell? ⟨w.heap.size, 2, none⟩ = some (.slice ac nc cc) := by rw [Lib.cell_of_heap hS9]; rfl
                        obtain ⟨wB, hwB⟩ : ∃ wB, wB = w9.setCell ⟨w1.heap.size, 2, none⟩ (.int .i64 (m2 : Int)) := ⟨_, rfl⟩
                        have hwsz : wB.heap.size = w9.heap.size := by rw [hwB]; simp [World.setCell]
                        have hSB : wB.heap[w.heap.size]? = some (.cells #[.int .i64 (b : Int), .slice ap np cp, .slice ac nc cc] 43 (0, 0)) := by rw [hwB]; exact set_keep (by omega) hS9
                        have hEB : wB.heap[w.heap.size + 1]? = some (.cells #[.int .i64 0] 28 (0, 0)) := by rw [hwB]; exact set_keep (by omega) hE9
                        have hrdB : RD w.heap.size wB (w.heap.size + 2) q' := by rw [hwB]; exact hrd9.setOther (by omega) (by omega) _
                        have hbB : Below w.heap.size w wB := by rw [hwB]; exact hb9.setCell (p := ⟨w1.heap.size, 2, none⟩) (by show w.heap.size ≤ w1.heap.size; omega) _
                        have hKB : KB wr wB := by rw [hwB]; exact hK9.trans (KB.setCell hC9 (by decide) _ _)
                        have hrowB : wB.ownsRow w.heap.size 67 4 (.slice ac nc cc) cs.length (cs.flatMap clV) := by rw [hwB]; exact row_set hrow9 _ hne9
                        have hvB : NB w.heap.size wB (.slice none 0 0) [] := ⟨none, 0, rfl, Nat.le_refl _, fun _ => rfl, fun i x hx => by simp at hx⟩
                        have hCB := (hset (.int .i64 (m2 : Int))).2.1
                        rw [← hwB] at hCB
                        obtain ⟨⟨cB0, cB1, cB2, cB3⟩, _, _⟩ := cells4 hCB
                    
                        have hcl : cs.length ≤ 200 := A3.out.2.2.2
                        obtain ⟨i0, hi, hz0, hz1, hz2⟩ : ∃ i, Tryd.prog.info? 67 = some i ∧ i.zero = some (.agg #[.int .i64 0, .int .i64 0, .int .i64 0, .slice none 0 0]) ∧ i.size = 4 ∧ i.bytes = 48 := ⟨_, rfl, rfl, rfl, rfl⟩
                        go_wp2_with (at_builtin; rw [← hwB]; refine wpList_append_own _ rfl _ _ 41 rfl w.heap.size 67 i0 _ 4 48 Tryd.underlying41 hi hz0 hz1 hz2 rfl (by decide) _ _ _ rfl (row_alloc hrowB _) ⟨w9.heap.size, 0, none⟩ 1 1 (clV (⟨d, 0, m2, []⟩, .slice none 0 0)) rfl ?qc1 ?qc2 ?qc3 ?qc4 ?qc5 ?qc6 ?_)
                        case qc1 => rfl
                        case qc2 =>
                          intro j u hj
                          rw [Addr.add_lit, Nat.zero_add]
                          have hnew := heap_alloc_new wB (.cells #[.int .i64 (d : Int), .int .i64 0, .int .i64 m2, .slice none 0 0] 67)
                          rw [hwsz] at hnew
                          rw [Lib.cell_of_heap hnew]
                          simpa [clV] using hj
                        case qc3 => intro u hu; simp [clV] at hu; rcases hu with rfl | rfl | rfl | rfl <;> rfl
                        case qc4 => unfold maxLen; omega
                        case qc5 => omega
                        case qc6 => have := hbB.size; simp at this ⊢; omega
                        intro v' w7 hown hgrow hnil
                        rw [← hwB] at hgrow
                        clear hwB
                        obtain ⟨a7, n7, c7, rfl⟩ : ∃ a7 n7 c7, v' = .slice a7 n7 c7 := by
                          rcases hown.2 with ⟨e, _⟩ | ⟨g, cap, cur, e, _⟩
                          · exact ⟨_, _, _, e⟩
                          · exact ⟨_, _, _, e⟩
                        have hS7 := grow_keep (row_alloc hrowB _) hgrow (by decide) ((Below.heap_alloc _ _ _ (Array.getElem?_eq_some_iff.1 hSB).1).trans hSB)
                        have k0 : w7.cell? ⟨w.heap.size, 2, none⟩ = some (.slice ac nc cc) := by rw [Lib.cell_of_heap hS7]; rfl
                        have k1 := Lib.frozen_of_heap hS7 2
                        go_wp2_with fail
                        obtain ⟨hDI, hms⟩ := app_end hI hSB hEB hrdB hbB hKB hrowB (⟨d, 0, m2, []⟩ : Cl) (.slice none 0 0) hvB _ (by simpa using hown) hgrow
                        refine ⟨⟨_, f', cs ++ [(⟨d, 0, m2, []⟩, .slice none 0 0)], .slice a7 n7 c7, hDI, ?asd⟩, ?ms⟩
                        case asd =>
                          have hl2 : ¬ (cs.map fun p => p.1).length = 200 := by simpa using hn200
                          refine ⟨?_, by have := A3.out.2.1; simp at this; omega, by have := A3.out.2.2.1; simp at this; omega, by simp; omega⟩
                          rw [A3.out.1]
                          have h5 := A5.out
                          have h6 := A6.out
                          simp only [runS, stepS]
                          rw [if_neg hl2, if_neg (by omega), if_pos h5, ← h6]
                          simp
                        case ms =>
                          have e1 : rdLen wr (w.heap.size + 2) = (lo :: hi' :: q').length + 1 := by simp [rdLen, cR0]
                          simp only [List.length_cons] at e1
                          omega
                  · have d0 : ((d : Int) == 0) = true := by simp; omega
                    have A5 : Aside (d = 0) := by show d = 0; omega
                    clear h12 h34
                    go_wp2_with fail
                    by_cases hr2 : r.length < 1
                    · obtain rfl : r = [] := by
                        rcases r with _ | ⟨u, r⟩
                        · rfl
                        · simp at hr2
                      refine (number_short w.heap.size (w.heap.size + 2) [] 1 _ hrdC (by simp) (by simp) (by omega)).mono ?_
                      rintro e w8 ⟨rfl, rfl⟩
                      refine dies w _ _ _ _ _ _ rfl rfl hSC hEC hbC _ ?_
                      rw [A3.out.1]
                      have hl2 : ¬ (cs.map fun p => p.1).length = 200 := by simpa using hn200
                      have h5 := A5.out
                      simp only [runS, stepS]
                      rw [if_neg hl2, if_pos h5]
                      rfl
                    · obtain ⟨t, r1, rfl⟩ : ∃ t r1, r = t :: r1 := by
                        rcases r with _ | ⟨u, r⟩
                        · simp at hr2
                        · exact ⟨_, _, rfl⟩
                      have hm1 := number1 w.heap.size (w.heap.size + 2) t r1 _ hrdC (by omega) (by omega)
                      refine hm1.mono ?_
                      rintro e w9 ⟨rfl, hrd9, hg9⟩
                      clear hm1
                      have hS9 := grown_keep hg9 (by omega) hSC
                      have hE9 := grown_keep hg9 (by omega) hEC
                      have hsz1 : w.heap.size + 2 < w1.heap.size := by
                        obtain ⟨_, _, h2, _⟩ := hrd1
                        exact (Array.getElem?_eq_some_iff.1 h2).1
                      have hC9 := grown_keep hg9 (by omega) hCC
                      have hb9 := grown_below hbC hg9 hbC.size (by omega)
                      have hrow9 := row_grown (row_alloc (row_grown hI.row hg1 hI.rd) (.cells #[.int .i64 (d : Int), .int .i64 0, .int .i64 0, .slice none 0 0] 67)) hg9 hrdC
                      have hne9 := row_ne (row_grown hI.row hg1 hI.rd) (Nat.le_refl _)
                      have hK9 : KB wr w9 := by
                        obtain ⟨cR', TR, hRR, hT1, hT2⟩ := hR1
                        obtain ⟨_, _, hRC, _⟩ := hrdC
                        exact ((KB.grown hg1 hRR hT1).trans (KB.alloc _ _)).trans (KB.grown hg9 hRC (by decide))
                      obtain ⟨⟨c90, c91, c92, c93⟩, z9, hset⟩ := cells4 hC9
                      have z91 := z9 1
                      obtain ⟨wA, hwA⟩ : ∃ wA, wA = w9.setCell ⟨w1.heap.size, 1, none⟩ (.int .i64 (t : Int)) := ⟨_, rfl⟩
                      have hSA : wA.heap[w.heap.size]? = some (.cells #[.int .i64 (b : Int), .slice ap np cp, .slice ac nc cc] 43 (0, 0)) := by rw [hwA]; exact set_keep (by omega) hS9
                      have hEA : wA.heap[w.heap.size + 1]? = some (.cells #[.int .i64 0] 28 (0, 0)) := by rw [hwA]; exact set_keep (by omega) hE9
                      have hrdA : RD w.heap.size wA (w.heap.size + 2) r1 := by rw [hwA]; exact hrd9.setOther (by omega) (by omega) _
                      have hbA : Below w.heap.size w wA := by rw [hwA]; exact hb9.setCell (p := ⟨w1.heap.size, 1, none⟩) (by show w.heap.size ≤ w1.heap.size; omega) _
                      have hKA : KB wr wA := by rw [hwA]; exact hK9.trans (KB.setCell hC9 (by decide) _ _)
                      have hrowA : wA.ownsRow w.heap.size 67 4 (.slice ac nc cc) cs.length (cs.flatMap clV) := by rw [hwA]; exact row_set hrow9 _ hne9
                      have hCA := (hset (.int .i64 (t : Int))).1
                      rw [← hwA] at hCA
                      clear hset
                      go_wp2_with fail
                      rw [← hwA]
                      clear hwA c90 c91 c92 c93 z9 z91 hS9 hE9 hC9 hb9 hrow9 hK9 hrd9 hg9
                      by_cases hr3 : r1.length < 2
                      · rcases r1 with _ | ⟨u, _ | ⟨v, r1⟩⟩
                        · refine (number_short w.heap.size (w.heap.size + 2) [] 2 _ hrdA (by simp) (by simp) (by omega)).mono ?_
                          rintro e w8 ⟨rfl, rfl⟩
                          refine dies w _ _ _ _ _ _ rfl rfl hSA hEA hbA _ ?_
                          rw [A3.out.1]
                          have hl2 : ¬ (cs.map fun p => p.1).length = 200 := by simpa using hn200
                          have h5 := A5.out
                          simp only [runS, stepS]
                          rw [if_neg hl2, if_pos h5]
                          rfl
                        · refine (number_short w.heap.size (w.heap.size + 2) [u] 2 _ hrdA (by simp) (by simp) (by omega)).mono ?_
                          rintro e w8 ⟨rfl, rfl⟩
                          refine dies w _ _ _ _ _ _ rfl rfl hSA hEA hbA _ ?_
                          rw [A3.out.1]
                          have hl2 : ¬ (cs.map fun p => p.1).length = 200 := by simpa using hn200
                          have h5 := A5.out
                          simp only [runS, stepS]
                          rw [if_neg hl2, if_pos h5]
                          rfl
                        · simp at hr3; omega
                      · obtain ⟨lo, hi', q', rfl⟩ : ∃ lo hi' q', r1 = lo :: hi' :: q' := by
                          rcases r1 with _ | ⟨u, _ | ⟨v, r1⟩⟩
                          · simp at hr3
                          · simp at hr3
                          · exact ⟨_, _, _, rfl⟩
                        have hm2 := number2 w.heap.size (w.heap.size + 2) lo hi' q' _ hrdA (by omega) (by simp at hrl ⊢; omega)
                        have hx2 : lo < 256 ∧ hi' < 256 := by
                          obtain ⟨a', c', _, _, _, h3⟩ := hrdA
                          exact ⟨(h3 0 lo rfl).1, (h3 1 hi' rfl).1⟩
                        obtain ⟨m2, hm2e⟩ : ∃ m2, m2 = lo + 256 * hi' := ⟨_, rfl⟩
                        have A6 : Aside (m2 = lo + 256 * hi') := hm2e
                        have hm2b : m2 ≤ 1000000 := by omega
                        rw [← hm2e] at hm2
                        clear hm2e hx2
                        refine hm2.mono ?_
                        rintro e w10 ⟨rfl, hrd10, hg10⟩
                        clear hm2
                        have hS10 := grown_keep hg10 (by omega) hSA
                        have hE10 := grown_keep hg10 (by omega) hEA
                        have hC10 := grown_keep hg10 (by omega) hCA
                        have hb10 := grown_below hbA hg10 hbA.size (by omega)
                        have hrow10 := row_grown hrowA hg10 hrdA
                        have hK10 : KB wr w10 := by
                          obtain ⟨_, _, hRC, _⟩ := hrdA
                          exact hKA.trans (KB.grown hg10 hRC (by decide))
                        by_cases hq : q'.length < m2
                        · go_wp2_with (go_at_call 30; refine (take_short w.heap.size (w.heap.size + 2) q' m2 _ hrd10 (by simp at hrl; omega) hq hm2b).mono ?_)
                          rintro e w11 ⟨rfl, rfl⟩
                          refine dies w _ _ _ _ _ _ rfl rfl hS10 hE10 hb10 _ ?_
                          rw [A3.out.1]
                          have hl2 : ¬ (cs.map fun p => p.1).length = 200 := by simpa using hn200
                          have h5 := A5.out
                          simp only [runS, stepS]
                          rw [if_neg hl2, if_pos h5]
                          have h6 := A6.out
                          rw [← h6, if_pos hq]
                          rfl
                        · have ht := take_walk w.heap.size (w.heap.size + 2) q' m2 w10 hrd10 (by omega) (by simp at hrl; omega) (by omega)
                          go_wp2_with (go_at_call 30; refine ht.mono ?_)
                          rintro e w11 ⟨v4, rfl, hv11, hrd11, hg11⟩
                          clear ht
                          obtain ⟨a4, n4, c4, rfl⟩ : ∃ a4 n4 c4, v4 = .slice a4 n4 c4 := by
                            obtain ⟨a', c', e, _⟩ := hv11
                            exact ⟨_, _, _, e⟩
                          have hS11 := grown_keep hg11 (by omega) hS10
                          have hE11 := grown_keep hg11 (by omega) hE10
                          have hC11 := grown_keep hg11 (by omega) hC10
                          have hb11 := grown_below hb10 hg11 hb10.size (by omega)
                          have hrow11 := row_grown hrow10 hg11 hrd10
                          have hK11 : KB wr w11 := by
                            obtain ⟨_, _, hRC, _⟩ := hrd10
                            exact hK10.trans (KB.grown hg11 hRC (by decide))
                          have hv12 := hv11.mono hb10.size
                          clear hv11
                          obtain ⟨⟨c90, c91, c92, c93⟩, z9, hset⟩ := cells4 hC11
                          have z93 := z9 3
                          have s93 : w11.cell? ⟨w.heap.size, 2, none⟩ = some (.slice ac nc cc) := by rw [Lib.cell_of_heap hS11]; rfl
                          obtain ⟨wB, hwB⟩ : ∃ wB, wB = w11.setCell ⟨w1.heap.size, 3, none⟩ (.slice a4 n4 c4) := ⟨_, rfl⟩
                          have hwsz : wB.heap.size = w11.heap.size := by rw [hwB]; simp [World.setCell]
                          have hSB : wB.heap[w.heap.size]? = some (.cells #[.int .i64 (b : Int), .slice ap np cp, .slice ac nc cc] 43 (0, 0)) := by rw [hwB]; exact set_keep (by omega) hS11
                          have hEB : wB.heap[w.heap.size + 1]? = some (.cells #[.int .i64 0] 28 (0, 0)) := by rw [hwB]; exact set_keep (by omega) hE11
                          have hrdB : RD w.heap.size wB (w.heap.size + 2) (q'.drop m2) := by rw [hwB]; exact hrd11.setOther (by omega) (by omega) _
                          have hbB : Below w.heap.size w wB := by rw [hwB]; exact hb11.setCell (p := ⟨w1.heap.size, 3, none⟩) (by show w.heap.size ≤ w1.heap.size; omega) _
                          have hKB : KB wr wB := by rw [hwB]; exact hK11.trans (KB.setCell hC11 (by decide) _ _)
                          have hrowB : wB.ownsRow w.heap.size 67 4 (.slice ac nc cc) cs.length (cs.flatMap clV) := by rw [hwB]; exact row_set hrow11 _ hne9
                          have hvB : NB w.heap.size wB (.slice a4 n4 c4) (q'.take m2) := by rw [hwB]; exact hv12.keep (KB.setCell hC11 (by decide) _ _)
                          have hCB := (hset (.slice a4 n4 c4)).2.2
                          rw [← hwB] at hCB
                          obtain ⟨⟨cB0, cB1, cB2, cB3⟩, _, _⟩ := cells4 hCB
                  
                          have hcl : cs.length ≤ 200 := A3.out.2.2.2
                          obtain ⟨i0, hi, hz0, hz1, hz2⟩ : ∃ i, Tryd.prog.info? 67 = some i ∧ i.zero = some (.agg #[.int .i64 0, .int .i64 0, .int .i64 0, .slice none 0 0]) ∧ i.size = 4 ∧ i.bytes = 48 := ⟨_, rfl, rfl, rfl, rfl⟩
                          go_wp2_with (at_builtin; rw [← hwB]; refine wpList_append_own _ rfl _ _ 41 rfl w.heap.size 67 i0 _ 4 48 Tryd.underlying41 hi hz0 hz1 hz2 rfl (by decide) _ _ _ rfl (row_alloc hrowB _) ⟨w11.heap.size, 0, none⟩ 1 1 (clV (⟨d, t, 0, q'.take m2⟩, .slice a4 n4 c4)) rfl ?qc1 ?qc2 ?qc3 ?qc4 ?qc5 ?qc6 ?_)
                          case qc1 => rfl
                          case qc2 =>
                            intro j u hj
                            rw [Addr.add_lit, Nat.zero_add]
                            have hnew := heap_alloc_new wB (.cells #[.int .i64 (d : Int), .int .i64 t, .int .i64 0, .slice a4 n4 c4] 67)
                            rw [hwsz] at hnew
                            rw [Lib.cell_of_heap hnew]
                            simpa [clV] using hj
                          case qc3 => intro u hu; simp [clV] at hu; rcases hu with rfl | rfl | rfl | rfl <;> rfl
                          case qc4 => unfold maxLen; omega
                          case qc5 => omega
                          case qc6 => have := hbB.size; simp at this ⊢; omega
                          intro v' w7 hown hgrow hnil
                          rw [← hwB] at hgrow
                          clear hwB
                          obtain ⟨a7, n7, c7, rfl⟩ : ∃ a7 n7 c7, v' = .slice a7 n7 c7 := by
                            rcases hown.2 with ⟨e, _⟩ | ⟨g, cap, cur, e, _⟩
                            · exact ⟨_, _, _, e⟩
                            · exact ⟨_, _, _, e⟩
                          have hS7 := grow_keep (row_alloc hrowB _) hgrow (by decide) ((Below.heap_alloc _ _ _ (Array.getElem?_eq_some_iff.1 hSB).1).trans hSB)
                          have k0 : w7.cell? ⟨w.heap.size, 2, none⟩ = some (.slice ac nc cc) := by rw [Lib.cell_of_heap hS7]; rfl
                          have k1 := Lib.frozen_of_heap hS7 2
                          go_wp2_with fail
                          obtain ⟨hDI, hms⟩ := app_end hI hSB hEB hrdB hbB hKB hrowB (⟨d, t, 0, q'.take m2⟩ : Cl) (.slice a4 n4 c4) hvB _ (by simpa using hown) hgrow
                          refine ⟨⟨_, f', cs ++ [(⟨d, t, 0, q'.take m2⟩, .slice a4 n4 c4)], .slice a7 n7 c7, hDI, ?asd⟩, ?ms⟩
                          case asd =>
                            have hl2 : ¬ (cs.map fun p => p.1).length = 200 := by simpa using hn200
                            refine ⟨?_, by have := A3.out.2.1; simp at this ⊢; omega, by have := A3.out.2.2.1; simp at this ⊢; omega, by simp; omega⟩
                            rw [A3.out.1]
                            have h5 := A5.out
                            have h6 := A6.out
                            simp only [runS, stepS]
                            rw [if_neg hl2, if_pos h5, ← h6, if_neg hq]
                            subst h5
                            simp
                          case ms =>
                            have e1 : rdLen wr (w.heap.size + 2) = (t :: lo :: hi' :: q').length + 1 := by simp [rdLen, cR0]
                            simp only [List.length_cons] at e1
                            simp only [List.length_drop] at hms
                            omega
end Go.Proofs
