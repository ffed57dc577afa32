/- What script.Text gives, over strings.Builder and strconv.Itoa, whatever the answers are. -/
import Derived.Shelf.Lay
import Derived.Shelf.LaySoft
import Derived.Shelf.Strings.BuilderK
import Derived.Shelf.Strconv.Itoa4
import Derived.Test.YtafkceblllhheaaDoorProg
import Derived.KernelRfl
import Derived.Test.YtafkceblllhheaaDoorV6
import Derived.WalkKit
import Derived.BigCall
import Derived.Lib.ItoaLen
namespace Go.Proofs
open Go.Shelf
set_option linter.unusedVariables false
def bRen : Ren := ⟨fun | 240 => 33 | 276 => 37 | 167 => 17 | 166 => 15 | 169 => 18 | n => n, fun | 0 => 0 | 3 => 3 | 4 => 4 | 5 => 5 | 9 => 9 | 20 => 20 | 37 => 25 | 70 => 54 | 72 => 56 | 75 => 58 | 80 => 64 | 164 => 87 | 127 => 81 | n => n, fun n => n⟩
theorem bn240 : Lays.n240 Tryd.prog bRen where
  mixed := by kernel_rfl
  f240 := Tryd.func33.trans (congrArg some (by kernel_rfl))
  f276 := Tryd.func37.trans (congrArg some (by kernel_rfl))
  t0 := Tryd.underlying0
  a0 := Tryd.isAgg0
  z0 := Tryd.sizeOf0
  v0 := Tryd.zeroValue0
  t4 := Tryd.underlying4
  a4 := Tryd.isAgg4
  z4 := Tryd.sizeOf4
  v4 := Tryd.zeroValue4
  t9 := Tryd.underlying9
  a9 := Tryd.isAgg9
  z9 := Tryd.sizeOf9
  v9 := Tryd.zeroValue9
  t20 := Tryd.underlying20
  a20 := Tryd.isAgg20
  z20 := Tryd.sizeOf20
  v20 := Tryd.zeroValue20
  t70 := Tryd.underlying54
  a70 := Tryd.isAgg54
  z70 := Tryd.sizeOf54
  v70 := Tryd.zeroValue54
  t72 := Tryd.underlying56
  a72 := Tryd.isAgg56
  z72 := Tryd.sizeOf56
  v72 := Tryd.zeroValue56
  t164 := Tryd.underlying87
  a164 := Tryd.isAgg87
  z164 := Tryd.sizeOf87
  v164 := Tryd.zeroValue87
theorem bn167 : Lays.n167 Tryd.prog bRen where
  mixed := by kernel_rfl
  f167 := Tryd.func17.trans (congrArg some (by kernel_rfl))
  f240 := Tryd.func33.trans (congrArg some (by kernel_rfl))
  f276 := Tryd.func37.trans (congrArg some (by kernel_rfl))
  t0 := Tryd.underlying0
  a0 := Tryd.isAgg0
  z0 := Tryd.sizeOf0
  v0 := Tryd.zeroValue0
  t4 := Tryd.underlying4
  a4 := Tryd.isAgg4
  z4 := Tryd.sizeOf4
  v4 := Tryd.zeroValue4
  t5 := Tryd.underlying5
  a5 := Tryd.isAgg5
  z5 := Tryd.sizeOf5
  v5 := Tryd.zeroValue5
  t9 := Tryd.underlying9
  a9 := Tryd.isAgg9
  z9 := Tryd.sizeOf9
  v9 := Tryd.zeroValue9
  t20 := Tryd.underlying20
  a20 := Tryd.isAgg20
  z20 := Tryd.sizeOf20
  v20 := Tryd.zeroValue20
  t37 := Tryd.underlying25
  a37 := Tryd.isAgg25
  z37 := Tryd.sizeOf25
  v37 := Tryd.zeroValue25
  t70 := Tryd.underlying54
  a70 := Tryd.isAgg54
  z70 := Tryd.sizeOf54
  v70 := Tryd.zeroValue54
  t72 := Tryd.underlying56
  a72 := Tryd.isAgg56
  z72 := Tryd.sizeOf56
  v72 := Tryd.zeroValue56
  t75 := Tryd.underlying58
  a75 := Tryd.isAgg58
  z75 := Tryd.sizeOf58
  v75 := Tryd.zeroValue58
  t164 := Tryd.underlying87
  a164 := Tryd.isAgg87
  z164 := Tryd.sizeOf87
  v164 := Tryd.zeroValue87
theorem bn166 : Lays.n166 Tryd.prog bRen where
  mixed := by kernel_rfl
  f166 := Tryd.func15.trans (congrArg some (by kernel_rfl))
  f240 := Tryd.func33.trans (congrArg some (by kernel_rfl))
  f276 := Tryd.func37.trans (congrArg some (by kernel_rfl))
  t0 := Tryd.underlying0
  a0 := Tryd.isAgg0
  z0 := Tryd.sizeOf0
  v0 := Tryd.zeroValue0
  t3 := Tryd.underlying3
  a3 := Tryd.isAgg3
  z3 := Tryd.sizeOf3
  v3 := Tryd.zeroValue3
  t4 := Tryd.underlying4
  a4 := Tryd.isAgg4
  z4 := Tryd.sizeOf4
  v4 := Tryd.zeroValue4
  t9 := Tryd.underlying9
  a9 := Tryd.isAgg9
  z9 := Tryd.sizeOf9
  v9 := Tryd.zeroValue9
  t20 := Tryd.underlying20
  a20 := Tryd.isAgg20
  z20 := Tryd.sizeOf20
  v20 := Tryd.zeroValue20
  t37 := Tryd.underlying25
  a37 := Tryd.isAgg25
  z37 := Tryd.sizeOf25
  v37 := Tryd.zeroValue25
  t70 := Tryd.underlying54
  a70 := Tryd.isAgg54
  z70 := Tryd.sizeOf54
  v70 := Tryd.zeroValue54
  t72 := Tryd.underlying56
  a72 := Tryd.isAgg56
  z72 := Tryd.sizeOf56
  v72 := Tryd.zeroValue56
  t75 := Tryd.underlying58
  a75 := Tryd.isAgg58
  z75 := Tryd.sizeOf58
  v75 := Tryd.zeroValue58
  t164 := Tryd.underlying87
  a164 := Tryd.isAgg87
  z164 := Tryd.sizeOf87
  v164 := Tryd.zeroValue87
theorem bn169 : Lays.n169 Tryd.prog bRen where
  mixed := by kernel_rfl
  f169 := Tryd.func18.trans (congrArg some (by kernel_rfl))
  t0 := Tryd.underlying0
  a0 := Tryd.isAgg0
  z0 := Tryd.sizeOf0
  v0 := Tryd.zeroValue0
  t3 := Tryd.underlying3
  a3 := Tryd.isAgg3
  z3 := Tryd.sizeOf3
  v3 := Tryd.zeroValue3
  t9 := Tryd.underlying9
  a9 := Tryd.isAgg9
  z9 := Tryd.sizeOf9
  v9 := Tryd.zeroValue9
  t37 := Tryd.underlying25
  a37 := Tryd.isAgg25
  z37 := Tryd.sizeOf25
  v37 := Tryd.zeroValue25
  t70 := Tryd.underlying54
  a70 := Tryd.isAgg54
  z70 := Tryd.sizeOf54
  v70 := Tryd.zeroValue54
  t72 := Tryd.underlying56
  a72 := Tryd.isAgg56
  z72 := Tryd.sizeOf56
  v72 := Tryd.zeroValue56
  t127 := Tryd.underlying81
  a127 := Tryd.isAgg81
  z127 := Tryd.sizeOf81
  v127 := Tryd.zeroValue81
theorem bX : Builder.Extra Tryd.prog bRen where
  sizeBuilder := by kernel_rfl
  liesBuilder := by kernel_rfl
  t5 := Tryd.underlying5
  a5 := Tryd.isAgg5
  z5 := Tryd.sizeOf5
  v5 := Tryd.zeroValue5
  infoByte := by kernel_rfl
  cellsByte := by kernel_rfl
  sizeByte := by kernel_rfl
  neB5 := by decide
theorem gPow : Tryd.prog.globalNamed "internal/strconv.uint64pow10" = some 0 := by kernel_rfl
def iRen : Ren := ⟨fun | 171 => 16 | 243 => 34 | 246 => 38 | 283 => 39 | 284 => 40 | 285 => 41 | 286 => 42 | 129 => 44 | 317 => 43 | 318 => 45 | 319 => 46 | 320 => 47 | 337 => 48 | 338 => 49 | n => n, fun | 0 => 0 | 2 => 2 | 3 => 3 | 4 => 4 | 5 => 5 | 9 => 9 | 20 => 20 | 37 => 25 | 46 => 63 | 51 => 98 | 53 => 91 | 171 => 90 | 173 => 94 | 212 => 97 | 213 => 99 | 232 => 103 | 233 => 104 | n => n, fun | 17 => 0 | 18 => 1 | 19 => 2 | n => n⟩
theorem bItoa : LaysM.n171 Tryd.prog iRen where
  mixed := by kernel_rfl
  f129 := Tryd.func44.trans (congrArg some (by kernel_rfl))
  f171 := Tryd.func16.trans (congrArg some (by kernel_rfl))
  f243 := Tryd.func34.trans (congrArg some (by kernel_rfl))
  f246 := Tryd.func38.trans (congrArg some (by kernel_rfl))
  f283 := Tryd.func39.trans (congrArg some (by kernel_rfl))
  f284 := Tryd.func40.trans (congrArg some (by kernel_rfl))
  f285 := Tryd.func41.trans (congrArg some (by kernel_rfl))
  f286 := Tryd.func42.trans (congrArg some (by kernel_rfl))
  f317 := Tryd.func43.trans (congrArg some (by kernel_rfl))
  f318 := Tryd.func45.trans (congrArg some (by kernel_rfl))
  f319 := Tryd.func46.trans (congrArg some (by kernel_rfl))
  f320 := Tryd.func47.trans (congrArg some (by kernel_rfl))
  f337 := Tryd.func48.trans (congrArg some (by kernel_rfl))
  f338 := Tryd.func49.trans (congrArg some (by kernel_rfl))
  t0 := Tryd.underlying0
  a0 := Tryd.isAgg0
  z0 := Tryd.sizeOf0
  v0 := Tryd.zeroValue0
  t2 := Tryd.underlying2
  a2 := Tryd.isAgg2
  z2 := Tryd.sizeOf2
  v2 := Tryd.zeroValue2
  t3 := Tryd.underlying3
  a3 := Tryd.isAgg3
  z3 := Tryd.sizeOf3
  v3 := Tryd.zeroValue3
  t4 := Tryd.underlying4
  a4 := Tryd.isAgg4
  z4 := Tryd.sizeOf4
  v4 := Tryd.zeroValue4
  t5 := Tryd.underlying5
  a5 := Tryd.isAgg5
  z5 := Tryd.sizeOf5
  v5 := Tryd.zeroValue5
  t9 := Tryd.underlying9
  a9 := Tryd.isAgg9
  z9 := Tryd.sizeOf9
  v9 := Tryd.zeroValue9
  t20 := Tryd.underlying20
  a20 := Tryd.isAgg20
  z20 := Tryd.sizeOf20
  v20 := Tryd.zeroValue20
  t37 := Tryd.underlying25
  a37 := Tryd.isAgg25
  z37 := Tryd.sizeOf25
  v37 := Tryd.zeroValue25
  t46 := Tryd.underlying63
  a46 := Tryd.isAgg63
  z46 := Tryd.sizeOf63
  v46 := Tryd.zeroValue63
  t51 := Tryd.underlying98
  a51 := Tryd.isAgg98
  z51 := Tryd.sizeOf98
  v51 := Tryd.zeroValue98
  t53 := Tryd.underlying91
  a53 := Tryd.isAgg91
  z53 := Tryd.sizeOf91
  v53 := Tryd.zeroValue91
  t171 := Tryd.underlying90
  a171 := Tryd.isAgg90
  z171 := Tryd.sizeOf90
  v171 := Tryd.zeroValue90
  t173 := Tryd.underlying94
  a173 := Tryd.isAgg94
  z173 := Tryd.sizeOf94
  v173 := Tryd.zeroValue94
  t212 := Tryd.underlying97
  a212 := Tryd.isAgg97
  z212 := Tryd.sizeOf97
  v212 := Tryd.zeroValue97
  t213 := Tryd.underlying99
  a213 := Tryd.isAgg99
  z213 := Tryd.sizeOf99
  t232 := Tryd.underlying103
  a232 := Tryd.isAgg103
  z232 := Tryd.sizeOf103
  v232 := Tryd.zeroValue103
  t233 := Tryd.underlying104
  a233 := Tryd.isAgg104
  z233 := Tryd.sizeOf104
  v233 := Tryd.zeroValue104
  g17 := by kernel_rfl
  g18 := by kernel_rfl
  g19 := by kernel_rfl
  i0 := by kernel_rfl
  i2 := by kernel_rfl
  i3 := by kernel_rfl
  i4 := by kernel_rfl
  i5 := by kernel_rfl
  i9 := by kernel_rfl
  i20 := by kernel_rfl
  i37 := by kernel_rfl
  i46 := by kernel_rfl
  i51 := by kernel_rfl
  i53 := by kernel_rfl
  i171 := by kernel_rfl
  i173 := by kernel_rfl
  i212 := by kernel_rfl
  i232 := by kernel_rfl
  i233 := by kernel_rfl
  m17 := by kernel_rfl
  m18 := by kernel_rfl
  m19 := by kernel_rfl
abbrev tBld : TypeId := 56
open Go.RowKit in
theorem b_WriteString (B b : Nat) (bs : List Value) (s : ByteArray) (w : World) (h : Lib.IsBuilderF tBld 5 B b bs w) (hlen : bs.length + s.size ≤ 140737488355328) (hBw : B ≤ w.heap.size) :
    Calls Tryd.prog 15 #[.pointer (some ⟨b, 0, none⟩), .string s] w fun e w' => e = .returned (.tuple #[.int .i64 s.size, .nilIface]) ∧ Lib.IsBuilderF tBld 5 B b (bs ++ Lib.strCells s) w' ∧ Below B w w' ∧ Lib.OthersKept 5 (some b) w w' :=
  (Any.Builder_WriteString_k bn166 bX B b bs s w h hlen hBw).mono fun e w' h => ⟨h.1, .inr h.2.1, h.2.2⟩
open Go.RowKit in
theorem b_WriteByte (B b : Nat) (bs : List Value) (c : Int) (w : World) (h : Lib.IsBuilderF tBld 5 B b bs w) (hlen : bs.length + 1 ≤ 140737488355328) (hBw : B ≤ w.heap.size) :
    Calls Tryd.prog 17 #[.pointer (some ⟨b, 0, none⟩), .int .u8 c] w fun e w' => e = .returned .nilIface ∧ Lib.IsBuilderF tBld 5 B b (bs ++ [.int .u8 c]) w' ∧ Below B w w' ∧ Lib.OthersKept 5 (some b) w w' :=
  (Any.Builder_WriteByte_k bn167 bX B b bs c w h hlen hBw).mono fun e w' h => ⟨h.1, .inr h.2.1, h.2.2⟩
open Go.RowKit in
theorem b_String (B b : Nat) (l : List UInt8) (w : World) (h : Lib.IsBuilderF tBld 5 B b (Lib.byteCells l) w) (hBw : B ≤ w.heap.size) :
    Calls Tryd.prog 18 #[.pointer (some ⟨b, 0, none⟩)] w fun e w' => e = .returned (.string ⟨l.toArray⟩) ∧ Below B w w' :=
  (Any.Builder_String_any_f bn169 bX B b l w h hBw).mono fun e w' h => ⟨h.1, h.2.2⟩
theorem tab_below {w w' : World} {B : Nat} {zs : List Int} (h : Lib.TabIs Tryd.prog w "internal/strconv.uint64pow10" .u64 zs) (hb : RowKit.Below B w w') (hB : w.heap.size ≤ B) : Lib.TabIs Tryd.prog w' "internal/strconv.uint64pow10" .u64 zs := by
  have hg : Tryd.prog.globalNamed "internal/strconv.uint64pow10" = some ((Tryd.prog.globalNamed "internal/strconv.uint64pow10").getD 0) := by kernel_rfl
  generalize (Tryd.prog.globalNamed "internal/strconv.uint64pow10").getD 0 = g at hg
  unfold Lib.TabIs World.var? at *
  rw [hg] at h ⊢
  simp only [Option.bind_some] at h ⊢
  have hlt : g < w.heap.size := by
    rcases Nat.lt_or_ge g w.heap.size with h' | h'
    · exact h'
    · rw [Array.getElem?_eq_none h'] at h; cases h
  rw [hb.block g (by omega)]
  exact h
theorem b_Itoa (n : Int) (h0 : -9223372036854775808 ≤ n) (h1 : n ≤ 9223372036854775807) (w : World) (htab : Lib.TabIs Tryd.prog w "internal/strconv.uint64pow10" .u64 Lib.pow10Tab) :
    Calls Tryd.prog 16 #[.int .i64 n] w fun e w' => e = .returned (.string ⟨(Lib.itoa n).toArray⟩) ∧ RowKit.Below w.heap.size w w' :=
  (Any.strconv_Itoa bItoa n h0 h1 w htab).mono fun e w' h => ⟨h.1, by
    obtain ⟨_, k, os, rfl⟩ := h
    exact ⟨rfl, rfl, rfl, by simp [Sort.grow], fun i hi => by simp [Sort.grow, Array.getElem?_append, hi]⟩⟩
theorem bld_below {T e : TypeId} {B b : Nat} {bs : List Value} {W W' : World} (h : Lib.IsBuilderF T e B b bs W) (hb : RowKit.Below W.heap.size W W') : Lib.IsBuilderF T e B b bs W' := by
  refine h.imp ?_ ?_ <;>
  · intro x
    have hlt := x.lt
    obtain ⟨hB, v, hv, ho, hne⟩ := x
    exact ⟨hB, v, (hb.block b hlt).trans hv, ho.kept (row := none) ⟨hb.os, hb.tape, hb.output, hb.size, fun k hk _ => hb.block k hk⟩ (Classical.em _), hne⟩
end Go.Proofs

namespace Go.Proofs
open Go.RowKit Go.Av
set_option linter.unusedVariables false
set_option linter.unusedSimpArgs false
theorem cells_below {w w' : World} (h : Below w.heap.size w w') {p : Addr} {v : Value} (hc : w.cell? p = some v) : w'.cell? p = some v := (h.cell (World.block_lt_of_cell? _ _ hc)).trans hc
theorem byte1 (x : UInt8) (l : List UInt8) : Lib.byteCells l ++ [.int .u8 (x.toNat : Int)] = Lib.byteCells (l ++ [x]) := by rw [Lib.byteCells_append]; rfl
theorem hexT_get (k : Nat) (h : k < 16) : hexT[k]? = some (hexT.getD k 0) := by
  have : ∀ k, k < 16 → hexT[k]? = some (hexT.getD k 0) := by decide
  exact this k h
theorem hexS (k : Nat) (h : k < (⟨#[48, 49, 50, 51, 52, 53, 54, 55, 56, 57, 97, 98, 99, 100, 101, 102]⟩ : ByteArray).size) : (((⟨#[48, 49, 50, 51, 52, 53, 54, 55, 56, 57, 97, 98, 99, 100, 101, 102]⟩ : ByteArray)[k]'h).toNat : Int) = ((hexT.getD k 0).toNat : Int) := by
  have : ∀ (k : Fin 16), ((⟨#[48, 49, 50, 51, 52, 53, 54, 55, 56, 57, 97, 98, 99, 100, 101, 102]⟩ : ByteArray)[k.1]'(k.2)).toNat = (hexT.getD k.1 0).toNat := by decide
  exact congrArg Int.ofNat (this ⟨k, h⟩)
theorem textT_snoc (l : List (Int × List Nat)) (k : Nat) (x : Int × List Nat) (h : l[k]? = some x) : textT (l.take (k + 1)) = textT (l.take k) ++ ansT x := by
  rw [List.take_add_one, h]; simp [textT]
theorem hex_snoc (l : List Nat) (k : Nat) (x : Nat) (h : l[k]? = some x) : (l.take (k + 1)).flatMap hexB = (l.take k).flatMap hexB ++ hexB x := by
  rw [List.take_add_one, h]; simp
theorem hex_len (l : List Nat) : (l.flatMap hexB).length = 2 * l.length := by
  induction l with
  | nil => rfl
  | cons x l ih => simp only [List.flatMap_cons, List.length_append, ih, hexB, List.length_cons, List.length_nil]; omega
theorem ans_len (x : Int × List Nat) (h0 : -9223372036854775808 ≤ x.1) (h1 : x.1 ≤ 9223372036854775807) (hm : x.2.length ≤ 1000) : (ansT x).length ≤ 3000 := by
  have := Lib.itoa_length_le x.1 h0 h1
  unfold ansT
  simp only [List.length_append, hex_len, List.length_cons, List.length_nil]
  split <;> simp <;> omega
/-- The builder within the call. -/
def BI (w wr : World) (acc : List UInt8) : Prop := Lib.IsBuilderF tBld 5 w.heap.size w.heap.size (Lib.byteCells acc) wr ∧ Below w.heap.size w wr
def CA (wr : World) (A : Nat) (x : Value) (v : Value) : Prop := wr.heap[A]? = some (.cells #[x, v] 30)
theorem CA.c0 {wr : World} {A : Nat} {x v : Value} (h : CA wr A x v) : wr.cell? ⟨A, 0, none⟩ = some x := by rw [Lib.cell_of_heap h]; rfl
theorem CA.c1 {wr : World} {A : Nat} {x v : Value} (h : CA wr A x v) : wr.cell? ⟨A, 1, none⟩ = some v := by rw [Lib.cell_of_heap h]; rfl
theorem CA.kept {w W W' : World} {A : Nat} {x v : Value} (h : CA W A x v) (k : Lib.OthersKept 5 (some w.heap.size) W W') (hA : w.heap.size < A) : CA W' A x v :=
  k A _ h (fun e => by injection e; omega) (fun c fz e => by cases e)
theorem BI.lt {w W : World} {acc : List UInt8} (h : BI w W acc) : w.heap.size < W.heap.size := h.1.elim (fun h => h.lt) (fun h => h.lt)
theorem BI.ws {w W : World} {acc : List UInt8} (h : BI w W acc) (s : List UInt8) (hl : acc.length + s.length ≤ 100000000) :
    Calls Tryd.prog 15 #[.pointer (some ⟨w.heap.size, 0, none⟩), .string ⟨s.toArray⟩] W fun e w' => e = .returned (.tuple #[.int .i64 s.length, .nilIface]) ∧ BI w w' (acc ++ s) ∧ Lib.OthersKept 5 (some w.heap.size) W w' :=
  (b_WriteString _ _ _ ⟨s.toArray⟩ W h.1 (by rw [Lib.byteCells_length]; simp [ByteArray.size]; omega) h.2.size).mono fun e w' g => ⟨by simpa [ByteArray.size] using g.1, ⟨by rw [Lib.byteCells_append]; simpa only [Lib.strCells_eq] using g.2.1, h.2.trans g.2.2.1⟩, g.2.2.2⟩
theorem BI.wb {w W : World} {acc : List UInt8} (h : BI w W acc) (x : UInt8) (y : Int) (hy : y = (x.toNat : Int)) (hl : acc.length ≤ 100000000) :
    Calls Tryd.prog 17 #[.pointer (some ⟨w.heap.size, 0, none⟩), .int .u8 y] W fun e w' => e = .returned .nilIface ∧ BI w w' (acc ++ [x]) ∧ Lib.OthersKept 5 (some w.heap.size) W w' :=
  (b_WriteByte _ _ _ y W h.1 (by rw [Lib.byteCells_length]; omega) h.2.size).mono fun e w' g => ⟨g.1, ⟨by rw [← byte1, ← hy]; exact g.2.1, h.2.trans g.2.2.1⟩, g.2.2.2⟩
set_option maxHeartbeats 4000000 in
set_option maxRecDepth 1000000 in
theorem text_walk (l : List (Int × List Nat)) (v : Value) (w : World) (hv : AnsAt w v l) (hn : l.length ≤ 1000) (hm : ∀ x ∈ l, x.2.length ≤ 1000)
    (htab : Lib.TabIs Tryd.prog w "internal/strconv.uint64pow10" .u64 Lib.pow10Tab) :
    Calls Tryd.prog 7 #[v] w fun e w' => e = .returned (.string ⟨(textT l).toArray⟩) ∧ Below w.heap.size w w' := by
  obtain ⟨a, c, rfl, hc, hl⟩ := hv
  have h0 : BI w (w.alloc (.cells #[.pointer none, .slice none 0 0] tBld)) [] := ⟨Lib.IsBuilderF.of (Lib.fresh_isBuilder tBld 5 w), (Below.refl _ w).alloc (Nat.le_refl _) _⟩
  go_enter Tryd.func7, Tryd.ntmps7
  go_wp2
  go_loopw [10] (fun i wr => ∃ k : Nat, i = .int .i64 k ∧ k ≤ l.length ∧ BI w wr (textT (l.take k)) ∧ w.heap.size < wr.heap.size ∧ (textT (l.take k)).length ≤ 3000 * k) (fun i _ => l.length - (Lib.intOf i).toNat)
  case atStart => exact ⟨0, rfl, Nat.zero_le _, h0, by simp, by simp [textT]⟩
  case round =>
    obtain ⟨k, rfl, hk, hI, hlt, hlen⟩ := hrel
    by_cases hkl : k < l.length
    · obtain ⟨x, hx⟩ : ∃ x, l[k]? = some x := ⟨l[k], List.getElem?_eq_getElem hkl⟩
      obtain ⟨hx0, hx1, X, o, v, rfl, hc0, hc1, hby⟩ := hl k x hx
      have hc0' := cells_below hI.2 hc0
      have hc1' := cells_below hI.2 hc1
      obtain ⟨ad, cd, rfl, hcd, hld⟩ := hby
      have hxm := hm x (List.mem_of_getElem? hx)
      have hil := Lib.itoa_length_le x.1 hx0 hx1
      have hsn := textT_snoc l k x hx
      have hal := ans_len x hx0 hx1 hxm
      have hA : CA (wr.alloc (.cells #[.int .i64 x.1, .slice ad x.2.length cd] 30)) wr.heap.size (.int .i64 x.1) (.slice ad x.2.length cd) := heap_alloc_new wr _
      clear hl h0
      go_wp2_with (go_at_call 16; refine (b_Itoa x.1 hx0 hx1 _ ?tab).mono ?_)
      case tab => exact tab_below htab (hI.2.alloc hI.2.size _) (Nat.le_refl _)
      rintro e W1 ⟨rfl, hb1⟩
      have hA1 : CA W1 wr.heap.size (.int .i64 x.1) (.slice ad x.2.length cd) := (hb1.block _ (by simp)).trans hA
      have hI1 : BI w W1 (textT (l.take k)) := ⟨bld_below (hI.1.alloc _) hb1, (hI.2.alloc hI.2.size _).trans (hb1.mono (by simp; omega))⟩
      have hz1 : wr.heap.size < W1.heap.size := by have := hb1.size; simp at this; omega
      clear hA hb1
      go_wp2_with (go_at_call 15; refine (hI1.ws (Lib.itoa x.1) (by omega)).mono ?_)
      rintro e W2 ⟨rfl, hI2, hk2⟩
      have hA2 := hA1.kept hk2 hlt
      clear hA1 hI1 hk2
      have h20 := hA2.c0
      have h21 := hA2.c1
      obtain ⟨acc, hacc⟩ : ∃ acc, acc = textT (l.take k) ++ Lib.itoa x.1 := ⟨_, rfl⟩
      have hacl : acc.length ≤ 3000 * k + 21 := by rw [hacc, List.length_append]; omega
      rw [← hacc] at hI2
      obtain ⟨wo, rfl⟩ : ∃ wo : World, wo = wr := ⟨wr, rfl⟩
      by_cases hd : x.2.length = 0
      · have hd0 : x.2 = [] := List.length_eq_zero_iff.1 hd
        have hz2 := hI2.lt
        go_wp2_with fail
        go_loopw [26] (fun i wi => ∃ j : Nat, i = .int .i64 j ∧ j ≤ x.2.length ∧ BI w wi (acc ++ (x.2.take j).flatMap hexB) ∧ w.heap.size < wi.heap.size) (fun i _ => x.2.length - (Lib.intOf i).toNat)
        case atStart => exact ⟨0, rfl, Nat.zero_le _, by simpa using hI2, by omega⟩
        case round =>
          obtain ⟨j, rfl, hj, hIj, hzj⟩ := hrel
          have hbl : (acc ++ (x.2.take j).flatMap hexB).length ≤ 10000000 := by simp only [List.length_append, hex_len, List.length_take, List.length_cons, List.length_nil]; omega
          by_cases hjl : j < x.2.length
          · omega
          · go_wp2_with (go_at_call 17; refine (hIj.wb 10 10 rfl (by omega)).mono ?_)
            rintro e W6 ⟨rfl, hI6, hk6⟩
            have hz6 := hI6.lt
            go_wp2
            go_roundw
            case rel =>
              have hfin : BI w W6 (textT (l.take (k + 1))) := by
                rw [show j = x.2.length by omega, List.take_length, hacc] at hI6
                rw [hsn]
                have hdn : x.2 = [] := hd0
                simpa [ansT, hdn, List.append_assoc] using hI6
              exact ⟨k + 1, by simp, by omega, hfin, by omega, by rw [hsn, List.length_append]; omega⟩
            case measure => simp [Lib.intOf]; omega
      · go_wp2_with (go_at_call 17; refine (hI2.wb 32 32 rfl (by omega)).mono ?_)
        rintro e W3 ⟨rfl, hI3, hk3⟩
        have hA3 := hA2.kept hk3 hlt
        have h30 := hA3.c0
        have h31 := hA3.c1
        have hz3 : w.heap.size < W3.heap.size := by have := (Array.getElem?_eq_some_iff.1 hA3).1; omega
        clear hA2 hI2 hk3 h20 h21
        go_wp2_with fail
        go_loopw [26] (fun i wi => ∃ j : Nat, i = .int .i64 j ∧ j ≤ x.2.length ∧ BI w wi ((acc ++ [32]) ++ (x.2.take j).flatMap hexB) ∧ w.heap.size < wi.heap.size) (fun i _ => x.2.length - (Lib.intOf i).toNat)
        case atStart => exact ⟨0, rfl, Nat.zero_le _, by simpa using hI3, by omega⟩
        case round =>
          obtain ⟨j, rfl, hj, hIj, hzj⟩ := hrel
          have hbl : ((acc ++ [32]) ++ (x.2.take j).flatMap hexB).length ≤ 10000000 := by simp only [List.length_append, hex_len, List.length_take, List.length_cons, List.length_nil]; omega
          by_cases hjl : j < x.2.length
          · obtain ⟨y, hy⟩ : ∃ y, x.2[j]? = some y := ⟨x.2[j], List.getElem?_eq_getElem hjl⟩
            obtain ⟨hy0, X', o', rfl, hcy⟩ := hld j y hy
            have hcy' := cells_below hIj.2 hcy
            have hjn := hex_snoc x.2 j y hy
            go_wp2_with (go_at_call 17; refine (hIj.wb (hexT.getD (y / 16) 0) _ ?hv (by omega)).mono ?_)
            case hv => exact hexS _ _
            rintro e W4 ⟨rfl, hI4, hk4⟩
            have hz4 := hI4.lt
            go_wp2_with (go_at_call 17; refine (hI4.wb (hexT.getD (y % 16) 0) _ ?hv (by simp only [List.length_append, List.length_cons, List.length_nil] at *; omega)).mono ?_)
            case hv => exact hexS _ _
            rintro e W5 ⟨rfl, hI5, hk5⟩
            have hz5 := hI5.lt
            go_wp2
            go_roundw
            case rel => exact ⟨j + 1, by simp, by omega, by rw [hjn]; simpa [hexB, List.append_assoc] using hI5, by omega⟩
            case measure => simp [Lib.intOf]; omega
          · go_wp2_with (go_at_call 17; refine (hIj.wb 10 10 rfl (by omega)).mono ?_)
            rintro e W6 ⟨rfl, hI6, hk6⟩
            have hz6 := hI6.lt
            go_wp2
            go_roundw
            case rel =>
              have hfin : BI w W6 (textT (l.take (k + 1))) := by
                rw [show j = x.2.length by omega, List.take_length, hacc] at hI6
                rw [hsn]
                have hdn : x.2 ≠ [] := fun e => hd (by rw [e]; rfl)
                simpa [ansT, hdn, List.append_assoc] using hI6
              exact ⟨k + 1, by simp, by omega, hfin, by omega, by rw [hsn, List.length_append]; omega⟩
            case measure => simp [Lib.intOf]; omega
    · go_wp2_with (go_at_call 18; refine (b_String _ _ _ _ hI.1 hI.2.size).mono ?_)
      rintro e W1 ⟨rfl, hb1⟩
      go_wp2
      go_ret
      rw [show k = l.length by omega, List.take_length]
      exact ⟨rfl, hI.2.trans hb1⟩
end Go.Proofs
