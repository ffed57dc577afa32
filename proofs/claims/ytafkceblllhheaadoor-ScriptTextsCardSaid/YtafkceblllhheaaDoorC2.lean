/- The document's text of answers is the same, and the law on texts. -/
import Derived.Test.YtafkceblllhheaaDoorC0
import Derived.Lib.ItoaLen
namespace Go.Av
set_option maxHeartbeats 1000000
set_option maxRecDepth 20000
set_option linter.unusedSimpArgs false
set_option linter.unusedVariables false
def strL (l : List UInt8) : ByteArray := ⟨l.toArray⟩
theorem strL_app (a b : List UInt8) : strL a ++ strL b = strL (a ++ b) := by
  apply ByteArray.ext; simp [strL]
theorem strL_mk (l : List UInt8) : (⟨l.toArray⟩ : ByteArray) = strL l := rfl
theorem ok_digit (L : Lim) (h : AHeap) (n : Nat) (hn : n < 16) : acall ctx L i_avouchref19zdigit [.int .i64 n] h = some (.int .u8 ((hexT.getD n 0).toNat : Int), h) := by
  rw [call_avouchref19zdigit]
  rcases (show n = 0 ∨ n = 1 ∨ n = 2 ∨ n = 3 ∨ n = 4 ∨ n = 5 ∨ n = 6 ∨ n = 7 ∨ n = 8 ∨ n = 9 ∨ n = 10 ∨ n = 11 ∨ n = 12 ∨ n = 13 ∨ n = 14 ∨ n = 15 by omega) with rfl | rfl | rfl | rfl | rfl | rfl | rfl | rfl | rfl | rfl | rfl | rfl | rfl | rfl | rfl | rfl <;> simp [C_avouchref19zdigit, hexT] <;> decide
theorem itoa_dig (n : Nat) (h : n < 10) : Lib.itoa (n : Int) = [UInt8.ofNat (48 + n)] := by
  unfold Lib.itoa; rw [if_neg (by omega), Int.toNat_natCast, Lib.decDigits, dif_pos h]
theorem itoa_pos (n : Nat) (h : ¬ n < 10) : Lib.itoa (n : Int) = Lib.itoa ((n / 10 : Nat) : Int) ++ Lib.itoa ((n % 10 : Nat) : Int) := by
  rw [itoa_dig (n % 10) (by omega)]
  unfold Lib.itoa
  rw [if_neg (by omega), if_neg (by omega), Int.toNat_natCast, Int.toNat_natCast, Lib.decDigits, dif_neg h]
theorem itoa_neg' (n : Nat) (h : 0 < n) : Lib.itoa (-(n : Int)) = 45 :: Lib.itoa (n : Int) := by
  unfold Lib.itoa; rw [if_pos (by omega), if_neg (by omega)]; simp
@[simp] theorem unA_neg64 (n : Int) : unA .neg (.int .i64 n) = some (.int .i64 (IntKind.i64.wrap (-n))) := by simp [unA]
theorem cat (a b : List UInt8) (h : a.length + b.length ≤ 9223372036854775807) : binA .add (.str (strL a)) (.str (strL b)) = some (.str (strL (a ++ b))) := by
  have h' : ¬ (((strL a).size + (strL b).size : Nat) : Int) > IntKind.i64.max := by
    have e1 : (strL a).size = a.length := by simp [strL, ByteArray.size]
    have e2 : (strL b).size = b.length := by simp [strL, ByteArray.size]
    rw [e1, e2, show IntKind.i64.max = 9223372036854775807 from by decide]; omega
  simp only [binA]
  rw [if_neg h', strL_app]
@[simp] theorem str45 : (⟨#[45]⟩ : ByteArray) = strL [45] := rfl
@[simp] theorem b2sK_1 (h : AHeap) (c : Bool) (n : Int) : b2sK h (.vsl c [[.int .u8 n]]) = some (.str (strL [UInt8.ofNat n.toNat])) := rfl
@[simp] theorem b2sK_2 (h : AHeap) (c : Bool) (n m : Int) : b2sK h (.vsl c [[.int .u8 n], [.int .u8 m]]) = some (.str (strL [UInt8.ofNat n.toNat, UInt8.ofNat m.toNat])) := rfl
@[simp] theorem strL_add (a b : List UInt8) : strL a ++ strL b = strL (a ++ b) := strL_app a b
theorem ok_dec1 (L : Lim) (h : AHeap) (k : Nat) (hk : k < 10) : acall ctx L i_avouchref19zdecimal [.int .i64 (k : Int)] h = some (.str (strL (Lib.itoa k)), h) := by
  rw [itoa_dig k (by omega), call_avouchref19zdecimal]
  rcases (show k = 0 ∨ k = 1 ∨ k = 2 ∨ k = 3 ∨ k = 4 ∨ k = 5 ∨ k = 6 ∨ k = 7 ∨ k = 8 ∨ k = 9 by omega) with rfl | rfl | rfl | rfl | rfl | rfl | rfl | rfl | rfl | rfl <;> simp [C_avouchref19zdecimal, fillA, rep, AVal.cells, AVal.okV, chunks] <;> rfl
theorem ok_decimal (L : Lim) (h : AHeap) (n : Int) (h0 : -9223372036854775808 ≤ n) (h1 : n ≤ 9223372036854775807) : acall ctx L i_avouchref19zdecimal [.int .i64 n] h = some (.str (strL (Lib.itoa n)), h) := by
  obtain ⟨m, hm⟩ : ∃ m, m = n.natAbs := ⟨_, rfl⟩
  induction m using Nat.strongRecOn generalizing n L h with
  | _ m ih =>
    by_cases hd : 0 ≤ n ∧ n < 10
    · obtain ⟨k, rfl⟩ : ∃ k : Nat, n = k := ⟨n.toNat, by omega⟩
      exact ok_dec1 L h k (by omega)
    · have hil := Lib.itoa_length_le
      by_cases hs : -10 < n ∧ n < 0
      · obtain ⟨k, rfl⟩ : ∃ k : Nat, n = -(k : Int) := ⟨n.natAbs, by omega⟩
        have hk := fun L h => ok_dec1 L h k (by omega)
        rw [itoa_neg' k (by omega), call_avouchref19zdecimal]
        have w1 : IntKind.i64.wrap (k : Int) = k := wrap_i64 (by omega) (by omega)
        have c1 := cat [45] (Lib.itoa k) (by have := hil k (by omega) (by omega); simp; omega)
        simp [C_avouchref19zdecimal, show (-10 : Int) < -(k : Int) by omega, show 0 < k by omega, w1, hk, c1]
      · obtain ⟨u, hu⟩ : ∃ u, u = n.natAbs := ⟨_, rfl⟩
        have hk2 := fun L h => ok_dec1 L h (u % 10) (by omega)
        rw [call_avouchref19zdecimal]
        by_cases hn : 0 ≤ n
        · obtain rfl : n = (u : Int) := by omega
          have hk := fun L h => ih (u / 10) (by omega) L h ((u / 10 : Nat) : Int) (by omega) (by omega) (by omega)
          have w1 : IntKind.i64.wrap (((u / 10 : Nat) : Int)) = ((u / 10 : Nat) : Int) := wrap_i64 (by omega) (by omega)
          have t1 : (u : Int).tdiv 10 = ((u / 10 : Nat) : Int) := rfl
          have t2 : (u : Int).tmod 10 = ((u % 10 : Nat) : Int) := rfl
          have c1 := cat (Lib.itoa ((u / 10 : Nat) : Int)) (Lib.itoa ((u % 10 : Nat) : Int)) (by have := hil ((u / 10 : Nat) : Int) (by omega) (by omega); have := hil ((u % 10 : Nat) : Int) (by omega) (by omega); omega)
          rw [itoa_pos u (by omega)]
          simp [C_avouchref19zdecimal, -Int.natCast_ediv, -Int.natCast_emod, show ¬ (u : Int) < 0 by omega, show (0 : Int) ≤ u by omega, show (-10 : Int) < u by omega, show ¬ (u : Int) < 10 by omega, show ¬ ((u % 10 : Nat) : Int) < 0 by omega, t1, t2, w1, hk, hk2, c1, bin_quo, bin_rem]
        · obtain rfl : n = -(u : Int) := by omega
          have hk := fun L h => ih (u / 10) (by omega) L h (-((u / 10 : Nat) : Int)) (by omega) (by omega) (by omega)
          have w1 : IntKind.i64.wrap (-((u / 10 : Nat) : Int)) = -((u / 10 : Nat) : Int) := wrap_i64 (by omega) (by omega)
          have w2 : IntKind.i64.wrap (((u % 10 : Nat) : Int)) = ((u % 10 : Nat) : Int) := wrap_i64 (by omega) (by omega)
          have t1 : (-(u : Int)).tdiv 10 = -((u / 10 : Nat) : Int) := by rw [Int.neg_tdiv]; rfl
          have t2 : (-(u : Int)).tmod 10 = -((u % 10 : Nat) : Int) := by rw [Int.neg_tmod]; rfl
          have c1 := cat (Lib.itoa (-((u / 10 : Nat) : Int))) (Lib.itoa ((u % 10 : Nat) : Int)) (by have := hil (-((u / 10 : Nat) : Int)) (by omega) (by omega); have := hil ((u % 10 : Nat) : Int) (by omega) (by omega); omega)
          rw [itoa_neg' u (by omega), itoa_pos u (by omega), show 45 :: (Lib.itoa ((u / 10 : Nat) : Int) ++ Lib.itoa ((u % 10 : Nat) : Int)) = Lib.itoa (-((u / 10 : Nat) : Int)) ++ Lib.itoa ((u % 10 : Nat) : Int) from by rw [itoa_neg' (u / 10) (by omega)]; rfl]
          have c2 : ((u : Int) ≤ 10) = False ∨ True := .inr trivial
          generalize hr : u % 10 = r at *
          generalize hq : u / 10 = q at *
          by_cases hz : r = 0
          · subst hz
            simp [C_avouchref19zdecimal, show ¬ (-10 : Int) < -(u : Int) by omega, show ¬ u = 0 by omega, show ¬ (0 : Int) ≤ -(u : Int) by omega, t1, t2, w1, hk, bin_quo, bin_rem]
            have hk3 := fun L h => hk2 L h
            simp at hk3 c1
            simp [hk3, c1]
          · simp [C_avouchref19zdecimal, show ¬ (-10 : Int) < -(u : Int) by omega, show ¬ u = 0 by omega, show ¬ (0 : Int) ≤ -(u : Int) by omega, show 0 < r by omega, t1, t2, w1, w2, hk, hk2, c1, bin_quo, bin_rem]
end Go.Av

namespace Go.Av
set_option maxHeartbeats 2000000
set_option maxRecDepth 20000
set_option linter.unusedSimpArgs false
set_option linter.unusedVariables false
/-- An answer: an error's number, and bytes. -/
abbrev An := Int × List Int
def anC (a : An) : List AVal := [.int .i64 a.1, .vsl false (eI .u8 a.2)]
def anN (a : An) : Int × List Nat := (a.1, a.2.map Int.toNat)
def AnOk (a : An) : Prop := -9223372036854775808 ≤ a.1 ∧ a.1 ≤ 9223372036854775807 ∧ a.2.length ≤ 1000 ∧ ∀ x ∈ a.2, 0 ≤ x ∧ x < 256
theorem hexB_len (l : List Nat) : (l.flatMap hexB).length = 2 * l.length := by
  induction l with
  | nil => rfl
  | cons x l ih => simp only [List.flatMap_cons, List.length_append, ih, hexB, List.length_cons, List.length_nil]; omega
theorem hexB_snoc (l : List Nat) (k : Nat) (x : Nat) (h : l[k]? = some x) : (l.take (k + 1)).flatMap hexB = (l.take k).flatMap hexB ++ hexB x := by
  rw [List.take_add_one, h]; simp
theorem textT_add (l : List (Int × List Nat)) (k : Nat) (x : Int × List Nat) (h : l[k]? = some x) : textT (l.take (k + 1)) = textT (l.take k) ++ ansT x := by
  rw [List.take_add_one, h]; simp [textT]
theorem ansT_len (a : An) (h : AnOk a) : (ansT (anN a)).length ≤ 3000 := by
  have := Lib.itoa_length_le a.1 h.1 h.2.1
  have := h.2.2.1
  unfold ansT anN
  simp only [List.length_append, hexB_len, List.length_cons, List.length_nil, List.length_map]
  split <;> simp <;> omega
theorem textT_len : ∀ l : List An, (∀ a ∈ l, AnOk a) → (textT (l.map anN)).length ≤ 3000 * l.length
  | [], _ => by simp [textT]
  | a :: l, h => by
    have h1 := ansT_len a (h a (by simp))
    have h2 := textT_len l (fun b hb => h b (by simp [hb]))
    simp only [textT, List.map_cons, List.flatMap_cons, List.length_append, List.length_cons] at *
    omega
theorem iadr_an (l : List An) (i : Nat) (a : An) (ha : l[i]? = some a) : iadrA none 2 (.vsl false (l.map anC)) (.int .i64 (i : Int)) = some (.vptr (anC a) 0) := by
  have hlt := (List.getElem?_eq_some_iff.1 ha).1
  have hm : (l.map anC)[i]? = some (anC a) := by rw [List.getElem?_map, ha]; rfl
  simp only [iadrA, asI, bind, Option.bind_some, Int.toNat_natCast, hm]
  rfl
theorem loop_Ta {fr : Fr} {h : AHeap} {R : Option (AEx × Fr × AHeap)} (hF : run ctx (limP h) (.loop Ba_avouchref19zText) fr (hx h [] []) = R) (l : List An) (i : Nat) (a : An) (ha : l[i]? = some a) (hok : AnOk a) (acc : List UInt8) (hacc : acc.length ≤ 1000000000) (hl : l.length ≤ 1000)
    (h0 : fr 0 = .vsl false (l.map anC)) (h4 : fr 4 = .int .i64 i) (h3 : fr 3 = .str (strL acc)) (h5 : fr 5 = .int .i64 0) :
    ∃ fr', R = some (.exit 2, fr', hx h [] []) ∧ fr' 3 = .str (strL (acc ++ (a.2.map Int.toNat).flatMap hexB)) ∧ fr' 0 = .vsl false (l.map anC) ∧ fr' 4 = .int .i64 i := by
  obtain ⟨e, fr', h', rfl, ⟨rfl, rfl, h3'⟩, hk⟩ := loop_rule hF a.2.length
    (fun k fr hh => fr 5 = .int .i64 k ∧ fr 3 = .str (strL (acc ++ ((a.2.map Int.toNat).take k).flatMap hexB)) ∧ hh = hx h [] [])
    (fun e fr hh => e = .exit 2 ∧ hh = hx h [] [] ∧ fr 3 = .str (strL (acc ++ (a.2.map Int.toNat).flatMap hexB)))
    ⟨h5, by simpa using h3, rfl⟩ (by
      rintro k fr1 hh hkN hkeep ⟨g5, g3, rfl⟩
      have g0 := (hkeep 0 (by decide)).trans h0
      have g4 := (hkeep 4 (by decide)).trans h4
      have hil := (List.getElem?_eq_some_iff.1 ha).1
      have hal := hok.2.2.1
      by_cases hlt : k < a.2.length
      · obtain ⟨y, hy⟩ : ∃ y, a.2[k]? = some y := ⟨a.2[k], List.getElem?_eq_getElem hlt⟩
        have hyr := hok.2.2.2 y (List.mem_of_getElem? hy)
        obtain ⟨z, rfl⟩ : ∃ z : Nat, y = z := ⟨y.toNat, by omega⟩
        have w2 : IntKind.i64.wrap ((k : Int) + 1) = k + 1 := wrap_i64 (by omega) (by omega)
        have hi0 := iadr_an l i a ha
        have hi1 := iadr_eI .u8 .i64 false a.2 k (by simpa using hlt)
        have hgd : gd a.2 0 k = (z : Int) := by simp [gd, List.getD, hy]
        rw [hgd] at hi1
        have w3 : IntKind.i64.wrap (z : Int) = z := wrap_i64 (by omega) (by omega)
        have t1 : (z : Int).tdiv 16 = ((z / 16 : Nat) : Int) := rfl
        have t2 : (z : Int).tmod 16 = ((z % 16 : Nat) : Int) := rfl
        have w4 : IntKind.i64.wrap ((z / 16 : Nat) : Int) = ((z / 16 : Nat) : Int) := wrap_i64 (by omega) (by omega)
        have d1 := fun L h => ok_digit L h (z / 16) (by omega)
        have d2 := fun L h => ok_digit L h (z % 16) (by omega)
        have hc := cat (acc ++ ((a.2.map Int.toNat).take k).flatMap hexB) (hexB z) (by simp only [List.length_append, hexB_len, List.length_take, List.length_map, hexB, List.length_cons, List.length_nil]; omega)
        have hsn := hexB_snoc (a.2.map Int.toNat) k z (by rw [List.getElem?_map, hy]; rfl)
        have hx2 : ∀ h, b2sK h (.vsl true [[.int .u8 ((hexT.getD (z / 16) 0).toNat : Int)], [.int .u8 ((hexT.getD (z % 16) 0).toNat : Int)]]) = some (.str (strL (hexB z))) := fun h => by rw [b2sK_2]; simp [hexB]
        generalize hexB z = H at *
        simp [Ba_avouchref19zText, -Int.natCast_ediv, -Int.natCast_emod, -b2sK_2, -List.getD_eq_getElem?_getD, g5, g3, g0, g4, hlt, w2, hi0, anC, hi1, w3, bin_quo, bin_rem, t1, t2, w4, d1, d2, fillA, rep, AVal.cells, AVal.okV, chunks, hx2, hc, hsn]
      · have : k = a.2.length := by omega
        subst this
        have hi0 := iadr_an l i a ha
        simp [Ba_avouchref19zText, g5, g0, g4, hi0, anC]
        rw [g3, List.take_of_length_le (by simp)])
  exact ⟨fr', rfl, h3', (hk 0 (by decide)).trans h0, (hk 4 (by decide)).trans h4⟩
end Go.Av

namespace Go.Av
set_option maxHeartbeats 2000000
set_option maxRecDepth 20000
set_option linter.unusedSimpArgs false
set_option linter.unusedVariables false
theorem loop_Tb {fr : Fr} {h : AHeap} {R : Option (AEx × Fr × AHeap)} (hF : run ctx (limP h) (.loop Bb_avouchref19zText) fr (hx h [] []) = R) (l : List An) (hok : ∀ a ∈ l, AnOk a) (hl : l.length ≤ 1000)
    (h0 : fr 0 = .vsl false (l.map anC)) (h4 : fr 4 = .int .i64 0) (h3 : fr 3 = .str (strL [])) :
    ∃ fr', R = some (.exit 0, fr', hx h [] []) ∧ fr' 3 = .str (strL (textT (l.map anN))) := by
  obtain ⟨e, fr', h', rfl, ⟨rfl, rfl, h3'⟩, hk⟩ := loop_rule hF l.length
    (fun k fr hh => fr 4 = .int .i64 k ∧ fr 3 = .str (strL (textT ((l.map anN).take k))) ∧ hh = hx h [] [])
    (fun e fr hh => e = .exit 0 ∧ hh = hx h [] [] ∧ fr 3 = .str (strL (textT (l.map anN))))
    ⟨h4, by simpa [textT] using h3, rfl⟩ (by
      rintro k fr1 hh hkN hkeep ⟨g4, g3, rfl⟩
      have g0 := (hkeep 0 (by decide)).trans h0
      by_cases hlt : k < l.length
      · obtain ⟨a, ha⟩ : ∃ a, l[k]? = some a := ⟨l[k], List.getElem?_eq_getElem hlt⟩
        have hak := hok a (List.mem_of_getElem? ha)
        have hi0 := iadr_an l k a ha
        have w2 : IntKind.i64.wrap ((k : Int) + 1) = k + 1 := wrap_i64 (by omega) (by omega)
        have hdc := fun L h => ok_decimal L h a.1 hak.1 hak.2.1
        have hsn := textT_add (l.map anN) k (anN a) (by rw [List.getElem?_map, ha]; rfl)
        have hlen : (textT ((l.map anN).take k)).length ≤ 3000 * 1000 := by
          have := textT_len (l.take k) (fun b hb => hok b (List.mem_of_mem_take hb))
          rw [List.map_take] at this
          have h2 : (l.take k).length ≤ 1000 := by simp; omega
          omega
        have hil := Lib.itoa_length_le a.1 hak.1 hak.2.1
        generalize textT ((l.map anN).take k) = T at *
        have c1 := cat T (Lib.itoa a.1) (by omega)
        have c2 := cat (T ++ Lib.itoa a.1) [32] (by simp; omega)
        have hal := hak.2.2.1
        have hx32 : (⟨#[32]⟩ : ByteArray) = strL [32] := rfl
        have hx10 : (⟨#[10]⟩ : ByteArray) = strL [10] := rfl
        by_cases hd : a.2 = []
        · have c3 := cat (T ++ Lib.itoa a.1) [10] (by simp; omega)
          simp [Bb_avouchref19zText, g4, g3, g0, hlt, w2, hi0, anC, hdc, c1, hd]
          generalize hG : run ctx _ (.loop _) _ _ = R
          obtain ⟨fr2, rfl, k3, k0, k4⟩ := loop_Ta hG l k a ha hak (T ++ Lib.itoa a.1) (by simp; omega) hl (by simp [g0]) (by simp [g4]) (by simp) (by simp)
          simp [k3, k4, hd, hx10, c3, w2]
          rw [hsn]; simp [ansT, anN, hd]; omega
        · have hd' : 0 < a.2.length := List.length_pos_iff.2 hd
          have c3 := cat (T ++ Lib.itoa a.1 ++ [32] ++ (a.2.map Int.toNat).flatMap hexB) [10] (by simp only [List.length_append, hexB_len, List.length_map, List.length_cons, List.length_nil]; omega)
          simp [Bb_avouchref19zText, g4, g3, g0, hlt, w2, hi0, anC, hdc, c1, hd', hx32, c2, -List.append_assoc]
          generalize hG : run ctx _ (.loop _) _ _ = R
          obtain ⟨fr2, rfl, k3, k0, k4⟩ := loop_Ta hG l k a ha hak (T ++ Lib.itoa a.1 ++ [32]) (by simp; omega) hl (by simp [g0]) (by simp [g4]) (by simp) (by simp)
          simp [k3, k4, hx10, c3, w2, -List.append_assoc]
          rw [hsn]; simp [ansT, anN, hd]; omega
      · have : k = l.length := by omega
        subst this
        simp [Bb_avouchref19zText, g4, g0]
        rw [g3, List.take_of_length_le (by simp)])
  exact ⟨fr', rfl, h3'⟩
theorem ok_RText (L : Lim) (h : AHeap) (l : List An) (hok : ∀ a ∈ l, AnOk a) (hl : l.length ≤ 1000) : acall ctx L i_avouchref19zText [.vsl false (l.map anC)] h = some (.str (strL (textT (l.map anN))), h) := by
  rw [call_avouchref19zText]
  simp [C_avouchref19zText]
  generalize hF : run ctx _ (.loop _) _ _ = R
  obtain ⟨fr', rfl, h3⟩ := loop_Tb hF l hok hl (by simp) (by simp) (by simp; rfl)
  simp [h3]
theorem natA_eI (l : List Int) (h : ∀ x ∈ l, 0 ≤ x ∧ x < 256) : (eI .u8 l).mapM natA = some (l.map Int.toNat) := by
  induction l with
  | nil => rfl
  | cons x l ih =>
    have := ih (fun y hy => h y (by simp [hy]))
    have hx := h x (by simp)
    simp only [eI, List.map_cons, List.mapM_cons] at *
    rw [this]
    simp [natA, hx]
theorem ansA_an (h : AHeap) (a : An) (hok : AnOk a) : ansA h (anC a) = some (anN a) := by
  have hz : szOk 1 (eI .u8 a.2) = true := by simp
  simp [ansA, anC, hok.1, hok.2.1, strOk, elemsA, natA_eI a.2 hok.2.2.2, anN, hz]
theorem ansA_all (h : AHeap) (l : List An) (hok : ∀ a ∈ l, AnOk a) : (l.map anC).mapM (ansA h) = some (l.map anN) := by
  induction l with
  | nil => rfl
  | cons a l ih =>
    simp only [List.map_cons, List.mapM_cons, ansA_an h a (hok a (by simp)), ih (fun b hb => hok b (by simp [hb]))]
    rfl
theorem ok_Text (L : Lim) (h : AHeap) (x : AVal) (l : List An) (hx : elemsA h 2 x = some (l.map anC)) (hs : strOk 2 x = true) (hok : ∀ a ∈ l, AnOk a) (hl : l.length ≤ 1000) : acall ctx L i_script_Text [x] h = some (.str (strL (textT (l.map anN))), h) := by
  rw [acall_ext _ _ _ ext_script_Text]
  have hz : szOk 2 (l.map anC) = true := by cases l <;> simp [szOk, anC]
  have hc : (l.map anN).length ≤ 1000 ∧ ∀ a ∈ l.map anN, a.2.length ≤ 1000 := ⟨by simpa using hl, fun a ha => by
    obtain ⟨b, hb, rfl⟩ := List.mem_map.1 ha
    simpa [anN] using (hok b hb).2.2.1⟩
  simp only [textX, hs, hx, hz, if_true, Option.bind_some, ansA_all h l hok, if_pos hc]
  rfl
end Go.Av

namespace Go.Av
set_option maxHeartbeats 2000000
set_option maxRecDepth 20000
set_option linter.unusedSimpArgs false
set_option linter.unusedVariables false
theorem beqX_refl (s : ByteArray) : (s == s) = true := (Go.MapKept.bytes_beq s s).2 rfl
theorem ok_TextG (L : Lim) (h : AHeap) (x : AVal) (es : List (List AVal)) (m : List (Int × List Nat)) (hx : elemsA h 2 x = some es) (hs : strOk 2 x = true) (hz : szOk 2 es = true) (hm : es.mapM (ansA h) = some m) (hc : m.length ≤ 1000 ∧ ∀ a ∈ m, a.2.length ≤ 1000) :
    acall ctx L i_script_Text [x] h = some (.str (strL (textT m)), h) := by
  rw [acall_ext _ _ _ ext_script_Text]
  simp only [textX, hs, hx, hz, if_true, Option.bind_some, hm, if_pos hc]
  rfl
theorem text_eg : textT [(0, []), (10, [])] = [48, 10, 49, 48, 10] := by
  have h10 : Lib.itoa 10 = [49, 48] := by
    have := itoa_pos 10 (by omega)
    rw [show ((10 : Nat) : Int) = 10 from rfl] at this
    rw [this, show (10 / 10 : Nat) = 1 from rfl, show (10 % 10 : Nat) = 0 from rfl, itoa_dig 1 (by omega), itoa_dig 0 (by omega)]
    rfl
  have h0 : Lib.itoa 0 = [48] := itoa_dig 0 (by omega)
  simp [textT, ansT, h10, h0]
theorem ok_speaks (L : Lim) (h : AHeap) : acall ctx L i_avouchlaw19zspeaks [] h = some (.bool true, h) := by
  rw [call_avouchlaw19zspeaks]
  have ht := fun L h => ok_TextG L h (.vsl true [[.int .i64 0, .nsl], [.int .i64 10, .nsl]]) _ [(0, []), (10, [])] rfl rfl rfl rfl (by simp)
  simp [C_avouchlaw19zspeaks, fillA, rep, AVal.cells, AVal.okV, chunks, ht, text_eg, setAt]
  rfl
/-- What is known of an answer that is handed in. -/
def AnW (a : An) : Prop := -9223372036854775808 ≤ a.1 ∧ a.1 ≤ 9223372036854775807 ∧ ∀ x ∈ a.2, 0 ≤ x ∧ x < 256
theorem iadr_anW (l : List An) (i : Nat) (a : An) (ha : l[i]? = some a) : iadrA none 2 (.vsl false (l.map anC)) (.int .i64 (i : Int)) = some (.vptr (anC a) 0) := iadr_an l i a ha
theorem szOk_an (l : List An) : szOk 2 (l.map anC) = true := by cases l <;> simp [szOk, anC]
theorem loop_Own {fr : Fr} {h : AHeap} {R : Option (AEx × Fr × AHeap)} (hF : run ctx (limP h) (.loop Ba_avouchlaw19zScriptTexts) fr (hx h [] []) = R) (l : List An) (hl : l.length ≤ 40)
    (h3 : fr 3 = .nsl) (h14 : fr 14 = .vsl false (l.map anC)) (h15 : fr 15 = .int .i64 l.length) (h16 : fr 16 = .int .i64 0) :
    ∃ e fr' bs ts, R = some (e, fr', hx h bs ts) ∧ fr' 0 = fr 0 ∧ (e = .exit 0 ∧ fr' 3 = gL .nsl h.toks.length 0 (l.map anC) ∧ ts = gT (l.map anC) ∧ (∀ a ∈ l, a.2.length ≤ 100) ∨ e = .ret ∧ fr' 2 = .bool true) := by
  obtain ⟨e, fr', h', rfl, ⟨bs, ts, rfl, hp⟩, hk⟩ := loop_rule hF l.length
    (fun k fr hh => fr 16 = .int .i64 k ∧ fr 3 = gL .nsl h.toks.length 0 ((l.take k).map anC) ∧ (∀ a ∈ l.take k, a.2.length ≤ 100) ∧ ∃ bs, hh = hx h bs (gT ((l.take k).map anC)))
    (fun e fr hh => ∃ bs ts, hh = hx h bs ts ∧ (e = .exit 0 ∧ fr 3 = gL .nsl h.toks.length 0 (l.map anC) ∧ ts = gT (l.map anC) ∧ (∀ a ∈ l, a.2.length ≤ 100) ∨ e = .ret ∧ fr 2 = .bool true))
    ⟨h16, by simpa [gL] using h3, by simp, [], by simp [gT]⟩ (by
      rintro k fr1 hh hkN hkeep ⟨g16, g3, hall, bs, rfl⟩
      have g14 := (hkeep 14 (by decide)).trans h14
      have g15 := (hkeep 15 (by decide)).trans h15
      by_cases hlt : k < l.length
      · obtain ⟨a, ha⟩ : ∃ a, l[k]? = some a := ⟨l[k], List.getElem?_eq_getElem hlt⟩
        have hi0 := iadr_an l k a ha
        have w2 : IntKind.i64.wrap ((k : Int) + 1) = k + 1 := wrap_i64 (by omega) (by omega)
        have e : (l.take k).map anC ++ [anC a] = (l.take (k + 1)).map anC := by
          rw [List.take_add_one, ha]; simp
        by_cases hd : 100 < a.2.length
        · simp [Ba_avouchlaw19zScriptTexts, g16, g15, g14, g3, hlt, hi0, w2, anC, partAB, stKB, limP, setAtB, fillA, rep, AVal.cells, AVal.okV, chunks, -List.map_take, show (100 : Int) < a.2.length by omega]
          exact ⟨_, _, rfl⟩
        · simp [Ba_avouchlaw19zScriptTexts, g16, g15, g14, g3, hlt, hi0, w2, anC, partAB, stKB, limP, setAtB, fillA, rep, AVal.cells, AVal.okV, chunks, appK_nV, -List.map_take, show ¬ (100 : Int) < a.2.length by omega, maxRoom, show k + 1 < 274877906944 by omega, Nat.min_eq_left hkN, szOk_an]
          rw [show (l.take k).map anC ++ [[AVal.int .i64 a.1, .vsl false (eI .u8 a.2)]] = (l.take (k + 1)).map anC from e]
          refine ⟨rfl, fun c d hm => ?_, _, rfl⟩
          rw [List.take_add_one, ha, List.mem_append] at hm
          rcases hm with hm | hm
          · exact hall (c, d) hm
          · obtain rfl : (c, d) = a := by simpa using hm
            show (c, d).2.length ≤ 100
            omega
      · have : k = l.length := by omega
        subst this
        rw [List.take_length] at hall g3
        simp [Ba_avouchlaw19zScriptTexts, g16, g15, g3]
        exact ⟨_, _, rfl, rfl, fun c d hm => hall (c, d) hm⟩)
  exact ⟨e, fr', bs, ts, rfl, hk 0 (by decide), hp⟩
theorem ok_ScriptTexts (L : Lim) (h : AHeap) (l : List An) (hw : ∀ a ∈ l, AnW a) (hlm : l.length ≤ 9223372036854775807) : ∃ h', acall ctx L i_avouchlaw19zScriptTexts [.vsl false (l.map anC)] h = some (.bool true, h') := by
  rw [call_avouchlaw19zScriptTexts]
  by_cases hl : 40 < l.length
  · simp [C_avouchlaw19zScriptTexts, ok_speaks, show (40 : Int) < l.length by omega]
  · simp [C_avouchlaw19zScriptTexts, ok_speaks, show ¬ (40 : Int) < l.length by omega]
    generalize hF : run ctx _ (.loop _) _ _ = R
    obtain ⟨e, fr', bs, ts, rfl, hk0, ⟨rfl, h3, rfl, hall⟩ | ⟨rfl, h2⟩⟩ := loop_Own hF l (by omega) (by simp) (by simp) (by simp) (by simp)
    · have h0 : fr' 0 = .vsl false (l.map anC) := by rw [hk0]; simp
      have hok : ∀ a ∈ l, AnOk a := fun a ha => ⟨(hw a ha).1, (hw a ha).2.1, by have := hall a ha; omega, (hw a ha).2.2⟩
      have ht := fun L h1 => ok_Text L h1 (gL .nsl h.toks.length 0 (l.map anC)) l (by cases l <;> simp [gL, gA, elemsA]) (by cases l <;> simp [gL, gA, strOk]) hok (by omega)
      have hr := fun L h => ok_RText L h l hok (by omega)
      simp [h3, h0, ht, hr]
      exact beqX_refl _
    · simp [h2]
end Go.Av
