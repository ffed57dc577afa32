/- Items and patterns are checked, written and tagged as plain functions of lists say. -/
import Derived.Test.YtcheenloabhpoaaDoorC0
import Derived.Test.YtcheenloabhpoaaDoorC1
namespace Go.Av
set_option maxHeartbeats 400000
set_option linter.unusedSimpArgs false
set_option linter.unusedVariables false

structure It where
  kind : Int
  typ : Int
  count : Int
  label : ByteArray
def It.cells (x : It) : List AVal := [.int .i64 x.kind, .int .i64 x.typ, .int .i64 x.count, .str x.label]
@[simp] theorem It.cells_len (x : It) : x.cells.length = 4 := rfl
@[simp] theorem It.cells_flat (x : It) : flatL x.cells = true := rfl
theorem szOk_items (l : List It) : szOk 4 (l.map It.cells) = true := by cases l <;> simp [szOk]
theorem under_items (nb nt : Nat) : ∀ l : List It, underLL nb nt (l.map It.cells) = true
  | [] => by simp [underLL]
  | x :: l => by simp [underLL, under_items nb nt l, It.cells, underL, AVal.under]

theorem ok_Of (L : Lim) (h : AHeap) (x : It) : acall ctx L i_avouchlaw12zOf [.agg x.cells] h = some (.agg x.cells, h) := by
  rw [call_avouchlaw12zOf]
  simp [It.cells, C_avouchlaw12zOf, fzA_agg, fillA, AVal.cells, AVal.okV, stK_agg, limP, setAt_full, partA_all, frz_agg]

@[simp] theorem take_cells (x : It) : List.take 4 x.cells = x.cells := rfl
theorem loop_Ofs {fr : Fr} {h : AHeap} {R : Option (AEx × Fr × AHeap)} (hF : run ctx (limP h) (.loop Ba_avouchlaw13zOfs) fr (hx h [] []) = R) (l : List It) (hl : l.length < 2 ^ 38)
    (h3 : fr 3 = .nsl) (h6 : fr 6 = .vsl false (l.map It.cells)) (h7 : fr 7 = .int .i64 l.length) (h8 : fr 8 = .int .i64 0) :
    ∃ fr' bs, R = some (.exit 0, fr', hx h bs (gT (l.map It.cells))) ∧ fr' 3 = gL .nsl h.toks.length 0 (l.map It.cells) := by
  obtain ⟨e, fr', h', rfl, ⟨rfl, bs, rfl, h3'⟩, hk⟩ := loop_rule hF l.length
    (fun k fr hh => fr 8 = .int .i64 k ∧ fr 3 = gL .nsl h.toks.length 0 ((l.take k).map It.cells) ∧ ∃ bs, hh = hx h bs (gT ((l.take k).map It.cells)))
    (fun e fr hh => e = .exit 0 ∧ ∃ bs, hh = hx h bs (gT (l.map It.cells)) ∧ fr 3 = gL .nsl h.toks.length 0 (l.map It.cells))
    ⟨h8, by simpa [gL] using h3, [], by simp [gT]⟩ (by
      rintro k fr1 hh hkN hkeep ⟨g8, g3, bs, rfl⟩
      have g6 := (hkeep 6 (by decide)).trans h6
      have g7 := (hkeep 7 (by decide)).trans h7
      by_cases hlt : k < l.length
      · have hget : l[k]? = some l[k] := List.getElem?_eq_getElem hlt
        simp [Ba_avouchlaw13zOfs, g8, g7, g6, g3, hlt, iadrA, asI, partAB, stKB, limP, setAtB, ok_Of, fillA, rep, AVal.cells, AVal.okV, chunks, appK_nV, -List.map_take, szOk_items, maxRoom, show k + 1 < 274877906944 by omega, Nat.min_eq_left hkN]
        have e : (l.take k).map It.cells ++ [l[k].cells] = (l.take (k + 1)).map It.cells := by
          rw [List.take_succ_eq_append_getElem hlt]; simp only [List.map_append, List.map_cons, List.map_nil]
        rw [e]
        exact ⟨wrap_i64 (by omega) (by omega), rfl, _, rfl⟩
      · have : k = l.length := by omega
        subst this
        simp [Ba_avouchlaw13zOfs, g8, g7, g3]
        exact ⟨bs, rfl⟩)
  exact ⟨fr', bs, rfl, h3'⟩

theorem ok_Ofs (L : Lim) (h : AHeap) (l : List It) (hl : l.length < 2 ^ 38) : acall ctx L i_avouchlaw13zOfs [.vsl false (l.map It.cells)] h = some (.vsl false (l.map It.cells), h) := by
  rw [call_avouchlaw13zOfs]
  simp [C_avouchlaw13zOfs, -List.map_take]
  generalize hF : run ctx _ (.loop _) _ _ = R
  obtain ⟨fr', bs, rfl, h3⟩ := loop_Ofs hF l hl (by simp) (by simp) (by simp) (by simp)
  simp [h3, frz_gL, under_items]
end Go.Av

namespace Go.Av
set_option maxHeartbeats 400000
set_option linter.unusedSimpArgs false
set_option linter.unusedVariables false
def typs (k : Int) : List Int := if k = 1 then [1, 2, 3, 4] else if k = 2 then [1, 3] else if k = 3 then [0] else []
def most (k : Int) : Int := if k = 1 then 1048576 else if k = 2 then 1048576 else if k = 3 then 1 else 0
theorem ok_types (L : Lim) (h : AHeap) (k : Int) : acall ctx L i_item_types [.int .i64 k] h = some (.tup [.vsl false (eI .i64 (typs k)), .int .i64 (most k)], h) := by
  rw [call_item_types]
  simp [C_item_types]
  by_cases h1 : k = 1
  · subst h1
    simp [fillA, rep, AVal.cells, AVal.okV, chunks, frz_vsl, underLL, underL, AVal.under, typs, most, eI]
  · by_cases h2 : k = 2
    · subst h2
      simp [fillA, rep, AVal.cells, AVal.okV, chunks, frz_vsl, underLL, underL, AVal.under, typs, most, eI]
    · by_cases h3 : k = 3
      · subst h3
        simp [fillA, rep, AVal.cells, AVal.okV, chunks, frz_vsl, underLL, underL, AVal.under, typs, most, eI]
      · simp [typs, most, h1, h2, h3, eI, beq_false_of_ne h1, beq_false_of_ne h2, beq_false_of_ne h3]

/-- Where a number stands in a list: -1 if nowhere. -/
def idxOf (v : Int) : List Int → Nat → Int
  | [], _ => -1
  | x :: l, i => if v = x then i else idxOf v l (i + 1)
theorem idxOf_drop (v : Int) (l : List Int) (k : Nat) (hk : k < l.length) : idxOf v (l.drop k) k = if v = l[k] then (k : Int) else idxOf v (l.drop (k + 1)) (k + 1) := by
  rw [List.drop_eq_getElem_cons hk, idxOf]
theorem loop_Index {fr : Fr} {h : AHeap} {R : Option (AEx × Fr × AHeap)} (hF : run ctx (limP h) (.loop Ba_slices_Indexint_int) fr (hx h [] []) = R) (l : List Int) (v : Int) (hl : l.length < 274877906944)
    (h0 : fr 0 = .vsl false (eI .i64 l)) (h1 : fr 1 = .int .i64 v) (h7 : fr 7 = .int .i64 l.length) (h8 : fr 8 = .int .i64 0) :
    ∃ e fr', R = some (e, fr', hx h [] []) ∧ ((e = .exit 0 ∧ idxOf v l 0 = -1) ∨ (e = .ret ∧ fr' 4 = .int .i64 (idxOf v l 0))) := by
  obtain ⟨e, fr', h', rfl, ⟨rfl, hp⟩, hk⟩ := loop_rule hF l.length
    (fun k fr hh => fr 8 = .int .i64 k ∧ hh = hx h [] [] ∧ idxOf v l 0 = idxOf v (l.drop k) k)
    (fun e fr hh => hh = hx h [] [] ∧ ((e = .exit 0 ∧ idxOf v l 0 = -1) ∨ (e = .ret ∧ fr 4 = .int .i64 (idxOf v l 0))))
    ⟨h8, rfl, by simp⟩ (by
      rintro k fr1 hh hkN hkeep ⟨g8, rfl, gi⟩
      have g0 := (hkeep 0 (by decide)).trans h0
      have g1 := (hkeep 1 (by decide)).trans h1
      have g7 := (hkeep 7 (by decide)).trans h7
      by_cases hlt : k < l.length
      · have hget : l[k]? = some l[k] := List.getElem?_eq_getElem hlt
        rw [idxOf_drop v l k hlt] at gi
        simp [Ba_slices_Indexint_int, g8, g7, g0, g1, hlt, iadrA, asI, eI_get, hget]
        cases hb : (v == l[k])
        · have hne : ¬ v = l[k] := by simpa using hb
          simp [g8, hlt]
          exact ⟨wrap_i64 (by omega) (by omega), by rw [gi, if_neg hne]⟩
        · have he : v = l[k] := by simpa using hb
          rw [if_pos he] at gi
          simp [gi]
      · have : k = l.length := by omega
        subst this
        simp [Ba_slices_Indexint_int, g8, g7]
        rw [gi]; simp [idxOf])
  exact ⟨e, fr', rfl, hp⟩

theorem ok_Index (L : Lim) (h : AHeap) (l : List Int) (v : Int) (hl : l.length < 274877906944) : acall ctx L i_slices_Indexint_int [.vsl false (eI .i64 l), .int .i64 v] h = some (.int .i64 (idxOf v l 0), h) := by
  rw [call_slices_Indexint_int]
  simp [C_slices_Indexint_int]
  generalize hF : run ctx _ (.loop _) _ _ = R
  obtain ⟨e, fr', rfl, ⟨rfl, hi⟩ | ⟨rfl, hi⟩⟩ := loop_Index hF l v hl (by simp) (by simp) (by simp) (by simp)
  · simp [hi]
  · simp [hi]
theorem idxOf_ge (v : Int) : ∀ (l : List Int) (i : Nat), decide (idxOf v l i ≥ 0) = l.contains v
  | [], i => by simp [idxOf]
  | x :: l, i => by
    rw [idxOf, List.contains_cons, ← idxOf_ge v l (i + 1)]
    by_cases h : v = x
    · simp [h]
    · simp [h, beq_false_of_ne h]
theorem ok_Contains (L : Lim) (h : AHeap) (l : List Int) (v : Int) (hl : l.length < 274877906944) : acall ctx L i_slices_Containsint_int [.vsl false (eI .i64 l), .int .i64 v] h = some (.bool (l.contains v), h) := by
  rw [call_slices_Containsint_int]
  simp [C_slices_Containsint_int, ok_Index, hl]
  simpa using idxOf_ge v l 0

/-- What is wrong with an item. -/
def chk (x : It) : Int :=
  if (typs x.kind).length = 0 then 5 else if (typs x.kind).contains x.typ = false then 6
  else if x.count < 1 then 7 else if x.count > most x.kind then 7 else if (x.label.size : Int) > 255 then 8 else 0
theorem typs_short (k : Int) : (typs k).length < 274877906944 := by
  unfold typs; split <;> (try split) <;> (try split) <;> simp
theorem ok_Check (L : Lim) (h : AHeap) (x : It) : acall ctx L i_item_Check [.agg x.cells] h = some (.int .i64 (chk x), h) := by
  rw [call_item_Check]
  simp [It.cells, fzA_agg, C_item_Check, ok_types, ok_Contains, typs_short]
  by_cases h1 : (typs x.kind).length = 0
  · have b1 : (((typs x.kind).length : Int) == 0) = true := by simp [h1]
    simp [b1, chk, h1]
  · have b1 : (((typs x.kind).length : Int) == 0) = false := beq_false_of_ne (by omega)
    by_cases b2 : x.typ ∈ typs x.kind
    case neg => simp [b1, chk, h1, b2, ok_Contains, typs_short]
    case pos =>
      by_cases h3 : x.count < 1
      · simp [b1, chk, h1, b2, ok_Contains, typs_short, h3]
      · by_cases h4 : x.count > most x.kind
        · simp [b1, chk, h1, b2, ok_Contains, typs_short, h3, h4]
        · by_cases h5 : (x.label.size : Int) > 255
          · simp [b1, chk, h1, b2, ok_Contains, typs_short, h3, h4, h5]
          · simp [b1, chk, h1, b2, ok_Contains, typs_short, h3, h4, h5]
end Go.Av

namespace Go.Av
set_option maxHeartbeats 400000
set_option linter.unusedSimpArgs false
set_option linter.unusedVariables false
/-- A number's bytes, the lowest first. -/
def le (n : Int) : Nat → List Int
  | 0 => []
  | k + 1 => le n k ++ [IntKind.u8.wrap (n.fdiv (2 ^ (8 * k)))]
@[simp] theorem le_len (n : Int) : ∀ k, (le n k).length = k
  | 0 => rfl
  | k + 1 => by simp [le, le_len n k]

theorem loop_number {L : Lim} {fr : Fr} {h : AHeap} {R : Option (AEx × Fr × AHeap)} (hF : run ctx ⟨L.rob, L.rot, h.blks.length, h.toks.length⟩ (.loop Ba_item_number) fr (hx h [] []) = R) (b0 : List Int) (n : Int) (m : Nat) (hm : m ≤ 8) (hb : b0.length < 200000000000) (hL : L.rot ≤ h.toks.length)
    (h0 : fr 0 = .vsl true (eI .u8 b0)) (h1 : fr 1 = .int .i64 n) (h8 : fr 8 = .int .i64 m) (h9 : fr 9 = .int .i64 0) :
    ∃ fr', R = some (.exit 0, fr', hx h [] (if m = 0 then [] else [b0.length + m])) ∧ fr' 0 = if m = 0 then .vsl true (eI .u8 b0) else gA h.toks.length 0 (eI .u8 (b0 ++ le n m)) := by
  obtain ⟨e, fr', h', rfl, ⟨rfl, rfl, h3'⟩, hk⟩ := loop_rule hF m
    (fun k fr hh => fr 9 = .int .i64 k ∧ fr 0 = (if k = 0 then .vsl true (eI .u8 b0) else gA h.toks.length 0 (eI .u8 (b0 ++ le n k))) ∧ hh = hx h [] (if k = 0 then [] else [b0.length + k]))
    (fun e fr hh => e = .exit 0 ∧ hh = hx h [] (if m = 0 then [] else [b0.length + m]) ∧ fr 0 = if m = 0 then .vsl true (eI .u8 b0) else gA h.toks.length 0 (eI .u8 (b0 ++ le n m)))
    ⟨h9, by simpa using h0, by simp⟩ (by
      rintro k fr1 hh hkN hkeep ⟨g9, g0, rfl⟩
      have g1 := (hkeep 1 (by decide)).trans h1
      have g8 := (hkeep 8 (by decide)).trans h8
      by_cases hlt : k < m
      · have w1 : IntKind.i64.wrap (8 * (k : Int)) = 8 * k := wrap_i64 (by omega) (by omega)
        have w2 : IntKind.i64.wrap ((k : Int) + 1) = k + 1 := wrap_i64 (by omega) (by omega)
        by_cases hk0 : k = 0
        · subst hk0
          simp [Ba_item_number, g9, g8, g0, g1, hlt, w1, w2, fillA, rep, AVal.cells, AVal.okV, chunks, eI_one, shrB, IntKind.bits, appK_full, maxRoom, show b0.length + 1 < 274877906944 by omega, le]
          exact wrap_i64 (by omega) (by omega)
        · simp [Ba_item_number, g9, g8, g0, g1, hlt, hk0, w1, w2, fillA, rep, AVal.cells, AVal.okV, chunks, eI_one, shrB, IntKind.bits, appK_gA, maxRoom, hL, show b0.length + k + 1 < 274877906944 by omega, show (0 : Int) ≤ 8 * k by omega, show (8 : Int) * k ≤ 64 by omega, show 0 < b0.length + k by omega, le]
          rw [show (8 * (k : Int)).toNat = 8 * k by omega]
          exact ⟨rfl, rfl⟩
      · have : k = m := by omega
        subst this
        simp [Ba_item_number, g9, g8, g0])
  exact ⟨fr', rfl, h3'⟩
theorem ok_number_new (L : Lim) (h : AHeap) (b0 : List Int) (n : Int) (m : Nat) (hm0 : 0 < m) (hm : m ≤ 8) (hb : b0.length < 200000000000) (hL : L.rot ≤ h.toks.length) :
    acall ctx L i_item_number [.vsl true (eI .u8 b0), .int .i64 n, .int .i64 m] h = some (.gsl h.toks.length (eI .u8 (b0 ++ le n m)), ptok h (b0.length + m)) := by
  rw [call_item_number]
  simp [C_item_number]
  generalize hF : run ctx _ (.loop _) _ _ = R
  obtain ⟨fr', rfl, h3⟩ := loop_number hF b0 n m hm hb hL (by simp) (by simp) (by simp) (by simp)
  have hm1 : ¬ m = 0 := by omega
  simp [h3, hm1, retA_new]
theorem loop_number_old {L : Lim} {fr : Fr} {h : AHeap} {R : Option (AEx × Fr × AHeap)} (hF : run ctx ⟨L.rob, L.rot, h.blks.length, h.toks.length⟩ (.loop Ba_item_number) fr (hx h [] []) = R) (t : Nat) (b0 : List Int) (n : Int) (m : Nat) (hm : m ≤ 8) (hb : b0.length < 200000000000) (hb0 : 0 < b0.length) (hL : L.rot ≤ t) (ht : h.toks[t]? = some b0.length)
    (h0 : fr 0 = .gsl t (eI .u8 b0)) (h1 : fr 1 = .int .i64 n) (h8 : fr 8 = .int .i64 m) (h9 : fr 9 = .int .i64 0) :
    ∃ fr', R = some (.exit 0, fr', hx (setT h t (b0.length + m)) [] []) ∧ fr' 0 = .gsl t (eI .u8 (b0 ++ le n m)) := by
  have hlt0 := (List.getElem?_eq_some_iff.1 ht).1
  have hself : setT h t b0.length = h := by
    unfold setT
    rw [show h.toks.set t b0.length = h.toks from ?_]
    refine List.ext_getElem? fun i => ?_
    by_cases e : t = i
    · subst e; rw [List.getElem?_set_self hlt0, ht]
    · rw [List.getElem?_set_ne e]
  obtain ⟨e, fr', h', rfl, ⟨rfl, rfl, h3'⟩, hk⟩ := loop_rule hF m
    (fun k fr hh => fr 9 = .int .i64 k ∧ fr 0 = .gsl t (eI .u8 (b0 ++ le n k)) ∧ hh = hx (setT h t (b0.length + k)) [] [])
    (fun e fr hh => e = .exit 0 ∧ hh = hx (setT h t (b0.length + m)) [] [] ∧ fr 0 = .gsl t (eI .u8 (b0 ++ le n m)))
    ⟨h9, by simpa [le] using h0, by simp [hself]⟩ (by
      rintro k fr1 hh hkN hkeep ⟨g9, g0, rfl⟩
      have g1 := (hkeep 1 (by decide)).trans h1
      have g8 := (hkeep 8 (by decide)).trans h8
      by_cases hlt : k < m
      · have w1 : IntKind.i64.wrap (8 * (k : Int)) = 8 * k := wrap_i64 (by omega) (by omega)
        have w2 : IntKind.i64.wrap ((k : Int) + 1) = k + 1 := wrap_i64 (by omega) (by omega)
        have ht' : (setT h t (b0.length + k)).toks[t]? = some (eI .u8 (b0 ++ le n k)).length := by simp [setT, hlt0]
        have ha := appK_old ⟨L.rob, L.rot, h.blks.length, h.toks.length⟩ (setT h t (b0.length + k)) [] [] 1 t true (eI .u8 (b0 ++ le n k)) (eI .u8 [IntKind.u8.wrap (n.fdiv (2 ^ (8 * k)))]) ht'
          (by simp [maxRoom, hL]; omega)
        have hs : setT (setT h t (b0.length + k)) t (b0.length + k + 1) = setT h t (b0.length + (k + 1)) := by simp [setT, Nat.add_assoc]
        simp [hs] at ha
        simp [Ba_item_number, g9, g8, g0, g1, hlt, w1, w2, fillA, rep, AVal.cells, AVal.okV, chunks, eI_one, shrB, IntKind.bits, show (0 : Int) ≤ 8 * k by omega, show (8 : Int) * k ≤ 64 by omega, show (8 * (k : Int)).toNat = 8 * k by omega, ha, le]
      · have : k = m := by omega
        subst this
        simp [Ba_item_number, g9, g8, g0])
  exact ⟨fr', rfl, h3'⟩
theorem ok_number_old (L : Lim) (h : AHeap) (t : Nat) (b0 : List Int) (n : Int) (m : Nat) (hm : m ≤ 8) (hb : b0.length < 200000000000) (hb0 : 0 < b0.length) (hL : L.rot ≤ t) (ht : h.toks[t]? = some b0.length) :
    acall ctx L i_item_number [.gsl t (eI .u8 b0), .int .i64 n, .int .i64 m] h = some (.gsl t (eI .u8 (b0 ++ le n m)), setT h t (b0.length + m)) := by
  rw [call_item_number]
  simp [C_item_number]
  generalize hF : run ctx _ (.loop _) _ _ = R
  obtain ⟨fr', rfl, h3⟩ := loop_number_old hF t b0 n m hm hb hb0 hL ht (by simp) (by simp) (by simp) (by simp)
  have hlt0 := (List.getElem?_eq_some_iff.1 ht).1
  simp [h3, retA_old, hlt0]
theorem ok_numberN (L : Lim) (h : AHeap) (bs : List (List AVal)) (ts : List Nat) (b0 : List Int) (n m : Int) (hc : (decide (0 < m) && decide (m ≤ 8) && decide (b0.length < 200000000000) && decide (L.rot ≤ h.toks.length)) = true) :
    acall ctx L i_item_number [.vsl true (eI .u8 b0), .int .i64 n, .int .i64 m] (hx h bs ts) = some (gA h.toks.length ts.length (eI .u8 (b0 ++ le n m.toNat)), hx h bs (ts ++ [b0.length + m.toNat])) := by
  simp only [Bool.and_eq_true, decide_eq_true_eq] at hc
  obtain ⟨k, rfl⟩ : ∃ k : Nat, m = k := ⟨m.toNat, by omega⟩
  rw [ok_number_new L (hx h bs ts) b0 n k (by omega) (by omega) hc.1.2 (by rw [hx_toks]; omega), ptok_hx, hx_toks]
  rfl
theorem ok_numberO (L : Lim) (h : AHeap) (bs : List (List AVal)) (ts : List Nat) (i : Nat) (b0 : List Int) (n m : Int)
    (hc : (decide (0 ≤ m) && decide (m ≤ 8) && decide (b0.length < 200000000000) && decide (0 < b0.length) && decide (L.rot ≤ h.toks.length) && (ts[i]? == some b0.length)) = true) :
    acall ctx L i_item_number [gA h.toks.length i (eI .u8 b0), .int .i64 n, .int .i64 m] (hx h bs ts) = some (gA h.toks.length i (eI .u8 (b0 ++ le n m.toNat)), hx h bs (ts.set i (b0.length + m.toNat))) := by
  simp only [Bool.and_eq_true, decide_eq_true_eq, beq_iff_eq] at hc
  obtain ⟨⟨⟨⟨⟨c0, c1⟩, c2⟩, c3⟩, c4⟩, c5⟩ := hc
  obtain ⟨k, rfl⟩ : ∃ k : Nat, m = k := ⟨m.toNat, by omega⟩
  have ht : (hx h bs ts).toks[h.toks.length + i]? = some b0.length := by
    simp only [hx]; rw [List.getElem?_append_right (Nat.le_add_right _ _), Nat.add_sub_cancel_left]; exact c5
  unfold gA
  rw [ok_number_old L (hx h bs ts) (h.toks.length + i) b0 n k (by omega) c2 c3 (by omega) ht, setT_hx]
  rfl
end Go.Av

namespace Go.Av
set_option maxHeartbeats 400000
set_option maxRecDepth 20000
set_option linter.unusedSimpArgs false
set_option linter.unusedVariables false
/-- An item's bytes. -/
def encB (x : It) : List Int := [IntKind.u8.wrap x.kind, IntKind.u8.wrap x.typ] ++ le x.count 4 ++ le x.label.size 2 ++ bts x.label
theorem chk_none (k t c : Int) (lb : ByteArray) (h : k < 1 ∨ k > 3) : chk ⟨k, t, c, lb⟩ = 5 := by
  have h1 : k ≠ 1 := by omega
  have h2 : k ≠ 2 := by omega
  have h3 : k ≠ 3 := by omega
  simp [chk, typs, h1, h2, h3]
theorem chk_bad (k t c : Int) (lb : ByteArray) (hk : k = 1 ∨ k = 2 ∨ k = 3) (h : k = 1 ∧ (t < 1 ∨ t > 4) ∨ k = 2 ∧ t ≠ 1 ∧ t ≠ 3 ∨ k = 3 ∧ t ≠ 0) : chk ⟨k, t, c, lb⟩ = 6 := by
  rcases hk with rfl | rfl | rfl
  · simp [chk, typs]; omega
  · simp [chk, typs]; omega
  · simp [chk, typs]; omega
theorem chk_good (k t c : Int) (lb : ByteArray) (hk : k = 1 ∨ k = 2 ∨ k = 3) (h : ¬ (k = 1 ∧ (t < 1 ∨ t > 4) ∨ k = 2 ∧ t ≠ 1 ∧ t ≠ 3 ∨ k = 3 ∧ t ≠ 0)) :
    chk ⟨k, t, c, lb⟩ = if c < 1 ∨ c > 1048576 ∨ k = 3 ∧ c ≠ 1 then 7 else if (lb.size : Int) > 255 then 8 else 0 := by
  have hmem : (typs k).contains t = true := by
    rcases hk with rfl | rfl | rfl <;> simp [typs] <;> omega
  have hlen : ¬ (typs k).length = 0 := fun h => by
    have := List.eq_nil_of_length_eq_zero h; rw [this] at hmem; simp at hmem
  unfold chk
  simp only [hlen, if_false, hmem, Bool.true_eq_false]
  by_cases c1 : c < 1
  · simp [c1]
  · rcases hk with rfl | rfl | rfl
    · simp [c1, most]
    · simp [c1, most]
    · by_cases c2 : c = 1
      · simp [c2, most]
      · simp [c1, c2, most]
        intro h; omega
theorem chk_zero {x : It} (h : chk x = 0) : 1 ≤ x.kind ∧ x.kind ≤ 3 ∧ 0 ≤ x.typ ∧ x.typ ≤ 4 ∧ 1 ≤ x.count ∧ x.count ≤ 1048576 ∧ x.label.size ≤ 255 := by
  obtain ⟨k, t, c, lb⟩ := x
  by_cases hk : k < 1 ∨ k > 3
  · rw [chk_none k t c lb hk] at h; omega
  · have hk' : k = 1 ∨ k = 2 ∨ k = 3 := by omega
    by_cases hb : k = 1 ∧ (t < 1 ∨ t > 4) ∨ k = 2 ∧ t ≠ 1 ∧ t ≠ 3 ∨ k = 3 ∧ t ≠ 0
    · rw [chk_bad k t c lb hk' hb] at h; omega
    · rw [chk_good k t c lb hk' hb] at h
      split at h
      · omega
      · split at h
        · omega
        · simp only; omega
theorem ok_Encode (L : Lim) (h : AHeap) (x : It) : acall ctx L i_item_Encode [.agg x.cells] h =
    some (if chk x = 0 then .tup [.vsl false (eI .u8 (encB x)), .int .i64 0] else .tup [.vsl false [], .int .i64 (chk x)], h) := by
  rw [call_item_Encode]
  have e : flatL [AVal.int .i64 x.kind, .int .i64 x.typ, .int .i64 x.count, .str x.label] = true := rfl
  have hck := ok_Check
  simp only [It.cells] at hck ⊢
  simp [fzA_agg, C_item_Encode, partAB, hck]
  by_cases h0 : chk x = 0
  · have b0 : (chk x == 0) = true := by simp [h0]
    have hs : x.label.size < 1000000000 := by have := (chk_zero h0).2.2.2.2.2.2; omega
    simp [h0, fillA, rep, AVal.cells, AVal.okV, chunks, ok_numberN, ok_numberO, limP, eI_one, eI_cons, le, appK_gAS, maxRoom, show 8 + x.label.size < 274877906944 by omega, frz_gsl, encB]
  · have b0 : (chk x == 0) = false := by simp [h0]
    simp [bne, b0]
    exact fun e => absurd e h0
end Go.Av

namespace Go.Av
set_option maxHeartbeats 1000000
set_option maxRecDepth 20000
set_option linter.unusedSimpArgs false
set_option linter.unusedVariables false

theorem under_eI0 (k : IntKind) (nb nt : Nat) (l : List Int) : underLL nb nt (eI k l) = true := eI_under k nb nt l
@[simp] theorem encB_len (x : It) : (encB x).length = 8 + x.label.size := by simp [encB]; omega
/-- What a pattern's bytes are: the bytes, the place, what is wrong. -/
def serL : List It → Nat → List Int → List Int × Int × Int
  | [], _, out => (out, -1, 0)
  | x :: l, k, out => if k = 1024 then ([], k, 9) else if chk x = 0 then serL l (k + 1) (out ++ encB x) else ([], k, chk x)
theorem serL_drop (l : List It) (k : Nat) (out : List Int) (hk : k < l.length) : serL (l.drop k) k out = if k = 1024 then ([], (k : Int), 9) else if chk l[k] = 0 then serL (l.drop (k + 1)) (k + 1) (out ++ encB l[k]) else ([], (k : Int), chk l[k]) := by
  rw [List.drop_eq_getElem_cons hk, serL]
theorem loop_Ser {fr : Fr} {h : AHeap} {R : Option (AEx × Fr × AHeap)} (l : List It) (hn : l.length ≤ 2000)
    (hF : run ctx (limP h) (.loop Ba_pattern_Serialise) fr (hx h [] []) = R)
    (h5 : fr 5 = .nsl) (h10 : fr 10 = .vsl false (l.map It.cells)) (h11 : fr 11 = .int .i64 l.length) (h12 : fr 12 = .int .i64 0) :
    ∃ e fr' bs ts, R = some (e, fr', hx h bs ts) ∧ ((e = .exit 0 ∧ ∃ out, serL l 0 [] = (out, -1, 0) ∧ fr' 5 = gL .nsl h.toks.length 0 (eI .u8 out)) ∨ (e = .ret ∧ fr' 2 = .nsl ∧ (serL l 0 []).1 = [] ∧ fr' 3 = .int .i64 (serL l 0 []).2.1 ∧ fr' 4 = .int .i64 (serL l 0 []).2.2)) := by
  obtain ⟨e, fr', h', rfl, ⟨bs, ts, rfl, hp⟩, hk⟩ := loop_rule hF l.length
    (fun k fr hh => fr 12 = .int .i64 k ∧ ∃ bs out, hh = hx h bs (gT (eI .u8 out)) ∧ fr 5 = gL .nsl h.toks.length 0 (eI .u8 out) ∧ serL l 0 [] = serL (l.drop k) k out ∧ out.length ≤ k * 1000008)
    (fun e fr hh => ∃ bs ts, hh = hx h bs ts ∧ ((e = .exit 0 ∧ ∃ out, serL l 0 [] = (out, -1, 0) ∧ fr 5 = gL .nsl h.toks.length 0 (eI .u8 out)) ∨ (e = .ret ∧ fr 2 = .nsl ∧ (serL l 0 []).1 = [] ∧ fr 3 = .int .i64 (serL l 0 []).2.1 ∧ fr 4 = .int .i64 (serL l 0 []).2.2)))
    ⟨h12, [], [], by simp [gT], by simpa [gL] using h5, by simp, by simp⟩ (by
      rintro k fr1 hh hkN hkeep ⟨g12, bs, out, rfl, g5, gs, go⟩
      have g10 := (hkeep 10 (by decide)).trans h10
      have g11 := (hkeep 11 (by decide)).trans h11
      by_cases hlt : k < l.length
      · have w1 : IntKind.i64.wrap ((k : Int) + 1) = k + 1 := wrap_i64 (by omega) (by omega)
        have hget : l[k]? = some l[k] := List.getElem?_eq_getElem hlt
        rw [serL_drop l k out hlt] at gs
        by_cases h1024 : k = 1024
        · rw [if_pos h1024] at gs
          subst h1024
          simp [Ba_pattern_Serialise, g12, g11, g10, g5, hlt, show (1024 : Int) < l.length by omega, iadrA, asI, hget, partAB, stKB, limP, setAtB]
          exact ⟨⟨_, _, rfl⟩, by rw [gs], by rw [gs]; rfl, by rw [gs]⟩
        · rw [if_neg h1024] at gs
          have b1024 : ((k : Int) == 1024) = false := beq_false_of_ne (by omega)
          by_cases hc : chk l[k] = 0
          · rw [if_pos hc] at gs
            have hsz := (chk_zero hc).2.2.2.2.2.2
            have hroom : out.length + (8 + l[k].label.size) < 274877906944 := by omega
            simp [Ba_pattern_Serialise, g12, g11, g10, g5, hlt, show (k : Int) < l.length by omega, iadrA, asI, hget, partAB, stKB, limP, setAtB, b1024, ok_Encode, hc, appK_nV, maxRoom, hroom, w1]
            exact ⟨_, out ++ encB l[k], rfl, rfl, gs, by simp; omega⟩
          · rw [if_neg hc] at gs
            have bc : (chk l[k] == 0) = false := beq_false_of_ne hc
            simp [Ba_pattern_Serialise, g12, g11, g10, g5, hlt, show (k : Int) < l.length by omega, iadrA, asI, hget, partAB, stKB, limP, setAtB, b1024, ok_Encode, hc, bne, bc]
            exact ⟨⟨_, _, rfl⟩, by rw [gs], by rw [gs], by rw [gs]⟩
      · have : k = l.length := by omega
        subst this
        simp [Ba_pattern_Serialise, g12, g11, g5]
        exact ⟨⟨_, _, rfl⟩, out, by rw [gs]; simp [serL], rfl⟩)
  exact ⟨e, fr', bs, ts, rfl, hp⟩
theorem ok_Ser (L : Lim) (h : AHeap) (l : List It) (hn : l.length ≤ 2000) :
    acall ctx L i_pattern_Serialise [.vsl false (l.map It.cells)] h = some (.tup [.vsl false (eI .u8 (serL l 0 []).1), .int .i64 (serL l 0 []).2.1, .int .i64 (serL l 0 []).2.2], h) := by
  rw [call_pattern_Serialise]
  simp [C_pattern_Serialise, -List.map_take]
  generalize hF : run ctx _ (.loop _) _ _ = R
  obtain ⟨e, fr', bs, ts, rfl, ⟨rfl, out, e1, e2⟩ | ⟨rfl, e1, e2, e3, e4⟩⟩ := loop_Ser l hn hF (by simp) (by simp) (by simp) (by simp)
  · rw [e1]; simp [e2, frz_gL]
  · rw [e2]; simp [e1, e3, e4]
end Go.Av

namespace Go.Av
set_option maxHeartbeats 2000000
set_option maxRecDepth 20000
set_option linter.unusedSimpArgs false
set_option linter.unusedVariables false
def domB : List Int := [97, 118, 111, 117, 99, 104, 47, 116, 114, 97, 110, 115, 99, 114, 105, 112, 116, 47, 49]
def zer32 : List Int := tab 32 fun _ => 0
/-- A tag, the place, what is wrong. -/
def tagL (b : Int) (l : List It) : List Int × Int × Int :=
  if b ≠ 1 ∧ b ≠ 2 then (zer32, -1, 15)
  else if (serL l 0 []).2.2 ≠ 0 then (zer32, (serL l 0 []).2.1, (serL l 0 []).2.2)
  else (sumL (domB ++ ([IntKind.u8.wrap b] ++ (serL l 0 []).1)), -1, 0)
theorem serL_short : ∀ (l : List It) (k : Nat) (out : List Int), (serL l k out).1.length ≤ out.length + l.length * 1000008
  | [], k, out => by simp [serL]
  | x :: l, k, out => by
    rw [serL]
    split
    · simp
    · split
      · rename_i hc
        have h1 := serL_short l (k + 1) (out ++ encB x)
        have h2 := (chk_zero hc).2.2.2.2.2.2
        simp only [List.length_append, encB_len, List.length_cons] at h1 ⊢
        omega
      · simp
theorem dom_cells : [AVal.int .u8 97, AVal.int .u8 118, AVal.int .u8 111, AVal.int .u8 117, AVal.int .u8 99, AVal.int .u8 104, AVal.int .u8 47, AVal.int .u8 116, AVal.int .u8 114, AVal.int .u8 97, AVal.int .u8 110, AVal.int .u8 115, AVal.int .u8 99, AVal.int .u8 114, AVal.int .u8 105, AVal.int .u8 112, AVal.int .u8 116, AVal.int .u8 47, AVal.int .u8 49] = cI .u8 domB := rfl
theorem sum_three (L : Lim) (h : AHeap) (z : List AVal) (b : Int) (r : List Int) (hr : r.length < 200000000000) :
    acall ctx L i_digest_Sum [.vsl true [[sA h.blks.length 1 0 1 19 (some 19)], [.vsl true (eI .u8 [b])], [.vsl false (eI .u8 r)]]] (hx h [z, cI .u8 domB] []) = some (.agg (cI .u8 (sumL (domB ++ ([b] ++ r)))), hx h [z, cI .u8 domB] []) := by
  have h1 := ok_DSum L (hx h [z, cI .u8 domB] []) true [(sA h.blks.length 1 0 1 19 (some 19), domB), (.vsl true (eI .u8 [b]), [b]), (.vsl false (eI .u8 r), r)] (by simp) (by
    intro p hp
    simp only [List.mem_cons, List.not_mem_nil, or_false] at hp
    rcases hp with rfl | rfl | rfl
    · exact ⟨RdI.sA [] .u8 1 19 _ domB rfl (by simp), by simp [domB]⟩
    · exact ⟨RdI.vsl _ .u8 true [b], by simp⟩
    · exact ⟨RdI.vsl _ .u8 false r, hr⟩)
  have h2 : msg [(sA h.blks.length 1 0 1 19 (some 19), domB), (.vsl true (eI .u8 [b]), [b]), (.vsl false (eI .u8 r), r)] = domB ++ ([b] ++ r) := by simp [msg]
  rw [h2] at h1
  exact h1
@[simp] theorem sumL_len (l : List Int) : (sumL l).length = 32 := by
  obtain ⟨c1, c2⟩ := takeAll_ok l (q := (tab 25 fun _ => 0#64, 0)) (by simp) (by simp)
  simp [sumL, endL, permL_len, c1]
theorem ok_Tag (L : Lim) (h : AHeap) (b : Int) (l : List It) (hn : l.length ≤ 2000) :
    acall ctx L i_tag_Tag [.int .i64 b, .vsl false (l.map It.cells)] h = some (.tup [.agg (cI .u8 (tagL b l).1), .int .i64 (tagL b l).2.1, .int .i64 (tagL b l).2.2], h) := by
  rw [call_tag_Tag]
  have hser := fun L h => ok_Ser L h l hn
  by_cases hb : b ≠ 1 ∧ b ≠ 2
  · have e1 : tagL b l = (zer32, -1, 15) := by unfold tagL; rw [if_pos hb]
    rw [e1]
    simp [C_tag_Tag, -List.map_take, limP, rep1_I, bne, beq_false_of_ne hb.1, beq_false_of_ne hb.2, fillA, stKB, setAtB, partAB, zer32]
  · have hb' : b = 1 ∨ b = 2 := by omega
    by_cases h0 : (serL l 0 []).2.2 = 0
    · have e1 : tagL b l = (sumL (domB ++ ([IntKind.u8.wrap b] ++ (serL l 0 []).1)), -1, 0) := by unfold tagL; rw [if_neg hb, if_neg (by simpa using h0)]
      rw [e1]
      have hlen : (serL l 0 []).1.length < 200000000000 := by
        have := serL_short l 0 []; simp at this; omega
      rcases hb' with rfl | rfl
      · simp [C_tag_Tag, -List.map_take, limP, rep1_I, hser, h0, fillA, rep, chunks, eI_one, dom_cells, sum_three, hlen, stKB, setAtB, partAB]
      · simp [C_tag_Tag, -List.map_take, limP, rep1_I, hser, h0, fillA, rep, chunks, eI_one, dom_cells, sum_three, hlen, stKB, setAtB, partAB]
    · have e1 : tagL b l = (zer32, (serL l 0 []).2.1, (serL l 0 []).2.2) := by unfold tagL; rw [if_neg hb, if_pos h0]
      rw [e1]
      have b0 : ((serL l 0 []).2.2 == 0) = false := beq_false_of_ne h0
      rcases hb' with rfl | rfl
      · simp [C_tag_Tag, -List.map_take, limP, rep1_I, hser, bne, b0, fillA, stKB, setAtB, partAB, zer32]
      · simp [C_tag_Tag, -List.map_take, limP, rep1_I, hser, bne, b0, fillA, stKB, setAtB, partAB, zer32]
end Go.Av

namespace Go.Av
set_option maxRecDepth 100000
theorem two_tags : sumL (domB ++ [1]) ≠ sumL (domB ++ [2]) := by decide +kernel
end Go.Av

namespace Go.Av
set_option maxHeartbeats 2000000
set_option maxRecDepth 100000
set_option linter.unusedSimpArgs false
set_option linter.unusedVariables false
theorem tag_nil (b : Int) (hb : b = 1 ∨ b = 2) : tagL b [] = (sumL (domB ++ [b]), -1, 0) := by
  unfold tagL
  rw [if_neg (by omega)]
  have hw : IntKind.u8.wrap b = b := by rcases hb with rfl | rfl <;> decide
  simp [serL, hw]
theorem Tag_nsl (L : Lim) (h : AHeap) (b : Int) : acall ctx L i_tag_Tag [.int .i64 b, .nsl] h = acall ctx L i_tag_Tag [.int .i64 b, .vsl false []] h := by
  rw [call_tag_Tag, call_tag_Tag]; simp
theorem ok_speaks (L : Lim) (h : AHeap) : acall ctx L i_avouchlaw14zspeaks [] h = some (.bool true, h) := by
  rw [call_avouchlaw14zspeaks]
  have t1 := fun L h => (Tag_nsl L h 1).trans (ok_Tag L h 1 [] (by simp))
  have t2 := fun L h => (Tag_nsl L h 2).trans (ok_Tag L h 2 [] (by simp))
  rw [tag_nil 1 (.inl rfl)] at t1
  rw [tag_nil 2 (.inr rfl)] at t2
  have hne : (sumL (domB ++ [1]) == sumL (domB ++ [2])) = false := beq_false_of_ne two_tags
  have h1 : (sumL (domB ++ [1])).length = 32 := sumL_len _
  have h2 : (sumL (domB ++ [2])).length = 32 := sumL_len _
  generalize sumL (domB ++ [1]) = a at *
  generalize sumL (domB ++ [2]) = b at *
  simp [C_avouchlaw14zspeaks, limP, t1, t2, rep1_I, stKB, setAtB, h1, h2, partAB, eqA_cI, hne, -eqA_agg]
end Go.Av
