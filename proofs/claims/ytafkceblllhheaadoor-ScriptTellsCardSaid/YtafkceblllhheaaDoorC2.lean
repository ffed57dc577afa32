/- The bytes of scripts, the document's and the program's, and the laws on them. -/
import Derived.Test.YtafkceblllhheaaDoorC0
import Derived.Lib.ItoaLen
namespace Go.Av
set_option maxHeartbeats 1000000
set_option maxRecDepth 20000
set_option linter.unusedSimpArgs false
set_option linter.unusedVariables false
/-- A number's bytes, the lowest first. -/
def le (n : Int) : Nat → List Int
  | 0 => []
  | k + 1 => le n k ++ [IntKind.u8.wrap (n.fdiv (2 ^ (8 * k)))]
@[simp] theorem le_len (n : Int) : ∀ k, (le n k).length = k
  | 0 => rfl
  | k + 1 => by simp [le, le_len n k]
theorem le_two (n : Int) : le n 2 = [IntKind.u8.wrap n, IntKind.u8.wrap (n.fdiv 256)] := by simp [le]
/-- A call of a script, as it is handed in. -/
structure DC where
  d : Int
  t : Int
  n : Int
  b : List Int
def caC (c : DC) : List AVal := [.int .i64 c.d, .int .i64 c.t, .int .i64 c.n, .vsl false (eI .u8 c.b)]
def scC (bk : Int) (p : List Int) (cs : List DC) : List AVal := [.int .i64 bk, .vsl false (eI .u8 p), .vsl false (cs.map caC)]
def in64 (x : Int) : Prop := -9223372036854775808 ≤ x ∧ x ≤ 9223372036854775807
/-- Is there such a call? -/
def rightI (c : DC) : Bool :=
  if c.d = 0 then decide (0 ≤ c.t) && decide (c.t ≤ 255) && (c.n == 0) && decide ((c.b.length : Int) ≤ 65535)
  else if c.d = 1 ∨ c.d = 2 then (c.t == 0) && (decide (0 ≤ c.n) && decide (c.n ≤ 65535)) && ((c.b.length : Int) == 0)
  else if c.d = 3 ∨ c.d = 4 then (c.t == 0) && (c.n == 0) && ((c.b.length : Int) == 0)
  else false
theorem ok_in (L : Lim) (h : AHeap) (n m : Int) : acall ctx L i_avouchref19zin [.int .i64 n, .int .i64 m] h = some (.bool (decide (0 ≤ n) && decide (n ≤ m)), h) := by
  rw [call_avouchref19zin]
  by_cases h1 : 0 ≤ n <;> simp [C_avouchref19zin, h1]
@[simp] theorem fzA_ca (h : AHeap) (d t n : Int) (b : List Int) : fzA h (.agg [.int .i64 d, .int .i64 t, .int .i64 n, .vsl false (eI .u8 b)]) = some (.agg [.int .i64 d, .int .i64 t, .int .i64 n, .vsl false (eI .u8 b)], false) := by
  by_cases hf : flatL [.int .i64 d, .int .i64 t, .int .i64 n, .vsl false (eI .u8 b)] = true
  · exact fzA_agg h hf
  · simp [fzA, hf, fzArgs]
@[simp] theorem fzA_sc (h : AHeap) (bk : Int) (p : List Int) (cs : List DC) : fzA h (.agg [.int .i64 bk, .vsl false (eI .u8 p), .vsl false (cs.map caC)]) = some (.agg [.int .i64 bk, .vsl false (eI .u8 p), .vsl false (cs.map caC)], false) := by
  by_cases hf : flatL [.int .i64 bk, .vsl false (eI .u8 p), .vsl false (cs.map caC)] = true
  · exact fzA_agg h hf
  · simp [fzA, hf, fzArgs]
theorem ok_right (L : Lim) (h : AHeap) (c : DC) : acall ctx L i_avouchref19zright [.agg (caC c)] h = some (.bool (rightI c), h) := by
  rw [call_avouchref19zright]
  obtain ⟨d, t, n, b⟩ := c
  have hin := ok_in
  simp only [caC, rightI]
  by_cases h0 : d = 0
  · subst h0
    by_cases h1 : 0 ≤ t ∧ t ≤ 255
    · by_cases h2 : n = 0
      · simp [C_avouchref19zright, hin, h1, h2]
      · have h2' : (n == 0) = false := by simpa using h2
        simp [C_avouchref19zright, hin, h1, h2']
    · have h1' : (decide (0 ≤ t) && decide (t ≤ 255)) = false := by simp; omega
      simp [C_avouchref19zright, hin, h1']
  · have b0 : (d == 0) = false := by simpa using h0
    by_cases h12 : d = 1 ∨ d = 2
    · have hc : d = 1 ∨ (d == 1) = false ∧ d = 2 := by rcases h12 with h | h <;> simp [h]
      by_cases h1 : t = 0
      · subst h1
        by_cases h2 : 0 ≤ n ∧ n ≤ 65535
        · rcases hc with rfl | ⟨hc, rfl⟩ <;> simp [C_avouchref19zright, hin, h2]
        · have h2' : (decide (0 ≤ n) && decide (n ≤ 65535)) = false := by simp; omega
          rcases hc with rfl | ⟨hc, rfl⟩ <;> simp [C_avouchref19zright, hin, h2']
      · have h1' : (t == 0) = false := by simpa using h1
        rcases hc with rfl | ⟨hc, rfl⟩ <;> simp [C_avouchref19zright, hin, h1']
    · have b1 : (d == 1) = false := by simp; omega
      have b2 : (d == 2) = false := by simp; omega
      by_cases h34 : d = 3 ∨ d = 4
      · have hc : d = 3 ∨ (d == 3) = false ∧ d = 4 := by rcases h34 with h | h <;> simp [h]
        by_cases h1 : t = 0
        · subst h1
          by_cases h2 : n = 0
          · subst h2
            rcases hc with rfl | ⟨hc, rfl⟩ <;> simp [C_avouchref19zright, hin]
          · have h2' : (n == 0) = false := by simpa using h2
            rcases hc with rfl | ⟨hc, rfl⟩ <;> simp [C_avouchref19zright, hin, h2']
        · have h1' : (t == 0) = false := by simpa using h1
          rcases hc with rfl | ⟨hc, rfl⟩ <;> simp [C_avouchref19zright, hin, h1']
      · have b3 : (d == 3) = false := by simp; omega
        have b4 : (d == 4) = false := by simp; omega
        simp [C_avouchref19zright, b0, b1, b2, b3, b4, h0, h12, h34]
end Go.Av

namespace Go.Av
set_option maxHeartbeats 2000000
set_option maxRecDepth 20000
set_option linter.unusedSimpArgs false
set_option linter.unusedVariables false
def mostD : List (List Int) := [[255, 0, 65535], [0, 65535, 0], [0, 65535, 0], [0, 0, 0], [0, 0, 0]]
def mostV : AVal := .vsl true (mostD.map fun l => [.vsl true (eI .i64 l)])
def partsC (c : DC) : List Int := [c.t, c.n, (c.b.length : Int)]
def bareOk (c : DC) (i : Nat) : Bool := decide (0 ≤ (partsC c).getD i 0) && decide ((partsC c).getD i 0 ≤ ((mostD.getD c.d.toNat []).getD i 0))
theorem loop_bare {fr : Fr} {h : AHeap} {R : Option (AEx × Fr × AHeap)} (hF : run ctx (limP h) (.loop Ba_script_Call_bare) fr (hx h [] []) = R) (c : DC) (hd : 0 ≤ c.d ∧ c.d ≤ 4)
    (h1 : fr 1 = .vptr (caC c) 0) (h4 : fr 4 = mostV) (h29 : fr 29 = .vsl true (eI .i64 (partsC c))) (h30 : fr 30 = .int .i64 3) (h31 : fr 31 = .int .i64 0) :
    ∃ e fr', R = some (e, fr', hx h [] []) ∧ (e = .exit 0 ∧ (∀ i, i < 3 → bareOk c i = true) ∨ e = .ret ∧ fr' 2 = .bool false ∧ ∃ i, i < 3 ∧ bareOk c i = false) := by
  obtain ⟨e, fr', h', rfl, ⟨rfl, hp⟩, hk⟩ := loop_rule hF 3
    (fun k fr hh => fr 31 = .int .i64 k ∧ (∀ i, i < k → bareOk c i = true) ∧ hh = hx h [] [])
    (fun e fr hh => hh = hx h [] [] ∧ (e = .exit 0 ∧ (∀ i, i < 3 → bareOk c i = true) ∨ e = .ret ∧ fr 2 = .bool false ∧ ∃ i, i < 3 ∧ bareOk c i = false))
    ⟨h31, by simp, rfl⟩ (by
      rintro k fr1 hh hkN hkeep ⟨g31, hall, rfl⟩
      have g1 := (hkeep 1 (by decide)).trans h1
      have g4 := (hkeep 4 (by decide)).trans h4
      have g29 := (hkeep 29 (by decide)).trans h29
      have g30 := (hkeep 30 (by decide)).trans h30
      by_cases hlt : k < 3
      · obtain ⟨v, hv⟩ : ∃ v, v = (partsC c).getD k 0 := ⟨_, rfl⟩
        obtain ⟨m, hm⟩ : ∃ m, m = (mostD.getD c.d.toNat []).getD k 0 := ⟨_, rfl⟩
        have hi1 : iadrA none 1 (.vsl true (eI .i64 (partsC c))) (.int .i64 (k : Int)) = some (.vptr [.int .i64 v] 0) := by
          rw [hv]
          rcases (show k = 0 ∨ k = 1 ∨ k = 2 by omega) with rfl | rfl | rfl <;> rfl
        obtain ⟨row, hr1, hr2⟩ : ∃ row, iadrA none 1 mostV (.int .i64 c.d) = some (.vptr [row] 0) ∧ iadrA none 1 row (.int .i64 (k : Int)) = some (.vptr [.int .i64 m] 0) := by
          obtain ⟨d, t, n, b⟩ := c
          simp only at hd hm ⊢
          rw [hm]
          rcases (show d = 0 ∨ d = 1 ∨ d = 2 ∨ d = 3 ∨ d = 4 by omega) with rfl | rfl | rfl | rfl | rfl <;> rcases (show k = 0 ∨ k = 1 ∨ k = 2 by omega) with rfl | rfl | rfl <;> exact ⟨_, rfl, rfl⟩
        have w2 : IntKind.i64.wrap ((k : Int) + 1) = k + 1 := wrap_i64 (by omega) (by omega)
        have hb : bareOk c k = (decide (0 ≤ v) && decide (v ≤ m)) := by rw [hv, hm]; rfl
        have g1' : fr1 1 = .vptr [.int .i64 c.d, .int .i64 c.t, .int .i64 c.n, .vsl false (eI .u8 c.b)] 0 := g1
        by_cases hv0 : v < 0
        · simp [Ba_script_Call_bare, g31, g30, g29, g1', g4, hlt, show (k : Int) < 3 by omega, hi1, hv0]
          exact ⟨k, hlt, by rw [hb]; simp; omega⟩
        · by_cases hvm : m < v
          · simp [Ba_script_Call_bare, g31, g30, g29, g1', g4, hlt, show (k : Int) < 3 by omega, hi1, hv0, hr1, hr2, hvm]
            exact ⟨k, hlt, by rw [hb]; simp; omega⟩
          · simp [Ba_script_Call_bare, g31, g30, g29, g1', g4, hlt, show (k : Int) < 3 by omega, hi1, hv0, hr1, hr2, hvm, w2]
            intro i hi
            by_cases e : i = k
            · subst e; rw [hb]; simp; omega
            · exact hall i (by omega)
      · have : k = 3 := by omega
        subst this
        simp [Ba_script_Call_bare, g31, g30]
        exact hall)
  exact ⟨e, fr', rfl, hp⟩
theorem bare_right (c : DC) (hd : 0 ≤ c.d ∧ c.d ≤ 4) : rightI c = (bareOk c 0 && bareOk c 1 && bareOk c 2) := by
  obtain ⟨d, t, n, b⟩ := c
  simp only at hd
  rw [Bool.eq_iff_iff]
  rcases (show d = 0 ∨ d = 1 ∨ d = 2 ∨ d = 3 ∨ d = 4 by omega) with rfl | rfl | rfl | rfl | rfl <;> simp [rightI, bareOk, partsC, mostD] <;> omega
theorem ok_bare (L : Lim) (h : AHeap) (c : DC) : acall ctx L i_script_Call_bare [.agg (caC c)] h = some (.bool (rightI c), h) := by
  rw [call_script_Call_bare]
  by_cases hd : 0 ≤ c.d ∧ c.d ≤ 4
  · have e : ([[AVal.vsl true (eI .i64 [255, 0, 65535])], [.vsl true (eI .i64 [0, 65535, 0])], [.vsl true (eI .i64 [0, 65535, 0])], [.vsl true (eI .i64 [0, 0, 0])], [.vsl true (eI .i64 [0, 0, 0])]] : List (List AVal)) = mostD.map fun l => [.vsl true (eI .i64 l)] := rfl
    simp only [caC]
    simp [C_script_Call_bare, show ¬ c.d < 0 by omega, show ¬ 4 < c.d by omega, fillA, rep, AVal.cells, AVal.okV, chunks, setAt]
    generalize hF : run ctx _ (.loop _) _ _ = R
    obtain ⟨e, fr', rfl, ⟨rfl, hall⟩ | ⟨rfl, h2, i, hi, hno⟩⟩ := loop_bare hF c hd (by simp [caC]) (by simp [mostV, mostD, eI]) (by simp [partsC, eI]) (by simp) (by simp)
    · simp [bare_right c hd, hall 0, hall 1, hall 2]
    · simp [h2]
      rw [bare_right c hd]
      rcases (show i = 0 ∨ i = 1 ∨ i = 2 by omega) with rfl | rfl | rfl <;> simp [hno]
  · have hr : rightI c = false := by
      unfold rightI
      rw [if_neg (by omega), if_neg (by omega), if_neg (by omega)]
    rw [hr]
    simp only [caC]
    by_cases h0 : c.d < 0
    · simp [C_script_Call_bare, h0, fillA, rep, AVal.cells, AVal.okV, chunks, setAt]
    · simp [C_script_Call_bare, h0, show 4 < c.d by omega, fillA, rep, AVal.cells, AVal.okV, chunks, setAt]
theorem ok_notbare (L : Lim) (h : AHeap) (c : DC) : acall ctx L i_script_Encode_1 [.agg (caC c)] h = some (.bool (!rightI c), h) := by
  rw [call_script_Encode_1]
  have hb := ok_bare
  simp only [caC] at hb ⊢
  simp [C_script_Encode_1, hb, partAB]
theorem iadr_ca (cs : List DC) (k : Nat) (c : DC) (b : Bool) (hc : cs[k]? = some c) : iadrA none 4 (.vsl b (cs.map caC)) (.int .i64 (k : Int)) = some (.vptr (caC c) 0) := by
  have hm : (cs.map caC)[k]? = some (caC c) := by rw [List.getElem?_map, hc]; rfl
  simp only [iadrA, asI, bind, Option.bind_some, Int.toNat_natCast, hm]
  rfl
theorem loop_Index {fr : Fr} {h : AHeap} {R : Option (AEx × Fr × AHeap)} (hF : run ctx (limP h) (.loop Ba_slices_IndexFuncscript_Call_script_Call) fr (hx h [] []) = R) (cs : List DC) (hl : cs.length ≤ 1000000)
    (h0 : fr 0 = .vsl false (cs.map caC)) (h1 : fr 1 = .fn (.func i_script_Encode_1) [] []) (h7 : fr 7 = .int .i64 cs.length) (h8 : fr 8 = .int .i64 0) :
    ∃ e fr', R = some (e, fr', hx h [] []) ∧ (e = .exit 0 ∧ (∀ c ∈ cs, rightI c = true) ∨ e = .ret ∧ fr' 4 = .int .i64 (cs.findIdx fun c => !rightI c) ∧ ∃ c ∈ cs, rightI c = false) := by
  obtain ⟨e, fr', h', rfl, ⟨rfl, hp⟩, hk⟩ := loop_rule hF cs.length
    (fun k fr hh => fr 8 = .int .i64 k ∧ (∀ c ∈ cs.take k, rightI c = true) ∧ hh = hx h [] [])
    (fun e fr hh => hh = hx h [] [] ∧ (e = .exit 0 ∧ (∀ c ∈ cs, rightI c = true) ∨ e = .ret ∧ fr 4 = .int .i64 (cs.findIdx fun c => !rightI c) ∧ ∃ c ∈ cs, rightI c = false))
    ⟨h8, by simp, rfl⟩ (by
      rintro k fr1 hh hkN hkeep ⟨g8, hall, rfl⟩
      have g0 := (hkeep 0 (by decide)).trans h0
      have g1 := (hkeep 1 (by decide)).trans h1
      have g7 := (hkeep 7 (by decide)).trans h7
      by_cases hlt : k < cs.length
      · obtain ⟨c, hc⟩ : ∃ c, cs[k]? = some c := ⟨cs[k], List.getElem?_eq_getElem hlt⟩
        have hi := iadr_ca cs k c false hc
        have hnb := fun L h => ok_notbare L h c
        have hpa : partA true (caC c) 0 4 = some (.agg (caC c)) := partAB _ _ rfl
        have w2 : IntKind.i64.wrap ((k : Int) + 1) = k + 1 := wrap_i64 (by omega) (by omega)
        cases hr : rightI c with
        | true =>
          rw [hr] at hnb
          simp [Ba_slices_IndexFuncscript_Call_script_Call, g8, g7, g0, g1, hlt, hi, hpa, hnb, w2, -List.map_take]
          intro x hx
          rw [List.take_add_one, hc, List.mem_append] at hx
          rcases hx with hx | hx
          · exact hall x hx
          · obtain rfl : x = c := by simpa using hx
            exact hr
        | false =>
          rw [hr] at hnb
          simp [Ba_slices_IndexFuncscript_Call_script_Call, g8, g7, g0, g1, hlt, hi, hpa, hnb, w2]
          have hfi : cs.findIdx (fun c => !rightI c) = k := by
            rw [List.findIdx_eq hlt]
            have e : cs[k] = c := by rw [List.getElem?_eq_getElem hlt] at hc; exact Option.some.inj hc
            refine ⟨by rw [e, hr]; rfl, fun j hj => ?_⟩
            rw [hall (cs[j]) (List.mem_of_getElem? (i := j) (by rw [List.getElem?_take_of_lt hj, List.getElem?_eq_getElem]))]
            rfl
          exact ⟨by rw [hfi], c, List.mem_of_getElem? hc, hr⟩
      · have : k = cs.length := by omega
        subst this
        rw [List.take_length] at hall
        simp [Ba_slices_IndexFuncscript_Call_script_Call, g8, g7]
        exact hall)
  exact ⟨e, fr', rfl, hp⟩
theorem ok_IndexF (L : Lim) (h : AHeap) (cs : List DC) (hl : cs.length ≤ 1000000) : acall ctx L i_slices_IndexFuncscript_Call_script_Call [.vsl false (cs.map caC), .fn (.func i_script_Encode_1) [] []] h =
    some (.int .i64 (if (cs.any fun c => !rightI c) = true then ((cs.findIdx fun c => !rightI c : Nat) : Int) else -1), h) := by
  rw [call_slices_IndexFuncscript_Call_script_Call]
  have hfz : ∀ h, fzA h (.fn (.func i_script_Encode_1) [] []) = some (.fn (.func i_script_Encode_1) [] [], false) := fun h => by simp [fzA]
  simp [C_slices_IndexFuncscript_Call_script_Call, hfz]
  generalize hF : run ctx _ (.loop _) _ _ = R
  obtain ⟨e, fr', rfl, ⟨rfl, hall⟩ | ⟨rfl, h4, c, hc, hr⟩⟩ := loop_Index hF cs hl (by simp) (by simp) (by simp) (by simp)
  · have : ¬ ∃ x, x ∈ cs ∧ rightI x = false := fun ⟨x, hx, e⟩ => by rw [hall x hx] at e; simp at e
    simp [this]
  · have : ∃ x, x ∈ cs ∧ rightI x = false := ⟨c, hc, hr⟩
    simp [this, h4]
theorem ok_Contains (L : Lim) (h : AHeap) (cs : List DC) (hl : cs.length ≤ 1000000) : acall ctx L i_slices_ContainsFuncscript_Call_script_Call [.vsl false (cs.map caC), .fn (.func i_script_Encode_1) [] []] h = some (.bool (cs.any fun c => !rightI c), h) := by
  have hix := fun L h => ok_IndexF L h cs hl
  have hfz : ∀ h, fzA h (.fn (.func i_script_Encode_1) [] []) = some (.fn (.func i_script_Encode_1) [] [], false) := fun h => by simp [fzA]
  rw [call_slices_ContainsFuncscript_Call_script_Call]
  cases hb : cs.any fun c => !rightI c with
  | true =>
    rw [hb] at hix
    simp only [if_true] at hix
    simp [C_slices_ContainsFuncscript_Call_script_Call, hix, hfz]
  | false =>
    rw [hb] at hix
    simp only [Bool.false_eq_true, if_false] at hix
    simp [C_slices_ContainsFuncscript_Call_script_Call, hix, hfz]
end Go.Av

namespace Go.Av
set_option maxHeartbeats 2000000
set_option maxRecDepth 20000
set_option linter.unusedSimpArgs false
set_option linter.unusedVariables false
def encCI (c : DC) : List Int := IntKind.u8.wrap c.d :: (if c.d = 0 then IntKind.u8.wrap c.t :: (le c.b.length 2 ++ c.b) else if c.d = 1 ∨ c.d = 2 then le c.n 2 else [])
def encSI (bk : Int) (p : List Int) (cs : List DC) : List Int := IntKind.u8.wrap bk :: (le p.length 2 ++ (p ++ cs.flatMap encCI))
theorem encCI_len (c : DC) : (encCI c).length ≤ 4 + c.b.length := by
  unfold encCI; split <;> (try split) <;> simp <;> omega
theorem shr8 (n : Int) : shiftA .shr .i64 n 8 = some (.int .i64 (n.fdiv 256)) := by
  rw [shrB .i64 n 8 (by decide)]
  rfl
theorem ok_two_new (L : Lim) (h : AHeap) (b0 : List Int) (n : Int) (hb : b0.length < 200000000000) :
    acall ctx L i_script_two [.vsl true (eI .u8 b0), .int .i64 n] h = some (.gsl h.toks.length (eI .u8 (b0 ++ le n 2)), ptok h (b0.length + 2)) := by
  rw [call_script_two]
  simp [C_script_two, shr8, fillA, rep, AVal.cells, AVal.okV, chunks, setAt, eI_one, eI_cons, appK_full, maxRoom, show b0.length + 2 < 274877906944 by omega, retA_new, le_two]
theorem ok_two_old (L : Lim) (h : AHeap) (t : Nat) (b0 : List Int) (n : Int) (hb : b0.length < 200000000000) (hb0 : 0 < b0.length) (hL : L.rot ≤ t) (ht : h.toks[t]? = some b0.length) :
    acall ctx L i_script_two [.gsl t (eI .u8 b0), .int .i64 n] h = some (.gsl t (eI .u8 (b0 ++ le n 2)), setT h t (b0.length + 2)) := by
  rw [call_script_two]
  have hlt0 := (List.getElem?_eq_some_iff.1 ht).1
  have ha := appK_old ⟨L.rob, L.rot, h.blks.length, h.toks.length⟩ h [] [] 1 t true (eI .u8 b0) (eI .u8 (le n 2)) (by simpa using ht) (by simp [maxRoom, hL]; omega)
  simp only [eI_append, eI_len, le_len] at ha
  simp [C_script_two, shr8, fillA, rep, AVal.cells, AVal.okV, chunks, setAt, eI_one, eI_cons, ← le_two, ha, retA_old, hlt0]
theorem ok_twoN (L : Lim) (h : AHeap) (bs : List (List AVal)) (ts : List Nat) (b0 : List Int) (n : Int) (hc : decide (b0.length < 200000000000) = true) :
    acall ctx L i_script_two [.vsl true (eI .u8 b0), .int .i64 n] (hx h bs ts) = some (gA h.toks.length ts.length (eI .u8 (b0 ++ le n 2)), hx h bs (ts ++ [b0.length + 2])) := by
  rw [ok_two_new L (hx h bs ts) b0 n (by simpa using hc), ptok_hx, hx_toks]
  rfl
theorem ok_twoO (L : Lim) (h : AHeap) (bs : List (List AVal)) (ts : List Nat) (i : Nat) (b0 : List Int) (n : Int)
    (hc : (decide (b0.length < 200000000000) && decide (0 < b0.length) && decide (L.rot ≤ h.toks.length) && (ts[i]? == some b0.length)) = true) :
    acall ctx L i_script_two [gA h.toks.length i (eI .u8 b0), .int .i64 n] (hx h bs ts) = some (gA h.toks.length i (eI .u8 (b0 ++ le n 2)), hx h bs (ts.set i (b0.length + 2))) := by
  simp only [Bool.and_eq_true, decide_eq_true_eq, beq_iff_eq] at hc
  obtain ⟨⟨⟨c2, c3⟩, c4⟩, c5⟩ := hc
  have ht : (hx h bs ts).toks[h.toks.length + i]? = some b0.length := by
    simp only [hx]; rw [List.getElem?_append_right (Nat.le_add_right _ _), Nat.add_sub_cancel_left]; exact c5
  unfold gA
  rw [ok_two_old L (hx h bs ts) (h.toks.length + i) b0 n c2 c3 (by omega) ht, setT_hx]
/-- What is known of a script. -/
def ScOk (p : List Int) (cs : List DC) : Prop := p.length ≤ 100000 ∧ cs.length ≤ 100000 ∧ ∀ c ∈ cs, c.b.length ≤ 100000
theorem enc_len (cs : List DC) (h : ∀ c ∈ cs, c.b.length ≤ 100000) (k : Nat) : ((cs.take k).flatMap encCI).length ≤ 100004 * k := by
  induction cs generalizing k with
  | nil => simp
  | cons c cs ih =>
    cases k with
    | zero => simp
    | succ k =>
      have h1 := ih (fun x hx => h x (by simp [hx])) k
      have h2 := encCI_len c
      have h3 := h c (by simp)
      simp only [List.take_succ_cons, List.flatMap_cons, List.length_append]
      omega
theorem enc_snoc (cs : List DC) (k : Nat) (c : DC) (h : cs[k]? = some c) : (cs.take (k + 1)).flatMap encCI = (cs.take k).flatMap encCI ++ encCI c := by
  rw [List.take_add_one, h]; simp
def accE (A : List Int) (cs : List DC) (k : Nat) : List Int := A ++ (cs.take k).flatMap encCI
theorem accE_zero (A : List Int) (cs : List DC) : accE A cs 0 = A := by simp [accE]
theorem accE_all (A : List Int) (cs : List DC) : accE A cs cs.length = A ++ cs.flatMap encCI := by simp [accE]
theorem accE_succ (A : List Int) (cs : List DC) (k : Nat) (c : DC) (h : cs[k]? = some c) : accE A cs (k + 1) = accE A cs k ++ encCI c := by
  unfold accE; rw [enc_snoc cs k c h, List.append_assoc]
theorem loop_Enc {fr : Fr} {h : AHeap} {n0 : Nat} {R : Option (AEx × Fr × AHeap)} (hF : run ctx (limP h) (.loop Ba_script_Encode) fr (hx h [] [n0]) = R) (A : List Int) (cs : List DC) (hcs : ∀ c ∈ cs, c.b.length ≤ 100000) (hl : cs.length ≤ 200) (hA : A.length ≤ 1000000) (hA0 : 0 < A.length) (hn0 : n0 = A.length)
    (h4 : fr 4 = gA h.toks.length 0 (eI .u8 A)) (h42 : fr 42 = .vsl false (cs.map caC)) (h43 : fr 43 = .int .i64 cs.length) (h44 : fr 44 = .int .i64 0) :
    ∃ fr' bs, R = some (.exit 0, fr', hx h bs [(accE A cs cs.length).length]) ∧ fr' 4 = gA h.toks.length 0 (eI .u8 (accE A cs cs.length)) := by
  obtain ⟨e, fr', h', rfl, ⟨bs, rfl, rfl, hp⟩, hk⟩ := loop_rule hF cs.length
    (fun k fr hh => fr 44 = .int .i64 k ∧ fr 4 = gA h.toks.length 0 (eI .u8 (accE A cs k)) ∧ ∃ bs, hh = hx h bs [(accE A cs k).length])
    (fun e fr hh => ∃ bs, hh = hx h bs [(accE A cs cs.length).length] ∧ e = .exit 0 ∧ fr 4 = gA h.toks.length 0 (eI .u8 (accE A cs cs.length)))
    ⟨h44, by rw [accE_zero]; exact h4, [], by rw [accE_zero, hn0]⟩ (by
      rintro k fr1 hh hkN hkeep ⟨g44, g4, bs, rfl⟩
      have g42 := (hkeep 42 (by decide)).trans h42
      have g43 := (hkeep 43 (by decide)).trans h43
      by_cases hlt : k < cs.length
      · obtain ⟨c, hc⟩ : ∃ c, cs[k]? = some c := ⟨cs[k], List.getElem?_eq_getElem hlt⟩
        have hi := iadr_ca cs k c false hc
        have hbl := hcs c (List.mem_of_getElem? hc)
        have w2 : IntKind.i64.wrap ((k : Int) + 1) = k + 1 := wrap_i64 (by omega) (by omega)
        have hTl := enc_len cs hcs k
        have hsn := accE_succ A cs k c hc
        have hTn : (accE A cs k).length ≤ 30000000 ∧ 0 < (accE A cs k).length := by
          unfold accE; rw [List.length_append]; omega
        generalize accE A cs k = T at *
        obtain ⟨hT1, hT2⟩ := hTn
        clear hTl
        obtain ⟨d, t, n, b⟩ := c
        simp only at hbl
        simp only [caC] at hi
        have r1 : T.length + 1 < 274877906944 := by omega
        have r2 : T.length + 1 + 1 < 274877906944 := by omega
        have r3 : T.length + 1 + 1 < 200000000000 := by omega
        have r4 : T.length + 1 + 1 + 2 + b.length < 274877906944 := by omega
        have r5 : T.length + 1 < 200000000000 := by omega
        by_cases h0 : d = 0
        · subst h0
          have e1 : accE A cs (k + 1) = T ++ 0 :: IntKind.u8.wrap t :: (le b.length 2 ++ b) := by rw [hsn]; simp [encCI]
          simp [Ba_script_Encode, g44, g43, g42, g4, hlt, hi, w2, partAB, stKB, limP, setAtB, fillA, rep, AVal.cells, AVal.okV, chunks, setAt, eI_one, eI_cons, appK_gA, maxRoom, ok_twoO, hT2, r1, r2, r3, r4]
          rw [e1]
          exact ⟨rfl, _, congrArg (fun n => hx h _ [n]) (by simp only [List.length_append, List.length_cons, List.length_nil, le_len] <;> omega)⟩
        · have b0 : (d == 0) = false := by simpa using h0
          by_cases h1 : d = 1
          · subst h1
            have e1 : accE A cs (k + 1) = T ++ IntKind.u8.wrap 1 :: le n 2 := by rw [hsn]; simp [encCI]
            simp [Ba_script_Encode, g44, g43, g42, g4, hlt, hi, w2, partAB, stKB, limP, setAtB, fillA, rep, AVal.cells, AVal.okV, chunks, setAt, eI_one, eI_cons, appK_gA, maxRoom, ok_twoO, hT2, r1, r5]
            rw [e1]
            exact ⟨rfl, _, congrArg (fun n => hx h _ [n]) (by simp only [List.length_append, List.length_cons, List.length_nil, le_len] <;> omega)⟩
          · have b1 : (d == 1) = false := by simpa using h1
            by_cases h2 : d = 2
            · subst h2
              have e1 : accE A cs (k + 1) = T ++ IntKind.u8.wrap 2 :: le n 2 := by rw [hsn]; simp [encCI]
              simp [Ba_script_Encode, g44, g43, g42, g4, hlt, hi, w2, partAB, stKB, limP, setAtB, fillA, rep, AVal.cells, AVal.okV, chunks, setAt, eI_one, eI_cons, appK_gA, maxRoom, ok_twoO, hT2, r1, r5]
              rw [e1]
              exact ⟨rfl, _, congrArg (fun n => hx h _ [n]) (by simp only [List.length_append, List.length_cons, List.length_nil, le_len] <;> omega)⟩
            · have b2 : (d == 2) = false := by simpa using h2
              have e1 : accE A cs (k + 1) = T ++ [IntKind.u8.wrap d] := by rw [hsn]; simp [encCI, h0, h1, h2]
              simp [Ba_script_Encode, g44, g43, g42, g4, hlt, hi, w2, partAB, stKB, limP, setAtB, fillA, rep, AVal.cells, AVal.okV, chunks, setAt, eI_one, eI_cons, appK_gA, maxRoom, ok_twoO, hT2, r1, r5, b0, b1, b2]
              rw [e1]
              exact ⟨rfl, _, congrArg (fun n => hx h _ [n]) (by simp only [List.length_append, List.length_cons, List.length_nil, le_len] <;> omega)⟩
      · have : k = cs.length := by omega
        subst this
        simp [Ba_script_Encode, g44, g43, g4]
        exact ⟨_, rfl⟩)
  exact ⟨fr', bs, rfl, hp⟩
/-- What a script's bytes are, or that it has none. -/
def resE (bk : Int) (p : List Int) (cs : List DC) : AVal :=
  if bk < 0 ∨ bk > 255 ∨ p.length > 65535 ∨ (cs.any fun c => !rightI c) = true then .tup [.vsl false [], .int .i64 1]
  else if cs.length > 200 then .tup [.vsl false [], .int .i64 9]
  else .tup [.vsl false (eI .u8 (encSI bk p cs)), .int .i64 0]
theorem ok_Enc (L : Lim) (h : AHeap) (bk : Int) (p : List Int) (cs : List DC) (hok : ScOk p cs) : acall ctx L i_script_Encode [.agg (scC bk p cs)] h = some (resE bk p cs, h) := by
  rw [call_script_Encode]
  obtain ⟨hp, hc, hb⟩ := hok
  have hcon := fun L h => ok_Contains L h cs (by omega)
  simp only [scC]
  by_cases c1 : bk < 0
  · have e : resE bk p cs = .tup [.vsl false [], .int .i64 1] := by unfold resE; rw [if_pos (.inl c1)]
    rw [e]
    simp [C_script_Encode, c1]
  · by_cases c2 : 255 < bk
    · have e : resE bk p cs = .tup [.vsl false [], .int .i64 1] := by unfold resE; rw [if_pos (.inr (.inl c2))]
      rw [e]
      simp [C_script_Encode, c1, c2]
    · by_cases c3 : 65535 < p.length
      · have e : resE bk p cs = .tup [.vsl false [], .int .i64 1] := by unfold resE; rw [if_pos (.inr (.inr (.inl c3)))]
        rw [e]
        simp [C_script_Encode, c1, c2, show (65535 : Int) < p.length by omega]
      · have d3 : ¬ (65535 : Int) < p.length := by omega
        cases hany : cs.any fun c => !rightI c with
        | true =>
          rw [hany] at hcon
          have e : resE bk p cs = .tup [.vsl false [], .int .i64 1] := by unfold resE; rw [if_pos (.inr (.inr (.inr hany)))]
          rw [e]
          simp [C_script_Encode, c1, c2, d3, hcon]
        | false =>
          rw [hany] at hcon
          have hno : ¬ (bk < 0 ∨ bk > 255 ∨ p.length > 65535 ∨ (cs.any fun c => !rightI c) = true) := by
            rw [hany]; simp; omega
          by_cases c4 : 200 < cs.length
          · have e : resE bk p cs = .tup [.vsl false [], .int .i64 9] := by unfold resE; rw [if_neg hno, if_pos c4]
            rw [e]
            simp [C_script_Encode, c1, c2, d3, hcon, show (200 : Int) < cs.length by omega]
          · have e : resE bk p cs = .tup [.vsl false (eI .u8 (encSI bk p cs)), .int .i64 0] := by unfold resE; rw [if_neg hno, if_neg c4]
            rw [e]
            simp [C_script_Encode, c1, c2, d3, hcon, show ¬ (200 : Int) < cs.length by omega, fillA, rep, AVal.cells, AVal.okV, chunks, setAt, eI_one, eI_cons, ok_twoN, appK_gA, limP, maxRoom, show 1 + 2 + p.length < 274877906944 by omega]
            generalize hF : run ctx _ (.loop _) _ _ = R
            obtain ⟨fr', bs, rfl, h4⟩ := loop_Enc hF (IntKind.u8.wrap bk :: (le p.length 2 ++ p)) cs hb (by omega) (by simp; omega) (by simp) (by simp; omega) (by simp) (by simp) (by simp) (by simp)
            have e2 : accE (IntKind.u8.wrap bk :: (le p.length 2 ++ p)) cs cs.length = encSI bk p cs := by rw [accE_all]; simp [encSI]
            rw [e2] at h4
            simp [h4]
end Go.Av

namespace Go.Av
set_option maxHeartbeats 2000000
set_option maxRecDepth 20000
set_option linter.unusedSimpArgs false
set_option linter.unusedVariables false
theorem tmodL (k m : Nat) : (k : Int).tmod (m : Int) = ((k % m : Nat) : Int) := by rw [Int.tmod_eq_emod_of_nonneg (by omega)]; omega
theorem tdivL (k m : Nat) : (k : Int).tdiv (m : Int) = ((k / m : Nat) : Int) := by rw [Int.tdiv_eq_ediv_of_nonneg (by omega)]; omega
theorem wrapN (n : Nat) (h : n < 9223372036854775808) : IntKind.i64.wrap (n : Int) = n := wrap_i64 (by omega) (by omega)
theorem loop_RNum {L : Lim} {fr : Fr} {h : AHeap} {R : Option (AEx × Fr × AHeap)} (hF : run ctx L (.loop Ba_avouchref12zNumber) fr (hx h [] []) = R) (n m : Nat) (hm : m ≤ 8) (hn : n < 9223372036854775808) (hL : L.rot ≤ h.toks.length)
    (h5 : fr 5 = .vsl true []) (h0 : fr 0 = .int .i64 n) (h1 : fr 1 = .int .i64 m) (h6 : fr 6 = .int .i64 0) :
    ∃ fr', R = some (.exit 0, fr', hx h [] (gT (eI .u8 (le n m)))) ∧ fr' 5 = gL (.vsl true []) h.toks.length 0 (eI .u8 (le n m)) := by
  obtain ⟨e, fr', h', rfl, ⟨rfl, rfl, h3'⟩, hk⟩ := loop_rule hF m
    (fun k fr hh => fr 6 = .int .i64 k ∧ fr 0 = .int .i64 ((n / 256 ^ k : Nat) : Int) ∧ fr 5 = gL (.vsl true []) h.toks.length 0 (eI .u8 (le n k)) ∧ hh = hx h [] (gT (eI .u8 (le n k))))
    (fun e fr hh => e = .exit 0 ∧ hh = hx h [] (gT (eI .u8 (le n m))) ∧ fr 5 = gL (.vsl true []) h.toks.length 0 (eI .u8 (le n m)))
    ⟨h6, by simpa using h0, h5, rfl⟩ (by
      rintro k fr1 hh hkN hkeep ⟨g6, g0, g5, rfl⟩
      have g1 := (hkeep 1 (by decide)).trans h1
      by_cases hlt : k < m
      · have w1 : IntKind.i64.wrap ((k : Int) + 1) = k + 1 := wrap_i64 (by omega) (by omega)
        have hle : n / 256 ^ k ≤ n := Nat.div_le_self _ _
        have w2 : (((n / 256 ^ k : Nat) : Int)).tmod 256 = ((n / 256 ^ k % 256 : Nat) : Int) := tmodL (n / 256 ^ k) 256
        have w3 : (((n / 256 ^ k : Nat) : Int)).tdiv 256 = ((n / 256 ^ (k + 1) : Nat) : Int) := by
          rw [Nat.pow_succ, ← Nat.div_div_eq_div_mul]; exact tdivL (n / 256 ^ k) 256
        have w4 : IntKind.i64.wrap ((n / 256 ^ (k + 1) : Nat) : Int) = ((n / 256 ^ (k + 1) : Nat) : Int) := wrapN _ (Nat.lt_of_le_of_lt (Nat.div_le_self _ _) hn)
        have w5 : le n (k + 1) = le n k ++ [IntKind.u8.wrap ((n / 256 ^ k % 256 : Nat) : Int)] := by
          rw [le]
          congr 2
          rw [Int.fdiv_eq_ediv_of_nonneg _ (Int.pow_nonneg (by decide))]
          have e1 : (n : Int) / 2 ^ (8 * k) = ((n / 256 ^ k : Nat) : Int) := by
            rw [Int.natCast_ediv, Int.natCast_pow, Int.pow_mul]; rfl
          rw [e1]
          unfold IntKind.wrap
          simp [IntKind.signed, IntKind.bits]
        generalize n / 256 ^ k % 256 = d at *
        generalize n / 256 ^ k = q at *
        generalize hq1 : n / 256 ^ (k + 1) = q1 at *
        simp [Ba_avouchref12zNumber, g6, g0, g1, g5, hlt, w1, w2, w3, w4, w5, bin_rem, bin_quo, fillA, rep, AVal.cells, AVal.okV, chunks, eI_one, appK_cV, maxRoom, hL, show k + 1 < 274877906944 by omega]
        rw [← hq1, Int.natCast_ediv, Int.natCast_pow]; rfl
      · have : k = m := by omega
        subst this
        simp [Ba_avouchref12zNumber, g6, g0, g1, g5])
  exact ⟨fr', rfl, h3'⟩
theorem ok_RNum (L : Lim) (h : AHeap) (n : Int) (hc : (decide (0 ≤ n) && decide (n < 9223372036854775808)) = true) :
    acall ctx L i_avouchref12zNumber [.int .i64 n, .int .i64 2] h = some (.vsl false (eI .u8 (le n 2)), h) := by
  simp only [Bool.and_eq_true, decide_eq_true_eq] at hc
  obtain ⟨k, rfl⟩ : ∃ k : Nat, n = k := ⟨n.toNat, by omega⟩
  rw [call_avouchref12zNumber]
  have hne : eI .u8 (le (k : Int) 2) ≠ [] := fun e => by have := congrArg List.length e; simp at this
  simp [C_avouchref12zNumber, rep, chunks, fillA]
  generalize hF : run ctx _ (.loop _) _ _ = R
  obtain ⟨fr', rfl, h3⟩ := loop_RNum hF k 2 (by omega) (by omega) (by simp [limP]) (by simp) (by simp) (by simp) (by simp)
  simp [h3, gL, hne, gT]
/-- The document's loop: all are right, or one is not. -/
theorem loop_REnc {fr : Fr} {h : AHeap} {ts0 : List Nat} {i0 : Nat} {R : Option (AEx × Fr × AHeap)} (hF : run ctx (limP h) (.loop Ba_avouchref19zEncode) fr (hx h [] ts0) = R) (A : List Int) (bk : Int) (p : List Int) (cs : List DC) (hcs : ∀ c ∈ cs, c.b.length ≤ 100000) (hl : cs.length ≤ 100000) (hA : A.length ≤ 1000000) (hA0 : 0 < A.length) (hn0 : ts0[i0]? = some A.length)
    (h4 : fr 4 = gA h.toks.length i0 (eI .u8 A)) (h1 : fr 1 = .vptr (scC bk p cs) 0) (h5 : fr 5 = .int .i64 0) :
    ∃ e fr' bs ts, R = some (e, fr', hx h bs ts) ∧ (e = .exit 0 ∧ (∀ c ∈ cs, rightI c = true) ∧ fr' 1 = fr 1 ∧ fr' 4 = gA h.toks.length i0 (eI .u8 (accE A cs cs.length)) ∨ e = .ret ∧ (∃ c ∈ cs, rightI c = false) ∧ fr' 2 = .nsl ∧ fr' 3 = .int .i64 1) := by
  obtain ⟨e, fr', h', rfl, ⟨bs, ts, rfl, hp⟩, hk⟩ := loop_rule hF cs.length
    (fun k fr hh => fr 5 = .int .i64 k ∧ fr 4 = gA h.toks.length i0 (eI .u8 (accE A cs k)) ∧ (∀ c ∈ cs.take k, rightI c = true) ∧ ∃ bs ts, hh = hx h bs ts ∧ ts[i0]? = some (accE A cs k).length)
    (fun e fr1 hh => ∃ bs ts, hh = hx h bs ts ∧ (e = .exit 0 ∧ (∀ c ∈ cs, rightI c = true) ∧ fr1 1 = fr 1 ∧ fr1 4 = gA h.toks.length i0 (eI .u8 (accE A cs cs.length)) ∨ e = .ret ∧ (∃ c ∈ cs, rightI c = false) ∧ fr1 2 = .nsl ∧ fr1 3 = .int .i64 1))
    ⟨h5, by rw [accE_zero]; exact h4, by simp, [], ts0, by simp, by rw [accE_zero, hn0]⟩ (by
      rintro k fr1 hh hkN hkeep ⟨g5, g4, hall, bs, ts, rfl, hts⟩
      have g1 := (hkeep 1 (by decide)).trans h1
      simp only [scC] at g1
      by_cases hlt : k < cs.length
      · obtain ⟨c, hc⟩ : ∃ c, cs[k]? = some c := ⟨cs[k], List.getElem?_eq_getElem hlt⟩
        have hi := iadr_ca cs k c false hc
        have hbl := hcs c (List.mem_of_getElem? hc)
        have hrt := fun L h => ok_right L h c
        have w2 : IntKind.i64.wrap ((k : Int) + 1) = k + 1 := wrap_i64 (by omega) (by omega)
        by_cases hr : rightI c = false
        · obtain ⟨d, t, n, b⟩ := c
          simp only [caC] at hi hrt
          rw [hr] at hrt
          simp [Ba_avouchref19zEncode, g5, g4, g1, hlt, hi, w2, partAB, stKB, limP, setAtB, hrt]
          exact ⟨⟨_, _, rfl⟩, _, List.mem_of_getElem? hc, hr⟩
        · replace hr : rightI c = true := by simpa using hr
          have hall2 : ∀ x ∈ cs.take (k + 1), rightI x = true := fun x hx => by
            rw [List.take_add_one, hc, List.mem_append] at hx
            rcases hx with hx | hx
            · exact hall x hx
            · obtain rfl : x = c := by simpa using hx
              exact hr
          have htset : ∀ n : Nat, (ts.set i0 n)[i0]? = some n := fun n => List.getElem?_set_self (List.getElem?_eq_some_iff.1 hts).1
          have hTl := enc_len cs hcs k
          have hsn := accE_succ A cs k c hc
          have hTn : (accE A cs k).length ≤ 100000000000 ∧ 0 < (accE A cs k).length := by
            unfold accE; rw [List.length_append]; omega
          generalize accE A cs k = T at *
          obtain ⟨hT1, hT2⟩ := hTn
          clear hTl
          obtain ⟨d, t, n, b⟩ := c
          simp only at hbl
          simp only [caC] at hi hrt
          rw [hr] at hrt
          have r1 : T.length + 1 < 274877906944 := by omega
          have r2 : T.length + 1 + 1 < 274877906944 := by omega
          have r3 : T.length + 1 + 1 + 2 < 274877906944 := by omega
          have r4 : T.length + 1 + 1 + 2 + b.length < 274877906944 := by omega
          have r5 : T.length + 1 + 2 < 274877906944 := by omega
          have r6 : (b.length : Int) < 9223372036854775808 := by omega
          by_cases h0 : d = 0
          · subst h0
            have e1 : accE A cs (k + 1) = T ++ 0 :: IntKind.u8.wrap t :: (le b.length 2 ++ b) := by rw [hsn]; simp [encCI]
            simp [Ba_avouchref19zEncode, g5, g4, g1, hlt, hi, w2, partAB, stKB, limP, setAtB, hrt, fillA, rep, AVal.cells, AVal.okV, chunks, setAt, eI_one, eI_cons, appK_gA, maxRoom, ok_RNum, hts, htset, hT2, r1, r2, r3, r4, r5, r6]
            rw [e1]
            exact ⟨rfl, hall2, _, _, rfl, by rw [htset]; simp only [List.length_append, List.length_cons, List.length_nil, le_len] <;> congr 1 <;> omega⟩
          · have b0 : (d == 0) = false := by simpa using h0
            by_cases h12 : d = 1 ∨ d = 2
            · have hn : 0 ≤ n ∧ n ≤ 65535 := by
                unfold rightI at hr
                rw [if_neg h0, if_pos h12] at hr
                simp at hr
                omega
              have r7 : n < 9223372036854775808 := by omega
              have hn0 := hn.1
              have e1 : accE A cs (k + 1) = T ++ IntKind.u8.wrap d :: le n 2 := by rw [hsn]; simp [encCI, h0, h12]
              have hc12 : d = 1 ∨ (d == 1) = false ∧ d = 2 := by rcases h12 with h | h <;> simp [h]
              rcases hc12 with rfl | ⟨b1, rfl⟩
              · simp [Ba_avouchref19zEncode, g5, g4, g1, hlt, hi, w2, partAB, stKB, limP, setAtB, hrt, fillA, rep, AVal.cells, AVal.okV, chunks, setAt, eI_one, eI_cons, appK_gA, maxRoom, ok_RNum, hts, htset, hT2, r1, r2, r3, r4, r5, r7, hn0]
                rw [e1]
                exact ⟨rfl, hall2, _, _, rfl, by rw [htset]; simp only [List.length_append, List.length_cons, List.length_nil, le_len] <;> congr 1 <;> omega⟩
              · simp [Ba_avouchref19zEncode, g5, g4, g1, hlt, hi, w2, partAB, stKB, limP, setAtB, hrt, fillA, rep, AVal.cells, AVal.okV, chunks, setAt, eI_one, eI_cons, appK_gA, maxRoom, ok_RNum, hts, htset, hT2, r1, r2, r3, r4, r5, r7, hn0]
                rw [e1]
                exact ⟨rfl, hall2, _, _, rfl, by rw [htset]; simp only [List.length_append, List.length_cons, List.length_nil, le_len] <;> congr 1 <;> omega⟩
            · have b1 : (d == 1) = false := by simp; omega
              have b2 : (d == 2) = false := by simp; omega
              have e1 : accE A cs (k + 1) = T ++ [IntKind.u8.wrap d] := by rw [hsn]; simp [encCI, h0, h12]
              simp [Ba_avouchref19zEncode, g5, g4, g1, hlt, hi, w2, partAB, stKB, limP, setAtB, hrt, fillA, rep, AVal.cells, AVal.okV, chunks, setAt, eI_one, eI_cons, appK_gA, maxRoom, ok_RNum, hts, htset, hT2, r1, r2, r3, r4, b0, b1, b2]
              rw [e1]
              exact ⟨rfl, hall2, _, _, rfl, by rw [htset]; simp only [List.length_append, List.length_cons, List.length_nil, le_len] <;> congr 1 <;> omega⟩
      · have : k = cs.length := by omega
        subst this
        rw [List.take_length] at hall
        simp [Ba_avouchref19zEncode, g5, g4, g1]
        exact ⟨⟨_, _, rfl⟩, hall, by rw [h1]; rfl⟩)
  exact ⟨e, fr', bs, ts, rfl, hp⟩
theorem ok_REnc (L : Lim) (h : AHeap) (bk : Int) (p : List Int) (cs : List DC) (hok : ScOk p cs) : acall ctx L i_avouchref19zEncode [.agg (scC bk p cs)] h = some (resE bk p cs, h) := by
  rw [call_avouchref19zEncode]
  obtain ⟨hp, hc, hb⟩ := hok
  have hin := ok_in
  have hsc : ∀ h, fzA h (.agg (scC bk p cs)) = some (.agg (scC bk p cs), false) := fun h => by simp [scC]
  by_cases c1 : 0 ≤ bk ∧ bk ≤ 255
  · by_cases c3 : 65535 < p.length
    · have e : resE bk p cs = .tup [.vsl false [], .int .i64 1] := by unfold resE; rw [if_pos (.inr (.inr (.inl c3)))]
      rw [e]
      simp only [scC]
      simp [C_avouchref19zEncode, c1, hin, show (65535 : Int) < p.length by omega]
    · have d3 : ¬ (65535 : Int) < p.length := by omega
      have r1 : 1 + 2 < 274877906944 := by omega
      have r2 : 1 + 2 + p.length < 274877906944 := by omega
      have r6 : (p.length : Int) < 9223372036854775808 := by omega
      simp only [scC]
      simp [C_avouchref19zEncode, c1, hin, d3, fillA, rep, AVal.cells, AVal.okV, chunks, setAt, eI_one, eI_cons, appK_gA, appK_full, ok_RNum, limP, maxRoom, r2, r6]
      generalize hF : run ctx _ (.loop _) _ _ = R
      obtain ⟨e, fr', bs, ts, rfl, ⟨rfl, hall, h1, h4⟩ | ⟨rfl, ⟨c, hc1, hc2⟩, h2, h3⟩⟩ := loop_REnc (i0 := 0) hF (IntKind.u8.wrap bk :: (le p.length 2 ++ p)) bk p cs hb hc (by simp; omega) (by simp) (by simp; omega) (by simp) (by simp [scC]) (by simp)
      · have hno : ¬ (bk < 0 ∨ bk > 255 ∨ p.length > 65535 ∨ (cs.any fun c => !rightI c) = true) := by
          have : ¬ (cs.any fun c => !rightI c) = true := by
            simp only [List.any_eq_true, not_exists, not_and, Bool.not_eq_true']
            intro x hx e
            rw [hall x hx] at e
            simp at e
          rintro (h | h | h | h)
          · omega
          · omega
          · omega
          · exact this h
        have e2 : accE (IntKind.u8.wrap bk :: (le p.length 2 ++ p)) cs cs.length = encSI bk p cs := by rw [accE_all]; simp [encSI]
        rw [e2] at h4
        by_cases c4 : 200 < cs.length
        · have e : resE bk p cs = .tup [.vsl false [], .int .i64 9] := by unfold resE; rw [if_neg hno, if_pos c4]
          rw [e]
          simp [h4, h1, show (200 : Int) < cs.length by omega]
        · have e : resE bk p cs = .tup [.vsl false (eI .u8 (encSI bk p cs)), .int .i64 0] := by unfold resE; rw [if_neg hno, if_neg c4]
          rw [e]
          simp [h4, h1, show ¬ (200 : Int) < cs.length by omega]
      · have e : resE bk p cs = .tup [.vsl false [], .int .i64 1] := by
          unfold resE
          rw [if_pos (.inr (.inr (.inr (List.any_eq_true.2 ⟨c, hc1, by rw [hc2]; rfl⟩))))]
        rw [e]
        simp [h2, h3]
  · have e : resE bk p cs = .tup [.vsl false [], .int .i64 1] := by
      unfold resE
      by_cases h0 : bk < 0
      · rw [if_pos (.inl h0)]
      · rw [if_pos (.inr (.inl (by omega)))]
    rw [e]
    have c1' : (decide (0 ≤ bk) && decide (bk ≤ 255)) = false := by simp; omega
    simp only [scC]
    simp [C_avouchref19zEncode, c1', hin]
end Go.Av

namespace Go.Av
set_option maxHeartbeats 2000000
set_option maxRecDepth 20000
set_option linter.unusedSimpArgs false
set_option linter.unusedVariables false
def pairI (l : List Nat) (at_ : Nat) : Int := match l.drop at_ with
  | x :: y :: _ => x + 256 * y
  | _ => -1
@[simp] theorem nI_len (l : List Nat) : (nI l).length = l.length := by simp [nI]
theorem iadr_nI (l : List Nat) (i : Nat) (x : Nat) (q : List Nat) (b : Bool) (h : l.drop i = x :: q) : iadrA none 1 (.vsl b (eI .u8 (nI l))) (.int .i64 (i : Int)) = some (.vptr [.int .u8 (x : Int)] 0) := by
  have hi : l[i]? = some x := by
    have := congrArg (fun m => m[0]?) h
    simpa using this
  have hlt := (List.getElem?_eq_some_iff.1 hi).1
  rw [iadr_eI .u8 .i64 b (nI l) i (by simpa using hlt)]
  have : gd (nI l) 0 i = (x : Int) := by simp [gd, nI, hi]
  rw [this]
theorem drop_next {l : List Nat} {i x : Nat} {q : List Nat} (h : l.drop i = x :: q) : l.drop (i + 1) = q := by
  rw [← List.drop_drop, h]; rfl
theorem drop_long {l : List Nat} {i : Nat} {q : List Nat} (h : l.drop i = q) (hi : i ≤ l.length) : l.length = i + q.length := by
  have := congrArg List.length h
  simp at this; omega
theorem ok_pair (L : Lim) (h : AHeap) (l : List Nat) (i : Nat) (hl : l.length ≤ 1000000) (hi : i ≤ 2000000) (hb : ∀ x ∈ l, x < 256) : acall ctx L i_avouchref19zpair [.vsl false (eI .u8 (nI l)), .int .i64 (i : Int)] h = some (.int .i64 (pairI l i), h) := by
  rw [call_avouchref19zpair]
  have w1 : IntKind.i64.wrap ((i : Int) + 2) = (i : Int) + 2 := wrap_i64 (by omega) (by omega)
  by_cases hlt : (i : Int) + 2 > l.length
  · have e : pairI l i = -1 := by
      unfold pairI
      split
      · rename_i x y q hq
        have := congrArg List.length hq
        simp at this; omega
      · rfl
    rw [e]
    simp [C_avouchref19zpair, w1, show (l.length : Int) < i + 2 by omega]
  · obtain ⟨x, y, q, hq⟩ : ∃ x y q, l.drop i = x :: y :: q := by
      rcases hd : l.drop i with _ | ⟨x, _ | ⟨y, q⟩⟩
      · have := congrArg List.length hd; simp at this; omega
      · have := congrArg List.length hd; simp at this; omega
      · exact ⟨x, y, q, rfl⟩
    have e : pairI l i = x + 256 * y := by unfold pairI; rw [hq]
    have i1 := iadr_nI l i x _ false hq
    have i2 := iadr_nI l (i + 1) y _ false (drop_next hq)
    have hx : x < 256 := hb x (List.mem_of_mem_drop (i := i) (by rw [hq]; simp))
    have hy : y < 256 := hb y (List.mem_of_mem_drop (i := i) (by rw [hq]; simp))
    have w2 : IntKind.i64.wrap ((i : Int) + 1) = ((i + 1 : Nat) : Int) := wrap_i64 (by omega) (by omega)
    have w3 : IntKind.i64.wrap (x : Int) = x := wrap_i64 (by omega) (by omega)
    have w4 : IntKind.i64.wrap (y : Int) = y := wrap_i64 (by omega) (by omega)
    have w5 : IntKind.i64.wrap (256 * (y : Int)) = 256 * y := wrap_i64 (by omega) (by omega)
    have w6 : IntKind.i64.wrap ((x : Int) + 256 * y) = x + 256 * y := wrap_i64 (by omega) (by omega)
    rw [e]
    generalize ((i + 1 : Nat) : Int) = j at *
    simp [C_avouchref19zpair, w1, show ¬ (l.length : Int) < i + 2 by omega, i1, i2, w2, w3, w4, w5, w6]
theorem slc_mid (l : List Nat) (a b : Nat) (h : a ≤ b ∧ b ≤ l.length) : sliceV .slc 1 (.vsl false (eI .u8 (nI l))) (some (.int .i64 (a : Int))) (some (.int .i64 (b : Int))) none = some (.vsl false (eI .u8 (nI ((l.drop a).take (b - a))))) := by
  have h1 : a ≤ b := h.1
  have h2 : b ≤ l.length := h.2
  have e : subL a b (eI .u8 (nI l)) = eI .u8 (nI ((l.drop a).take (b - a))) := by
    simp only [subL, eI, nI, List.map_take, List.map_drop, List.drop_take]
  simp [sliceV, bndA, h1, h2, e, show (a : Int) ≤ b by omega, show (b : Int) ≤ l.length by omega]
/-- A call as the document's reader has it: without bytes, nil. -/
def clD (x : Cl) : List AVal := [.int .i64 (x.d : Int), .int .i64 (x.t : Int), .int .i64 (x.n : Int), if x.d = 0 then .vsl false (eI .u8 (nI x.b)) else .nsl]
theorem clD_0 (x : Cl) (h : x.d = 0) : clD x = [.int .i64 (x.d : Int), .int .i64 (x.t : Int), .int .i64 (x.n : Int), .vsl false (eI .u8 (nI x.b))] := by unfold clD; rw [if_pos h]
theorem clD_1 (x : Cl) (h : ¬ x.d = 0) : clD x = [.int .i64 (x.d : Int), .int .i64 (x.t : Int), .int .i64 (x.n : Int), .nsl] := by unfold clD; rw [if_neg h]
def z3 : List AVal := [.int .i64 0, .nsl, .nsl]
def accA (h : AHeap) (bk : Int) (P : List Nat) (acc : List Cl) (bs : List (List AVal)) : AHeap :=
  hx h (z3 :: z3 :: [.int .i64 bk, .vsl false (eI .u8 (nI P)), gL .nsl h.toks.length 0 (acc.map clD)] :: bs) (gT (acc.map clD))
theorem stK_gL (L : Lim) (h : AHeap) (p : AVal) (n i : Nat) (es : List (List AVal)) : stK L h 1 p (gL .nsl n i es) = stM (storeA L h p [gL .nsl n i es]) := by
  unfold gL; split <;> simp [stK, AVal.cells, AVal.okV, gA]
theorem szOk_cl (acc : List Cl) : szOk 4 (acc.map clD) = true := by cases acc <;> simp [szOk, clD]
theorem loop_RDec {fr : Fr} {h : AHeap} {bk : Int} {P : List Nat} {R : Option (AEx × Fr × AHeap)} (hF : run ctx (limP h) (.loop Ba_avouchref19zDecode) fr (accA h bk P [] []) = R) (l : List Nat) (hb : ∀ x ∈ l, x < 256) (hl : l.length ≤ 100000) (a0 f0 : Nat) (ha0 : a0 ≤ l.length) (hf0 : (l.drop a0).length < f0)
    (h0 : fr 0 = .vsl false (eI .u8 (nI l))) (h2 : fr 2 = pA h.blks.length 0 0) (h4 : fr 4 = pA h.blks.length 1 0) (h6 : fr 6 = pA h.blks.length 2 0) (h7 : fr 7 = .int .i64 (a0 : Int)) :
    ∃ e fr' acc bs, R = some (e, fr', accA h bk P acc bs) ∧ (e = .exit 0 ∧ runS f0 (l.drop a0) [] = .inr acc ∨ e = .ret ∧ ∃ c, runS f0 (l.drop a0) [] = .inl c ∧ fr' 3 = .int .i64 (c : Int)) ∧ fr' 2 = fr 2 ∧ fr' 6 = fr 6 := by
  obtain ⟨e, fr', h', rfl, ⟨acc, bs, rfl, hp⟩, hk⟩ := loop_rule hF 200
    (fun k fr hh => ∃ i acc f bs, acc.length = k ∧ i ≤ l.length ∧ fr 7 = .int .i64 (i : Int) ∧ (l.drop i).length < f ∧ runS f0 (l.drop a0) [] = runS f (l.drop i) acc ∧ hh = accA h bk P acc bs)
    (fun e fr hh => ∃ acc bs, hh = accA h bk P acc bs ∧ (e = .exit 0 ∧ runS f0 (l.drop a0) [] = .inr acc ∨ e = .ret ∧ ∃ c, runS f0 (l.drop a0) [] = .inl c ∧ fr 3 = .int .i64 (c : Int)))
    ⟨a0, [], f0, [], rfl, ha0, h7, hf0, rfl, rfl⟩ (by
      rintro k fr1 hh hkN hkeep ⟨i, acc, f, bs, hak, hil, g7, hf, hrun, rfl⟩
      have g0 := (hkeep 0 (by decide)).trans h0
      have g2 := (hkeep 2 (by decide)).trans h2
      have g4 := (hkeep 4 (by decide)).trans h4
      have g6 := (hkeep 6 (by decide)).trans h6
      rw [hrun]
      clear hrun hF
      obtain ⟨f, rfl⟩ : ∃ g, f = g + 1 := ⟨f - 1, by omega⟩
      simp only [runS, hak]
      rcases hd : l.drop i with _ | ⟨d, r⟩
      · have hlen := drop_long hd hil
        have hi : ¬ (i : Int) < l.length := by simp at hlen; omega
        simp [Ba_avouchref19zDecode, g7, g0, hi, stepS]
        exact ⟨_, rfl⟩
      · have hlen := drop_long hd hil
        have hi : (i : Int) < l.length := by simp at hlen; omega
        have i1 := iadr_nI l i d _ false hd
        have hd8 : d < 256 := hb d (List.mem_of_mem_drop (i := i) (by rw [hd]; simp))
        have hn := drop_next hd
        obtain ⟨a1, ha1⟩ : ∃ a1, a1 = i + 1 := ⟨_, rfl⟩
        have w1 : IntKind.i64.wrap ((i : Int) + 1) = (a1 : Int) := by rw [ha1]; exact wrap_i64 (by omega) (by omega)
        have w2 : IntKind.i64.wrap (d : Int) = d := wrap_i64 (by omega) (by omega)
        rw [← ha1] at hn
        have hl1 : l.length = a1 + r.length := by simp at hlen; omega
        have e4 : (acc.map clD).length + 1 < 274877906944 := by simp; omega
        by_cases hk : k = 200
        · have hk' : ((k : Int) == 200) = true := by simp; omega
          have hst : stepS (d :: r) k = .err 9 := by simp only [stepS, if_pos hk]
          simp [Ba_avouchref19zDecode, g7, g0, g2, g4, g6, hi, i1, w1, w2, accA, z3, lenA_gL (.inl rfl), hak, hk', fillA, setAt, AVal.cells, AVal.okV, rep, chunks, partAB, stKB, limP, setAtB, hst]
          exact ⟨acc, _, rfl⟩
        · have hk' : ((k : Int) == 200) = false := by simp; omega
          by_cases hd4 : 4 < d
          · have hst : stepS (d :: r) k = .err 5 := by simp only [stepS, if_neg hk, if_neg (show ¬ d = 0 by omega), if_neg (show ¬ (d = 1 ∨ d = 2) by omega), if_neg (show ¬ (d = 3 ∨ d = 4) by omega)]
            simp [Ba_avouchref19zDecode, g7, g0, g2, g4, g6, hi, i1, w1, w2, accA, z3, lenA_gL (.inl rfl), hak, hk', fillA, setAt, AVal.cells, AVal.okV, rep, chunks, partAB, stKB, limP, setAtB, hst, show (4 : Int) < d by omega]
            exact ⟨acc, _, rfl⟩
          · have d4 : ¬ (4 : Int) < d := by omega
            by_cases h0 : d = 0
            · have d0 : ((d : Int) == 0) = true := by simp; omega
              obtain ⟨a2, ha2⟩ : ∃ a2, a2 = a1 + 1 := ⟨_, rfl⟩
              have w3 : IntKind.i64.wrap ((a1 : Int) + 1) = (a2 : Int) := by rw [ha2]; exact wrap_i64 (by omega) (by omega)
              obtain ⟨a3, ha3⟩ : ∃ a3, a3 = a1 + 3 := ⟨_, rfl⟩
              have w4 : IntKind.i64.wrap ((a1 : Int) + 3) = (a3 : Int) := by rw [ha3]; exact wrap_i64 (by omega) (by omega)
              have hpr := fun L h => ok_pair L h l a2 (by omega) (by omega) hb
              have hn2 : ∀ r', r = r' → l.drop a2 = r'.drop 1 := fun r' e => by subst e; rw [ha2, ← List.drop_drop, hn]
              rcases r with _ | ⟨t, _ | ⟨lo, _ | ⟨hi2, q⟩⟩⟩
              · have hst : stepS [d] k = .err 2 := by simp only [stepS, if_neg hk, if_pos h0]
                have hpv : pairI l a2 = -1 := by unfold pairI; rw [hn2 _ rfl]; rfl
                rw [hpv] at hpr
                simp [Ba_avouchref19zDecode, g7, g0, g2, g4, g6, hi, i1, w1, w2, accA, z3, lenA_gL (.inl rfl), hak, hk', fillA, setAt, AVal.cells, AVal.okV, rep, chunks, partAB, stKB, limP, setAtB, hst, d4, d0, w3, hpr]
                exact ⟨acc, _, rfl⟩
              · have hst : stepS [d, t] k = .err 2 := by simp only [stepS, if_neg hk, if_pos h0]
                have hpv : pairI l a2 = -1 := by unfold pairI; rw [hn2 _ rfl]; rfl
                rw [hpv] at hpr
                simp [Ba_avouchref19zDecode, g7, g0, g2, g4, g6, hi, i1, w1, w2, accA, z3, lenA_gL (.inl rfl), hak, hk', fillA, setAt, AVal.cells, AVal.okV, rep, chunks, partAB, stKB, limP, setAtB, hst, d4, d0, w3, hpr]
                exact ⟨acc, _, rfl⟩
              · have hst : stepS [d, t, lo] k = .err 2 := by simp only [stepS, if_neg hk, if_pos h0]
                have hpv : pairI l a2 = -1 := by unfold pairI; rw [hn2 _ rfl]; rfl
                rw [hpv] at hpr
                simp [Ba_avouchref19zDecode, g7, g0, g2, g4, g6, hi, i1, w1, w2, accA, z3, lenA_gL (.inl rfl), hak, hk', fillA, setAt, AVal.cells, AVal.okV, rep, chunks, partAB, stKB, limP, setAtB, hst, d4, d0, w3, hpr]
                exact ⟨acc, _, rfl⟩
              · obtain ⟨m, hm⟩ : ∃ m, m = lo + 256 * hi2 := ⟨_, rfl⟩
                have hlo : lo < 256 := hb lo (List.mem_of_mem_drop (i := i) (by rw [hd]; simp))
                have hhi : hi2 < 256 := hb hi2 (List.mem_of_mem_drop (i := i) (by rw [hd]; simp))
                have ht8 : t < 256 := hb t (List.mem_of_mem_drop (i := i) (by rw [hd]; simp))
                have hpv : pairI l a2 = (m : Int) := by unfold pairI; rw [hn2 _ rfl, hm]; simp
                rw [hpv] at hpr
                simp only [List.length_cons] at hl1
                have hm0 : ¬ (m : Int) < 0 := by omega
                obtain ⟨a4, ha4⟩ : ∃ a4, a4 = a3 + m := ⟨_, rfl⟩
                have w5 : IntKind.i64.wrap ((a3 : Int) + (m : Int)) = (a4 : Int) := by rw [ha4]; exact wrap_i64 (by omega) (by omega)
                have hn3 : l.drop a3 = q := by rw [ha3, ← List.drop_drop, hn]; rfl
                by_cases hq : q.length < m
                · have hst : stepS (d :: t :: lo :: hi2 :: q) k = .err 2 := by simp only [stepS, if_neg hk, if_pos h0, ← hm, if_pos hq]
                  have hlt : (l.length : Int) < a4 := by omega
                  simp [Ba_avouchref19zDecode, g7, g0, g2, g4, g6, hi, i1, w1, w2, accA, z3, lenA_gL (.inl rfl), hak, hk', fillA, setAt, AVal.cells, AVal.okV, rep, chunks, partAB, stKB, limP, setAtB, hst, d4, d0, w3, w4, w5, hm0, hpr, hlt]
                  exact ⟨acc, _, rfl⟩
                · have hst : stepS (d :: t :: lo :: hi2 :: q) k = .call ⟨0, t, 0, q.take m⟩ (q.drop m) := by simp only [stepS, if_neg hk, if_pos h0, ← hm, if_neg hq]
                  have hlt : ¬ (l.length : Int) < a4 := by omega
                  have i2 := iadr_nI l a1 t _ false hn
                  have w6 : IntKind.i64.wrap (t : Int) = t := wrap_i64 (by omega) (by omega)
                  have hsl := slc_mid l a3 a4 (by omega)
                  rw [hn3, show a4 - a3 = m by omega] at hsl
                  have hn4 : l.drop a4 = q.drop m := by rw [ha4, ← List.drop_drop, hn3]
                  simp [Ba_avouchref19zDecode, g7, g0, g2, g4, g6, hi, i1, w1, w2, accA, z3, lenA_gL (.inl rfl), hak, hk', fillA, setAt, AVal.cells, AVal.okV, rep, chunks, partAB, stKB, limP, setAtB, hst, d4, d0, show ((d : Int) == 1) = false by simp; omega, show ((d : Int) == 2) = false by simp; omega, w3, w4, w5, hm0, hpr, hlt, i2, w6, hsl, appK_nV, stK_gL, maxRoom, szOk_cl, show k + 1 < 274877906944 by omega]
                  have hmap : (acc ++ [(⟨0, t, 0, q.take m⟩ : Cl)]).map clD = acc.map clD ++ [[.int .i64 0, .int .i64 (t : Int), .int .i64 0, .vsl false (eI .u8 (nI (q.take m)))]] := by rw [List.map_append, List.map_singleton, clD_0 _ rfl]; rfl
                  refine ⟨by omega, a4, acc ++ [⟨0, t, 0, q.take m⟩], by simp [hak], by omega, rfl, f, by rw [List.length_drop] at hf; omega, by rw [hn4], bs ++ [[.int .i64 (d : Int), .int .i64 (t : Int), .int .i64 0, .vsl false (eI .u8 (nI (q.take m)))]], ?_⟩
                  rw [hmap, show (d : Int) = 0 by omega]
            · have d0 : ((d : Int) == 0) = false := by simp; omega
              by_cases h12 : d = 1 ∨ d = 2
              · have d12 : ((d : Int) == 1) = true ∨ ((d : Int) == 1) = false ∧ ((d : Int) == 2) = true := by rcases h12 with h | h <;> simp [h]
                have hpr := fun L h => ok_pair L h l a1 (by omega) (by omega) hb
                have hpv : ∀ r', r = r' → pairI l a1 = match r' with | x :: y :: _ => (x : Int) + 256 * y | _ => -1 := fun r' e => by subst e; unfold pairI; simp only [hn]
                rcases r with _ | ⟨lo, _ | ⟨hi2, q⟩⟩
                · have hst : stepS [d] k = .err 2 := by simp only [stepS, if_neg hk, if_neg h0, if_pos h12]
                  replace hpv := hpv _ rfl
                  simp only at hpv
                  rw [hpv] at hpr
                  rcases d12 with d1 | ⟨d1, d2⟩
                  · simp [Ba_avouchref19zDecode, g7, g0, g2, g4, g6, hi, i1, w1, w2, accA, z3, lenA_gL (.inl rfl), hak, hk', fillA, setAt, AVal.cells, AVal.okV, rep, chunks, partAB, stKB, limP, setAtB, hst, d4, d0, d1, hpr]
                    exact ⟨acc, _, rfl⟩
                  · simp [Ba_avouchref19zDecode, g7, g0, g2, g4, g6, hi, i1, w1, w2, accA, z3, lenA_gL (.inl rfl), hak, hk', fillA, setAt, AVal.cells, AVal.okV, rep, chunks, partAB, stKB, limP, setAtB, hst, d4, d0, d1, d2, hpr]
                    exact ⟨acc, _, rfl⟩
                · have hst : stepS [d, lo] k = .err 2 := by simp only [stepS, if_neg hk, if_neg h0, if_pos h12]
                  replace hpv := hpv _ rfl
                  simp only at hpv
                  rw [hpv] at hpr
                  rcases d12 with d1 | ⟨d1, d2⟩
                  · simp [Ba_avouchref19zDecode, g7, g0, g2, g4, g6, hi, i1, w1, w2, accA, z3, lenA_gL (.inl rfl), hak, hk', fillA, setAt, AVal.cells, AVal.okV, rep, chunks, partAB, stKB, limP, setAtB, hst, d4, d0, d1, hpr]
                    exact ⟨acc, _, rfl⟩
                  · simp [Ba_avouchref19zDecode, g7, g0, g2, g4, g6, hi, i1, w1, w2, accA, z3, lenA_gL (.inl rfl), hak, hk', fillA, setAt, AVal.cells, AVal.okV, rep, chunks, partAB, stKB, limP, setAtB, hst, d4, d0, d1, d2, hpr]
                    exact ⟨acc, _, rfl⟩
                · have hst : stepS (d :: lo :: hi2 :: q) k = .call ⟨d, 0, lo + 256 * hi2, []⟩ q := by simp only [stepS, if_neg hk, if_neg h0, if_pos h12]
                  replace hpv := hpv _ rfl
                  simp only at hpv
                  obtain ⟨m, hm⟩ : ∃ m, m = lo + 256 * hi2 := ⟨_, rfl⟩
                  have hpv2 : pairI l a1 = (m : Int) := by rw [hpv, hm]; omega
                  rw [hpv2] at hpr
                  rw [← hm] at hst
                  have hm0 : ¬ (m : Int) < 0 := by omega
                  obtain ⟨a2, ha2⟩ : ∃ a2, a2 = a1 + 2 := ⟨_, rfl⟩
                  have w3 : IntKind.i64.wrap ((a1 : Int) + 2) = (a2 : Int) := by rw [ha2]; exact wrap_i64 (by omega) (by omega)
                  have hn2 : l.drop a2 = q := by rw [ha2, ← List.drop_drop, hn]; rfl
                  simp only [List.length_cons] at hl1
                  have hmap : (acc ++ [(⟨d, 0, m, []⟩ : Cl)]).map clD = acc.map clD ++ [[.int .i64 (d : Int), .int .i64 0, .int .i64 (m : Int), .nsl]] := by rw [List.map_append, List.map_singleton, clD_1 _ h0]; rfl
                  rcases d12 with d1 | ⟨d1, d2⟩
                  · simp [Ba_avouchref19zDecode, g7, g0, g2, g4, g6, hi, i1, w1, w2, accA, z3, lenA_gL (.inl rfl), hak, hk', fillA, setAt, AVal.cells, AVal.okV, rep, chunks, partAB, stKB, limP, setAtB, hst, d4, d0, d1, hpr, hm0, w3, appK_nV, stK_gL, maxRoom, szOk_cl, show k + 1 < 274877906944 by omega]
                    refine ⟨by omega, a2, acc ++ [⟨d, 0, m, []⟩], by simp [hak], by omega, rfl, f, by rw [List.length_drop] at hf; omega, by rw [hn2], bs ++ [[.int .i64 (d : Int), .int .i64 0, .int .i64 (m : Int), .nsl]], ?_⟩
                    rw [hmap]
                  · simp [Ba_avouchref19zDecode, g7, g0, g2, g4, g6, hi, i1, w1, w2, accA, z3, lenA_gL (.inl rfl), hak, hk', fillA, setAt, AVal.cells, AVal.okV, rep, chunks, partAB, stKB, limP, setAtB, hst, d4, d0, d1, d2, hpr, hm0, w3, appK_nV, stK_gL, maxRoom, szOk_cl, show k + 1 < 274877906944 by omega]
                    refine ⟨by omega, a2, acc ++ [⟨d, 0, m, []⟩], by simp [hak], by omega, rfl, f, by rw [List.length_drop] at hf; omega, by rw [hn2], bs ++ [[.int .i64 (d : Int), .int .i64 0, .int .i64 (m : Int), .nsl]], ?_⟩
                    rw [hmap]
              · have d1 : ((d : Int) == 1) = false := by simp; omega
                have d2 : ((d : Int) == 2) = false := by simp; omega
                have hst : stepS (d :: r) k = .call ⟨d, 0, 0, []⟩ r := by simp only [stepS, if_neg hk, if_neg h0, if_neg h12, if_pos (show d = 3 ∨ d = 4 by omega)]
                simp [Ba_avouchref19zDecode, g7, g0, g2, g4, g6, hi, i1, w1, w2, accA, z3, lenA_gL (.inl rfl), hak, hk', fillA, setAt, AVal.cells, AVal.okV, rep, chunks, partAB, stKB, limP, setAtB, hst, d4, d0, d1, d2, appK_nV, stK_gL, maxRoom, szOk_cl, show k + 1 < 274877906944 by omega]
                have hmap : (acc ++ [(⟨d, 0, 0, []⟩ : Cl)]).map clD = acc.map clD ++ [[.int .i64 (d : Int), .int .i64 0, .int .i64 0, .nsl]] := by rw [List.map_append, List.map_singleton, clD_1 _ h0]; rfl
                refine ⟨by omega, a1, acc ++ [⟨d, 0, 0, []⟩], by simp [hak], by omega, rfl, f, by rw [List.length_drop] at hf; omega, by rw [hn], bs ++ [[.int .i64 (d : Int), .int .i64 0, .int .i64 0, .nsl]], ?_⟩
                rw [hmap])
  exact ⟨e, fr', acc, bs, rfl, hp, hk 2 (by decide), hk 6 (by decide)⟩
def decVD : Nat ⊕ (Nat × List Nat × List Cl) → AVal
  | .inl c => .tup [.agg [.int .i64 0, .vsl false [], .vsl false []], .int .i64 (c : Int)]
  | .inr (b, p, cs) => .tup [.agg [.int .i64 (b : Int), .vsl false (eI .u8 (nI p)), .vsl false (cs.map clD)], .int .i64 0]
theorem under_clD (nb nt : Nat) : ∀ acc : List Cl, underLL nb nt (acc.map clD) = true
  | [] => by simp [underLL]
  | x :: acc => by
    have ih := under_clD nb nt acc
    have h1 : underL nb nt (clD x) = true := by
      by_cases h : x.d = 0
      · rw [clD_0 x h]; simp [underL, AVal.under, eI_under]
      · rw [clD_1 x h]; simp [underL, AVal.under]
    simp [underLL, ih, h1]
end Go.Av

namespace Go.Av
set_option maxHeartbeats 2000000
set_option maxRecDepth 20000
set_option linter.unusedSimpArgs false
set_option linter.unusedVariables false
theorem frz_aggN (h : AHeap) (nb nt n : Nat) (cs : List AVal) (hc : flatL cs = false) : frz h nb nt (n + 1) (.agg cs) = (frzT h nb nt n cs).map .agg := by
  rw [← frzT_eq]; simp [frz, hc]
theorem ok_RDec (L : Lim) (h : AHeap) (l : List Nat) (hb : ∀ x ∈ l, x < 256) (hl : l.length ≤ 100000) : acall ctx L i_avouchref19zDecode [.vsl false (eI .u8 (nI l))] h = some (decVD (decS l), h) := by
  rw [call_avouchref19zDecode]
  have hpr := fun L h => ok_pair L h l 1 (by omega) (by omega) hb
  simp only [show ((1 : Nat) : Int) = 1 from rfl] at hpr
  have hshort : pairI l 1 = -1 → decS l = .inl 2 → callR ctx L Mode.pure h 118 C_avouchref19zDecode [.cell 2 3 true, .tmp 3] (argsA Mode.pure h [.vsl false (eI .u8 (nI l))]) = some (decVD (decS l), h) := fun e1 e2 => by
    rw [e1] at hpr
    rw [e2]
    simp [C_avouchref19zDecode, hpr, fillA, rep, AVal.cells, AVal.okV, partAB, stKB, limP, setAtB, decVD, frz_aggN, flatL, AVal.flat]
  rcases l with _ | ⟨b0, _ | ⟨lo, _ | ⟨hi2, q⟩⟩⟩
  · exact hshort rfl rfl
  · exact hshort rfl rfl
  · exact hshort rfl rfl
  · obtain ⟨m, hm⟩ : ∃ m, m = lo + 256 * hi2 := ⟨_, rfl⟩
    have hlo : lo < 256 := hb lo (by simp)
    have hhi : hi2 < 256 := hb hi2 (by simp)
    have hb0 : b0 < 256 := hb b0 (by simp)
    have hpv : pairI (b0 :: lo :: hi2 :: q) 1 = (m : Int) := by rw [hm]; simp [pairI]
    rw [hpv] at hpr
    have hll : (b0 :: lo :: hi2 :: q).length = q.length + 3 := rfl
    have hdec : decS (b0 :: lo :: hi2 :: q) = if q.length < m then .inl 2 else match runS (q.length + 1) (q.drop m) [] with
      | .inl c => .inl c
      | .inr cs => .inr (b0, q.take m, cs) := by rw [hm]; rfl
    have i1 := iadr_nI (b0 :: lo :: hi2 :: q) 0 b0 _ false rfl
    simp only [show ((0 : Nat) : Int) = 0 from rfl] at i1
    have hn3 : (b0 :: lo :: hi2 :: q).drop 3 = q := rfl
    generalize (b0 :: lo :: hi2 :: q) = l at *
    clear hshort hpv
    have hm0 : ¬ (m : Int) < 0 := by omega
    obtain ⟨a4, ha4⟩ : ∃ a4, a4 = 3 + m := ⟨_, rfl⟩
    have w5 : IntKind.i64.wrap (3 + (m : Int)) = (a4 : Int) := by rw [ha4]; exact wrap_i64 (by omega) (by omega)
    have w6 : IntKind.i64.wrap (b0 : Int) = b0 := wrap_i64 (by omega) (by omega)
    by_cases hq : q.length < m
    · rw [if_pos hq] at hdec
      rw [hdec]
      have hlt : (l.length : Int) < a4 := by omega
      simp [C_avouchref19zDecode, hpr, hm0, w5, hlt, fillA, rep, AVal.cells, AVal.okV, partAB, stKB, limP, setAtB, decVD, frz_aggN, flatL, AVal.flat]
    · rw [if_neg hq] at hdec
      have hlt : ¬ (l.length : Int) < a4 := by omega
      have hsl := slc_mid l 3 a4 (by omega)
      rw [hn3, show a4 - 3 = m by omega] at hsl
      simp only [show ((3 : Nat) : Int) = 3 from rfl] at hsl
      have hn4 : l.drop a4 = q.drop m := by rw [ha4, ← List.drop_drop, hn3]
      simp [C_avouchref19zDecode, hpr, hm0, w5, w6, i1, hsl, hlt, fillA, rep, AVal.cells, AVal.okV, partAB, stKB, limP, setAtB, setAt]
      generalize hF : run ctx _ (.loop _) _ _ = R
      obtain ⟨e, fr', acc, bs, rfl, hp, h2, h6⟩ := loop_RDec (bk := (b0 : Int)) (P := q.take m) hF l hb hl a4 (q.length + 1) (by omega) (by rw [hn4]; simp; omega) (by simp) (by simp) (by simp) (by simp) (by simp)
      rw [hn4] at hp
      simp at h2 h6
      rcases hp with ⟨rfl, hr⟩ | ⟨rfl, c, hr, h3⟩
      · rw [hr] at hdec
        simp only at hdec
        rw [hdec]
        have hf1 := fun hh n => frz_gL (h1 := hh) (nb := h.blks.length) (nt := h.toks.length) (n := n) (s := .nsl) (.inl rfl) (under_clD h.blks.length h.toks.length acc)
        simp [h2, h6, accA, z3, partAB, stKB, limP, setAtB, decVD, frz_aggN, flatL, AVal.flat, hf1]
      · rw [hr] at hdec
        simp only at hdec
        rw [hdec]
        simp [h2, h3, accA, z3, partAB, decVD, frz_aggN, flatL, AVal.flat]
end Go.Av

namespace Go.Av
set_option maxHeartbeats 2000000
set_option maxRecDepth 20000
set_option linter.unusedSimpArgs false
set_option linter.unusedVariables false
theorem beqY_refl (s : ByteArray) : (s == s) = true := (Go.MapKept.bytes_beq s s).2 rfl
def RowsFor (cs : List DC) (es : List (List AVal)) : Prop := es.length = cs.length ∧ ∀ (i : Nat) (c : DC), cs[i]? = some c → ∃ v, es[i]? = some [.int .i64 c.d, .int .i64 c.t, .int .i64 c.n, v] ∧ ∀ h, b2sK h v = some (.str (byA c.b))
theorem rows_ca (cs : List DC) : RowsFor cs (cs.map caC) := ⟨by simp, fun i c hc => ⟨_, by rw [List.getElem?_map, hc]; rfl, fun h => by simp⟩⟩
theorem iadr_rows {cs : List DC} {es : List (List AVal)} (h : RowsFor cs es) (k : Nat) (c : DC) (hc : cs[k]? = some c) : ∃ v, iadrA none 4 (.vsl false es) (.int .i64 (k : Int)) = some (.vptr [.int .i64 c.d, .int .i64 c.t, .int .i64 c.n, v] 0) ∧ ∀ h, b2sK h v = some (.str (byA c.b)) := by
  obtain ⟨v, h1, h2⟩ := h.2 k c hc
  refine ⟨v, ?_, h2⟩
  simp only [iadrA, asI, bind, Option.bind_some, Int.toNat_natCast, h1]
  rfl
theorem loop_Same {fr : Fr} {h : AHeap} {R : Option (AEx × Fr × AHeap)} (hF : run ctx (limP h) (.loop Ba_avouchref19zSame) fr (hx h [] []) = R) (cs : List DC) (es1 es2 : List (List AVal)) (h1 : RowsFor cs es1) (h2 : RowsFor cs es2) (hl : cs.length ≤ 1000000)
    (h0 : fr 0 = .vsl false es1) (hf1 : fr 1 = .vsl false es2) (h5 : fr 5 = .int .i64 0) : ∃ fr', R = some (.exit 0, fr', hx h [] []) := by
  obtain ⟨e, fr', h', rfl, ⟨rfl, rfl⟩, hk⟩ := loop_rule hF cs.length
    (fun k fr hh => fr 5 = .int .i64 k ∧ hh = hx h [] [])
    (fun e fr hh => hh = hx h [] [] ∧ e = .exit 0)
    ⟨h5, rfl⟩ (by
      rintro k fr1 hh hkN hkeep ⟨g5, rfl⟩
      have g0 := (hkeep 0 (by decide)).trans h0
      have g1 := (hkeep 1 (by decide)).trans hf1
      have e1 := h1.1
      by_cases hlt : k < cs.length
      · obtain ⟨c, hc⟩ : ∃ c, cs[k]? = some c := ⟨cs[k], List.getElem?_eq_getElem hlt⟩
        obtain ⟨v1, i1, b1⟩ := iadr_rows h1 k c hc
        obtain ⟨v2, i2, b2⟩ := iadr_rows h2 k c hc
        have w2 : IntKind.i64.wrap ((k : Int) + 1) = k + 1 := wrap_i64 (by omega) (by omega)
        have hb := beqY_refl (byA c.b)
        simp [Ba_avouchref19zSame, g5, g0, g1, e1, hlt, i1, i2, b1, b2, w2, hb, bne]
      · have : k = cs.length := by omega
        subst this
        simp [Ba_avouchref19zSame, g5, g0, e1])
  exact ⟨fr', rfl⟩
theorem ok_Same (L : Lim) (h : AHeap) (x : AVal) (cs : List DC) (es1 es2 : List (List AVal)) (hfx : ∀ h, fzA h x = some (.vsl false es1, false)) (h1 : RowsFor cs es1) (h2 : RowsFor cs es2) (hl : cs.length ≤ 1000000) :
    acall ctx L i_avouchref19zSame [x, .vsl false es2] h = some (.bool true, h) := by
  rw [call_avouchref19zSame]
  simp [C_avouchref19zSame, hfx, h1.1, h2.1]
  generalize hF : run ctx _ (.loop _) _ _ = R
  obtain ⟨fr', rfl⟩ := loop_Same hF cs es1 es2 h1 h2 hl (by simp) (by simp) (by simp)
  simp
theorem fzA_agg3 (h : AHeap) (x : AVal) (c : Bool) (es1 es2 : List (List AVal)) (hx : fzA h x = some (x, false)) : fzA h (.agg [x, .vsl false es1, .vsl false es2]) = some (.agg [x, .vsl false es1, .vsl false es2], false) := by
  by_cases hf : flatL [x, .vsl false es1, .vsl false es2] = true
  · exact fzA_agg h hf
  · simp [fzA, hf, fzArgs, hx]
theorem szOk_ca (cs : List DC) : szOk 4 (cs.map caC) = true := by cases cs <;> simp [szOk, caC]
theorem loop_is {fr : Fr} {h : AHeap} {R : Option (AEx × Fr × AHeap)} (hF : run ctx (limP h) (.loop Ba_avouchlaw19zis) fr (hx h [] []) = R) (cs : List DC) (hl : cs.length ≤ 1000000)
    (h5 : fr 5 = .vsl true []) (h10 : fr 10 = .vsl false (cs.map caC)) (h11 : fr 11 = .int .i64 cs.length) (h12 : fr 12 = .int .i64 0) :
    ∃ fr' bs, R = some (.exit 0, fr', hx h bs (gT (cs.map caC))) ∧ fr' 5 = gL (.vsl true []) h.toks.length 0 (cs.map caC) ∧ fr' 2 = fr 2 ∧ fr' 3 = fr 3 := by
  obtain ⟨e, fr', h', rfl, ⟨bs, rfl, rfl, hp⟩, hk⟩ := loop_rule hF cs.length
    (fun k fr hh => fr 12 = .int .i64 k ∧ fr 5 = gL (.vsl true []) h.toks.length 0 ((cs.take k).map caC) ∧ ∃ bs, hh = hx h bs (gT ((cs.take k).map caC)))
    (fun e fr hh => ∃ bs, hh = hx h bs (gT (cs.map caC)) ∧ e = .exit 0 ∧ fr 5 = gL (.vsl true []) h.toks.length 0 (cs.map caC))
    ⟨h12, by simpa [gL] using h5, [], by simp [gT]⟩ (by
      rintro k fr1 hh hkN hkeep ⟨g12, g5, bs, rfl⟩
      have g10 := (hkeep 10 (by decide)).trans h10
      have g11 := (hkeep 11 (by decide)).trans h11
      by_cases hlt : k < cs.length
      · obtain ⟨c, hc⟩ : ∃ c, cs[k]? = some c := ⟨cs[k], List.getElem?_eq_getElem hlt⟩
        have hi := iadr_ca cs k c false hc
        have w2 : IntKind.i64.wrap ((k : Int) + 1) = k + 1 := wrap_i64 (by omega) (by omega)
        have e : (cs.take k).map caC ++ [caC c] = (cs.take (k + 1)).map caC := by rw [List.take_add_one, hc]; simp
        simp only [caC] at hi
        simp [Ba_avouchlaw19zis, g12, g11, g10, g5, hlt, hi, w2, partAB, stKB, limP, setAtB, setAt, fillA, rep, AVal.cells, AVal.okV, chunks, appK_cV, -List.map_take, maxRoom, show k + 1 < 274877906944 by omega, Nat.min_eq_left hkN, szOk_ca]
        rw [show (cs.take k).map caC ++ [[AVal.int .i64 c.d, .int .i64 c.t, .int .i64 c.n, .vsl false (eI .u8 c.b)]] = (cs.take (k + 1)).map caC from e]
        exact ⟨rfl, _, rfl⟩
      · have : k = cs.length := by omega
        subst this
        rw [List.take_length] at g5
        simp [Ba_avouchlaw19zis, g12, g11, g5]
        exact ⟨_, rfl⟩)
  exact ⟨fr', bs, rfl, hp, hk 2 (by decide), hk 3 (by decide)⟩
theorem ok_is (L : Lim) (h : AHeap) (bk : Int) (p : List Int) (cs : List DC) (es2 : List (List AVal)) (h2 : RowsFor cs es2) (hl : cs.length ≤ 1000000) :
    acall ctx L i_avouchlaw19zis [.agg (scC bk p cs), .agg [.int .i64 bk, .vsl false (eI .u8 p), .vsl false es2]] h = some (.bool true, h) := by
  rw [call_avouchlaw19zis]
  have f2 := fun h => fzA_agg3 h (.int .i64 bk) false (eI .u8 p) es2 (by simp)
  have hb := beqY_refl (byA p)
  simp only [scC]
  simp [C_avouchlaw19zis, f2, chunks, rep, fillA]
  generalize hF : run ctx _ (.loop _) _ _ = R
  obtain ⟨fr', bs, rfl, h5, g2, g3⟩ := loop_is hF cs hl (by simp) (by simp) (by simp) (by simp)
  have hfx : ∀ hh, fzA hh (gL (.vsl true []) h.toks.length 0 (cs.map caC)) = some (.vsl false (cs.map caC), false) := fun hh => by
    unfold gL; split
    · rename_i e; rw [e]; simp
    · simp
  have hs := fun L h => ok_Same L h _ cs (cs.map caC) es2 hfx (rows_ca cs) h2 hl
  simp at g2 g3
  simp [h5, g2, g3, hb, hs]
theorem loop_Of {fr : Fr} {h : AHeap} {bk : Int} {p : List Int} {z : List AVal} {R : Option (AEx × Fr × AHeap)} (hF : run ctx (limP h) (.loop Ba_avouchlaw19zOf) fr (hx h [z, [.int .i64 bk, .vsl false (eI .u8 p), .nsl]] []) = R) (cs : List DC) (hl : cs.length ≤ 1000000)
    (h3 : fr 3 = pA h.blks.length 1 0) (h12 : fr 12 = .vsl false (cs.map caC)) (h13 : fr 13 = .int .i64 cs.length) (h14 : fr 14 = .int .i64 0) :
    ∃ fr' bs, R = some (.exit 0, fr', hx h (z :: [.int .i64 bk, .vsl false (eI .u8 p), gL .nsl h.toks.length 0 (cs.map caC)] :: bs) (gT (cs.map caC))) ∧ fr' 2 = fr 2 ∧ fr' 3 = fr 3 := by
  obtain ⟨e, fr', h', rfl, ⟨bs, rfl, rfl⟩, hk⟩ := loop_rule hF cs.length
    (fun k fr hh => fr 14 = .int .i64 k ∧ ∃ bs, hh = hx h (z :: [.int .i64 bk, .vsl false (eI .u8 p), gL .nsl h.toks.length 0 ((cs.take k).map caC)] :: bs) (gT ((cs.take k).map caC)))
    (fun e fr hh => ∃ bs, hh = hx h (z :: [.int .i64 bk, .vsl false (eI .u8 p), gL .nsl h.toks.length 0 (cs.map caC)] :: bs) (gT (cs.map caC)) ∧ e = .exit 0)
    ⟨h14, [], by simp [gT, gL]⟩ (by
      rintro k fr1 hh hkN hkeep ⟨g14, bs, rfl⟩
      have g3 := (hkeep 3 (by decide)).trans h3
      have g12 := (hkeep 12 (by decide)).trans h12
      have g13 := (hkeep 13 (by decide)).trans h13
      by_cases hlt : k < cs.length
      · obtain ⟨c, hc⟩ : ∃ c, cs[k]? = some c := ⟨cs[k], List.getElem?_eq_getElem hlt⟩
        have hi := iadr_ca cs k c false hc
        have w2 : IntKind.i64.wrap ((k : Int) + 1) = k + 1 := wrap_i64 (by omega) (by omega)
        have e : (cs.take k).map caC ++ [caC c] = (cs.take (k + 1)).map caC := by rw [List.take_add_one, hc]; simp
        simp only [caC] at hi
        simp [Ba_avouchlaw19zOf, g14, g13, g12, g3, hlt, hi, w2, partAB, stKB, limP, setAtB, setAt, fillA, rep, AVal.cells, AVal.okV, chunks, appK_nV, stK_gL, -List.map_take, maxRoom, show k + 1 < 274877906944 by omega, Nat.min_eq_left hkN, szOk_ca]
        rw [show (cs.take k).map caC ++ [[AVal.int .i64 c.d, .int .i64 c.t, .int .i64 c.n, .vsl false (eI .u8 c.b)]] = (cs.take (k + 1)).map caC from e]
        exact ⟨_, rfl⟩
      · have : k = cs.length := by omega
        subst this
        simp [Ba_avouchlaw19zOf, g14, g13]
        exact ⟨_, rfl⟩)
  exact ⟨fr', bs, rfl, hk 2 (by decide), hk 3 (by decide)⟩
theorem under_ca (nb nt : Nat) : ∀ cs : List DC, underLL nb nt (cs.map caC) = true
  | [] => by simp [underLL]
  | c :: cs => by
    have ih := under_ca nb nt cs
    simp [underLL, ih, caC, underL, AVal.under, eI_under]
theorem ok_Of (L : Lim) (h : AHeap) (bk : Int) (p : List Int) (cs : List DC) (hl : cs.length ≤ 1000000) : acall ctx L i_avouchlaw19zOf [.agg (scC bk p cs)] h = some (.agg (scC bk p cs), h) := by
  rw [call_avouchlaw19zOf]
  simp only [scC]
  simp [C_avouchlaw19zOf, fillA, rep, AVal.cells, AVal.okV, partAB, stKB, limP, setAtB, setAt]
  generalize hF : run ctx _ (.loop _) _ _ = R
  obtain ⟨fr', bs, rfl, g2, g3⟩ := loop_Of hF cs hl (by simp) (by simp) (by simp) (by simp)
  simp at g2 g3
  have hf1 := fun hh n => frz_gL (h1 := hh) (nb := h.blks.length) (nt := h.toks.length) (n := n) (s := .nsl) (.inl rfl) (under_ca h.blks.length h.toks.length cs)
  simp [g2, g3, partAB, stKB, limP, setAtB, frz_aggN, flatL, AVal.flat, hf1]
end Go.Av

namespace Go.Av
set_option maxHeartbeats 2000000
set_option maxRecDepth 20000
set_option linter.unusedSimpArgs false
set_option linter.unusedVariables false
theorem dig1 (n : Nat) (h : n < 10) : Lib.itoa (n : Int) = [UInt8.ofNat (48 + n)] := by
  unfold Lib.itoa; rw [if_neg (by omega), Int.toNat_natCast, Lib.decDigits, dif_pos h]
theorem text_two : textT [(0, []), (10, [])] = [48, 10, 49, 48, 10] := by
  have h10 : Lib.itoa 10 = [49, 48] := by
    unfold Lib.itoa
    rw [if_neg (by omega), show ((10 : Int).toNat) = 10 from rfl, Lib.decDigits, dif_neg (by omega), show 10 / 10 = 1 from rfl, Lib.decDigits, dif_pos (by omega)]
    rfl
  have h0 : Lib.itoa 0 = [48] := dig1 0 (by omega)
  simp [textT, ansT, h10, h0]
theorem ok_TextX (L : Lim) (h : AHeap) (x : AVal) (es : List (List AVal)) (m : List (Int × List Nat)) (hx : elemsA h 2 x = some es) (hs : strOk 2 x = true) (hz : szOk 2 es = true) (hm : es.mapM (ansA h) = some m) (hc : m.length ≤ 1000 ∧ ∀ a ∈ m, a.2.length ≤ 1000) :
    acall ctx L i_script_Text [x] h = some (.str ⟨(textT m).toArray⟩, h) := by
  rw [acall_ext _ _ _ ext_script_Text]
  simp only [textX, hs, hx, hz, if_true, Option.bind_some, hm, if_pos hc]
theorem ok_speaks (L : Lim) (h : AHeap) : acall ctx L i_avouchlaw19zspeaks [] h = some (.bool true, h) := by
  rw [call_avouchlaw19zspeaks]
  have ht := fun L h => ok_TextX L h (.vsl true [[.int .i64 0, .nsl], [.int .i64 10, .nsl]]) _ [(0, []), (10, [])] rfl rfl rfl rfl (by simp)
  simp [C_avouchlaw19zspeaks, fillA, rep, AVal.cells, AVal.okV, chunks, ht, text_two, setAt]
  exact beqY_refl _
theorem natA_all : ∀ l : List Nat, (∀ x ∈ l, x < 256) → (eI .u8 (nI l)).mapM natA = some l
  | [], _ => rfl
  | x :: l, h => by
    have ih := natA_all l (fun y hy => h y (by simp [hy]))
    have hx := h x (by simp)
    have e : eI .u8 (nI (x :: l)) = [.int .u8 (x : Int)] :: eI .u8 (nI l) := rfl
    rw [e, List.mapM_cons, ih]
    have h1 : natA [.int .u8 (x : Int)] = some x := by
      simp only [natA]
      rw [if_pos (by omega)]
      rfl
    rw [h1]; rfl
theorem ok_Dec (L : Lim) (h : AHeap) (c : Bool) (l : List Nat) (hb : ∀ x ∈ l, x < 256) (hl : l.length ≤ 100000) : acall ctx L i_script_Decode [.vsl c (eI .u8 (nI l))] h = some (decV (decS l), h) := by
  rw [acall_ext _ _ _ ext_script_Decode]
  simp [decX, strOk, elemsA, natA_all l hb, hl]
/-- A call that is right, in whole numbers. -/
def ofCl (x : Cl) : DC := ⟨x.d, x.t, x.n, nI x.b⟩
theorem clA_of (x : Cl) : clA x = caC (ofCl x) := rfl
theorem nI_nat : ∀ b : List Int, (∀ y ∈ b, 0 ≤ y ∧ y < 256) → nI (b.map Int.toNat) = b
  | [], _ => rfl
  | y :: b, h => by
    have := (h y (by simp)).1
    simp only [List.map_cons, nI]
    rw [show (y.toNat : Int) = y by omega]
    congr 1
    exact nI_nat b (fun z hz => h z (by simp [hz]))
theorem nat_lt (b : List Int) (h : ∀ y ∈ b, 0 ≤ y ∧ y < 256) : ∀ x ∈ b.map Int.toNat, x < 256 := fun x hx => by
  obtain ⟨y, hy, rfl⟩ := List.mem_map.1 hx
  have := h y hy
  omega
theorem dc_cl (c : DC) (hr : rightI c = true) (hb : ∀ y ∈ c.b, 0 ≤ y ∧ y < 256) : ∃ x : Cl, c = ofCl x ∧ RightC x := by
  obtain ⟨d, t, n, b⟩ := c
  simp only at hb
  have key : 0 ≤ d ∧ 0 ≤ t ∧ 0 ≤ n ∧ RightC ⟨d.toNat, t.toNat, n.toNat, b.map Int.toNat⟩ := by
    unfold rightI at hr
    unfold RightC
    simp only at hr ⊢
    by_cases h0 : d = 0
    · rw [if_pos h0] at hr
      simp at hr
      exact ⟨by omega, by omega, by omega, nat_lt b hb, .inl ⟨by omega, by omega, by omega, by simp; omega⟩⟩
    · rw [if_neg h0] at hr
      by_cases h1 : d = 1 ∨ d = 2
      · rw [if_pos h1] at hr
        simp at hr
        exact ⟨by omega, by omega, by omega, nat_lt b hb, .inr (.inl ⟨by omega, by omega, by omega, by simp [hr.2]⟩)⟩
      · rw [if_neg h1] at hr
        by_cases h3 : d = 3 ∨ d = 4
        · rw [if_pos h3] at hr
          simp at hr
          exact ⟨by omega, by omega, by omega, nat_lt b hb, .inr (.inr ⟨by omega, by omega, by omega, by simp [hr.2]⟩)⟩
        · rw [if_neg h3] at hr
          simp at hr
  refine ⟨_, ?_, key.2.2.2⟩
  unfold ofCl
  rw [nI_nat b hb]
  simp only [DC.mk.injEq, and_true]
  omega
theorem dcs_cls : ∀ cs : List DC, (∀ c ∈ cs, rightI c = true ∧ ∀ y ∈ c.b, 0 ≤ y ∧ y < 256) → ∃ xs : List Cl, cs = xs.map ofCl ∧ ∀ x ∈ xs, RightC x
  | [], _ => ⟨[], rfl, by simp⟩
  | c :: cs, h => by
    obtain ⟨x, rfl, hx⟩ := dc_cl c (h c (by simp)).1 (h c (by simp)).2
    obtain ⟨xs, rfl, hxs⟩ := dcs_cls cs (fun d hd => h d (by simp [hd]))
    exact ⟨x :: xs, rfl, fun y hy => by
      rcases List.mem_cons.1 hy with rfl | hy
      · exact hx
      · exact hxs y hy⟩
theorem wrap8 (n : Nat) : IntKind.u8.wrap (n : Int) = ((n % 256 : Nat) : Int) := by
  simp [IntKind.wrap, IntKind.signed, IntKind.bits]
theorem le_nI (n : Nat) : le (n : Int) 2 = nI (le2 n) := by
  rw [le_two, wrap8, Int.fdiv_eq_ediv_of_nonneg _ (by decide), show (n : Int) / 256 = ((n / 256 : Nat) : Int) from rfl, wrap8]
  rfl
theorem nI_app (a b : List Nat) : nI (a ++ b) = nI a ++ nI b := by simp [nI]
theorem nI_cons (a : Nat) (b : List Nat) : nI (a :: b) = (a : Int) :: nI b := rfl
theorem right_of (x : Cl) (h : RightC x) : rightI (ofCl x) = true ∧ encCI (ofCl x) = nI (encC x) := by
  obtain ⟨d, t, n, b⟩ := x
  obtain ⟨_, ⟨h1, h2, h3, h4⟩ | ⟨h1, h2, h3, h4⟩ | ⟨h1, h2, h3, h4⟩⟩ := h
  · simp only at h1 h2 h3 h4
    subst h1 h3
    have e1 : encCI (ofCl ⟨0, t, 0, b⟩) = IntKind.u8.wrap ((0 : Nat) : Int) :: IntKind.u8.wrap (t : Int) :: (le ((nI b).length : Int) 2 ++ nI b) := by
      unfold encCI; rw [if_pos (show (ofCl ⟨0, t, 0, b⟩).d = 0 from rfl)]; rfl
    have e2 : encC ⟨0, t, 0, b⟩ = 0 :: t :: (le2 b.length ++ b) := rfl
    refine ⟨?_, ?_⟩
    · unfold rightI
      rw [if_pos (show (ofCl ⟨0, t, 0, b⟩).d = 0 from rfl)]
      show (decide (0 ≤ (t : Int)) && decide ((t : Int) ≤ 255) && (((0 : Nat) : Int) == 0) && decide (((nI b).length : Int) ≤ 65535)) = true
      rw [nI_len]
      simp
      omega
    · rw [e1, e2, wrap8, wrap8, nI_len, le_nI, Nat.mod_eq_of_lt h2, nI_cons, nI_cons, nI_app]
  · simp only at h1 h2 h3 h4
    subst h2 h4
    have h0 : ¬ d = 0 := by omega
    have h0' : ¬ (ofCl ⟨d, 0, n, []⟩).d = 0 := by show ¬ (d : Int) = 0; omega
    have h1' : (ofCl ⟨d, 0, n, []⟩).d = 1 ∨ (ofCl ⟨d, 0, n, []⟩).d = 2 := by show (d : Int) = 1 ∨ (d : Int) = 2; omega
    have e1 : encCI (ofCl ⟨d, 0, n, []⟩) = IntKind.u8.wrap (d : Int) :: le (n : Int) 2 := by
      unfold encCI; rw [if_neg h0', if_pos h1']; rfl
    have e2 : encC ⟨d, 0, n, []⟩ = d :: le2 n := by unfold encC; simp only [if_neg h0, if_pos h1]
    refine ⟨?_, ?_⟩
    · unfold rightI
      rw [if_neg h0', if_pos h1']
      show ((((0 : Nat) : Int) == 0) && (decide (0 ≤ (n : Int)) && decide ((n : Int) ≤ 65535)) && (((nI []).length : Int) == 0)) = true
      rw [nI_len]
      simp
      omega
    · rw [e1, e2, wrap8, le_nI, Nat.mod_eq_of_lt (by omega), nI_cons]
  · simp only at h1 h2 h3 h4
    subst h2 h3 h4
    have h0 : ¬ d = 0 := by omega
    have h12 : ¬ (d = 1 ∨ d = 2) := by omega
    have h0' : ¬ (ofCl ⟨d, 0, 0, []⟩).d = 0 := by show ¬ (d : Int) = 0; omega
    have h12' : ¬ ((ofCl ⟨d, 0, 0, []⟩).d = 1 ∨ (ofCl ⟨d, 0, 0, []⟩).d = 2) := by show ¬ ((d : Int) = 1 ∨ (d : Int) = 2); omega
    have h34 : (ofCl ⟨d, 0, 0, []⟩).d = 3 ∨ (ofCl ⟨d, 0, 0, []⟩).d = 4 := by show (d : Int) = 3 ∨ (d : Int) = 4; omega
    have e1 : encCI (ofCl ⟨d, 0, 0, []⟩) = [IntKind.u8.wrap (d : Int)] := by
      unfold encCI; rw [if_neg h0', if_neg h12']; rfl
    have e2 : encC ⟨d, 0, 0, []⟩ = [d] := by unfold encC; simp only [if_neg h0, if_neg h12]
    refine ⟨?_, ?_⟩
    · unfold rightI
      rw [if_neg h0', if_neg h12', if_pos h34]
      rfl
    · rw [e1, e2, wrap8, Nat.mod_eq_of_lt (by omega)]
      rfl
theorem enc_of : ∀ xs : List Cl, (∀ x ∈ xs, RightC x) → (xs.map ofCl).flatMap encCI = nI (xs.flatMap encC)
  | [], _ => rfl
  | x :: xs, h => by
    rw [List.map_cons, List.flatMap_cons, List.flatMap_cons, nI_app, (right_of x (h x (by simp))).2, enc_of xs (fun y hy => h y (by simp [hy]))]
theorem encS_of (bk : Nat) (p : List Nat) (xs : List Cl) (hbk : bk < 256) (h : ∀ x ∈ xs, RightC x) : encSI bk (nI p) (xs.map ofCl) = nI (encS bk p xs) := by
  unfold encSI encS
  rw [nI_cons, nI_app, nI_app, enc_of xs h, wrap8, Nat.mod_eq_of_lt hbk, nI_len, le_nI]
theorem enc_lt (bk : Nat) (p : List Nat) (xs : List Cl) (hbk : bk < 256) (hp : ∀ x ∈ p, x < 256) (h : ∀ x ∈ xs, RightC x) : ∀ y ∈ encS bk p xs, y < 256 := by
  intro y hy
  simp only [encS, le2, List.mem_cons, List.mem_append, List.mem_flatMap, List.not_mem_nil, or_false] at hy
  rcases hy with rfl | (rfl | rfl) | hy | ⟨x, hx, hy⟩
  · exact hbk
  · omega
  · omega
  · exact hp y hy
  · have hr := h x hx
    obtain ⟨d, t, n, b⟩ := x
    obtain ⟨hb, ⟨h1, h2, h3, h4⟩ | ⟨h1, h2, h3, h4⟩ | ⟨h1, h2, h3, h4⟩⟩ := hr
    · simp only at hb h1 h2 h3 h4
      simp [encC, h1, le2] at hy
      rcases hy with rfl | rfl | rfl | rfl | hy
      · omega
      · omega
      · omega
      · omega
      · exact hb y hy
    · simp only at hb h1 h2 h3 h4
      have h0 : ¬ d = 0 := by omega
      simp [encC, h1, h0, le2] at hy
      omega
    · simp only at hb h1 h2 h3 h4
      have h0 : ¬ d = 0 := by omega
      have h12 : ¬ (d = 1 ∨ d = 2) := by omega
      simp [encC, h0, h12] at hy
      omega
theorem right_all (xs : List Cl) (h : ∀ x ∈ xs, RightC x) : ((xs.map ofCl).any fun c => !rightI c) = false := by
  rw [Bool.eq_false_iff]
  intro e
  obtain ⟨c, hc, h2⟩ := List.any_eq_true.1 e
  obtain ⟨x, hx, rfl⟩ := List.mem_map.1 hc
  rw [(right_of x (h x hx)).1] at h2
  simp at h2
theorem resE_of (bk : Nat) (p : List Nat) (xs : List Cl) (hbk : bk < 256) (hp : p.length < 65536) (h : ∀ x ∈ xs, RightC x) (hl : xs.length ≤ 200) : resE bk (nI p) (xs.map ofCl) = .tup [.vsl false (eI .u8 (nI (encS bk p xs))), .int .i64 0] := by
  unfold resE
  rw [right_all xs h, if_neg (by simp; omega), if_neg (by simp; omega), encS_of bk p xs hbk h]
end Go.Av

namespace Go.Av
set_option maxHeartbeats 2000000
set_option maxRecDepth 20000
set_option linter.unusedSimpArgs false
set_option linter.unusedVariables false
theorem loop_Long {fr : Fr} {h : AHeap} {R : Option (AEx × Fr × AHeap)} (hF : run ctx (limP h) (.loop Ba_avouchlaw19zScriptTells) fr (hx h [] []) = R) (cs : List DC) (hl : cs.length ≤ 1000000)
    (h27 : fr 27 = .vsl false (cs.map caC)) (h28 : fr 28 = .int .i64 cs.length) (h29 : fr 29 = .int .i64 0) :
    ∃ e fr' bs, R = some (e, fr', hx h bs []) ∧ fr' 1 = fr 1 ∧ (e = .exit 0 ∧ (∀ c ∈ cs, c.b.length ≤ 400) ∨ e = .ret ∧ fr' 2 = .bool true) := by
  obtain ⟨e, fr', h', rfl, ⟨bs, rfl, hp⟩, hk⟩ := loop_rule hF cs.length
    (fun k fr hh => fr 29 = .int .i64 k ∧ (∀ c ∈ cs.take k, c.b.length ≤ 400) ∧ ∃ bs, hh = hx h bs [])
    (fun e fr hh => ∃ bs, hh = hx h bs [] ∧ (e = .exit 0 ∧ (∀ c ∈ cs, c.b.length ≤ 400) ∨ e = .ret ∧ fr 2 = .bool true))
    ⟨h29, by simp, [], rfl⟩ (by
      rintro k fr1 hh hkN hkeep ⟨g29, hall, bs, rfl⟩
      have g27 := (hkeep 27 (by decide)).trans h27
      have g28 := (hkeep 28 (by decide)).trans h28
      by_cases hlt : k < cs.length
      · obtain ⟨c, hc⟩ : ∃ c, cs[k]? = some c := ⟨cs[k], List.getElem?_eq_getElem hlt⟩
        have hi := iadr_ca cs k c false hc
        have w2 : IntKind.i64.wrap ((k : Int) + 1) = k + 1 := wrap_i64 (by omega) (by omega)
        simp only [caC] at hi
        by_cases hd : 400 < c.b.length
        · simp [Ba_avouchlaw19zScriptTells, g29, g28, g27, hlt, hi, w2, partAB, stKB, limP, setAtB, show (400 : Int) < c.b.length by omega]
          exact ⟨_, rfl⟩
        · simp [Ba_avouchlaw19zScriptTells, g29, g28, g27, hlt, hi, w2, partAB, stKB, limP, setAtB, show ¬ (400 : Int) < c.b.length by omega, -List.map_take]
          refine ⟨fun x hx => ?_, _, rfl⟩
          rw [List.take_add_one, hc, List.mem_append] at hx
          rcases hx with hx | hx
          · exact hall x hx
          · obtain rfl : x = c := by simpa using hx
            omega
      · have : k = cs.length := by omega
        subst this
        rw [List.take_length] at hall
        simp [Ba_avouchlaw19zScriptTells, g29, g28]
        exact ⟨⟨_, rfl⟩, hall⟩)
  exact ⟨e, fr', bs, rfl, hk 1 (by decide), hp⟩
theorem rows_cl (xs : List Cl) (h : ∀ x ∈ xs, RightC x) : RowsFor (xs.map ofCl) (xs.map clD) := by
  refine ⟨by simp, fun i c hc => ?_⟩
  rw [List.getElem?_map] at hc
  obtain ⟨x, hx, rfl⟩ := Option.map_eq_some_iff.1 hc
  have hr := h x (List.mem_of_getElem? hx)
  rw [List.getElem?_map, hx]
  by_cases h0 : x.d = 0
  · exact ⟨_, by rw [Option.map_some, clD_0 x h0]; rfl, fun hh => by simp [ofCl]⟩
  · refine ⟨_, by rw [Option.map_some, clD_1 x h0]; rfl, fun hh => ?_⟩
    have hb : x.b = [] := by
      obtain ⟨_, ⟨h1, _⟩ | ⟨_, _, _, h4⟩ | ⟨_, _, _, h4⟩⟩ := hr
      · exact absurd h1 h0
      · exact h4
      · exact h4
    simp [ofCl, hb, nI]
theorem stepS_err {l : List Nat} {n c : Nat} (h : stepS l n = .err c) : ¬ c = 0 := by
  cases l with
  | nil => simp [stepS] at h
  | cons d l =>
    simp only [stepS] at h
    repeat' (split at h)
    all_goals first
      | (have := StS.err.inj h; omega)
      | simp at h
theorem runS_err : ∀ (f : Nat) (l : List Nat) (acc : List Cl) (c : Nat), runS f l acc = .inl c → ¬ c = 0
  | 0, l, acc, c, h => by simp [runS] at h
  | f + 1, l, acc, c, h => by
    simp only [runS] at h
    split at h
    · simp at h
    · rename_i c' he
      have := Sum.inl.inj h
      subst this
      exact stepS_err he
    · exact runS_err f _ _ c h
theorem decS_err {l : List Nat} {c : Nat} (h : decS l = .inl c) : ¬ c = 0 := by
  rcases l with _ | ⟨b0, _ | ⟨lo, _ | ⟨hi, q⟩⟩⟩
  · simp [decS] at h; omega
  · simp [decS] at h; omega
  · simp [decS] at h; omega
  · simp only [decS] at h
    split at h
    · simp at h; omega
    · split at h
      · rename_i c' hr
        have := Sum.inl.inj h
        subst this
        exact runS_err _ _ _ _ hr
      · simp at h
theorem ok_ScriptReads (L : Lim) (h : AHeap) (l : List Nat) (hb : ∀ x ∈ l, x < 256) (hl : l.length ≤ 9223372036854775807) : ∃ h', acall ctx L i_avouchlaw19zScriptReads [.vsl false (eI .u8 (nI l))] h = some (.bool true, h') := by
  rw [call_avouchlaw19zScriptReads]
  by_cases hn : 4000 < l.length
  · simp [C_avouchlaw19zScriptReads, ok_speaks, show (4000 : Int) < l.length by omega]
  · have d1 := fun L h c => ok_Dec L h c l hb (by omega)
    have d2 := fun L h => ok_RDec L h l hb (by omega)
    have hback := fun b pat cs => @decS_back l b pat cs hb
    have herr := fun c => @decS_err l c
    have hlen : ¬ (4000 : Int) < l.length := by omega
    generalize decS l = D at *
    rcases D with c | ⟨bk, pat, cs⟩
    · have hi := fun L h => ok_is L h 0 [] [] [] ⟨rfl, fun i c hc => by simp at hc⟩ (by simp)
      simp only [decV, decVD] at d1 d2
      simp only [scC, eI_nil, List.map_nil] at hi
      have hc0 : ((c : Int) == 0) = false := by have := herr c rfl; simp; omega
      simp [C_avouchlaw19zScriptReads, ok_speaks, hlen, d1, d2, hi, partAB, stKB, limP, setAtB, fillA, rep, AVal.cells, AVal.okV, bne, hc0]
    · obtain ⟨e1, hbk, hpl, hp8, hr, hcl⟩ := hback bk pat cs rfl
      have hi := fun L h => ok_is L h (bk : Int) (nI pat) (cs.map ofCl) (cs.map clD) (rows_cl cs hr) (by simp; omega)
      have hen := fun L h => ok_Enc L h (bk : Int) (nI pat) (cs.map ofCl) ⟨by simp; omega, by simp; omega, fun c hc => by
        obtain ⟨x, hx, rfl⟩ := List.mem_map.1 hc
        have hx2 := hr x hx
        obtain ⟨_, ⟨_, _, _, h4⟩ | ⟨_, _, _, h4⟩ | ⟨_, _, _, h4⟩⟩ := hx2
        · show (nI x.b).length ≤ 100000
          rw [nI_len]; omega
        · show (nI x.b).length ≤ 100000
          rw [nI_len, h4]; simp
        · show (nI x.b).length ≤ 100000
          rw [nI_len, h4]; simp⟩
      rw [resE_of bk pat cs hbk hpl hr hcl, ← e1] at hen
      have hm : cs.map clA = (cs.map ofCl).map caC := by rw [List.map_map]; rfl
      simp only [decV, decVD] at d1 d2
      rw [hm] at d1
      simp only [scC] at hi hen
      generalize (cs.map ofCl).map caC = E1 at *
      generalize cs.map clD = E2 at *
      simp [C_avouchlaw19zScriptReads, ok_speaks, hlen, d1, d2, hi, hen, partAB, stKB, limP, setAtB, fillA, rep, AVal.cells, AVal.okV, bne]
      exact beqY_refl _
theorem encC_most (xs : List Cl) (m : Nat) (h : ∀ x ∈ xs, x.b.length ≤ m) : (xs.flatMap encC).length ≤ (m + 4) * xs.length := by
  induction xs with
  | nil => simp
  | cons x xs ih =>
    have h1 := ih (fun y hy => h y (by simp [hy]))
    have h2 := h x (by simp)
    have h3 : (encC x).length ≤ m + 4 := by
      unfold encC; split <;> (try split) <;> simp [le2] <;> omega
    rw [List.flatMap_cons, List.length_append, List.length_cons, Nat.mul_succ]
    omega
theorem encS_long (b : Nat) (q : List Nat) (xs : List Cl) (m : Nat) (h : ∀ x ∈ xs, x.b.length ≤ m) : (encS b q xs).length ≤ 3 + q.length + (m + 4) * xs.length := by
  have := encC_most xs m h
  simp only [encS, le2, List.length_cons, List.length_append, List.length_nil]
  omega
/-- What is known of a script that is handed in. -/
def ScW (bk : Int) (p : List Int) (cs : List DC) : Prop := in64 bk ∧ (∀ x ∈ p, 0 ≤ x ∧ x < 256) ∧ (∀ c ∈ cs, in64 c.d ∧ in64 c.t ∧ in64 c.n ∧ ∀ x ∈ c.b, 0 ≤ x ∧ x < 256)
theorem ok_ScriptTells (L : Lim) (h : AHeap) (bk : Int) (p : List Int) (cs : List DC) (hw : ScW bk p cs) (hl1 : p.length ≤ 9223372036854775807) (hl2 : cs.length ≤ 9223372036854775807) : ∃ h', acall ctx L i_avouchlaw19zScriptTells [.agg (scC bk p cs)] h = some (.bool true, h') := by
  rw [call_avouchlaw19zScriptTells]
  simp only [scC]
  by_cases hp : 2000 < p.length
  · simp [C_avouchlaw19zScriptTells, ok_speaks, show (2000 : Int) < p.length by omega]
  · have dp : ¬ (2000 : Int) < p.length := by omega
    by_cases hc : 250 < cs.length
    · simp [C_avouchlaw19zScriptTells, ok_speaks, dp, show (250 : Int) < cs.length by omega]
    · have dc : ¬ (250 : Int) < cs.length := by omega
      simp [C_avouchlaw19zScriptTells, ok_speaks, dp, dc]
      generalize hF : run ctx _ (.loop _) _ _ = R
      obtain ⟨e, fr', bs, rfl, g1, ⟨rfl, hall⟩ | ⟨rfl, g2⟩⟩ := loop_Long hF cs (by omega) (by simp) (by simp) (by simp)
      · simp at g1
        have hok : ScOk p cs := ⟨by omega, by omega, fun c hc => by have := hall c hc; omega⟩
        have h1 := fun L h => ok_Of L h bk p cs (by omega)
        have h2 := fun L h => ok_Enc L h bk p cs hok
        have h3 := fun L h => ok_REnc L h bk p cs hok
        simp only [scC] at h1 h2 h3
        have hres : (resE bk p cs = .tup [.vsl false [], .int .i64 1] ∨ resE bk p cs = .tup [.vsl false [], .int .i64 9]) ∨ ∃ (b : Nat) (q : List Nat) (xs : List Cl), bk = (b : Int) ∧ p = nI q ∧ cs = xs.map ofCl ∧ b < 256 ∧ q.length < 65536 ∧ (∀ x ∈ q, x < 256) ∧ (∀ x ∈ xs, RightC x) ∧ xs.length ≤ 200 := by
          by_cases ha : bk < 0 ∨ bk > 255 ∨ p.length > 65535 ∨ (cs.any fun c => !rightI c) = true
          · exact .inl (.inl (by unfold resE; rw [if_pos ha]))
          · by_cases hb : cs.length > 200
            · exact .inl (.inr (by unfold resE; rw [if_neg ha, if_pos hb]))
            · right
              have hany : ∀ c ∈ cs, rightI c = true := fun c hc => by
                have h4 : ¬ (cs.any fun c => !rightI c) = true := fun e => ha (.inr (.inr (.inr e)))
                simp only [List.any_eq_true, not_exists, not_and, Bool.not_eq_true'] at h4
                simpa using h4 c hc
              obtain ⟨xs, hxs, hr⟩ := dcs_cls cs (fun c hc => ⟨hany c hc, (hw.2.2 c hc).2.2.2⟩)
              refine ⟨bk.toNat, p.map Int.toNat, xs, by omega, (nI_nat p hw.2.1).symm, hxs, by omega, by simp; omega, nat_lt p hw.2.1, hr, ?_⟩
              rw [hxs] at hb; simp at hb; omega
        rcases hres with (e | e) | ⟨b, q, xs, rfl, rfl, rfl, hb, hq, hq8, hr, hx⟩
        · rw [e] at h2 h3
          have hbq := beqY_refl (⟨#[]⟩ : ByteArray)
          simp [g1, h1, h2, h3, partAB, bne, b2sK, elemsA, bytesA, hbq]
        · rw [e] at h2 h3
          have hbq := beqY_refl (⟨#[]⟩ : ByteArray)
          simp [g1, h1, h2, h3, partAB, bne, b2sK, elemsA, bytesA, hbq]
        · rw [resE_of b q xs hb hq hr hx] at h2 h3
          have hlt := enc_lt b q xs hb hq8 hr
          have hdl : (encS b q xs).length ≤ 100000 := by
            have h5 := encS_long b q xs 400 (fun x hx => by
              have := hall (ofCl x) (List.mem_map_of_mem hx)
              simpa [ofCl] using this)
            have h6 : q.length ≤ 2000 := by simp at hp; omega
            have h7 : 404 * xs.length ≤ 80800 := by omega
            omega
          have hbq := beqY_refl (byA (nI (encS b q xs)))
          have d1 := fun L h c => ok_Dec L h c (encS b q xs) hlt hdl
          rw [decS_enc b q xs hq hr hx] at d1
          have hm : xs.map clA = (xs.map ofCl).map caC := by rw [List.map_map]; rfl
          simp only [decV] at d1
          rw [hm] at d1
          have hi := fun L h => ok_is L h (b : Int) (nI q) (xs.map ofCl) _ (rows_ca (xs.map ofCl)) (by simp; omega)
          simp only [scC] at hi
          generalize (xs.map ofCl).map caC = E1 at *
          simp [g1, h1, h2, h3, d1, hi, partAB, stKB, limP, setAtB, fillA, rep, AVal.cells, AVal.okV, bne, hbq]
      · simp [g2]
end Go.Av
