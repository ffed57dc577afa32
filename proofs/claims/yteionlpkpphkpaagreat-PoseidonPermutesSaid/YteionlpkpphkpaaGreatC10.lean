/- The document's shift register, matrix, table, rounds and permutation are those of the numbers; the law on the permutation returns true. -/
import Derived.Test.YteionlpkpphkpaaGreatC9
import Derived.Test.YteionlpkpphkpaaGreatC4
import Derived.Test.YteionlpkpphkpaaGreatC5
namespace Go.Av
set_option maxHeartbeats 2000000
set_option maxRecDepth 20000
set_option linter.unusedSimpArgs false
set_option linter.unusedVariables false
def eBl (l : List Bool) : List (List AVal) := l.map fun b => [.bool b]
@[simp] theorem eBl_len (l : List Bool) : (eBl l).length = l.length := by simp [eBl]
@[simp] theorem eBl_szOk (l : List Bool) : szOk 1 (eBl l) = true := by cases l <;> rfl
theorem eBl_snoc (l : List Bool) (b : Bool) : eBl l ++ [[.bool b]] = eBl (l ++ [b]) := by simp [eBl]
@[simp] theorem eBl_under (nb nt : Nat) : ∀ l : List Bool, underLL nb nt (eBl l) = true
  | [] => rfl
  | b :: l => by
    show (underL nb nt [AVal.bool b] && underLL nb nt (eBl l)) = true
    rw [eBl_under nb nt l]; rfl
theorem iadr_eBl (kd : IntKind) (c : Bool) (l : List Bool) (i : Nat) (h : i < l.length) : iadrA none 1 (.vsl c (eBl l)) (.int kd (i : Int)) = some (.vptr [.bool (gd l false i)] 0) := by
  have e : (eBl l)[i]? = some [.bool (gd l false i)] := by unfold eBl; rw [List.getElem?_map, gd_get? (d := false) h]; rfl
  simp [iadrA, asI, e]
def iniB (p : Nat) : List Bool := tab p fun j => iniG.testBit j
@[simp] theorem iniB_len (p : Nat) : (iniB p).length = p := by simp [iniB]
theorem iniB_snoc (p : Nat) : iniB p ++ [iniG.testBit p] = iniB (p + 1) := tab_snoc _ _
theorem loop_lay1 {L : Lim} {fr : Fr} {h : AHeap} {R : Option (AEx × Fr × AHeap)} (n i : Nat) (hn : n < 2 ^ 60)
    (hF : run ctx L (.loop Ba_avouchref08zlay) fr h = R) (h7 : fr 7 = .int .i64 (i : Int)) (h8 : fr 8 = .int .i64 (n : Int)) (h9 : fr 9 = .int .i64 0) (hi : i < 1000) :
    ∃ fr', R = some (.exit 2, fr', h) ∧ fr' 8 = .int .i64 ((n / 2 ^ i : Nat) : Int) ∧ ∀ t, t ∉ wr Ba_avouchref08zlay → fr' t = fr t := by
  obtain ⟨e, fr', h', rfl, ⟨rfl, rfl, h8'⟩, hk⟩ := loop_rule hF i
    (fun k fr hh => fr 9 = .int .i64 (k : Int) ∧ fr 8 = .int .i64 ((n / 2 ^ k : Nat) : Int) ∧ hh = h)
    (fun e fr hh => e = .exit 2 ∧ hh = h ∧ fr 8 = .int .i64 ((n / 2 ^ i : Nat) : Int))
    ⟨h9, by rw [Nat.pow_zero, Nat.div_one]; exact h8, rfl⟩ (by
      rintro k fr1 hh hkN hkeep ⟨g9, g8, rfl⟩
      have g7 := (hkeep 7 (by decide)).trans h7
      by_cases hlt : k < i
      · have w1 : IntKind.i64.wrap ((k : Int) + 1) = k + 1 := wrap_i64 (by omega) (by omega)
        have hle : (k : Int) < i := by omega
        have hd : n / 2 ^ (k + 1) = n / 2 ^ k / 2 := by rw [Nat.pow_succ, Nat.div_div_eq_div_mul]
        have hle2 : n / 2 ^ k ≤ n := Nat.div_le_self _ _
        have w2 : IntKind.i64.wrap (((n / 2 ^ k : Nat) : Int) / 2) = ((n / 2 ^ (k + 1) : Nat) : Int) := by
          rw [hd]
          generalize n / 2 ^ k = m at *
          exact wrap_i64 (by omega) (by omega)
        generalize hm2 : ((n / 2 ^ (k + 1) : Nat) : Int) = m2 at *
        generalize hm1 : ((n / 2 ^ k : Nat) : Int) = m1 at *
        have hm0 : 0 ≤ m1 := hm1 ▸ Int.natCast_nonneg _
        have w3 : m1.tdiv 2 = m1 / 2 := Int.tdiv_eq_ediv_of_nonneg hm0
        simp -implicitDefEqProofs [Ba_avouchref08zlay, g7, g8, g9, bin_quo, hle, w1, w2, w3]
        exact ⟨hlt, by rw [← hm2]; simp⟩
      · have : k = i := by omega
        subst this
        generalize ((n / 2 ^ k : Nat) : Int) = m2 at *
        simp [Ba_avouchref08zlay, g7, g8, g9])
  exact ⟨fr', rfl, h8', hk⟩
theorem bit_eql (n i : Nat) : ((((n / 2 ^ i % 2 : Nat) : Int)) == 1) = n.testBit i := by
  rw [Nat.testBit_eq_decide_div_mod_eq]
  by_cases e : n / 2 ^ i % 2 = 1
  · rw [e]; rfl
  · rw [decide_eq_false e]; exact beq_false_of_ne (by omega)
theorem loop_layN {L : Lim} {fr : Fr} {h : AHeap} {R : Option (AEx × Fr × AHeap)} (n w p : Nat) (hw : w ≤ 60) (hn : n < 2 ^ 60) (hp : p + w ≤ 80) (hbit : ∀ k, k < w → n.testBit (w - 1 - k) = iniG.testBit (p + k)) (hL : L.rot ≤ h.toks.length)
    (V : Nat → AVal) (H : Nat → AHeap) (hV : ∀ L, L.rot ≤ h.toks.length → ∀ q c, p ≤ q → q < 80 → appK L (H q) 1 false (V q) (.vsl c [[.bool (iniG.testBit q)]]) = some (V (q + 1), H (q + 1)))
    (hF : run ctx L (.loop Bb_avouchref08zlay) fr (H p) = R)
    (h0 : fr 0 = V p) (h1 : fr 1 = .int .i64 (n : Int)) (h7 : fr 7 = .int .i64 ((w : Int) - 1)) :
    ∃ fr', R = some (.exit 0, fr', H (p + w)) ∧ fr' 0 = V (p + w) := by
  obtain ⟨e, fr', h', rfl, ⟨rfl, rfl, h0'⟩, hk⟩ := loop_rule hF w
    (fun k fr hh => ∃ j, j + k = w ∧ fr 7 = .int .i64 ((j : Int) - 1) ∧ fr 0 = V (p + k) ∧ hh = H (p + k))
    (fun e fr hh => e = .exit 0 ∧ hh = H (p + w) ∧ fr 0 = V (p + w))
    ⟨w, rfl, h7, h0, rfl⟩ (by
      rintro k fr1 hh hkN hkeep ⟨j, hj, g7, g0, rfl⟩
      have g1 := (hkeep 1 (by decide)).trans h1
      cases j with
      | succ i =>
        rw [show (((i + 1 : Nat) : Int) - 1) = (i : Int) by omega] at g7
        have w1 : IntKind.i64.wrap ((i : Int) - 1) = (i : Int) - 1 := wrap_i64 (by omega) (by omega)
        have hnn : (i : Int) ≥ 0 := by omega
        have hlo := fun L fr R h => loop_lay1 (L := L) (fr := fr) (h := h) (R := R) n i hn
        have hb := bit_eql n i
        have hbi := hbit k (by omega)
        rw [show w - 1 - k = i by omega] at hbi
        rw [hbi] at hb
        have hap := hV L hL (p + k) true (by omega) (by omega)
        have hmod : ((n / 2 ^ i : Nat) : Int).tmod 2 = ((n / 2 ^ i % 2 : Nat) : Int) := tmodL _ 2
        have hfill : ∀ b : Bool, fillA (rep [AVal.bool false] 1) [(0, 1, .bool b)] = some [.bool b] := fun b => rfl
        generalize ((n / 2 ^ i % 2 : Nat) : Int) = m2 at *
        generalize ((n / 2 ^ i : Nat) : Int) = m1 at *
        generalize iniG.testBit (p + k) = bb at *
        simp -implicitDefEqProofs [Bb_avouchref08zlay, g0, g1, g7]
        generalize hF : run ctx _ (.loop _) _ _ = R
        obtain ⟨fr2, rfl, f8, hk2⟩ := hlo _ _ _ _ hF (by simp [g7]) (by simp) (by simp) (by omega)
        simp -implicitDefEqProofs [hk2, wr, Ba_avouchref08zlay, dsts, g0, g7, f8, bin_rem, hmod, hb, hfill, chunk1, hap, w1]
        exact ⟨by omega, i, by omega, rfl, rfl, rfl⟩
      | zero =>
        have : k = w := by omega
        subst this
        simp [Bb_avouchref08zlay, g7, g0])
  exact ⟨fr', rfl, h0'⟩
end Go.Av

namespace Go.Av
set_option maxHeartbeats 2000000
set_option maxRecDepth 20000
set_option linter.unusedSimpArgs false
set_option linter.unusedVariables false
theorem ok_lay_new (L : Lim) (h : AHeap) (bs : List (List AVal)) (n w : Nat) (hw0 : 0 < w) (hw : w ≤ 60) (hn : n < 2 ^ 60) (hbit : ∀ k, k < w → n.testBit (w - 1 - k) = iniG.testBit k) (hL : L.rot ≤ h.toks.length) :
    acall ctx L i_avouchref08zlay [.nsl, .int .i64 (n : Int), .int .i64 (w : Int)] (hx h bs []) = some (gA h.toks.length 0 (eBl (iniB w)), hx h bs [w]) := by
  rw [call_avouchref08zlay]
  have hLb : L.rot ≤ (hx h bs []).toks.length := by rw [hx_toks]; simpa using hL
  have hlo := fun L hL2 fr R => loop_layN (L := L) (fr := fr) (h := hx h bs []) (R := R) n w 0 hw hn (by omega) (by simpa using hbit) hL2
    (fun q => gL .nsl (hx h bs []).toks.length 0 (eBl (iniB q))) (fun q => hx (hx h bs []) [] (gT (eBl (iniB q)))) (fun L hL q c _ hq => by
      have := appK_nV L (hx h bs []) [] 1 c (eBl (iniB q)) [[.bool (iniG.testBit q)]] (by rw [eBl_szOk]; simp [maxRoom, hL]; omega)
      rw [eBl_snoc, iniB_snoc] at this
      exact this)
  have hg0 : gL .nsl (hx h bs []).toks.length 0 (eBl (iniB 0)) = .nsl := rfl
  have ht0 : gT (eBl (iniB 0)) = [] := rfl
  simp only [hg0, ht0, Nat.zero_add] at hlo
  have hne : eBl (iniB w) ≠ [] := fun e => by have := congrArg List.length e; simp at this; omega
  have hgw : gL .nsl (hx h bs []).toks.length 0 (eBl (iniB w)) = gA (hx h bs []).toks.length 0 (eBl (iniB w)) := by unfold gL; rw [if_neg hne]
  have htw : gT (eBl (iniB w)) = [w] := by unfold gT; rw [if_neg hne]; simp
  simp only [hgw, htw] at hlo
  have hret := retA_new (hx h bs []) [] [w] (eBl (iniB w)) (by simp)
  rw [eBl_len, iniB_len, ptok_hx] at hret
  have w1 : IntKind.i64.wrap ((w : Int) - 1) = (w : Int) - 1 := wrap_i64 (by omega) (by omega)
  have htl : (hx h bs []).toks.length = h.toks.length := by rw [hx_toks]; simp
  have hfin : some (AVal.gsl (hx h bs []).toks.length (eBl (iniB w)), hx h bs ([] ++ [w])) = some (gA h.toks.length 0 (eBl (iniB w)), hx h bs [w]) := by
    rw [htl]; rfl
  rw [← hfin, ← hret]
  clear hfin hret
  generalize eBl (iniB w) = es at *
  generalize hx h bs [] = h1 at *
  simp -implicitDefEqProofs [C_avouchref08zlay, w1]
  generalize hF : run ctx _ (.loop _) _ _ = R
  obtain ⟨fr1, rfl, h0⟩ := hlo ⟨L.rob, L.rot, h1.blks.length, h1.toks.length⟩ hLb _ _ hF (by simp) (by simp) (by simp)
  simp -implicitDefEqProofs [h0]
theorem ok_lay_old (L : Lim) (h : AHeap) (bs : List (List AVal)) (n w p : Nat) (hp0 : 0 < p) (hw : w ≤ 60) (hn : n < 2 ^ 60) (hp : p + w ≤ 80) (hbit : ∀ k, k < w → n.testBit (w - 1 - k) = iniG.testBit (p + k)) (hL : L.rot ≤ h.toks.length) :
    acall ctx L i_avouchref08zlay [gA h.toks.length 0 (eBl (iniB p)), .int .i64 (n : Int), .int .i64 (w : Int)] (hx h bs [p]) = some (gA h.toks.length 0 (eBl (iniB (p + w))), hx h bs [p + w]) := by
  rw [call_avouchref08zlay]
  have hset : ∀ q, setT (hx h bs [p]) h.toks.length q = hx h bs [q] := fun q => by
    have := setT_hx h bs [p] 0 q
    rw [Nat.add_zero] at this
    exact this
  have htk : ∀ q, (hx h bs [q]).toks[h.toks.length]? = some q := fun q => by simp [hx]
  have hlen : (hx h bs [p]).toks.length = h.toks.length + 1 := by rw [hx_toks]; rfl
  have hlo := fun L hL2 fr R => loop_layN (L := L) (fr := fr) (h := h) (R := R) n w p hw hn hp hbit hL2
    (fun q => gA h.toks.length 0 (eBl (iniB q))) (fun q => hx (hx h bs [q]) [] []) (fun L hL q c hpq hq => by
      have := appK_old L (hx h bs [q]) [] [] 1 h.toks.length c (eBl (iniB q)) [[.bool (iniG.testBit q)]] (by rw [eBl_len, iniB_len]; exact htk q) (by rw [eBl_szOk]; simp [maxRoom, hL]; omega)
      rw [eBl_snoc, iniB_snoc, eBl_len, iniB_len, show [[AVal.bool (iniG.testBit q)]].length = 1 from rfl] at this
      have e : setT (hx h bs [q]) h.toks.length (q + 1) = hx h bs [q + 1] := by
        have := setT_hx h bs [q] 0 (q + 1)
        rw [Nat.add_zero] at this
        exact this
      rw [e] at this
      exact this)
  have w1 : IntKind.i64.wrap ((w : Int) - 1) = (w : Int) - 1 := wrap_i64 (by omega) (by omega)
  have hret := retA_old (hx h bs [p]) [] [] h.toks.length (eBl (iniB (p + w))) (hx h bs [p + w]) ⟨by rw [hx_blks, hx_blks], by rw [hx_toks, hx_toks]; rfl⟩ (by omega) (by simp)
  have hfin : some (AVal.gsl h.toks.length (eBl (iniB (p + w))), hx h bs [p + w]) = some (gA h.toks.length 0 (eBl (iniB (p + w))), hx h bs [p + w]) := rfl
  have hgg : ∀ es, AVal.gsl h.toks.length es = gA h.toks.length 0 es := fun es => rfl
  rw [hgg] at hret
  generalize eBl (iniB (p + w)) = es at *
  generalize eBl (iniB p) = es0 at *
  generalize hx h bs [p + w] = h2 at *
  generalize hx h bs [p] = h1 at *
  simp -implicitDefEqProofs [C_avouchref08zlay, w1]
  generalize hF : run ctx _ (.loop _) _ _ = R
  obtain ⟨fr1, rfl, h0⟩ := hlo ⟨L.rob, L.rot, h1.blks.length, h1.toks.length⟩ hL _ _ hF (by simp) (by simp) (by simp)
  simp -implicitDefEqProofs [h0, hret]
/-! #### turned -/
def rgB (s : Nat) : List Bool := tab 80 fun j => s.testBit j
@[simp] theorem rgB_len (s : Nat) : (rgB s).length = 80 := by simp [rgB]
def tapL : List Int := [62, 51, 38, 23, 13, 0]
def cntR (s : Nat) : Nat → Nat
  | 0 => 0
  | k + 1 => cntR s k + (s.testBit (gd tapL 0 k).toNat).toNat
theorem cntR_le (s : Nat) : ∀ k, cntR s k ≤ k
  | 0 => Nat.le_refl _
  | k + 1 => by
    have := cntR_le s k
    have h2 : (s.testBit (gd tapL 0 k).toNat).toNat ≤ 1 := by cases s.testBit (gd tapL 0 k).toNat <;> decide
    rw [cntR]; omega
theorem cntR_bit (s : Nat) : decide (cntR s 6 % 2 = 1) = bitG s := by
  rw [← pxN_all]
  show decide ((0 + (s.testBit 62).toNat + (s.testBit 51).toNat + (s.testBit 38).toNat + (s.testBit 23).toNat + (s.testBit 13).toNat + (s.testBit 0).toNat) % 2 = 1) = (s.testBit 0 ^^ s.testBit 13 ^^ s.testBit 23 ^^ s.testBit 38 ^^ s.testBit 51 ^^ s.testBit 62)
  cases s.testBit 0 <;> cases s.testBit 13 <;> cases s.testBit 23 <;> cases s.testBit 38 <;> cases s.testBit 51 <;> cases s.testBit 62 <;> rfl
theorem loop_RTurn1 {fr : Fr} {h : AHeap} {R : Option (AEx × Fr × AHeap)} (s : Nat) (z : List AVal)
    (hF : run ctx (limP h) (.loop Ba_avouchref08zTurn) fr (hx h [cB (rgB s), z] []) = R)
    (h1 : fr 1 = pA h.blks.length 0 0) (h4 : fr 4 = .int .i64 0) (h8 : fr 8 = .vsl true (eI .i64 tapL)) (h9 : fr 9 = .int .i64 6) (h10 : fr 10 = .int .i64 0) :
    ∃ fr', R = some (.exit 0, fr', hx h [cB (rgB s), z] []) ∧ fr' 4 = .int .i64 ((cntR s 6 : Nat) : Int) ∧ ∀ t, t ∉ wr Ba_avouchref08zTurn → fr' t = fr t := by
  obtain ⟨e, fr', h', rfl, ⟨rfl, rfl, h4'⟩, hk⟩ := loop_rule hF 6
    (fun k fr hh => fr 10 = .int .i64 (k : Int) ∧ fr 4 = .int .i64 ((cntR s k : Nat) : Int) ∧ hh = hx h [cB (rgB s), z] [])
    (fun e fr hh => e = .exit 0 ∧ hh = hx h [cB (rgB s), z] [] ∧ fr 4 = .int .i64 ((cntR s 6 : Nat) : Int))
    ⟨h10, h4, rfl⟩ (by
      rintro k fr1 hh hkN hkeep ⟨g10, g4, rfl⟩
      have g1 := (hkeep 1 (by decide)).trans h1
      have g8 := (hkeep 8 (by decide)).trans h8
      have g9 := (hkeep 9 (by decide)).trans h9
      by_cases hlt : k < 6
      · have w1 : IntKind.i64.wrap ((k : Int) + 1) = k + 1 := wrap_i64 (by omega) (by omega)
        have hi := iadr_eI .i64 .i64 true tapL k (by simp [tapL]; omega)
        have hr : (gd tapL 0 k).toNat < 80 ∧ 0 ≤ gd tapL 0 k := by
          have : k = 0 ∨ k = 1 ∨ k = 2 ∨ k = 3 ∨ k = 4 ∨ k = 5 := by omega
          rcases this with rfl | rfl | rfl | rfl | rfl | rfl <;> decide
        have hc : cntR s (k + 1) = cntR s k + (s.testBit (gd tapL 0 k).toNat).toNat := rfl
        have hcl := cntR_le s k
        have hcast : gd tapL 0 k = ((gd tapL 0 k).toNat : Int) := by omega
        have ia := iadr_pA 80 1 h.blks.length 0 0 (gd tapL 0 k).toNat .i64 (by simpa using hr.1)
        rw [← hcast, Nat.zero_add, Nat.mul_one] at ia
        have hat := cB_at (l := rgB s) (i := (gd tapL 0 k).toNat) (by simpa using hr.1)
        have hg : gd (rgB s) false (gd tapL 0 k).toNat = s.testBit (gd tapL 0 k).toNat := gd_tab hr.1
        rw [hg] at hat
        generalize hcc : ((cntR s (k + 1) : Nat) : Int) = cc at *
        have hc2 : cc = (cntR s k : Int) + ((s.testBit (gd tapL 0 k).toNat).toNat : Int) := by rw [← hcc, hc]; simp
        generalize hb : s.testBit (gd tapL 0 k).toNat = b at *
        generalize (gd tapL 0 k).toNat = tp at *
        generalize gd tapL 0 k = tpi at *
        generalize cB (rgB s) = cs at *
        have e1 : (k : Int) < 6 := by omega
        cases b with
        | true =>
          have w2 : IntKind.i64.wrap (((cntR s k : Nat) : Int) + 1) = cc := (wrap_i64 (by omega) (by omega)).trans (by rw [hc2]; rfl)
          generalize ((cntR s k : Nat) : Int) = c0 at *
          simp -implicitDefEqProofs [Ba_avouchref08zTurn, g1, g4, g8, g9, g10, e1, w1, w2, hi, ia, hat, partA_one]
          exact ⟨hlt, by rw [hcc]⟩
        | false =>
          have w2 : ((cntR s k : Nat) : Int) = cc := by rw [hc2]; simp
          generalize ((cntR s k : Nat) : Int) = c0 at *
          subst w2
          simp -implicitDefEqProofs [Ba_avouchref08zTurn, g1, g4, g8, g9, g10, e1, w1, hi, ia, hat, partA_one]
          exact ⟨hlt, by rw [hcc]⟩
      · have : k = 6 := by omega
        subst this
        generalize ((cntR s 6 : Nat) : Int) = c0 at *
        simp [Ba_avouchref08zTurn, g4, g9, g10])
  exact ⟨fr', rfl, h4', hk⟩
theorem loop_RTurn2 {fr : Fr} {h : AHeap} {R : Option (AEx × Fr × AHeap)} (s : Nat) (z : List AVal)
    (hF : run ctx (limP h) (.loop Bb_avouchref08zTurn) fr (hx h [cB (mixT 80 (fun j => s.testBit (j + 1)) (fun j => s.testBit j) 0), z] []) = R)
    (h1 : fr 1 = pA h.blks.length 0 0) (h7 : fr 7 = .int .i64 0) :
    ∃ fr', R = some (.exit 2, fr', hx h [cB (mixT 80 (fun j => s.testBit (j + 1)) (fun j => s.testBit j) 79), z] []) ∧ ∀ t, t ∉ wr Bb_avouchref08zTurn → fr' t = fr t := by
  obtain ⟨e, fr', h', rfl, ⟨rfl, rfl⟩, hk⟩ := loop_rule hF 79
    (fun k fr hh => fr 7 = .int .i64 (k : Int) ∧ hh = hx h [cB (mixT 80 (fun j => s.testBit (j + 1)) (fun j => s.testBit j) k), z] [])
    (fun e fr hh => e = .exit 2 ∧ hh = hx h [cB (mixT 80 (fun j => s.testBit (j + 1)) (fun j => s.testBit j) 79), z] [])
    ⟨h7, rfl⟩ (by
      rintro k fr1 hh hkN hkeep ⟨g7, rfl⟩
      have g1 := (hkeep 1 (by decide)).trans h1
      by_cases hlt : k < 79
      · have w1 : IntKind.i64.wrap ((k : Int) + 1) = ((k + 1 : Nat) : Int) := wrap_i64 (by omega) (by omega)
        have i1 := iadr_pA 80 1 h.blks.length 0 0 k .i64 (by simp; omega)
        have i2 := iadr_pA 80 1 h.blks.length 0 0 (k + 1) .i64 (by simp; omega)
        rw [Nat.zero_add, Nat.mul_one] at i1 i2
        have hat := cB_at (l := mixT 80 (fun j => s.testBit (j + 1)) (fun j => s.testBit j) k) (i := k + 1) (by simp; omega)
        have hg : gd (mixT 80 (fun j => s.testBit (j + 1)) (fun j => s.testBit j) k) false (k + 1) = s.testBit (k + 1) := by
          unfold mixT; rw [gd_tab (by omega), if_neg (by omega)]
        rw [hg] at hat
        have hset := cB_set (mixT 80 (fun j => s.testBit (j + 1)) (fun j => s.testBit j) k) k (s.testBit (k + 1))
        rw [mixT_set 80 (fun j => s.testBit (j + 1)) (fun j => s.testBit j) k] at hset
        have hlen : (cB (mixT 80 (fun j => s.testBit (j + 1)) (fun j => s.testBit j) k)).length = 80 := by simp
        have hrob : (limP h).rob ≤ h.blks.length := Nat.le_refl _
        generalize hm2 : cB (mixT 80 (fun j => s.testBit (j + 1)) (fun j => s.testBit j) (k + 1)) = m2 at *
        generalize cB (mixT 80 (fun j => s.testBit (j + 1)) (fun j => s.testBit j) k) = m1 at *
        generalize s.testBit (k + 1) = bb at *
        generalize hk1 : ((k + 1 : Nat) : Int) = k1 at *
        simp -implicitDefEqProofs [Bb_avouchref08zTurn, g1, g7, show (k : Int) < 79 by omega, w1, i1, i2, hat, partA_one, storeA_fl, hrob, hlen, show k + 1 ≤ 80 by omega, hset]
        exact ⟨hlt, by rw [← hk1]; rfl, by rw [hm2]⟩
      · have : k = 79 := by omega
        subst this
        generalize cB (mixT 80 (fun j => s.testBit (j + 1)) (fun j => s.testBit j) 79) = m1 at *
        simp [Bb_avouchref08zTurn, g7])
  exact ⟨fr', rfl, hk⟩
theorem rgB_turn (s : Nat) (hs : s < 2 ^ 80) : (mixT 80 (fun j => s.testBit (j + 1)) (fun j => s.testBit j) 79).set 79 (bitG s) = rgB (turnN s) := by
  unfold mixT rgB
  rw [tab_set]
  refine tab_congr fun i hi => ?_
  rw [turnN_bit s i hs]
  by_cases e : i = 79
  · subst e; rw [if_pos rfl]; cases bitG s <;> rfl
  · rw [if_neg e, if_pos (by omega), if_pos (by omega)]
theorem ok_RTurn (L : Lim) (h : AHeap) (s : Nat) (hs : s < 2 ^ 80) : acall ctx L i_avouchref08zTurn [.agg (cB (rgB s))] h = some (.tup [.agg (cB (rgB (turnN s))), .bool (bitG s)], h) := by
  rw [call_avouchref08zTurn]
  have hlo1 := fun fr R z => loop_RTurn1 (fr := fr) (h := h) (R := R) s z
  have hlo2 := fun fr R z => loop_RTurn2 (fr := fr) (h := h) (R := R) s z
  rw [mixT_zero] at hlo2
  have hrg : tab 80 (fun j => s.testBit j) = rgB s := rfl
  rw [hrg] at hlo2
  have hset := cB_set (mixT 80 (fun j => s.testBit (j + 1)) (fun j => s.testBit j) 79) 79 (bitG s)
  rw [rgB_turn s hs] at hset
  have hlm : (cB (mixT 80 (fun j => s.testBit (j + 1)) (fun j => s.testBit j) 79)).length = 80 := by simp
  have l1 : (rgB s).length = 80 := rgB_len s
  have l2 : (rgB (turnN s)).length = 80 := rgB_len _
  have hokv : (AVal.agg (cB (rgB s))).okV = true := okV_agg _
  have hcel : (AVal.agg (cB (rgB s))).cells = cB (rgB s) := by simp only [AVal.cells]
  have hmod : ((cntR s 6 : Nat) : Int).tmod 2 = ((cntR s 6 % 2 : Nat) : Int) := tmodL _ 2
  have hbit : (((cntR s 6 % 2 : Nat) : Int) == 1) = bitG s := by
    rw [← cntR_bit]
    by_cases e : cntR s 6 % 2 = 1
    · rw [e]; rfl
    · rw [decide_eq_false e]; exact beq_false_of_ne (by omega)
  generalize ((cntR s 6 % 2 : Nat) : Int) = cm at *
  generalize ((cntR s 6 : Nat) : Int) = cc at *
  generalize cB (mixT 80 (fun j => s.testBit (j + 1)) (fun j => s.testBit j) 79) = m1 at *
  generalize rgB (turnN s) = r2 at *
  generalize rgB s = r1 at *
  generalize bitG s = bg at *
  have hr0 := rep1_B 80
  have hfill : fillA (rep [AVal.int .i64 0] 6) [(0, 1, .int .i64 62), (1, 1, .int .i64 51), (2, 1, .int .i64 38), (3, 1, .int .i64 23), (4, 1, .int .i64 13), (5, 1, .int .i64 0)] = some (cI .i64 tapL) := rfl
  have hch : chunks 1 6 (cI .i64 tapL) = eI .i64 tapL := rfl
  have htl : tapL.length = 6 := rfl
  have i79 : iadrA (some 80) 1 (pA h.blks.length 0 0) (.int .i64 79) = some (pA h.blks.length 0 79) := iadr_pA 80 1 h.blks.length 0 0 79 .i64 rfl
  simp -implicitDefEqProofs [C_avouchref08zTurn, copA_box, hokv, hcel, hr0, hfill, hch, htl]
  generalize hF : run ctx _ (.loop _) _ _ = R
  obtain ⟨fr1, rfl, f4, hk1⟩ := hlo1 _ _ _ hF (by simp) (by simp) (by simp) (by simp) (by simp)
  simp -implicitDefEqProofs [hk1, wr, Ba_avouchref08zTurn, dsts]
  generalize hF : run ctx _ (.loop _) _ _ = R
  obtain ⟨fr2, rfl, hk2⟩ := hlo2 _ _ _ hF (by simp [hk1, wr, Ba_avouchref08zTurn, dsts]) (by simp)
  simp -implicitDefEqProofs [hk1, hk2, wr, Ba_avouchref08zTurn, Bb_avouchref08zTurn, dsts, f4, bin_rem, hmod, hbit, i79, hset, hlm, partAB, l2, stKB, setAtB, limP]
end Go.Av

namespace Go.Av
set_option maxHeartbeats 2000000
set_option maxRecDepth 20000
set_option linter.unusedSimpArgs false
set_option linter.unusedVariables false
theorem underL_cB : ∀ l : List Bool, underL 0 0 (cB l) = true
  | [] => rfl
  | b :: l => by
    show (AVal.under 0 0 (.bool b) && underL 0 0 (cB l)) = true
    rw [underL_cB l]; rfl
theorem run_RBt {h : AHeap} (L : Lim) (hL : L.rob ≤ h.blks.length) : ∀ (f s : Nat) (js : List (List AVal)) (fr : Fr) (q : Nat × Bool) (z : List Bool), bitN f s = some q → s < 2 ^ 80 → z.length = 80 → fr 1 = pA h.blks.length 0 0 → fr 2 = pA h.blks.length 1 0 →
    ∃ fr' js', run ctx L (.loop Ba_avouchref08zBit) fr (hx h (cB (rgB s) :: cB z :: js) []) = some (.ret, fr', hx h (cB (rgB q.1) :: cB (rgB q.1) :: js') []) ∧ fr' 2 = pA h.blks.length 1 0 ∧ fr' 3 = .bool q.2
  | 0, s, js, fr, q, z, hq, _, _, _, _ => by simp [bitN] at hq
  | f + 1, s, js, fr, q, z, hq, hs, hz, h1, h2 => by
    have hT1 := fun L h => ok_RTurn L h s hs
    have hs2 := turnN_lt s hs
    have hT2 := fun L h => ok_RTurn L h (turnN s) hs2
    have hs3 := turnN_lt _ hs2
    have l0 : (rgB s).length = 80 := rgB_len _
    have l1 : (rgB (turnN s)).length = 80 := rgB_len _
    have l2 : (rgB (turnN (turnN s))).length = 80 := rgB_len _
    have hr0 := rep1_B 80
    have lz : (tab 80 fun _ => false).length = 80 := by simp
    unfold bitN at hq
    rw [run_loopE]
    have hn1 : js.length + 1 + 1 = js.length + 2 := rfl
    have hg1 := fun x => app_getR (cB (rgB s) :: cB z :: js) [x] (js.length + 2) 0 rfl
    have hs1 := fun x v => app_setR (cB (rgB s) :: cB z :: js) [x] (js.length + 2) 0 v rfl
    have hg2 := fun x y => app_getR (cB (rgB s) :: cB z :: js) [x, y] (js.length + 2) 0 rfl
    have hg3 := fun x y => app_getR (cB (rgB s) :: cB z :: js) [x, y] (js.length + 2) 1 rfl
    have hs3' := fun x y v => app_setR (cB (rgB s) :: cB z :: js) [x, y] (js.length + 2) 1 v rfl
    simp only [Nat.add_zero, List.getElem?_cons_zero, List.getElem?_cons_succ, List.set_cons_zero, List.set_cons_succ, List.cons_append] at hg1 hs1 hg2 hg3 hs3'
    cases hb : bitG s with
    | true =>
      rw [hb] at hq hT1
      obtain rfl := Option.some.inj hq
      simp only
      generalize rgB (turnN (turnN s)) = r2 at *
      generalize rgB (turnN s) = r1 at *
      generalize rgB s = r0 at *
      generalize bitG (turnN s) = b2 at *
      generalize (tab 80 fun _ => false) = z0 at *
      simp -implicitDefEqProofs [Ba_avouchref08zBit, h1, h2, partAB, l0, l1, l2, lz, hz, hT1, hT2, extK0, extK1, hr0, stKB, setAtB, storeA_fl, hL, underL_cB, hg1, hs1, hg2, hg3, hs3']
      exact ⟨_, ⟨rfl, _, rfl⟩, by simp [h2], by simp⟩
    | false =>
      rw [hb] at hq hT1
      simp only at hq
      have ih := run_RBt L hL f (turnN (turnN s))
      generalize rgB (turnN (turnN s)) = r2 at *
      generalize rgB (turnN s) = r1 at *
      generalize rgB s = r0 at *
      generalize bitG (turnN s) = b2 at *
      generalize hz0 : (tab 80 fun _ => false) = z0 at *
      have ih' := fun js fr R (hF : run ctx L (.loop Ba_avouchref08zBit) fr (hx h (cB r2 :: cB z :: js) []) = R) hf1 hf2 => hF ▸ ih js fr q z hq hs3 hz hf1 hf2
      generalize hB : AC.loop Ba_avouchref08zBit = LL at *
      simp -implicitDefEqProofs [Ba_avouchref08zBit, h1, h2, partAB, l0, l1, l2, lz, hz, hT1, hT2, extK0, extK1, hr0, stKB, setAtB, storeA_fl, hL, underL_cB, hg1, hs1, hg2, hg3, hs3']
      generalize hF : run ctx _ LL _ _ = R
      obtain ⟨fr', js', e, f2, f3⟩ := ih' _ _ _ hF (by simp [h1]) (by simp [h2])
      exact ⟨fr', ⟨js', e⟩, f2, f3⟩
theorem ok_RBt (L : Lim) (h : AHeap) (f s : Nat) (q : Nat × Bool) (hq : bitN f s = some q) (hs : s < 2 ^ 80) : acall ctx L i_avouchref08zBit [.agg (cB (rgB s))] h = some (.tup [.agg (cB (rgB q.1)), .bool q.2], h) := by
  rw [call_avouchref08zBit]
  have hokv : (AVal.agg (cB (rgB s))).okV = true := okV_agg _
  have hcel : (AVal.agg (cB (rgB s))).cells = cB (rgB s) := by simp only [AVal.cells]
  have hr0 := rep1_B 80
  have hlo := fun fr => run_RBt (h := h) (limP h) (Nat.le_refl _) f s [] fr q (tab 80 fun _ => false) hq hs (by simp)
  have l2 : (rgB q.1).length = 80 := rgB_len _
  generalize rgB q.1 = r2 at *
  generalize rgB s = r1 at *
  generalize (tab 80 fun _ => false) = z0 at *
  simp -implicitDefEqProofs [C_avouchref08zBit, copA_box, hokv, hcel, hr0]
  obtain ⟨fr', js', e, f2, f3⟩ := hlo (upd (upd (upd (frm [AVal.agg (cB r1)]) 1 (pA h.blks.length 0 0)) 2 (pA h.blks.length 1 0)) 3 (.bool false)) (by simp) (by simp)
  simp -implicitDefEqProofs [e, f2, f3, partAB, l2]
/-! #### elements -/
theorem el_step {N j s : Nat} {d : List W64} {R i : Nat} (b : Bool) (hR : R = 32 * j + s) (hs : s < 32) (hi : i + 1 = R) (hd : Dg d) (hl : d.length = 8) (hj : j < 8)
    (hI : vD d + (gd d 0#64 j).toNat * dB ^ j * 2 ^ s = N * 2 ^ R + (gd d 0#64 j).toNat * dB ^ j) (hlt : (gd d 0#64 j).toNat < 2 ^ (32 - s)) (h0 : ∀ q, q < j → gd d 0#64 q = 0#64) :
    ∃ x : W64, x = (if b = true then gd d 0#64 (i / 32) * 2#64 + 1#64 else gd d 0#64 (i / 32) * 2#64) ∧ x.toNat < dB ∧
      vD (d.set (i / 32) x) + x.toNat * dB ^ (i / 32) * 2 ^ (i % 32) = (2 * N + b.toNat) * 2 ^ i + x.toNat * dB ^ (i / 32) ∧ x.toNat < 2 ^ (32 - i % 32) ∧ (∀ q, q < i / 32 → gd (d.set (i / 32) x) 0#64 q = 0#64) := by
  refine ⟨_, rfl, ?_⟩
  have hB32 : dB = 2 ^ 32 := rfl
  -- the digit that is written, ahead of it
  have key : ∀ (q t o : Nat) (hq : q < 8) (hqi : i / 32 = q) (ht : i % 32 = t) (ho : (gd d 0#64 q).toNat = o) (hoB : o * 2 < 2 ^ (32 - t)) (hE : vD d + (2 * o) * dB ^ q * 2 ^ t = (2 * N) * 2 ^ i + o * dB ^ q) (hz : ∀ p, p < q → gd d 0#64 p = 0#64),
      (if b = true then gd d 0#64 (i / 32) * 2#64 + 1#64 else gd d 0#64 (i / 32) * 2#64).toNat < dB ∧
      vD (d.set (i / 32) (if b = true then gd d 0#64 (i / 32) * 2#64 + 1#64 else gd d 0#64 (i / 32) * 2#64)) + (if b = true then gd d 0#64 (i / 32) * 2#64 + 1#64 else gd d 0#64 (i / 32) * 2#64).toNat * dB ^ (i / 32) * 2 ^ (i % 32) = (2 * N + b.toNat) * 2 ^ i + (if b = true then gd d 0#64 (i / 32) * 2#64 + 1#64 else gd d 0#64 (i / 32) * 2#64).toNat * dB ^ (i / 32) ∧
      (if b = true then gd d 0#64 (i / 32) * 2#64 + 1#64 else gd d 0#64 (i / 32) * 2#64).toNat < 2 ^ (32 - i % 32) ∧ (∀ p, p < i / 32 → gd (d.set (i / 32) (if b = true then gd d 0#64 (i / 32) * 2#64 + 1#64 else gd d 0#64 (i / 32) * 2#64)) 0#64 p = 0#64) := by
    intro q t o hq hqi ht ho hoB hE hz
    rw [hqi, ht]
    have htn : (if b = true then gd d 0#64 q * 2#64 + 1#64 else gd d 0#64 q * 2#64).toNat = 2 * o + b.toNat := by
      have hp : (2 : Nat) ^ (32 - t) ≤ 2 ^ 32 := Nat.pow_le_pow_right (by decide) (by omega)
      cases b with
      | true =>
        rw [if_pos rfl, BitVec.toNat_add, BitVec.toNat_mul, ho]
        simp only [BitVec.toNat_ofNat, Bool.toNat_true]
        omega
      | false =>
        rw [if_neg (by simp), BitVec.toNat_mul, ho]
        simp only [BitVec.toNat_ofNat, Bool.toNat_false]
        omega
    have hb1 : b.toNat ≤ 1 := by cases b <;> decide
    generalize (if b = true then gd d 0#64 q * 2#64 + 1#64 else gd d 0#64 q * 2#64) = x at *
    have ht31 : t < 32 := by omega
    obtain ⟨u, hu⟩ : ∃ u, 32 - t = u + 1 := ⟨31 - t, by omega⟩
    have hx2 : x.toNat < 2 ^ (32 - t) := by
      rw [hu, Nat.pow_succ] at hoB ⊢
      omega
    have hpt : (2 : Nat) ^ (32 - t) ≤ 2 ^ 32 := Nat.pow_le_pow_right (by decide) (by omega)
    refine ⟨Nat.lt_of_lt_of_le hx2 hpt, ?_, hx2, fun p hp => ?_⟩
    · have e1 := vD_set x d q (by omega)
      rw [ho] at e1
      have e2 : 2 ^ i = dB ^ q * 2 ^ t := by
        rw [hB32, ← Nat.pow_mul, ← Nat.pow_add]
        congr 1; omega
      rw [htn] at e1 ⊢
      rw [Nat.add_mul (2 * N), Nat.add_mul (2 * o), Nat.add_mul ((2 * o) * dB ^ q)]
      rw [Nat.add_mul] at e1
      have e3 : b.toNat * 2 ^ i = b.toNat * dB ^ q * 2 ^ t := by rw [e2, Nat.mul_assoc]
      have e4 : 2 * o * dB ^ q = 2 * (o * dB ^ q) := Nat.mul_assoc _ _ _
      rw [e3]
      omega
    · rw [gd_set _ _ _ _ _ (by omega), if_neg (by omega)]; exact hz p hp
  by_cases hs0 : s = 0
  · subst hs0
    have hj0 : 0 < j := by omega
    have e1 : i / 32 = j - 1 := by omega
    have e2 : i % 32 = 31 := by omega
    have hz := h0 (j - 1) (by omega)
    refine key (j - 1) 31 0 (by omega) e1 e2 (by rw [hz]; rfl) (by decide) ?_ (fun p hp => h0 p (by omega))
    rw [Nat.pow_zero, Nat.mul_one] at hI
    have e3 : 2 ^ R = 2 * 2 ^ i := by rw [← hi, Nat.pow_succ, Nat.mul_comm]
    rw [e3, ← Nat.mul_assoc, Nat.mul_comm N 2] at hI
    simp
    omega
  · have e1 : i / 32 = j := by omega
    have e2 : i % 32 = s - 1 := by omega
    obtain ⟨t, rfl⟩ : ∃ t, s = t + 1 := ⟨s - 1, by omega⟩
    refine key j t (gd d 0#64 j).toNat hj e1 (by omega) rfl ?_ ?_ h0
    · obtain ⟨u, hu⟩ : ∃ u, 32 - (t + 1) = u := ⟨_, rfl⟩
      rw [hu] at hlt
      rw [show 32 - t = u + 1 by omega, Nat.pow_succ]
      omega
    · have e3 : 2 ^ R = 2 * 2 ^ i := by rw [← hi, Nat.pow_succ, Nat.mul_comm]
      rw [e3, ← Nat.mul_assoc, Nat.mul_comm N 2, Nat.pow_succ] at hI
      have e4 : 2 * (gd d 0#64 j).toNat * dB ^ j * 2 ^ t = (gd d 0#64 j).toNat * dB ^ j * (2 ^ t * 2) := by
        generalize (gd d 0#64 j).toNat = o
        rw [Nat.mul_assoc 2, Nat.mul_assoc 2, ← Nat.mul_assoc (o * dB ^ j), Nat.mul_comm 2]
      rw [e4]
      exact hI
end Go.Av

namespace Go.Av
set_option maxHeartbeats 2000000
set_option maxRecDepth 20000
set_option linter.unusedSimpArgs false
set_option linter.unusedVariables false
theorem addC1 (x : W64) : binA .add (wd x) (.int .u64 1) = some (wd (x + 1#64)) := wd_add x 1#64
/-- The number so far, in digits. -/
def ElI (N R : Nat) (d : List W64) : Prop :=
  d.length = 8 ∧ Dg d ∧ vD d + (gd d 0#64 (R / 32)).toNat * dB ^ (R / 32) * 2 ^ (R % 32) = N * 2 ^ R + (gd d 0#64 (R / 32)).toNat * dB ^ (R / 32) ∧
    (gd d 0#64 (R / 32)).toNat < 2 ^ (32 - R % 32) ∧ ∀ q, q < R / 32 → gd d 0#64 q = 0#64
theorem ElI_zero : ElI 0 254 (tab 8 fun _ => 0#64) := by
  refine ⟨by simp, Dg.tab (fun _ _ => by decide), ?_, ?_, fun q hq => gd_tab (by omega)⟩
  · rw [gd_tab (by decide), vD_tab]
    have : ∀ n, sD (fun _ => 0#64) n = 0 := fun n => by induction n with
      | zero => rfl
      | succ n ih => rw [sD, ih]; simp
    rw [this]; simp
  · rw [gd_tab (by decide)]; decide
theorem ElI_end {N : Nat} {d : List W64} (h : ElI N 0 d) : vD d = N := by
  have := h.2.2.1
  simp at this
  omega
theorem ElI_step {N i : Nat} {d : List W64} (b : Bool) (hi : i < 254) (h : ElI N (i + 1) d) :
    ∃ x : W64, x = (if b = true then gd d 0#64 (i / 32) * 2#64 + 1#64 else gd d 0#64 (i / 32) * 2#64) ∧ ElI (2 * N + b.toNat) i (d.set (i / 32) x) := by
  obtain ⟨hl, hd, hI, hlt, h0⟩ := h
  obtain ⟨x, hx, h1, h2, h3, h4⟩ := el_step (R := i + 1) (i := i) (j := (i + 1) / 32) (s := (i + 1) % 32) b (by omega) (by omega) rfl hd hl (by omega) hI hlt h0
  have hg : gd (d.set (i / 32) x) 0#64 (i / 32) = x := by rw [gd_set _ _ _ _ _ (by omega), if_pos rfl]
  exact ⟨x, hx, by simp [hl], hd.set (by omega) h1, by rw [hg]; exact h2, by rw [hg]; exact h3, h4⟩
theorem loop_REl1 {L : Lim} {fr : Fr} {h : AHeap} {R : Option (AEx × Fr × AHeap)} (s : Nat) (q : Nat × Nat) (hq : bitsN s 254 = some q) (hs : s < 2 ^ 80) (D : Nat) (hD : 0 < D) (cs : List (List AVal)) (hc0 : cs[0]? = some (cB (rgB s))) (hcD : cs[D]? = some (cW (tab 8 fun _ => 0#64))) (hL : L.rob ≤ h.blks.length)
    (hF : run ctx L (.loop Ba_avouchref08zElement) fr (hx h cs []) = R)
    (h1 : fr 1 = pA h.blks.length 0 0) (h4 : fr 4 = sA h.blks.length D 0 1 8 (some 8)) (h5 : fr 5 = .int .i64 253) :
    ∃ fr' bs d, R = some (.exit 2, fr', hx h bs []) ∧ bs[0]? = some (cB (rgB q.1)) ∧ bs[D]? = some (cW d) ∧ ElI q.2 0 d ∧ cs.length ≤ bs.length ∧ (∀ i, 0 < i → i < D → bs[i]? = cs[i]?) ∧ ∀ t, t ∉ wr Ba_avouchref08zElement → fr' t = fr t := by
  obtain ⟨e', fr', h', rfl, ⟨rfl, bs, d, rfl, p1, p2, p3, p4, p5⟩, hk⟩ := loop_rule hF 254
    (fun k fr hh => ∃ R p, R + k = 254 ∧ fr 5 = .int .i64 ((R : Int) - 1) ∧ bitsN s k = some p ∧ ∃ bs d, hh = hx h bs [] ∧ bs[0]? = some (cB (rgB p.1)) ∧ bs[D]? = some (cW d) ∧ ElI p.2 R d ∧ cs.length ≤ bs.length ∧ (∀ i, 0 < i → i < D → bs[i]? = cs[i]?))
    (fun e' fr hh => e' = .exit 2 ∧ ∃ bs d, hh = hx h bs [] ∧ bs[0]? = some (cB (rgB q.1)) ∧ bs[D]? = some (cW d) ∧ ElI q.2 0 d ∧ cs.length ≤ bs.length ∧ (∀ i, 0 < i → i < D → bs[i]? = cs[i]?))
    ⟨254, (s, 0), rfl, h5, rfl, cs, _, rfl, hc0, hcD, ElI_zero, Nat.le_refl _, fun i _ _ => rfl⟩ (by
      rintro k fr1 hh hkN hkeep ⟨R, p, hR, g5, hp, bs, d, rfl, b0, bD, hI, hbl, hbo⟩
      have g1 := (hkeep 1 (by decide)).trans h1
      have g4 := (hkeep 4 (by decide)).trans h4
      cases R with
      | succ i =>
        rw [show (((i + 1 : Nat) : Int) - 1) = (i : Int) by omega] at g5
        have w1 : IntKind.i64.wrap ((i : Int) - 1) = (i : Int) - 1 := wrap_i64 (by omega) (by omega)
        have w2 : IntKind.i64.wrap ((i : Int) / 32) = ((i / 32 : Nat) : Int) := wrap_i64 (by omega) (by omega)
        have hnn : (i : Int) ≥ 0 := by omega
        obtain ⟨p2, hp2⟩ := bitsN_pre hq (k + 1) (by omega)
        obtain ⟨p', r, e1, e2, rfl⟩ := bitsN_succ hp2
        rw [hp] at e1
        obtain rfl := Option.some.inj e1
        obtain ⟨hs1, hn1⟩ := bitsN_lt hs hp
        have hB := fun L h => ok_RBt L h 100 p.1 r e2 hs1
        obtain ⟨x, hx1, hI2⟩ := ElI_step r.2 (by omega) hI
        have hdl := hI.1
        obtain ⟨hbD1, _⟩ := List.getElem?_eq_some_iff.1 bD
        obtain ⟨hb01, _⟩ := List.getElem?_eq_some_iff.1 b0
        have hio := iadr_wr h.blks.length D 0 8 (i / 32) (some 8) (by simp; omega)
        rw [Nat.zero_add] at hio
        have hat := cW_at (l := d) (i := i / 32) (by omega)
        have hob : i / 32 + 1 ≤ 8 := by omega
        have l0 : (cB (rgB p.1)).length = 80 := by simp
        have l1 : (rgB r.1).length = 80 := rgB_len _
        have lz : (tab 80 fun _ => false).length = 80 := by simp
        have lc : (cW d).length = 8 := by simp [hdl]
        have hr0 := rep1_B 80
        have G0 : ∀ y, (bs ++ [y])[0]? = some (cB (rgB p.1)) := fun y => app_get [y] b0
        obtain ⟨P, hP⟩ : ∃ P : List AVal → List (List AVal), ∀ y, bs ++ [y] = P y := ⟨_, fun _ => rfl⟩
        have hP0 : ∀ y, (P y)[0]? = some (cB (rgB p.1)) := fun y => by rw [← hP]; exact G0 y
        have hPl : ∀ y, (P y)[bs.length]? = some y := fun y => by rw [← hP]; simp
        have hPs : ∀ y v, (P y).set bs.length v = P v := fun y v => by rw [← hP, ← hP]; simp
        obtain ⟨H3, hH3⟩ : ∃ H3, (bs ++ [cB (rgB r.1)]).set 0 (cB (rgB r.1)) = H3 := ⟨_, rfl⟩
        have hH3D : H3[D]? = some (cW d) := by rw [← hH3, List.getElem?_set_ne (by omega)]; exact app_get _ bD
        have hH30 : H3[0]? = some (cB (rgB r.1)) := by rw [← hH3, List.getElem?_set_self (by simp)]
        have hH3l : H3.length = bs.length + 1 := by rw [← hH3]; simp
        have hH3o : ∀ j, 0 < j → j < D → H3[j]? = cs[j]? := fun j h1 h2 => by
          rw [← hH3, List.getElem?_set_ne (by omega), List.getElem?_append_left (by omega)]; exact hbo j h1 h2
        have hfin : ∃ R' a b, R' + (k + 1) = 254 ∧ ((i : Int) - 1) = ((R' : Int) - 1) ∧ bitsN s (k + 1) = some (a, b) ∧ ∃ bs', H3.set D (cW (d.set (i / 32) x)) = bs' ∧ ∃ d', bs'[0]? = some (cB (rgB a)) ∧ bs'[D]? = some (cW d') ∧ ElI b R' d' ∧ cs.length ≤ bs'.length ∧ (∀ i, 0 < i → i < D → bs'[i]? = cs[i]?) := by
          refine ⟨i, _, _, by omega, rfl, hp2, _, rfl, d.set (i / 32) x, ?_, ?_, hI2, ?_, fun j h1 h2 => ?_⟩
          · rw [List.getElem?_set_ne (by omega)]; exact hH30
          · rw [List.getElem?_set_self (by omega)]
          · rw [List.length_set]; omega
          · rw [List.getElem?_set_ne (by omega)]; exact hH3o j h1 h2
        have hsx := cW_set d (i / 32) (gd d 0#64 (i / 32) * 2#64)
        have hsx2 := cW_set (d.set (i / 32) (gd d 0#64 (i / 32) * 2#64)) (i / 32) (gd d 0#64 (i / 32) * 2#64 + 1#64)
        rw [List.set_set] at hsx2
        have hat2 := cW_at (l := d.set (i / 32) (gd d 0#64 (i / 32) * 2#64)) (i := i / 32) (by simp; omega)
        rw [gd_set _ _ _ _ _ (by omega), if_pos rfl] at hat2
        have lc2 : (cW (d.set (i / 32) (gd d 0#64 (i / 32) * 2#64))).length = 8 := by simp [hdl]
        have hH4D : (H3.set D (cW (d.set (i / 32) (gd d 0#64 (i / 32) * 2#64))))[D]? = some (cW (d.set (i / 32) (gd d 0#64 (i / 32) * 2#64))) := by rw [List.getElem?_set_self (by omega)]
        have hss : ∀ a b : List AVal, (H3.set D a).set D b = H3.set D b := fun a b => List.set_set ..
        rw [hP] at hH3
        cases hrb : r.2 with
        | true =>
          rw [hrb] at hB hx1
          rw [if_pos rfl] at hx1
          subst hx1
          generalize cW (d.set (i / 32) (gd d 0#64 (i / 32) * 2#64 + 1#64)) = c2 at *
          generalize cW (d.set (i / 32) (gd d 0#64 (i / 32) * 2#64)) = c1 at *
          generalize rgB r.1 = r1 at *
          generalize cB (rgB p.1) = r0c at *
          generalize ((i / 32 : Nat) : Int) = iq at *
          generalize (tab 80 fun _ => false) = z0 at *
          simp -implicitDefEqProofs [Ba_avouchref08zElement, g1, g4, g5, l0, l1, lz, lc, lc2, partAB, partA_one, b0, hP, hP0, hPl, hPs, hB, extK0, extK1, hr0, stKB, setAtB, storeA_fl, hL, underL_cB, hH3, hH3D, bin_quo, w1, w2, hio, hat, hat2, hob, mulC2, addC1, hsx, hsx2, hH4D, hss]
          obtain ⟨R', a, b, f1, f2, f3, bs', f4, d', f5, f6, f7, f8, f9⟩ := hfin
          exact ⟨by omega, R', f1, by omega, a, b, f3, bs', by rw [f4], f5, d', f6, f7, f8, f9⟩
        | false =>
          rw [hrb] at hB hx1
          rw [if_neg (by simp)] at hx1
          subst hx1
          generalize cW (d.set (i / 32) (gd d 0#64 (i / 32) * 2#64)) = c1 at *
          generalize rgB r.1 = r1 at *
          generalize cB (rgB p.1) = r0c at *
          generalize ((i / 32 : Nat) : Int) = iq at *
          generalize (tab 80 fun _ => false) = z0 at *
          simp -implicitDefEqProofs [Ba_avouchref08zElement, g1, g4, g5, l0, l1, lz, lc, lc2, partAB, partA_one, b0, hP, hP0, hPl, hPs, hB, extK0, extK1, hr0, stKB, setAtB, storeA_fl, hL, underL_cB, hH3, hH3D, bin_quo, w1, w2, hio, hat, hob, mulC2, hsx]
          obtain ⟨R', a, b, f1, f2, f3, bs', f4, d', f5, f6, f7, f8, f9⟩ := hfin
          exact ⟨by omega, R', f1, by omega, a, b, f3, bs', by rw [f4], f5, d', f6, f7, f8, f9⟩
      | zero =>
        have : k = 254 := by omega
        subst this
        rw [hq] at hp
        obtain rfl := Option.some.inj hp
        simp [Ba_avouchref08zElement, g5]
        exact ⟨bs, rfl, b0, d, bD, hI, hbl, hbo⟩)
  exact ⟨fr', bs, d, rfl, p1, p2, p3, p4, p5, hk⟩
end Go.Av

namespace Go.Av
set_option maxHeartbeats 2000000
set_option maxRecDepth 20000
set_option linter.unusedSimpArgs false
set_option linter.unusedVariables false
theorem ok_RTrimS2 (h : AHeap) (bs : List (List AVal)) (ts : List Nat) (i n c : Nat) (l : List W64) (hb : bs[i]? = some (cW l)) (hln : l.length = n) (hd : Dg l) (hn : n < 1000000000) (hnc : n ≤ c) :
    ∃ r, (∀ L, acall ctx L i_avouchref01zTrim [sA h.blks.length i 0 1 n (some c)] (hx h bs ts) = some (r, hx h bs ts)) ∧ ∀ bs', bs'[i]? = some (cW l) → ∀ m, frz (hx h bs' ts) h.blks.length h.toks.length (m + 1) r = some (.vsl false (eW (dg (vD l)))) := by
  have hrd : RdW (hx h bs ts) (sA h.blks.length i 0 1 n (some c)) l := RdW.sA ts i n (some c) l hln hb
  have htl := tlen_le l n
  have htd := trim_dg hd
  rw [hln] at htd
  have hbl := (List.getElem?_eq_some_iff.1 hb).1
  by_cases h0 : tlen l n = 0
  · have htd0 : dg (vD l) = [] := by rw [← htd, h0]; rfl
    rw [htd0]
    refine ⟨.vsl false (eW []), fun L => ok_RTrim L _ _ (.vsl (some c == some 0) (eW [])) _ l hrd (by omega) ?_ (frz_eWv _ _ _ _ _ _), fun bs' _ m => frz_eWv _ _ _ _ _ _⟩
    rw [hln, h0]; simp [sliceV, sA, bndA]
  · refine ⟨sA h.blks.length i 0 1 (tlen l n) (some c), fun L => ok_RTrim L _ _ (sA h.blks.length i 0 1 (tlen l n) (some c)) _ l hrd (by omega) ?_ ?_, fun bs' hb' m => ?_⟩
    · rw [hln]; simp [sliceV, sA, bndA, h0, show tlen l n ≤ c by omega]
    · exact frz_sOld _ _ _ _ _ _ _ _ _ (by simp [hx_blks, hbl])
    · have hb2 : bs'[i]? = some (cI .u64 (nats l)) := by rw [hb', cW_nats]
      have := frz_sA h bs' ts h.toks.length m i (tlen l n) (some c) .u64 (nats l) hb2 (by simp; omega)
      rw [this, ← htd, nats_take, ← eW_nats]
theorem cmpN_ltB (x y : Nat) : (decide (cmpN x y < 0)) = decide (x < y) := cmpN_neg x y
theorem run_REl (L : Lim) (h : AHeap) (hL : L.rob ≤ h.blks.length) : ∀ (f s : Nat) (cs : List (List AVal)) (fr : Fr) (q : Nat × Nat) (z : List Bool) (R : Option (AEx × Fr × AHeap)), run ctx L (.loop Bb_avouchref08zElement) fr (hx h cs []) = R → elemN f s = some q → s < 2 ^ 80 → cs[0]? = some (cB (rgB s)) → cs[1]? = some (cB z) → z.length = 80 → fr 1 = pA h.blks.length 0 0 → fr 2 = pA h.blks.length 1 0 →
    ∃ fr' bs, R = some (.ret, fr', hx h bs []) ∧ bs[1]? = some (cB (rgB q.1)) ∧ fr' 2 = pA h.blks.length 1 0 ∧ ∀ m, frz (hx h bs []) h.blks.length h.toks.length (m + 1) (fr' 3) = some (.vsl false (eW (dg q.2)))
  | 0, s, cs, fr, q, z, R, _, hq, _, _, _, _, _, _ => by simp [elemN] at hq
  | f + 1, s, cs, fr, q, z, R, hR, hq, hs, hb, hz, hzl, h1, h2 => by
    unfold elemN at hq
    cases hbb : bitsE s with
    | none => rw [hbb] at hq; cases hq
    | some p =>
      rw [hbb] at hq
      simp only at hq
      rw [bitsE_eq] at hbb
      obtain ⟨hs1, hn1⟩ := bitsN_lt hs hbb
      have hcl : 1 < cs.length := (List.getElem?_eq_some_iff.1 hz).1
      have hlo := fun fr R => loop_REl1 (L := L) (fr := fr) (h := h) (R := R) s p hbb hs cs.length (by omega) (cs ++ [cW (tab 8 fun _ => 0#64)]) (app_get _ hb) (by simp) hL
      have hmk := mkK_int h cs [] 1 [AVal.int .u64 0] .i64 8 (by decide)
      rw [show (8 : Int).toNat = 8 from rfl, rep_W] at hmk
      rw [run_loopE] at hR
      have hP := ok_RP
      generalize (tab 8 fun _ => 0#64) = z8 at *
      generalize hLL : AC.loop Bb_avouchref08zElement = LL at *
      have ih := run_REl L h hL f p.1
      rw [hLL] at ih
      simp -implicitDefEqProofs [Bb_avouchref08zElement, h1, h2, hmk] at hR
      generalize hF : run ctx _ (.loop _) _ _ = R1 at hR
      obtain ⟨fr1, bs, d, rfl, b0, bD, hI, hbl, hbo, hk1⟩ := hlo _ _ hF (by simp [h1]) (by simp) (by simp)
      have hv := ElI_end hI
      have hb1 : bs[1]? = some (cB z) := by rw [hbo 1 (by omega) (by omega)]; exact app_get _ hz
      obtain ⟨r, hT, hfz⟩ := ok_RTrimS2 h bs [] cs.length 8 8 d bD hI.1 hI.2.1 (by decide) (Nat.le_refl _)
      have hC := fun L => ok_RCmp L (hx h bs []) (sA h.blks.length cs.length 0 1 8 (some 8)) (.vsl false (eW pD)) d pD (RdW.sA [] cs.length 8 (some 8) d hI.1 bD) (RdW.vsl _ _ _) hI.2.1 Dg_pD ⟨by rw [hI.1]; decide, by decide⟩
      rw [hv, vD_pD] at hC
      rw [hv] at hfz
      have hlt := cmpN_ltB p.2 pN
      have l0 : (cB (rgB p.1)).length = 80 := by simp
      have l1 : (cB z).length = 80 := by simp [hzl]
      cases hp : Nat.ble pN p.2 with
      | true =>
        rw [hp] at hq
        have hnl : ¬ p.2 < pN := by have := Nat.le_of_ble_eq_true hp; omega
        rw [decide_eq_false hnl] at hlt
        have ih' := fun fr R hF h1 h2 => ih bs fr q z R hF hq hs1 b0 hb1 hzl h1 h2
        generalize cmpN p.2 pN = cc at *
        generalize eW pD = ep at *
        simp -implicitDefEqProofs [hk1, wr, Ba_avouchref08zElement, dsts, hP, hC, hlt, -bin_lss, lssI] at hR
        exact ih' _ _ hR (by simp [hk1, wr, Ba_avouchref08zElement, dsts, h1]) (by simp [hk1, wr, Ba_avouchref08zElement, dsts, h2])
      | false =>
        rw [hp] at hq
        obtain rfl := Option.some.inj hq
        have hnl : p.2 < pN := Nat.lt_of_not_le fun hle => by rw [Nat.ble_eq_true_of_le hle] at hp; cases hp
        rw [decide_eq_true hnl] at hlt
        have hset : (bs.set 1 (cB (rgB p.1)))[1]? = some (cB (rgB p.1)) := by rw [List.getElem?_set_self (by have := (List.getElem?_eq_some_iff.1 hb1).1; omega)]
        have hfz2 := hfz (bs.set 1 (cB (rgB p.1))) (by rw [List.getElem?_set_ne (by omega)]; exact bD)
        have hun : underL 0 0 (cB (rgB p.1)) = true := underL_cB _
        generalize cmpN p.2 pN = cc at *
        generalize eW pD = ep at *
        generalize cB (rgB p.1) = rc at *
        simp -implicitDefEqProofs [hk1, wr, Ba_avouchref08zElement, dsts, hP, hC, hlt, -bin_lss, lssI, h1, h2, b0, hb1, partAB, l0, l1, hT, stKB, setAtB, storeA_fl, hL, hun] at hR
        subst hR
        exact ⟨_, _, rfl, hset, by simp [hk1, wr, Ba_avouchref08zElement, dsts, h2], fun m => by simpa using hfz2 m⟩
where
  lssI {k : IntKind} (a : Int) : binA .lss (.int k a) (.int k 0) = some (.bool (decide (a < 0))) := bin_lss k a 0
theorem ok_REl (L : Lim) (h : AHeap) (f s : Nat) (q : Nat × Nat) (hq : elemN f s = some q) (hs : s < 2 ^ 80) : acall ctx L i_avouchref08zElement [.agg (cB (rgB s))] h = some (.tup [.agg (cB (rgB q.1)), .vsl false (eW (dg q.2))], h) := by
  rw [call_avouchref08zElement]
  have hokv : (AVal.agg (cB (rgB s))).okV = true := okV_agg _
  have hcel : (AVal.agg (cB (rgB s))).cells = cB (rgB s) := by simp only [AVal.cells]
  have hr0 := rep1_B 80
  have hlo := fun fr R hF => run_REl (limP h) h (Nat.le_refl _) f s [cB (rgB s), cB (tab 80 fun _ => false)] fr q (tab 80 fun _ => false) R hF hq hs rfl rfl (by simp)
  have l2 : (rgB q.1).length = 80 := rgB_len _
  generalize rgB q.1 = r2 at *
  generalize rgB s = r1 at *
  generalize (tab 80 fun _ => false) = z0 at *
  simp -implicitDefEqProofs [C_avouchref08zElement, copA_box, hokv, hcel, hr0]
  generalize hF : run ctx _ (.loop _) _ _ = R
  obtain ⟨fr', bs, rfl, b1, f2, f3⟩ := hlo _ _ hF (by simp) (by simp)
  simp -implicitDefEqProofs [b1, f2, f3, partAB, l2]
end Go.Av

namespace Go.Av
set_option maxHeartbeats 2000000
set_option maxRecDepth 20000
set_option linter.unusedSimpArgs false
set_option linter.unusedVariables false
theorem ok_in08 (L : Lim) (h : AHeap) (n a b : Int) (h1 : a ≤ n) (h2 : n ≤ b) : acall ctx L i_avouchref08zin [.int .i64 n, .int .i64 a, .int .i64 b] h = some (.bool true, h) := by
  rw [call_avouchref08zin]
  simp -implicitDefEqProofs [C_avouchref08zin, h1, h2]
theorem iadr_gBl (kd : IntKind) (n j : Nat) (l : List Bool) (i : Nat) (h : i < l.length) : iadrA none 1 (gA n j (eBl l)) (.int kd (i : Int)) = some (.vptr [.bool (gd l false i)] 0) := by
  have e : (eBl l)[i]? = some [.bool (gd l false i)] := by unfold eBl; rw [List.getElem?_map, gd_get? (d := false) h]; rfl
  simp [gA, iadrA, asI, e]
theorem loop_RNew1 {fr : Fr} {h : AHeap} {R : Option (AEx × Fr × AHeap)} (z : List AVal)
    (hF : run ctx (limP h) (.loop Ba_avouchref08zNew) fr (hx h [z, cB (mixT 80 (fun j => iniG.testBit j) (fun _ => false) 0)] [80]) = R)
    (h10 : fr 10 = gA h.toks.length 0 (eBl (iniB 80))) (h11 : fr 11 = pA h.blks.length 1 0) (h12 : fr 12 = .int .i64 0) :
    ∃ fr', R = some (.exit 0, fr', hx h [z, cB (rgB iniG)] [80]) ∧ ∀ t, t ∉ wr Ba_avouchref08zNew → fr' t = fr t := by
  obtain ⟨e, fr', h', rfl, ⟨rfl, rfl⟩, hk⟩ := loop_rule hF 80
    (fun k fr hh => fr 12 = .int .i64 (k : Int) ∧ hh = hx h [z, cB (mixT 80 (fun j => iniG.testBit j) (fun _ => false) k)] [80])
    (fun e fr hh => e = .exit 0 ∧ hh = hx h [z, cB (rgB iniG)] [80])
    ⟨h12, rfl⟩ (by
      rintro k fr1 hh hkN hkeep ⟨g12, rfl⟩
      have g10 := (hkeep 10 (by decide)).trans h10
      have g11 := (hkeep 11 (by decide)).trans h11
      by_cases hlt : k < 80
      · have w1 : IntKind.i64.wrap ((k : Int) + 1) = k + 1 := wrap_i64 (by omega) (by omega)
        have hi := iadr_gBl .i64 h.toks.length 0 (iniB 80) k (by simpa using hlt)
        rw [show gd (iniB 80) false k = iniG.testBit k from gd_tab hlt] at hi
        have i1 := iadr_pA 80 1 h.blks.length 1 0 k .i64 (by simpa using hlt)
        rw [Nat.zero_add, Nat.mul_one] at i1
        have hset := cB_set (mixT 80 (fun j => iniG.testBit j) (fun _ => false) k) k (iniG.testBit k)
        rw [mixT_set 80 (fun j => iniG.testBit j) (fun _ => false) k] at hset
        have hlen : (cB (mixT 80 (fun j => iniG.testBit j) (fun _ => false) k)).length = 80 := by simp
        have hrob : (limP h).rob ≤ h.blks.length := Nat.le_refl _
        generalize hm2 : cB (mixT 80 (fun j => iniG.testBit j) (fun _ => false) (k + 1)) = m2 at *
        generalize cB (mixT 80 (fun j => iniG.testBit j) (fun _ => false) k) = m1 at *
        generalize iniG.testBit k = bb at *
        generalize eBl (iniB 80) = es at *
        simp -implicitDefEqProofs [Ba_avouchref08zNew, g10, g11, g12, show (k : Int) < 80 by omega, w1, hi, i1, partA_one, storeA_fl, hrob, hlen, show k + 1 ≤ 80 by omega, hset]
        exact ⟨hlt, by rw [hm2]⟩
      · have : k = 80 := by omega
        subst this
        rw [mixT_all]
        show Ends _ _
        simp [Ba_avouchref08zNew, g12]
        rfl)
  exact ⟨fr', rfl, hk⟩
theorem loop_RNew2 {fr : Fr} {h : AHeap} {R : Option (AEx × Fr × AHeap)} (z : List AVal) (ts : List Nat)
    (hF : run ctx (limP h) (.loop Bb_avouchref08zNew) fr (hx h [z, cB (rgB (turnsN iniG 0))] ts) = R)
    (h11 : fr 11 = pA h.blks.length 1 0) (h13 : fr 13 = .int .i64 0) :
    ∃ fr', R = some (.exit 2, fr', hx h [z, cB (rgB srcG)] ts) ∧ ∀ t, t ∉ wr Bb_avouchref08zNew → fr' t = fr t := by
  obtain ⟨e, fr', h', rfl, ⟨rfl, rfl⟩, hk⟩ := loop_rule hF 160
    (fun k fr hh => fr 13 = .int .i64 (k : Int) ∧ hh = hx h [z, cB (rgB (turnsN iniG k))] ts)
    (fun e fr hh => e = .exit 2 ∧ hh = hx h [z, cB (rgB srcG)] ts)
    ⟨h13, rfl⟩ (by
      rintro k fr1 hh hkN hkeep ⟨g13, rfl⟩
      have g11 := (hkeep 11 (by decide)).trans h11
      by_cases hlt : k < 160
      · have w1 : IntKind.i64.wrap ((k : Int) + 1) = k + 1 := wrap_i64 (by omega) (by omega)
        have hT := fun L h => ok_RTurn L h (turnsN iniG k) (turnsN_lt iniG iniG_lt k)
        rw [show turnN (turnsN iniG k) = turnsN iniG (k + 1) from rfl] at hT
        have hrob : (limP h).rob ≤ h.blks.length := Nat.le_refl _
        have l1 : (rgB (turnsN iniG k)).length = 80 := rgB_len _
        have l2 : (rgB (turnsN iniG (k + 1))).length = 80 := rgB_len _
        generalize hm2 : rgB (turnsN iniG (k + 1)) = m2 at *
        generalize rgB (turnsN iniG k) = m1 at *
        generalize bitG (turnsN iniG k) = bb at *
        simp -implicitDefEqProofs [Bb_avouchref08zNew, g11, g13, show (k : Int) < 160 by omega, w1, partAB, l1, l2, hT, extK0, extK1, stKB, setAtB, storeA_fl, hrob, underL_cB]
        exact ⟨hlt, by rw [hm2]⟩
      · have : k = 160 := by omega
        subst this
        have : turnsN iniG 160 = srcG := rfl
        rw [this]
        generalize rgB srcG = m1 at *
        simp [Bb_avouchref08zNew, g13])
  exact ⟨fr', rfl, hk⟩
theorem ini_bits (n w p : Nat) (h : (List.range w).all (fun k => n.testBit (w - 1 - k) == iniG.testBit (p + k)) = true) : ∀ k, k < w → n.testBit (w - 1 - k) = iniG.testBit (p + k) := fun k hk => by
  have := List.all_eq_true.1 h k (List.mem_range.2 hk)
  simpa using this
theorem ok_RNew (L : Lim) (h : AHeap) : acall ctx L i_avouchref08zNew [.int .i64 254, .int .i64 3, .int .i64 8, .int .i64 57] h = some (.tup [.agg (cB (rgB srcG)), .int .i64 0], h) := by
  rw [call_avouchref08zNew]
  have h1 := fun L h => ok_in08 L h 254 1 4095 (by decide) (by decide)
  have h2 := fun L h => ok_in08 L h 3 1 4095 (by decide) (by decide)
  have h3 := fun L h => ok_in08 L h 8 0 1023 (by decide) (by decide)
  have h4 := fun L h => ok_in08 L h 57 0 1023 (by decide) (by decide)
  have hrt : (limP h).rot ≤ h.toks.length := Nat.le_refl _
  have a1 : ∀ bs, acall ctx (limP h) i_avouchref08zlay [.nsl, .int .i64 1, .int .i64 2] (hx h bs []) = some (gA h.toks.length 0 (eBl (iniB 2)), hx h bs [2]) := fun bs => ok_lay_new (limP h) h bs 1 2 (by decide) (by decide) (by decide) (by have := ini_bits 1 2 0 (by decide +kernel); simpa using this) hrt
  have a2 : ∀ bs, acall ctx (limP h) i_avouchref08zlay [gA h.toks.length 0 (eBl (iniB 2)), .int .i64 0, .int .i64 4] (hx h bs [2]) = some (gA h.toks.length 0 (eBl (iniB 6)), hx h bs [6]) := fun bs => ok_lay_old (limP h) h bs 0 4 2 (by decide) (by decide) (by decide) (by decide) (ini_bits 0 4 2 (by decide +kernel)) hrt
  have a3 : ∀ bs, acall ctx (limP h) i_avouchref08zlay [gA h.toks.length 0 (eBl (iniB 6)), .int .i64 254, .int .i64 12] (hx h bs [6]) = some (gA h.toks.length 0 (eBl (iniB 18)), hx h bs [18]) := fun bs => ok_lay_old (limP h) h bs 254 12 6 (by decide) (by decide) (by decide) (by decide) (ini_bits 254 12 6 (by decide +kernel)) hrt
  have a4 : ∀ bs, acall ctx (limP h) i_avouchref08zlay [gA h.toks.length 0 (eBl (iniB 18)), .int .i64 3, .int .i64 12] (hx h bs [18]) = some (gA h.toks.length 0 (eBl (iniB 30)), hx h bs [30]) := fun bs => ok_lay_old (limP h) h bs 3 12 18 (by decide) (by decide) (by decide) (by decide) (ini_bits 3 12 18 (by decide +kernel)) hrt
  have a5 : ∀ bs, acall ctx (limP h) i_avouchref08zlay [gA h.toks.length 0 (eBl (iniB 30)), .int .i64 8, .int .i64 10] (hx h bs [30]) = some (gA h.toks.length 0 (eBl (iniB 40)), hx h bs [40]) := fun bs => ok_lay_old (limP h) h bs 8 10 30 (by decide) (by decide) (by decide) (by decide) (ini_bits 8 10 30 (by decide +kernel)) hrt
  have a6 : ∀ bs, acall ctx (limP h) i_avouchref08zlay [gA h.toks.length 0 (eBl (iniB 40)), .int .i64 57, .int .i64 10] (hx h bs [40]) = some (gA h.toks.length 0 (eBl (iniB 50)), hx h bs [50]) := fun bs => ok_lay_old (limP h) h bs 57 10 40 (by decide) (by decide) (by decide) (by decide) (ini_bits 57 10 40 (by decide +kernel)) hrt
  have a7 : ∀ bs, acall ctx (limP h) i_avouchref08zlay [gA h.toks.length 0 (eBl (iniB 50)), .int .i64 1073741823, .int .i64 30] (hx h bs [50]) = some (gA h.toks.length 0 (eBl (iniB 80)), hx h bs [80]) := fun bs => ok_lay_old (limP h) h bs 1073741823 30 50 (by decide) (by decide) (by decide) (by decide) (ini_bits 1073741823 30 50 (by decide +kernel)) hrt
  have hlo1 := fun fr R z => loop_RNew1 (fr := fr) (h := h) (R := R) z
  rw [mixT_zero] at hlo1
  have hlo2 := fun fr R z ts => loop_RNew2 (fr := fr) (h := h) (R := R) z ts
  rw [show turnsN iniG 0 = iniG from rfl] at hlo2
  have hr0 := rep1_B 80
  have hfill : fillA (cB (tab 80 fun _ => false)) [] = some (cB (tab 80 fun _ => false)) := rfl
  have lz : (tab 80 fun _ => false).length = 80 := by simp
  have l2 : (rgB srcG).length = 80 := rgB_len _
  have hrob : (limP h).rob ≤ h.blks.length := Nat.le_refl _
  generalize rgB srcG = r2 at *
  generalize rgB iniG = r1 at *
  generalize (tab 80 fun _ => false) = z0 at *
  generalize eBl (iniB 2) = e1 at *
  generalize eBl (iniB 6) = e2 at *
  generalize eBl (iniB 18) = e3 at *
  generalize eBl (iniB 30) = e4 at *
  generalize eBl (iniB 40) = e5 at *
  generalize eBl (iniB 50) = e6 at *
  generalize eBl (iniB 80) = e7 at *
  simp -implicitDefEqProofs [C_avouchref08zNew, h1, h2, h3, h4, hr0, a1, a2, a3, a4, a5, a6, a7, hfill, stKB, setAtB, lz, storeA_fl, hrob, underL_cB]
  generalize hF : run ctx _ (.loop _) _ _ = R
  obtain ⟨fr1, rfl, hk1⟩ := hlo1 _ _ _ hF (by simp) (by simp) (by simp)
  simp -implicitDefEqProofs [hk1, wr, Ba_avouchref08zNew, dsts]
  generalize hF : run ctx _ (.loop _) _ _ = R
  obtain ⟨fr2, rfl, hk2⟩ := hlo2 _ _ _ _ hF (by simp [hk1, wr, Ba_avouchref08zNew, dsts]) (by simp)
  simp -implicitDefEqProofs [hk1, hk2, wr, Ba_avouchref08zNew, Bb_avouchref08zNew, dsts, partAB, l2, lz, stKB, setAtB, storeA_fl, hrob, underL_cB]
end Go.Av

namespace Go.Av
set_option maxHeartbeats 2000000
set_option maxRecDepth 20000
set_option linter.unusedSimpArgs false
set_option linter.unusedVariables false
theorem appK_cT (L : Lim) (h : AHeap) (bs : List (List AVal)) (ts : List Nat) (sz : Nat) (c : Bool) (es ys : List (List AVal))
    (hc : (szOk sz ys && szOk sz es && decide (L.rot ≤ h.toks.length) && decide (es.length + ys.length < maxRoom)) = true) :
    appK L (hx h bs (ts ++ gT es)) sz false (gL (.vsl true []) h.toks.length ts.length es) (.vsl c ys) = some (gL (.vsl true []) h.toks.length ts.length (es ++ ys), hx h bs (ts ++ gT (es ++ ys))) := by
  simp only [Bool.and_eq_true, decide_eq_true_eq] at hc
  have e1 : ∀ q, hx (hx h [] ts) bs q = hx h bs (ts ++ q) := fun q => by simp
  have e2 : ∀ es, gL (.vsl true []) (hx h [] ts).toks.length 0 es = gL (.vsl true []) h.toks.length ts.length es := fun es => by
    unfold gL; split
    · rfl
    · rw [hx_toks, gA_up]; rfl
  have := appK_cV L (hx h [] ts) bs sz c es ys (by simp only [Bool.and_eq_true, decide_eq_true_eq, hx_toks]; exact ⟨⟨⟨hc.1.1.1, hc.1.1.2⟩, by omega⟩, hc.2⟩)
  rw [e1, e1, e2, e2] at this
  exact this
/-- Numbers, each as a list of digits. -/
def nbE (f : Nat → Nat) (j : Nat) : List AVal := [.vsl false (eW (dg (f j)))]
theorem szOk_nbE (f : Nat → Nat) (k : Nat) : szOk 1 (tab k (nbE f)) = true := by
  cases k with
  | zero => rfl
  | succ k => unfold tab; rw [List.range_succ_eq_map]; rfl
theorem under_nbE (f : Nat → Nat) (nb nt k : Nat) : underLL nb nt (tab k (nbE f)) = true := by
  have : ∀ l : List Nat, underLL nb nt (l.map (nbE f)) = true := fun l => by
    induction l with
    | nil => rfl
    | cons x l ih => simp only [List.map_cons, underLL, ih, Bool.and_true, nbE, underL, AVal.under, eW_under]
  exact this _
@[irreducible] def cauR (i j : Nat) : Nat := cauN (3 * i + j)
def cauE (i : Nat) : Nat → List AVal := nbE (cauR i)
theorem szOk_cauE (i k : Nat) : szOk 1 (tab k (cauE i)) = true := szOk_nbE _ k
theorem under_cauE (i nb nt k : Nat) : underLL nb nt (tab k (cauE i)) = true := under_nbE _ nb nt k
theorem dg_small {m : Nat} (h0 : m ≠ 0) (h : m < dB) : [BitVec.ofNat 64 m] = dg m := by
  have e : (BitVec.ofNat 64 m : W64).toNat = m := by
    rw [BitVec.toNat_ofNat]; rw [show dB = 4294967296 from rfl] at h; omega
  have hc : Can [BitVec.ofNat 64 m] := ⟨dg_one (by rw [e]; exact h), .inr (by
    show (BitVec.ofNat 64 m : W64) ≠ 0#64
    intro q
    rw [q] at e
    exact h0 e.symm)⟩
  rw [dg_of hc, vD_one, e]
theorem cau_eq (i k : Nat) (h1 : (3 * i + k) / 3 = i) (h2 : (3 * i + k) % 3 = k) : (i + k + 3) ^ (pN - 2) % pN = cauR i k := by
  unfold cauR cauN; rw [h1, h2]
theorem ok_RInvC (L : Lim) (h : AHeap) (i k : Nat) (h1 : (3 * i + k) / 3 = i) (h2 : (3 * i + k) % 3 = k) (h3 : i + k + 3 < pN) : acall ctx L i_avouchref02zInverse [.vsl true (eW (dg (i + k + 3)))] h = some (.vsl false (eW (dg (cauR i k))), h) := by
  rw [← cau_eq i k h1 h2]
  exact ok_RInverse L h (.vsl true (eW (dg (i + k + 3)))) (i + k + 3) (LV.vsl _ _) h3
theorem loop_RCau1 {fr : Fr} {h : AHeap} {R : Option (AEx × Fr × AHeap)} (ts : List Nat) (i : Nat) (hi : i < 3)
    (hF : run ctx (limP h) (.loop Ba_avouchref09zCauchy) fr (hx h [] (ts ++ gT (tab 0 (cauE i)))) = R)
    (h2 : fr 2 = .int .i64 (i : Int)) (h3 : fr 3 = gL (.vsl true []) h.toks.length ts.length (tab 0 (cauE i))) (h4 : fr 4 = .int .i64 0) :
    ∃ fr', R = some (.exit 2, fr', hx h [] (ts ++ [3])) ∧ fr' 3 = gA h.toks.length ts.length (tab 3 (cauE i)) ∧ ∀ t, t ∉ wr Ba_avouchref09zCauchy → fr' t = fr t := by
  obtain ⟨e, fr', h', rfl, ⟨rfl, rfl, h3'⟩, hk⟩ := loop_rule hF 3
    (fun k fr hh => fr 4 = .int .i64 (k : Int) ∧ fr 3 = gL (.vsl true []) h.toks.length ts.length (tab k (cauE i)) ∧ hh = hx h [] (ts ++ gT (tab k (cauE i))))
    (fun e fr hh => e = .exit 2 ∧ hh = hx h [] (ts ++ [3]) ∧ fr 3 = gA h.toks.length ts.length (tab 3 (cauE i)))
    ⟨h4, h3, rfl⟩ (by
      rintro k fr1 hh hkN hkeep ⟨g4, g3, rfl⟩
      have g2 := (hkeep 2 (by decide)).trans h2
      by_cases hlt : k < 3
      · have w1 : IntKind.i64.wrap ((k : Int) + 1) = k + 1 := wrap_i64 (by omega) (by omega)
        have w2 : IntKind.i64.wrap ((i : Int) + k) = ((i + k : Nat) : Int) := wrap_i64 (by omega) (by omega)
        have w3 : IntKind.i64.wrap (((i + k : Nat) : Int) + 3) = ((i + k + 3 : Nat) : Int) := wrap_i64 (by omega) (by omega)
        have hbw : i2iK .u64 (.int .i64 ((i + k + 3 : Nat) : Int)) = some (wd (BitVec.ofNat 64 (i + k + 3))) := by rw [i2i_bw]; rfl
        have hds : eW [BitVec.ofNat 64 (i + k + 3)] = eW (dg (i + k + 3)) := by rw [dg_small (by omega) (by rw [show dB = 4294967296 from rfl]; omega)]
        have hch : chunks 1 1 [wd (BitVec.ofNat 64 (i + k + 3))] = eW [BitVec.ofNat 64 (i + k + 3)] := rfl
        rw [hds] at hch
        have hI := fun L h => ok_RInvC L h i k (by omega) (by omega) (Nat.lt_of_lt_of_le (show i + k + 3 < 10 by omega) (by decide))
        have hfill := fill1N (.vsl false (eW (dg (cauR i k)))) false _ rfl
        have hap := appK_cT (limP h) h [] ts 1 true (tab k (cauE i)) [cauE i k] (by rw [szOk_cauE]; simp [maxRoom, limP, cauE, nbE]; omega)
        rw [tab_snoc, show cauE i k = [.vsl false (eW (dg (cauR i k)))] by unfold cauE nbE; exact rfl] at hap
        generalize hg2 : gL (.vsl true []) h.toks.length ts.length (tab (k + 1) (cauE i)) = v2 at *
        generalize ht2 : gT (tab (k + 1) (cauE i)) = t2 at *
        generalize gL (.vsl true []) h.toks.length ts.length (tab k (cauE i)) = v1 at *
        generalize gT (tab k (cauE i)) = t1 at *
        generalize eW (dg (cauR i k)) = e2 at *
        generalize eW (dg (i + k + 3)) = e1 at *
        generalize (BitVec.ofNat 64 (i + k + 3) : W64) = bb at *
        generalize ((i + k + 3 : Nat) : Int) = i3 at *
        generalize ((i + k : Nat) : Int) = i2 at *
        simp -implicitDefEqProofs [Ba_avouchref09zCauchy, g2, g3, g4, show (k : Int) < 3 by omega, w1, w2, w3, hbw, -i2iK_int, fill1W, hch, hI, hfill, chunk1, hap]
        exact ⟨hlt, hg2.symm, by rw [ht2]⟩
      · have : k = 3 := by omega
        subst this
        have e1 : gL (.vsl true []) h.toks.length ts.length (tab 3 (cauE i)) = gA h.toks.length ts.length (tab 3 (cauE i)) := rfl
        have e2 : gT (tab 3 (cauE i)) = [3] := rfl
        rw [e1] at g3
        rw [e2]
        generalize gA h.toks.length ts.length (tab 3 (cauE i)) = g1 at *
        simp [Ba_avouchref09zCauchy, g4, g3])
  exact ⟨fr', rfl, h3', hk⟩
def cauT : Nat → List Nat
  | 0 => []
  | 1 => [3, 1]
  | 2 => [3, 2, 3]
  | _ => [3, 3, 3, 3]
def cauV (n : Nat) : Nat → AVal
  | 0 => .vsl true []
  | 1 => gA n 1 [[gA n 0 (tab 3 (cauE 0))]]
  | 2 => gA n 1 [[gA n 0 (tab 3 (cauE 0))], [gA n 2 (tab 3 (cauE 1))]]
  | _ => gA n 1 [[gA n 0 (tab 3 (cauE 0))], [gA n 2 (tab 3 (cauE 1))], [gA n 3 (tab 3 (cauE 2))]]
def cauD : Nat → List Nat
  | 0 => []
  | 1 => [3, 1]
  | _ => [3, 2, 3]
theorem fill1G (n i : Nat) (es : List (List AVal)) : fillA (rep [AVal.nsl] 1) [(0, 1, gA n i es)] = some [gA n i es] := rfl
theorem loop_RCau {fr : Fr} {h : AHeap} {R : Option (AEx × Fr × AHeap)}
    (hF : run ctx (limP h) (.loop Bb_avouchref09zCauchy) fr (hx h [] (cauT 0)) = R)
    (h1 : fr 1 = cauV h.toks.length 0) (h2 : fr 2 = .int .i64 0) :
    ∃ fr', R = some (.exit 0, fr', hx h [] (cauT 3)) ∧ fr' 1 = cauV h.toks.length 3 := by
  obtain ⟨e, fr', h', rfl, ⟨rfl, rfl, h1'⟩, hk⟩ := loop_rule hF 3
    (fun k fr hh => fr 2 = .int .i64 (k : Int) ∧ fr 1 = cauV h.toks.length k ∧ hh = hx h [] (cauT k))
    (fun e fr hh => e = .exit 0 ∧ hh = hx h [] (cauT 3) ∧ fr 1 = cauV h.toks.length 3)
    ⟨h2, h1, rfl⟩ (by
      rintro k fr1 hh hkN hkeep ⟨g2, g1, rfl⟩
      by_cases hlt : k < 3
      · have w1 : IntKind.i64.wrap ((k : Int) + 1) = k + 1 := wrap_i64 (by omega) (by omega)
        have hlo := fun fr R => loop_RCau1 (fr := fr) (h := h) (R := R) (cauT k) k hlt
        have e0 : gT (tab 0 (cauE k)) = [] := rfl
        have e1 : gL (.vsl true []) h.toks.length (cauT k).length (tab 0 (cauE k)) = .vsl true [] := rfl
        rw [e0, e1, List.append_nil] at hlo
        have hap : appK (limP h) (hx h [] (cauT k ++ [3])) 1 false (cauV h.toks.length k) (.vsl true [[gA h.toks.length (cauT k).length (tab 3 (cauE k))]]) = some (cauV h.toks.length (k + 1), hx h [] (cauT (k + 1))) := by
          have : k = 0 ∨ k = 1 ∨ k = 2 := by omega
          rcases this with rfl | rfl | rfl
          · exact appK_cT (limP h) h [] [3] 1 true [] [[gA h.toks.length 0 (tab 3 (cauE 0))]] (by simp [maxRoom, limP, szOk])
          · have := appK_gA (limP h) h [] [3, 1, 3] 1 1 true [[gA h.toks.length 0 (tab 3 (cauE 0))]] [[gA h.toks.length 2 (tab 3 (cauE 1))]] (by simp [maxRoom, limP, szOk])
            exact this
          · have := appK_gA (limP h) h [] [3, 2, 3, 3] 1 1 true [[gA h.toks.length 0 (tab 3 (cauE 0))], [gA h.toks.length 2 (tab 3 (cauE 1))]] [[gA h.toks.length 3 (tab 3 (cauE 2))]] (by simp [maxRoom, limP, szOk])
            exact this
        have hfill := fill1G h.toks.length (cauT k).length (tab 3 (cauE k))
        have hch : fillA (rep [AVal.nsl] 0) [] = some [] := rfl
        have hch0 : chunks 1 0 [] = [] := rfl
        generalize hv2 : cauV h.toks.length (k + 1) = v2 at *
        generalize ht2 : cauT (k + 1) = t2 at *
        generalize cauV h.toks.length k = v1 at *
        generalize gA h.toks.length (cauT k).length (tab 3 (cauE k)) = gr at *
        generalize cauT k ++ [3] = t3 at *
        generalize cauT k = t1 at *
        simp -implicitDefEqProofs [Bb_avouchref09zCauchy, g2, g1, show (k : Int) < 3 by omega, hch, hch0]
        generalize hF : run ctx _ (.loop _) _ _ = R
        obtain ⟨fr2, rfl, f3, hk2⟩ := hlo _ _ hF (by simp [g2]) (by simp) (by simp)
        simp -implicitDefEqProofs [hk2, wr, Ba_avouchref09zCauchy, dsts, f3, g1, g2, hfill, chunk1, hap, w1]
        exact ⟨hlt, hv2.symm, by rw [ht2]⟩
      · have : k = 3 := by omega
        subst this
        generalize cauV h.toks.length 3 = v1 at *
        simp [Bb_avouchref09zCauchy, g2, g1])
  exact ⟨fr', rfl, h1'⟩
theorem frz_gslE (h : AHeap) (nb nt n t : Nat) (es : List (List AVal)) : frz h nb nt (n + 1) (.gsl t es) = (frzE (frz h nb nt n) nb nt es).map fun es => if t < nt then .gsl t es else .vsl false es := by simp only [frz]
theorem frzE_3 (f : AVal → Option AVal) (nb nt : Nat) (a b c a' b' c' : AVal) (hu : underLL nb nt [[a], [b], [c]] = false) (h1 : f a = some a') (h2 : f b = some b') (h3 : f c = some c') : frzE f nb nt [[a], [b], [c]] = some [[a'], [b'], [c']] := by
  unfold frzE
  rw [hu]
  simp [h1, h2, h3]
/-- The matrix, as a value. -/
def cauMV : AVal := .vsl false (tab 3 fun i => [.vsl false (tab 3 (cauE i))])
theorem ok_RCauchy (L : Lim) (h : AHeap) : acall ctx L i_avouchref09zCauchy [] h = some (cauMV, h) := by
  rw [call_avouchref09zCauchy]
  have hlo := fun fr R => loop_RCau (fr := fr) (h := h) (R := R)
  have hch : fillA (rep [AVal.nsl] 0) [] = some [] := rfl
  have hch0 : chunks 1 0 [] = [] := rfl
  have hfz : frz (hx h [] (cauT 3)) h.blks.length h.toks.length 12 (cauV h.toks.length 3) = some cauMV := by
    have u0 := under_cauE 0 h.blks.length h.toks.length 3
    have u1 := under_cauE 1 h.blks.length h.toks.length 3
    have u2 := under_cauE 2 h.blks.length h.toks.length 3
    have e : cauMV = .vsl false [[.vsl false (tab 3 (cauE 0))], [.vsl false (tab 3 (cauE 1))], [.vsl false (tab 3 (cauE 2))]] := rfl
    rw [e]
    have ev : cauV h.toks.length 3 = gA h.toks.length 1 [[gA h.toks.length 0 (tab 3 (cauE 0))], [gA h.toks.length 2 (tab 3 (cauE 1))], [gA h.toks.length 3 (tab 3 (cauE 2))]] := rfl
    rw [ev]
    generalize tab 3 (cauE 0) = r0 at *
    generalize tab 3 (cauE 1) = r1 at *
    generalize tab 3 (cauE 2) = r2 at *
    have f0 := fun m i => frz_gAB (hx h [] (cauT 3)) h.blks.length h.toks.length m i r0 u0
    have f1 := fun m i => frz_gAB (hx h [] (cauT 3)) h.blks.length h.toks.length m i r1 u1
    have f2 := fun m i => frz_gAB (hx h [] (cauT 3)) h.blks.length h.toks.length m i r2 u2
    have hu : underLL h.blks.length h.toks.length [[gA h.toks.length 0 r0], [gA h.toks.length 2 r1], [gA h.toks.length 3 r2]] = false := by
      simp [underLL, underL, gA, AVal.under]
    show frz _ _ _ (11 + 1) (.gsl (h.toks.length + 1) _) = _
    rw [frz_gslE, frzE_3 _ _ _ _ _ _ _ _ _ hu (f0 10 0) (f1 10 2) (f2 10 3)]
    simp
  generalize cauV h.toks.length 3 = v3 at *
  simp -implicitDefEqProofs [C_avouchref09zCauchy, hch, hch0]
  generalize hF : run ctx _ (.loop _) _ _ = R
  obtain ⟨fr1, rfl, f1⟩ := hlo _ _ hF (by simp; rfl) (by simp)
  simp -implicitDefEqProofs [f1, hfz]
end Go.Av

namespace Go.Av
set_option maxHeartbeats 2000000
set_option maxRecDepth 20000
set_option linter.unusedSimpArgs false
set_option linter.unusedVariables false
/-- A list of numbers, each as a list of digits. -/
def nbL (l : List Nat) : List (List AVal) := l.map fun n => [.vsl false (eW (dg n))]
@[simp] theorem nbL_len (l : List Nat) : (nbL l).length = l.length := by simp [nbL]
theorem nbL_snoc (l : List Nat) (n : Nat) : nbL l ++ [[.vsl false (eW (dg n))]] = nbL (l ++ [n]) := by simp [nbL]
theorem nbL_szOk : ∀ l : List Nat, szOk 1 (nbL l) = true
  | [] => rfl
  | _ :: _ => rfl
theorem nbL_under (nb nt : Nat) : ∀ l : List Nat, underLL nb nt (nbL l) = true
  | [] => rfl
  | n :: l => by
    show (underL nb nt [AVal.vsl false (eW (dg n))] && underLL nb nt (nbL l)) = true
    rw [nbL_under nb nt l]
    simp only [underL, AVal.under, eW_under, Bool.and_self]
theorem iadr_nbL (kd : IntKind) (c : Bool) (l : List Nat) (i : Nat) (h : i < l.length) : iadrA none 1 (.vsl c (nbL l)) (.int kd (i : Int)) = some (.vptr [.vsl false (eW (dg (gd l 0 i)))] 0) := by
  have e : (nbL l)[i]? = some [.vsl false (eW (dg (gd l 0 i)))] := by unfold nbL; rw [List.getElem?_map, gd_get? (d := 0) h]; rfl
  simp [iadrA, asI, e]
theorem cauMV_form : ∃ es, cauMV = .vsl false es ∧ (∀ nb nt, underLL nb nt es = true) ∧ szOk 1 es = true := by
  refine ⟨_, rfl, fun nb nt => ?_, rfl⟩
  have : ∀ l : List Nat, underLL nb nt (l.map fun i => [AVal.vsl false (tab 3 (cauE i))]) = true := fun l => by
    induction l with
    | nil => rfl
    | cons x l ih => simp only [List.map_cons, underLL, ih, Bool.and_true, underL, AVal.under, under_cauE]
  exact this _
theorem loop_RTab {fr : Fr} {h : AHeap} {R : Option (AEx × Fr × AHeap)} (Q : Nat × List Nat) (hQ : elemsN srcG 195 = some Q) (M : AVal) (z : List AVal)
    (hF : run ctx (limP h) (.loop Ba_avouchref10zNew) fr (hx h [z, cB (rgB srcG), [gL .nsl h.toks.length 0 (nbL []), M]] (gT (nbL []))) = R)
    (h1 : fr 1 = pA h.blks.length 1 0) (h3 : fr 3 = pA h.blks.length 2 0) (h4 : fr 4 = .int .i64 0) :
    ∃ fr' r js, R = some (.exit 0, fr', hx h (z :: r :: [gL .nsl h.toks.length 0 (nbL Q.2), M] :: js) (gT (nbL Q.2))) ∧ ∀ t, t ∉ wr Ba_avouchref10zNew → fr' t = fr t := by
  obtain ⟨e', fr', h', rfl, ⟨rfl, r, js, rfl⟩, hk⟩ := loop_rule hF 195
    (fun k fr hh => fr 4 = .int .i64 (k : Int) ∧ ∃ p, elemsN srcG k = some p ∧ ∃ js, hh = hx h (z :: cB (rgB p.1) :: [gL .nsl h.toks.length 0 (nbL p.2), M] :: js) (gT (nbL p.2)))
    (fun e' fr hh => e' = .exit 0 ∧ ∃ r js, hh = hx h (z :: r :: [gL .nsl h.toks.length 0 (nbL Q.2), M] :: js) (gT (nbL Q.2)))
    ⟨h4, (srcG, []), rfl, [], rfl⟩ (by
      rintro k fr1 hh hkN hkeep ⟨g4, p, hp, js, rfl⟩
      have g1 := (hkeep 1 (by decide)).trans h1
      have g3 := (hkeep 3 (by decide)).trans h3
      by_cases hlt : k < 195
      · have w1 : IntKind.i64.wrap ((k : Int) + 1) = k + 1 := wrap_i64 (by omega) (by omega)
        obtain ⟨p2, hp2⟩ := elemsN_pre hQ (k + 1) (by omega)
        obtain ⟨p', r, e1, e2, rfl⟩ := elemsN_succ hp2
        rw [hp] at e1
        obtain rfl := Option.some.inj e1
        obtain ⟨hs1, hlen1⟩ := elemsN_ok srcG_lt hp
        have hE := fun L h => ok_REl L h 40 p.1 r e2 hs1
        have hap := fun bs => appK_nV (limP h) h bs 1 true (nbL p.2) [[.vsl false (eW (dg r.2))]] (by rw [nbL_szOk]; simp [maxRoom, limP]; omega)
        rw [nbL_snoc] at hap
        have hfill := fill1N (.vsl false (eW (dg r.2))) false _ rfl
        have l0 : (rgB p.1).length = 80 := rgB_len _
        have l1 : (rgB r.1).length = 80 := rgB_len _
        have lz : (tab 80 fun _ => false).length = 80 := by simp
        have hr0 := rep1_B 80
        have hrob : (limP h).rob ≤ h.blks.length := Nat.le_refl _
        have hst : ∀ v, stK (limP h) (hx h (z :: cB (rgB r.1) :: [gL .nsl h.toks.length 0 (nbL p.2), M] :: (js ++ [cB (rgB r.1)])) v) 1 (pA h.blks.length 2 0) (gL .nsl h.toks.length 0 (nbL (p.2 ++ [r.2]))) = some (undefA, hx h (z :: cB (rgB r.1) :: [gL .nsl h.toks.length 0 (nbL (p.2 ++ [r.2])), M] :: (js ++ [cB (rgB r.1)])) v) := fun v => by
          have hgg : gL .nsl h.toks.length 0 (nbL (p.2 ++ [r.2])) = gA h.toks.length 0 (nbL (p.2 ++ [r.2])) := by
            unfold gL; rw [if_neg (by simp [nbL])]
          rw [hgg]
          simp -implicitDefEqProofs [limP]
        have hfin : ∃ a b, elemsN srcG (k + 1) = some (a, b) ∧ (rgB r.1 = rgB a) ∧ (p.2 ++ [r.2] = b) := ⟨_, _, hp2, rfl, rfl⟩
        generalize p.2 ++ [r.2] = l2 at *
        generalize rgB r.1 = r1 at *
        generalize rgB p.1 = r0 at *
        generalize hv2 : gL .nsl h.toks.length 0 (nbL l2) = v2 at *
        generalize gL .nsl h.toks.length 0 (nbL p.2) = v1 at *
        generalize ht2 : gT (nbL l2) = t2 at *
        generalize gT (nbL p.2) = t1 at *
        generalize (tab 80 fun _ => false) = z0 at *
        generalize eW (dg r.2) = er at *
        have hg1 := fun x => app_getR (z :: cB r0 :: [v1, M] :: js) [x] (js.length + 3) 0 rfl
        have hs1 := fun x v => app_setR (z :: cB r0 :: [v1, M] :: js) [x] (js.length + 3) 0 v rfl
        simp only [Nat.add_zero, List.getElem?_cons_zero, List.getElem?_cons_succ, List.set_cons_zero, List.set_cons_succ, List.cons_append] at hg1 hs1
        simp -implicitDefEqProofs [Ba_avouchref10zNew, g1, g3, g4, show (k : Int) < 195 by omega, w1, partAB, partA_one, l0, l1, lz, hE, extK0, extK1, hr0, stKB, setAtB, storeA_fl, hrob, underL_cB, hg1, hs1, hfill, chunk1, hap, hst]
        obtain ⟨a, b, f1, f2, f3⟩ := hfin
        exact ⟨hlt, a, b, f1, js ++ [cB r1], by rw [← f2, ← f3, hv2, ht2]⟩
      · have : k = 195 := by omega
        subst this
        rw [hQ] at hp
        obtain rfl := Option.some.inj hp
        simp [Ba_avouchref10zNew, g4]
        exact ⟨_, _, rfl⟩)
  exact ⟨fr', r, js, rfl, hk⟩
theorem frz_aggE (h : AHeap) (nb nt n : Nat) (a b a' b' : AVal) (hf : flatL [a, b] = false) (h1 : frz h nb nt n a = some a') (h2 : frz h nb nt n b = some b') : frz h nb nt (n + 1) (.agg [a, b]) = some (.agg [a', b']) := by
  simp only [frz]
  rw [if_neg (by simp [hf])]
  simp [h1, h2]
def tblV (l : List Nat) : AVal := .agg [.vsl false (nbL l), cauMV]
theorem ok_RTab (L : Lim) (h : AHeap) (Q : Nat × List Nat) (hQ : elemsN srcG 195 = some Q) : acall ctx L i_avouchref10zNew [] h = some (tblV Q.2, h) := by
  rw [call_avouchref10zNew]
  have hlo := fun fr R M z => loop_RTab (fr := fr) (h := h) (R := R) Q hQ M z
  have hN := ok_RNew
  have hC := ok_RCauchy
  obtain ⟨es, hM, hMu, _⟩ := cauMV_form
  have hl := (elemsN_ok srcG_lt hQ).2
  have hg0 : gL .nsl h.toks.length 0 (nbL []) = .nsl := rfl
  have ht0 : gT (nbL []) = [] := rfl
  rw [hg0, ht0] at hlo
  have hne : nbL Q.2 ≠ [] := fun e => by have := congrArg List.length e; simp [hl] at this
  have hgg : gL .nsl h.toks.length 0 (nbL Q.2) = gA h.toks.length 0 (nbL Q.2) := by unfold gL; rw [if_neg hne]
  rw [hgg] at hlo
  have hr0 := rep1_B 80
  have lz : (tab 80 fun _ => false).length = 80 := by simp
  have l1 : (rgB srcG).length = 80 := rgB_len _
  have hfz : ∀ hh, frz hh h.blks.length h.toks.length 12 (.agg [gA h.toks.length 0 (nbL Q.2), cauMV]) = some (tblV Q.2) := fun hh => by
    unfold tblV
    rw [hM]
    refine frz_aggE hh _ _ 11 _ _ _ _ (by simp [gA, flatL, AVal.flat]) (frz_gAB hh _ _ 10 0 _ (nbL_under _ _ _)) (frz_vsl hh _ _ 10 false (hMu _ _))
  have hbld : ∀ v, v = cauMV → fillA [.nsl, .nsl] [(1, 1, v)] = some [.nsl, v] := fun v hv => by subst hv; rw [hM]; rfl
  have hb1 := hbld cauMV rfl
  have hu2 : underL 0 0 [AVal.nsl, cauMV] = true := by rw [hM]; simp only [underL, AVal.under, hMu, Bool.and_self]
  generalize hres : tblV Q.2 = res at *
  generalize nbL Q.2 = nq at *
  generalize gT nq = tq at *
  generalize cauMV = M at *
  generalize rgB srcG = r1 at *
  generalize (tab 80 fun _ => false) = z0 at *
  have hrob : (limP h).rob ≤ h.blks.length := Nat.le_refl _
  simp -implicitDefEqProofs [C_avouchref10zNew, hN, extK0, extK1, hr0, stKB, setAtB, lz, l1, storeA_fl, hrob, underL_cB, hC, hb1, hu2]
  generalize hF : run ctx _ (.loop _) _ _ = R
  obtain ⟨fr1, r, js, rfl, hk1⟩ := hlo _ _ _ _ hF (by simp) (by simp) (by simp)
  simp -implicitDefEqProofs [hk1, wr, Ba_avouchref10zNew, dsts, partAB, stKB, setAtB, limP, hfz]
/-- The constants of a round, of the table's list. -/
def conN (l : List Nat) (r : Int) (j : Nat) : Nat := if 0 ≤ r ∧ r < 65 then gd l 0 (3 * r.toNat + j) else 0
theorem ok_RConst (L : Lim) (h : AHeap) (l : List Nat) (hl : l.length = 195) (r : Int) (j : Nat) (hj : j < 3) : acall ctx L i_avouchref10zConstant [tblV l, .int .i64 r, .int .i64 (j : Int)] h = some (.vsl false (eW (dg (conN l r j))), h) := by
  rw [call_avouchref10zConstant]
  obtain ⟨es, hM, hMu, _⟩ := cauMV_form
  have hf : fzA h (tblV l) = some (tblV l, false) := by
    unfold tblV; rw [hM]; simp [fzA, flatL, AVal.flat]
  have hbox : boxK (tblV l) = some (.vptr [.vsl false (nbL l), cauMV] 0) := rfl
  by_cases hr : 0 ≤ r ∧ r < 65
  · obtain ⟨n, rfl⟩ : ∃ n : Nat, r = (n : Int) := ⟨r.toNat, by omega⟩
    have e : conN l (n : Int) j = gd l 0 (3 * n + j) := by unfold conN; rw [if_pos hr]; rfl
    rw [e]
    have w1 : IntKind.i64.wrap (3 * (n : Int)) = ((3 * n : Nat) : Int) := (wrap_i64 (by omega) (by omega)).trans (by omega)
    have w2 : IntKind.i64.wrap (((3 * n : Nat) : Int) + j) = ((3 * n + j : Nat) : Int) := wrap_i64 (by omega) (by omega)
    have hi := iadr_nbL .i64 false l (3 * n + j) (by omega)
    have c1 : ¬ (n : Int) < 0 := by omega
    have c2 : ¬ (64 : Int) < n := by omega
    generalize ((3 * n + j : Nat) : Int) = nj at *
    generalize ((3 * n : Nat) : Int) = n3 at *
    generalize tblV l = tv at *
    generalize nbL l = nl at *
    simp -implicitDefEqProofs [C_avouchref10zConstant, hf, hbox, c1, c2, w1, w2, hi]
  · have e : conN l r j = 0 := by unfold conN; rw [if_neg hr]
    rw [e, dg_zero]
    generalize tblV l = tv at *
    by_cases c1 : r < 0
    · simp -implicitDefEqProofs [C_avouchref10zConstant, hf, hbox, c1]
    · have c2 : (64 : Int) < r := by omega
      simp -implicitDefEqProofs [C_avouchref10zConstant, hf, hbox, c1, c2]
theorem elems_lt {s : Nat} (hs : s < 2 ^ 80) : ∀ {k : Nat} {q : Nat × List Nat}, elemsN s k = some q → ∀ i, gd q.2 0 i < pN
  | 0, q, h, i => by
    obtain rfl := Option.some.inj h
    have : gd ([] : List Nat) 0 i = 0 := by simp [gd, List.getD]
    rw [this]; exact pN_pos
  | k + 1, q, h, i => by
    obtain ⟨p, r, h1, h2, rfl⟩ := elemsN_succ h
    have ih := elems_lt hs h1 i
    have hp := elemsN_ok hs h1
    by_cases e : i < p.2.length
    · rw [gd_app1 _ _ _ _ e]; exact ih
    · rw [gd_app2 _ _ _ _ (by omega)]
      by_cases e2 : i - p.2.length = 0
      · rw [e2]; exact (elemN_lt 40 _ r h2 hp.1).2
      · have : gd [r.2] 0 (i - p.2.length) = 0 := by simp [gd, List.getD, e2]
        rw [this]; exact pN_pos
theorem conN_lt (l : List Nat) (hl : ∀ i, gd l 0 i < pN) (r : Int) (j : Nat) : conN l r j < pN := by
  unfold conN; split
  · exact hl _
  · exact pN_pos
theorem rowN_con (l m : List Nat) (hl : l.length = 195) (r : Int) (j : Nat) (hj : j < 3) : gd (rowN (l ++ m) r) 0 j = conN l r j := by
  unfold rowN conN
  split
  · rename_i h
    have h1 : 3 * r.toNat + j < l.length := by omega
    have h2 : j < (((l ++ m).drop (3 * r.toNat)).take 3).length := by simp; omega
    unfold gd
    rw [List.getD_eq_getElem?_getD, List.getElem?_take_of_lt hj, List.getElem?_drop, List.getElem?_append_left h1, ← List.getD_eq_getElem?_getD]
  · have : j = 0 ∨ j = 1 ∨ j = 2 := by omega
    rcases this with rfl | rfl | rfl <;> rfl
end Go.Av

namespace Go.Av
set_option maxHeartbeats 2000000
set_option maxRecDepth 20000
set_option linter.unusedSimpArgs false
set_option linter.unusedVariables false
theorem geI0 {k : IntKind} (a : Int) : binA .geq (.int k a) (.int k 0) = some (.bool (decide (a ≥ 0))) := bin_geq k a 0
theorem lt_dB8 {x : Nat} (h : x < pN + pN) : x < dB ^ 8 := Nat.lt_trans h (by decide)
theorem ok_RAdd2 (L : Lim) (h : AHeap) (u v : AVal) (x y : Nat) (hu : LV u (dg x)) (hv : LV v (dg y)) (hx1 : x < pN) (hy1 : y < pN) :
    acall ctx L i_avouchref02zAdd [u, v] h = some (.vsl false (eW (dg ((x + y) % pN))), h) := by
  rw [call_avouchref02zAdd]
  have hP := ok_RP
  rw [pD_dg] at hP
  have lx : (dg x).length < 100000000 := by have := dg_len (n := x) (k := 8) (lt_dB8 (by omega)); omega
  have ly : (dg y).length < 100000000 := by have := dg_len (n := y) (k := 8) (lt_dB8 (by omega)); omega
  have lp : (dg pN).length < 100000000 := by rw [← pD_dg]; decide
  have ls : (dg (x + y)).length < 100000000 := by have := dg_len (n := x + y) (k := 8) (lt_dB8 (by omega)); omega
  have hA := fun L h => ok_RAdd L h (.vsl false (eW (dg x))) (.vsl false (eW (dg y))) (dg x) (dg y) (LV.vsl _ _) (LV.vsl _ _) (dg_dg _) (dg_dg _) ⟨lx, ly⟩
  rw [dg_val, dg_val] at hA
  have hC := fun L h => ok_RCmp L h (.vsl false (eW (dg (x + y)))) (.vsl false (eW (dg pN))) (dg (x + y)) (dg pN) (RdW.vsl _ _ _) (RdW.vsl _ _ _) (dg_dg _) (dg_dg _) ⟨ls, lp⟩
  rw [dg_val, dg_val] at hC
  have hge := cmpN_ge (x + y) pN
  have hf1 := hu.fz
  have hf2 := hv.fz
  by_cases hle : pN ≤ x + y
  · rw [decide_eq_true hle] at hge
    have hS := fun L h => ok_RSub L h (.vsl false (eW (dg (x + y)))) (.vsl false (eW (dg pN))) (dg (x + y)) (dg pN) (LV.vsl _ _) (LV.vsl _ _) (dg_dg _) (dg_dg _) ls (dg_mono hle) (by rw [dg_val, dg_val]; exact hle)
    rw [dg_val, dg_val] at hS
    have e : (x + y) % pN = x + y - pN := by rw [Nat.mod_eq_sub_mod hle, Nat.mod_eq_of_lt (by omega)]
    rw [e]
    generalize cmpN (x + y) pN = cc at *
    generalize eW (dg pN) = ep at *
    generalize eW (dg (x + y)) = es at *
    simp -implicitDefEqProofs [C_avouchref02zAdd, hf1, hf2, hA, hP, hC, hge, -bin_geq, geI0, hS]
  · rw [decide_eq_false hle] at hge
    have e : (x + y) % pN = x + y := Nat.mod_eq_of_lt (by omega)
    rw [e]
    generalize cmpN (x + y) pN = cc at *
    generalize eW (dg pN) = ep at *
    simp -implicitDefEqProofs [C_avouchref02zAdd, hf1, hf2, hA, hP, hC, hge, -bin_geq, geI0]
theorem cauR_lt (i j : Nat) : cauR i j < pN := by
  unfold cauR cauN; exact Nat.mod_lt _ pN_pos
def apS (v : List Nat) (i : Nat) : Nat → Nat
  | 0 => 0
  | j + 1 => (apS v i j + cauR i j * gd v 0 j % pN) % pN
theorem apS_lt (v : List Nat) (i j : Nat) : apS v i j < pN := by
  cases j with
  | zero => exact pN_pos
  | succ j => exact Nat.mod_lt _ pN_pos
theorem gd_cauchy (i j : Nat) (hi : i < 3) (hj : j < 3) : gd cauchyN 0 (3 * i + j) = cauR i j := by
  unfold cauR cauchyN; rw [gd_tab (by omega)]
theorem apS_all (v : List Nat) (i : Nat) (hi : i < 3) : apS v i 3 = gd (applyN cauchyN v) 0 i := by
  unfold applyN
  rw [gd_tab hi, gd_cauchy i 1 hi (by decide), gd_cauchy i 2 hi (by decide), show 3 * i = 3 * i + 0 from rfl, gd_cauchy i 0 hi (by decide)]
  simp only [apS, Nat.zero_add]
  simp only [Nat.add_mod, Nat.mod_mod]
theorem loop_RAp1 {fr : Fr} {h : AHeap} {R : Option (AEx × Fr × AHeap)} (ts : List Nat) (es : List (List AVal)) (hes : cauMV = .vsl false es) (v : List Nat) (hv : v.length = 3) (hvp : ∀ j, gd v 0 j < pN) (i : Nat) (hi : i < 3)
    (hF : run ctx (limP h) (.loop Ba_avouchref09zApply) fr (hx h [] ts) = R)
    (h0 : fr 0 = .vsl false es) (h1 : fr 1 = .vsl false (nbL v)) (h6 : fr 6 = .int .i64 (i : Int)) (h7 : VlW (fr 7) (dg 0)) (h8 : fr 8 = .int .i64 0) :
    ∃ fr', R = some (.exit 2, fr', hx h [] ts) ∧ fr' 7 = .vsl false (eW (dg (gd (applyN cauchyN v) 0 i))) ∧ ∀ t, t ∉ wr Ba_avouchref09zApply → fr' t = fr t := by
  rw [← apS_all v i hi]
  obtain ⟨e, fr', h', rfl, ⟨rfl, rfl, h7'⟩, hk⟩ := loop_rule hF 3
    (fun k fr hh => fr 8 = .int .i64 (k : Int) ∧ VlW (fr 7) (dg (apS v i k)) ∧ (0 < k → fr 7 = .vsl false (eW (dg (apS v i k)))) ∧ hh = hx h [] ts)
    (fun e fr hh => e = .exit 2 ∧ hh = hx h [] ts ∧ fr 7 = .vsl false (eW (dg (apS v i 3))))
    ⟨h8, h7, fun h => absurd h (Nat.lt_irrefl 0), rfl⟩ (by
      rintro k fr1 hh hkN hkeep ⟨g8, ⟨c, g7⟩, g7', rfl⟩
      have g0 := (hkeep 0 (by decide)).trans h0
      have g1 := (hkeep 1 (by decide)).trans h1
      have g6 := (hkeep 6 (by decide)).trans h6
      by_cases hlt : k < 3
      · have w1 : IntKind.i64.wrap ((k : Int) + 1) = k + 1 := wrap_i64 (by omega) (by omega)
        have hrow : iadrA none 1 (.vsl false es) (.int .i64 (i : Int)) = some (.vptr [.vsl false (tab 3 (cauE i))] 0) := by
          have e : es[i]? = some [.vsl false (tab 3 (cauE i))] := by
            unfold cauMV at hes
            injection hes with _ hes
            rw [← hes]; exact tab_at hi
          simp [iadrA, asI, e]
        have hcell : iadrA none 1 (.vsl false (tab 3 (cauE i))) (.int .i64 (k : Int)) = some (.vptr [.vsl false (eW (dg (cauR i k)))] 0) := by
          have e : (tab 3 (cauE i))[k]? = some [.vsl false (eW (dg (cauR i k)))] := by rw [tab_at hlt]; unfold cauE nbE; rfl
          simp [iadrA, asI, e]
        have hvk := iadr_nbL .i64 false v k (by omega)
        have hM := fun L h => ok_RMul2 L h (.vsl false (eW (dg (cauR i k)))) (.vsl false (eW (dg (gd v 0 k)))) (cauR i k) (gd v 0 k) (LV.vsl _ _) (LV.vsl _ _) (Nat.lt_trans (cauR_lt i k) pN_lt_rN) (hvp k)
        have hA := fun L h => ok_RAdd2 L h (.vsl c (eW (dg (apS v i k)))) (.vsl false (eW (dg (cauR i k * gd v 0 k % pN)))) (apS v i k) (cauR i k * gd v 0 k % pN) (LV.vsl _ _) (LV.vsl _ _) (apS_lt v i k) (Nat.mod_lt _ pN_pos)
        rw [show (apS v i k + cauR i k * gd v 0 k % pN) % pN = apS v i (k + 1) from rfl] at hA
        generalize eW (dg (cauR i k * gd v 0 k % pN)) = e3 at *
        generalize eW (dg (cauR i k)) = e1 at *
        generalize eW (dg (gd v 0 k)) = e2 at *
        generalize eW (dg (apS v i k)) = e4 at *
        generalize tab 3 (cauE i) = ri at *
        generalize nbL v = nv at *
        simp -implicitDefEqProofs [Ba_avouchref09zApply, g0, g1, g6, g7, g8, show (k : Int) < 3 by omega, w1, hrow, hcell, hvk, hM, hA]
        exact ⟨hlt, VlW.mk _ _⟩
      · have : k = 3 := by omega
        subst this
        simp [Ba_avouchref09zApply, g8]
        exact g7' (by decide))
  exact ⟨fr', rfl, h7', hk⟩
theorem gd_nil (i : Nat) : gd ([] : List Nat) 0 i = 0 := by simp [gd, List.getD]
theorem tab_list {l : List Nat} {n : Nat} (h : l.length = n) : l = tab n (gd l 0) := tab_gd' 0 h
theorem loop_RAp {fr : Fr} {h : AHeap} {R : Option (AEx × Fr × AHeap)} (es : List (List AVal)) (hes : cauMV = .vsl false es) (v : List Nat) (hv : v.length = 3) (hvp : ∀ j, gd v 0 j < pN)
    (hF : run ctx (limP h) (.loop Bb_avouchref09zApply) fr (hx h [] (gT (nbL (tab 0 (gd (applyN cauchyN v) 0))))) = R)
    (h0 : fr 0 = .vsl false es) (h1 : fr 1 = .vsl false (nbL v)) (h5 : fr 5 = gL (.vsl true []) h.toks.length 0 (nbL (tab 0 (gd (applyN cauchyN v) 0)))) (h6 : fr 6 = .int .i64 0) :
    ∃ fr', R = some (.exit 0, fr', hx h [] (gT (nbL (applyN cauchyN v)))) ∧ fr' 5 = gL (.vsl true []) h.toks.length 0 (nbL (applyN cauchyN v)) := by
  have hall : tab 3 (gd (applyN cauchyN v) 0) = applyN cauchyN v := (tab_list (by simp)).symm
  rw [← hall]
  obtain ⟨e, fr', h', rfl, ⟨rfl, rfl, h5'⟩, hk⟩ := loop_rule hF 3
    (fun k fr hh => fr 6 = .int .i64 (k : Int) ∧ fr 5 = gL (.vsl true []) h.toks.length 0 (nbL (tab k (gd (applyN cauchyN v) 0))) ∧ hh = hx h [] (gT (nbL (tab k (gd (applyN cauchyN v) 0)))))
    (fun e fr hh => e = .exit 0 ∧ hh = hx h [] (gT (nbL (tab 3 (gd (applyN cauchyN v) 0)))) ∧ fr 5 = gL (.vsl true []) h.toks.length 0 (nbL (tab 3 (gd (applyN cauchyN v) 0))))
    ⟨h6, h5, rfl⟩ (by
      rintro k fr1 hh hkN hkeep ⟨g6, g5, rfl⟩
      have g0 := (hkeep 0 (by decide)).trans h0
      have g1 := (hkeep 1 (by decide)).trans h1
      by_cases hlt : k < 3
      · have w1 : IntKind.i64.wrap ((k : Int) + 1) = k + 1 := wrap_i64 (by omega) (by omega)
        have hlo := fun fr R ts => loop_RAp1 (fr := fr) (h := h) (R := R) ts es hes v hv hvp k hlt
        have hfill := fill1N (.vsl false (eW (dg (gd (applyN cauchyN v) 0 k)))) false _ rfl
        have hap := appK_cV (limP h) h [] 1 true (nbL (tab k (gd (applyN cauchyN v) 0))) [[.vsl false (eW (dg (gd (applyN cauchyN v) 0 k)))]] (by rw [nbL_szOk]; simp [maxRoom, limP]; omega)
        rw [nbL_snoc, tab_snoc] at hap
        have hch : fillA (rep [AVal.int .u64 0] 0) [] = some [] := rfl
        have hch0 : chunks 1 0 [] = [] := rfl
        generalize hv2 : gL (.vsl true []) h.toks.length 0 (nbL (tab (k + 1) (gd (applyN cauchyN v) 0))) = v2 at *
        generalize ht2 : gT (nbL (tab (k + 1) (gd (applyN cauchyN v) 0))) = t2 at *
        generalize gL (.vsl true []) h.toks.length 0 (nbL (tab k (gd (applyN cauchyN v) 0))) = v1 at *
        generalize gT (nbL (tab k (gd (applyN cauchyN v) 0))) = t1 at *
        generalize eW (dg (gd (applyN cauchyN v) 0 k)) = e1 at *
        simp -implicitDefEqProofs [Bb_avouchref09zApply, g0, g1, g5, g6, show (k : Int) < 3 by omega, hch, hch0]
        generalize hF : run ctx _ (.loop _) _ _ = R
        obtain ⟨fr2, rfl, f7, hk2⟩ := hlo _ _ _ hF (by simp [g0]) (by simp [g1]) (by simp [g6]) (by simp; exact VlW.mk true []) (by simp)
        simp -implicitDefEqProofs [hk2, wr, Ba_avouchref09zApply, dsts, f7, g5, g6, hfill, chunk1, hap, w1]
        exact ⟨hlt, hv2.symm, by rw [ht2]⟩
      · have : k = 3 := by omega
        subst this
        generalize gL (.vsl true []) h.toks.length 0 (nbL (tab 3 (gd (applyN cauchyN v) 0))) = v1 at *
        simp [Bb_avouchref09zApply, g6, g5])
  exact ⟨fr', rfl, h5'⟩
/-- What can be handed on as a list of numbers. -/
def NbV (x : AVal) (l : List Nat) : Prop := ∀ h, fzA h x = some (.vsl false (nbL l), false)
theorem NbV.vsl (c : Bool) (l : List Nat) : NbV (.vsl c (nbL l)) l := fun h => fzA_vsl h c _
theorem NbV.gL (n i : Nat) (l : List Nat) : NbV (gL (.vsl true []) n i (nbL l)) l := fun h => by
  unfold Av.gL
  split
  · rename_i e
    rw [e]; exact fzA_vsl h _ _
  · exact fzA_gA h _ _ _
theorem ok_RApply (L : Lim) (h : AHeap) (x : AVal) (v : List Nat) (hx1 : NbV x v) (hv : v.length = 3) (hvp : ∀ j, gd v 0 j < pN) :
    acall ctx L i_avouchref09zApply [cauMV, x] h = some (.vsl false (nbL (applyN cauchyN v)), h) := by
  rw [call_avouchref09zApply]
  obtain ⟨es, hM, hMu, _⟩ := cauMV_form
  have hlo := fun fr R => loop_RAp (fr := fr) (h := h) (R := R) es hM v hv hvp
  have hg0 : gL (.vsl true []) h.toks.length 0 (nbL (tab 0 (gd (applyN cauchyN v) 0))) = .vsl true [] := rfl
  have ht0 : gT (nbL (tab 0 (gd (applyN cauchyN v) 0))) = [] := rfl
  rw [hg0, ht0] at hlo
  have hf1 : fzA h cauMV = some (.vsl false es, false) := by rw [hM]; exact fzA_vsl h _ _
  have hf2 := hx1 h
  have hfz := fun hh => frz_gL (h1 := hh) (nb := h.blks.length) (nt := h.toks.length) (n := 11) (s := .vsl true []) (es := nbL (applyN cauchyN v)) (.inr rfl) (nbL_under _ _ _)
  have hch : fillA (rep [AVal.nsl] 0) [] = some [] := rfl
  have hch0 : chunks 1 0 [] = [] := rfl
  generalize gL (.vsl true []) h.toks.length 0 (nbL (applyN cauchyN v)) = gv at *
  generalize gT (nbL (applyN cauchyN v)) = tv at *
  generalize nbL (applyN cauchyN v) = na at *
  generalize cauMV = M at *
  simp -implicitDefEqProofs [C_avouchref09zApply, hf1, hf2, hch, hch0]
  generalize hF : run ctx _ (.loop _) _ _ = R
  obtain ⟨fr1, rfl, f5⟩ := hlo _ _ hF (by simp) (by simp) (by simp) (by simp)
  simp -implicitDefEqProofs [f5, hfz]
theorem ok_RPower (L : Lim) (h : AHeap) (u : AVal) (x : Nat) (hu : LV u (dg x)) (hx1 : x < pN) : acall ctx L i_avouchref10zPower [u] h = some (.vsl false (eW (dg (x ^ 5 % pN))), h) := by
  rw [call_avouchref10zPower]
  have hf1 := hu.fz
  have hM1 := fun L h => ok_RMul2 L h (.vsl false (eW (dg x))) (.vsl false (eW (dg x))) x x (LV.vsl _ _) (LV.vsl _ _) (Nat.lt_trans hx1 pN_lt_rN) hx1
  have hx2 := Nat.mod_lt (x * x) pN_pos
  have hM2 := fun L h => ok_RMul2 L h (.vsl false (eW (dg (x * x % pN)))) (.vsl false (eW (dg (x * x % pN)))) _ _ (LV.vsl _ _) (LV.vsl _ _) (Nat.lt_trans hx2 pN_lt_rN) hx2
  have hx3 := Nat.mod_lt (x * x % pN * (x * x % pN)) pN_pos
  have hM3 := fun L h => ok_RMul2 L h (.vsl false (eW (dg (x * x % pN * (x * x % pN) % pN)))) (.vsl false (eW (dg x))) _ x (LV.vsl _ _) (LV.vsl _ _) (Nat.lt_trans hx3 pN_lt_rN) hx1
  have e : x * x % pN * (x * x % pN) % pN * x % pN = x ^ 5 % pN := by
    rw [← Nat.mul_mod, Nat.mod_mul_mod]
    congr 1
    rw [show 5 = 2 + 2 + 1 from rfl, Nat.pow_succ, Nat.pow_add, Nat.pow_two]
  rw [e] at hM3
  generalize eW (dg (x * x % pN * (x * x % pN) % pN)) = e2 at *
  generalize eW (dg (x * x % pN)) = e1 at *
  generalize eW (dg x) = e0 at *
  simp -implicitDefEqProofs [C_avouchref10zPower, hf1, hM1, hM2, hM3]
end Go.Av

namespace Go.Av
set_option maxHeartbeats 2000000
set_option maxRecDepth 20000
set_option linter.unusedSimpArgs false
set_option linter.unusedVariables false
theorem applyN_mod {m a b : List Nat} (h : ∀ i, i < 3 → gd a 0 i % pN = gd b 0 i % pN) : applyN m a = applyN m b := by
  unfold applyN
  refine tab_congr fun i hi => ?_
  have e : ∀ c : Nat, ∀ j, j < 3 → c * gd a 0 j % pN = c * gd b 0 j % pN := fun c j hj => by
    rw [Nat.mul_mod, h j hj, ← Nat.mul_mod]
  have add : ∀ x y x' y' : Nat, x % pN = x' % pN → y % pN = y' % pN → (x + y) % pN = (x' + y') % pN := fun x y x' y' h1 h2 => by
    rw [Nat.add_mod, h1, h2, ← Nat.add_mod]
  exact add _ _ _ _ (add _ _ _ _ (e _ 0 (by decide)) (e _ 1 (by decide))) (e _ 2 (by decide))
/-- What the document's round makes of an element ahead of the mixing. -/
def stpN (w l : List Nat) (r : Int) (i : Nat) : Nat := match fullN r || i == 0 with
  | true => ((gd w 0 i + conN l r i) % pN) ^ 5 % pN
  | false => (gd w 0 i + conN l r i) % pN
theorem stepR_lt (w l : List Nat) (r : Int) (i : Nat) : stpN w l r i < pN := by
  unfold stpN; split <;> exact Nat.mod_lt _ pN_pos
theorem stepR_round (w l : List Nat) (hl : l.length = 195) (r : Int) : applyN cauchyN (tab 3 (stpN w l r)) = roundN (l ++ cauchyN) w r := by
  unfold roundN
  refine applyN_mod fun i hi => ?_
  rw [gd_tab hi, gd_tab hi]
  unfold stpN stepE
  rw [rowN_con l cauchyN hl r i hi]
  cases fullN r || i == 0 with
  | true => simp only [Nat.mod_mod]; rw [Nat.pow_mod, Nat.mod_mod, ← Nat.pow_mod]
  | false => simp only [Nat.mod_mod]
theorem roundN_mod (K : List Nat) {v w : List Nat} (r : Int) (h : ∀ i, i < 3 → gd v 0 i % pN = gd w 0 i % pN) : roundN K v r = roundN K w r := by
  unfold roundN
  refine applyN_mod fun i hi => ?_
  rw [gd_tab hi, gd_tab hi]
  unfold stepE
  have e : (gd v 0 i + gd (rowN K r) 0 i) % pN = (gd w 0 i + gd (rowN K r) 0 i) % pN := by rw [Nat.add_mod, h i hi, ← Nat.add_mod]
  cases fullN r || i == 0 with
  | true => simp only; rw [Nat.pow_mod, e, ← Nat.pow_mod]
  | false => exact e
theorem roundN_lt (K v : List Nat) (r : Int) (i : Nat) : gd (roundN K v r) 0 i < pN := by
  unfold roundN applyN
  by_cases hi : i < 3
  · rw [gd_tab hi]; exact Nat.mod_lt _ pN_pos
  · have : gd (tab 3 fun i => (gd cauchyN 0 (3 * i) * gd (tab 3 (stepE v (rowN K r) (fullN r))) 0 0 + gd cauchyN 0 (3 * i + 1) * gd (tab 3 (stepE v (rowN K r) (fullN r))) 0 1 + gd cauchyN 0 (3 * i + 2) * gd (tab 3 (stepE v (rowN K r) (fullN r))) 0 2) % pN) 0 i = 0 := by
      unfold gd; rw [List.getD_eq_getElem?_getD, List.getElem?_eq_none (by simp; omega)]; rfl
    rw [this]; exact pN_pos
theorem loop_RRd {fr : Fr} {h : AHeap} {R : Option (AEx × Fr × AHeap)} (w l : List Nat) (hw : w.length = 3) (hwp : ∀ i, gd w 0 i < pN) (hl : l.length = 195) (hlp : ∀ i, gd l 0 i < pN) (r : Int)
    (hF : run ctx (limP h) (.loop Ba_avouchref10zRound) fr (hx h [] (gT (nbL (tab 0 (stpN w l r))))) = R)
    (h1 : fr 1 = .vsl false (nbL w)) (h2 : fr 2 = .int .i64 r) (h3 : fr 3 = .vptr [.vsl false (nbL l), cauMV] 0) (h7 : fr 7 = gL (.vsl true []) h.toks.length 0 (nbL (tab 0 (stpN w l r)))) (h8 : fr 8 = .int .i64 0) :
    ∃ fr', R = some (.exit 0, fr', hx h [] (gT (nbL (tab 3 (stpN w l r))))) ∧ fr' 7 = gL (.vsl true []) h.toks.length 0 (nbL (tab 3 (stpN w l r))) ∧ ∀ t, t ∉ wr Ba_avouchref10zRound → fr' t = fr t := by
  obtain ⟨e, fr', h', rfl, ⟨rfl, rfl, h7'⟩, hk⟩ := loop_rule hF 3
    (fun k fr hh => fr 8 = .int .i64 (k : Int) ∧ fr 7 = gL (.vsl true []) h.toks.length 0 (nbL (tab k (stpN w l r))) ∧ hh = hx h [] (gT (nbL (tab k (stpN w l r)))))
    (fun e fr hh => e = .exit 0 ∧ hh = hx h [] (gT (nbL (tab 3 (stpN w l r)))) ∧ fr 7 = gL (.vsl true []) h.toks.length 0 (nbL (tab 3 (stpN w l r))))
    ⟨h8, h7, rfl⟩ (by
      rintro k fr1 hh hkN hkeep ⟨g8, g7, rfl⟩
      have g1 := (hkeep 1 (by decide)).trans h1
      have g2 := (hkeep 2 (by decide)).trans h2
      have g3 := (hkeep 3 (by decide)).trans h3
      by_cases hlt : k < 3
      · have w1 : IntKind.i64.wrap ((k : Int) + 1) = k + 1 := wrap_i64 (by omega) (by omega)
        have hik := iadr_nbL .i64 false w k (by omega)
        have ptl : partA true [AVal.vsl false (nbL l), cauMV] 0 2 = some (tblV l) := rfl
        have hC := fun L h => ok_RConst L h l hl r k hlt
        have hA := fun L h => ok_RAdd2 L h (.vsl false (eW (dg (gd w 0 k)))) (.vsl false (eW (dg (conN l r k)))) _ _ (LV.vsl _ _) (LV.vsl _ _) (hwp k) (conN_lt l hlp r k)
        have hsx := Nat.mod_lt (gd w 0 k + conN l r k) pN_pos
        have hP := fun L h => ok_RPower L h (.vsl false (eW (dg ((gd w 0 k + conN l r k) % pN)))) _ (LV.vsl _ _) hsx
        have hfill := fill1N (.vsl false (eW (dg (stpN w l r k)))) false _ rfl
        have hap := appK_cV (limP h) h [] 1 true (nbL (tab k (stpN w l r))) [[.vsl false (eW (dg (stpN w l r k)))]] (by rw [nbL_szOk]; simp [maxRoom, limP]; omega)
        rw [nbL_snoc, tab_snoc] at hap
        have hk0i : ((k : Int) == 0) = (k == 0) := by
          by_cases e : k = 0
          · subst e; rfl
          · rw [beq_false_of_ne e]; exact beq_false_of_ne (by omega)
        have hst : stpN w l r k = match fullN r || k == 0 with
          | true => ((gd w 0 k + conN l r k) % pN) ^ 5 % pN
          | false => (gd w 0 k + conN l r k) % pN := rfl
        generalize hv2 : gL (.vsl true []) h.toks.length 0 (nbL (tab (k + 1) (stpN w l r))) = v2 at *
        generalize ht2 : gT (nbL (tab (k + 1) (stpN w l r))) = t2 at *
        generalize gL (.vsl true []) h.toks.length 0 (nbL (tab k (stpN w l r))) = v1 at *
        generalize gT (nbL (tab k (stpN w l r))) = t1 at *
        generalize stpN w l r k = sk at *
        generalize ((gd w 0 k + conN l r k) % pN) = sx at *
        generalize eW (dg (gd w 0 k)) = e1 at *
        generalize eW (dg (conN l r k)) = e2 at *
        generalize tblV l = tv at *
        generalize nbL w = nw at *
        generalize [AVal.vsl false (nbL l), cauMV] = tc at *
        cases hfu : fullN r || k == 0 with
        | true =>
          rw [hfu] at hst
          simp only at hst
          subst hst
          by_cases c1 : r < 4
          · simp -implicitDefEqProofs [Ba_avouchref10zRound, limP, g1, g2, g3, g7, g8, show (k : Int) < 3 by omega, w1, hik, ptl, hC, hA, hP, c1]
            simp only [limP] at hap
            simp -implicitDefEqProofs [hfill, chunk1, hap, g8, w1]
            exact ⟨hlt, hv2.symm, by rw [ht2]⟩
          · by_cases c2 : (60 : Int) < r
            · simp -implicitDefEqProofs [Ba_avouchref10zRound, limP, g1, g2, g3, g7, g8, show (k : Int) < 3 by omega, w1, hik, ptl, hC, hA, hP, c1, c2]
              simp only [limP] at hap
              simp -implicitDefEqProofs [hfill, chunk1, hap, g8, w1]
              exact ⟨hlt, hv2.symm, by rw [ht2]⟩
            · have hk0 : ((k : Int) == 0) = true := by
                rw [hk0i]
                unfold fullN at hfu
                rw [decide_eq_false c1, decide_eq_false (by omega)] at hfu
                simpa using hfu
              simp -implicitDefEqProofs [Ba_avouchref10zRound, limP, g1, g2, g3, g7, g8, show (k : Int) < 3 by omega, w1, hik, ptl, hC, hA, hP, c1, c2, hk0]
              simp only [limP] at hap
              simp -implicitDefEqProofs [hfill, chunk1, hap, g8, w1]
              exact ⟨hlt, hv2.symm, by rw [ht2]⟩
        | false =>
          rw [hfu] at hst
          simp only at hst
          subst hst
          have hfu2 := hfu
          unfold fullN at hfu2
          simp only [Bool.or_eq_false_iff, decide_eq_false_iff_not] at hfu2
          have c1 : ¬ r < 4 := hfu2.1.1
          have c2 : ¬ (60 : Int) < r := by have := hfu2.1.2; omega
          have hk0 : ((k : Int) == 0) = false := by rw [hk0i]; exact hfu2.2
          simp -implicitDefEqProofs [Ba_avouchref10zRound, limP, g1, g2, g3, g7, g8, show (k : Int) < 3 by omega, w1, hik, ptl, hC, hA, c1, c2, hk0]
          simp only [limP] at hap
          simp -implicitDefEqProofs [hfill, chunk1, hap, g8, w1]
          exact ⟨hlt, hv2.symm, by rw [ht2]⟩
      · have : k = 3 := by omega
        subst this
        generalize gL (.vsl true []) h.toks.length 0 (nbL (tab 3 (stpN w l r))) = v1 at *
        simp [Ba_avouchref10zRound, g8, g7])
  exact ⟨fr', rfl, h7', hk⟩
theorem ok_RRound (L : Lim) (h : AHeap) (x : AVal) (w l : List Nat) (hx1 : NbV x w) (hw : w.length = 3) (hwp : ∀ i, gd w 0 i < pN) (hl : l.length = 195) (hlp : ∀ i, gd l 0 i < pN) (r : Int) :
    acall ctx L i_avouchref10zRound [tblV l, x, .int .i64 r] h = some (.vsl false (nbL (roundN (l ++ cauchyN) w r)), h) := by
  rw [call_avouchref10zRound]
  obtain ⟨es, hM, hMu, _⟩ := cauMV_form
  have hf : fzA h (tblV l) = some (tblV l, false) := by
    unfold tblV; rw [hM]; simp [fzA, flatL, AVal.flat]
  have hf2 := hx1 h
  have hbox : boxK (tblV l) = some (.vptr [.vsl false (nbL l), cauMV] 0) := rfl
  have hlo := fun fr R => loop_RRd (fr := fr) (h := h) (R := R) w l hw hwp hl hlp r
  have hg0 : gL (.vsl true []) h.toks.length 0 (nbL (tab 0 (stpN w l r))) = .vsl true [] := rfl
  have ht0 : gT (nbL (tab 0 (stpN w l r))) = [] := rfl
  rw [hg0, ht0] at hlo
  have hA := fun L hh => ok_RApply L hh (gL (.vsl true []) h.toks.length 0 (nbL (tab 3 (stpN w l r)))) (tab 3 (stpN w l r)) (NbV.gL _ _ _) (by simp) (fun j => by
    by_cases hj : j < 3
    · rw [gd_tab hj]; exact stepR_lt _ _ _ _
    · have : gd (tab 3 (stpN w l r)) 0 j = 0 := by unfold gd; rw [List.getD_eq_getElem?_getD, List.getElem?_eq_none (by simp; omega)]; rfl
      rw [this]; exact pN_pos)
  rw [stepR_round w l hl r] at hA
  have hfz := fun hh n => frz_vsl hh h.blks.length h.toks.length n false (nbL_under h.blks.length h.toks.length (roundN (l ++ cauchyN) w r))
  have hch : fillA (rep [AVal.nsl] 0) [] = some [] := rfl
  have hch0 : chunks 1 0 [] = [] := rfl
  have p1 : partA false [AVal.vsl false (nbL l), cauMV] 1 1 = some cauMV := rfl
  generalize nbL (roundN (l ++ cauchyN) w r) = nr at *
  generalize gL (.vsl true []) h.toks.length 0 (nbL (tab 3 (stpN w l r))) = gv at *
  generalize gT (nbL (tab 3 (stpN w l r))) = tt at *
  generalize tblV l = tv at *
  generalize [AVal.vsl false (nbL l), cauMV] = tc at *
  generalize cauMV = M at *
  simp -implicitDefEqProofs [C_avouchref10zRound, hf, hf2, hbox, hch, hch0]
  generalize hF : run ctx _ (.loop _) _ _ = R
  obtain ⟨fr1, rfl, f7, hk1⟩ := hlo _ _ hF (by simp) (by simp) (by simp) (by simp) (by simp)
  simp -implicitDefEqProofs [hk1, wr, Ba_avouchref10zRound, dsts, f7, p1, hA, hfz]
theorem permN_lt (K v : List Nat) (hv : ∀ i, gd v 0 i < pN) : ∀ k i, gd (permN K v k) 0 i < pN
  | 0, i => hv i
  | k + 1, i => roundN_lt _ _ _ i
theorem loop_RPerm {fr : Fr} {h : AHeap} {R : Option (AEx × Fr × AHeap)} (w l : List Nat) (hw : w.length = 3) (hwp : ∀ i, gd w 0 i < pN) (hl : l.length = 195) (hlp : ∀ i, gd l 0 i < pN)
    (hF : run ctx (limP h) (.loop Ba_avouchref10zPermute) fr (hx h [] []) = R)
    (h1 : fr 1 = .vsl false (nbL w)) (h2 : fr 2 = .vptr [.vsl false (nbL l), cauMV] 0) (h5 : fr 5 = .int .i64 0) :
    ∃ fr', R = some (.exit 0, fr', hx h [] []) ∧ fr' 1 = .vsl false (nbL (permN (l ++ cauchyN) w 65)) := by
  obtain ⟨e, fr', h', rfl, ⟨rfl, rfl, h1'⟩, hk⟩ := loop_rule hF 65
    (fun k fr hh => fr 5 = .int .i64 (k : Int) ∧ fr 1 = .vsl false (nbL (permN (l ++ cauchyN) w k)) ∧ hh = hx h [] [])
    (fun e fr hh => e = .exit 0 ∧ hh = hx h [] [] ∧ fr 1 = .vsl false (nbL (permN (l ++ cauchyN) w 65)))
    ⟨h5, h1, rfl⟩ (by
      rintro k fr1 hh hkN hkeep ⟨g5, g1, rfl⟩
      have g2 := (hkeep 2 (by decide)).trans h2
      by_cases hlt : k < 65
      · have w1 : IntKind.i64.wrap ((k : Int) + 1) = k + 1 := wrap_i64 (by omega) (by omega)
        have ptl : partA true [AVal.vsl false (nbL l), cauMV] 0 2 = some (tblV l) := rfl
        have hR := fun L h => ok_RRound L h (.vsl false (nbL (permN (l ++ cauchyN) w k))) (permN (l ++ cauchyN) w k) l (NbV.vsl _ _) (permN_len _ _ hw k) (permN_lt _ _ hwp k) hl hlp (k : Int)
        rw [show roundN (l ++ cauchyN) (permN (l ++ cauchyN) w k) (k : Int) = permN (l ++ cauchyN) w (k + 1) from rfl] at hR
        generalize hn2 : nbL (permN (l ++ cauchyN) w (k + 1)) = n2 at *
        generalize nbL (permN (l ++ cauchyN) w k) = n1 at *
        generalize tblV l = tv at *
        generalize [AVal.vsl false (nbL l), cauMV] = tc at *
        simp -implicitDefEqProofs [Ba_avouchref10zPermute, g1, g2, g5, show (k : Int) < 65 by omega, w1, ptl, hR]
        exact ⟨hlt, by rw [hn2]⟩
      · have : k = 65 := by omega
        subst this
        generalize nbL (permN (l ++ cauchyN) w 65) = n1 at *
        simp [Ba_avouchref10zPermute, g5, g1])
  exact ⟨fr', rfl, h1'⟩
theorem ok_RPermute (L : Lim) (h : AHeap) (x : AVal) (w l : List Nat) (hx1 : NbV x w) (hw : w.length = 3) (hwp : ∀ i, gd w 0 i < pN) (hl : l.length = 195) (hlp : ∀ i, gd l 0 i < pN) :
    acall ctx L i_avouchref10zPermute [tblV l, x] h = some (.vsl false (nbL (permN (l ++ cauchyN) w 65)), h) := by
  rw [call_avouchref10zPermute]
  obtain ⟨es, hM, hMu, _⟩ := cauMV_form
  have hf : fzA h (tblV l) = some (tblV l, false) := by
    unfold tblV; rw [hM]; simp [fzA, flatL, AVal.flat]
  have hf2 := hx1 h
  have hbox : boxK (tblV l) = some (.vptr [.vsl false (nbL l), cauMV] 0) := rfl
  have hlo := fun fr R => loop_RPerm (fr := fr) (h := h) (R := R) w l hw hwp hl hlp
  have hfz := fun hh n => frz_vsl hh h.blks.length h.toks.length n false (nbL_under h.blks.length h.toks.length (permN (l ++ cauchyN) w 65))
  generalize nbL (permN (l ++ cauchyN) w 65) = nr at *
  generalize tblV l = tv at *
  generalize [AVal.vsl false (nbL l), cauMV] = tc at *
  simp -implicitDefEqProofs [C_avouchref10zPermute, hf, hf2, hbox]
  generalize hF : run ctx _ (.loop _) _ _ = R
  obtain ⟨fr1, rfl, f1⟩ := hlo _ _ hF (by simp) (by simp) (by simp)
  simp -implicitDefEqProofs [f1, hfz]
end Go.Av

namespace Go.Av
set_option maxHeartbeats 2000000
set_option maxRecDepth 20000
set_option linter.unusedSimpArgs false
set_option linter.unusedVariables false
theorem ok_PIs (L : Lim) (h : AHeap) (v : List Nat) (hv : v.length = 3) (hlt : ∀ i, gd v 0 i < pN) : acall ctx L i_avouchlaw10zis [.agg (cW (feL v)), .vsl false (nbL v)] h = some (.bool true, h) := by
  rw [call_avouchlaw10zis]
  have hf : fzA h (.agg (cW (feL v))) = some (.agg (cW (feL v)), false) := fzA_cW _ _
  have hbox : boxK (.agg (cW (feL v))) = some (.vptr (cW (feL v)) 0) := rfl
  have hf2 := fzA_vsl h false (nbL v)
  have a0 : iadrA (some 3) 4 (.vptr (cW (feL v)) 0) (.int .i64 0) = some (.vptr (cW (feL v)) 0) := rfl
  have a1 : iadrA (some 3) 4 (.vptr (cW (feL v)) 0) (.int .i64 1) = some (.vptr (cW (feL v)) 4) := rfl
  have a2 : iadrA (some 3) 4 (.vptr (cW (feL v)) 0) (.int .i64 2) = some (.vptr (cW (feL v)) 8) := rfl
  have p0 := part_fe0 v 0 0 rfl (by omega)
  have p1 := part_fe0 v 4 1 rfl (by omega)
  have p2 := part_fe0 v 8 2 rfl (by omega)
  have b0 := iadr_nbL .i64 false v 0 (by omega)
  have b1 := iadr_nbL .i64 false v 1 (by omega)
  have b2 := iadr_nbL .i64 false v 2 (by omega)
  have hI := fun i L h => ok_Is L h (gd v 0 i) (.vsl false (eW (dg (gd v 0 i)))) (by rw [Nat.mod_eq_of_lt (hlt i)]; exact LV.vsl _ _)
  have hI0 := hI 0
  have hI1 := hI 1
  have hI2 := hI 2
  simp only [Int.natCast_zero, Int.natCast_one, Int.cast_ofNat_Int] at b0 b1 b2
  generalize fe (gd v 0 0) = f0 at *
  generalize fe (gd v 0 1) = f1 at *
  generalize fe (gd v 0 2) = f2 at *
  generalize eW (dg (gd v 0 0)) = e0 at *
  generalize eW (dg (gd v 0 1)) = e1 at *
  generalize eW (dg (gd v 0 2)) = e2 at *
  generalize cW (feL v) = c at *
  generalize nbL v = n at *
  simp -implicitDefEqProofs [C_avouchlaw10zis, hf, hf2, hbox, a0, a1, a2, p0, p1, p2, b0, b1, b2, hI0, hI1, hI2]
theorem permN_mod (K : List Nat) {v w : List Nat} (h : ∀ i, i < 3 → gd v 0 i % pN = gd w 0 i % pN) : ∀ k i, i < 3 → gd (permN K v k) 0 i % pN = gd (permN K w k) 0 i % pN
  | 0, i, hi => h i hi
  | k + 1, i, hi => by
    show gd (roundN K (permN K v k) k) 0 i % pN = gd (roundN K (permN K w k) k) 0 i % pN
    rw [roundN_mod K k (permN_mod K h k)]
theorem permN_mod1 (K : List Nat) {v w : List Nat} (h : ∀ i, i < 3 → gd v 0 i % pN = gd w 0 i % pN) : permN K v 65 = permN K w 65 := by
  show roundN K (permN K v 64) 64 = roundN K (permN K w 64) 64
  exact roundN_mod K 64 (permN_mod K h 64)
theorem ok_PoseidonPermutes (L : Lim) (h : AHeap) (x y z : List Int) (hx1 : inB x) (hy1 : inB y) (hz1 : inB z) (r : Int) :
    acall ctx L i_avouchlaw10zPoseidonPermutes [.agg (tB [x, y, z]), .int .i64 r] h = some (.bool true, h) := by
  rw [call_avouchlaw10zPoseidonPermutes]
  have hS := ok_speaks10
  have hf := fzA_tB h x y z
  have hbox : boxK (.agg (tB [x, y, z])) = some (.vptr (tB [x, y, z]) 0) := rfl
  have hpt : partA true (tB [x, y, z]) 0 3 = some (.agg (tB [x, y, z])) := rfl
  have hfew := fun L h => ok_few L h x y z
  by_cases hc : (decide (x.length ≤ 40) && (decide (y.length ≤ 40) && decide (z.length ≤ 40))) = true
  · rw [hc] at hfew
    simp only [Bool.and_eq_true, decide_eq_true_eq] at hc
    have hOf := fun L h => ok_POf L h x y z ⟨hx1, by omega⟩ ⟨hy1, by omega⟩ ⟨hz1, by omega⟩
    obtain ⟨w, hw⟩ : ∃ w, w = [leN x % pN, leN y % pN, leN z % pN] := ⟨_, rfl⟩
    obtain ⟨v, hv⟩ : ∃ v, v = [leN x, leN y, leN z] := ⟨_, rfl⟩
    have hd : tab 3 (dOf [x, y, z]) = nbL w := by rw [hw]; rfl
    rw [← hv, hd] at hOf
    have hvl : v.length = 3 := by rw [hv]; rfl
    have hwl : w.length = 3 := by rw [hw]; rfl
    have hwm : ∀ i, i < 3 → gd w 0 i % pN = gd v 0 i % pN := fun i hi => by
      have : i = 0 ∨ i = 1 ∨ i = 2 := by omega
      rw [hw, hv]
      rcases this with rfl | rfl | rfl <;> exact Nat.mod_mod _ _
    have hwp : ∀ i, gd w 0 i < pN := fun i => by
      by_cases hi : i < 3
      · have : i = 0 ∨ i = 1 ∨ i = 2 := by omega
        rw [hw]
        rcases this with rfl | rfl | rfl <;> exact Nat.mod_lt _ pN_pos
      · have : gd w 0 i = 0 := by unfold gd; rw [List.getD_eq_getElem?_getD, List.getElem?_eq_none (by omega)]; rfl
        rw [this]; exact pN_pos
    have hN := fun L => ok_PNew L h [] []
    obtain ⟨Q, hQ⟩ : ∃ Q, elemsN srcG 195 = some Q := ⟨_, elems_lit⟩
    have hl := (elemsN_ok srcG_lt hQ).2
    have hlt := elems_lt srcG_lt hQ
    have hT := fun L h => ok_RTab L h Q hQ
    have hR1 := fun L h => ok_RRound L h (.vsl false (nbL w)) w Q.2 (NbV.vsl _ _) hwl hwp hl hlt r
    have hR2 := fun L h => ok_RPermute L h (.vsl false (nbL w)) w Q.2 (NbV.vsl _ _) hwl hwp hl hlt
    obtain ⟨K, hK⟩ : ∃ K, Q.2 ++ cauchyN = K := ⟨_, rfl⟩
    have hR := fun L hL tt cc => ok_Round L h [poC 0 0 0 (tab 204 fun _ => 0), tt, cc] [] 0 _ v r hvl rfl Q hQ (poOk_new _) hL
    have hP := fun L hL tt cc => ok_Perm L h [poF K, tt, cc] [] 0 _ v hvl rfl Q hQ (by rw [hK]; exact .inl rfl) hL
    simp only [List.set_cons_zero, hK] at hR hP hR1 hR2
    rw [roundN_mod K r hwm] at hR1
    rw [permN_mod1 K hwm] at hR2
    have hI1 := fun L h => ok_PIs L h (roundN K v r) (roundN_len _ _ _) (roundN_lt K v r)
    have hI2 := fun L h => ok_PIs L h (permN K v 65) (permN_len _ _ hvl 65) (fun i => roundN_lt K (permN K v 64) 64 i)
    have ptl : partA true [AVal.vsl false (nbL Q.2), cauMV] 0 2 = some (tblV Q.2) := rfl
    have hz0 : rep1 (AVal.int .u64 0) 12 = cW (feL (tab 3 fun _ => 0)) := by rw [rep1_W]; exact congrArg cW (zeros_feL 3)
    have l0 : (feL (tab 3 fun _ => 0)).length = 12 := by simp
    have l1 : (feL v).length = 12 := by simp [hvl]
    have hst : ∀ L (hL : L.rob ≤ h.blks.length) (p0 : List AVal), stK L (hx h [p0, [.nsl, .nsl]] []) 2 (pA h.blks.length 1 0) (tblV Q.2) = some (undefA, hx h [p0, [.vsl false (nbL Q.2), cauMV]] []) := fun L hL p0 => by
      obtain ⟨es, hM, hMu, _⟩ := cauMV_form
      have hu : underL 0 0 [AVal.vsl false (nbL Q.2), cauMV] = true := by rw [hM]; simp only [underL, AVal.under, hMu, nbL_under, Bool.and_self]
      unfold tblV
      rw [stKB _ _ _ _ _ rfl, storeA_fl _ _ _ _ _ _ _ (by simp [hL, hu])]
      simp [setAt]
    have hrob : (limP h).rob ≤ h.blks.length := Nat.le_refl _
    generalize tblV Q.2 = tv at *
    generalize [AVal.vsl false (nbL Q.2), cauMV] = tc at *
    generalize nbL (roundN K v r) = n1 at *
    generalize nbL (permN K v 65) = n2 at *
    generalize nbL w = nw at *
    generalize feL (roundN K v r) = f1 at *
    generalize feL (permN K v 65) = f2 at *
    generalize feL v = f0 at *
    generalize feL (tab 3 fun _ => 0) = fz at *
    generalize poF K = pf at *
    generalize poC 0 0 0 (tab 204 fun _ => 0) = p0 at *
    generalize tB [x, y, z] = t at *
    simp -implicitDefEqProofs [C_avouchlaw10zPoseidonPermutes, hS, hf, hbox, hpt, hfew, hN, hT, hst, hrob, hOf, hz0, l0, l1, stKB, setAtB, storeA_fl, hR, hP, hR1, hR2, hI1, hI2, ptl, partAB]
  · have hc' : (decide (x.length ≤ 40) && (decide (y.length ≤ 40) && decide (z.length ≤ 40))) = false := by simpa using hc
    rw [hc'] at hfew
    generalize tB [x, y, z] = t at *
    simp -implicitDefEqProofs [C_avouchlaw10zPoseidonPermutes, hS, hf, hbox, hpt, hfew]
end Go.Av
