/- The document's permutation, bit by bit, is that of the lanes: words, rho, pi, chi, theta. -/
import Derived.Test.YtljmmfgacoapaaaDoorC1
namespace Go.Av
set_option maxHeartbeats 1000000
set_option maxRecDepth 20000
set_option linter.unusedSimpArgs false
set_option linter.unusedVariables false

/-! #### bits of lanes -/
def bit (l : List W64) (j : Nat) : Bool := (gd l 0#64 (j / 320 + 5 * (j / 64 % 5))).getLsbD (j % 64)
def bitsL (l : List W64) : List Bool := tab 1600 (bit l)
@[simp] theorem bitsL_len (l : List W64) : (bitsL l).length = 1600 := by simp [bitsL]
theorem bit_at (l : List W64) (x y z : Nat) (hx : x < 5) (hy : y < 5) (hz : z < 64) : bit l (x * 320 + y * 64 + z) = (gd l 0#64 (x + 5 * y)).getLsbD z := by
  unfold bit
  rw [show (x * 320 + y * 64 + z) / 320 = x by omega, show (x * 320 + y * 64 + z) / 64 % 5 = y by omega, show (x * 320 + y * 64 + z) % 64 = z by omega]
theorem bitsL_at (l : List W64) (x y z : Nat) (hx : x < 5) (hy : y < 5) (hz : z < 64) : gd (bitsL l) false (x * 320 + y * 64 + z) = (gd l 0#64 (x + 5 * y)).getLsbD z := by
  unfold bitsL; rw [gd_tab (by omega), bit_at l x y z hx hy hz]
theorem rep1_B0 (n : Nat) : rep1 (AVal.bool false) n = cB (tab n fun _ => false) := rep1_B n

/-! #### bits of words, and back -/
/-- As far as the lanes before the i-th, and its first bits, are laid. -/
def owP (i z j : Nat) : Prop := j / 320 + 5 * (j / 64 % 5) < i ∨ j / 320 + 5 * (j / 64 % 5) = i ∧ j % 64 < z
instance (i z j : Nat) : Decidable (owP i z j) := by unfold owP; exact inferInstance
def owT (l : List W64) (i z : Nat) : List Bool := tab 1600 fun j => if owP i z j then bit l j else false
@[simp] theorem owT_len (l : List W64) (i z : Nat) : (owT l i z).length = 1600 := by simp [owT]
theorem owT_zero (l : List W64) : owT l 0 0 = tab 1600 fun _ => false := tab_congr fun j hj => by
  have : ¬ owP 0 0 j := by unfold owP; omega
  rw [if_neg this]
theorem owT_next (l : List W64) (i : Nat) : owT l i 64 = owT l (i + 1) 0 := tab_congr fun j hj => by
  by_cases h : owP i 64 j
  · have h2 : owP (i + 1) 0 j := by unfold owP at *; omega
    rw [if_pos h, if_pos h2]
  · have h2 : ¬ owP (i + 1) 0 j := by unfold owP at *; omega
    rw [if_neg h, if_neg h2]
theorem owT_all (l : List W64) : owT l 25 0 = bitsL l := tab_congr fun j hj => by
  have : owP 25 0 j := by unfold owP; omega
  rw [if_pos this]
theorem dec3 {j : Nat} (hj : j < 1600) : ∃ x y z, x < 5 ∧ y < 5 ∧ z < 64 ∧ j = x * 320 + y * 64 + z := ⟨j / 320, j / 64 % 5, j % 64, by omega, by omega, by omega, by omega⟩
theorem owP_at (i k x y z : Nat) (hx : x < 5) (hy : y < 5) (hz : z < 64) : owP i k (x * 320 + y * 64 + z) ↔ x + 5 * y < i ∨ x + 5 * y = i ∧ z < k := by
  unfold owP
  rw [show (x * 320 + y * 64 + z) / 320 = x by omega, show (x * 320 + y * 64 + z) / 64 % 5 = y by omega, show (x * 320 + y * 64 + z) % 64 = z by omega]
theorem owT_set (l : List W64) (i z : Nat) (hi : i < 25) (hz : z < 64) : (owT l i z).set (i % 5 * 320 + i / 5 * 64 + z) ((gd l 0#64 i).getLsbD z) = owT l i (z + 1) := by
  unfold owT
  rw [tab_set]
  refine tab_congr fun j hj => ?_
  have hx5 : i % 5 < 5 := by omega
  have hy5 : i / 5 < 5 := by omega
  have hi2 : i % 5 + 5 * (i / 5) = i := by omega
  generalize i % 5 = p at *
  generalize i / 5 = q at *
  obtain ⟨x, y, c, hx, hy, hc, rfl⟩ := dec3 hj
  by_cases h : x * 320 + y * 64 + c = p * 320 + q * 64 + z
  · have e1 : x = p := by omega
    have e2 : y = q := by omega
    have e3 : c = z := by omega
    subst e1 e2 e3
    have h2 : owP i (c + 1) (x * 320 + y * 64 + c) := (owP_at _ _ _ _ _ hx hy hc).2 (by omega)
    rw [if_pos rfl, if_pos h2, bit_at l _ _ _ hx hy hc, hi2]
  · rw [if_neg h]
    by_cases h1 : x + 5 * y < i ∨ x + 5 * y = i ∧ c < z
    · rw [if_pos ((owP_at _ _ _ _ _ hx hy hc).2 h1), if_pos ((owP_at _ _ _ _ _ hx hy hc).2 (by omega))]
    · rw [if_neg (fun h => h1 ((owP_at _ _ _ _ _ hx hy hc).1 h)), if_neg (fun h2 => by have := (owP_at _ _ _ _ _ hx hy hc).1 h2; omega)]
theorem wd_rem2 (x : W64) : binA .rem (wd x) (.int .u64 2) = some (wd (x % 2#64)) := by
  unfold wd
  rw [bin_rem _ _ _ (by decide), BitVec.toNat_umod]
  exact congrArg (fun n => some (AVal.int .u64 n)) (tmodL x.toNat 2)
theorem wd_rem256 (x : W64) : binA .rem (wd x) (.int .u64 256) = some (wd (x % 256#64)) := by
  unfold wd
  rw [bin_rem _ _ _ (by decide), BitVec.toNat_umod]
  exact congrArg (fun n => some (AVal.int .u64 n)) (tmodL x.toNat 256)
theorem wd_quo2 (x : W64) : binA .quo (wd x) (.int .u64 2) = some (wd (x >>> 1)) := by
  unfold wd
  rw [bin_quo _ _ _ (by decide), BitVec.toNat_ushiftRight, tdiv2, wrapU _ (by have := x.isLt; omega), Nat.shiftRight_eq_div_pow]
theorem wd_quo256 (x : W64) : binA .quo (wd x) (.int .u64 256) = some (wd (x >>> 8)) := by
  unfold wd
  have : (x.toNat : Int).tdiv 256 = ((x.toNat / 256 : Nat) : Int) := tdivL x.toNat 256
  rw [bin_quo _ _ _ (by decide), BitVec.toNat_ushiftRight, this, wrapU _ (by have := x.isLt; omega), Nat.shiftRight_eq_div_pow]
theorem wd_eql (x y : W64) : binA .eql (wd x) (wd y) = some (.bool (x == y)) := by
  unfold wd
  rw [bin_eql]
  congr 2
  rw [Bool.eq_iff_iff]
  simp only [beq_iff_eq]
  constructor
  · intro h; exact BitVec.eq_of_toNat_eq (by exact_mod_cast h)
  · intro h; rw [h]
theorem odd_bit (x : W64) : (x % 2#64 == 1#64) = x.getLsbD 0 := by
  rw [Bool.eq_iff_iff, beq_iff_eq]
  have h2 : (x % 2#64).toNat = x.toNat % 2 := by rw [BitVec.toNat_umod]; rfl
  constructor
  · intro h
    have : x.toNat % 2 = 1 := by rw [← h2, h]; rfl
    simp [BitVec.getLsbD, Nat.testBit, this]
  · intro h
    have : x.toNat % 2 = 1 := by
      simpa [BitVec.getLsbD, Nat.testBit] using h
    apply BitVec.eq_of_toNat_eq
    rw [h2, this]; rfl
theorem shr_bit (x : W64) (z : Nat) : (x >>> z).getLsbD 0 = x.getLsbD z := by simp

theorem loop_OW_in {fr : Fr} {h : AHeap} {R : Option (AEx × Fr × AHeap)} (l : List W64) (b : List AVal) (i : Nat) (hi : i < 25)
    (hF : run ctx (limP h) (.loop Ba_avouchref06zOfWords) fr (hx h [b, cB (owT l i 0)] []) = R)
    (h3 : fr 3 = pA h.blks.length 1 0) (h4 : fr 4 = .int .i64 i) (h5 : fr 5 = wd (gd l 0#64 i)) (h6 : fr 6 = .int .i64 0) :
    ∃ fr', R = some (.exit 2, fr', hx h [b, cB (owT l i 64)] []) ∧ ∀ t, t ∉ wr Ba_avouchref06zOfWords → fr' t = fr t := by
  obtain ⟨e, fr', h', rfl, ⟨rfl, rfl⟩, hk⟩ := loop_rule hF 64
    (fun k fr hh => fr 6 = .int .i64 k ∧ fr 5 = wd (gd l 0#64 i >>> k) ∧ hh = hx h [b, cB (owT l i k)] [])
    (fun e fr hh => e = .exit 2 ∧ hh = hx h [b, cB (owT l i 64)] [])
    ⟨h6, by simpa using h5, rfl⟩ (by
      rintro k fr1 hh hkN hkeep ⟨g6, g5, rfl⟩
      have g3 := (hkeep 3 (by decide)).trans h3
      have g4 := (hkeep 4 (by decide)).trans h4
      by_cases hlt : k < 64
      · have w1 : IntKind.i64.wrap ((k : Int) + 1) = k + 1 := wrap_i64 (by omega) (by omega)
        have hset := owT_set l i k hi hlt
        rw [← shr_bit, ← odd_bit] at hset
        have t1 := tmod5 i
        have t2 : (i : Int).tdiv 5 = ((i / 5 : Nat) : Int) := tdivL i 5
        have t3 := wrapN (i / 5) (by omega)
        have hx5 : i % 5 < 5 := by omega
        have hy5 : i / 5 < 5 := by omega
        have hidx : i % 5 * 320 + i / 5 * 64 + k + 1 ≤ 1600 := by omega
        generalize i % 5 = x at *
        generalize i / 5 = y at *
        have he := wd_eql (gd l 0#64 i >>> k % 2#64) 1#64
        have hs1 : gd l 0#64 i >>> k >>> 1 = gd l 0#64 i >>> (k + 1) := by rw [← BitVec.shiftRight_add]
        have he1 : AVal.int .u64 1 = wd 1#64 := rfl
        generalize hw1 : gd l 0#64 i >>> (k + 1) = w1' at *
        generalize gd l 0#64 i >>> k = w at *
        simp [Ba_avouchref06zOfWords, limP, g6, g5, g3, g4, hlt, show (k : Int) < 64 by omega, w1, wd_rem2, wd_quo2, he1, he, hs1, bin_rem, bin_quo, t1, t2, t3, iadr_pA, hx5, hy5, hset, hidx, hw1]
      · have : k = 64 := by omega
        subst this
        simp [Ba_avouchref06zOfWords, g6])
  exact ⟨fr', rfl, hk⟩
end Go.Av

namespace Go.Av
set_option maxHeartbeats 1000000
set_option maxRecDepth 20000
set_option linter.unusedSimpArgs false
set_option linter.unusedVariables false

theorem loop_OW {fr : Fr} {h : AHeap} {R : Option (AEx × Fr × AHeap)} (l : List W64) (hl : l.length = 25) (b : List AVal)
    (hF : run ctx (limP h) (.loop Bb_avouchref06zOfWords) fr (hx h [b, cB (owT l 0 0)] []) = R)
    (h1 : fr 1 = .vptr (cW l) 0) (h3 : fr 3 = pA h.blks.length 1 0) (h4 : fr 4 = .int .i64 0) :
    ∃ fr', R = some (.exit 0, fr', hx h [b, cB (bitsL l)] []) ∧ ∀ t, t ∉ wr Bb_avouchref06zOfWords → fr' t = fr t := by
  obtain ⟨e, fr', h', rfl, ⟨rfl, rfl⟩, hk⟩ := loop_rule hF 25
    (fun k fr hh => fr 4 = .int .i64 k ∧ hh = hx h [b, cB (owT l k 0)] [])
    (fun e fr hh => e = .exit 0 ∧ hh = hx h [b, cB (bitsL l)] [])
    ⟨h4, rfl⟩ (by
      rintro k fr1 hh hkN hkeep ⟨g4, rfl⟩
      have g3 := (hkeep 3 (by decide)).trans h3
      have g1 := (hkeep 1 (by decide)).trans h1
      by_cases hlt : k < 25
      · have w1 : IntKind.i64.wrap ((k : Int) + 1) = k + 1 := wrap_i64 (by omega) (by omega)
        simp [Bb_avouchref06zOfWords, g4, g3, g1, hlt, show (k : Int) < 25 by omega, iadr_vp, hl]
        generalize hF : run ctx _ (.loop _) _ _ = R
        obtain ⟨fr2, rfl, q2⟩ := loop_OW_in l b k hlt hF (by simp [g3]) (by simp [g4]) (by simp) (by simp)
        simp [q2, wr, Ba_avouchref06zOfWords, dsts, g4, w1, owT_next]
        try exact hlt
      · have : k = 25 := by omega
        subst this
        simp [Bb_avouchref06zOfWords, g4, owT_all])
  exact ⟨fr', rfl, hk⟩
theorem ok_OfWords (L : Lim) (h : AHeap) (l : List W64) (hl : l.length = 25) : acall ctx L i_avouchref06zOfWords [.agg (cW l)] h = some (.agg (cB (bitsL l)), h) := by
  rw [call_avouchref06zOfWords]
  simp [C_avouchref06zOfWords, limP, rep1_B, partAB, hl, fillA, stKB, setAtB, ← owT_zero l]
  generalize hF : run ctx _ (.loop _) _ _ = R
  obtain ⟨fr1, rfl, hk1⟩ := loop_OW l hl _ hF (by simp) (by simp) (by simp)
  simp [hk1, wr, Ba_avouchref06zOfWords, Bb_avouchref06zOfWords, dsts, partAB, stKB, setAtB]

/-! #### words of bits -/
theorem loop_Wd_in {fr : Fr} {h : AHeap} {R : Option (AEx × Fr × AHeap)} (l : List W64) (H : AHeap) (i : Nat) (hi : i < 25)
    (hF : run ctx (limP h) (.loop Ba_avouchref06zWords) fr H = R)
    (h1 : fr 1 = .vptr (cB (bitsL l)) 0) (h4 : fr 4 = .int .i64 i) (h5 : fr 5 = wd 0#64) (h6 : fr 6 = .int .i64 63) :
    ∃ fr', R = some (.exit 2, fr', H) ∧ fr' 5 = wd (gd l 0#64 i) ∧ ∀ t, t ∉ wr Ba_avouchref06zWords → fr' t = fr t := by
  obtain ⟨e, fr', h', rfl, ⟨rfl, rfl, h5'⟩, hk⟩ := loop_rule hF 64
    (fun k fr hh => fr 6 = .int .i64 (63 - (k : Int)) ∧ fr 5 = wd (gd l 0#64 i >>> (64 - k)) ∧ hh = H)
    (fun e fr hh => e = .exit 2 ∧ hh = H ∧ fr 5 = wd (gd l 0#64 i))
    ⟨h6, by
      rw [h5]; congr 1; apply BitVec.eq_of_toNat_eq
      rw [BitVec.toNat_ushiftRight, Nat.shiftRight_eq_div_pow, Nat.div_eq_of_lt (by have := (gd l 0#64 i).isLt; simpa using this)]; rfl, rfl⟩ (by
      rintro k fr1 hh hkN hkeep ⟨g6, g5, rfl⟩
      have g1 := (hkeep 1 (by decide)).trans h1
      have g4 := (hkeep 4 (by decide)).trans h4
      by_cases hlt : k < 64
      · obtain ⟨z, hz⟩ : ∃ z : Nat, z = 63 - k := ⟨_, rfl⟩
        have hz64 : z < 64 := by omega
        have g6' : fr1 6 = .int .i64 (z : Int) := by rw [g6]; congr 1; omega
        have w1 : IntKind.i64.wrap ((z : Int) - 1) = 63 - ((k + 1 : Nat) : Int) := (wrap_i64 (by omega) (by omega)).trans (by omega)
        have t1 := tmod5 i
        have t2 : (i : Int).tdiv 5 = ((i / 5 : Nat) : Int) := tdivL i 5
        have t3 := wrapN (i / 5) (by omega)
        have hx5 : i % 5 < 5 := by omega
        have hy5 : i / 5 < 5 := by omega
        have hb := bitsL_at l (i % 5) (i / 5) z hx5 hy5 hz64
        rw [show i % 5 + 5 * (i / 5) = i by omega] at hb
        generalize i % 5 = x at *
        generalize i / 5 = y at *
        have hidx : x * 320 + y * 64 + z < 1600 := by omega
        have g5' : fr1 5 = wd (gd l 0#64 i >>> (z + 1)) := by rw [g5]; congr 2; omega
        have hnext : gd l 0#64 i >>> (64 - (k + 1)) = gd l 0#64 i >>> z := by congr 1; omega
        have hm2 : AVal.int .u64 2 = wd 2#64 := rfl
        have hm1 : AVal.int .u64 1 = wd 1#64 := rfl
        have hdbl : gd l 0#64 i >>> (z + 1) * 2#64 + (if (gd l 0#64 i).getLsbD z then 1#64 else 0#64) = gd l 0#64 i >>> z := by
          generalize gd l 0#64 i = w
          have h1 : (w >>> (z + 1)) * 2#64 = (w >>> (z + 1)) <<< 1 := by
            rw [BitVec.shiftLeft_eq_mul_twoPow]; rfl
          have h0 : ∀ (b : Bool), (w >>> (z + 1)) <<< 1 + (if b then 1#64 else 0#64) = (w >>> (z + 1)) <<< 1 ||| (if b then 1#64 else 0#64) := by
            intro b
            apply BitVec.add_eq_or_of_and_eq_zero
            apply BitVec.eq_of_getLsbD_eq
            intro j hj
            cases b <;> cases j <;> simp
          rw [h1, h0]
          apply BitVec.eq_of_getLsbD_eq
          intro j hj
          cases j with
          | zero => cases hb : w.getLsbD z <;> simp [hb]
          | succ j => cases hb : w.getLsbD z <;> simp [Nat.add_assoc, Nat.add_comm, Nat.add_left_comm] <;> omega
        cases hbz : (gd l 0#64 i).getLsbD z
        · rw [hbz] at hb hdbl
          simp at hdbl
          generalize gd l 0#64 i >>> (z + 1) = w at *
          simp [Ba_avouchref06zWords, g6', g5', g1, g4, show (0 : Int) ≤ z by omega, hm2, hm1, t1, t2, t3, bin_rem, bin_quo, iadr_vp, hx5, hy5, hz64, hidx, hb, w1, hdbl, hlt, hnext]
          rw [hz]
        · rw [hbz] at hb hdbl
          simp at hdbl
          generalize gd l 0#64 i >>> (z + 1) = w at *
          simp [Ba_avouchref06zWords, g6', g5', g1, g4, show (0 : Int) ≤ z by omega, hm2, hm1, t1, t2, t3, bin_rem, bin_quo, iadr_vp, hx5, hy5, hz64, hidx, hb, w1, hdbl, hlt, hnext]
          rw [hz]
      · have : k = 64 := by omega
        subst this
        simp [Ba_avouchref06zWords, g6]
        rw [g5]; simp)
  exact ⟨fr', rfl, h5', hk⟩
theorem loop_Wd {fr : Fr} {h : AHeap} {R : Option (AEx × Fr × AHeap)} (l : List W64) (hl : l.length = 25) (b : List AVal)
    (hF : run ctx (limP h) (.loop Bb_avouchref06zWords) fr (hx h [b, cW (tab 25 fun _ => 0#64)] []) = R)
    (h1 : fr 1 = .vptr (cB (bitsL l)) 0) (h3 : fr 3 = pA h.blks.length 1 0) (h4 : fr 4 = .int .i64 0) :
    ∃ fr', R = some (.exit 0, fr', hx h [b, cW l] []) ∧ ∀ t, t ∉ wr Bb_avouchref06zWords → fr' t = fr t := by
  obtain ⟨e, fr', h', rfl, ⟨rfl, rfl⟩, hk⟩ := loop_rule hF 25
    (fun k fr hh => fr 4 = .int .i64 k ∧ hh = hx h [b, cW (mixT 25 (gd l 0#64) (fun _ => 0#64) k)] [])
    (fun e fr hh => e = .exit 0 ∧ hh = hx h [b, cW l] [])
    ⟨h4, by rw [mixT_zero]⟩ (by
      rintro k fr1 hh hkN hkeep ⟨g4, rfl⟩
      have g3 := (hkeep 3 (by decide)).trans h3
      have g1 := (hkeep 1 (by decide)).trans h1
      by_cases hlt : k < 25
      · have w1 : IntKind.i64.wrap ((k : Int) + 1) = k + 1 := wrap_i64 (by omega) (by omega)
        have hm0 : AVal.int .u64 0 = wd 0#64 := rfl
        simp [Bb_avouchref06zWords, g4, g3, g1, hlt, show (k : Int) < 25 by omega, hm0]
        generalize hF : run ctx _ (.loop _) _ _ = R
        obtain ⟨fr2, rfl, q1, q2⟩ := loop_Wd_in l _ k hlt hF (by simp [g1]) (by simp [g4]) (by simp) (by simp)
        simp [q1, q2, wr, Ba_avouchref06zWords, dsts, g4, g3, w1, iadr_pA, hlt, limP, show k ≤ 24 by omega, mixT_set]
      · have : k = 25 := by omega
        subst this
        simp [Bb_avouchref06zWords, g4, mixT_all, ← tab_gd' 0#64 hl])
  exact ⟨fr', rfl, hk⟩
theorem ok_Words (L : Lim) (h : AHeap) (l : List W64) (hl : l.length = 25) : acall ctx L i_avouchref06zWords [.agg (cB (bitsL l))] h = some (.agg (cW l), h) := by
  rw [call_avouchref06zWords]
  simp [C_avouchref06zWords, limP, rep1_W, partAB, hl, fillA, stKB, setAtB]
  generalize hF : run ctx _ (.loop _) _ _ = R
  obtain ⟨fr1, rfl, hk1⟩ := loop_Wd l hl _ hF (by simp) (by simp) (by simp)
  simp [hk1, wr, Ba_avouchref06zWords, Bb_avouchref06zWords, dsts, partAB, stKB, setAtB, hl]

/-! #### pi: lanes change places -/
def piK (l : List W64) : Nat → List W64
  | 0 => tab 25 fun _ => 0#64
  | k + 1 => (piK l k).set (k % 5 + 5 * ((2 * (k / 5) + 3 * (k % 5)) % 5)) (gd l 0#64 (k / 5 + 5 * (k % 5)))
def piL (l : List W64) : List W64 := piK l 25
@[simp] theorem piK_len (l : List W64) : ∀ k, (piK l k).length = 25
  | 0 => by simp [piK]
  | k + 1 => by simp [piK, piK_len l k]
theorem bits_zero : tab 1600 (fun _ => false) = bitsL (tab 25 fun _ => 0#64) := tab_congr fun j hj => by
  obtain ⟨x, y, z, hx, hy, hz, rfl⟩ := dec3 hj
  rw [bit_at _ _ _ _ hx hy hz, gd_tab (by omega)]; simp
/-- A lane laid into the bits. -/
theorem bits_lane (l m : List W64) (hl : l.length = 25) (x y p q : Nat) (hx : x < 5) (hy : y < 5) (hp : p < 5) (hq : q < 5) :
    setAt (cB (bitsL l)) (x * 320 + y * 64) (cB (((bitsL m).drop (p * 320 + q * 64)).take 64)) = cB (bitsL (l.set (x + 5 * y) (gd m 0#64 (p + 5 * q)))) := by
  have e1 : cB (bitsL l) = tab 1600 (fun j => .bool (bit l j)) := by unfold cB bitsL; rw [tab_map]
  have e2 : cB (((bitsL m).drop (p * 320 + q * 64)).take 64) = tab 64 (fun j => .bool (bit m (p * 320 + q * 64 + j))) := by
    unfold cB bitsL; rw [tab_drop_take _ _ _ _ (by omega), tab_map]
  rw [e1, e2, setAt_tab _ _ _ _ _ (by omega)]
  unfold cB bitsL
  rw [tab_map]
  refine tab_congr fun j hj => ?_
  obtain ⟨a, b, c, ha, hb, hc, rfl⟩ := dec3 hj
  by_cases h : a = x ∧ b = y
  · obtain ⟨rfl, rfl⟩ := h
    rw [if_pos ⟨by omega, by omega⟩, show a * 320 + b * 64 + c - (a * 320 + b * 64) = c by omega, bit_at m _ _ _ hp hq hc, bit_at (l.set _ _) _ _ _ ha hb hc]
    congr 2
    unfold gd
    simp [List.getD, hl, show a + 5 * b < 25 by omega]
  · rw [if_neg (by omega), bit_at l _ _ _ ha hb hc, bit_at (l.set _ _) _ _ _ ha hb hc]
    congr 2
    unfold gd
    have : ¬ x + 5 * y = a + 5 * b := by omega
    simp [List.getD, List.getElem?_set, this]
theorem loop_pi_in {fr : Fr} {h : AHeap} {R : Option (AEx × Fr × AHeap)} (l : List W64) (b : List AVal) (x : Nat) (hx5 : x < 5)
    (hF : run ctx (limP h) (.loop Ba_avouchref06zpi) fr (hx h [b, cB (bitsL (piK l (5 * x)))] []) = R)
    (h1 : fr 1 = .vptr (cB (bitsL l)) 0) (h3 : fr 3 = pA h.blks.length 1 0) (h4 : fr 4 = .int .i64 x) (h5 : fr 5 = .int .i64 0) :
    ∃ fr', R = some (.exit 2, fr', hx h [b, cB (bitsL (piK l (5 * (x + 1))))] []) ∧ ∀ t, t ∉ wr Ba_avouchref06zpi → fr' t = fr t := by
  obtain ⟨e, fr', h', rfl, ⟨rfl, rfl⟩, hk⟩ := loop_rule hF 5
    (fun k fr hh => fr 5 = .int .i64 k ∧ hh = hx h [b, cB (bitsL (piK l (5 * x + k)))] [])
    (fun e fr hh => e = .exit 2 ∧ hh = hx h [b, cB (bitsL (piK l (5 * (x + 1))))] [])
    ⟨h5, rfl⟩ (by
      rintro k fr1 hh hkN hkeep ⟨g5, rfl⟩
      have g1 := (hkeep 1 (by decide)).trans h1
      have g3 := (hkeep 3 (by decide)).trans h3
      have g4 := (hkeep 4 (by decide)).trans h4
      by_cases hlt : k < 5
      · have w1 : IntKind.i64.wrap ((k : Int) + 1) = k + 1 := wrap_i64 (by omega) (by omega)
        have w6 : IntKind.i64.wrap (2 * (x : Int)) = ((2 * x : Nat) : Int) := by
          rw [← wrapN (2 * x) (by omega)]; simp only [Int.natCast_mul, Int.natCast_add, Int.cast_ofNat_Int]
        have w7 : IntKind.i64.wrap (3 * (k : Int)) = ((3 * k : Nat) : Int) := by
          rw [← wrapN (3 * k) (by omega)]; simp only [Int.natCast_mul, Int.natCast_add, Int.cast_ofNat_Int]
        have w8 : IntKind.i64.wrap (((2 * x : Nat) : Int) + ((3 * k : Nat) : Int)) = ((2 * x + 3 * k : Nat) : Int) := by
          rw [← wrapN (2 * x + 3 * k) (by omega)]; simp only [Int.natCast_mul, Int.natCast_add, Int.cast_ofNat_Int]
        have w9 := tmod5 (2 * x + 3 * k)
        have hst : piK l (5 * x + k + 1) = (piK l (5 * x + k)).set (k + 5 * ((2 * x + 3 * k) % 5)) (gd l 0#64 (x + 5 * k)) := by
          rw [piK, show (5 * x + k) % 5 = k by omega, show (5 * x + k) / 5 = x by omega]
        have hn5 : (2 * x + 3 * k) % 5 < 5 := by omega
        have hbl := bits_lane (piK l (5 * x + k)) l (piK_len _ _) k ((2 * x + 3 * k) % 5) x k hlt hn5 hx5 hlt
        rw [← hst] at hbl
        generalize (2 * x + 3 * k) % 5 = n at *
        generalize 2 * x + 3 * k = xy at *
        generalize 2 * x = x2 at *
        generalize 3 * k = k3 at *
        have hi1 : x * 320 + k * 64 + 64 ≤ 1600 := by omega
        have hi2 : k * 320 + n * 64 + 64 ≤ 1600 := by omega
        generalize piK l (5 * x + k) = m at *
        have hmin : min 64 (1600 - (x * 320 + k * 64)) = 64 := by omega
        have hm1 : 5 * x + (k + 1) = 5 * x + k + 1 := rfl
        simp [Ba_avouchref06zpi, limP, g5, g1, g3, g4, hlt, show (k : Int) < 5 by omega, w1, w6, w7, w8, w9, bin_rem, iadr_pA, iadr_vp, hx5, hn5, hmin, partA_cB, hi1, hi2, stKB, hbl, hm1]
      · have : k = 5 := by omega
        subst this
        simp [Ba_avouchref06zpi, g5, Nat.mul_add])
  exact ⟨fr', rfl, hk⟩
end Go.Av

namespace Go.Av
set_option maxHeartbeats 1000000
set_option maxRecDepth 20000
set_option linter.unusedSimpArgs false
set_option linter.unusedVariables false

theorem loop_pi {fr : Fr} {h : AHeap} {R : Option (AEx × Fr × AHeap)} (l : List W64) (b : List AVal)
    (hF : run ctx (limP h) (.loop Bb_avouchref06zpi) fr (hx h [b, cB (bitsL (piK l 0))] []) = R)
    (h1 : fr 1 = .vptr (cB (bitsL l)) 0) (h3 : fr 3 = pA h.blks.length 1 0) (h4 : fr 4 = .int .i64 0) :
    ∃ fr', R = some (.exit 0, fr', hx h [b, cB (bitsL (piL l))] []) ∧ ∀ t, t ∉ wr Bb_avouchref06zpi → fr' t = fr t := by
  obtain ⟨e, fr', h', rfl, ⟨rfl, rfl⟩, hk⟩ := loop_rule hF 5
    (fun k fr hh => fr 4 = .int .i64 k ∧ hh = hx h [b, cB (bitsL (piK l (5 * k)))] [])
    (fun e fr hh => e = .exit 0 ∧ hh = hx h [b, cB (bitsL (piL l))] [])
    ⟨h4, rfl⟩ (by
      rintro k fr1 hh hkN hkeep ⟨g4, rfl⟩
      have g3 := (hkeep 3 (by decide)).trans h3
      have g1 := (hkeep 1 (by decide)).trans h1
      by_cases hlt : k < 5
      · have w1 : IntKind.i64.wrap ((k : Int) + 1) = k + 1 := wrap_i64 (by omega) (by omega)
        simp [Bb_avouchref06zpi, g4, g3, g1, hlt, show (k : Int) < 5 by omega]
        generalize hF : run ctx _ (.loop _) _ _ = R
        obtain ⟨fr2, rfl, q2⟩ := loop_pi_in l b k hlt hF (by simp [g1]) (by simp [g3]) (by simp [g4]) (by simp)
        simp [q2, wr, Ba_avouchref06zpi, dsts, g4, w1]
        exact hlt
      · have : k = 5 := by omega
        subst this
        simp [Bb_avouchref06zpi, g4, piL])
  exact ⟨fr', rfl, hk⟩
theorem ok_Rpi (L : Lim) (h : AHeap) (l : List W64) : acall ctx L i_avouchref06zpi [.agg (cB (bitsL l))] h = some (.agg (cB (bitsL (piL l))), h) := by
  rw [call_avouchref06zpi]
  have e0 : bitsL (tab 25 fun _ => 0#64) = bitsL (piK l 0) := rfl
  simp [C_avouchref06zpi, limP, rep1_B, bits_zero, e0, partAB, fillA, stKB, setAtB]
  generalize hF : run ctx _ (.loop _) _ _ = R
  obtain ⟨fr1, rfl, hk1⟩ := loop_pi l _ hF (by simp) (by simp) (by simp)
  simp [hk1, wr, Ba_avouchref06zpi, Bb_avouchref06zpi, dsts, partAB, stKB, setAtB]

/-! #### rho: lanes are turned -/
theorem rotl_bit (v : W64) (r c : Nat) (hc : c < 64) : (rotl v r).getLsbD c = v.getLsbD ((c + 64 - r % 64) % 64) := by
  unfold rotl
  have hs : r % 64 < 64 := by omega
  generalize r % 64 = s at *
  rw [BitVec.getLsbD_or, BitVec.getLsbD_shiftLeft, BitVec.getLsbD_ushiftRight]
  by_cases h : c < s
  · simp [h, show 64 - s + c = c + 64 - s by omega, Nat.mod_eq_of_lt (show c + 64 - s < 64 by omega)]
  · have e1 : (c + 64 - s) % 64 = c - s := by omega
    have e2 : v.getLsbD (64 - s + c) = false := BitVec.getLsbD_of_ge _ _ (by omega)
    simp [h, e1, e2, hc]
def rhoK (l : List W64) : Nat → List W64
  | 0 => (tab 25 fun _ => 0#64).set 0 (gd l 0#64 0)
  | t + 1 => (rhoK l t).set ((pxy t).1 + 5 * (pxy t).2) (rotl (gd l 0#64 ((pxy t).1 + 5 * (pxy t).2)) ((t + 1) * (t + 2) / 2))
def rhoL (l : List W64) : List W64 := rhoK l 24
@[simp] theorem rhoK_len (l : List W64) : ∀ k, (rhoK l k).length = 25
  | 0 => by simp [rhoK]
  | k + 1 => by simp [rhoK, rhoK_len l k]
/-- A lane's first bits turned. -/
def turnT (m : List W64) (v : W64) (x y r k : Nat) : List Bool := tab 1600 fun j => if j / 64 = x * 5 + y ∧ (j % 64 + 64 - r % 64) % 64 < k then v.getLsbD ((j % 64 + 64 - r % 64) % 64) else bit m j
@[simp] theorem turnT_len (m : List W64) (v : W64) (x y r k : Nat) : (turnT m v x y r k).length = 1600 := by simp [turnT]
theorem turnT_zero (m : List W64) (v : W64) (x y r : Nat) : turnT m v x y r 0 = bitsL m := tab_congr fun j hj => by simp
theorem turnT_all (m : List W64) (hm : m.length = 25) (v : W64) (x y r : Nat) (hx : x < 5) (hy : y < 5) : turnT m v x y r 64 = bitsL (m.set (x + 5 * y) (rotl v r)) := tab_congr fun j hj => by
  obtain ⟨a, b, c, ha, hb, hc, rfl⟩ := dec3 hj
  rw [show (a * 320 + b * 64 + c) / 64 = a * 5 + b by omega, show (a * 320 + b * 64 + c) % 64 = c by omega, bit_at _ _ _ _ ha hb hc, bit_at _ _ _ _ ha hb hc]
  by_cases h : a = x ∧ b = y
  · obtain ⟨rfl, rfl⟩ := h
    rw [if_pos ⟨rfl, Nat.mod_lt _ (by decide)⟩]
    have : gd (m.set (a + 5 * b) (rotl v r)) 0#64 (a + 5 * b) = rotl v r := by
      unfold gd; simp [List.getD, hm, show a + 5 * b < 25 by omega]
    rw [this, rotl_bit _ _ _ hc]
  · rw [if_neg (by omega)]
    congr 1
    unfold gd
    have : ¬ x + 5 * y = a + 5 * b := by omega
    simp [List.getD, List.getElem?_set, this]
theorem turnT_set (m : List W64) (v : W64) (x y r z : Nat) (hx : x < 5) (hy : y < 5) (hz : z < 64) : (turnT m v x y r z).set (x * 320 + y * 64 + (z + r) % 64) (v.getLsbD z) = turnT m v x y r (z + 1) := by
  unfold turnT
  rw [tab_set]
  refine tab_congr fun j hj => ?_
  obtain ⟨a, b, c, ha, hb, hc, rfl⟩ := dec3 hj
  rw [show (a * 320 + b * 64 + c) / 64 = a * 5 + b by omega, show (a * 320 + b * 64 + c) % 64 = c by omega]
  have hq : (z + r) % 64 = (z + r % 64) % 64 := by omega
  rw [hq]
  have hs : r % 64 < 64 := by omega
  generalize r % 64 = s at *
  by_cases h : a * 320 + b * 64 + c = x * 320 + y * 64 + (z + s) % 64
  · have e1 : (c + 64 - s) % 64 = z := by omega
    rw [if_pos h, e1, if_pos ⟨by omega, by omega⟩]
  · rw [if_neg h]
    by_cases h2 : a * 5 + b = x * 5 + y ∧ (c + 64 - s) % 64 < z
    · rw [if_pos h2, if_pos ⟨h2.1, by omega⟩]
    · rw [if_neg h2, if_neg (by omega)]
theorem loop_rho_in {fr : Fr} {h : AHeap} {R : Option (AEx × Fr × AHeap)} (l m : List W64) (b : List AVal) (x y t : Nat) (hx5 : x < 5) (hy5 : y < 5) (ht : t < 24) (v : W64) (hv : v = gd l 0#64 (x + 5 * y)) (r : Nat) (hr : r = (t + 1) * (t + 2) / 2)
    (hF : run ctx (limP h) (.loop Ba_avouchref06zrho) fr (hx h [b, cB (bitsL m)] []) = R) (hm : m.length = 25)
    (h1 : fr 1 = .vptr (cB (bitsL l)) 0) (h3 : fr 3 = pA h.blks.length 1 0) (h4 : fr 4 = .int .i64 x) (h5 : fr 5 = .int .i64 y) (h6 : fr 6 = .int .i64 t) (h7 : fr 7 = .int .i64 0) :
    ∃ fr', R = some (.exit 2, fr', hx h [b, cB (bitsL (m.set (x + 5 * y) (rotl v r)))] []) ∧ ∀ t, t ∉ wr Ba_avouchref06zrho → fr' t = fr t := by
  have hmul : (t + 1) * (t + 2) ≤ 600 := Nat.le_trans (Nat.mul_le_mul (show t + 1 ≤ 24 by omega) (show t + 2 ≤ 25 by omega)) (by decide)
  obtain ⟨e, fr', h', rfl, ⟨rfl, rfl⟩, hk⟩ := loop_rule hF 64
    (fun k fr hh => fr 7 = .int .i64 k ∧ hh = hx h [b, cB (turnT m v x y r k)] [])
    (fun e fr hh => e = .exit 2 ∧ hh = hx h [b, cB (bitsL (m.set (x + 5 * y) (rotl v r)))] [])
    ⟨h7, by rw [turnT_zero]⟩ (by
      rintro k fr1 hh hkN hkeep ⟨g7, rfl⟩
      have g1 := (hkeep 1 (by decide)).trans h1
      have g3 := (hkeep 3 (by decide)).trans h3
      have g4 := (hkeep 4 (by decide)).trans h4
      have g5 := (hkeep 5 (by decide)).trans h5
      have g6 := (hkeep 6 (by decide)).trans h6
      by_cases hlt : k < 64
      · have w0 : IntKind.i64.wrap ((k : Int) + 1) = k + 1 := wrap_i64 (by omega) (by omega)
        have w1 : IntKind.i64.wrap ((t : Int) + 1) = t + 1 := wrap_i64 (by omega) (by omega)
        have w2 : IntKind.i64.wrap ((t : Int) + 2) = t + 2 := wrap_i64 (by omega) (by omega)
        have w3 : IntKind.i64.wrap (((t : Int) + 1) * (t + 2)) = (((t + 1) * (t + 2) : Nat) : Int) := by
          rw [← wrapN ((t + 1) * (t + 2)) (by omega)]; simp only [Int.natCast_mul, Int.natCast_add, Int.cast_ofNat_Int]
        have w4 := tdiv2 ((t + 1) * (t + 2))
        rw [← hr] at w4
        have hr300 : r ≤ 300 := by omega
        have w5 := wrapN r (by omega)
        have w6 : IntKind.i64.wrap ((k : Int) + (r : Int)) = ((k + r : Nat) : Int) := by
          rw [← wrapN (k + r) (by omega)]; simp only [Int.natCast_mul, Int.natCast_add, Int.cast_ofNat_Int]
        have w7 : ((k + r : Nat) : Int).tmod 64 = (((k + r) % 64 : Nat) : Int) := tmodL (k + r) 64
        have hq64 : (k + r) % 64 < 64 := Nat.mod_lt _ (by decide)
        have hset := turnT_set m v x y r k hx5 hy5 hlt
        have hb := bitsL_at l x y k hx5 hy5 hlt
        rw [← hv] at hb
        generalize (k + r) % 64 = q at *
        generalize k + r = kr at *
        generalize (t + 1) * (t + 2) = tt at *
        have hi1 : x * 320 + y * 64 + k < 1600 := by omega
        have hi2 : x * 320 + y * 64 + q + 1 ≤ 1600 := by omega
        simp [-BitVec.getLsbD_eq_getElem, Ba_avouchref06zrho, limP, g7, g1, g3, g4, g5, g6, hlt, show (k : Int) < 64 by omega, w0, w1, w2, w3, w4, w5, w6, w7, bin_rem, bin_quo, iadr_pA, iadr_vp, hx5, hy5, hq64, hi1, hi2, hb, hset]
      · have : k = 64 := by omega
        subst this
        simp [Ba_avouchref06zrho, g7, turnT_all m hm v x y r hx5 hy5])
  exact ⟨fr', rfl, hk⟩
theorem loop_rho {fr : Fr} {h : AHeap} {R : Option (AEx × Fr × AHeap)} (l : List W64) (b : List AVal)
    (hF : run ctx (limP h) (.loop Bb_avouchref06zrho) fr (hx h [b, cB (bitsL (rhoK l 0))] []) = R)
    (h1 : fr 1 = .vptr (cB (bitsL l)) 0) (h3 : fr 3 = pA h.blks.length 1 0) (h4 : fr 4 = .int .i64 1) (h5 : fr 5 = .int .i64 0) (h6 : fr 6 = .int .i64 0) :
    ∃ fr', R = some (.exit 0, fr', hx h [b, cB (bitsL (rhoL l))] []) ∧ ∀ t, t ∉ wr Bb_avouchref06zrho → fr' t = fr t := by
  obtain ⟨e, fr', h', rfl, ⟨rfl, rfl⟩, hk⟩ := loop_rule hF 24
    (fun k fr hh => fr 6 = .int .i64 k ∧ fr 4 = .int .i64 ((pxy k).1 : Nat) ∧ fr 5 = .int .i64 ((pxy k).2 : Nat) ∧ hh = hx h [b, cB (bitsL (rhoK l k))] [])
    (fun e fr hh => e = .exit 0 ∧ hh = hx h [b, cB (bitsL (rhoL l))] [])
    ⟨h6, h4, h5, rfl⟩ (by
      rintro k fr1 hh hkN hkeep ⟨g6, g4, g5, rfl⟩
      have g1 := (hkeep 1 (by decide)).trans h1
      have g3 := (hkeep 3 (by decide)).trans h3
      by_cases hlt : k < 24
      · obtain ⟨hx5, hy5⟩ := pxy_lt k
        have hst : rhoK l (k + 1) = (rhoK l k).set ((pxy k).1 + 5 * (pxy k).2) (rotl (gd l 0#64 ((pxy k).1 + 5 * (pxy k).2)) ((k + 1) * (k + 2) / 2)) := rfl
        have hp : pxy (k + 1) = ((pxy k).2, (2 * (pxy k).1 + 3 * (pxy k).2) % 5) := rfl
        generalize (pxy k).1 = x at *
        generalize (pxy k).2 = y at *
        have w1 : IntKind.i64.wrap ((k : Int) + 1) = k + 1 := wrap_i64 (by omega) (by omega)
        have w6 : IntKind.i64.wrap (2 * (x : Int)) = ((2 * x : Nat) : Int) := by
          rw [← wrapN (2 * x) (by omega)]; simp only [Int.natCast_mul, Int.natCast_add, Int.cast_ofNat_Int]
        have w7 : IntKind.i64.wrap (3 * (y : Int)) = ((3 * y : Nat) : Int) := by
          rw [← wrapN (3 * y) (by omega)]; simp only [Int.natCast_mul, Int.natCast_add, Int.cast_ofNat_Int]
        have w8 : IntKind.i64.wrap (((2 * x : Nat) : Int) + ((3 * y : Nat) : Int)) = ((2 * x + 3 * y : Nat) : Int) := by
          rw [← wrapN (2 * x + 3 * y) (by omega)]; simp only [Int.natCast_mul, Int.natCast_add, Int.cast_ofNat_Int]
        have w9 := tmod5 (2 * x + 3 * y)
        generalize (2 * x + 3 * y) % 5 = n at *
        generalize 2 * x + 3 * y = xy at *
        generalize 2 * x = x2 at *
        generalize 3 * y = y3 at *
        simp [Bb_avouchref06zrho, g6, g3, g1, g4, g5, hlt, show (k : Int) < 24 by omega]
        generalize hF : run ctx _ (.loop _) _ _ = R
        obtain ⟨fr2, rfl, q2⟩ := loop_rho_in l (rhoK l k) b x y k hx5 hy5 hlt _ rfl _ rfl hF (by simp) (by simp [g1]) (by simp [g3]) (by simp [g4]) (by simp [g5]) (by simp [g6]) (by simp)
        simp [q2, wr, Ba_avouchref06zrho, dsts, g6, g4, g5, w1, w6, w7, w8, w9, bin_rem, ← hst, hp]
        exact hlt
      · have : k = 24 := by omega
        subst this
        simp [Bb_avouchref06zrho, g6, rhoL])
  exact ⟨fr', rfl, hk⟩
theorem ok_Rrho (L : Lim) (h : AHeap) (l : List W64) : acall ctx L i_avouchref06zrho [.agg (cB (bitsL l))] h = some (.agg (cB (bitsL (rhoL l))), h) := by
  rw [call_avouchref06zrho]
  have e0 := bits_lane (tab 25 fun _ => 0#64) l (by simp) 0 0 0 0 (by decide) (by decide) (by decide) (by decide)
  have e1 : bitsL ((tab 25 fun _ => 0#64).set (0 + 5 * 0) (gd l 0#64 (0 + 5 * 0))) = bitsL (rhoK l 0) := rfl
  rw [e1] at e0
  simp only [Nat.zero_mul, Nat.add_zero, List.drop_zero] at e0
  simp [C_avouchref06zrho, limP, rep1_B, bits_zero, partAB, fillA, stKB, setAtB, partA_cB, e0]
  generalize hF : run ctx _ (.loop _) _ _ = R
  obtain ⟨fr1, rfl, hk1⟩ := loop_rho l _ hF (by simp) (by simp) (by simp) (by simp) (by simp)
  simp [hk1, wr, Ba_avouchref06zrho, Bb_avouchref06zrho, dsts, partAB, stKB, setAtB]
end Go.Av

namespace Go.Av
set_option maxHeartbeats 2000000
set_option maxRecDepth 20000
set_option linter.unusedSimpArgs false
set_option linter.unusedVariables false

theorem chi_bit (l : List W64) (x y z : Nat) (hx5 : x < 5) (hy5 : y < 5) (hz : z < 64) : bit (chiL l) (x * 320 + y * 64 + z) =
    (bit l (x * 320 + y * 64 + z) ^^ (!bit l ((x + 1) % 5 * 320 + y * 64 + z) && bit l ((x + 2) % 5 * 320 + y * 64 + z))) := by
  rw [bit_at _ _ _ _ hx5 hy5 hz, bit_at _ _ _ _ hx5 hy5 hz, bit_at _ _ _ _ (by omega) hy5 hz, bit_at _ _ _ _ (by omega) hy5 hz]
  unfold chiL
  rw [gd_tab (by omega), chiW]
  rw [show x + 5 * y - (x + 5 * y) % 5 + (x + 5 * y + 2) % 5 = (x + 2) % 5 + 5 * y by omega, show x + 5 * y - (x + 5 * y) % 5 + (x + 5 * y + 1) % 5 = (x + 1) % 5 + 5 * y by omega]
  simp [hz, Bool.and_comm]
theorem loop_chi_z {fr : Fr} {h : AHeap} {R : Option (AEx × Fr × AHeap)} (l : List W64) (b : List AVal) (x y : Nat) (hx5 : x < 5) (hy5 : y < 5)
    (hF : run ctx (limP h) (.loop Ba_avouchref06zchi) fr (hx h [b, cB (mixT 1600 (bit (chiL l)) (fun _ => false) (x * 320 + y * 64))] []) = R)
    (h1 : fr 1 = .vptr (cB (bitsL l)) 0) (h3 : fr 3 = pA h.blks.length 1 0) (h4 : fr 4 = .int .i64 x) (h5 : fr 5 = .int .i64 y) (h6 : fr 6 = .int .i64 0) :
    ∃ fr', R = some (.exit 4, fr', hx h [b, cB (mixT 1600 (bit (chiL l)) (fun _ => false) (x * 320 + (y + 1) * 64))] []) ∧ ∀ t, t ∉ wr Ba_avouchref06zchi → fr' t = fr t := by
  obtain ⟨e, fr', h', rfl, ⟨rfl, rfl⟩, hk⟩ := loop_rule hF 64
    (fun k fr hh => fr 6 = .int .i64 k ∧ hh = hx h [b, cB (mixT 1600 (bit (chiL l)) (fun _ => false) (x * 320 + y * 64 + k))] [])
    (fun e fr hh => e = .exit 4 ∧ hh = hx h [b, cB (mixT 1600 (bit (chiL l)) (fun _ => false) (x * 320 + (y + 1) * 64))] [])
    ⟨h6, rfl⟩ (by
      rintro k fr1 hh hkN hkeep ⟨g6, rfl⟩
      have g1 := (hkeep 1 (by decide)).trans h1
      have g3 := (hkeep 3 (by decide)).trans h3
      have g4 := (hkeep 4 (by decide)).trans h4
      have g5 := (hkeep 5 (by decide)).trans h5
      by_cases hlt : k < 64
      · have w0 : IntKind.i64.wrap ((k : Int) + 1) = k + 1 := wrap_i64 (by omega) (by omega)
        have w1 : IntKind.i64.wrap ((x : Int) + 1) = ((x + 1 : Nat) : Int) := (wrap_i64 (by omega) (by omega)).trans (by omega)
        have w2 : IntKind.i64.wrap ((x : Int) + 2) = ((x + 2 : Nat) : Int) := (wrap_i64 (by omega) (by omega)).trans (by omega)
        have t1 := tmod5 (x + 1)
        have t2 := tmod5 (x + 2)
        have hset := mixT_set 1600 (bit (chiL l)) (fun _ => false) (x * 320 + y * 64 + k)
        rw [chi_bit l x y k hx5 hy5 hlt] at hset
        have b0 : gd (bitsL l) false (x * 320 + y * 64 + k) = bit l (x * 320 + y * 64 + k) := gd_tab (by omega)
        have ha5 : (x + 1) % 5 < 5 := by omega
        have hc5 : (x + 2) % 5 < 5 := by omega
        have b1 : gd (bitsL l) false ((x + 1) % 5 * 320 + y * 64 + k) = bit l ((x + 1) % 5 * 320 + y * 64 + k) := gd_tab (by omega)
        have b2 : gd (bitsL l) false ((x + 2) % 5 * 320 + y * 64 + k) = bit l ((x + 2) % 5 * 320 + y * 64 + k) := gd_tab (by omega)
        generalize (x + 1) % 5 = a at *
        generalize (x + 2) % 5 = c at *
        generalize x + 1 = x1 at *
        generalize x + 2 = x2 at *
        have hi0 : x * 320 + y * 64 + k < 1600 := by omega
        have hi1 : a * 320 + y * 64 + k < 1600 := by omega
        have hi2 : c * 320 + y * 64 + k < 1600 := by omega
        have hi3 : x * 320 + y * 64 + k + 1 ≤ 1600 := by omega
        have hass : x * 320 + y * 64 + (k + 1) = x * 320 + y * 64 + k + 1 := rfl
        generalize hM1 : mixT 1600 (bit (chiL l)) (fun _ => false) (x * 320 + y * 64 + k + 1) = M1 at *
        have hML := mixT_len 1600 (bit (chiL l)) (fun _ => false) (x * 320 + y * 64 + k)
        generalize mixT 1600 (bit (chiL l)) (fun _ => false) (x * 320 + y * 64 + k) = M0 at *
        cases hb0 : bit l (x * 320 + y * 64 + k) <;> cases hb1 : bit l (a * 320 + y * 64 + k) <;> cases hb2 : bit l (c * 320 + y * 64 + k)
        all_goals
          rw [hb0] at b0 hset
          rw [hb1] at b1 hset
          rw [hb2] at b2 hset
          simp at hset
          simp [Ba_avouchref06zchi, limP, g6, g1, g3, g4, g5, hlt, show (k : Int) < 64 by omega, w0, w1, w2, t1, t2, bin_rem, iadr_pA, iadr_vp, hx5, hy5, ha5, hc5, hi0, hi1, hi2, hi3, b0, b1, b2, hset, hass, hML]
          rw [hM1]
      · have : k = 64 := by omega
        subst this
        have e0 : x * 320 + y * 64 + 64 = x * 320 + (y + 1) * 64 := by omega
        simp [Ba_avouchref06zchi, g6, e0])
  exact ⟨fr', rfl, hk⟩
theorem loop_chi_y {fr : Fr} {h : AHeap} {R : Option (AEx × Fr × AHeap)} (l : List W64) (b : List AVal) (x : Nat) (hx5 : x < 5)
    (hF : run ctx (limP h) (.loop Bb_avouchref06zchi) fr (hx h [b, cB (mixT 1600 (bit (chiL l)) (fun _ => false) (x * 320))] []) = R)
    (h1 : fr 1 = .vptr (cB (bitsL l)) 0) (h3 : fr 3 = pA h.blks.length 1 0) (h4 : fr 4 = .int .i64 x) (h5 : fr 5 = .int .i64 0) :
    ∃ fr', R = some (.exit 2, fr', hx h [b, cB (mixT 1600 (bit (chiL l)) (fun _ => false) ((x + 1) * 320))] []) ∧ ∀ t, t ∉ wr Bb_avouchref06zchi → fr' t = fr t := by
  obtain ⟨e, fr', h', rfl, ⟨rfl, rfl⟩, hk⟩ := loop_rule hF 5
    (fun k fr hh => fr 5 = .int .i64 k ∧ hh = hx h [b, cB (mixT 1600 (bit (chiL l)) (fun _ => false) (x * 320 + k * 64))] [])
    (fun e fr hh => e = .exit 2 ∧ hh = hx h [b, cB (mixT 1600 (bit (chiL l)) (fun _ => false) ((x + 1) * 320))] [])
    ⟨h5, by simp⟩ (by
      rintro k fr1 hh hkN hkeep ⟨g5, rfl⟩
      have g1 := (hkeep 1 (by decide)).trans h1
      have g3 := (hkeep 3 (by decide)).trans h3
      have g4 := (hkeep 4 (by decide)).trans h4
      by_cases hlt : k < 5
      · have w0 : IntKind.i64.wrap ((k : Int) + 1) = k + 1 := wrap_i64 (by omega) (by omega)
        simp [Bb_avouchref06zchi, g1, g3, g4, g5, hlt, show (k : Int) < 5 by omega]
        generalize hF : run ctx _ (.loop _) _ _ = R
        obtain ⟨fr2, rfl, q2⟩ := loop_chi_z l b x k hx5 hlt hF (by simp [g1]) (by simp [g3]) (by simp [g4]) (by simp [g5]) (by simp)
        simp [q2, wr, Ba_avouchref06zchi, dsts, g5, w0]
        exact hlt
      · have : k = 5 := by omega
        subst this
        have e0 : x * 320 + 5 * 64 = (x + 1) * 320 := by omega
        simp [Bb_avouchref06zchi, g5]
        rw [show x * 320 + 320 = (x + 1) * 320 by omega])
  exact ⟨fr', rfl, hk⟩
theorem loop_chi_x {fr : Fr} {h : AHeap} {R : Option (AEx × Fr × AHeap)} (l : List W64) (b : List AVal)
    (hF : run ctx (limP h) (.loop Bc_avouchref06zchi) fr (hx h [b, cB (tab 1600 fun _ => false)] []) = R)
    (h1 : fr 1 = .vptr (cB (bitsL l)) 0) (h3 : fr 3 = pA h.blks.length 1 0) (h4 : fr 4 = .int .i64 0) :
    ∃ fr', R = some (.exit 0, fr', hx h [b, cB (bitsL (chiL l))] []) ∧ ∀ t, t ∉ wr Bc_avouchref06zchi → fr' t = fr t := by
  obtain ⟨e, fr', h', rfl, ⟨rfl, rfl⟩, hk⟩ := loop_rule hF 5
    (fun k fr hh => fr 4 = .int .i64 k ∧ hh = hx h [b, cB (mixT 1600 (bit (chiL l)) (fun _ => false) (k * 320))] [])
    (fun e fr hh => e = .exit 0 ∧ hh = hx h [b, cB (bitsL (chiL l))] [])
    ⟨h4, by simp [mixT_zero]⟩ (by
      rintro k fr1 hh hkN hkeep ⟨g4, rfl⟩
      have g1 := (hkeep 1 (by decide)).trans h1
      have g3 := (hkeep 3 (by decide)).trans h3
      by_cases hlt : k < 5
      · have w0 : IntKind.i64.wrap ((k : Int) + 1) = k + 1 := wrap_i64 (by omega) (by omega)
        simp [Bc_avouchref06zchi, g1, g3, g4, hlt, show (k : Int) < 5 by omega]
        generalize hF : run ctx _ (.loop _) _ _ = R
        obtain ⟨fr2, rfl, q2⟩ := loop_chi_y l b k hlt hF (by simp [g1]) (by simp [g3]) (by simp [g4]) (by simp)
        simp [q2, wr, Ba_avouchref06zchi, Bb_avouchref06zchi, dsts, g4, w0]
        exact hlt
      · have : k = 5 := by omega
        subst this
        simp [Bc_avouchref06zchi, g4, mixT_all, bitsL])
  exact ⟨fr', rfl, hk⟩
theorem ok_Rchi (L : Lim) (h : AHeap) (l : List W64) : acall ctx L i_avouchref06zchi [.agg (cB (bitsL l))] h = some (.agg (cB (bitsL (chiL l))), h) := by
  rw [call_avouchref06zchi]
  simp [C_avouchref06zchi, limP, rep1_B, partAB, fillA, stKB, setAtB]
  generalize hF : run ctx _ (.loop _) _ _ = R
  obtain ⟨fr1, rfl, hk1⟩ := loop_chi_x l _ hF (by simp) (by simp) (by simp)
  simp [hk1, wr, Ba_avouchref06zchi, Bb_avouchref06zchi, Bc_avouchref06zchi, dsts, partAB, stKB, setAtB]

/-! #### theta -/
def cntY (l : List W64) (x z : Nat) : Nat → Nat
  | 0 => 0
  | k + 1 => cntY l x z k + (if (gd l 0#64 (x + 5 * k)).getLsbD z then 1 else 0)
theorem cntY_le (l : List W64) (x z : Nat) : ∀ k, cntY l x z k ≤ k
  | 0 => by simp [cntY]
  | k + 1 => by have := cntY_le l x z k; simp only [cntY]; split <;> omega
theorem cntY_par (l : List W64) (x z : Nat) (hx5 : x < 5) : (cntY l x z 5 % 2 == 1) = (colP l x).getLsbD z := by
  unfold colP
  simp only [cntY, BitVec.getLsbD_xor, Nat.mul_zero, Nat.add_zero, Nat.mul_one, show 5 * 2 = 10 from rfl, show 5 * 3 = 15 from rfl, show 5 * 4 = 20 from rfl]
  cases (gd l 0#64 x).getLsbD z <;> cases (gd l 0#64 (x + 5)).getLsbD z <;> cases (gd l 0#64 (x + 10)).getLsbD z <;> cases (gd l 0#64 (x + 15)).getLsbD z <;> cases (gd l 0#64 (x + 20)).getLsbD z <;> rfl
theorem loop_th_y {fr : Fr} {h : AHeap} {R : Option (AEx × Fr × AHeap)} (l : List W64) (H : AHeap) (x z : Nat) (hx5 : x < 5) (hz : z < 64)
    (hF : run ctx (limP h) (.loop Ba_avouchref06ztheta) fr H = R)
    (h1 : fr 1 = .vptr (cB (bitsL l)) 0) (h4 : fr 4 = .int .i64 x) (h5 : fr 5 = .int .i64 z) (h6 : fr 6 = .int .i64 0) (h7 : fr 7 = .int .i64 0) :
    ∃ fr', R = some (.exit 4, fr', H) ∧ fr' 6 = .int .i64 (cntY l x z 5 : Nat) ∧ ∀ t, t ∉ wr Ba_avouchref06ztheta → fr' t = fr t := by
  obtain ⟨e, fr', h', rfl, ⟨rfl, rfl, h6'⟩, hk⟩ := loop_rule hF 5
    (fun k fr hh => fr 7 = .int .i64 k ∧ fr 6 = .int .i64 (cntY l x z k : Nat) ∧ hh = H)
    (fun e fr hh => e = .exit 4 ∧ hh = H ∧ fr 6 = .int .i64 (cntY l x z 5 : Nat))
    ⟨h7, h6, rfl⟩ (by
      rintro k fr1 hh hkN hkeep ⟨g7, g6, rfl⟩
      have g1 := (hkeep 1 (by decide)).trans h1
      have g4 := (hkeep 4 (by decide)).trans h4
      have g5 := (hkeep 5 (by decide)).trans h5
      by_cases hlt : k < 5
      · have w0 : IntKind.i64.wrap ((k : Int) + 1) = k + 1 := wrap_i64 (by omega) (by omega)
        have hc := cntY_le l x z k
        have hs : cntY l x z (k + 1) = cntY l x z k + (if (gd l 0#64 (x + 5 * k)).getLsbD z then 1 else 0) := rfl
        have hb := bitsL_at l x k z hx5 hlt hz
        have hi : x * 320 + k * 64 + z < 1600 := by omega
        generalize hc1 : cntY l x z (k + 1) = c1 at *
        generalize cntY l x z k = c at *
        have w1 : IntKind.i64.wrap ((c : Int) + 1) = ((c + 1 : Nat) : Int) := (wrap_i64 (by omega) (by omega)).trans (by omega)
        cases hv : (gd l 0#64 (x + 5 * k)).getLsbD z
        · rw [hv] at hb hs
          simp at hs
          subst hs
          simp [Ba_avouchref06ztheta, g1, g4, g5, g6, g7, hlt, show (k : Int) < 5 by omega, w0, iadr_vp, hx5, hz, hi, hb, hc1]
        · rw [hv] at hb hs
          simp at hs
          subst hs
          simp [Ba_avouchref06ztheta, g1, g4, g5, g6, g7, hlt, show (k : Int) < 5 by omega, w0, w1, iadr_vp, hx5, hz, hi, hb, hc1]
      · have : k = 5 := by omega
        subst this
        simp [Ba_avouchref06ztheta, g7, g6])
  exact ⟨fr', rfl, h6', hk⟩
def parB (l : List W64) (j : Nat) : Bool := (colP l (j / 64)).getLsbD (j % 64)
theorem loop_th_z {fr : Fr} {h : AHeap} {R : Option (AEx × Fr × AHeap)} (l : List W64) (b : List AVal) (x : Nat) (hx5 : x < 5)
    (hF : run ctx (limP h) (.loop Bb_avouchref06ztheta) fr (hx h [b, cB (mixT 320 (parB l) (fun _ => false) (x * 64))] []) = R)
    (h1 : fr 1 = .vptr (cB (bitsL l)) 0) (h3 : fr 3 = pA h.blks.length 1 0) (h4 : fr 4 = .int .i64 x) (h5 : fr 5 = .int .i64 0) :
    ∃ fr', R = some (.exit 2, fr', hx h [b, cB (mixT 320 (parB l) (fun _ => false) ((x + 1) * 64))] []) ∧ ∀ t, t ∉ wr Bb_avouchref06ztheta → fr' t = fr t := by
  obtain ⟨e, fr', h', rfl, ⟨rfl, rfl⟩, hk⟩ := loop_rule hF 64
    (fun k fr hh => fr 5 = .int .i64 k ∧ hh = hx h [b, cB (mixT 320 (parB l) (fun _ => false) (x * 64 + k))] [])
    (fun e fr hh => e = .exit 2 ∧ hh = hx h [b, cB (mixT 320 (parB l) (fun _ => false) ((x + 1) * 64))] [])
    ⟨h5, by simp⟩ (by
      rintro k fr1 hh hkN hkeep ⟨g5, rfl⟩
      have g1 := (hkeep 1 (by decide)).trans h1
      have g3 := (hkeep 3 (by decide)).trans h3
      have g4 := (hkeep 4 (by decide)).trans h4
      by_cases hlt : k < 64
      · have w0 : IntKind.i64.wrap ((k : Int) + 1) = k + 1 := wrap_i64 (by omega) (by omega)
        simp [Bb_avouchref06ztheta, g1, g3, g4, g5, hlt, show (k : Int) < 64 by omega]
        generalize hF : run ctx _ (.loop _) _ _ = R
        obtain ⟨fr2, rfl, q1, q2⟩ := loop_th_y l _ x k hx5 hlt hF (by simp [g1]) (by simp [g4]) (by simp [g5]) (by simp) (by simp)
        have hset := mixT_set 320 (parB l) (fun _ => false) (x * 64 + k)
        have hp : parB l (x * 64 + k) = (cntY l x k 5 % 2 == 1) := by
          rw [cntY_par l x k hx5]
          unfold parB
          rw [show (x * 64 + k) / 64 = x by omega, show (x * 64 + k) % 64 = k by omega]
        rw [hp] at hset
        have ht : (((cntY l x k 5 : Nat) : Int)).tmod 2 = ((cntY l x k 5 % 2 : Nat) : Int) := tmodL _ 2
        have hq : (((cntY l x k 5 % 2 : Nat) : Int) == 1) = (cntY l x k 5 % 2 == 1) := by
          rw [Bool.eq_iff_iff]; simp only [beq_iff_eq]; omega
        generalize (cntY l x k 5 % 2 == 1) = v at *
        generalize cntY l x k 5 % 2 = c2 at *
        generalize cntY l x k 5 = c at *
        have hass : x * 64 + (k + 1) = x * 64 + k + 1 := rfl
        have hi : x * 64 + k + 1 ≤ 320 := by omega
        simp [q1, q2, wr, Ba_avouchref06ztheta, dsts, g3, g4, g5, w0, bin_rem, ht, hq, iadr_pA, hx5, hlt, limP, hset, hass, hi]
      · have : k = 64 := by omega
        subst this
        have e0 : x * 64 + 64 = (x + 1) * 64 := by omega
        simp [Bb_avouchref06ztheta, g5, e0])
  exact ⟨fr', rfl, hk⟩
theorem loop_th_x {fr : Fr} {h : AHeap} {R : Option (AEx × Fr × AHeap)} (l : List W64) (b : List AVal)
    (hF : run ctx (limP h) (.loop Bc_avouchref06ztheta) fr (hx h [b, cB (tab 320 fun _ => false)] []) = R)
    (h1 : fr 1 = .vptr (cB (bitsL l)) 0) (h3 : fr 3 = pA h.blks.length 1 0) (h4 : fr 4 = .int .i64 0) :
    ∃ fr', R = some (.exit 0, fr', hx h [b, cB (tab 320 (parB l))] []) ∧ ∀ t, t ∉ wr Bc_avouchref06ztheta → fr' t = fr t := by
  obtain ⟨e, fr', h', rfl, ⟨rfl, rfl⟩, hk⟩ := loop_rule hF 5
    (fun k fr hh => fr 4 = .int .i64 k ∧ hh = hx h [b, cB (mixT 320 (parB l) (fun _ => false) (k * 64))] [])
    (fun e fr hh => e = .exit 0 ∧ hh = hx h [b, cB (tab 320 (parB l))] [])
    ⟨h4, by simp [mixT_zero]⟩ (by
      rintro k fr1 hh hkN hkeep ⟨g4, rfl⟩
      have g1 := (hkeep 1 (by decide)).trans h1
      have g3 := (hkeep 3 (by decide)).trans h3
      by_cases hlt : k < 5
      · have w0 : IntKind.i64.wrap ((k : Int) + 1) = k + 1 := wrap_i64 (by omega) (by omega)
        simp [Bc_avouchref06ztheta, g1, g3, g4, hlt, show (k : Int) < 5 by omega]
        generalize hF : run ctx _ (.loop _) _ _ = R
        obtain ⟨fr2, rfl, q2⟩ := loop_th_z l b k hlt hF (by simp [g1]) (by simp [g3]) (by simp [g4]) (by simp)
        simp [q2, wr, Ba_avouchref06ztheta, Bb_avouchref06ztheta, dsts, g4, w0]
        exact hlt
      · have : k = 5 := by omega
        subst this
        simp [Bc_avouchref06ztheta, g4, mixT_all])
  exact ⟨fr', rfl, hk⟩
end Go.Av

namespace Go.Av
set_option maxHeartbeats 2000000
set_option maxRecDepth 20000
set_option linter.unusedSimpArgs false
set_option linter.unusedVariables false

theorem theta_bit (l : List W64) (x y z : Nat) (hx5 : x < 5) (hy5 : y < 5) (hz : z < 64) : bit (thetaL l) (x * 320 + y * 64 + z) =
    (bit l (x * 320 + y * 64 + z) ^^ (parB l ((x + 4) % 5 * 64 + z) ^^ parB l ((x + 1) % 5 * 64 + (z + 63) % 64))) := by
  rw [bit_at _ _ _ _ hx5 hy5 hz, bit_at _ _ _ _ hx5 hy5 hz]
  unfold thetaL
  rw [gd_tab (by omega), thetaW]
  have h4 : (x + 4) % 5 < 5 := by omega
  have h1 : (x + 1) % 5 < 5 := by omega
  have hz2 : (z + 63) % 64 < 64 := by omega
  rw [show ((x + 5 * y) % 5 + 4) % 5 = (x + 4) % 5 by omega, show ((x + 5 * y) % 5 + 1) % 5 = (x + 1) % 5 by omega]
  unfold parB
  generalize (x + 4) % 5 = a at *
  generalize (x + 1) % 5 = c at *
  rw [show (a * 64 + z) / 64 = a by omega, show (a * 64 + z) % 64 = z by omega]
  rw [BitVec.getLsbD_xor, BitVec.getLsbD_xor, rotl_bit _ _ _ hz, show (z + 64 - 1 % 64) % 64 = (z + 63) % 64 by omega]
  generalize (z + 63) % 64 = z2 at *
  rw [show (c * 64 + z2) / 64 = c by omega, show (c * 64 + z2) % 64 = z2 by omega]
theorem tmod64 (k : Nat) : (k : Int).tmod 64 = ((k % 64 : Nat) : Int) := tmodL k 64
theorem loop_t2_z {fr : Fr} {h : AHeap} {R : Option (AEx × Fr × AHeap)} (l : List W64) (b : List AVal) (x y : Nat) (hx5 : x < 5) (hy5 : y < 5)
    (hF : run ctx (limP h) (.loop Bd_avouchref06ztheta) fr (hx h [b, cB (tab 320 (parB l)), cB (mixT 1600 (bit (thetaL l)) (fun _ => false) (x * 320 + y * 64))] []) = R)
    (h1 : fr 1 = .vptr (cB (bitsL l)) 0) (h3 : fr 3 = pA h.blks.length 1 0) (h8 : fr 8 = pA h.blks.length 2 0) (h9 : fr 9 = .int .i64 x) (h10 : fr 10 = .int .i64 y) (h11 : fr 11 = .int .i64 0) :
    ∃ fr', R = some (.exit 10, fr', hx h [b, cB (tab 320 (parB l)), cB (mixT 1600 (bit (thetaL l)) (fun _ => false) (x * 320 + (y + 1) * 64))] []) ∧ ∀ t, t ∉ wr Bd_avouchref06ztheta → fr' t = fr t := by
  obtain ⟨e, fr', h', rfl, ⟨rfl, rfl⟩, hk⟩ := loop_rule hF 64
    (fun k fr hh => fr 11 = .int .i64 k ∧ hh = hx h [b, cB (tab 320 (parB l)), cB (mixT 1600 (bit (thetaL l)) (fun _ => false) (x * 320 + y * 64 + k))] [])
    (fun e fr hh => e = .exit 10 ∧ hh = hx h [b, cB (tab 320 (parB l)), cB (mixT 1600 (bit (thetaL l)) (fun _ => false) (x * 320 + (y + 1) * 64))] [])
    ⟨h11, rfl⟩ (by
      rintro k fr1 hh hkN hkeep ⟨g11, rfl⟩
      have g1 := (hkeep 1 (by decide)).trans h1
      have g3 := (hkeep 3 (by decide)).trans h3
      have g8 := (hkeep 8 (by decide)).trans h8
      have g9 := (hkeep 9 (by decide)).trans h9
      have g10 := (hkeep 10 (by decide)).trans h10
      by_cases hlt : k < 64
      · have w0 : IntKind.i64.wrap ((k : Int) + 1) = k + 1 := wrap_i64 (by omega) (by omega)
        have w1 : IntKind.i64.wrap ((x : Int) + 1) = ((x + 1 : Nat) : Int) := (wrap_i64 (by omega) (by omega)).trans (by omega)
        have w4 : IntKind.i64.wrap ((x : Int) + 4) = ((x + 4 : Nat) : Int) := (wrap_i64 (by omega) (by omega)).trans (by omega)
        have w63 : IntKind.i64.wrap ((k : Int) + 63) = ((k + 63 : Nat) : Int) := (wrap_i64 (by omega) (by omega)).trans (by omega)
        have t1 := tmod5 (x + 1)
        have t4 := tmod5 (x + 4)
        have t63 := tmod64 (k + 63)
        have hset := mixT_set 1600 (bit (thetaL l)) (fun _ => false) (x * 320 + y * 64 + k)
        rw [theta_bit l x y k hx5 hy5 hlt] at hset
        have b0 : gd (bitsL l) false (x * 320 + y * 64 + k) = bit l (x * 320 + y * 64 + k) := gd_tab (by omega)
        have ha5 : (x + 4) % 5 < 5 := by omega
        have hc5 : (x + 1) % 5 < 5 := by omega
        have hz2 : (k + 63) % 64 < 64 := by omega
        have b1 : gd (tab 320 (parB l)) false ((x + 4) % 5 * 64 + k) = parB l ((x + 4) % 5 * 64 + k) := gd_tab (by omega)
        have b2 : gd (tab 320 (parB l)) false ((x + 1) % 5 * 64 + (k + 63) % 64) = parB l ((x + 1) % 5 * 64 + (k + 63) % 64) := gd_tab (by omega)
        generalize (x + 4) % 5 = a at *
        generalize (x + 1) % 5 = c at *
        generalize (k + 63) % 64 = z2 at *
        generalize x + 1 = x1 at *
        generalize x + 4 = x4 at *
        generalize k + 63 = k63 at *
        have hi0 : x * 320 + y * 64 + k < 1600 := by omega
        have hi1 : a * 64 + k < 320 := by omega
        have hi2 : c * 64 + z2 < 320 := by omega
        have hi3 : x * 320 + y * 64 + k + 1 ≤ 1600 := by omega
        have hass : x * 320 + y * 64 + (k + 1) = x * 320 + y * 64 + k + 1 := rfl
        generalize hM1 : mixT 1600 (bit (thetaL l)) (fun _ => false) (x * 320 + y * 64 + k + 1) = M1 at *
        have hML := mixT_len 1600 (bit (thetaL l)) (fun _ => false) (x * 320 + y * 64 + k)
        generalize mixT 1600 (bit (thetaL l)) (fun _ => false) (x * 320 + y * 64 + k) = M0 at *
        have hPL := tab_len 320 (parB l)
        generalize tab 320 (parB l) = P0 at *
        have hxor : ∀ p q : Bool, (true ^^ (p == q)) = (p ^^ q) := by decide
        generalize bit l (x * 320 + y * 64 + k) = v0 at *
        generalize parB l (a * 64 + k) = v1 at *
        generalize parB l (c * 64 + z2) = v2 at *
        simp [Bd_avouchref06ztheta, limP, g11, g1, g3, g8, g9, g10, hlt, show (k : Int) < 64 by omega, w0, w1, w4, w63, t1, t4, t63, bin_rem, iadr_pA, iadr_vp, hx5, hy5, ha5, hc5, hz2, hi0, hi1, hi2, hi3, b0, b1, b2, hass, hML, hPL]
        have e1 : (!(v0 == !(v1 == v2))) = (v0 ^^ (v1 ^^ v2)) := by cases v0 <;> cases v1 <;> cases v2 <;> rfl
        rw [e1, hset, hM1]
      · have : k = 64 := by omega
        subst this
        have e0 : x * 320 + y * 64 + 64 = x * 320 + (y + 1) * 64 := by omega
        simp [Bd_avouchref06ztheta, g11, e0])
  exact ⟨fr', rfl, hk⟩
theorem loop_t2_y {fr : Fr} {h : AHeap} {R : Option (AEx × Fr × AHeap)} (l : List W64) (b : List AVal) (x : Nat) (hx5 : x < 5)
    (hF : run ctx (limP h) (.loop Be_avouchref06ztheta) fr (hx h [b, cB (tab 320 (parB l)), cB (mixT 1600 (bit (thetaL l)) (fun _ => false) (x * 320))] []) = R)
    (h1 : fr 1 = .vptr (cB (bitsL l)) 0) (h3 : fr 3 = pA h.blks.length 1 0) (h8 : fr 8 = pA h.blks.length 2 0) (h9 : fr 9 = .int .i64 x) (h10 : fr 10 = .int .i64 0) :
    ∃ fr', R = some (.exit 8, fr', hx h [b, cB (tab 320 (parB l)), cB (mixT 1600 (bit (thetaL l)) (fun _ => false) ((x + 1) * 320))] []) ∧ ∀ t, t ∉ wr Be_avouchref06ztheta → fr' t = fr t := by
  obtain ⟨e, fr', h', rfl, ⟨rfl, rfl⟩, hk⟩ := loop_rule hF 5
    (fun k fr hh => fr 10 = .int .i64 k ∧ hh = hx h [b, cB (tab 320 (parB l)), cB (mixT 1600 (bit (thetaL l)) (fun _ => false) (x * 320 + k * 64))] [])
    (fun e fr hh => e = .exit 8 ∧ hh = hx h [b, cB (tab 320 (parB l)), cB (mixT 1600 (bit (thetaL l)) (fun _ => false) ((x + 1) * 320))] [])
    ⟨h10, by simp⟩ (by
      rintro k fr1 hh hkN hkeep ⟨g10, rfl⟩
      have g1 := (hkeep 1 (by decide)).trans h1
      have g3 := (hkeep 3 (by decide)).trans h3
      have g8 := (hkeep 8 (by decide)).trans h8
      have g9 := (hkeep 9 (by decide)).trans h9
      by_cases hlt : k < 5
      · have w0 : IntKind.i64.wrap ((k : Int) + 1) = k + 1 := wrap_i64 (by omega) (by omega)
        simp [Be_avouchref06ztheta, g1, g3, g8, g9, g10, hlt, show (k : Int) < 5 by omega]
        generalize hF : run ctx _ (.loop _) _ _ = R
        obtain ⟨fr2, rfl, q2⟩ := loop_t2_z l b x k hx5 hlt hF (by simp [g1]) (by simp [g3]) (by simp [g8]) (by simp [g9]) (by simp [g10]) (by simp)
        simp [q2, wr, Bd_avouchref06ztheta, dsts, g10, w0]
        exact hlt
      · have : k = 5 := by omega
        subst this
        simp [Be_avouchref06ztheta, g10]
        rw [show x * 320 + 320 = (x + 1) * 320 by omega])
  exact ⟨fr', rfl, hk⟩
theorem loop_t2_x {fr : Fr} {h : AHeap} {R : Option (AEx × Fr × AHeap)} (l : List W64) (b : List AVal)
    (hF : run ctx (limP h) (.loop Bf_avouchref06ztheta) fr (hx h [b, cB (tab 320 (parB l)), cB (tab 1600 fun _ => false)] []) = R)
    (h1 : fr 1 = .vptr (cB (bitsL l)) 0) (h3 : fr 3 = pA h.blks.length 1 0) (h8 : fr 8 = pA h.blks.length 2 0) (h9 : fr 9 = .int .i64 0) :
    ∃ fr', R = some (.exit 6, fr', hx h [b, cB (tab 320 (parB l)), cB (bitsL (thetaL l))] []) ∧ ∀ t, t ∉ wr Bf_avouchref06ztheta → fr' t = fr t := by
  obtain ⟨e, fr', h', rfl, ⟨rfl, rfl⟩, hk⟩ := loop_rule hF 5
    (fun k fr hh => fr 9 = .int .i64 k ∧ hh = hx h [b, cB (tab 320 (parB l)), cB (mixT 1600 (bit (thetaL l)) (fun _ => false) (k * 320))] [])
    (fun e fr hh => e = .exit 6 ∧ hh = hx h [b, cB (tab 320 (parB l)), cB (bitsL (thetaL l))] [])
    ⟨h9, by simp [mixT_zero]⟩ (by
      rintro k fr1 hh hkN hkeep ⟨g9, rfl⟩
      have g1 := (hkeep 1 (by decide)).trans h1
      have g3 := (hkeep 3 (by decide)).trans h3
      have g8 := (hkeep 8 (by decide)).trans h8
      by_cases hlt : k < 5
      · have w0 : IntKind.i64.wrap ((k : Int) + 1) = k + 1 := wrap_i64 (by omega) (by omega)
        simp [Bf_avouchref06ztheta, g1, g3, g8, g9, hlt, show (k : Int) < 5 by omega]
        generalize hF : run ctx _ (.loop _) _ _ = R
        obtain ⟨fr2, rfl, q2⟩ := loop_t2_y l b k hlt hF (by simp [g1]) (by simp [g3]) (by simp [g8]) (by simp [g9]) (by simp)
        simp [q2, wr, Bd_avouchref06ztheta, Be_avouchref06ztheta, dsts, g9, w0]
        exact hlt
      · have : k = 5 := by omega
        subst this
        simp [Bf_avouchref06ztheta, g9, mixT_all, bitsL])
  exact ⟨fr', rfl, hk⟩
theorem ok_Rtheta (L : Lim) (h : AHeap) (l : List W64) : acall ctx L i_avouchref06ztheta [.agg (cB (bitsL l))] h = some (.agg (cB (bitsL (thetaL l))), h) := by
  rw [call_avouchref06ztheta]
  simp [C_avouchref06ztheta, limP, rep1_B, partAB, fillA, stKB, setAtB]
  generalize hF : run ctx _ (.loop _) _ _ = R
  obtain ⟨fr1, rfl, hk1⟩ := loop_th_x l _ hF (by simp) (by simp) (by simp)
  simp [hk1, wr, Ba_avouchref06ztheta, Bb_avouchref06ztheta, Bc_avouchref06ztheta, dsts, partAB, fillA, stKB, setAtB]
  generalize hF : run ctx _ (.loop _) _ _ = R
  obtain ⟨fr2, rfl, hk2⟩ := loop_t2_x l _ hF (by simp [hk1, wr, Ba_avouchref06ztheta, Bb_avouchref06ztheta, Bc_avouchref06ztheta, dsts]) (by simp [hk1, wr, Ba_avouchref06ztheta, Bb_avouchref06ztheta, Bc_avouchref06ztheta, dsts]) (by simp) (by simp)
  simp [hk1, hk2, wr, Ba_avouchref06ztheta, Bb_avouchref06ztheta, Bc_avouchref06ztheta, Bd_avouchref06ztheta, Be_avouchref06ztheta, Bf_avouchref06ztheta, dsts, partAB, stKB, setAtB]

/-! #### the constants -/
def rcp (r p : Nat) : Nat := if r / p % 2 = 1 then r - p else r + p
def rcS (r : Nat) : Nat := if 2 * r ≥ 256 then rcp (rcp (rcp (rcp (2 * r - 256) 64) 32) 16) 1 else 2 * r
def rcR : Nat → Nat
  | 0 => 1
  | t + 1 => rcS (rcR t)
theorem rcS_lt : ∀ r, r < 256 → rcS r < 256 := by decide
theorem rcR_lt : ∀ t, rcR t < 256
  | 0 => by decide
  | t + 1 => rcS_lt _ (rcR_lt t)
theorem rcp_lt (r p : Nat) (hr : r < 2000) (hp : p < 200) : rcp r p < r + 200 := by unfold rcp; split <;> omega
def rcF (r k : Nat) : Nat := (([64, 32, 16, 1] : List Nat).take k).foldl rcp r
theorem loop_rc_in {L : Lim} {fr : Fr} {H : AHeap} {R : Option (AEx × Fr × AHeap)} (r : Nat) (hr : r < 256)
    (hF : run ctx L (.loop Ba_avouchref06zrc) fr H = R)
    (h18 : fr 18 = .vsl true (eI .i64 [64, 32, 16, 1])) (h19 : fr 19 = .int .i64 4) (h20 : fr 20 = .int .i64 0) (h3 : fr 3 = .int .i64 (r : Nat)) :
    ∃ fr', R = some (.exit 2, fr', H) ∧ fr' 3 = .int .i64 (rcp (rcp (rcp (rcp r 64) 32) 16) 1 : Nat) ∧ ∀ t, t ∉ wr Ba_avouchref06zrc → fr' t = fr t := by
  obtain ⟨e, fr', h', rfl, ⟨rfl, rfl, h3'⟩, hk⟩ := loop_rule hF 4
    (fun k fr hh => fr 20 = .int .i64 k ∧ fr 3 = .int .i64 ((rcF r k : Nat) : Int) ∧ rcF r k < 256 + 200 * k ∧ hh = H)
    (fun e fr hh => e = .exit 2 ∧ hh = H ∧ fr 3 = .int .i64 (rcp (rcp (rcp (rcp r 64) 32) 16) 1 : Nat))
    ⟨h20, h3, by show r < 256; exact hr, rfl⟩ (by
      rintro k fr1 hh hkN hkeep ⟨g20, g3, gl, rfl⟩
      have g18 := (hkeep 18 (by decide)).trans h18
      have g19 := (hkeep 19 (by decide)).trans h19
      by_cases hlt : k < 4
      · have w0 : IntKind.i64.wrap ((k : Int) + 1) = k + 1 := wrap_i64 (by omega) (by omega)
        obtain ⟨p, hp, hp1, hp200, hnext⟩ : ∃ p : Nat, gd [64, 32, 16, 1] 0 k = (p : Int) ∧ 0 < p ∧ p < 200 ∧ rcF r (k + 1) = rcp (rcF r k) p := by
          have : k = 0 ∨ k = 1 ∨ k = 2 ∨ k = 3 := by omega
          rcases this with rfl | rfl | rfl | rfl
          · exact ⟨64, rfl, by decide, by decide, rfl⟩
          · exact ⟨32, rfl, by decide, by decide, rfl⟩
          · exact ⟨16, rfl, by decide, by decide, rfl⟩
          · exact ⟨1, rfl, by decide, by decide, rfl⟩
        have hlt2 := rcp_lt _ p (Nat.lt_of_lt_of_le gl (by omega)) hp200
        generalize rcF r k = q at *
        have t1 := tdivL q p
        have w1 := wrapN (q / p) (Nat.lt_of_le_of_lt (Nat.div_le_self _ _) (by omega))
        have t2 : ((q / p : Nat) : Int).tmod 2 = ((q / p % 2 : Nat) : Int) := tmodL _ 2
        have hne : (p : Int) ≠ 0 := by omega
        have w2 : IntKind.i64.wrap ((q : Int) + (p : Int)) = ((q + p : Nat) : Int) := (wrap_i64 (by omega) (by omega)).trans (by omega)
        by_cases hc : q / p % 2 = 1
        · have hqp : p ≤ q := by
            rcases Nat.lt_or_ge q p with h | h
            · rw [Nat.div_eq_of_lt h] at hc; simp at hc
            · exact h
          have w3 : IntKind.i64.wrap ((q : Int) - (p : Int)) = ((q - p : Nat) : Int) := (wrap_i64 (by omega) (by omega)).trans (by omega)
          have hr' : rcp q p = q - p := by unfold rcp; rw [if_pos hc]
          rw [hr'] at hlt2 hnext
          rw [hc] at t2
          generalize q / p = d at *
          generalize q - p = e at *
          simp [Ba_avouchref06zrc, g20, g18, g19, g3, show (k : Int) < 4 by omega, iadr_eI, hlt, hp, bin_quo, bin_rem, hne, show ¬ p = 0 by omega, t1, w1, t2, w3, w0, hnext]
          omega
        · have hr' : rcp q p = q + p := by unfold rcp; rw [if_neg hc]
          have h0 : q / p % 2 = 0 := by omega
          rw [hr'] at hlt2 hnext
          rw [h0] at t2
          generalize q / p = d at *
          generalize q + p = e at *
          simp [Ba_avouchref06zrc, g20, g18, g19, g3, show (k : Int) < 4 by omega, iadr_eI, hlt, hp, bin_quo, bin_rem, hne, show ¬ p = 0 by omega, t1, w1, t2, w2, w0, hnext]
          omega
      · have : k = 4 := by omega
        subst this
        simp [Ba_avouchref06zrc, g20, g19, g3]
        rfl)
  exact ⟨fr', rfl, h3', hk⟩
end Go.Av
