/- The document's digest is the program's. -/
import Derived.Test.YtljmmfgacoapaaaDoorC3
import Derived.KernelRfl
import Derived.Test.YtljmmfgacoapaaaDoorC1
import Derived.Test.YtljmmfgacoapaaaDoorV5
namespace Go.Av
set_option maxHeartbeats 2000000
set_option maxRecDepth 20000
set_option linter.unusedSimpArgs false
set_option linter.unusedVariables false

theorem loop_rc {L : Lim} {fr : Fr} {H : AHeap} {R : Option (AEx × Fr × AHeap)} (t : Nat) (ht : t < 1000)
    (hF : run ctx L (.loop Bb_avouchref06zrc) fr H = R)
    (h0 : fr 0 = .int .i64 t) (h4 : fr 4 = .int .i64 0) (h3 : fr 3 = .int .i64 1) :
    ∃ fr', R = some (.exit 0, fr', H) ∧ fr' 3 = .int .i64 (rcR t : Nat) := by
  obtain ⟨e, fr', h', rfl, ⟨rfl, rfl, h3'⟩, hk⟩ := loop_rule hF t
    (fun k fr hh => fr 4 = .int .i64 k ∧ fr 3 = .int .i64 (rcR k : Nat) ∧ hh = H)
    (fun e fr hh => e = .exit 0 ∧ hh = H ∧ fr 3 = .int .i64 (rcR t : Nat))
    ⟨h4, h3, rfl⟩ (by
      rintro k fr1 hh hkN hkeep ⟨g4, g3, rfl⟩
      have g0 := (hkeep 0 (by decide)).trans h0
      by_cases hlt : k < t
      · have w0 : IntKind.i64.wrap ((k : Int) + 1) = k + 1 := wrap_i64 (by omega) (by omega)
        have hlt2 := rcR_lt k
        have hs : rcR (k + 1) = rcS (rcR k) := rfl
        generalize rcR k = r at *
        have w1 : IntKind.i64.wrap ((r : Int) * 2) = ((2 * r : Nat) : Int) := (wrap_i64 (by omega) (by omega)).trans (by omega)
        by_cases hc : 2 * r ≥ 256
        · have w2 : IntKind.i64.wrap (((2 * r : Nat) : Int) - 256) = ((2 * r - 256 : Nat) : Int) := (wrap_i64 (by omega) (by omega)).trans (by omega)
          have hs2 : rcS r = rcp (rcp (rcp (rcp (2 * r - 256) 64) 32) 16) 1 := by unfold rcS; rw [if_pos hc]
          have hb : 2 * r - 256 < 256 := by omega
          have hge : (256 : Int) ≤ ((2 * r : Nat) : Int) := by omega
          generalize 2 * r = r2 at *
          generalize r2 - 256 = r3 at *
          simp [Bb_avouchref06zrc, g0, g4, g3, hlt, w1, w2, hge, fillA, rep, AVal.cells, AVal.okV, chunks, eI_one, eI_cons]
          generalize hF : run ctx _ (.loop _) _ _ = R
          obtain ⟨fr2, rfl, q1, q2⟩ := loop_rc_in r3 hb hF (by simp) (by simp) (by simp) (by simp)
          simp [q1, q2, wr, Ba_avouchref06zrc, dsts, g4, w0, hs, hs2]
          exact hlt
        · have hs2 : rcS r = 2 * r := by unfold rcS; rw [if_neg hc]
          have hge : ¬ (256 : Int) ≤ ((2 * r : Nat) : Int) := by omega
          generalize 2 * r = r2 at *
          simp [Bb_avouchref06zrc, g0, g4, g3, hlt, w1, hge, w0, hs, hs2]
      · have : k = t := by omega
        subst this
        simp [Bb_avouchref06zrc, g0, g4, g3])
  exact ⟨fr', rfl, h3'⟩
def rcB (t : Nat) : Bool := rcR t % 2 == 1
theorem ok_rc (L : Lim) (h : AHeap) (t : Nat) (ht : t < 1000) : acall ctx L i_avouchref06zrc [.int .i64 t] h = some (.bool (rcB t), h) := by
  rw [call_avouchref06zrc]
  simp [C_avouchref06zrc]
  generalize hF : run ctx _ (.loop _) _ _ = R
  obtain ⟨fr2, rfl, q1⟩ := loop_rc t ht hF (by simp) (by simp) (by simp)
  have t1 : ((rcR t : Nat) : Int).tmod 2 = ((rcR t % 2 : Nat) : Int) := tmodL _ 2
  have t2 : (((rcR t % 2 : Nat) : Int) == 1) = rcB t := by
    unfold rcB; rw [Bool.eq_iff_iff]; simp only [beq_iff_eq]; omega
  generalize rcR t % 2 = m at *
  simp [q1, bin_rem, t1, t2]
/-- The bits of a round's constant, as far as they are laid. -/
def cstK (r : Nat) : Nat → List Bool
  | 0 => tab 64 fun _ => false
  | j + 1 => (cstK r j).set (2 ^ j - 1) (rcB (j + 7 * r))
@[simp] theorem cstK_len (r : Nat) : ∀ k, (cstK r k).length = 64
  | 0 => by simp [cstK]
  | k + 1 => by simp [cstK, cstK_len r k]
theorem cst_ok : ∀ r, r < 24 → cstK r 7 = tab 64 fun z => (gd rcW 0#64 r).getLsbD z := by decide +kernel
theorem loop_Cst {fr : Fr} {h : AHeap} {R : Option (AEx × Fr × AHeap)} (r : Nat) (hr : r < 24) (b : List AVal)
    (hF : run ctx (limP h) (.loop Ba_avouchref06zConstant) fr (hx h [b, cB (cstK r 0)] []) = R)
    (h0 : fr 0 = .int .i64 r) (h3 : fr 3 = pA h.blks.length 1 0) (h4 : fr 4 = .int .i64 1) (h5 : fr 5 = .int .i64 0) :
    ∃ fr', R = some (.exit 0, fr', hx h [b, cB (cstK r 7)] []) ∧ ∀ t, t ∉ wr Ba_avouchref06zConstant → fr' t = fr t := by
  obtain ⟨e, fr', h', rfl, ⟨rfl, rfl⟩, hk⟩ := loop_rule hF 7
    (fun k fr hh => fr 5 = .int .i64 k ∧ fr 4 = .int .i64 ((2 ^ k : Nat) : Int) ∧ hh = hx h [b, cB (cstK r k)] [])
    (fun e fr hh => e = .exit 0 ∧ hh = hx h [b, cB (cstK r 7)] [])
    ⟨h5, h4, rfl⟩ (by
      rintro k fr1 hh hkN hkeep ⟨g5, g4, rfl⟩
      have g0 := (hkeep 0 (by decide)).trans h0
      have g3 := (hkeep 3 (by decide)).trans h3
      by_cases hlt : k < 7
      · have w0 : IntKind.i64.wrap ((k : Int) + 1) = k + 1 := wrap_i64 (by omega) (by omega)
        have hp1 : 1 ≤ 2 ^ k := Nat.one_le_two_pow
        have hp2 : 2 ^ k ≤ 64 := by
          have : 2 ^ k ≤ 2 ^ 6 := Nat.pow_le_pow_right (by decide) (by omega)
          simpa using this
        have hs : cstK r (k + 1) = (cstK r k).set (2 ^ k - 1) (rcB (k + 7 * r)) := rfl
        have hp3 : 2 ^ (k + 1) = 2 * 2 ^ k := by rw [Nat.pow_succ, Nat.mul_comm]
        generalize hpk1 : 2 ^ (k + 1) = pk1 at *
        generalize 2 ^ k = pk at *
        have w1 : IntKind.i64.wrap ((pk : Int) - 1) = ((pk - 1 : Nat) : Int) := (wrap_i64 (by omega) (by omega)).trans (by omega)
        have w2 : IntKind.i64.wrap (7 * (r : Int)) = ((7 * r : Nat) : Int) := (wrap_i64 (by omega) (by omega)).trans (by omega)
        have w3 : IntKind.i64.wrap ((k : Int) + ((7 * r : Nat) : Int)) = ((k + 7 * r : Nat) : Int) := (wrap_i64 (by omega) (by omega)).trans (by omega)
        have w4 : IntKind.i64.wrap ((pk : Int) * 2) = (pk1 : Int) := (wrap_i64 (by omega) (by omega)).trans (by omega)
        have hrc := fun L h => ok_rc L h (k + 7 * r) (by omega)
        have hi1 : pk - 1 < 64 := by omega
        have hi2 : pk - 1 + 1 ≤ 64 := by omega
        generalize rcB (k + 7 * r) = v at *
        generalize k + 7 * r = k7 at *
        generalize 7 * r = r7 at *
        generalize pk - 1 = pm at *
        have e2 : (2 : Int) ^ (k + 1) = (pk1 : Int) := by rw [← hpk1, Int.natCast_pow]; rfl
        simp [Ba_avouchref06zConstant, limP, g0, g3, g4, g5, hlt, show (k : Int) < 7 by omega, w0, w1, w2, w3, w4, hrc, iadr_pA, hi1, hi2, hs, e2]
      · have : k = 7 := by omega
        subst this
        simp [Ba_avouchref06zConstant, g5])
  exact ⟨fr', rfl, hk⟩
theorem ok_RConstant (L : Lim) (h : AHeap) (r : Nat) (hr : r < 24) : acall ctx L i_avouchref06zConstant [.int .i64 r] h = some (.agg (cB (tab 64 fun z => (gd rcW 0#64 r).getLsbD z)), h) := by
  rw [call_avouchref06zConstant, ← cst_ok r hr]
  have e0 : cB (tab 64 fun _ => false) = cB (cstK r 0) := rfl
  simp [C_avouchref06zConstant, limP, rep1_B, e0, partAB, fillA, stKB, setAtB, show ¬ (r : Int) < 0 by omega, show ¬ (23 : Int) < r by omega]
  generalize hF : run ctx _ (.loop _) _ _ = R
  obtain ⟨fr1, rfl, hk1⟩ := loop_Cst r hr _ hF (by simp) (by simp) (by simp) (by simp)
  simp [hk1, wr, Ba_avouchref06zConstant, dsts, partAB, stKB, setAtB]

/-! #### rounds -/
theorem rhoPi_eq (l : List W64) : piL (rhoL l) = rhoPiL l := by kernel_rfl
end Go.Av

namespace Go.Av
set_option maxHeartbeats 2000000
set_option maxRecDepth 20000
set_option linter.unusedSimpArgs false
set_option linter.unusedVariables false

theorem set0_bit (m : List W64) (hm : m.length = 25) (c : W64) (x y z : Nat) (hx5 : x < 5) (hy5 : y < 5) (hz : z < 64) :
    bit (m.set 0 (gd m 0#64 0 ^^^ c)) (x * 320 + y * 64 + z) = if x * 320 + y * 64 + z < 64 then bit m (x * 320 + y * 64 + z) ^^ c.getLsbD (x * 320 + y * 64 + z) else bit m (x * 320 + y * 64 + z) := by
  rw [bit_at _ _ _ _ hx5 hy5 hz, bit_at _ _ _ _ hx5 hy5 hz]
  by_cases h : x = 0 ∧ y = 0
  · obtain ⟨rfl, rfl⟩ := h
    have : gd (m.set 0 (gd m 0#64 0 ^^^ c)) 0#64 0 = gd m 0#64 0 ^^^ c := by
      unfold gd; simp [List.getD, hm]
    rw [if_pos (by omega)]
    simp only [Nat.zero_mul, Nat.zero_add, Nat.mul_zero, this, BitVec.getLsbD_xor]
  · rw [if_neg (by omega)]
    congr 1
    unfold gd
    have : ¬ 0 = x + 5 * y := by omega
    simp [List.getD, List.getElem?_set, this]
theorem loop_RRound {fr : Fr} {h : AHeap} {R : Option (AEx × Fr × AHeap)} (m : List W64) (hm : m.length = 25) (c : W64) (b : List AVal)
    (hF : run ctx (limP h) (.loop Ba_avouchref06zRound) fr (hx h [cB (bitsL m), b, cB (tab 64 fun z => c.getLsbD z)] []) = R)
    (h2 : fr 2 = pA h.blks.length 0 0) (h5 : fr 5 = pA h.blks.length 2 0) (h6 : fr 6 = .int .i64 0) :
    ∃ fr', R = some (.exit 0, fr', hx h [cB (bitsL (m.set 0 (gd m 0#64 0 ^^^ c))), b, cB (tab 64 fun z => c.getLsbD z)] []) ∧ ∀ t, t ∉ wr Ba_avouchref06zRound → fr' t = fr t := by
  obtain ⟨e, fr', h', rfl, ⟨rfl, rfl⟩, hk⟩ := loop_rule hF 64
    (fun k fr hh => fr 6 = .int .i64 k ∧ hh = hx h [cB (mixT 1600 (bit (m.set 0 (gd m 0#64 0 ^^^ c))) (bit m) k), b, cB (tab 64 fun z => c.getLsbD z)] [])
    (fun e fr hh => e = .exit 0 ∧ hh = hx h [cB (bitsL (m.set 0 (gd m 0#64 0 ^^^ c))), b, cB (tab 64 fun z => c.getLsbD z)] [])
    ⟨h6, by rw [mixT_zero]; rfl⟩ (by
      rintro k fr1 hh hkN hkeep ⟨g6, rfl⟩
      have g2 := (hkeep 2 (by decide)).trans h2
      have g5 := (hkeep 5 (by decide)).trans h5
      by_cases hlt : k < 64
      · have w0 : IntKind.i64.wrap ((k : Int) + 1) = k + 1 := wrap_i64 (by omega) (by omega)
        have hset := mixT_set 1600 (bit (m.set 0 (gd m 0#64 0 ^^^ c))) (bit m) k
        have hb := set0_bit m hm c 0 0 k (by decide) (by decide) hlt
        simp only [Nat.zero_mul, Nat.zero_add] at hb
        rw [if_pos hlt] at hb
        rw [hb] at hset
        have b0 : gd (mixT 1600 (bit (m.set 0 (gd m 0#64 0 ^^^ c))) (bit m) k) false k = bit m k := gd_mixT (by omega)
        have b1 : gd (tab 64 fun z => c.getLsbD z) false k = c.getLsbD k := gd_tab hlt
        generalize hM1 : mixT 1600 (bit (m.set 0 (gd m 0#64 0 ^^^ c))) (bit m) (k + 1) = M1 at *
        have hML := mixT_len 1600 (bit (m.set 0 (gd m 0#64 0 ^^^ c))) (bit m) k
        generalize mixT 1600 (bit (m.set 0 (gd m 0#64 0 ^^^ c))) (bit m) k = M0 at *
        have hCL := tab_len 64 (fun z => c.getLsbD z)
        generalize (tab 64 fun z => c.getLsbD z) = C0 at *
        generalize bit m k = v0 at *
        generalize c.getLsbD k = v1 at *
        simp [Ba_avouchref06zRound, limP, g2, g5, g6, hlt, show (k : Int) < 64 by omega, w0, iadr_pA, show k < 1600 by omega, show k ≤ 1599 by omega, hML, hCL, b0, b1]
        have e1 : (!(v0 == v1)) = (v0 ^^ v1) := by cases v0 <;> cases v1 <;> rfl
        rw [e1, hset, hM1]
      · have : k = 64 := by omega
        subst this
        have e0 : mixT 1600 (bit (m.set 0 (gd m 0#64 0 ^^^ c))) (bit m) 64 = bitsL (m.set 0 (gd m 0#64 0 ^^^ c)) := tab_congr fun j hj => by
          by_cases hj : j < 64
          · rw [if_pos hj]
          · rw [if_neg hj]
            obtain ⟨x, y, z, hx5, hy5, hz, rfl⟩ := dec3 (by assumption)
            rw [set0_bit m hm c x y z hx5 hy5 hz, if_neg hj]
        simp [Ba_avouchref06zRound, g6, e0])
  exact ⟨fr', rfl, hk⟩
@[simp] theorem piL_len (l : List W64) : (piL l).length = 25 := by simp [piL]
@[simp] theorem rhoL_len (l : List W64) : (rhoL l).length = 25 := by simp [rhoL]
theorem ok_RRound (L : Lim) (h : AHeap) (l : List W64) (k : Nat) (hk : k < 24) : acall ctx L i_avouchref06zRound [.agg (cB (bitsL l)), .int .i64 k] h = some (.agg (cB (bitsL (roundL l k))), h) := by
  rw [call_avouchref06zRound]
  simp [C_avouchref06zRound, limP, rep1_B, copA_box, AVal.okV, AVal.cells, partAB, stKB, setAtB, ok_Rtheta, ok_Rrho, ok_Rpi, ok_Rchi, ok_RConstant, hk, rhoPi_eq]
  generalize hF : run ctx _ (.loop _) _ _ = R
  obtain ⟨fr1, rfl, hk1⟩ := loop_RRound (chiL (rhoPiL (thetaL l))) (by simp) _ _ hF (by simp) (by simp) (by simp)
  simp [hk1, wr, Ba_avouchref06zRound, dsts, partAB, stKB, setAtB, roundL]
theorem loop_RPerm {fr : Fr} {h : AHeap} {R : Option (AEx × Fr × AHeap)} (l : List W64) (b : List AVal)
    (hF : run ctx (limP h) (.loop Ba_avouchref06zPermute) fr (hx h [b, cB (bitsL l)] []) = R)
    (h3 : fr 3 = pA h.blks.length 1 0) (h4 : fr 4 = .int .i64 0) :
    ∃ fr', R = some (.exit 0, fr', hx h [b, cB (bitsL (permL l))] []) ∧ ∀ t, t ∉ wr Ba_avouchref06zPermute → fr' t = fr t := by
  obtain ⟨e, fr', h', rfl, ⟨rfl, rfl⟩, hk⟩ := loop_rule hF 24
    (fun k fr hh => fr 4 = .int .i64 k ∧ hh = hx h [b, cB (bitsL (permK l k))] [])
    (fun e fr hh => e = .exit 0 ∧ hh = hx h [b, cB (bitsL (permL l))] [])
    ⟨h4, rfl⟩ (by
      rintro k fr1 hh hkN hkeep ⟨g4, rfl⟩
      have g3 := (hkeep 3 (by decide)).trans h3
      by_cases hlt : k < 24
      · have w0 : IntKind.i64.wrap ((k : Int) + 1) = k + 1 := wrap_i64 (by omega) (by omega)
        simp [Ba_avouchref06zPermute, limP, g3, g4, hlt, show (k : Int) < 24 by omega, w0, partAB, stKB, setAtB, ok_RRound, permK_succ]
      · have : k = 24 := by omega
        subst this
        simp [Ba_avouchref06zPermute, g4, permL])
  exact ⟨fr', rfl, hk⟩
theorem ok_RPermute (L : Lim) (h : AHeap) (l : List W64) (hl : l.length = 25) : acall ctx L i_avouchref06zPermute [.agg (cW l)] h = some (.agg (cW (permL l)), h) := by
  rw [call_avouchref06zPermute]
  simp [C_avouchref06zPermute, limP, rep1_W, rep1_B, partAB, hl, stKB, setAtB, ok_OfWords]
  generalize hF : run ctx _ (.loop _) _ _ = R
  obtain ⟨fr1, rfl, hk1⟩ := loop_RPerm l _ hF (by simp) (by simp)
  simp [hk1, wr, Ba_avouchref06zPermute, dsts, partAB, stKB, setAtB, ok_Words, permL_len, hl]

/-! #### words of bytes -/
/-- The lanes as far as the bytes behind the k-th are taken. -/
def obK (b : List Int) (n : Nat) : Nat → List W64
  | 0 => tab 25 fun _ => 0#64
  | k + 1 => let i := n - 1 - k; (obK b n k).set (i / 8) (gd (obK b n k) 0#64 (i / 8) * 256#64 + bw (gd b 0 i))
@[simp] theorem obK_len (b : List Int) (n : Nat) : ∀ k, (obK b n k).length = 25
  | 0 => by simp [obK]
  | k + 1 => by simp [obK, obK_len b n k]
def wordsL (b : List Int) : List W64 := obK b 200 200
theorem loop_OB {fr : Fr} {h : AHeap} {R : Option (AEx × Fr × AHeap)} (b : List Int) (hb : b.length = 200) (x : AVal) (z : List AVal) (hr : RdI h .u8 x b)
    (hF : run ctx (limP h) (.loop Ba_avouchref06zOfBytes) fr (hx h [z, cW (obK b 200 0)] []) = R)
    (h0 : fr 0 = x) (h3 : fr 3 = pA h.blks.length 1 0) (h4 : fr 4 = .int .i64 199) :
    ∃ fr', R = some (.exit 0, fr', hx h [z, cW (wordsL b)] []) ∧ ∀ t, t ∉ wr Ba_avouchref06zOfBytes → fr' t = fr t := by
  obtain ⟨r1, p, r2, r3⟩ := hr
  obtain ⟨e, fr', h', rfl, ⟨rfl, rfl⟩, hk⟩ := loop_rule hF 200
    (fun k fr hh => fr 4 = .int .i64 (199 - (k : Int)) ∧ hh = hx h [z, cW (obK b 200 k)] [])
    (fun e fr hh => e = .exit 0 ∧ hh = hx h [z, cW (wordsL b)] [])
    ⟨h4, rfl⟩ (by
      rintro k fr1 hh hkN hkeep ⟨g4, rfl⟩
      have g0 := (hkeep 0 (by decide)).trans h0
      have g3 := (hkeep 3 (by decide)).trans h3
      by_cases hlt : k < 200
      · obtain ⟨i, hi⟩ : ∃ i : Nat, i = 199 - k := ⟨_, rfl⟩
        have hi200 : i < 200 := by omega
        have g4' : fr1 4 = .int .i64 (i : Int) := by rw [g4]; congr 1; omega
        have w1 : IntKind.i64.wrap ((i : Int) - 1) = 199 - ((k + 1 : Nat) : Int) := (wrap_i64 (by omega) (by omega)).trans (by omega)
        have hst : obK b 200 (k + 1) = (obK b 200 k).set (i / 8) (gd (obK b 200 k) 0#64 (i / 8) * 256#64 + bw (gd b 0 i)) := by
          rw [obK, show 200 - 1 - k = i by omega]
        have t1 : (i : Int).tdiv 8 = ((i / 8 : Nat) : Int) := tdivL i 8
        have t2 := wrapN (i / 8) (by omega)
        have hq : i / 8 < 25 := by omega
        have hq2 : i / 8 ≤ 24 := by omega
        generalize i / 8 = q at *
        have hm2 : AVal.int .u64 256 = wd 256#64 := rfl
        have hib : i < b.length := by omega
        have hL := obK_len b 200 k
        generalize hM1 : obK b 200 (k + 1) = M1 at *
        generalize obK b 200 k = M0 at *
        simp [-i2iK_int, Ba_avouchref06zOfBytes, limP, g0, g3, g4', show (0 : Int) ≤ i by omega, t1, t2, bin_quo, iadr_pA, hq, hq2, hm2, hL, r2 i hib, r3 i _ _ hib, ← hst, w1]
        exact ⟨hlt, by rw [hM1]⟩
      · have : k = 200 := by omega
        subst this
        simp [Ba_avouchref06zOfBytes, g4, wordsL])
  exact ⟨fr', rfl, hk⟩
theorem fzA_sA (h : AHeap) (bs : List (List AVal)) (ts : List Nat) (i n : Nat) (cap : Option Nat) (k : IntKind) (l : List Int) (hb : bs[i]? = some (cI k l)) (hl : l.length = n) :
    fzA (hx h bs ts) (sA h.blks.length i 0 1 n cap) = some (.vsl false (eI k l), true) := by
  have he := elems_sA h bs ts i n (cI k l) cap hb (by simpa using hl)
  rw [eI_cells] at he
  simp only [sA] at he ⊢
  simp only [fzA, he, bind, Option.bind_some]
@[simp] theorem endU_cW (h : AHeap) (l : List W64) : endU true (some (.agg (cW l), h)) = some (.agg (cW l), h) := endU_true h _ (cW_flat l)
theorem ok_OfBytes (L : Lim) (h : AHeap) (bs : List (List AVal)) (ts : List Nat) (i : Nat) (cap : Option Nat) (b : List Int) (hb : bs[i]? = some (cI .u8 b)) (hl : b.length = 200) :
    acall ctx L i_avouchref06zOfBytes [sA h.blks.length i 0 1 200 cap] (hx h bs ts) = some (.agg (cW (wordsL b)), hx h bs ts) := by
  rw [call_avouchref06zOfBytes]
  have hf := fzA_sA h bs ts i 200 cap .u8 b hb hl
  rw [argsA_pure, fzArgs_cons, hf, fzArgs_nil, fzK_some, callR_some]
  generalize hx h bs ts = H
  have e0 : cW (tab 25 fun _ => 0#64) = cW (obK b 200 0) := rfl
  simp [C_avouchref06zOfBytes, limP, rep1_W, e0, partAB, fillA, stKB, setAtB, hl]
  generalize hF : run ctx _ (.loop _) _ _ = R
  have hr : RdI H .u8 (.vsl false (eI .u8 b)) b := RdI.vsl H .u8 false b
  obtain ⟨fr1, rfl, hk1⟩ := loop_OB b hl _ _ hr hF (by simp) (by simp) (by simp; exact wrap_i64 (by decide) (by decide))
  have hw : (wordsL b).length = 25 := by simp [wordsL]
  simp [hk1, wr, Ba_avouchref06zOfBytes, dsts, partAB, stKB, setAtB, hw]

/-! #### bytes of words, in a list that may be written -/
def GrO (h : AHeap) (bs : List (List AVal)) (ts : List Nat) (f : Nat → Int) (v : AVal) (hh : AHeap) (m : Nat) : Prop :=
  (m = 0 ∧ v = .vsl true [] ∧ hh = hx h bs ts) ∨ (0 < m ∧ ∃ bs', v = sA h.blks.length bs'.length 0 1 m none ∧ hh = hx h (bs' ++ [cI .u8 (tab m f)]) ts)
theorem GrO.step {h : AHeap} {bs : List (List AVal)} {ts : List Nat} {f : Nat → Int} {v : AVal} {hh : AHeap} {m : Nat} {L : Lim} (hg : GrO h bs ts f v hh m) (hm : m < 1000000) (hL : L.rob ≤ h.blks.length) :
    ∃ v' hh', appK L hh 1 true v (.vsl true (eI .u8 [f m])) = some (v', hh') ∧ GrO h bs ts f v' hh' (m + 1) := by
  rcases hg with ⟨rfl, rfl, rfl⟩ | ⟨h0, bs', rfl, rfl⟩
  · refine ⟨_, _, appK_refV L h bs ts 1 true [] (eI .u8 [f 0]) (by simp [maxRoom]; rfl), .inr ⟨by omega, bs, ?_, ?_⟩⟩
    · simp
    · simp [tab, eI, cI]
  · refine ⟨_, _, appK_sA L h (bs' ++ [cI .u8 (tab m f)]) ts bs'.length m .u8 (tab m f) [f m] true (by simp) (by simp [maxRoom]; omega), .inr ⟨by omega, (bs' ++ [cI .u8 (tab m f)]).set bs'.length [], ?_, ?_⟩⟩
    · simp
    · rw [tab_snoc]
theorem byte256 (w : W64) : ((w % 256#64).toNat % 256 : Nat) = w.toNat % 256 := by
  rw [BitVec.toNat_umod]
  show w.toNat % 256 % 256 = _
  omega
theorem loop_RB_in {L : Lim} {fr : Fr} {h hh : AHeap} {R : Option (AEx × Fr × AHeap)} (l : List W64) (bs : List (List AVal)) (ts : List Nat) (i : Nat) (hi : i < 25) (f : Nat → Int) (hf : f = fun j => byW (gd l 0#64 (j / 8)) (j % 8)) (hL : L.rob ≤ h.blks.length)
    (hF : run ctx L (.loop Ba_avouchref06zBytes) fr hh = R) (hg : GrO h bs ts f (fr 3) hh (8 * i))
    (h5 : fr 5 = wd (gd l 0#64 i)) (h6 : fr 6 = .int .i64 0) :
    ∃ fr' hh', R = some (.exit 2, fr', hh') ∧ GrO h bs ts f (fr' 3) hh' (8 * (i + 1)) ∧ ∀ t, t ∉ wr Ba_avouchref06zBytes → fr' t = fr t := by
  obtain ⟨e, fr', h', rfl, ⟨rfl, h3'⟩, hk⟩ := loop_rule hF 8
    (fun k fr hh => fr 6 = .int .i64 k ∧ fr 5 = wd (gd l 0#64 i >>> (8 * k)) ∧ GrO h bs ts f (fr 3) hh (8 * i + k))
    (fun e fr hh => e = .exit 2 ∧ GrO h bs ts f (fr 3) hh (8 * (i + 1)))
    ⟨h6, by simpa using h5, hg⟩ (by
      rintro k fr1 hh hkN hkeep ⟨g6, g5, gg⟩
      by_cases hlt : k < 8
      · have w1 : IntKind.i64.wrap ((k : Int) + 1) = k + 1 := wrap_i64 (by omega) (by omega)
        have hfk : ((((gd l 0#64 i >>> (8 * k)).toNat % 256 : Nat) : Int)) = f (8 * i + k) := by
          rw [hf]; simp only [byW]
          rw [show (8 * i + k) / 8 = i by omega, show (8 * i + k) % 8 = k by omega]
        have hsh : gd l 0#64 i >>> (8 * k) >>> 8 = gd l 0#64 i >>> (8 * (k + 1)) := by
          rw [← BitVec.shiftRight_add]; rfl
        obtain ⟨v', hh', ea, gg'⟩ := gg.step (L := L) (by omega) hL
        have hby := byte256 (gd l 0#64 i >>> (8 * k))
        have hu := i2i_u8_wd (gd l 0#64 i >>> (8 * k) % 256#64)
        rw [hby, hfk] at hu
        generalize hw1 : gd l 0#64 i >>> (8 * (k + 1)) = w1' at *
        generalize gd l 0#64 i >>> (8 * k) = w at *
        simp [-i2i_u8_wd, Ba_avouchref06zBytes, g6, g5, hlt, show (k : Int) < 8 by omega, w1, wd_rem256, wd_quo256, hu, fillA, rep, AVal.cells, AVal.okV, chunks, eI_one, ea, hsh]
        exact ⟨by rw [hw1], gg'⟩
      · have : k = 8 := by omega
        subst this
        have e8 : 8 * i + 8 = 8 * (i + 1) := by omega
        rw [e8] at gg
        simp [Ba_avouchref06zBytes, g6, gg])
  exact ⟨fr', h', rfl, h3', hk⟩
theorem loop_RB {L : Lim} {fr : Fr} {h hh : AHeap} {R : Option (AEx × Fr × AHeap)} (l : List W64) (hl : l.length = 25) (bs : List (List AVal)) (ts : List Nat) (f : Nat → Int) (hf : f = fun j => byW (gd l 0#64 (j / 8)) (j % 8)) (hL : L.rob ≤ h.blks.length)
    (hF : run ctx L (.loop Bb_avouchref06zBytes) fr hh = R) (hg : GrO h bs ts f (fr 3) hh 0)
    (h1 : fr 1 = .vptr (cW l) 0) (h4 : fr 4 = .int .i64 0) :
    ∃ fr' hh', R = some (.exit 0, fr', hh') ∧ GrO h bs ts f (fr' 3) hh' 200 := by
  obtain ⟨e, fr', h', rfl, ⟨rfl, h3'⟩, hk⟩ := loop_rule hF 25
    (fun k fr hh => fr 4 = .int .i64 k ∧ GrO h bs ts f (fr 3) hh (8 * k))
    (fun e fr hh => e = .exit 0 ∧ GrO h bs ts f (fr 3) hh 200)
    ⟨h4, hg⟩ (by
      rintro k fr1 hh hkN hkeep ⟨g4, gg⟩
      have g1 := (hkeep 1 (by decide)).trans h1
      by_cases hlt : k < 25
      · have w1 : IntKind.i64.wrap ((k : Int) + 1) = k + 1 := wrap_i64 (by omega) (by omega)
        simp [Bb_avouchref06zBytes, g1, g4, hlt, show (k : Int) < 25 by omega, iadr_vp, hl]
        generalize hF : run ctx _ (.loop _) _ _ = R
        obtain ⟨fr2, hh2, rfl, q1, q2⟩ := loop_RB_in l bs ts k hlt f hf hL hF (by simpa using gg) (by simp) (by simp)
        simp [q1, q2, wr, Ba_avouchref06zBytes, dsts, g4, w1]
        exact hlt
      · have : k = 25 := by omega
        subst this
        simp [Bb_avouchref06zBytes, g4]
        exact gg)
  exact ⟨fr', h', rfl, h3'⟩
theorem ok_RBytes (L : Lim) (h : AHeap) (bs : List (List AVal)) (ts : List Nat) (l : List W64) (hl : l.length = 25) (hL : L.rob ≤ h.blks.length) :
    ∃ bs', acall ctx L i_avouchref06zBytes [.agg (cW l)] (hx h bs ts) = some (sA h.blks.length bs'.length 0 1 200 none, hx h (bs' ++ [cI .u8 (bytesL l)]) ts) := by
  rw [call_avouchref06zBytes]
  simp [C_avouchref06zBytes, rep, chunks, fillA]
  generalize hF : run ctx _ (.loop _) _ _ = R
  obtain ⟨fr', hh', rfl, hg⟩ := loop_RB l hl bs ts _ rfl hL hF (.inl ⟨rfl, by simp, by simp⟩) (by simp) (by simp)
  rcases hg with ⟨h0, _⟩ | ⟨_, bs', e1, e2⟩
  · omega
  · refine ⟨bs', ?_⟩
    simp [e1, e2]
    have : bytesL l = tab 200 fun j => byW (gd l 0#64 (j / 8)) (j % 8) := by unfold bytesL; rw [hl]
    rw [this]
end Go.Av

namespace Go.Av
set_option maxHeartbeats 2000000
set_option maxRecDepth 20000
set_option linter.unusedSimpArgs false
set_option linter.unusedVariables false

@[simp] theorem cI_getE (k : IntKind) (l : List Int) (i : Nat) (h : i < (cI k l).length) : (cI k l)[i] = .int k (gd l 0 i) := by
  have := cI_at (k := k) (l := l) (i := i) (by simpa using h)
  rw [List.getElem?_eq_getElem h] at this
  exact Option.some.inj this
def xorB (a b : Int) : Int := ((a.toNat ^^^ b.toNat : Nat) : Int)
theorem loop_xor {L : Lim} {fr : Fr} {H : AHeap} {R : Option (AEx × Fr × AHeap)} (a b : Nat) (ha : a < 256) (hb : b < 256)
    (hF : run ctx L (.loop Ba_avouchref07zxor) fr H = R)
    (h5 : fr 5 = .int .i64 0) (h6 : fr 6 = .int .i64 1) (h7 : fr 7 = .int .i64 a) (h8 : fr 8 = .int .i64 b) (h9 : fr 9 = .int .i64 0) :
    ∃ fr', R = some (.exit 0, fr', H) ∧ fr' 5 = .int .i64 ((a ^^^ b : Nat) : Int) := by
  have hab : (a ^^^ b) % 2 ^ 8 = a ^^^ b := Nat.mod_eq_of_lt (Nat.xor_lt_two_pow (n := 8) ha hb)
  obtain ⟨e, fr', h', rfl, ⟨rfl, rfl, h3'⟩, hk⟩ := loop_rule hF 8
    (fun k fr hh => fr 9 = .int .i64 k ∧ fr 5 = .int .i64 (((a ^^^ b) % 2 ^ k : Nat) : Int) ∧ fr 6 = .int .i64 ((2 ^ k : Nat) : Int) ∧ fr 7 = .int .i64 ((a / 2 ^ k : Nat) : Int) ∧ fr 8 = .int .i64 ((b / 2 ^ k : Nat) : Int) ∧ hh = H)
    (fun e fr hh => e = .exit 0 ∧ hh = H ∧ fr 5 = .int .i64 ((a ^^^ b : Nat) : Int))
    ⟨h9, by simpa [Nat.mod_one] using h5, h6, by simpa using h7, by simpa using h8, rfl⟩ (by
      rintro k fr1 hh hkN hkeep ⟨g9, g5, g6, g7, g8, rfl⟩
      by_cases hlt : k < 8
      · have w0 : IntKind.i64.wrap ((k : Int) + 1) = k + 1 := wrap_i64 (by omega) (by omega)
        have hp2 : 2 ^ k ≤ 128 := by
          have : 2 ^ k ≤ 2 ^ 7 := Nat.pow_le_pow_right (by decide) (by omega)
          simpa using this
        have hstep : (a ^^^ b) % 2 ^ (k + 1) = (a ^^^ b) % 2 ^ k + 2 ^ k * ((a ^^^ b) / 2 ^ k % 2) := Nat.mod_pow_succ
        have tc := Nat.testBit_eq_decide_div_mod_eq (x := a ^^^ b) (i := k)
        rw [Nat.testBit_xor] at tc
        have ta := Nat.testBit_eq_decide_div_mod_eq (x := a) (i := k)
        have tb := Nat.testBit_eq_decide_div_mod_eq (x := b) (i := k)
        have hda : a / 2 ^ (k + 1) = a / 2 ^ k / 2 := by rw [Nat.pow_succ, Nat.div_div_eq_div_mul]
        have hdb : b / 2 ^ (k + 1) = b / 2 ^ k / 2 := by rw [Nat.pow_succ, Nat.div_div_eq_div_mul]
        have hp3 : 2 ^ (k + 1) = 2 * 2 ^ k := by rw [Nat.pow_succ, Nat.mul_comm]
        have hmlt : (a ^^^ b) % 2 ^ k < 2 ^ k := Nat.mod_lt _ (Nat.two_pow_pos k)
        have hal : a / 2 ^ k ≤ a := Nat.div_le_self _ _
        have hbl : b / 2 ^ k ≤ b := Nat.div_le_self _ _
        have hPI : (2 : Int) ^ (k + 1) = ((2 * 2 ^ k : Nat) : Int) := by rw [← hp3, Int.natCast_pow]; rfl
        have hAI : (a : Int) / 2 ^ (k + 1) = ((a / 2 ^ k / 2 : Nat) : Int) := by rw [← hda, Int.natCast_ediv, Int.natCast_pow]; rfl
        have hBI : (b : Int) / 2 ^ (k + 1) = ((b / 2 ^ k / 2 : Nat) : Int) := by rw [← hdb, Int.natCast_ediv, Int.natCast_pow]; rfl
        have hMI : (((a ^^^ b : Nat) : Int)) % 2 ^ (k + 1) = (((a ^^^ b) % 2 ^ (k + 1) : Nat) : Int) := by rw [Int.natCast_emod, Int.natCast_pow]; rfl
        rw [hPI] at hAI hBI hMI
        rw [ta, tb] at tc
        have hc2 : (a ^^^ b) / 2 ^ k % 2 < 2 := Nat.mod_lt _ (by decide)
        generalize (a ^^^ b) / 2 ^ k % 2 = c at *
        generalize (a ^^^ b) % 2 ^ (k + 1) = m1 at *
        generalize (a ^^^ b) % 2 ^ k = m at *
        generalize a / 2 ^ k = x at *
        generalize b / 2 ^ k = y at *
        generalize 2 ^ k = pk at *
        have t1 : (x : Int).tmod 2 = ((x % 2 : Nat) : Int) := tmodL x 2
        have t2 : (y : Int).tmod 2 = ((y % 2 : Nat) : Int) := tmodL y 2
        have t3 := tdiv2 x
        have t4 := tdiv2 y
        have w1 := wrapN (x / 2) (by omega)
        have w2 := wrapN (y / 2) (by omega)
        have w3 : IntKind.i64.wrap ((pk : Int) * 2) = ((2 * pk : Nat) : Int) := (wrap_i64 (by omega) (by omega)).trans (by omega)
        have w4 : IntKind.i64.wrap ((m : Int) + (pk : Int)) = ((m + pk : Nat) : Int) := (wrap_i64 (by omega) (by omega)).trans (by omega)
        by_cases hne : x % 2 = y % 2
        · have hc0 : c = 0 := by
            rw [hne] at tc
            simp at tc; omega
          have hm : m1 = m := by rw [hstep, hc0]; simp
          have hq : (((x % 2 : Nat) : Int) == ((y % 2 : Nat) : Int)) = true := by simp [hne]
          generalize x / 2 = xh at *
          generalize y / 2 = yh at *
          generalize x % 2 = xl at *
          generalize y % 2 = yl at *
          generalize 2 * pk = pk2 at *
          simp [Ba_avouchref07zxor, g5, g6, g7, g8, g9, hlt, show (k : Int) < 8 by omega, w0, t1, t2, t3, t4, w1, w2, w3, bin_rem, bin_quo, bne, hq, hPI]
          exact ⟨by rw [hMI, hm], hAI.symm, hBI.symm⟩
        · have hm : m1 = m + pk := by
            have hc1 : c = 1 := by
              have hx : x % 2 = 0 ∨ x % 2 = 1 := by omega
              have hy : y % 2 = 0 ∨ y % 2 = 1 := by omega
              rcases hx with hx | hx <;> rcases hy with hy | hy <;> simp [hx, hy] at hne tc <;> omega
            rw [hstep, hc1, Nat.mul_one]
          have hq : (((x % 2 : Nat) : Int) == ((y % 2 : Nat) : Int)) = false := beq_false_of_ne (by omega)
          generalize x / 2 = xh at *
          generalize y / 2 = yh at *
          generalize x % 2 = xl at *
          generalize y % 2 = yl at *
          generalize 2 * pk = pk2 at *
          generalize m + pk = mp at *
          simp [Ba_avouchref07zxor, g5, g6, g7, g8, g9, hlt, show (k : Int) < 8 by omega, w0, t1, t2, t3, t4, w1, w2, w3, w4, bin_rem, bin_quo, bne, hq, hPI]
          exact ⟨by rw [hMI, hm], hAI.symm, hBI.symm⟩
      · have : k = 8 := by omega
        subst this
        rw [hab] at g5
        simp [Ba_avouchref07zxor, g9, g5])
  exact ⟨fr', rfl, h3'⟩
theorem ok_xor (L : Lim) (h : AHeap) (a b : Int) (ha : 0 ≤ a ∧ a < 256) (hb : 0 ≤ b ∧ b < 256) : acall ctx L i_avouchref07zxor [.int .u8 a, .int .u8 b] h = some (.int .u8 (xorB a b), h) := by
  obtain ⟨x, rfl⟩ : ∃ k : Nat, a = k := ⟨a.toNat, by omega⟩
  obtain ⟨y, rfl⟩ : ∃ k : Nat, b = k := ⟨b.toNat, by omega⟩
  rw [call_avouchref07zxor]
  have w1 := wrapN x (by omega)
  have w2 := wrapN y (by omega)
  simp [C_avouchref07zxor, w1, w2]
  generalize hF : run ctx _ (.loop _) _ _ = R
  obtain ⟨fr2, rfl, q1⟩ := loop_xor x y (by omega) (by omega) hF (by simp) (by simp) (by simp) (by simp) (by simp)
  have hlt : x ^^^ y < 2 ^ 8 := Nat.xor_lt_two_pow (by omega) (by omega)
  have w3 : IntKind.u8.wrap ((x ^^^ y : Nat) : Int) = ((x ^^^ y : Nat) : Int) := wrap_u8 (by omega) (by omega)
  simp [q1, w3, xorB]

/-! #### padding -/
def padZ (n : Nat) : Nat := (136 - (n + 1) % 136) % 136
def padR (b : List Int) (k : Nat) : List Int := b ++ [6] ++ List.replicate k 0
def padL (b : List Int) : List Int := (padR b (padZ b.length)).set (b.length + padZ b.length) (IntKind.u8.wrap (gd (padR b (padZ b.length)) 0 (b.length + padZ b.length) + 128))
@[simp] theorem padR_len (b : List Int) (k : Nat) : (padR b k).length = b.length + 1 + k := by simp [padR]; omega
theorem padR_succ (b : List Int) (k : Nat) : padR b k ++ [0] = padR b (k + 1) := by simp [padR, List.replicate_succ']
theorem frz_sA (h : AHeap) (bs : List (List AVal)) (ts : List Nat) (nt n i m : Nat) (cap : Option Nat) (k : IntKind) (l : List Int) (hb : bs[i]? = some (cI k l)) (hl : m ≤ l.length) :
    frz (hx h bs ts) h.blks.length nt (n + 1) (sA h.blks.length i 0 1 m cap) = some (.vsl false (eI k (l.take m))) := by
  have e1 : (hx h bs ts).blks[h.blks.length + i]? = some (cI k l) := hx_blk ts hb
  have e2 : chunks 1 m (cI k l) = eI k (l.take m) := by
    have key : ∀ (m : Nat) (l : List Int), m ≤ l.length → chunks 1 m (cI k l) = eI k (l.take m) := by
      intro m
      induction m with
      | zero => intro l _; simp [chunks]
      | succ m ih =>
        intro l hl
        cases l with
        | nil => simp at hl
        | cons x l =>
          have := ih l (by simpa using hl)
          simp only [chunks, cI, List.map_cons, List.take_succ_cons, List.take_zero, List.drop_succ_cons, List.drop_zero] at this ⊢
          rw [this]; rfl
    exact key m l hl
  simp only [sA, frz]
  rw [if_neg (by omega)]
  simp only [elemsA, ne_eq, not_true, if_false, e1, Option.bind_some, List.drop_zero]
  rw [if_pos (by simpa using hl), e2]
  simp [frzE]
theorem loop_Pad {fr : Fr} {h : AHeap} {R : Option (AEx × Fr × AHeap)} (b : List Int) (hn : b.length < 100000000000) (bs0 : List (List AVal)) (ts : List Nat)
    (hF : run ctx (limP h) (.loop Ba_avouchref07zPad) fr (hx h (bs0 ++ [cI .u8 (padR b 0)]) ts) = R)
    (h3 : fr 3 = sA h.blks.length bs0.length 0 1 (b.length + 1) none) :
    ∃ fr' bs', R = some (.exit 0, fr', hx h (bs' ++ [cI .u8 (padR b (padZ b.length))]) ts) ∧ fr' 3 = sA h.blks.length bs'.length 0 1 (b.length + 1 + padZ b.length) none := by
  obtain ⟨e, fr', h', rfl, ⟨rfl, bs', rfl, h3'⟩, hk⟩ := loop_rule hF (padZ b.length)
    (fun k fr hh => ∃ bs', hh = hx h (bs' ++ [cI .u8 (padR b k)]) ts ∧ fr 3 = sA h.blks.length bs'.length 0 1 (b.length + 1 + k) none)
    (fun e fr hh => e = .exit 0 ∧ ∃ bs', hh = hx h (bs' ++ [cI .u8 (padR b (padZ b.length))]) ts ∧ fr 3 = sA h.blks.length bs'.length 0 1 (b.length + 1 + padZ b.length) none)
    ⟨bs0, rfl, h3⟩ (by
      rintro k fr1 hh hkN hkeep ⟨bs', rfl, g3⟩
      have hz : padZ b.length < 136 := Nat.mod_lt _ (by decide)
      have t1 : ((b.length + 1 + k : Nat) : Int).tmod 136 = (((b.length + 1 + k) % 136 : Nat) : Int) := tmodL _ 136
      by_cases hlt : k < padZ b.length
      · have hne : (b.length + 1 + k) % 136 ≠ 0 := by unfold padZ at hlt; omega
        have hq : ((((b.length + 1 + k) % 136 : Nat) : Int) == 0) = false := beq_false_of_ne (by omega)
        have ha := appK_sA (limP h) h (bs' ++ [cI .u8 (padR b k)]) ts bs'.length (b.length + 1 + k) .u8 (padR b k) [0] true (by simp) (by simp [limP, maxRoom]; omega)
        rw [padR_succ] at ha
        have e1 : (bs' ++ [cI .u8 (padR b k)]).set bs'.length [] = bs' ++ [[]] := by simp
        rw [e1] at ha
        generalize (b.length + 1 + k) % 136 = m at *
        have hass : b.length + 1 + (k + 1) = b.length + 1 + k + 1 := rfl
        generalize b.length + 1 + k = n at *
        simp [Ba_avouchref07zPad, g3, t1, bin_rem, bne, hq, fillA, rep, AVal.cells, AVal.okV, chunks, eI_one, ha, hlt, hass]
        exact ⟨bs' ++ [[]], by simp, by simp⟩
      · have : k = padZ b.length := by omega
        subst this
        have h0 : (b.length + 1 + padZ b.length) % 136 = 0 := by unfold padZ; omega
        rw [h0] at t1
        generalize hn1 : b.length + 1 + padZ b.length = n at *
        simp [Ba_avouchref07zPad, g3, t1, bin_rem, bne]
        exact ⟨bs', rfl, rfl⟩)
  exact ⟨fr', bs', rfl, h3'⟩
theorem ok_Pad (L : Lim) (h : AHeap) (c : Bool) (b : List Int) (hn : b.length < 100000000000) : acall ctx L i_avouchref07zPad [.vsl c (eI .u8 b)] h = some (.vsl false (eI .u8 (padL b)), h) := by
  rw [call_avouchref07zPad]
  have key : ∃ bs0, appK (limP h) (hx h [] []) 1 true (.vsl true []) (.vsl false (eI .u8 b)) = some (if b = [] then .vsl true [] else sA h.blks.length 0 0 1 b.length none, hx h (if b = [] then [] else [cI .u8 b]) []) ∧
      appK (limP h) (hx h (if b = [] then [] else [cI .u8 b]) []) 1 true (if b = [] then .vsl true [] else sA h.blks.length 0 0 1 b.length none) (.vsl true (eI .u8 [6])) = some (sA h.blks.length bs0.length 0 1 (b.length + 1) none, hx h (bs0 ++ [cI .u8 (padR b 0)]) []) := by
    by_cases hb : b = []
    · subst hb
      refine ⟨[], ?_, ?_⟩
      · simpa using appK_refE (limP h) h [] [] 1 (.vsl true []) false
      · have := appK_refV (limP h) h [] [] 1 true [] (eI .u8 [6]) (by simp [maxRoom]; rfl)
        simpa [padR, eI, cI] using this
    · have hpos : 0 < b.length := List.length_pos_iff.2 hb
      refine ⟨[[]], ?_, ?_⟩
      · rw [if_neg hb, if_neg hb]
        have := appK_refV (limP h) h [] [] 1 false [] (eI .u8 b) (by simp [maxRoom, hpos]; exact ⟨rfl, by omega⟩)
        simpa [eI_flat] using this
      · rw [if_neg hb, if_neg hb]
        have := appK_sA (limP h) h [cI .u8 b] [] 0 b.length .u8 b [6] true (by simp) (by simp [limP, maxRoom, hpos]; omega)
        simpa [padR] using this
  obtain ⟨bs0, k1, k2⟩ := key
  have hz : padZ b.length < 136 := Nat.mod_lt _ (by decide)
  simp [C_avouchref07zPad, rep, chunks, fillA, AVal.cells, AVal.okV, k1, k2, eI_one]
  generalize hF : run ctx _ (.loop _) _ _ = R
  obtain ⟨fr', bs', rfl, e1⟩ := loop_Pad b hn bs0 [] hF (by simp)
  have w1 : IntKind.i64.wrap (((b.length + 1 + padZ b.length : Nat) : Int) - 1) = ((b.length + padZ b.length : Nat) : Int) := (wrap_i64 (by omega) (by omega)).trans (by omega)
  have hlen := padR_len b (padZ b.length)
  have hpad : padL b = (padR b (padZ b.length)).set (b.length + padZ b.length) (IntKind.u8.wrap (gd (padR b (padZ b.length)) 0 (b.length + padZ b.length) + 128)) := rfl
  have hplen : (padL b).length = b.length + 1 + padZ b.length := by rw [hpad, List.length_set, hlen]
  have hi : b.length + padZ b.length < b.length + 1 + padZ b.length := by omega
  have hget : (cI .u8 (padR b (padZ b.length)))[b.length + padZ b.length]? = some (.int .u8 (gd (padR b (padZ b.length)) 0 (b.length + padZ b.length))) := cI_at (by rw [hlen]; omega)
  generalize b.length + 1 + padZ b.length = n at *
  generalize b.length + padZ b.length = m at *
  have hmn : m + 1 ≤ n := hi
  have hf := fun n' nt => frz_sA h (bs' ++ [cI .u8 (padL b)]) [] nt n' bs'.length n none .u8 (padL b) (by simp) (by omega)
  rw [List.take_of_length_le (by omega)] at hf
  simp [e1, w1, iadr_sA, hi, limP, hlen, hmn, ← hpad, hf]

/-! #### the digest -/
def xorT (s p : List Int) (at_ : Nat) (i : Nat) : Int := if i < 136 then xorB (gd s 0 i) (gd p 0 (at_ + i)) else gd s 0 i
def rsK (p : List Int) : Nat → List Int
  | 0 => tab 200 fun _ => 0
  | k + 1 => bytesL (permL (wordsL (tab 200 (xorT (rsK p k) p (136 * k)))))
@[simp] theorem wordsL_len (b : List Int) : (wordsL b).length = 25 := by simp [wordsL]
@[simp] theorem rsK_len (p : List Int) : ∀ k, (rsK p k).length = 200
  | 0 => by simp [rsK]
  | k + 1 => by simp [rsK, permL_len]
def inB (l : List Int) : Prop := ∀ i, i < l.length → 0 ≤ gd l 0 i ∧ gd l 0 i < 256
theorem inB_bytes (l : List W64) : inB (bytesL l) := fun i hi => by
  unfold bytesL at hi ⊢
  rw [gd_tab (by simpa using hi)]
  unfold byW; omega
theorem inB_rsK (p : List Int) : ∀ k, inB (rsK p k)
  | 0 => fun i hi => by simp only [rsK] at hi ⊢; rw [gd_tab (by simpa using hi)]; omega
  | k + 1 => by rw [rsK]; exact inB_bytes _
theorem loop_RS_in {fr : Fr} {h : AHeap} {R : Option (AEx × Fr × AHeap)} (s p : List Int) (hs : s.length = 200) (hsB : inB s) (hpB : inB p) (at_ : Nat) (hat : at_ + 136 ≤ p.length) (hp : p.length < 200000000000) (bs : List (List AVal)) (ts : List Nat) (i : Nat) (cap : Option Nat) (hb : bs[i]? = some (cI .u8 s))
    (hF : run ctx (limP h) (.loop Ba_avouchref07zSum) fr (hx h bs ts) = R)
    (h3 : fr 3 = .vsl false (eI .u8 p)) (h4 : fr 4 = sA h.blks.length i 0 1 200 cap) (h5 : fr 5 = .int .i64 at_) (h6 : fr 6 = .int .i64 0) :
    ∃ fr', R = some (.exit 2, fr', hx h (bs.set i (cI .u8 (tab 200 (xorT s p at_)))) ts) ∧ ∀ t, t ∉ wr Ba_avouchref07zSum → fr' t = fr t := by
  have hi := (List.getElem?_eq_some_iff.1 hb).1
  have hself : bs.set i (cI .u8 s) = bs := by
    refine List.ext_getElem? fun j => ?_
    by_cases e : i = j
    · subst e; rw [List.getElem?_set_self hi, hb]
    · rw [List.getElem?_set_ne e]
  obtain ⟨e, fr', h', rfl, ⟨rfl, rfl⟩, hk⟩ := loop_rule hF 136
    (fun k fr hh => fr 6 = .int .i64 k ∧ hh = hx h (bs.set i (cI .u8 (mixT 200 (xorT s p at_) (gd s 0) k))) ts)
    (fun e fr hh => e = .exit 2 ∧ hh = hx h (bs.set i (cI .u8 (tab 200 (xorT s p at_)))) ts)
    ⟨h6, by rw [mixT_zero, ← tab_gd' 0 hs, hself]⟩ (by
      rintro k fr1 hh hkN hkeep ⟨g6, rfl⟩
      have g3 := (hkeep 3 (by decide)).trans h3
      have g4 := (hkeep 4 (by decide)).trans h4
      have g5 := (hkeep 5 (by decide)).trans h5
      by_cases hlt : k < 136
      · have w0 : IntKind.i64.wrap ((k : Int) + 1) = k + 1 := wrap_i64 (by omega) (by omega)
        have w1 : IntKind.i64.wrap ((at_ : Int) + (k : Int)) = ((at_ + k : Nat) : Int) := (wrap_i64 (by omega) (by omega)).trans (by omega)
        have hset := mixT_set 200 (xorT s p at_) (gd s 0) k
        have hv : xorT s p at_ k = xorB (gd s 0 k) (gd p 0 (at_ + k)) := by unfold xorT; rw [if_pos hlt]
        rw [hv] at hset
        have hx1 := fun L h => ok_xor L h (gd s 0 k) (gd p 0 (at_ + k)) (hsB k (by omega)) (hpB (at_ + k) (by omega))
        have b0 : gd (mixT 200 (xorT s p at_) (gd s 0) k) 0 k = gd s 0 k := gd_mixT (by omega)
        have hML := mixT_len 200 (xorT s p at_) (gd s 0) k
        generalize hM1 : mixT 200 (xorT s p at_) (gd s 0) (k + 1) = M1 at *
        generalize mixT 200 (xorT s p at_) (gd s 0) k = M0 at *
        have hq : at_ + k < p.length := by omega
        generalize at_ + k = q at *
        simp [Ba_avouchref07zSum, limP, g3, g4, g5, g6, hlt, show (k : Int) < 136 by omega, w0, w1, iadr_sA, iadr_eI, show k < 200 by omega, show k ≤ 199 by omega, hq, hi, hML, b0, hx1, hset]
        try rw [hM1]
      · have : k = 136 := by omega
        subst this
        have e0 : mixT 200 (xorT s p at_) (gd s 0) 136 = tab 200 (xorT s p at_) := tab_congr fun j hj => by
          by_cases hj : j < 136
          · rw [if_pos hj]
          · rw [if_neg hj]; unfold xorT; rw [if_neg hj]
        simp [Ba_avouchref07zSum, g6, e0])
  exact ⟨fr', rfl, hk⟩
end Go.Av

namespace Go.Av
set_option maxHeartbeats 2000000
set_option maxRecDepth 20000
set_option linter.unusedSimpArgs false
set_option linter.unusedVariables false

theorem loop_RS {fr : Fr} {h : AHeap} {R : Option (AEx × Fr × AHeap)} (p : List Int) (hpB : inB p) (n : Nat) (hn : p.length = 136 * n) (hn0 : 0 < n) (hp : p.length < 200000000000)
    (hF : run ctx (limP h) (.loop Bb_avouchref07zSum) fr (hx h [cI .u8 (rsK p 0)] []) = R)
    (h3 : fr 3 = .vsl false (eI .u8 p)) (h4 : fr 4 = sA h.blks.length 0 0 1 200 (some 200)) (h5 : fr 5 = .int .i64 0) :
    ∃ fr' bs' , R = some (.exit 0, fr', hx h (bs' ++ [cI .u8 (rsK p n)]) []) ∧ fr' 4 = sA h.blks.length bs'.length 0 1 200 none := by
  obtain ⟨e, fr', h', rfl, ⟨rfl, bs', cap, rfl, hc, h4'⟩, hk⟩ := loop_rule hF n
    (fun k fr hh => fr 5 = .int .i64 ((136 * k : Nat) : Int) ∧ ∃ bs' cap, hh = hx h (bs' ++ [cI .u8 (rsK p k)]) [] ∧ (0 < k → cap = none) ∧ fr 4 = sA h.blks.length bs'.length 0 1 200 cap)
    (fun e fr hh => e = .exit 0 ∧ ∃ bs' cap, hh = hx h (bs' ++ [cI .u8 (rsK p n)]) [] ∧ (0 < n → cap = none) ∧ fr 4 = sA h.blks.length bs'.length 0 1 200 cap)
    ⟨h5, [], some 200, rfl, by simp, h4⟩ (by
      rintro k fr1 hh hkN hkeep ⟨g5, bs', cap, rfl, hc, g4⟩
      have g3 := (hkeep 3 (by decide)).trans h3
      by_cases hlt : k < n
      · have w0 : IntKind.i64.wrap (((136 * k : Nat) : Int) + 136) = ((136 * (k + 1) : Nat) : Int) := (wrap_i64 (by omega) (by omega)).trans (by omega)
        have hlt2 : ((136 * k : Nat) : Int) < (p.length : Int) := by omega
        have hst : rsK p (k + 1) = bytesL (permL (wordsL (tab 200 (xorT (rsK p k) p (136 * k))))) := rfl
        have hin := fun (fr : Fr) (R : Option (AEx × Fr × AHeap)) hF h3 h4 h5 h6 => loop_RS_in (fr := fr) (h := h) (R := R) (rsK p k) p (rsK_len p k) (inB_rsK p k) hpB (136 * k) (by omega) hp (bs' ++ [cI .u8 (rsK p k)]) [] bs'.length cap (by simp) hF h3 h4 h5 h6
        generalize hS1 : rsK p (k + 1) = S1 at *
        generalize rsK p k = S0 at *
        generalize hq : 136 * (k + 1) = q1 at *
        generalize 136 * k = q at *
        simp [Bb_avouchref07zSum, g3, g4, g5, hlt2]
        generalize hF : run ctx _ (.loop _) _ _ = R
        obtain ⟨fr2, rfl, q2⟩ := hin _ _ hF (by simp [g3]) (by simp [g4]) (by simp [g5]) (by simp)
        have ho := ok_OfBytes (limP h) h (bs' ++ [cI .u8 (tab 200 (xorT S0 p q))]) [] bs'.length cap (tab 200 (xorT S0 p q)) (by simp) (by simp)
        obtain ⟨bs2, hby⟩ := ok_RBytes (limP h) h (bs' ++ [cI .u8 (tab 200 (xorT S0 p q))]) [] (permL (wordsL (tab 200 (xorT S0 p q)))) (by simp [permL_len]) (by simp [limP])
        rw [← hst] at hby
        simp [q2, wr, Ba_avouchref07zSum, dsts, g4, g5, ho, ok_RPermute, hby, w0]
        exact ⟨hlt, by omega, bs2, by rw [hS1], rfl⟩
      · have : k = n := by omega
        subst this
        have hlt2 : ¬ ((136 * k : Nat) : Int) < (p.length : Int) := by omega
        generalize 136 * k = q at *
        simp [Bb_avouchref07zSum, g3, g5, hlt2]
        exact ⟨bs', rfl, cap, hc, g4⟩)
  rw [hc hn0] at h4'
  exact ⟨fr', bs', rfl, h4'⟩
def rsumL (b : List Int) : List Int := (rsK (padL b) ((padL b).length / 136)).take 32
theorem padL_len (b : List Int) : (padL b).length = b.length + 1 + padZ b.length := by unfold padL; rw [List.length_set, padR_len]
theorem gd_set {α : Type} (l : List α) (d v : α) (i j : Nat) (hi : i < l.length) : gd (l.set i v) d j = if i = j then v else gd l d j := by
  unfold gd
  by_cases h : i = j
  · subst h; simp [List.getD, hi]
  · simp [List.getD, List.getElem?_set, h]
theorem gd_app1 {α : Type} (l m : List α) (d : α) (j : Nat) (hj : j < l.length) : gd (l ++ m) d j = gd l d j := by
  unfold gd; simp [List.getD, List.getElem?_append_left hj]
theorem gd_app2 {α : Type} (l m : List α) (d : α) (j : Nat) (hj : l.length ≤ j) : gd (l ++ m) d j = gd m d (j - l.length) := by
  unfold gd; simp [List.getD, List.getElem?_append_right hj]
theorem gd_rep {α : Type} (n : Nat) (d v : α) (j : Nat) (hj : j < n) : gd (List.replicate n v) d j = v := by
  unfold gd; simp [List.getD, hj]
theorem padR_at (b : List Int) (k j : Nat) (hj : j < b.length + 1 + k) : gd (padR b k) 0 j = if j < b.length then gd b 0 j else if j = b.length then 6 else 0 := by
  unfold padR
  by_cases h1 : j < b.length
  · rw [if_pos h1, gd_app1 _ _ _ _ (by simp; omega), gd_app1 _ _ _ _ h1]
  · rw [if_neg h1]
    by_cases h2 : j = b.length
    · subst h2
      rw [if_pos rfl, gd_app1 _ _ _ _ (by simp), gd_app2 _ _ _ _ (Nat.le_refl _), Nat.sub_self]; rfl
    · rw [if_neg h2, gd_app2 _ _ _ _ (by simp; omega), gd_rep _ _ _ _ (by simp; omega)]
theorem padL_at (b : List Int) (j : Nat) (hj : j < b.length + 1 + padZ b.length) : gd (padL b) 0 j =
    if j < b.length then gd b 0 j else if j = b.length + padZ b.length then (if padZ b.length = 0 then 134 else 128) else if j = b.length then 6 else 0 := by
  unfold padL
  rw [gd_set _ _ _ _ _ (by rw [padR_len]; omega), padR_at _ _ _ hj, padR_at _ _ _ (by omega)]
  by_cases h1 : b.length + padZ b.length = j
  · subst h1
    by_cases h0 : padZ b.length = 0
    · simp [h0]; decide
    · simp [h0, show ¬ b.length + padZ b.length < b.length by omega]; decide
  · rw [if_neg h1]
    by_cases h2 : j < b.length
    · rw [if_pos h2, if_pos h2]
    · rw [if_neg h2, if_neg h2, if_neg (Ne.symm h1)]
theorem inB_pad (b : List Int) (hb : inB b) : inB (padL b) := fun j hj => by
  rw [padL_len] at hj
  rw [padL_at b j hj]
  by_cases h1 : j < b.length
  · rw [if_pos h1]; exact hb j h1
  · rw [if_neg h1]; split
    · split <;> omega
    · split <;> omega
theorem pad_mod (b : List Int) : (padL b).length = 136 * ((padL b).length / 136) ∧ 0 < (padL b).length / 136 := by
  rw [padL_len]; unfold padZ; omega
theorem ok_RSum (L : Lim) (h : AHeap) (c : Bool) (b : List Int) (hn : b.length < 100000000000) (hb : inB b) : acall ctx L i_avouchref07zSum [.vsl c (eI .u8 b)] h = some (.vsl false (eI .u8 (rsumL b)), h) := by
  rw [call_avouchref07zSum]
  obtain ⟨n1, n2⟩ := pad_mod b
  have hz : padZ b.length < 136 := Nat.mod_lt _ (by decide)
  have hpl := padL_len b
  have e0 : cI .u8 (tab 200 fun _ => 0) = cI .u8 (rsK (padL b) 0) := rfl
  simp [C_avouchref07zSum, ok_Pad, hn, mkK_int, maxRoom, rep_rep1, rep1_I, e0]
  generalize hF : run ctx _ (.loop _) _ _ = R
  obtain ⟨fr', bs', rfl, e1⟩ := loop_RS (padL b) (inB_pad b hb) ((padL b).length / 136) n1 n2 (by omega) hF (by simp) (by simp) (by simp)
  have hsl := slice_slH 1 h.blks.length bs'.length 200 32 none .i64 (by decide)
  simp only [Int.cast_ofNat_Int] at hsl
  have hf := fun n' nt => frz_sA h (bs' ++ [cI .u8 (rsK (padL b) ((padL b).length / 136))]) [] nt n' bs'.length 32 none .u8 (rsK (padL b) ((padL b).length / 136)) (by simp) (by simp)
  simp [e1, hsl, hf, rsumL]

/-! #### it is the program's -/
theorem byW_nat (w : W64) (k : Nat) : byW w k = ((w.toNat >>> (8 * k) % 2 ^ 8 : Nat) : Int) := by unfold byW; rw [BitVec.toNat_ushiftRight]
theorem bw_nat (v : Nat) (hv : v < 256) : (bw (v : Int)).toNat = v := by unfold bw; rw [BitVec.toNat_ofInt]; omega
theorem byW_put (w : W64) (v : Nat) (hv : v < 256) (m k : Nat) (hm : m < 8) (hk : k < 8) :
    byW (w ^^^ (bw (v : Int) <<< (8 * m))) k = if k = m then xorB (byW w k) v else byW w k := by
  rw [byW_nat, byW_nat, BitVec.toNat_xor, Nat.shiftRight_xor_distrib, Nat.xor_mod_two_pow]
  have hx : (bw (v : Int) <<< (8 * m)).toNat >>> (8 * k) % 2 ^ 8 = if k = m then v else 0 := by
    rw [BitVec.toNat_shiftLeft, bw_nat v hv, Nat.shiftLeft_eq, Nat.shiftRight_eq_div_pow]
    have hm' : m = 0 ∨ m = 1 ∨ m = 2 ∨ m = 3 ∨ m = 4 ∨ m = 5 ∨ m = 6 ∨ m = 7 := by omega
    have hk' : k = 0 ∨ k = 1 ∨ k = 2 ∨ k = 3 ∨ k = 4 ∨ k = 5 ∨ k = 6 ∨ k = 7 := by omega
    rcases hm' with rfl | rfl | rfl | rfl | rfl | rfl | rfl | rfl <;> rcases hk' with rfl | rfl | rfl | rfl | rfl | rfl | rfl | rfl <;> simp <;> omega
  rw [hx]
  by_cases h : k = m
  · rw [if_pos h, if_pos h]
    unfold xorB
    rw [Int.toNat_natCast, Int.toNat_natCast]
  · rw [if_neg h, if_neg h, Nat.xor_zero]
theorem xorB_range {a b : Int} (ha : 0 ≤ a ∧ a < 256) (hb : 0 ≤ b ∧ b < 256) : 0 ≤ xorB a b ∧ xorB a b < 256 := by
  unfold xorB
  have := Nat.xor_lt_two_pow (n := 8) (x := a.toNat) (y := b.toNat) (by omega) (by omega)
  omega
theorem bytes_put (s : List W64) (hs : s.length = 25) (i : Nat) (hi : i < 200) (v : Int) (hv : 0 ≤ v ∧ v < 256) : bytesL (putL s i v) = (bytesL s).set i (xorB (gd (bytesL s) 0 i) v) := by
  obtain ⟨n, rfl⟩ : ∃ k : Nat, v = k := ⟨v.toNat, by omega⟩
  unfold bytesL
  rw [tab_set, putL_len, hs]
  refine tab_congr fun j hj => ?_
  rw [gd_tab (by omega)]
  unfold putL
  rw [gd_set _ _ _ _ _ (by omega)]
  by_cases hq : i / 8 = j / 8
  · rw [if_pos hq, ← hq, byW_put _ n (by omega) (i % 8) (j % 8) (by omega) (by omega)]
    by_cases hij : j = i
    · subst hij; rw [if_pos rfl, if_pos rfl]
    · rw [if_neg hij, if_neg (by omega)]
  · rw [if_neg hq, if_neg (by intro h; subst h; exact hq rfl)]
theorem shr_big (w : W64) (a : Nat) (h : 64 ≤ a) : w >>> a = 0#64 := by
  apply BitVec.eq_of_toNat_eq
  rw [BitVec.toNat_ushiftRight, Nat.shiftRight_eq_div_pow, Nat.div_eq_of_lt]
  · rfl
  · exact Nat.lt_of_lt_of_le w.isLt (Nat.pow_le_pow_right (by decide) h)
theorem shr_step (w : W64) (m : Nat) : w >>> (8 * (m + 1)) * 256#64 + bw (byW w m) = w >>> (8 * m) := by
  have h1 : w >>> (8 * (m + 1)) = w >>> (8 * m) >>> 8 := by rw [← BitVec.shiftRight_add]; rfl
  have h2 : byW w m = (((w >>> (8 * m)).toNat % 256 : Nat) : Int) := rfl
  rw [h1, h2]
  generalize w >>> (8 * m) = u
  apply BitVec.eq_of_toNat_eq
  rw [BitVec.toNat_add, BitVec.toNat_mul, BitVec.toNat_ushiftRight, bw_nat _ (by omega), Nat.shiftRight_eq_div_pow]
  have := u.isLt
  show (u.toNat / 2 ^ 8 * 256 % 2 ^ 64 + u.toNat % 256) % 2 ^ 64 = u.toNat
  omega
theorem obK_bytes (s : List W64) (hs : s.length = 25) : ∀ k, k ≤ 200 → obK (bytesL s) 200 k = tab 25 fun q => gd s 0#64 q >>> (8 * ((200 - k) - 8 * q)) := by
  intro k
  induction k with
  | zero =>
    intro _
    exact tab_congr fun q hq => (shr_big _ _ (by omega)).symm
  | succ k ih =>
    intro hk
    obtain ⟨i, hi⟩ : ∃ i, i = 199 - k := ⟨_, rfl⟩
    rw [obK, show 200 - 1 - k = i by omega, ih (by omega), tab_set, gd_tab (by omega)]
    refine tab_congr fun q hq => ?_
    have hb : gd (bytesL s) 0 i = byW (gd s 0#64 (i / 8)) (i % 8) := by
      unfold bytesL; rw [gd_tab (by rw [hs]; omega)]
    by_cases h : q = i / 8
    · subst h
      rw [if_pos rfl, hb, show 200 - k - 8 * (i / 8) = i % 8 + 1 by omega, show 200 - (k + 1) - 8 * (i / 8) = i % 8 by omega]
      exact shr_step _ _
    · rw [if_neg h]
      by_cases h2 : 200 - (k + 1) ≤ 8 * q
      · rw [show 200 - k - 8 * q = 0 by omega, show 200 - (k + 1) - 8 * q = 0 by omega]
      · rw [shr_big _ _ (by omega), shr_big _ _ (by omega)]
theorem words_bytes (s : List W64) (hs : s.length = 25) : wordsL (bytesL s) = s := by
  unfold wordsL
  rw [obK_bytes s hs 200 (Nat.le_refl _)]
  conv => rhs; rw [tab_gd' 0#64 hs]
  exact tab_congr fun q hq => by rw [show 200 - 200 - 8 * q = 0 by omega]; simp
/-- A block, byte by byte. -/
def putN (s : List W64) (p : List Int) (a : Nat) : Nat → List W64
  | 0 => s
  | k + 1 => putL (putN s p a k) k (gd p 0 (a + k))
theorem putN_len (s : List W64) (p : List Int) (a : Nat) : ∀ k, (putN s p a k).length = s.length
  | 0 => rfl
  | k + 1 => by rw [putN, putL_len, putN_len s p a k]
theorem bytes_putN (s : List W64) (hs : s.length = 25) (p : List Int) (hp : inB p) (a : Nat) (ha : a + 136 ≤ p.length) : ∀ k, k ≤ 136 → bytesL (putN s p a k) = mixT 200 (xorT (bytesL s) p a) (gd (bytesL s) 0) k := by
  intro k
  induction k with
  | zero => intro _; rw [mixT_zero, putN]; exact tab_gd' 0 (by simp [hs])
  | succ k ih =>
    intro hk
    rw [putN, bytes_put _ (by rw [putN_len, hs]) k (by omega) _ (hp _ (by omega)), ih (by omega), gd_mixT (by omega), ← mixT_set]
    congr 1
    unfold xorT
    rw [if_pos (by omega)]
theorem words_block (s : List W64) (hs : s.length = 25) (p : List Int) (hp : inB p) (a : Nat) (ha : a + 136 ≤ p.length) : wordsL (tab 200 (xorT (bytesL s) p a)) = putN s p a 136 := by
  have h := bytes_putN s hs p hp a ha 136 (Nat.le_refl _)
  have e0 : mixT 200 (xorT (bytesL s) p a) (gd (bytesL s) 0) 136 = tab 200 (xorT (bytesL s) p a) := tab_congr fun j hj => by
    by_cases hj : j < 136
    · rw [if_pos hj]
    · rw [if_neg hj]; unfold xorT; rw [if_neg hj]
  rw [← e0, ← h, words_bytes _ (by rw [putN_len, hs])]
/-- The states behind the blocks. -/
theorem bytes_zero : bytesL (tab 25 fun _ => 0#64) = tab 200 fun _ => 0 := by
  unfold bytesL
  rw [tab_len]
  refine tab_congr fun j hj => ?_
  rw [gd_tab (by omega)]; unfold byW; simp
def stateK (p : List Int) : Nat → List W64
  | 0 => tab 25 fun _ => 0#64
  | k + 1 => permL (putN (stateK p k) p (136 * k) 136)
theorem stateK_len (p : List Int) : ∀ k, (stateK p k).length = 25
  | 0 => by simp [stateK]
  | k + 1 => by rw [stateK]; exact permL_len _ (by rw [putN_len, stateK_len p k])
theorem rsK_state (p : List Int) (hp : inB p) : ∀ k, 136 * k ≤ p.length → rsK p k = bytesL (stateK p k)
  | 0, _ => by rw [rsK, stateK, bytes_zero]
  | k + 1, h => by rw [rsK, stateK, rsK_state p hp k (by omega), words_block _ (stateK_len p k) p hp _ (by omega)]
theorem takeAll_one (q : List W64 × Nat) (v : Int) : takeAll q [v] = stepH q v := by simp only [takeAll, List.foldl_cons, List.foldl_nil]
theorem stepH_full (s : List W64) (v : Int) : stepH (s, 135) v = (permL (putL s 135 v), 0) := by unfold stepH; rw [if_pos (show (s, 135).2 + 1 = 136 from rfl)]
theorem stepH_less (s : List W64) (a : Nat) (v : Int) (h : a + 1 < 136) : stepH (s, a) v = (putL s a v, a + 1) := by unfold stepH; rw [if_neg (by simp only []; omega)]
theorem take_block (s : List W64) (p : List Int) (a : Nat) (ha : a + 136 ≤ p.length) : ∀ k, k < 136 → takeAll (s, 0) ((p.drop a).take k) = (putN s p a k, k) := by
  intro k
  induction k with
  | zero => intro _; rfl
  | succ k ih =>
    intro hk
    have hlen : k < (p.drop a).length := by simp; omega
    have hg : gd (p.drop a) 0 k = gd p 0 (a + k) := by unfold gd; simp [List.getD, List.getElem?_drop]
    rw [take_snoc 0 hlen, takeAll_append, ih (by omega), hg]
    rw [takeAll_one, stepH_less _ _ _ (by omega), putN]
theorem take_block_all (s : List W64) (p : List Int) (a : Nat) (ha : a + 136 ≤ p.length) : takeAll (s, 0) ((p.drop a).take 136) = (permL (putN s p a 136), 0) := by
  have hlen : 135 < (p.drop a).length := by simp; omega
  have hg : gd (p.drop a) 0 135 = gd p 0 (a + 135) := by unfold gd; simp [List.getD, List.getElem?_drop]
  have e : (p.drop a).take (135 + 1) = (p.drop a).take 135 ++ [gd p 0 (a + 135)] := by rw [take_snoc 0 hlen, hg]
  have e2 : putN s p a (135 + 1) = putL (putN s p a 135) 135 (gd p 0 (a + 135)) := by rw [putN]
  have h := takeAll_append (s, 0) ((p.drop a).take 135) [gd p 0 (a + 135)]
  rw [← e, take_block s p a ha 135 (by decide), takeAll_one, stepH_full, ← e2] at h
  exact h
theorem takeAll_blocks (p : List Int) : ∀ k, 136 * k ≤ p.length → takeAll (tab 25 fun _ => 0#64, 0) (p.take (136 * k)) = (stateK p k, 0) := by
  intro k
  induction k with
  | zero => intro _; rfl
  | succ k ih =>
    intro h
    have e : p.take (136 * (k + 1)) = p.take (136 * k) ++ (p.drop (136 * k)).take 136 := by
      rw [← List.take_add, show 136 * k + 136 = 136 * (k + 1) by omega]
    rw [e, takeAll_append, ih (by omega), take_block_all _ _ _ (by omega)]
    rfl
theorem putL_zero (s : List W64) (i : Nat) (hi : i / 8 < s.length) : putL s i 0 = s := by
  unfold putL
  have : bw 0 <<< (8 * (i % 8)) = 0#64 := by rw [show bw 0 = 0#64 from by decide]; simp
  rw [this, BitVec.xor_zero]
  refine List.ext_getElem? fun j => ?_
  by_cases h : i / 8 = j
  · subst h; rw [List.getElem?_set_self hi, gd_get? (d := 0#64) hi]
  · rw [List.getElem?_set_ne h]
theorem take_zeros (s : List W64) (hs : s.length = 25) (a : Nat) : ∀ z, a + z < 136 → takeAll (s, a) (List.replicate z 0) = (s, a + z) := by
  intro z
  induction z with
  | zero => intro _; rfl
  | succ z ih =>
    intro h
    rw [List.replicate_succ', takeAll_append, ih (by omega)]
    rw [takeAll_one, stepH_less _ _ _ (by omega), putL_zero s (a + z) (by omega), Nat.add_assoc]
theorem putL_two (s : List W64) (hs : s.length = 25) : putL (putL s 135 6) 135 128 = putL s 135 134 := by
  unfold putL
  rw [gd_set _ _ _ _ _ (by omega), if_pos rfl, List.set_set, BitVec.xor_assoc]
  congr 2
theorem takeAll_at (b : List Int) : (takeAll (tab 25 fun _ => 0#64, 0) b).2 = b.length % 136 := by
  have key : ∀ (l : List Int) (q : List W64 × Nat), q.2 < 136 → (takeAll q l).2 = (q.2 + l.length) % 136 := by
    intro l
    induction l with
    | nil => intro q hq; simp [takeAll]; omega
    | cons v l ih =>
      intro q hq
      show (takeAll (stepH q v) l).2 = _
      unfold stepH
      split
      · rw [ih _ (by simp)]; simp only [List.length_cons]; omega
      · rw [ih _ (by simp only []; omega)]; simp only [List.length_cons]; omega
  rw [key b _ (by simp)]; simp
theorem pad_split (b : List Int) : padL b = b ++ (if padZ b.length = 0 then [134] else [6] ++ List.replicate (padZ b.length - 1) 0 ++ [128]) := by
  have hl : (padL b).length = (b ++ (if padZ b.length = 0 then [134] else [6] ++ List.replicate (padZ b.length - 1) 0 ++ [128] : List Int)).length := by
    rw [padL_len]; split <;> simp <;> omega
  rw [← tab_gd (padL b) 0, ← tab_gd (b ++ _) 0, ← hl]
  refine tab_congr fun j hj => ?_
  rw [padL_len] at hj
  rw [padL_at b j hj]
  by_cases h1 : j < b.length
  · rw [if_pos h1, gd_app1 _ _ _ _ h1]
  · rw [if_neg h1, gd_app2 _ _ _ _ (by omega)]
    by_cases h0 : padZ b.length = 0
    · rw [if_pos h0, if_pos (by omega), if_pos h0, show j - b.length = 0 by omega]; rfl
    · simp only [if_neg h0]
      by_cases h2 : j = b.length + padZ b.length
      · rw [if_pos h2, gd_app2 _ _ _ _ (by simp; omega)]
        simp only [List.length_append, List.length_cons, List.length_nil, List.length_replicate]
        rw [show j - b.length - (0 + 1 + (padZ b.length - 1)) = 0 by omega]; rfl
      · rw [if_neg h2, gd_app1 _ _ _ _ (by simp; omega)]
        by_cases h3 : j = b.length
        · rw [if_pos h3, gd_app1 _ _ _ _ (by simp; omega), show j - b.length = 0 by omega]; rfl
        · rw [if_neg h3, gd_app2 _ _ _ _ (by simp; omega), gd_rep _ _ _ _ (by simp; omega)]
theorem rsum_sum (b : List Int) (hb : inB b) : rsumL b = sumL b := by
  obtain ⟨n1, n2⟩ := pad_mod b
  unfold rsumL sumL endL
  rw [rsK_state _ (inB_pad b hb) _ (by omega)]
  have h1 := takeAll_blocks (padL b) ((padL b).length / 136) (by omega)
  rw [← n1, List.take_length] at h1
  have hst : stateK (padL b) ((padL b).length / 136) = (takeAll (tab 25 fun _ => 0#64, 0) (padL b)).1 := by rw [h1]
  rw [hst]
  congr 2
  have hat := takeAll_at b
  obtain ⟨c1, c2⟩ := takeAll_ok b (q := (tab 25 fun _ => 0#64, 0)) (by simp) (by simp)
  rw [pad_split, takeAll_append]
  generalize takeAll (tab 25 fun _ => 0#64, 0) b = q at *
  obtain ⟨s, a⟩ := q
  simp only at hat c1 c2 ⊢
  have hz : padZ b.length = 135 - a := by unfold padZ; omega
  by_cases h0 : padZ b.length = 0
  · have ha : a = 135 := by omega
    subst ha
    rw [if_pos h0]
    rw [takeAll_one, stepH_full, putL_two s c1]
  · rw [if_neg h0, takeAll_append, takeAll_append]
    have e1 : takeAll (s, a) [6] = (putL s a 6, a + 1) := by rw [takeAll_one, stepH_less _ _ _ (by omega)]
    rw [e1, take_zeros _ (by simp [c1]) _ _ (by omega), show a + 1 + (padZ b.length - 1) = 135 by omega]
    rw [takeAll_one, stepH_full]
end Go.Av
