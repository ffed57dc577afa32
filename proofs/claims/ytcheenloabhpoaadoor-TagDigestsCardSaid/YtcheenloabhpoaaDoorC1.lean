/- The permutation and the digest of the program give what plain functions of lists give. -/
import Derived.Test.YtcheenloabhpoaaDoorC0
namespace Go.Av
set_option maxHeartbeats 1000000
set_option maxRecDepth 20000
set_option linter.unusedSimpArgs false
set_option linter.unusedVariables false
theorem tmodL (k m : Nat) : (k : Int).tmod (m : Int) = ((k % m : Nat) : Int) := by rw [Int.tmod_eq_emod_of_nonneg (by omega)]; omega
theorem tdivL (k m : Nat) : (k : Int).tdiv (m : Int) = ((k / m : Nat) : Int) := by rw [Int.tdiv_eq_ediv_of_nonneg (by omega)]; omega
theorem tdiv2 (k : Nat) : (k : Int).tdiv 2 = ((k / 2 : Nat) : Int) := tdivL k 2
theorem wrapN (n : Nat) (h : n < 9223372036854775808) : IntKind.i64.wrap (n : Int) = n := wrap_i64 (by omega) (by omega)
/-- Bytes. -/
def inB (l : List Int) : Prop := ∀ i, i < l.length → 0 ≤ gd l 0 i ∧ gd l 0 i < 256
theorem gd_set {α : Type} (l : List α) (d v : α) (i j : Nat) (hi : i < l.length) : gd (l.set i v) d j = if i = j then v else gd l d j := by
  unfold gd
  simp only [List.getD, List.getElem?_set]
  split <;> simp_all
theorem gd_app1 {α : Type} (l m : List α) (d : α) (j : Nat) (hj : j < l.length) : gd (l ++ m) d j = gd l d j := by
  unfold gd; simp only [List.getD, List.getElem?_append_left hj]
theorem gd_app2 {α : Type} (l m : List α) (d : α) (j : Nat) (hj : l.length ≤ j) : gd (l ++ m) d j = gd m d (j - l.length) := by
  unfold gd; simp only [List.getD, List.getElem?_append_right hj]
theorem bw_nat (v : Nat) (hv : v < 256) : (bw (v : Int)).toNat = v := by unfold bw; rw [BitVec.toNat_ofInt]; omega
/-- The number of bytes, the lowest first. -/
def leN : List Int → Nat
  | [] => 0
  | x :: l => x.toNat + 256 * leN l
theorem inB_at {l : List Int} (h : inB l) : ∀ x ∈ l, 0 ≤ x ∧ x < 256 := fun x hx => by
  obtain ⟨i, hi, rfl⟩ := List.getElem_of_mem hx
  have := h i hi
  rwa [gd, List.getD, List.getElem?_eq_getElem hi] at this
theorem inB_of {l : List Int} (h : ∀ x ∈ l, 0 ≤ x ∧ x < 256) : inB l := fun i hi => by
  rw [gd, List.getD, List.getElem?_eq_getElem hi]; exact h _ (List.getElem_mem hi)
theorem leN_lt : ∀ {l : List Int}, inB l → leN l < 256 ^ l.length
  | [], _ => by simp [leN]
  | x :: l, h => by
    have h1 := inB_at h x (by simp)
    have h2 := leN_lt (inB_of (l := l) fun y hy => inB_at h y (by simp [hy]))
    simp only [leN, List.length_cons, Nat.pow_succ]
    omega
theorem leN_snoc : ∀ (l : List Int) (x : Int), leN (l ++ [x]) = leN l + x.toNat * 256 ^ l.length
  | [], x => by simp [leN]
  | y :: l, x => by
    simp only [List.cons_append, leN, leN_snoc l x, List.length_cons, Nat.pow_succ, Nat.mul_add, Nat.add_assoc, Nat.mul_comm, Nat.mul_left_comm]
theorem inB_take {l : List Int} (h : inB l) (n : Nat) : inB (l.take n) := inB_of fun x hx => inB_at h x (List.mem_of_mem_take hx)
theorem inB_drop {l : List Int} (h : inB l) (n : Nat) : inB (l.drop n) := inB_of fun x hx => inB_at h x (List.mem_of_mem_drop hx)
/-- The bytes of a word, as far as the first k are taken. -/
def bck (b : List Int) (q k : Nat) : List Int := (b.take (min k (8 * q + 8))).drop (8 * q)
theorem bck_len (b : List Int) (q k : Nat) (hk : k ≤ b.length) : (bck b q k).length = min k (8 * q + 8) - 8 * q := by simp [bck]; omega
/-- The words, as the program makes them, of the first k bytes. -/
def wdP (b : List Int) (n : Nat) : Nat → List W64
  | 0 => tab n fun _ => 0#64
  | k + 1 => (wdP b n k).set (k / 8) (gd (wdP b n k) 0#64 (k / 8) ||| (bw (gd b 0 k) <<< (8 * (k % 8))))
@[simp] theorem wdP_len (b : List Int) (n : Nat) : ∀ k, (wdP b n k).length = n
  | 0 => by simp [wdP]
  | k + 1 => by simp [wdP, wdP_len b n k]
theorem or_add (w : W64) (v m : Nat) (hv : v < 256) (hm : m < 8) (hw : w.toNat < 256 ^ m) : (w ||| (bw (v : Int) <<< (8 * m))).toNat = w.toNat + v * 256 ^ m := by
  have e : 256 ^ m = 2 ^ (8 * m) := by rw [show (256 : Nat) = 2 ^ 8 from rfl, ← Nat.pow_mul]
  rw [e] at hw ⊢
  have h8 : (2 : Nat) ^ (8 * m) * 256 ≤ 2 ^ 64 := by
    rw [show (256 : Nat) = 2 ^ 8 from rfl, ← Nat.pow_add]; exact Nat.pow_le_pow_right (by decide) (by omega)
  have hlt : v <<< (8 * m) < 2 ^ 64 := by
    rw [Nat.shiftLeft_eq]
    calc v * 2 ^ (8 * m) < 256 * 2 ^ (8 * m) := Nat.mul_lt_mul_of_pos_right hv (Nat.two_pow_pos _)
      _ ≤ 2 ^ 64 := by rw [Nat.mul_comm]; exact h8
  rw [BitVec.toNat_or, BitVec.toNat_shiftLeft, bw_nat v hv, Nat.mod_eq_of_lt hlt, Nat.or_comm, ← Nat.shiftLeft_add_eq_or_of_lt hw, Nat.shiftLeft_eq, Nat.add_comm]
theorem wdP_at (b : List Int) (hb : inB b) (n : Nat) : ∀ k, k ≤ b.length → k ≤ 8 * n → ∀ q, q < n → (gd (wdP b n k) 0#64 q).toNat = leN (bck b q k)
  | 0, _, _, q, hq => by rw [wdP, gd_tab hq]; simp [bck, leN]
  | k + 1, hk, hn, q, hq => by
    have ih := wdP_at b hb n k (by omega) (by omega) q hq
    have hlen := bck_len b q k (by omega)
    have hlt := leN_lt (inB_drop (inB_take hb (min k (8 * q + 8))) (8 * q))
    have hbk := hb k (by omega)
    rw [wdP]
    rw [gd_set _ _ _ _ _ (by simp; omega)]
    by_cases h : k / 8 = q
    · rw [if_pos h, h]
      obtain ⟨v, hv⟩ : ∃ v : Nat, gd b 0 k = (v : Int) := ⟨(gd b 0 k).toNat, by omega⟩
      have hm : (bck b q k).length = k % 8 := by rw [hlen]; omega
      have hsn : bck b q (k + 1) = bck b q k ++ [gd b 0 k] := by
        unfold bck
        rw [show min (k + 1) (8 * q + 8) = k + 1 by omega, show min k (8 * q + 8) = k by omega, take_snoc 0 (by omega), List.drop_append_of_le_length (by simp; omega)]
      rw [hsn, leN_snoc, hm, ← ih, hv, or_add _ v _ (by omega) (by omega) ?_]
      · simp
      · rw [ih, ← hm]; exact hlt
    · rw [if_neg h, ih]
      congr 1
      unfold bck
      by_cases h2 : k < 8 * q
      · rw [List.drop_eq_nil_of_le (by simp; omega), List.drop_eq_nil_of_le (by simp; omega)]
      · rw [show min (k + 1) (8 * q + 8) = min k (8 * q + 8) by omega]
end Go.Av

namespace Go.Av
set_option maxHeartbeats 1000000
set_option maxRecDepth 20000
set_option linter.unusedSimpArgs false
set_option linter.unusedVariables false

/-- A lane turned to the left. -/
def rotl (x : W64) (n : Nat) : W64 := (x <<< (n % 64)) ||| (x >>> (64 - n % 64))
theorem ok_Rot (L : Lim) (h : AHeap) (x : W64) (n : Nat) (hn : n < 9223372036854775808) : acall ctx L i_math_bits_RotateLeft64 [wd x, .int .i64 n] h = some (wd (rotl x n), h) := by
  rw [call_math_bits_RotateLeft64]
  have e1 : IntKind.u64.wrap (n : Int) = n := wrapU n (by omega)
  have e2 : binA .and (.int .u64 (n : Int)) (.int .u64 63) = some (.int .u64 ((n % 64 : Nat) : Int)) := by
    rw [bin_and]
    show some (AVal.int .u64 (IntKind.u64.wrap ((BitVec.ofInt 64 (n : Int) &&& BitVec.ofInt 64 (63 : Int) : BitVec 64).toNat : Int))) = _
    have : (BitVec.ofInt 64 (n : Int) &&& BitVec.ofInt 64 (63 : Int) : BitVec 64).toNat = n % 64 := by
      rw [BitVec.toNat_and]
      have h1 : (BitVec.ofInt 64 (n : Int)).toNat = n := by rw [BitVec.toNat_ofInt]; omega
      have h2 : (BitVec.ofInt 64 (63 : Int)).toNat = 2 ^ 6 - 1 := by decide
      rw [h1, h2, Nat.and_two_pow_sub_one_eq_mod]
    rw [this, wrapU _ (by omega)]
  have e3 : binA .sub (.int .u64 64) (.int .u64 ((n % 64 : Nat) : Int)) = some (.int .u64 ((64 - n % 64 : Nat) : Int)) := by
    rw [bin_sub]
    have : (64 : Int) - ((n % 64 : Nat) : Int) = ((64 - n % 64 : Nat) : Int) := by omega
    rw [this, wrapU _ (by omega)]
  generalize hm : n % 64 = m at e2 e3
  have hm64 : m ≤ 64 := by omega
  generalize hk : 64 - m = k at e3
  have hk64 : k ≤ 64 := by omega
  simp [C_math_bits_RotateLeft64, e1, e2, e3, wd_shl, wd_shr, hm64, hk64, -bin_and, -bin_sub, -bin_shl, -bin_shr]
  simp [rotl, hm, hk]

/-- The parity of a column. -/
def colP (l : List W64) (x : Nat) : W64 := gd l 0#64 x ^^^ gd l 0#64 (x + 5) ^^^ gd l 0#64 (x + 10) ^^^ gd l 0#64 (x + 15) ^^^ gd l 0#64 (x + 20)
/-- The same of the first lanes alone. -/
def colK (l : List W64) (k x : Nat) : W64 := (List.range k).foldl (fun c i => if i % 5 = x then c ^^^ gd l 0#64 i else c) 0
theorem colK_succ (l : List W64) (k x : Nat) : colK l (k + 1) x = if k % 5 = x then colK l k x ^^^ gd l 0#64 k else colK l k x := by
  simp [colK, List.range_succ]
theorem colK_all (l : List W64) (x : Nat) (hx : x < 5) : colK l 25 x = colP l x := by
  unfold colK colP
  have : x = 0 ∨ x = 1 ∨ x = 2 ∨ x = 3 ∨ x = 4 := by omega
  rcases this with rfl | rfl | rfl | rfl | rfl <;> simp [show List.range 25 = [0, 1, 2, 3, 4, 5, 6, 7, 8, 9, 10, 11, 12, 13, 14, 15, 16, 17, 18, 19, 20, 21, 22, 23, 24] from by decide]
def thetaW (l : List W64) (i : Nat) : W64 := gd l 0#64 i ^^^ (colP l ((i % 5 + 4) % 5) ^^^ rotl (colP l ((i % 5 + 1) % 5)) 1)
def thetaL (l : List W64) : List W64 := tab 25 (thetaW l)

theorem tmod5 (k : Nat) : (k : Int).tmod 5 = ((k % 5 : Nat) : Int) := by rw [Int.tmod_eq_emod_of_nonneg (by omega)]; omega

theorem loop_theta1 {fr : Fr} {h : AHeap} {R : Option (AEx × Fr × AHeap)} (s : List W64) (hs : s.length = 25) (b z : List AVal)
    (hF : run ctx (limP h) (.loop Ba_keccak_State_theta) fr (hx h [b, z, cW (tab 5 fun _ => 0#64)] []) = R)
    (h8 : fr 8 = .agg (cW s)) (h9 : fr 9 = .int .i64 0) (h3 : fr 3 = pA h.blks.length 2 0) :
    ∃ fr', R = some (.exit 0, fr', hx h [b, z, cW (tab 5 (colP s))] []) ∧ ∀ t, t ∉ wr Ba_keccak_State_theta → fr' t = fr t := by
  obtain ⟨e, fr', h', rfl, ⟨rfl, rfl⟩, hk⟩ := loop_rule hF 25
    (fun k fr hh => fr 9 = .int .i64 k ∧ hh = hx h [b, z, cW (tab 5 (colK s k))] [])
    (fun e fr hh => e = .exit 0 ∧ hh = hx h [b, z, cW (tab 5 (colP s))] [])
    ⟨h9, rfl⟩ (by
      rintro k fr1 hh hkN hkeep ⟨g9, rfl⟩
      have g8 := (hkeep 8 (by decide)).trans h8
      have g3 := (hkeep 3 (by decide)).trans h3
      by_cases hlt : k < 25
      · have w2 : IntKind.i64.wrap ((k : Int) + 1) = k + 1 := wrap_i64 (by omega) (by omega)
        have e5 := tmod5 k
        have hset : (tab 5 (colK s k)).set (k % 5) (colK s k (k % 5) ^^^ gd s 0#64 k) = tab 5 (colK s (k + 1)) := by
          rw [tab_set]
          refine tab_congr fun j hj => ?_
          rw [colK_succ]
          by_cases hj : j = k % 5
          · subst hj; simp
          · simp [hj, Ne.symm hj]
        generalize hm : k % 5 = m at e5 hset
        have hm5 : m < 5 := by omega
        simp [Ba_keccak_State_theta, limP, g9, g8, g3, hlt, show (k : Int) < 25 by omega, w2, idx_agg, cW_get, hs, bin_rem, e5, iadr_pA, hm5, show m ≤ 4 by omega, gd_tab, hset]
      · have : k = 25 := by omega
        subst this
        simp [Ba_keccak_State_theta, g9, g8, g3]
        exact congrArg (fun c => hx h [b, z, c] []) (congrArg cW (tab_congr fun j hj => colK_all s j hj)))
  exact ⟨fr', rfl, hk⟩
theorem loop_theta2 {fr : Fr} {h : AHeap} {R : Option (AEx × Fr × AHeap)} (s : List W64) (hs : s.length = 25) (z : List AVal)
    (hF : run ctx (limP h) (.loop Bb_keccak_State_theta) fr (hx h [cW s, z, cW (tab 5 (colP s))] []) = R)
    (h1 : fr 1 = pA h.blks.length 0 0) (h3 : fr 3 = pA h.blks.length 2 0) (h21 : fr 21 = .int .i64 0) :
    ∃ fr', R = some (.exit 2, fr', hx h [cW (thetaL s), z, cW (tab 5 (colP s))] []) ∧ ∀ t, t ∉ wr Bb_keccak_State_theta → fr' t = fr t := by
  obtain ⟨e, fr', h', rfl, ⟨rfl, rfl⟩, hk⟩ := loop_rule hF 25
    (fun k fr hh => fr 21 = .int .i64 k ∧ hh = hx h [cW (tab 25 fun j => if j < k then thetaW s j else gd s 0#64 j), z, cW (tab 5 (colP s))] [])
    (fun e fr hh => e = .exit 2 ∧ hh = hx h [cW (thetaL s), z, cW (tab 5 (colP s))] [])
    ⟨h21, by simp [← tab_gd' 0#64 hs]⟩ (by
      rintro k fr1 hh hkN hkeep ⟨g21, rfl⟩
      have g1 := (hkeep 1 (by decide)).trans h1
      have g3 := (hkeep 3 (by decide)).trans h3
      by_cases hlt : k < 25
      · have w2 : IntKind.i64.wrap ((k : Int) + 1) = k + 1 := wrap_i64 (by omega) (by omega)
        have e5 := tmod5 k
        have hset : (tab 25 fun j => if j < k then thetaW s j else gd s 0#64 j).set k (thetaW s k) = tab 25 fun j => if j < k + 1 then thetaW s j else gd s 0#64 j := by
          rw [tab_set]
          refine tab_congr fun j hj => ?_
          by_cases h1 : j = k
          · subst h1; simp
          · by_cases h2 : j < k
            · simp [h1, h2, show j < k + 1 by omega]
            · simp [h1, h2, show ¬ j < k + 1 by omega]
        have hth : thetaW s k = gd s 0#64 k ^^^ (colP s ((k % 5 + 4) % 5) ^^^ rotl (colP s ((k % 5 + 1) % 5)) 1) := rfl
        have hold : (fun j => if j < k then thetaW s j else gd s 0#64 j) k = gd s 0#64 k := by simp
        have w4 : IntKind.i64.wrap (((k % 5 : Nat) : Int) + 4) = ((k % 5 + 4 : Nat) : Int) := (wrap_i64 (by omega) (by omega)).trans (by omega)
        have w1 : IntKind.i64.wrap (((k % 5 : Nat) : Int) + 1) = ((k % 5 + 1 : Nat) : Int) := (wrap_i64 (by omega) (by omega)).trans (by omega)
        have t4 := tmod5 (k % 5 + 4)
        have t1 := tmod5 (k % 5 + 1)
        generalize hga : (k % 5 + 4) % 5 = a at t4 hth
        generalize hgb : (k % 5 + 1) % 5 = b at t1 hth
        generalize hm : k % 5 = m at e5 w4 w1 t4 t1
        rw [hth] at hset
        have ha5 : a < 5 := by omega
        have hb5 : b < 5 := by omega
        simp only [Int.natCast_add, Int.cast_ofNat_Int] at w4 w1 t4 t1
        have hrot := fun L h x => ok_Rot L h x 1 (by decide)
        simp only [Int.natCast_one] at hrot
        simp [Bb_keccak_State_theta, limP, g21, g1, g3, hlt, show (k : Int) < 25 by omega, w2, bin_rem, e5, w4, w1, t4, t1, iadr_pA, ha5, hb5, gd_tab, hset, hrot, show k ≤ 24 by omega]
      · have : k = 25 := by omega
        subst this
        simp [Bb_keccak_State_theta, g21]
        exact congrArg (fun c => hx h [c, z, cW (tab 5 (colP s))] []) (congrArg cW (tab_congr fun j hj => by simp [hj])))
  exact ⟨fr', rfl, hk⟩
theorem ok_theta (L : Lim) (h : AHeap) (s : List W64) (hs : s.length = 25) : acall ctx L i_keccak_State_theta [.agg (cW s)] h = some (.agg (cW (thetaL s)), h) := by
  rw [call_keccak_State_theta]
  simp [C_keccak_State_theta, limP, rep1_W, copA_box, AVal.okV, AVal.cells, partAB, hs]
  generalize hF : run ctx _ (.loop _) _ _ = R
  obtain ⟨fr1, rfl, hk1⟩ := loop_theta1 s hs _ _ hF (by simp) (by simp) (by simp)
  simp [hk1, wr, Ba_keccak_State_theta, dsts]
  generalize hF : run ctx _ (.loop _) _ _ = R
  obtain ⟨fr2, rfl, hk2⟩ := loop_theta2 s hs _ hF (by simp [hk1, wr, Ba_keccak_State_theta, dsts]) (by simp [hk1, wr, Ba_keccak_State_theta, dsts]) (by simp)
  simp [hk1, hk2, wr, Ba_keccak_State_theta, Bb_keccak_State_theta, dsts, partAB, thetaL, stKB, setAtB]
end Go.Av

namespace Go.Av
set_option maxHeartbeats 1000000
set_option maxRecDepth 20000
set_option linter.unusedSimpArgs false
set_option linter.unusedVariables false


/-! #### rho and pi -/
def pxy : Nat → Nat × Nat
  | 0 => (1, 0)
  | t + 1 => ((pxy t).2, (2 * (pxy t).1 + 3 * (pxy t).2) % 5)
theorem pxy_lt : ∀ t, (pxy t).1 < 5 ∧ (pxy t).2 < 5
  | 0 => by simp [pxy]
  | t + 1 => by
    have := pxy_lt t
    simp only [pxy]
    omega
def rhoPiK (l : List W64) : Nat → List W64
  | 0 => tab 25 fun j => if j = 0 then gd l 0#64 0 else 0#64
  | t + 1 => (rhoPiK l t).set ((pxy t).2 + 5 * ((2 * (pxy t).1 + 3 * (pxy t).2) % 5)) (rotl (gd l 0#64 ((pxy t).1 + 5 * (pxy t).2)) ((t + 1) * (t + 2) / 2))
@[simp] theorem rhoPiK_len (l : List W64) : ∀ t, (rhoPiK l t).length = 25
  | 0 => by simp [rhoPiK]
  | t + 1 => by simp [rhoPiK, rhoPiK_len l t]
def rhoPiL (l : List W64) : List W64 := rhoPiK l 24
theorem loop_rhoPi {fr : Fr} {h : AHeap} {R : Option (AEx × Fr × AHeap)} (s : List W64) (hs : s.length = 25) (z : List AVal)
    (hF : run ctx (limP h) (.loop Ba_keccak_State_rhoPi) fr (hx h [z, cW (rhoPiK s 0)] []) = R)
    (h1 : fr 1 = .vptr (cW s) 0) (h3 : fr 3 = pA h.blks.length 1 0) (h4 : fr 4 = .int .i64 1) (h5 : fr 5 = .int .i64 0) (h11 : fr 11 = .int .i64 0) :
    ∃ fr', R = some (.exit 0, fr', hx h [z, cW (rhoPiL s)] []) ∧ ∀ t, t ∉ wr Ba_keccak_State_rhoPi → fr' t = fr t := by
  obtain ⟨e, fr', h', rfl, ⟨rfl, rfl⟩, hk⟩ := loop_rule hF 24
    (fun k fr hh => fr 11 = .int .i64 k ∧ fr 4 = .int .i64 ((pxy k).1 : Nat) ∧ fr 5 = .int .i64 ((pxy k).2 : Nat) ∧ hh = hx h [z, cW (rhoPiK s k)] [])
    (fun e fr hh => e = .exit 0 ∧ hh = hx h [z, cW (rhoPiL s)] [])
    ⟨h11, h4, h5, rfl⟩ (by
      rintro k fr1 hh hkN hkeep ⟨g11, g4, g5, rfl⟩
      have g1 := (hkeep 1 (by decide)).trans h1
      have g3 := (hkeep 3 (by decide)).trans h3
      by_cases hlt : k < 24
      · obtain ⟨hx5, hy5⟩ := pxy_lt k
        have hst : rhoPiK s (k + 1) = (rhoPiK s k).set ((pxy k).2 + 5 * ((2 * (pxy k).1 + 3 * (pxy k).2) % 5)) (rotl (gd s 0#64 ((pxy k).1 + 5 * (pxy k).2)) ((k + 1) * (k + 2) / 2)) := rfl
        have hp : pxy (k + 1) = ((pxy k).2, (2 * (pxy k).1 + 3 * (pxy k).2) % 5) := rfl
        generalize (pxy k).1 = x at *
        generalize (pxy k).2 = y at *
        have w1 : IntKind.i64.wrap ((k : Int) + 1) = k + 1 := wrap_i64 (by omega) (by omega)
        have w2 : IntKind.i64.wrap ((k : Int) + 2) = k + 2 := wrap_i64 (by omega) (by omega)
        have hmul : (k + 1) * (k + 2) ≤ 600 := Nat.le_trans (Nat.mul_le_mul (show k + 1 ≤ 24 by omega) (show k + 2 ≤ 25 by omega)) (by decide)
        have w3 : IntKind.i64.wrap (((k : Int) + 1) * (k + 2)) = (((k + 1) * (k + 2) : Nat) : Int) := by
          rw [← wrapN ((k + 1) * (k + 2)) (by omega)]; simp only [Int.natCast_mul, Int.natCast_add, Int.cast_ofNat_Int]
        have w4 := tdiv2 ((k + 1) * (k + 2))
        have w5 := wrapN ((k + 1) * (k + 2) / 2) (by omega)
        have w6 : IntKind.i64.wrap (2 * (x : Int)) = ((2 * x : Nat) : Int) := by
          rw [← wrapN (2 * x) (by omega)]; simp only [Int.natCast_mul, Int.natCast_add, Int.cast_ofNat_Int]
        have w7 : IntKind.i64.wrap (3 * (y : Int)) = ((3 * y : Nat) : Int) := by
          rw [← wrapN (3 * y) (by omega)]; simp only [Int.natCast_mul, Int.natCast_add, Int.cast_ofNat_Int]
        have w8 : IntKind.i64.wrap (((2 * x : Nat) : Int) + ((3 * y : Nat) : Int)) = ((2 * x + 3 * y : Nat) : Int) := by
          rw [← wrapN (2 * x + 3 * y) (by omega)]; simp only [Int.natCast_mul, Int.natCast_add, Int.cast_ofNat_Int]
        have w9 := tmod5 (2 * x + 3 * y)
        generalize hn : (2 * x + 3 * y) % 5 = n at *
        have hn5 : n < 5 := by omega
        have w10 : IntKind.i64.wrap (5 * (n : Int)) = ((5 * n : Nat) : Int) := by
          rw [← wrapN (5 * n) (by omega)]; simp only [Int.natCast_mul, Int.natCast_add, Int.cast_ofNat_Int]
        have w11 : IntKind.i64.wrap ((y : Int) + ((5 * n : Nat) : Int)) = ((y + 5 * n : Nat) : Int) := by
          rw [← wrapN (y + 5 * n) (by omega)]; simp only [Int.natCast_mul, Int.natCast_add, Int.cast_ofNat_Int]
        have w12 : IntKind.i64.wrap (5 * (y : Int)) = ((5 * y : Nat) : Int) := by
          rw [← wrapN (5 * y) (by omega)]; simp only [Int.natCast_mul, Int.natCast_add, Int.cast_ofNat_Int]
        have w13 : IntKind.i64.wrap ((x : Int) + ((5 * y : Nat) : Int)) = ((x + 5 * y : Nat) : Int) := by
          rw [← wrapN (x + 5 * y) (by omega)]; simp only [Int.natCast_mul, Int.natCast_add, Int.cast_ofNat_Int]
        have hd25 : y + 5 * n < 25 := by omega
        have hd24 : y + 5 * n ≤ 24 := by omega
        have hs25 : x + 5 * y < 25 := by omega
        generalize hd : y + 5 * n = d at *
        generalize hsr : x + 5 * y = sr at *
        generalize hr : (k + 1) * (k + 2) / 2 = r at *
        generalize (k + 1) * (k + 2) = kk at *
        generalize 2 * x + 3 * y = xy at *
        generalize 5 * n = n5 at *
        generalize 5 * y = y5 at *
        generalize 2 * x = x2 at *
        generalize 3 * y = y3 at *
        have hrot := fun L h v => ok_Rot L h v r (by omega)
        simp [Ba_keccak_State_rhoPi, limP, g11, g1, g3, g4, g5, hlt, show (k : Int) < 24 by omega, w1, w2, w3, w4, w5, w6, w7, w8, w9, w10, w11, w12, w13, bin_rem, bin_quo, iadr_pA, iadr_vp, hd25, hd24, hs25, hs, hrot, ← hst, hp]
      · have : k = 24 := by omega
        subst this
        simp [Ba_keccak_State_rhoPi, g11, rhoPiL])
  exact ⟨fr', rfl, hk⟩
theorem ok_rhoPi (L : Lim) (h : AHeap) (s : List W64) (hs : s.length = 25) : acall ctx L i_keccak_State_rhoPi [.agg (cW s)] h = some (.agg (cW (rhoPiL s)), h) := by
  rw [call_keccak_State_rhoPi]
  have e0 : cW ((tab 25 fun _ => 0#64).set 0 (gd s 0#64 0)) = cW (rhoPiK s 0) := by
    rw [tab_set]; exact congrArg cW (tab_congr fun j _ => rfl)
  simp [C_keccak_State_rhoPi, limP, rep1_W, partAB, hs, fillA, stKB, setAtB, e0]
  generalize hF : run ctx _ (.loop _) _ _ = R
  obtain ⟨fr1, rfl, hk1⟩ := loop_rhoPi s hs _ hF (by simp) (by simp) (by simp) (by simp) (by simp)
  simp [hk1, wr, Ba_keccak_State_rhoPi, dsts, partAB, rhoPiL, stKB, setAtB]

/-! #### chi -/
def chiW (l : List W64) (i : Nat) : W64 := gd l 0#64 i ^^^ (gd l 0#64 (i - i % 5 + (i + 2) % 5) &&& ~~~ gd l 0#64 (i - i % 5 + (i + 1) % 5))
def chiL (l : List W64) : List W64 := tab 25 (chiW l)
theorem loop_chi {fr : Fr} {h : AHeap} {R : Option (AEx × Fr × AHeap)} (s : List W64) (hs : s.length = 25) (z : List AVal)
    (hF : run ctx (limP h) (.loop Ba_keccak_State_chi) fr (hx h [z, cW s] []) = R)
    (h1 : fr 1 = .vptr (cW s) 0) (h3 : fr 3 = pA h.blks.length 1 0) (h7 : fr 7 = .int .i64 0) :
    ∃ fr', R = some (.exit 0, fr', hx h [z, cW (chiL s)] []) ∧ ∀ t, t ∉ wr Ba_keccak_State_chi → fr' t = fr t := by
  obtain ⟨e, fr', h', rfl, ⟨rfl, rfl⟩, hk⟩ := loop_rule hF 25
    (fun k fr hh => fr 7 = .int .i64 k ∧ hh = hx h [z, cW (mixT 25 (chiW s) (gd s 0#64) k)] [])
    (fun e fr hh => e = .exit 0 ∧ hh = hx h [z, cW (chiL s)] [])
    ⟨h7, by simp [mixT_zero, ← tab_gd' 0#64 hs]⟩ (by
      rintro k fr1 hh hkN hkeep ⟨g7, rfl⟩
      have g1 := (hkeep 1 (by decide)).trans h1
      have g3 := (hkeep 3 (by decide)).trans h3
      by_cases hlt : k < 25
      · have hset : (mixT 25 (chiW s) (gd s 0#64) k).set k (chiW s k) = mixT 25 (chiW s) (gd s 0#64) (k + 1) := mixT_set ..
        have hk1 : chiW s k = gd s 0#64 k ^^^ (gd s 0#64 (k - k % 5 + (k + 2) % 5) &&& ~~~ gd s 0#64 (k - k % 5 + (k + 1) % 5)) := rfl
        rw [hk1] at hset
        clear hk1
        have w0 := tmod5 k
        have w1 : IntKind.i64.wrap ((k : Int) - ((k % 5 : Nat) : Int)) = ((k - k % 5 : Nat) : Int) := by
          rw [← wrapN (k - k % 5) (by omega)]; congr 1; omega
        have w2 : IntKind.i64.wrap ((k : Int) + 1) = ((k + 1 : Nat) : Int) := wrap_i64 (by omega) (by omega)
        have w3 : IntKind.i64.wrap ((k : Int) + 2) = ((k + 2 : Nat) : Int) := wrap_i64 (by omega) (by omega)
        have w4 := tmod5 (k + 1)
        have w5 := tmod5 (k + 2)
        have w6 : IntKind.i64.wrap (((k - k % 5 : Nat) : Int) + (((k + 1) % 5 : Nat) : Int)) = ((k - k % 5 + (k + 1) % 5 : Nat) : Int) := by
          rw [← wrapN (k - k % 5 + (k + 1) % 5) (by omega), Int.natCast_add]
        have w7 : IntKind.i64.wrap (((k - k % 5 : Nat) : Int) + (((k + 2) % 5 : Nat) : Int)) = ((k - k % 5 + (k + 2) % 5 : Nat) : Int) := by
          rw [← wrapN (k - k % 5 + (k + 2) % 5) (by omega), Int.natCast_add]
        have ha : k - k % 5 + (k + 1) % 5 < 25 := by omega
        have hb : k - k % 5 + (k + 2) % 5 < 25 := by omega
        generalize k - k % 5 + (k + 1) % 5 = a at *
        generalize k - k % 5 + (k + 2) % 5 = b at *
        generalize (k + 1) % 5 = c at *
        generalize (k + 2) % 5 = d at *
        generalize k - k % 5 = q at *
        generalize k % 5 = r at *
        have w8 : ((k + 1 : Nat) : Int) = (k : Int) + 1 := rfl
        generalize hk1 : k + 1 = k1 at *
        generalize k + 2 = k2 at *
        simp [Ba_keccak_State_chi, limP, g7, g1, g3, hlt, show (k : Int) < 25 by omega, show k ≤ 24 by omega, w0, w1, w2, w3, w4, w5, w6, w7, bin_rem, iadr_pA, iadr_vp, ha, hb, gd_mixT, hs, hset, hk1, show k1 ≤ 25 by omega]
        try omega
      · have : k = 25 := by omega
        subst this
        simp [Ba_keccak_State_chi, g7, mixT_all, chiL])
  exact ⟨fr', rfl, hk⟩
theorem ok_chi (L : Lim) (h : AHeap) (s : List W64) (hs : s.length = 25) : acall ctx L i_keccak_State_chi [.agg (cW s)] h = some (.agg (cW (chiL s)), h) := by
  rw [call_keccak_State_chi]
  simp [C_keccak_State_chi, limP, rep1_W, partAB, hs, stKB, setAtB]
  generalize hF : run ctx _ (.loop _) _ _ = R
  obtain ⟨fr1, rfl, hk1⟩ := loop_chi s hs _ hF (by simp) (by simp) (by simp)
  simp [hk1, wr, Ba_keccak_State_chi, dsts, partAB, chiL, stKB, setAtB]

/-! #### the constants -/
def rcW : List W64 := [1#64, 32898#64, 9223372036854808714#64, 9223372039002292224#64, 32907#64, 2147483649#64, 9223372039002292353#64, 9223372036854808585#64, 138#64, 136#64, 2147516425#64, 2147483658#64, 2147516555#64, 9223372036854775947#64, 9223372036854808713#64, 9223372036854808579#64, 9223372036854808578#64, 9223372036854775936#64, 32778#64, 9223372039002259466#64, 9223372039002292353#64, 9223372036854808704#64, 2147483649#64, 9223372039002292232#64]
theorem glob_rc (fr : Fr) : ctx.ev fr (.g 0) = .vptr (cW rcW) 0 := rfl
theorem ok_Constant (L : Lim) (h : AHeap) (k : Nat) (hk : k < 24) : acall ctx L i_keccak_Constant [.int .i64 k] h = some (wd (gd rcW 0#64 k), h) := by
  rw [call_keccak_Constant]
  have hl : rcW.length = 24 := rfl
  simp [C_keccak_Constant, show ¬ (24 : Int) ≤ k by omega, show ¬ (k : Int) < 0 by omega, glob_rc, iadr_vp, hk, hl]
def roundL (l : List W64) (k : Nat) : List W64 := (chiL (rhoPiL (thetaL l))).set 0 (gd (chiL (rhoPiL (thetaL l))) 0#64 0 ^^^ gd rcW 0#64 k)
@[simp] theorem thetaL_len (l : List W64) : (thetaL l).length = 25 := by simp [thetaL]
@[simp] theorem rhoPiL_len (l : List W64) : (rhoPiL l).length = 25 := by simp [rhoPiL]
@[simp] theorem chiL_len (l : List W64) : (chiL l).length = 25 := by simp [chiL]
@[simp] theorem roundL_len (l : List W64) (k : Nat) : (roundL l k).length = 25 := by simp [roundL]
theorem ok_Round (L : Lim) (h : AHeap) (s : List W64) (hs : s.length = 25) (k : Nat) (hk : k < 24) : acall ctx L i_keccak_State_Round [.agg (cW s), .int .i64 k] h = some (.agg (cW (roundL s k)), h) := by
  rw [call_keccak_State_Round]
  simp [C_keccak_State_Round, limP, rep1_W, copA_box, AVal.okV, AVal.cells, partAB, hs, stKB, setAtB, ok_theta, ok_rhoPi, ok_chi, ok_Constant, hk, roundL]
def permK (l : List W64) (k : Nat) : List W64 := (List.range k).foldl roundL l
theorem permK_succ (l : List W64) (k : Nat) : permK l (k + 1) = roundL (permK l k) k := by simp [permK, List.range_succ]
theorem permK_len (l : List W64) (hl : l.length = 25) : ∀ k, (permK l k).length = 25
  | 0 => by simpa [permK] using hl
  | k + 1 => by rw [permK_succ]; simp
def permL (l : List W64) : List W64 := permK l 24
theorem loop_Permute {fr : Fr} {h : AHeap} {R : Option (AEx × Fr × AHeap)} (s : List W64) (hs : s.length = 25) (z : List AVal)
    (hF : run ctx (limP h) (.loop Ba_keccak_State_Permute) fr (hx h [cW s, z] []) = R)
    (h1 : fr 1 = pA h.blks.length 0 0) (h4 : fr 4 = .int .i64 0) :
    ∃ fr', R = some (.exit 0, fr', hx h [cW (permL s), z] []) ∧ ∀ t, t ∉ wr Ba_keccak_State_Permute → fr' t = fr t := by
  obtain ⟨e, fr', h', rfl, ⟨rfl, rfl⟩, hk⟩ := loop_rule hF 24
    (fun k fr hh => fr 4 = .int .i64 k ∧ hh = hx h [cW (permK s k), z] [])
    (fun e fr hh => e = .exit 0 ∧ hh = hx h [cW (permL s), z] [])
    ⟨h4, rfl⟩ (by
      rintro k fr1 hh hkN hkeep ⟨g4, rfl⟩
      have g1 := (hkeep 1 (by decide)).trans h1
      by_cases hlt : k < 24
      · have w1 : IntKind.i64.wrap ((k : Int) + 1) = k + 1 := wrap_i64 (by omega) (by omega)
        have hl := permK_len s hs k
        simp [Ba_keccak_State_Permute, limP, g4, g1, hlt, show (k : Int) < 24 by omega, w1, partAB, hl, stKB, setAtB, ok_Round, permK_succ]
      · have : k = 24 := by omega
        subst this
        simp [Ba_keccak_State_Permute, g4, permL])
  exact ⟨fr', rfl, hk⟩
theorem permL_len (l : List W64) (hl : l.length = 25) : (permL l).length = 25 := permK_len l hl 24
theorem ok_Permute (L : Lim) (h : AHeap) (s : List W64) (hs : s.length = 25) : acall ctx L i_keccak_State_Permute [.agg (cW s)] h = some (.agg (cW (permL s)), h) := by
  rw [call_keccak_State_Permute]
  simp [C_keccak_State_Permute, limP, rep1_W, copA_box, AVal.okV, AVal.cells, partAB, hs]
  generalize hF : run ctx _ (.loop _) _ _ = R
  obtain ⟨fr1, rfl, hk1⟩ := loop_Permute s hs _ hF (by simp) (by simp)
  simp [hk1, wr, Ba_keccak_State_Permute, dsts, partAB, permL_len, hs, stKB, setAtB]
end Go.Av

namespace Go.Av
set_option maxHeartbeats 1000000
set_option maxRecDepth 20000
set_option linter.unusedSimpArgs false
set_option linter.unusedVariables false

/-! #### bytes of words -/
def byW (w : W64) (k : Nat) : Int := ((w >>> (8 * k)).toNat % 256 : Nat)
def bytesL (l : List W64) : List Int := tab (8 * l.length) fun j => byW (gd l 0#64 (j / 8)) (j % 8)
theorem wrap_u8_wd (w : W64) : IntKind.u8.wrap (w.toNat : Int) = ((w.toNat % 256 : Nat) : Int) := by
  unfold IntKind.wrap
  simp [IntKind.signed, IntKind.bits]
@[simp] theorem i2i_u8_wd (w : W64) : i2iK .u8 (wd w) = some (.int .u8 ((w.toNat % 256 : Nat) : Int)) := by
  unfold wd; rw [i2iK_int, wrap_u8_wd]
theorem loop_limbB_in {fr : Fr} {h : AHeap} {R : Option (AEx × Fr × AHeap)} (l : List W64) (bs : List (List AVal)) (i : Nat) (hi : i < l.length) (hl : l.length < 1000000) (f : Nat → Int) (hf : f = fun j => byW (gd l 0#64 (j / 8)) (j % 8))
    (hF : run ctx (limP h) (.loop Ba_limb_Bytes) fr (hx h bs (gT (eI .u8 (tab (8 * i) f)))) = R)
    (h3 : fr 3 = gL .nsl h.toks.length 0 (eI .u8 (tab (8 * i) f))) (h5 : fr 5 = wd (gd l 0#64 i)) (h12 : fr 12 = .int .i64 0) :
    ∃ fr', R = some (.exit 2, fr', hx h bs (gT (eI .u8 (tab (8 * (i + 1)) f)))) ∧ fr' 3 = gL .nsl h.toks.length 0 (eI .u8 (tab (8 * (i + 1)) f)) ∧ ∀ t, t ∉ wr Ba_limb_Bytes → fr' t = fr t := by
  obtain ⟨e, fr', h', rfl, ⟨rfl, rfl, h3'⟩, hk⟩ := loop_rule hF 8
    (fun k fr hh => fr 12 = .int .i64 k ∧ fr 5 = wd (gd l 0#64 i >>> (8 * k)) ∧ fr 3 = gL .nsl h.toks.length 0 (eI .u8 (tab (8 * i + k) f)) ∧ hh = hx h bs (gT (eI .u8 (tab (8 * i + k) f))))
    (fun e fr hh => e = .exit 2 ∧ hh = hx h bs (gT (eI .u8 (tab (8 * (i + 1)) f))) ∧ fr 3 = gL .nsl h.toks.length 0 (eI .u8 (tab (8 * (i + 1)) f)))
    ⟨h12, by simpa using h5, h3, rfl⟩ (by
      rintro k fr1 hh hkN hkeep ⟨g12, g5, g3, rfl⟩
      by_cases hlt : k < 8
      · have w1 : IntKind.i64.wrap ((k : Int) + 1) = k + 1 := wrap_i64 (by omega) (by omega)
        have hfk : ((((gd l 0#64 i >>> (8 * k)).toNat % 256 : Nat) : Int)) = f (8 * i + k) := by
          rw [hf]; simp only [byW]
          rw [show (8 * i + k) / 8 = i by omega, show (8 * i + k) % 8 = k by omega]
        have hsh : gd l 0#64 i >>> (8 * k) >>> 8 = gd l 0#64 i >>> (8 * (k + 1)) := by
          rw [← BitVec.shiftRight_add]; rfl
        have hroom : 8 * i + k + 1 < 274877906944 := by omega
        generalize hw : gd l 0#64 i >>> (8 * k) = w at *
        have hs8 : binA .shr (wd w) (.int .u64 8) = some (wd (w >>> 8)) := wd_shr w .u64 8 (by decide)
        generalize hm : 8 * i + k = m at *
        simp [Ba_limb_Bytes, g12, g5, g3, hlt, show (k : Int) < 8 by omega, w1, limP, fillA, rep, AVal.cells, AVal.okV, chunks, hfk, eI_one, appK_nV, maxRoom, hroom, hs8, hsh, -bin_shr]
        simp [← Nat.add_assoc, hm]
      · have : k = 8 := by omega
        subst this
        simp [Ba_limb_Bytes, g12, g3, Nat.mul_add])
  exact ⟨fr', rfl, h3', hk⟩
theorem loop_limbB {fr : Fr} {h : AHeap} {R : Option (AEx × Fr × AHeap)} (l : List W64) (x : AVal) (bs : List (List AVal)) (hl : l.length < 1000000) (f : Nat → Int) (hf : f = fun j => byW (gd l 0#64 (j / 8)) (j % 8)) (hx6 : RdW h x l)
    (hF : run ctx (limP h) (.loop Bb_limb_Bytes) fr (hx h bs []) = R)
    (h3 : fr 3 = .nsl) (h6 : fr 6 = x) (h7 : fr 7 = .int .i64 l.length) (h8 : fr 8 = .int .i64 0) :
    ∃ fr', R = some (.exit 0, fr', hx h bs (gT (eI .u8 (bytesL l)))) ∧ fr' 3 = gL .nsl h.toks.length 0 (eI .u8 (bytesL l)) := by
  obtain ⟨r1, p, r2, r3⟩ := hx6
  obtain ⟨e, fr', h', rfl, ⟨rfl, rfl, h3'⟩, hk⟩ := loop_rule hF l.length
    (fun k fr hh => fr 8 = .int .i64 k ∧ fr 3 = gL .nsl h.toks.length 0 (eI .u8 (tab (8 * k) f)) ∧ hh = hx h bs (gT (eI .u8 (tab (8 * k) f))))
    (fun e fr hh => e = .exit 0 ∧ hh = hx h bs (gT (eI .u8 (bytesL l))) ∧ fr 3 = gL .nsl h.toks.length 0 (eI .u8 (bytesL l)))
    ⟨h8, by simpa [tab, gL] using h3, by simp [tab, gT]⟩ (by
      rintro k fr1 hh hkN hkeep ⟨g8, g3, rfl⟩
      have g6 := (hkeep 6 (by decide)).trans h6
      have g7 := (hkeep 7 (by decide)).trans h7
      by_cases hlt : k < l.length
      · have w1 : IntKind.i64.wrap ((k : Int) + 1) = k + 1 := wrap_i64 (by omega) (by omega)
        simp [Bb_limb_Bytes, g8, g6, g7, hlt, r2 k hlt, r3 k _ _ hlt]
        generalize hF : run ctx _ (.loop _) _ _ = R
        obtain ⟨fr2, rfl, q1, q2⟩ := loop_limbB_in l bs k hlt hl f hf hF (by simp [g3]) (by simp) (by simp)
        simp [q1, q2, wr, Ba_limb_Bytes, dsts, g8, w1]
        exact hlt
      · have : k = l.length := by omega
        subst this
        simp [Bb_limb_Bytes, g8, g7, g3, bytesL, hf])
  exact ⟨fr', rfl, h3'⟩
theorem ok_limbB (L : Lim) (h : AHeap) (l : List W64) (x : AVal) (hl : l.length < 1000000) (hx6 : RdW h x l) : acall ctx L i_limb_Bytes [x] h = some (.vsl false (eI .u8 (bytesL l)), h) := by
  rw [call_limb_Bytes]
  simp [C_limb_Bytes, hx6.1]
  generalize hF : run ctx _ (.loop _) _ _ = R
  obtain ⟨fr1, rfl, q1⟩ := loop_limbB l x _ hl _ rfl hx6 hF (by simp) (by simp) (by simp) (by simp)
  simp [q1, frz_gL]
@[simp] theorem bytesL_len (l : List W64) : (bytesL l).length = 8 * l.length := by simp [bytesL]
theorem flat_eI (k : IntKind) (l : List Int) : (eI k l).flatten = cI k l := eI_flat k l
theorem ok_stBytes (L : Lim) (h : AHeap) (s : List W64) (hs : s.length = 25) : acall ctx L i_keccak_State_Bytes [.agg (cW s)] h = some (.agg (cI .u8 (bytesL s)), h) := by
  rw [call_keccak_State_Bytes]
  have hb := fun L bs => ok_limbB L (hx h (cW s :: bs) []) s (sA h.blks.length 0 0 1 25 (some 25)) (by omega) (RdW.sA [] 0 25 _ s hs (by simp))
  have e1 : (bytesL s).take 200 = bytesL s := List.take_of_length_le (by simp [hs])
  simp [C_keccak_State_Bytes, limP, rep1_I, copA_box, AVal.okV, AVal.cells, hs, slice_arr, hb, s2a_eI, partAB, e1, stKB, setAtB]

/-! #### what is being made -/
def hashC (s : List W64) (n : Int) : List AVal := cW s ++ [.int .i64 n]
@[simp] theorem hashC_len (s : List W64) (n : Int) : (hashC s n).length = s.length + 1 := by simp [hashC]
theorem hashC_get {s : List W64} {n : Int} {i : Nat} (h : decide (i < s.length) = true) : (hashC s n)[i]? = some (wd (gd s 0#64 i)) := by
  have h' : i < s.length := by simpa using h
  unfold hashC; rw [List.getElem?_append_left (by simpa using h')]; exact cW_at h'
theorem hashC_at {s : List W64} {n : Int} (h : s.length = 25) : (hashC s n)[25]? = some (.int .i64 n) := by
  unfold hashC; rw [List.getElem?_append_right (by simp [h])]; simp [h]
theorem hashC_atE {s : List W64} {n : Int} (h0 : 25 < (hashC s n).length) (h : s.length = 25) : (hashC s n)[25] = .int .i64 n := by
  have := hashC_at (n := n) h
  rw [List.getElem?_eq_getElem h0] at this
  exact Option.some.inj this
theorem hashC_getE {s : List W64} {n : Int} {i : Nat} (h0 : i < (hashC s n).length) (h : decide (i < s.length) = true) : (hashC s n)[i] = wd (gd s 0#64 i) := by
  have := hashC_get (n := n) h
  rw [List.getElem?_eq_getElem h0] at this
  exact Option.some.inj this
theorem hashC_set {s : List W64} {n : Int} {i : Nat} (x : W64) (h : decide (i < s.length) = true) : (hashC s n).set i (wd x) = hashC (s.set i x) n := by
  have h' : i < s.length := by simpa using h
  unfold hashC; rw [List.set_append_left _ _ (by simpa using h')]; simp
theorem hashC_setn {s : List W64} {n : Int} (m : Int) (h : s.length = 25) : (hashC s n).set 25 (.int .i64 m) = hashC s m := by
  unfold hashC; rw [List.set_append_right _ _ (by simp [h])]; simp [h]
theorem hashC_part {s : List W64} {n : Int} (h : s.length = 25) : partA true (hashC s n) 0 25 = some (.agg (cW s)) := by
  unfold partA hashC; simp [h]
theorem hashC_all {s : List W64} {n : Int} (h : s.length = 25) : partA true (hashC s n) 0 26 = some (.agg (hashC s n)) := partA_all (by simp [h])
theorem hashC_sets {s t : List W64} {n : Int} (h : s.length = 25) (ht : t.length = 25) : setAt (hashC s n) 0 (cW t) = hashC t n := by
  have e : ∀ (cs old rest : List AVal), old.length = cs.length → ∀ pre : List AVal, setAt (pre ++ (old ++ rest)) pre.length cs = pre ++ (cs ++ rest) := by
    intro cs
    induction cs with
    | nil => intro old rest h pre; cases old with | nil => simp [setAt] | cons a l => simp at h
    | cons c cs ih =>
      intro old rest h pre
      cases old with
      | nil => simp at h
      | cons a l =>
        simp only [setAt]
        rw [List.set_append_right _ _ (Nat.le_refl _), Nat.sub_self]
        have := ih l rest (by simpa using h) (pre ++ [c])
        simpa using this
  have := e (cW t) (cW s) [.int .i64 n] (by simp [h, ht]) []
  simpa [hashC] using this
/-- A byte into the state. -/
def putL (s : List W64) (at_ : Nat) (v : Int) : List W64 := s.set (at_ / 8) (gd s 0#64 (at_ / 8) ^^^ (bw v <<< (8 * (at_ % 8))))
@[simp] theorem putL_len (s : List W64) (n : Nat) (v : Int) : (putL s n v).length = s.length := by simp [putL]
theorem ok_put (L : Lim) (h : AHeap) (bs : List (List AVal)) (ts : List Nat) (i : Nat) (s : List W64) (n : Int) (at_ : Nat) (v : Int) (hs : s.length = 25) (ha : at_ < 200) (hb : bs[i]? = some (hashC s n)) (hL : L.rob ≤ h.blks.length) :
    acall ctx L i_digest_Hash_put [pA h.blks.length i 0, .int .i64 (at_ : Int), .int .u8 v] (hx h bs ts) = some (.tup [], hx h (bs.set i (hashC (putL s at_ v) n)) ts) := by
  rw [call_digest_Hash_put]
  have w0 := tdivL at_ 8
  have w1 := tmodL at_ 8
  have w2 : IntKind.i64.wrap ((at_ / 8 : Nat) : Int) = ((at_ / 8 : Nat) : Int) := wrapN _ (by omega)
  have w3 : IntKind.i64.wrap (8 * ((at_ % 8 : Nat) : Int)) = ((8 * (at_ % 8) : Nat) : Int) := by
    rw [← wrapN (8 * (at_ % 8)) (by omega)]; simp only [Int.natCast_mul, Int.natCast_add, Int.cast_ofNat_Int]
  have ha25 : at_ / 8 < 25 := by omega
  have hb64 : 8 * (at_ % 8) ≤ 64 := by omega
  have hset : s.set (at_ / 8) (gd s 0#64 (at_ / 8) ^^^ (bw v <<< (8 * (at_ % 8)))) = putL s at_ v := rfl
  simp only [Int.cast_ofNat_Int] at w0 w1
  have hi := (List.getElem?_eq_some_iff.1 hb).1
  generalize at_ / 8 = a at *
  generalize hbb : 8 * (at_ % 8) = b at *
  generalize at_ % 8 = c at *
  simp [C_digest_Hash_put, w0, w1, w2, w3, bin_quo, bin_rem, hx_blks, hx_toks, iadr_pA, ha25, hb, hashC_get, hs, wd_shl, hb64, storeA_fl, hL, hashC_set, hset, show a ≤ 25 by omega, trunc_set, -i2iK_int, -bin_shl]
/-- What bytes make of a state. -/
def stepH (q : List W64 × Nat) (v : Int) : List W64 × Nat := if q.2 + 1 = 136 then (permL (putL q.1 q.2 v), 0) else (putL q.1 q.2 v, q.2 + 1)
def takeAll (q : List W64 × Nat) (l : List Int) : List W64 × Nat := l.foldl stepH q
theorem stepH_ok {q : List W64 × Nat} (v : Int) (h1 : q.1.length = 25) (h2 : q.2 < 136) : (stepH q v).1.length = 25 ∧ (stepH q v).2 < 136 := by
  unfold stepH
  split
  · exact ⟨permL_len _ (by simp [h1]), by simp⟩
  · exact ⟨by simp [h1], by simp only []; omega⟩
theorem takeAll_ok : ∀ (l : List Int) {q : List W64 × Nat}, q.1.length = 25 → q.2 < 136 → (takeAll q l).1.length = 25 ∧ (takeAll q l).2 < 136
  | [], q, h1, h2 => ⟨h1, h2⟩
  | v :: l, q, h1, h2 => by
    obtain ⟨a, b⟩ := stepH_ok v h1 h2
    exact takeAll_ok l a b
theorem loop_Write {L : Lim} {fr : Fr} {h : AHeap} {R : Option (AEx × Fr × AHeap)} (bs : List (List AVal)) (ts : List Nat) (i : Nat) (q : List W64 × Nat) (x : AVal) (l : List Int) (hl : l.length < 200000000000) (h1 : q.1.length = 25) (h2 : q.2 < 136)
    (hb : bs[i]? = some (hashC q.1 q.2)) (hL : L.rob ≤ h.blks.length) (hr : RdI h .u8 x l)
    (hF : run ctx ⟨L.rob, L.rot, h.blks.length + bs.length, h.toks.length + ts.length⟩ (.loop Ba_digest_Hash_Write) fr (hx h bs ts) = R)
    (h0 : fr 0 = pA h.blks.length i 0) (h6 : fr 6 = x) (h7 : fr 7 = .int .i64 l.length) (h8 : fr 8 = .int .i64 0) :
    ∃ fr', R = some (.exit 0, fr', hx h (bs.set i (hashC (takeAll q l).1 (takeAll q l).2)) ts) := by
  obtain ⟨r1, p, r2, r3⟩ := hr
  have hi := (List.getElem?_eq_some_iff.1 hb).1
  obtain ⟨e, fr', h', rfl, ⟨rfl, rfl⟩, hk⟩ := loop_rule hF l.length
    (fun k fr hh => fr 8 = .int .i64 k ∧ hh = hx h (bs.set i (hashC (takeAll q (l.take k)).1 (takeAll q (l.take k)).2)) ts)
    (fun e fr hh => e = .exit 0 ∧ hh = hx h (bs.set i (hashC (takeAll q l).1 (takeAll q l).2)) ts)
    ⟨h8, by
      have : bs.set i (hashC q.1 q.2) = bs := by
        refine List.ext_getElem? fun j => ?_
        by_cases e : i = j
        · subst e; rw [List.getElem?_set_self hi, hb]
        · rw [List.getElem?_set_ne e]
      simp [takeAll, this]⟩ (by
      rintro k fr1 hh hkN hkeep ⟨g8, rfl⟩
      have g0 := (hkeep 0 (by decide)).trans h0
      have g6 := (hkeep 6 (by decide)).trans h6
      have g7 := (hkeep 7 (by decide)).trans h7
      obtain ⟨c1, c2⟩ := takeAll_ok (l.take k) h1 h2
      by_cases hlt : k < l.length
      · have w1 : IntKind.i64.wrap ((k : Int) + 1) = k + 1 := wrap_i64 (by omega) (by omega)
        have hst : takeAll q (l.take (k + 1)) = stepH (takeAll q (l.take k)) (gd l 0 k) := by
          rw [take_snoc 0 hlt]; simp [takeAll]
        generalize takeAll q (l.take k) = q' at *
        obtain ⟨s, n⟩ := q'
        simp only at c1 c2
        have w2 : IntKind.i64.wrap ((n : Int) + 1) = ((n + 1 : Nat) : Int) := wrap_i64 (by omega) (by omega)
        have hp := ok_put ⟨L.rob, L.rot, h.blks.length + bs.length, h.toks.length + ts.length⟩ h (bs.set i (hashC s n)) ts i s n n (gd l 0 k) c1 (by omega) (by simp [hi]) hL
        by_cases h136 : n + 1 = 136
        · have hst2 : stepH (s, n) (gd l 0 k) = (permL (putL s n (gd l 0 k)), 0) := by simp only [stepH, h136, if_true]
          rw [hst2] at hst
          rw [h136] at w2
          simp [hashC_atE, hashC_getE, Ba_digest_Hash_Write, g0, g6, g7, g8, hlt, w1, r2 k hlt, r3 k _ _ hlt, hi, hashC_at, c1, hp, w2, hst, storeA_fl, hL, hashC_setn, hashC_part, ok_Permute, permL_len, stKB, hashC_sets]
        · have hst2 : stepH (s, n) (gd l 0 k) = (putL s n (gd l 0 k), n + 1) := by simp only [stepH, h136, if_false]
          rw [hst2] at hst
          have hne : (((n + 1 : Nat) : Int) == 136) = false := beq_false_of_ne (by omega)
          generalize n + 1 = n1 at *
          simp [hashC_atE, hashC_getE, Ba_digest_Hash_Write, g0, g6, g7, g8, hlt, w1, r2 k hlt, r3 k _ _ hlt, hi, hashC_at, c1, hp, w2, hst, storeA_fl, hL, hashC_setn, hne]
      · have : k = l.length := by omega
        subst this
        simp [Ba_digest_Hash_Write, g8, g7])
  exact ⟨fr', rfl⟩
theorem ok_Write (L : Lim) (h : AHeap) (bs : List (List AVal)) (ts : List Nat) (i : Nat) (q : List W64 × Nat) (x : AVal) (l : List Int) (hl : l.length < 200000000000) (h1 : q.1.length = 25) (h2 : q.2 < 136)
    (hb : bs[i]? = some (hashC q.1 q.2)) (hL : L.rob ≤ h.blks.length) (hr : RdI h .u8 x l) :
    acall ctx L i_digest_Hash_Write [pA h.blks.length i 0, x] (hx h bs ts) = some (.tup [], hx h (bs.set i (hashC (takeAll q l).1 (takeAll q l).2)) ts) := by
  rw [call_digest_Hash_Write]
  simp [C_digest_Hash_Write, hr.1, hx_blks, hx_toks]
  generalize hF : run ctx _ (.loop _) _ _ = R
  obtain ⟨fr', rfl⟩ := loop_Write bs ts i q x l hl h1 h2 hb hL hr hF (by simp) (by simp) (by simp) (by simp)
  simp [hx_blks, hx_toks, trunc_set]
/-- The end. -/
def endL (q : List W64 × Nat) : List Int := (bytesL (permL (putL (putL q.1 q.2 6) 135 128))).take 32
theorem ok_HSum (L : Lim) (h : AHeap) (b : Nat) (q : List W64 × Nat) (h1 : q.1.length = 25) (h2 : q.2 < 136) (hb : h.blks[b]? = some (hashC q.1 q.2)) :
    acall ctx L i_digest_Hash_Sum [.ptr b 0] h = some (.agg (cI .u8 (endL q)), h) := by
  rw [call_digest_Hash_Sum]
  obtain ⟨s, n⟩ := q
  simp only at h1 h2 hb
  have hld : ∀ bs ts, loadA (hx h bs ts) (.ptr b 0) 26 true = some (.agg (hashC s n)) := fun bs ts => (loadA_old h bs ts b 0 26 true _ hb).trans (hashC_all h1)
  have ep : ∀ (bs : List AVal) (s : List W64), s.length = 25 → acall ctx ⟨h.blks.length, h.toks.length, h.blks.length, h.toks.length⟩ i_digest_Hash_put [pA h.blks.length 1 0, .int .i64 (n : Int), .int .u8 6] (hx h [bs, hashC s n] []) = some (.tup [], hx h [bs, hashC (putL s n 6) n] []) := fun bs s hs =>
    ok_put _ h [bs, hashC s n] [] 1 s n n 6 hs (by omega) (by simp) (Nat.le_refl _)
  have ep2 : ∀ (bs : List AVal) (s : List W64), s.length = 25 → acall ctx ⟨h.blks.length, h.toks.length, h.blks.length, h.toks.length⟩ i_digest_Hash_put [pA h.blks.length 1 0, .int .i64 135, .int .u8 128] (hx h [bs, hashC s n] []) = some (.tup [], hx h [bs, hashC (putL s 135 128) n] []) := fun bs s hs =>
    ok_put _ h [bs, hashC s n] [] 1 s n 135 128 hs (by omega) (by simp) (Nat.le_refl _)
  have e32 : (bytesL (permL (putL (putL s n 6) 135 128))).length = 200 := by simp [permL_len, h1]
  have hsl := slice_arrH 200 1 h.blks.length 2 0 32 .i64 (by decide)
  simp only [Int.cast_ofNat_Int] at hsl
  simp [hashC_atE, hashC_getE, C_digest_Hash_Sum, hx_blks, hx_toks, limP, rep1_I, hld, hashC_all, h1, stKB, setAtB, hashC_at, ep, ep2, hashC_part, ok_Permute, ok_stBytes, permL_len, partAB, e32, hsl, s2a_sA, endL]
  simp [partA_cI, e32, stKB, setAtB, List.take_take]

/-- The digest of parts. -/
def sumL (l : List Int) : List Int := endL (takeAll (tab 25 fun _ => 0#64, 0) l)
theorem takeAll_append (q : List W64 × Nat) (l m : List Int) : takeAll q (l ++ m) = takeAll (takeAll q l) m := by simp [takeAll]
def msg (ps : List (AVal × List Int)) : List Int := (ps.map (·.2)).flatten
theorem msg_snoc (ps : List (AVal × List Int)) (k : Nat) (h : k < ps.length) : msg (ps.take (k + 1)) = msg (ps.take k) ++ ps[k].2 := by
  unfold msg
  rw [List.take_add_one, List.getElem?_eq_getElem h, List.map_append, List.flatten_append]
  congr 1
  simp
theorem loop_DSum {fr : Fr} {h : AHeap} {R : Option (AEx × Fr × AHeap)} (z : List AVal) (ps : List (AVal × List Int)) (hn : ps.length < 1000000) (hr : ∀ p ∈ ps, RdI h .u8 p.1 p.2 ∧ p.2.length < 200000000000)
    (hF : run ctx (limP h) (.loop Ba_digest_Sum) fr (hx h [z, hashC (tab 25 fun _ => 0#64) 0] []) = R)
    (h3 : fr 3 = pA h.blks.length 1 0) (h6 : fr 6 = .vsl false (ps.map fun p => [p.1])) (h7 : fr 7 = .int .i64 ps.length) (h8 : fr 8 = .int .i64 0) :
    ∃ fr' q, R = some (.exit 0, fr', hx h [z, hashC q.1 q.2] []) ∧ q = takeAll (tab 25 fun _ => 0#64, 0) (msg ps) ∧ q.1.length = 25 ∧ q.2 < 136 ∧ ∀ t, t ∉ wr Ba_digest_Sum → fr' t = fr t := by
  obtain ⟨e, fr', h', rfl, ⟨rfl, rfl⟩, hk⟩ := loop_rule hF ps.length
    (fun k fr hh => fr 8 = .int .i64 k ∧ hh = hx h [z, hashC (takeAll (tab 25 fun _ => 0#64, 0) (msg (ps.take k))).1 (takeAll (tab 25 fun _ => 0#64, 0) (msg (ps.take k))).2] [])
    (fun e fr hh => e = .exit 0 ∧ hh = hx h [z, hashC (takeAll (tab 25 fun _ => 0#64, 0) (msg ps)).1 (takeAll (tab 25 fun _ => 0#64, 0) (msg ps)).2] [])
    ⟨h8, by simp only [List.take_zero]; rfl⟩ (by
      rintro k fr1 hh hkN hkeep ⟨g8, rfl⟩
      have g3 := (hkeep 3 (by decide)).trans h3
      have g6 := (hkeep 6 (by decide)).trans h6
      have g7 := (hkeep 7 (by decide)).trans h7
      obtain ⟨c1, c2⟩ := takeAll_ok (msg (ps.take k)) (q := (tab 25 fun _ => 0#64, 0)) (by simp) (by simp)
      by_cases hlt : k < ps.length
      · have w1 : IntKind.i64.wrap ((k : Int) + 1) = k + 1 := wrap_i64 (by omega) (by omega)
        have hst : takeAll (tab 25 fun _ => 0#64, 0) (msg (ps.take (k + 1))) = takeAll (takeAll (tab 25 fun _ => 0#64, 0) (msg (ps.take k))) ps[k].2 := by
          rw [← takeAll_append]
          congr 1
          exact msg_snoc ps k hlt
        obtain ⟨r1, r2⟩ := hr ps[k] (List.getElem_mem hlt)
        generalize takeAll (tab 25 fun _ => 0#64, 0) (msg (ps.take k)) = q' at *
        have hw := ok_Write ⟨h.blks.length, h.toks.length, h.blks.length, h.toks.length⟩ h [z, hashC q'.1 q'.2] [] 1 q' ps[k].1 ps[k].2 r2 c1 c2 (by simp) (Nat.le_refl _) r1
        simp [Ba_digest_Sum, limP, g3, g6, g7, g8, hlt, iadrA, asI, w1, hw, hst]
      · have : k = ps.length := by omega
        subst this
        simp [Ba_digest_Sum, g8, g7])
  obtain ⟨c1, c2⟩ := takeAll_ok (msg ps) (q := (tab 25 fun _ => 0#64, 0)) (by simp) (by simp)
  exact ⟨fr', _, rfl, rfl, c1, c2, hk⟩
theorem zeros_hash : [AVal.int .u64 0, .int .u64 0, .int .u64 0, .int .u64 0, .int .u64 0, .int .u64 0, .int .u64 0, .int .u64 0, .int .u64 0, .int .u64 0, .int .u64 0, .int .u64 0, .int .u64 0, .int .u64 0, .int .u64 0, .int .u64 0, .int .u64 0, .int .u64 0, .int .u64 0, .int .u64 0, .int .u64 0, .int .u64 0, .int .u64 0, .int .u64 0, .int .u64 0, .int .i64 0] = hashC (tab 25 fun _ => 0#64) 0 := rfl
theorem ok_DSum (L : Lim) (h : AHeap) (c : Bool) (ps : List (AVal × List Int)) (hn : ps.length < 1000000) (hr : ∀ p ∈ ps, RdI h .u8 p.1 p.2 ∧ p.2.length < 200000000000) :
    acall ctx L i_digest_Sum [.vsl c (ps.map fun p => [p.1])] h = some (.agg (cI .u8 (sumL (msg ps))), h) := by
  rw [call_digest_Sum]
  simp [C_digest_Sum, zeros_hash, rep1_I, limP]
  generalize hF : run ctx _ (.loop _) _ _ = R
  obtain ⟨fr', q, rfl, q1, q2, q3, hk⟩ := loop_DSum _ ps hn hr hF (by simp) (by simp) (by simp) (by simp)
  have hs : acall ctx ⟨h.blks.length, h.toks.length, h.blks.length, h.toks.length⟩ i_digest_Hash_Sum [pA h.blks.length 1 0] (hx h [cI .u8 (tab 32 fun _ => 0), hashC q.1 q.2] []) = some (.agg (cI .u8 (endL q)), hx h [cI .u8 (tab 32 fun _ => 0), hashC q.1 q.2] []) := ok_HSum ⟨h.blks.length, h.toks.length, h.blks.length, h.toks.length⟩ (hx h [cI .u8 (tab 32 fun _ => 0), hashC q.1 q.2] []) (h.blks.length + 1) q q2 q3 (hx_blk [] (by simp))
  have hl : (endL q).length = 32 := by simp [endL, permL_len, q2]
  simp [hk, wr, Ba_digest_Sum, dsts, hs, stKB, hl, setAtB, partAB, sumL, ← q1]
end Go.Av
