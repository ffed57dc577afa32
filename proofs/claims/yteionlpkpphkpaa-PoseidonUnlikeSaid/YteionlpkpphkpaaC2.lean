/- The field's arithmetic of the program is that of the numbers modulo the prime. -/
import Derived.Test.YteionlpkpphkpaaC0
namespace Go.Av
set_option maxHeartbeats 1000000
set_option maxRecDepth 20000
set_option linter.unusedSimpArgs false
set_option linter.unusedVariables false
theorem tmodL (k m : Nat) : (k : Int).tmod (m : Int) = ((k % m : Nat) : Int) := by rw [Int.tmod_eq_emod_of_nonneg (by omega)]; omega
theorem tdivL (k m : Nat) : (k : Int).tdiv (m : Int) = ((k / m : Nat) : Int) := by rw [Int.tdiv_eq_ediv_of_nonneg (by omega)]; omega
theorem tdiv2 (k : Nat) : (k : Int).tdiv 2 = ((k / 2 : Nat) : Int) := tdivL k 2
theorem wrapN (n : Nat) (h : n < 9223372036854775808) : IntKind.i64.wrap (n : Int) = n := wrap_i64 (by omega) (by omega)
/-- Bytes. -/
def inB (l : List Int) : Prop := ∀ i, i < l.length → 0 ≤ gd l 0 i ∧ gd l 0 i < 256
theorem gd_set {α : Type} (l : List α) (d v : α) (i j : Nat) (hi : i < l.length) : gd (l.set i v) d j = if i = j then v else gd l d j := by
  unfold gd
  simp only [List.getD, List.getElem?_set]
  split <;> simp_all
theorem gd_app1 {α : Type} (l m : List α) (d : α) (j : Nat) (hj : j < l.length) : gd (l ++ m) d j = gd l d j := by
  unfold gd; simp only [List.getD, List.getElem?_append_left hj]
theorem gd_app2 {α : Type} (l m : List α) (d : α) (j : Nat) (hj : l.length ≤ j) : gd (l ++ m) d j = gd m d (j - l.length) := by
  unfold gd; simp only [List.getD, List.getElem?_append_right hj]
theorem bw_nat (v : Nat) (hv : v < 256) : (bw (v : Int)).toNat = v := by unfold bw; rw [BitVec.toNat_ofInt]; omega
/-- The number of bytes, the lowest first. -/
def leN : List Int → Nat
  | [] => 0
  | x :: l => x.toNat + 256 * leN l
theorem inB_at {l : List Int} (h : inB l) : ∀ x ∈ l, 0 ≤ x ∧ x < 256 := fun x hx => by
  obtain ⟨i, hi, rfl⟩ := List.getElem_of_mem hx
  have := h i hi
  rwa [gd, List.getD, List.getElem?_eq_getElem hi] at this
theorem inB_of {l : List Int} (h : ∀ x ∈ l, 0 ≤ x ∧ x < 256) : inB l := fun i hi => by
  rw [gd, List.getD, List.getElem?_eq_getElem hi]; exact h _ (List.getElem_mem hi)
theorem leN_lt : ∀ {l : List Int}, inB l → leN l < 256 ^ l.length
  | [], _ => by simp [leN]
  | x :: l, h => by
    have h1 := inB_at h x (by simp)
    have h2 := leN_lt (inB_of (l := l) fun y hy => inB_at h y (by simp [hy]))
    simp only [leN, List.length_cons, Nat.pow_succ]
    omega
theorem leN_snoc : ∀ (l : List Int) (x : Int), leN (l ++ [x]) = leN l + x.toNat * 256 ^ l.length
  | [], x => by simp [leN]
  | y :: l, x => by
    simp only [List.cons_append, leN, leN_snoc l x, List.length_cons, Nat.pow_succ, Nat.mul_add, Nat.add_assoc, Nat.mul_comm, Nat.mul_left_comm]
theorem inB_take {l : List Int} (h : inB l) (n : Nat) : inB (l.take n) := inB_of fun x hx => inB_at h x (List.mem_of_mem_take hx)
theorem inB_drop {l : List Int} (h : inB l) (n : Nat) : inB (l.drop n) := inB_of fun x hx => inB_at h x (List.mem_of_mem_drop hx)
/-- The bytes of a word, as far as the first k are taken. -/
def bck (b : List Int) (q k : Nat) : List Int := (b.take (min k (8 * q + 8))).drop (8 * q)
theorem bck_len (b : List Int) (q k : Nat) (hk : k ≤ b.length) : (bck b q k).length = min k (8 * q + 8) - 8 * q := by simp [bck]; omega
/-- The words, as the program makes them, of the first k bytes. -/
def wdP (b : List Int) (n : Nat) : Nat → List W64
  | 0 => tab n fun _ => 0#64
  | k + 1 => (wdP b n k).set (k / 8) (gd (wdP b n k) 0#64 (k / 8) ||| (bw (gd b 0 k) <<< (8 * (k % 8))))
@[simp] theorem wdP_len (b : List Int) (n : Nat) : ∀ k, (wdP b n k).length = n
  | 0 => by simp [wdP]
  | k + 1 => by simp [wdP, wdP_len b n k]
theorem or_add (w : W64) (v m : Nat) (hv : v < 256) (hm : m < 8) (hw : w.toNat < 256 ^ m) : (w ||| (bw (v : Int) <<< (8 * m))).toNat = w.toNat + v * 256 ^ m := by
  have e : 256 ^ m = 2 ^ (8 * m) := by rw [show (256 : Nat) = 2 ^ 8 from rfl, ← Nat.pow_mul]
  rw [e] at hw ⊢
  have h8 : (2 : Nat) ^ (8 * m) * 256 ≤ 2 ^ 64 := by
    rw [show (256 : Nat) = 2 ^ 8 from rfl, ← Nat.pow_add]; exact Nat.pow_le_pow_right (by decide) (by omega)
  have hlt : v <<< (8 * m) < 2 ^ 64 := by
    rw [Nat.shiftLeft_eq]
    calc v * 2 ^ (8 * m) < 256 * 2 ^ (8 * m) := Nat.mul_lt_mul_of_pos_right hv (Nat.two_pow_pos _)
      _ ≤ 2 ^ 64 := by rw [Nat.mul_comm]; exact h8
  rw [BitVec.toNat_or, BitVec.toNat_shiftLeft, bw_nat v hv, Nat.mod_eq_of_lt hlt, Nat.or_comm, ← Nat.shiftLeft_add_eq_or_of_lt hw, Nat.shiftLeft_eq, Nat.add_comm]
theorem wdP_at (b : List Int) (hb : inB b) (n : Nat) : ∀ k, k ≤ b.length → k ≤ 8 * n → ∀ q, q < n → (gd (wdP b n k) 0#64 q).toNat = leN (bck b q k)
  | 0, _, _, q, hq => by rw [wdP, gd_tab hq]; simp [bck, leN]
  | k + 1, hk, hn, q, hq => by
    have ih := wdP_at b hb n k (by omega) (by omega) q hq
    have hlen := bck_len b q k (by omega)
    have hlt := leN_lt (inB_drop (inB_take hb (min k (8 * q + 8))) (8 * q))
    have hbk := hb k (by omega)
    rw [wdP]
    rw [gd_set _ _ _ _ _ (by simp; omega)]
    by_cases h : k / 8 = q
    · rw [if_pos h, h]
      obtain ⟨v, hv⟩ : ∃ v : Nat, gd b 0 k = (v : Int) := ⟨(gd b 0 k).toNat, by omega⟩
      have hm : (bck b q k).length = k % 8 := by rw [hlen]; omega
      have hsn : bck b q (k + 1) = bck b q k ++ [gd b 0 k] := by
        unfold bck
        rw [show min (k + 1) (8 * q + 8) = k + 1 by omega, show min k (8 * q + 8) = k by omega, take_snoc 0 (by omega), List.drop_append_of_le_length (by simp; omega)]
      rw [hsn, leN_snoc, hm, ← ih, hv, or_add _ v _ (by omega) (by omega) ?_]
      · simp
      · rw [ih, ← hm]; exact hlt
    · rw [if_neg h, ih]
      congr 1
      unfold bck
      by_cases h2 : k < 8 * q
      · rw [List.drop_eq_nil_of_le (by simp; omega), List.drop_eq_nil_of_le (by simp; omega)]
      · rw [show min (k + 1) (8 * q + 8) = min k (8 * q + 8) by omega]
end Go.Av

namespace Go.Av
set_option maxHeartbeats 2000000
set_option maxRecDepth 20000
set_option linter.unusedSimpArgs false
set_option linter.unusedVariables false
/-- The number of words, the lowest first. -/
def val : List W64 → Nat
  | [] => 0
  | w :: l => w.toNat + 18446744073709551616 * val l
def pN : Nat := 21888242871839275222246405745257275088548364400416034343698204186575808495617
def rN : Nat := 115792089237316195423570985008687907853269984665640564039457584007913129639936
def pW : List W64 := [0x43e1f593f0000001#64, 0x2833e84879b97091#64, 0xb85045b68181585d#64, 0x30644e72e131a029#64]
def invW : W64 := 14042775128853446655#64
theorem val_p : val pW = pN := by decide +kernel
theorem inv_p : (1 + invW.toNat * (0x43e1f593f0000001 : Nat)) % 18446744073709551616 = 0 := by decide +kernel
/-- Four words of a number. -/
def w4 (x : Nat) : List W64 := [BitVec.ofNat 64 x, BitVec.ofNat 64 (x / 18446744073709551616), BitVec.ofNat 64 (x / 340282366920938463463374607431768211456), BitVec.ofNat 64 (x / 6277101735386680763835789423207666416102355444464034512896)]
@[simp] theorem w4_len (x : Nat) : (w4 x).length = 4 := rfl
theorem val_w4 (x : Nat) (h : x < rN) : val (w4 x) = x := by
  simp only [w4, val, BitVec.toNat_ofNat]
  unfold rN at h
  omega
theorem of_len4 {l : List W64} (h : l.length = 4) : ∃ a b c d, l = [a, b, c, d] := by
  match l, h with
  | [a, b, c, d], _ => exact ⟨a, b, c, d, rfl⟩
theorem of_len5 {l : List W64} (h : l.length = 5) : ∃ a b c d e, l = [a, b, c, d, e] := by
  match l, h with
  | [a, b, c, d, e], _ => exact ⟨a, b, c, d, e, rfl⟩
theorem val_lt4 {l : List W64} (h : l.length = 4) : val l < rN := by
  obtain ⟨a, b, c, d, rfl⟩ := of_len4 h
  have := a.isLt; have := b.isLt; have := c.isLt; have := d.isLt
  simp only [val]; unfold rN; omega
theorem w4_val {l : List W64} (h : l.length = 4) : w4 (val l) = l := by
  obtain ⟨a, b, c, d, rfl⟩ := of_len4 h
  have h1 := a.isLt; have h2 := b.isLt; have h3 := c.isLt; have h4 := d.isLt
  have e : ∀ (w : W64) (n : Nat), n % 18446744073709551616 = w.toNat → BitVec.ofNat 64 n = w := fun w n hn => by
    apply BitVec.eq_of_toNat_eq
    rw [BitVec.toNat_ofNat]; exact hn
  simp only [val, w4]
  rw [e a _ (by omega), e b _ (by omega), e c _ (by omega), e d _ (by omega)]
/-! #### a line -/
def lnL (a x y c : W64) : W64 := BitVec.ofNat 64 (a.toNat + x.toNat * y.toNat + c.toNat)
def lnH (a x y c : W64) : W64 := BitVec.ofNat 64 ((a.toNat + x.toNat * y.toNat + c.toNat) / 18446744073709551616)
theorem ln_eq (a x y c : W64) : (lnL a x y c).toNat + 18446744073709551616 * (lnH a x y c).toNat = a.toNat + x.toNat * y.toNat + c.toNat := by
  have h1 := a.isLt; have h2 := x.isLt; have h3 := y.isLt; have h4 := c.isLt
  have h5 : x.toNat * y.toNat ≤ 18446744073709551615 * 18446744073709551615 := Nat.mul_le_mul (by omega) (by omega)
  simp only [lnL, lnH, BitVec.toNat_ofNat]
  omega
def mulS (t : List W64) (x : W64) (b : List W64) : Nat → List W64 × W64
  | 0 => (t, 0#64)
  | j + 1 => ((mulS t x b j).1.set j (lnL (gd (mulS t x b j).1 0#64 j) x (gd b 0#64 j) (mulS t x b j).2), lnH (gd (mulS t x b j).1 0#64 j) x (gd b 0#64 j) (mulS t x b j).2)
def redS (t : List W64) (k : W64) : Nat → List W64 × W64
  | 0 => (t, lnH (gd t 0#64 0) k (gd pW 0#64 0) 0#64)
  | j + 1 => ((redS t k j).1.set j (lnL (gd (redS t k j).1 0#64 (j + 1)) k (gd pW 0#64 (j + 1)) (redS t k j).2), lnH (gd (redS t k j).1 0#64 (j + 1)) k (gd pW 0#64 (j + 1)) (redS t k j).2)
def adS (t : List W64) (c : W64) : List W64 := t.set 4 (gd t 0#64 4 + c)
def endS (u : List W64) (c : W64) : List W64 := (u.set 3 (BitVec.ofNat 64 ((gd u 0#64 4).toNat + c.toNat))).set 4 (BitVec.ofNat 64 (((gd u 0#64 4).toNat + c.toNat) / 18446744073709551616))
def roundS (t : List W64) (x : W64) (b : List W64) : List W64 :=
  endS (redS (adS (mulS t x b 4).1 (mulS t x b 4).2) (gd (adS (mulS t x b 4).1 (mulS t x b 4).2) 0#64 0 * invW) 3).1 (redS (adS (mulS t x b 4).1 (mulS t x b 4).2) (gd (adS (mulS t x b 4).1 (mulS t x b 4).2) 0#64 0 * invW) 3).2
def prodS (a b : List W64) : Nat → List W64
  | 0 => tab 5 fun _ => 0#64
  | i + 1 => roundS (prodS a b i) (gd a 0#64 i) b
@[simp] theorem mulS_len (t : List W64) (x : W64) (b : List W64) : ∀ j, (mulS t x b j).1.length = t.length
  | 0 => rfl
  | j + 1 => by simp [mulS, mulS_len t x b j]
@[simp] theorem redS_len (t : List W64) (k : W64) : ∀ j, (redS t k j).1.length = t.length
  | 0 => rfl
  | j + 1 => by simp [redS, redS_len t k j]
@[simp] theorem adS_len (t : List W64) (c : W64) : (adS t c).length = t.length := by simp [adS]
@[simp] theorem endS_len (t : List W64) (c : W64) : (endS t c).length = t.length := by simp [endS]
@[simp] theorem roundS_len (t : List W64) (x : W64) (b : List W64) : (roundS t x b).length = t.length := by simp [roundS]
@[simp] theorem prodS_len (a b : List W64) : ∀ i, (prodS a b i).length = 5
  | 0 => rfl
  | i + 1 => by simp [prodS, prodS_len a b i]
theorem mul_val (t0 t1 t2 t3 t4 x b0 b1 b2 b3 : W64) : ∃ l0 l1 l2 l3 c, mulS [t0, t1, t2, t3, t4] x [b0, b1, b2, b3] 4 = ([l0, l1, l2, l3, t4], c) ∧
    l0.toNat + 18446744073709551616 * (l1.toNat + 18446744073709551616 * (l2.toNat + 18446744073709551616 * (l3.toNat + 18446744073709551616 * c.toNat))) =
      t0.toNat + 18446744073709551616 * (t1.toNat + 18446744073709551616 * (t2.toNat + 18446744073709551616 * t3.toNat)) + x.toNat * val [b0, b1, b2, b3] := by
  refine ⟨_, _, _, _, _, rfl, ?_⟩
  simp only [gd, List.getD_cons_zero, List.getD_cons_succ, List.set_cons_zero, List.set_cons_succ, mulS]
  have q0 := ln_eq t0 x b0 0#64
  generalize lnL t0 x b0 0#64 = l0 at *
  generalize lnH t0 x b0 0#64 = c0 at *
  have q1 := ln_eq t1 x b1 c0
  generalize lnL t1 x b1 c0 = l1 at *
  generalize lnH t1 x b1 c0 = c1 at *
  have q2 := ln_eq t2 x b2 c1
  generalize lnL t2 x b2 c1 = l2 at *
  generalize lnH t2 x b2 c1 = c2 at *
  have q3 := ln_eq t3 x b3 c2
  generalize lnL t3 x b3 c2 = l3 at *
  generalize lnH t3 x b3 c2 = c3 at *
  simp only [val, Nat.mul_add, Nat.mul_zero, Nat.add_zero, BitVec.toNat_zero] at *
  have e1 : x.toNat * (18446744073709551616 * b1.toNat) = 18446744073709551616 * (x.toNat * b1.toNat) := by rw [Nat.mul_left_comm]
  have e2 : x.toNat * (18446744073709551616 * (18446744073709551616 * b2.toNat)) = 18446744073709551616 * (18446744073709551616 * (x.toNat * b2.toNat)) := by rw [Nat.mul_left_comm, Nat.mul_left_comm x.toNat]
  have e3 : x.toNat * (18446744073709551616 * (18446744073709551616 * (18446744073709551616 * b3.toNat))) = 18446744073709551616 * (18446744073709551616 * (18446744073709551616 * (x.toNat * b3.toNat))) := by
    rw [Nat.mul_left_comm, Nat.mul_left_comm x.toNat, Nat.mul_left_comm x.toNat]
  rw [e1, e2, e3]
  generalize x.toNat * b0.toNat = m0 at *
  generalize x.toNat * b1.toNat = m1 at *
  generalize x.toNat * b2.toNat = m2 at *
  generalize x.toNat * b3.toNat = m3 at *
  omega
theorem red_val (t0 t1 t2 t3 t4 : W64) : ∃ r0 r1 r2 t3' c, redS [t0, t1, t2, t3, t4] (t0 * invW) 3 = ([r0, r1, r2, t3', t4], c) ∧
    18446744073709551616 * (r0.toNat + 18446744073709551616 * (r1.toNat + 18446744073709551616 * (r2.toNat + 18446744073709551616 * c.toNat))) =
      t0.toNat + 18446744073709551616 * (t1.toNat + 18446744073709551616 * (t2.toNat + 18446744073709551616 * t3.toNat)) + (t0 * invW).toNat * pN := by
  refine ⟨_, _, _, _, _, rfl, ?_⟩
  have hk : (t0.toNat + (t0 * invW).toNat * 0x43e1f593f0000001) % 18446744073709551616 = 0 := by
    rw [BitVec.toNat_mul]
    have := inv_p
    rw [show invW.toNat = 14042775128853446655 from rfl] at this ⊢
    omega
  generalize t0 * invW = k at *
  simp only [gd, List.getD_cons_zero, List.getD_cons_succ, List.set_cons_zero, List.set_cons_succ, redS, pW]
  have q0 := ln_eq t0 k 0x43e1f593f0000001#64 0#64
  generalize lnL t0 k 0x43e1f593f0000001#64 0#64 = l0 at *
  generalize lnH t0 k 0x43e1f593f0000001#64 0#64 = c0 at *
  have q1 := ln_eq t1 k 0x2833e84879b97091#64 c0
  generalize lnL t1 k 0x2833e84879b97091#64 c0 = l1 at *
  generalize lnH t1 k 0x2833e84879b97091#64 c0 = c1 at *
  have q2 := ln_eq t2 k 0xb85045b68181585d#64 c1
  generalize lnL t2 k 0xb85045b68181585d#64 c1 = l2 at *
  generalize lnH t2 k 0xb85045b68181585d#64 c1 = c2 at *
  have q3 := ln_eq t3 k 0x30644e72e131a029#64 c2
  generalize lnL t3 k 0x30644e72e131a029#64 c2 = l3 at *
  generalize lnH t3 k 0x30644e72e131a029#64 c2 = c3 at *
  have z0 : l0.toNat < 18446744073709551616 := l0.isLt
  rw [show (0x43e1f593f0000001#64 : W64).toNat = 0x43e1f593f0000001 from rfl, show (0#64 : W64).toNat = 0 from rfl] at q0
  rw [show (0x2833e84879b97091#64 : W64).toNat = 0x2833e84879b97091 from rfl] at q1
  rw [show (0xb85045b68181585d#64 : W64).toNat = 0xb85045b68181585d from rfl] at q2
  rw [show (0x30644e72e131a029#64 : W64).toNat = 0x30644e72e131a029 from rfl] at q3
  have hl0 : l0.toNat = 0 := by omega
  unfold pN
  omega
/-- A turn. -/
theorem round_val {t b : List W64} (ht : t.length = 5) (hb : b.length = 4) (x : W64) (h1 : val t < 2 * pN) (h2 : val b < pN) :
    ∃ k, 18446744073709551616 * val (roundS t x b) = val t + x.toNat * val b + k * pN ∧ val (roundS t x b) < 2 * pN := by
  obtain ⟨t0, t1, t2, t3, t4, rfl⟩ := of_len5 ht
  obtain ⟨b0, b1, b2, b3, rfl⟩ := of_len4 hb
  obtain ⟨l0, l1, l2, l3, c, e1, q1⟩ := mul_val t0 t1 t2 t3 t4 x b0 b1 b2 b3
  have hx := x.isLt
  have hm : x.toNat * val [b0, b1, b2, b3] ≤ 18446744073709551615 * (pN - 1) := Nat.mul_le_mul (by omega) (by omega)
  unfold roundS
  rw [e1]
  simp only [adS, gd, List.getD_cons_zero, List.getD_cons_succ, List.set_cons_zero, List.set_cons_succ]
  generalize val [b0, b1, b2, b3] = vb at *
  obtain ⟨r0, r1, r2, t3', c', e2, q2⟩ := red_val l0 l1 l2 l3 (t4 + c)
  rw [e2]
  have hkl : (l0 * invW).toNat ≤ 18446744073709551615 := by have := (l0 * invW).isLt; omega
  have hkp : (l0 * invW).toNat * pN ≤ 18446744073709551615 * pN := Nat.mul_le_mul_right _ hkl
  refine ⟨(l0 * invW).toNat, ?_⟩
  generalize (l0 * invW).toNat * pN = kp at *
  generalize x.toNat * vb = m at *
  have h4 := t4.isLt; have hc := c.isLt; have hc' := c'.isLt
  have z0 := l0.isLt; have z1 := l1.isLt; have z2 := l2.isLt; have z3 := l3.isLt
  have y0 := r0.isLt; have y1 := r1.isLt; have y2 := r2.isLt
  simp only [val, Nat.mul_zero, Nat.add_zero, pN] at h1 hm hkp
  have e4 : (t4 + c).toNat = t4.toNat + c.toNat := by
    rw [BitVec.toNat_add]
    omega
  simp only [endS, gd, List.getD_cons_zero, List.getD_cons_succ, List.set_cons_zero, List.set_cons_succ, val, BitVec.toNat_ofNat, e4, Nat.mul_zero, Nat.add_zero, pN]
  omega
theorem val_snoc : ∀ (l : List W64) (w : W64), val (l ++ [w]) = val l + w.toNat * 18446744073709551616 ^ l.length
  | [], w => by simp [val]
  | a :: l, w => by
    simp only [List.cons_append, val, val_snoc l w, List.length_cons, Nat.pow_succ, Nat.mul_add, Nat.add_assoc, Nat.mul_comm, Nat.mul_left_comm]
theorem prod_val {a b : List W64} (ha : a.length = 4) (hb : b.length = 4) (h2 : val b < pN) : ∀ i, i ≤ 4 → val (prodS a b i) < 2 * pN ∧ ∃ k, 18446744073709551616 ^ i * val (prodS a b i) = val (a.take i) * val b + k * pN
  | 0, _ => by
    have h0 : val (prodS a b 0) = 0 := (show val (tab 5 fun _ => 0#64) = 0 by decide +kernel)
    exact ⟨by rw [h0]; decide +kernel, 0, by rw [h0]; simp [val]⟩
  | i + 1, hi => by
    obtain ⟨h3, k, hk⟩ := prod_val ha hb h2 i (by omega)
    obtain ⟨k', hk', hlt⟩ := round_val (prodS_len a b i) hb (gd a 0#64 i) h3 h2
    refine ⟨hlt, k + k' * 18446744073709551616 ^ i, ?_⟩
    have hil : i < a.length := by omega
    rw [take_snoc 0#64 hil, val_snoc, List.length_take, Nat.min_eq_left (by omega)]
    show 18446744073709551616 ^ (i + 1) * val (roundS (prodS a b i) (gd a 0#64 i) b) = _
    rw [Nat.pow_succ, Nat.mul_assoc, hk']
    generalize 18446744073709551616 ^ i = q at *
    generalize val (prodS a b i) = v at *
    generalize val b = vb at *
    generalize (gd a 0#64 i).toNat = g at *
    generalize val (a.take i) = va at *
    grind
end Go.Av

namespace Go.Av
set_option maxHeartbeats 2000000
set_option maxRecDepth 20000
set_option linter.unusedSimpArgs false
set_option linter.unusedVariables false
def rInv : Nat := 9915499612839321149637521777990102151350674507940716049588462388200839649614
theorem r_inv : rN * rInv % pN = 1 := by decide +kernel
def montN (a b : Nat) : Nat := a * b * rInv % pN
theorem pN_pos : 0 < pN := by decide
theorem montN_lt (a b : Nat) : montN a b < pN := Nat.mod_lt _ pN_pos
theorem mod_eq_of {a b : Nat} (k : Nat) (h : a = b + k * pN) : a % pN = b % pN := by subst h; rw [Nat.add_mul_mod_self_right]
theorem mont_of {r a b k : Nat} (hr : r < pN) (h : rN * r = a * b + k * pN) : r = montN a b := by
  unfold montN
  have h1 : rN * r % pN = a * b % pN := mod_eq_of k h
  calc r = r % pN := (Nat.mod_eq_of_lt hr).symm
    _ = (1 * r) % pN := by rw [Nat.one_mul]
    _ = (rN * rInv % pN * r) % pN := by rw [r_inv]
    _ = (rN * rInv * r) % pN := by rw [Nat.mod_mul_mod]
    _ = (rN * r * rInv) % pN := by rw [Nat.mul_right_comm]
    _ = (rN * r % pN * rInv) % pN := by rw [Nat.mod_mul_mod]
    _ = (a * b % pN * rInv) % pN := by rw [h1]
    _ = a * b * rInv % pN := by rw [Nat.mod_mul_mod]
/-- A number below the prime twice is brought below it. -/
def belN (x : Nat) : Nat := if x < pN then x else x - pN
theorem belN_mod {x : Nat} (h : x < 2 * pN) : belN x = x % pN := by
  unfold belN
  split
  · rw [Nat.mod_eq_of_lt (by assumption)]
  · rw [Nat.mod_eq_sub_mod (by omega), Nat.mod_eq_of_lt (by omega)]
theorem belN_lt {x : Nat} (h : x < 2 * pN) : belN x < pN := by rw [belN_mod h]; exact Nat.mod_lt _ pN_pos
theorem prod_lists {a b : List W64} (ha : a.length = 4) (hb : b.length = 4) (h2 : val b < pN) : val ((prodS a b 4).take 4) < 2 * pN ∧ belN (val ((prodS a b 4).take 4)) = montN (val a) (val b) := by
  obtain ⟨h3, k, hk⟩ := prod_val ha hb h2 4 (by omega)
  have h4 := prodS_len a b 4
  generalize prodS a b 4 = t at *
  obtain ⟨t0, t1, t2, t3, t4, rfl⟩ := of_len5 h4
  have e4 : t4.toNat = 0 := by
    simp only [val, pN] at h3
    omega
  have e5 : val (List.take 4 [t0, t1, t2, t3, t4]) = val [t0, t1, t2, t3, t4] := by
    simp [val, e4]
  rw [e5]
  refine ⟨h3, ?_⟩
  rw [List.take_of_length_le (by omega)] at hk
  have hb' := belN_lt h3
  have hm := belN_mod h3
  have hdiv := Nat.div_add_mod (val [t0, t1, t2, t3, t4]) pN
  generalize val [t0, t1, t2, t3, t4] = v at *
  rw [← hm] at hdiv
  rw [show (18446744073709551616 : Nat) ^ 4 = rN from rfl] at hk
  have hrp : rN * belN v + rN * (pN * (v / pN)) = val a * val b + k * pN := by rw [← Nat.mul_add, Nat.add_comm (belN v), hdiv]; exact hk
  -- both sides modulo the prime
  have h5 : rN * belN v % pN = val a * val b % pN := by
    have e1 : (rN * belN v + rN * (pN * (v / pN))) % pN = rN * belN v % pN := by
      rw [show rN * (pN * (v / pN)) = (rN * (v / pN)) * pN by rw [Nat.mul_left_comm, Nat.mul_comm]]
      exact Nat.add_mul_mod_self_right _ _ _
    rw [← e1, hrp, Nat.add_mul_mod_self_right]
  unfold montN
  calc belN v = belN v % pN := (Nat.mod_eq_of_lt hb').symm
    _ = (1 * belN v) % pN := by rw [Nat.one_mul]
    _ = (rN * rInv % pN * belN v) % pN := by rw [r_inv]
    _ = (rN * rInv * belN v) % pN := by rw [Nat.mod_mul_mod]
    _ = (rN * belN v * rInv) % pN := by rw [Nat.mul_right_comm]
    _ = (rN * belN v % pN * rInv) % pN := by rw [Nat.mod_mul_mod]
    _ = (val a * val b % pN * rInv) % pN := by rw [h5]
    _ = val a * val b * rInv % pN := by rw [Nat.mod_mul_mod]

/-! #### elements -/
/-- The element of a number, as it is kept. -/
def fe (x : Nat) : List W64 := w4 (x * rN % pN)
@[simp] theorem fe_len (x : Nat) : (fe x).length = 4 := rfl
theorem val_fe (x : Nat) : val (fe x) = x * rN % pN := val_w4 _ (Nat.lt_trans (Nat.mod_lt _ pN_pos) (by decide))
theorem val_fe_lt (x : Nat) : val (fe x) < pN := by rw [val_fe]; exact Nat.mod_lt _ pN_pos
theorem fe_mod (x : Nat) : fe (x % pN) = fe x := by unfold fe; rw [Nat.mod_mul_mod]
theorem rr_inv (x : Nat) : x * rN % pN * rInv % pN = x % pN := by
  rw [Nat.mod_mul_mod, Nat.mul_assoc, ← Nat.mul_mod_mod, r_inv, Nat.mul_one]
theorem fe_inj {x y : Nat} (h : fe x = fe y) : x % pN = y % pN := by
  have := congrArg val h
  rw [val_fe, val_fe] at this
  rw [← rr_inv x, ← rr_inv y, this]
theorem mont_fe' (x y : Nat) : montN (val (fe x)) (val (fe y)) = x * y * rN % pN := by
  unfold montN
  rw [val_fe, val_fe]
  calc x * rN % pN * (y * rN % pN) * rInv % pN = x * rN % pN * (y * rN % pN * rInv) % pN := by rw [Nat.mul_assoc]
    _ = x * rN % pN * (y * rN % pN * rInv % pN) % pN := by rw [Nat.mul_mod_mod]
    _ = x * rN % pN * (y % pN) % pN := by rw [rr_inv]
    _ = x * rN * y % pN := by rw [Nat.mul_mod_mod, Nat.mod_mul_mod]
    _ = x * y * rN % pN := by rw [Nat.mul_right_comm]
theorem mont_fe (x y : Nat) : w4 (montN (val (fe x)) (val (fe y))) = fe (x * y) := by
  have e : montN (val (fe x)) (val (fe y)) = x * y * rN % pN := mont_fe' x y
  rw [e]; rfl
theorem mont_in (a : Nat) : montN a (rN * rN % pN) = a * rN % pN := by
  unfold montN
  rw [Nat.mul_assoc, ← Nat.mul_mod_mod, rr_inv, Nat.mul_mod_mod]
theorem mont_out (x : Nat) : montN (val (fe x)) 1 = x % pN := by
  unfold montN
  rw [val_fe, Nat.mul_one, rr_inv]
theorem add_fe (x y : Nat) : w4 (belN (val (fe x) + val (fe y))) = fe (x + y) := by
  have h1 := val_fe_lt x
  have h2 := val_fe_lt y
  rw [belN_mod (by omega), val_fe, val_fe]
  unfold fe
  rw [← Nat.add_mod, Nat.add_mul]
def subN (a b : Nat) : Nat := if a < b then a + pN - b else a - b
theorem sub_fe (x y : Nat) (hy : y ≤ pN) : w4 (subN (val (fe x)) (val (fe y))) = fe (x + (pN - y)) := by
  have h1 := val_fe_lt x
  have h2 := val_fe_lt y
  have e : subN (val (fe x)) (val (fe y)) = (val (fe x) + (pN - val (fe y))) % pN := by
    unfold subN
    split
    · rw [Nat.mod_eq_of_lt (by omega)]; omega
    · rw [show val (fe x) + (pN - val (fe y)) = val (fe x) - val (fe y) + pN by omega, Nat.add_mod_right, Nat.mod_eq_of_lt (by omega)]
  rw [e]
  unfold fe
  congr 1
  rw [show val (w4 (x * rN % pN)) = x * rN % pN from val_fe x, show val (w4 (y * rN % pN)) = y * rN % pN from val_fe y]
  have h3 := Nat.mod_lt (y * rN) pN_pos
  -- (pN - y) R + y R = pN R
  have h4 : (pN - y) * rN % pN = (pN - y * rN % pN) % pN := by
    have h5 : ((pN - y) * rN + y * rN) % pN = 0 := by rw [← Nat.add_mul, Nat.sub_add_cancel hy, Nat.mul_mod_right]
    rw [Nat.add_mod] at h5
    have h6 := Nat.mod_lt ((pN - y) * rN) pN_pos
    generalize (pN - y) * rN % pN = u at *
    generalize y * rN % pN = v at *
    by_cases hz : v = 0
    · subst hz
      rw [Nat.add_zero, Nat.mod_eq_of_lt h6] at h5
      rw [h5, Nat.sub_zero, Nat.mod_self]
    · have : u + v = pN := by
        by_cases hl : u + v < pN
        · rw [Nat.mod_eq_of_lt hl] at h5; omega
        · rw [Nat.mod_eq_sub_mod (by omega), Nat.mod_eq_of_lt (by omega)] at h5; omega
      rw [Nat.mod_eq_of_lt (by omega)]; omega
  rw [Nat.add_mul, Nat.add_mod (x * rN) ((pN - y) * rN), h4, ← Nat.add_mod_mod, ← Nat.mod_add_mod]
end Go.Av

namespace Go.Av
set_option maxHeartbeats 1000000
set_option maxRecDepth 20000
set_option linter.unusedSimpArgs false
set_option linter.unusedVariables false
theorem wd0 : AVal.int .u64 0 = wd 0#64 := rfl
theorem wd1 : AVal.int .u64 1 = wd 1#64 := rfl
/-! #### sums and differences of words -/
def adL (x y c : W64) : W64 := BitVec.ofNat 64 (x.toNat + y.toNat + c.toNat)
def adH (x y c : W64) : W64 := BitVec.ofNat 64 ((x.toNat + y.toNat + c.toNat) / 18446744073709551616)
def sbL (x y c : W64) : W64 := BitVec.ofNat 64 (x.toNat + 18446744073709551616 - y.toNat - c.toNat)
def sbH (x y c : W64) : W64 := if x.toNat < y.toNat + c.toNat then 1#64 else 0#64
theorem ad_eq (x y c : W64) (hc : c.toNat ≤ 1) : (adL x y c).toNat + 18446744073709551616 * (adH x y c).toNat = x.toNat + y.toNat + c.toNat ∧ (adH x y c).toNat ≤ 1 := by
  have h1 := x.isLt; have h2 := y.isLt
  simp only [adL, adH, BitVec.toNat_ofNat]
  omega
theorem sb_eq (x y c : W64) (hc : c.toNat ≤ 1) : (sbL x y c).toNat + y.toNat + c.toNat = x.toNat + 18446744073709551616 * (sbH x y c).toNat ∧ (sbH x y c).toNat ≤ 1 := by
  have h1 := x.isLt; have h2 := y.isLt
  simp only [sbL, sbH, BitVec.toNat_ofNat]
  split
  · rw [show (1#64 : W64).toNat = 1 from rfl]; omega
  · rw [show (0#64 : W64).toNat = 0 from rfl]; omega
theorem ok_Add64 (L : Lim) (h : AHeap) (x y c : W64) (hc : decide (c.toNat ≤ 1) = true) : acall ctx L i_math_bits_Add64 [wd x, wd y, wd c] h = some (.tup [wd (adL x y c), wd (adH x y c)], h) := by
  have hc' : c.toNat ≤ 1 := by simpa using hc
  have := call_addX (L := L) (h := h) ext_math_bits_Add64 x y c.toNat hc'
  rw [show AVal.int .u64 (c.toNat : Int) = wd c from rfl] at this
  rw [this]
  have h1 := x.isLt; have h2 := y.isLt
  rw [wd_lit _ (by omega)]
  rfl
theorem ok_Sub64 (L : Lim) (h : AHeap) (x y c : W64) (hc : decide (c.toNat ≤ 1) = true) : acall ctx L i_math_bits_Sub64 [wd x, wd y, wd c] h = some (.tup [wd (sbL x y c), wd (sbH x y c)], h) := by
  have hc' : c.toNat ≤ 1 := by simpa using hc
  have := call_subX (L := L) (h := h) ext_math_bits_Sub64 x y c.toNat hc'
  rw [show AVal.int .u64 (c.toNat : Int) = wd c from rfl] at this
  rw [this]
  unfold sbL sbH
  split <;> rfl
/-! #### products of words -/
def mulH (x y : W64) : W64 := BitVec.ofNat 64 (x.toNat * y.toNat / 18446744073709551616)
theorem mulH_eq (x y : W64) : (x >>> 32) * (y >>> 32) + (((x >>> 32) * (y &&& 4294967295#64) + ((x &&& 4294967295#64) * (y &&& 4294967295#64)) >>> 32) >>> 32) +
    ((((x >>> 32) * (y &&& 4294967295#64) + ((x &&& 4294967295#64) * (y &&& 4294967295#64)) >>> 32) &&& 4294967295#64) + (x &&& 4294967295#64) * (y >>> 32)) >>> 32 = mulH x y := by
  have hm : ∀ w : W64, (w &&& 4294967295#64).toNat = w.toNat % 4294967296 := fun w => by
    rw [BitVec.toNat_and, show (4294967295#64 : W64).toNat = 2 ^ 32 - 1 from rfl, Nat.and_two_pow_sub_one_eq_mod]
  have hs : ∀ w : W64, (w >>> 32).toNat = w.toNat / 4294967296 := fun w => by
    rw [BitVec.toNat_ushiftRight, Nat.shiftRight_eq_div_pow]
  apply BitVec.eq_of_toNat_eq
  simp only [mulH, BitVec.toNat_add, BitVec.toNat_mul, hm, hs, BitVec.toNat_ofNat]
  have h1 := x.isLt; have h2 := y.isLt
  generalize x.toNat = a at *
  generalize y.toNat = b at *
  have ea : a = a / 4294967296 * 4294967296 + a % 4294967296 := by omega
  have eb : b = b / 4294967296 * 4294967296 + b % 4294967296 := by omega
  have b1 : a / 4294967296 ≤ 4294967295 := by omega
  have b2 : a % 4294967296 ≤ 4294967295 := by omega
  have b3 : b / 4294967296 ≤ 4294967295 := by omega
  have b4 : b % 4294967296 ≤ 4294967295 := by omega
  generalize a / 4294967296 = a1 at *
  generalize a % 4294967296 = a0 at *
  generalize b / 4294967296 = b1' at *
  generalize b % 4294967296 = b0 at *
  have em : a * b = a1 * b1' * 18446744073709551616 + (a1 * b0 + a0 * b1') * 4294967296 + a0 * b0 := by
    subst ea eb; grind
  have c1 : a1 * b1' ≤ 4294967295 * 4294967295 := Nat.mul_le_mul b1 b3
  have c2 : a1 * b0 ≤ 4294967295 * 4294967295 := Nat.mul_le_mul b1 b4
  have c3 : a0 * b1' ≤ 4294967295 * 4294967295 := Nat.mul_le_mul b2 b3
  have c4 : a0 * b0 ≤ 4294967295 * 4294967295 := Nat.mul_le_mul b2 b4
  rw [em]
  generalize a1 * b1' = p at *
  generalize a1 * b0 = q at *
  generalize a0 * b1' = r at *
  generalize a0 * b0 = s at *
  omega
theorem ok_Mul64 (L : Lim) (h : AHeap) (x y : W64) : acall ctx L i_math_bits_Mul64 [wd x, wd y] h = some (.tup [wd (mulH x y), wd (x * y)], h) := by
  rw [call_math_bits_Mul64]
  have hm : AVal.int .u64 4294967295 = wd 4294967295#64 := rfl
  have h32 : ∀ x : W64, binA .shr (wd x) (.int .u64 32) = some (wd (x >>> 32)) := fun x => wd_shr x .u64 32 (by decide)
  have e := mulH_eq x y
  simp [C_math_bits_Mul64, hm, h32, -bin_shr]
  exact congrArg wd e
theorem ok_line (L : Lim) (h : AHeap) (a x y c : W64) : acall ctx L i_field_line [wd a, wd x, wd y, wd c] h = some (.tup [wd (lnL a x y c), wd (lnH a x y c)], h) := by
  rw [call_field_line]
  have h0 : (0#64 : W64).toNat = 0 := rfl
  simp [C_field_line, limP, wd0, ok_Mul64, ok_Add64, h0]
  have h1 := a.isLt; have h2 := x.isLt; have h3 := y.isLt; have h4 := c.isLt
  have h5 : x.toNat * y.toNat ≤ 18446744073709551615 * 18446744073709551615 := Nat.mul_le_mul (by omega) (by omega)
  have e1 : (x * y).toNat = x.toNat * y.toNat % 18446744073709551616 := by rw [BitVec.toNat_mul]
  constructor
  · congr 1
    apply BitVec.eq_of_toNat_eq
    simp only [lnL, adL, BitVec.toNat_ofNat, e1, h0]
    omega
  · congr 1
    apply BitVec.eq_of_toNat_eq
    simp only [lnH, adL, adH, mulH, BitVec.toNat_ofNat, BitVec.toNat_add, e1, h0]
    generalize x.toNat * y.toNat = m at *
    omega
/-! #### the prime -/
theorem pW_cells : cW pW = [.int .u64 4891460686036598785, .int .u64 2896914383306846353, .int .u64 13281191951274694749, .int .u64 3486998266802970665] := rfl
theorem ok_prime (L : Lim) (h : AHeap) : acall ctx L i_field_prime [] h = some (.agg (cW pW), h) := by
  rw [call_field_prime]
  simp [C_field_prime, limP, rep1, fillA, stKB, setAtB, partAB, frz_agg, pW_cells]
end Go.Av

namespace Go.Av
set_option maxHeartbeats 1000000
set_option maxRecDepth 20000
set_option linter.unusedSimpArgs false
set_option linter.unusedVariables false
/-! #### four words at once -/
def plK (a b : List W64) : Nat → List W64 × W64
  | 0 => (tab 4 fun _ => 0#64, 0#64)
  | k + 1 => ((plK a b k).1.set k (adL (gd a 0#64 k) (gd b 0#64 k) (plK a b k).2), adH (gd a 0#64 k) (gd b 0#64 k) (plK a b k).2)
def boK (a b : List W64) : Nat → List W64 × W64
  | 0 => (tab 4 fun _ => 0#64, 0#64)
  | k + 1 => ((boK a b k).1.set k (sbL (gd a 0#64 k) (gd b 0#64 k) (boK a b k).2), sbH (gd a 0#64 k) (gd b 0#64 k) (boK a b k).2)
@[simp] theorem plK_len (a b : List W64) : ∀ k, (plK a b k).1.length = 4
  | 0 => rfl
  | k + 1 => by simp [plK, plK_len a b k]
@[simp] theorem boK_len (a b : List W64) : ∀ k, (boK a b k).1.length = 4
  | 0 => rfl
  | k + 1 => by simp [boK, boK_len a b k]
theorem plK_c (a b : List W64) : ∀ k, (plK a b k).2.toNat ≤ 1
  | 0 => by simp [plK]
  | k + 1 => (ad_eq _ _ _ (plK_c a b k)).2
theorem boK_c (a b : List W64) : ∀ k, (boK a b k).2.toNat ≤ 1
  | 0 => by simp [boK]
  | k + 1 => (sb_eq _ _ _ (boK_c a b k)).2
theorem plK_succ (a b : List W64) (k : Nat) : plK a b (k + 1) = ((plK a b k).1.set k (adL (gd a 0#64 k) (gd b 0#64 k) (plK a b k).2), adH (gd a 0#64 k) (gd b 0#64 k) (plK a b k).2) := by rw [plK]
theorem boK_succ (a b : List W64) (k : Nat) : boK a b (k + 1) = ((boK a b k).1.set k (sbL (gd a 0#64 k) (gd b 0#64 k) (boK a b k).2), sbH (gd a 0#64 k) (gd b 0#64 k) (boK a b k).2) := by rw [boK]
theorem boK_zero (a b : List W64) : (boK a b 0).2 = 0#64 := rfl
theorem plK_all (a b : List W64) (ha : a.length = 4) (hb : b.length = 4) (h : val a + val b < rN) : (plK a b 4).1 = w4 (val a + val b) := by
  obtain ⟨a0, a1, a2, a3, rfl⟩ := of_len4 ha
  obtain ⟨b0, b1, b2, b3, rfl⟩ := of_len4 hb
  rw [← w4_val (plK_len [a0, a1, a2, a3] [b0, b1, b2, b3] 4)]
  congr 1
  simp only [plK, gd, List.getD_cons_zero, List.getD_cons_succ, List.set_cons_zero, List.set_cons_succ, show tab 4 (fun _ => 0#64) = [0#64, 0#64, 0#64, 0#64] from rfl]
  have q0 := ad_eq a0 b0 0#64 (by decide)
  generalize adL a0 b0 0#64 = l0 at *
  generalize adH a0 b0 0#64 = c0 at *
  have q1 := ad_eq a1 b1 c0 q0.2
  generalize adL a1 b1 c0 = l1 at *
  generalize adH a1 b1 c0 = c1 at *
  have q2 := ad_eq a2 b2 c1 q1.2
  generalize adL a2 b2 c1 = l2 at *
  generalize adH a2 b2 c1 = c2 at *
  have q3 := ad_eq a3 b3 c2 q2.2
  generalize adL a3 b3 c2 = l3 at *
  generalize adH a3 b3 c2 = c3 at *
  have z0 := l0.isLt; have z1 := l1.isLt; have z2 := l2.isLt; have z3 := l3.isLt
  simp only [val, BitVec.toNat_zero, rN] at *
  omega
theorem boK_all (a b : List W64) (ha : a.length = 4) (hb : b.length = 4) : (boK a b 4).1 = w4 (if val a < val b then val a + rN - val b else val a - val b) ∧ (boK a b 4).2 = if val a < val b then 1#64 else 0#64 := by
  have hva := val_lt4 ha
  have hvb := val_lt4 hb
  obtain ⟨a0, a1, a2, a3, rfl⟩ := of_len4 ha
  obtain ⟨b0, b1, b2, b3, rfl⟩ := of_len4 hb
  have key : val (boK [a0, a1, a2, a3] [b0, b1, b2, b3] 4).1 + val [b0, b1, b2, b3] = val [a0, a1, a2, a3] + rN * (boK [a0, a1, a2, a3] [b0, b1, b2, b3] 4).2.toNat := by
    simp only [boK, gd, List.getD_cons_zero, List.getD_cons_succ, List.set_cons_zero, List.set_cons_succ, show tab 4 (fun _ => 0#64) = [0#64, 0#64, 0#64, 0#64] from rfl]
    have q0 := sb_eq a0 b0 0#64 (by decide)
    generalize sbL a0 b0 0#64 = l0 at *
    generalize sbH a0 b0 0#64 = c0 at *
    have q1 := sb_eq a1 b1 c0 q0.2
    generalize sbL a1 b1 c0 = l1 at *
    generalize sbH a1 b1 c0 = c1 at *
    have q2 := sb_eq a2 b2 c1 q1.2
    generalize sbL a2 b2 c1 = l2 at *
    generalize sbH a2 b2 c1 = c2 at *
    have q3 := sb_eq a3 b3 c2 q2.2
    generalize sbL a3 b3 c2 = l3 at *
    generalize sbH a3 b3 c2 = c3 at *
    simp only [val, BitVec.toNat_zero, rN] at *
    omega
  have hc := boK_c [a0, a1, a2, a3] [b0, b1, b2, b3] 4
  have hl := boK_len [a0, a1, a2, a3] [b0, b1, b2, b3] 4
  have hv := val_lt4 hl
  generalize boK [a0, a1, a2, a3] [b0, b1, b2, b3] 4 = q at *
  obtain ⟨l, c⟩ := q
  simp only at *
  generalize val [a0, a1, a2, a3] = va at *
  generalize val [b0, b1, b2, b3] = vb at *
  rw [← w4_val hl]
  rcases (show c.toNat = 0 ∨ c.toNat = 1 by omega) with h0 | h0
  · rw [h0, Nat.mul_zero] at key
    have h : ¬ va < vb := by omega
    rw [if_neg h, if_neg h]
    exact ⟨congrArg w4 (by omega), BitVec.eq_of_toNat_eq h0⟩
  · rw [h0, Nat.mul_one] at key
    have h : va < vb := by omega
    rw [if_pos h, if_pos h]
    exact ⟨congrArg w4 (by omega), BitVec.eq_of_toNat_eq h0⟩
theorem loop_plus {fr : Fr} {h : AHeap} {R : Option (AEx × Fr × AHeap)} (a b : List W64) (ha : a.length = 4) (hb : b.length = 4)
    (hF : run ctx (limP h) (.loop Ba_field_plus) fr (hx h [cW (plK a b 0).1] []) = R)
    (h2 : fr 2 = .vptr (cW a) 0) (h3 : fr 3 = .vptr (cW b) 0) (h4 : fr 4 = pA h.blks.length 0 0) (h5 : fr 5 = wd 0#64) (h7 : fr 7 = .int .i64 0) :
    ∃ fr', R = some (.exit 0, fr', hx h [cW (plK a b 4).1] []) ∧ ∀ t, t ∉ wr Ba_field_plus → fr' t = fr t := by
  obtain ⟨e, fr', h', rfl, ⟨rfl, rfl⟩, hk⟩ := loop_rule hF 4
    (fun k fr hh => fr 7 = .int .i64 k ∧ fr 5 = wd (plK a b k).2 ∧ hh = hx h [cW (plK a b k).1] [])
    (fun e fr hh => e = .exit 0 ∧ hh = hx h [cW (plK a b 4).1] [])
    ⟨h7, h5, rfl⟩ (by
      rintro k fr1 hh hkN hkeep ⟨g7, g5, rfl⟩
      have g2 := (hkeep 2 (by decide)).trans h2
      have g3 := (hkeep 3 (by decide)).trans h3
      have g4 := (hkeep 4 (by decide)).trans h4
      by_cases hlt : k < 4
      · have w1 : IntKind.i64.wrap ((k : Int) + 1) = k + 1 := wrap_i64 (by omega) (by omega)
        have hc := plK_c a b k
        have hl := plK_len a b k
        have hst := plK_succ a b k
        generalize plK a b k = q at *
        simp [Ba_field_plus, limP, g7, g5, g2, g3, g4, hlt, show (k : Int) < 4 by omega, show k ≤ 3 by omega, w1, iadr_pA, iadr_vp, ha, hb, ok_Add64, hc, hl, hst]
      · have : k = 4 := by omega
        subst this
        simp [Ba_field_plus, g7])
  exact ⟨fr', rfl, hk⟩
theorem ok_plus (L : Lim) (h : AHeap) (a b : List W64) (ha : a.length = 4) (hb : b.length = 4) (hs : val a + val b < rN) : acall ctx L i_field_plus [.agg (cW a), .agg (cW b)] h = some (.agg (cW (w4 (val a + val b))), h) := by
  rw [call_field_plus]
  have e0 : cW (tab 4 fun _ => 0#64) = cW (plK a b 0).1 := rfl
  simp [C_field_plus, limP, rep1_W, e0]
  generalize hF : run ctx _ (.loop _) _ _ = R
  obtain ⟨fr1, rfl, hk1⟩ := loop_plus a b ha hb hF (by simp) (by simp) (by simp) (by simp [wd0]) (by simp)
  simp [hk1, wr, Ba_field_plus, dsts, partAB, stKB, setAtB, plK_all a b ha hb hs]
theorem loop_borrow {fr : Fr} {h : AHeap} {R : Option (AEx × Fr × AHeap)} (a b : List W64) (ha : a.length = 4) (hb : b.length = 4)
    (hF : run ctx (limP h) (.loop Ba_field_borrow) fr (hx h [cW (boK a b 0).1] []) = R)
    (h2 : fr 2 = .vptr (cW a) 0) (h3 : fr 3 = .vptr (cW b) 0) (h4 : fr 4 = pA h.blks.length 0 0) (h5 : fr 5 = wd 0#64) (h7 : fr 7 = .int .i64 0) :
    ∃ fr', R = some (.exit 0, fr', hx h [cW (boK a b 4).1] []) ∧ fr' 5 = wd (boK a b 4).2 ∧ ∀ t, t ∉ wr Ba_field_borrow → fr' t = fr t := by
  obtain ⟨e, fr', h', rfl, ⟨rfl, rfl, h5'⟩, hk⟩ := loop_rule hF 4
    (fun k fr hh => fr 7 = .int .i64 k ∧ fr 5 = wd (boK a b k).2 ∧ hh = hx h [cW (boK a b k).1] [])
    (fun e fr hh => e = .exit 0 ∧ hh = hx h [cW (boK a b 4).1] [] ∧ fr 5 = wd (boK a b 4).2)
    ⟨h7, h5, rfl⟩ (by
      rintro k fr1 hh hkN hkeep ⟨g7, g5, rfl⟩
      have g2 := (hkeep 2 (by decide)).trans h2
      have g3 := (hkeep 3 (by decide)).trans h3
      have g4 := (hkeep 4 (by decide)).trans h4
      by_cases hlt : k < 4
      · have w1 : IntKind.i64.wrap ((k : Int) + 1) = k + 1 := wrap_i64 (by omega) (by omega)
        have hc := boK_c a b k
        have hl := boK_len a b k
        have hst := boK_succ a b k
        have hS := fun L h => ok_Sub64 L h (gd a 0#64 k) (gd b 0#64 k) (boK a b k).2 (by simpa using hc)
        generalize boK a b k = q at *
        generalize sbL (gd a 0#64 k) (gd b 0#64 k) q.2 = u at *
        generalize sbH (gd a 0#64 k) (gd b 0#64 k) q.2 = v at *
        simp -implicitDefEqProofs [Ba_field_borrow, limP, g7, g5, g2, g3, g4, hlt, show (k : Int) < 4 by omega, show k ≤ 3 by omega, w1, iadr_pA, iadr_vp, ha, hb, hS, hc, hl, hst]
      · have : k = 4 := by omega
        subst this
        simp [Ba_field_borrow, g7, g5])
  exact ⟨fr', rfl, h5', hk⟩
theorem ok_borrow (L : Lim) (h : AHeap) (a b : List W64) (ha : a.length = 4) (hb : b.length = 4) : acall ctx L i_field_borrow [.agg (cW a), .agg (cW b)] h =
    some (.tup [.agg (cW (w4 (if val a < val b then val a + rN - val b else val a - val b))), wd (if val a < val b then 1#64 else 0#64)], h) := by
  rw [call_field_borrow]
  have e0 : cW (tab 4 fun _ => 0#64) = cW (boK a b 0).1 := rfl
  simp [C_field_borrow, limP, rep1_W, e0]
  generalize hF : run ctx _ (.loop _) _ _ = R
  obtain ⟨fr1, rfl, h5, hk1⟩ := loop_borrow a b ha hb hF (by simp) (by simp) (by simp) (by simp [wd0]) (by simp)
  obtain ⟨e1, e2⟩ := boK_all a b ha hb
  rw [e2] at h5
  simp [hk1, h5, wr, Ba_field_borrow, dsts, partAB, stKB, setAtB, e1]
theorem ok_below (L : Lim) (h : AHeap) (a : List W64) (ha : a.length = 4) : acall ctx L i_field_below [.agg (cW a)] h = some (.agg (cW (w4 (belN (val a)))), h) := by
  rw [call_field_below]
  have hb := fun L h => ok_borrow L h a pW ha rfl
  simp only [val_p] at hb
  by_cases hlt : val a < pN
  · simp only [if_pos hlt] at hb
    have he : (wd 1#64 = AVal.int .u64 1) := rfl
    simp [C_field_below, limP, rep1_W, ok_prime, partAB, stKB, setAtB, hb, ha, he]
    rw [belN, if_pos hlt, w4_val ha]
  · simp only [if_neg hlt] at hb
    have he : (wd 0#64 = AVal.int .u64 0) := rfl
    simp [C_field_below, limP, rep1_W, ok_prime, partAB, stKB, setAtB, hb, ha, he]
    rw [belN, if_neg hlt]
end Go.Av

namespace Go.Av
set_option maxHeartbeats 2000000
set_option maxRecDepth 20000
set_option linter.unusedSimpArgs false
set_option linter.unusedVariables false
/-! #### the inverse of the lowest word -/
def invK : Nat → W64
  | 0 => 1#64
  | k + 1 => invK k * (2#64 - 0x43e1f593f0000001#64 * invK k)
theorem invK_succ (k : Nat) : invK (k + 1) = invK k * (2#64 - 0x43e1f593f0000001#64 * invK k) := rfl
theorem invK_all : -invK 6 = invW := by decide +kernel
theorem loop_inverse {L : Lim} {fr : Fr} {H : AHeap} {R : Option (AEx × Fr × AHeap)} (hF : run ctx L (.loop Ba_field_inverse) fr H = R)
    (h1 : fr 1 = wd 0x43e1f593f0000001#64) (h2 : fr 2 = wd 1#64) (h5 : fr 5 = .int .i64 0) :
    ∃ fr', R = some (.exit 0, fr', H) ∧ fr' 2 = wd (invK 6) ∧ ∀ t, t ∉ wr Ba_field_inverse → fr' t = fr t := by
  obtain ⟨e, fr', h', rfl, ⟨rfl, rfl, h2'⟩, hk⟩ := loop_rule hF 6
    (fun k fr hh => fr 5 = .int .i64 k ∧ fr 2 = wd (invK k) ∧ hh = H)
    (fun e fr hh => e = .exit 0 ∧ hh = H ∧ fr 2 = wd (invK 6))
    ⟨h5, h2, rfl⟩ (by
      rintro k fr1 hh hkN hkeep ⟨g5, g2, rfl⟩
      have g1 := (hkeep 1 (by decide)).trans h1
      by_cases hlt : k < 6
      · have w1 : IntKind.i64.wrap ((k : Int) + 1) = k + 1 := wrap_i64 (by omega) (by omega)
        have e2 : AVal.int .u64 2 = wd 2#64 := rfl
        have hst := invK_succ k
        generalize invK k = q at *
        simp [Ba_field_inverse, g5, g2, g1, hlt, show (k : Int) < 6 by omega, w1, e2, hst]
      · have : k = 6 := by omega
        subst this
        simp [Ba_field_inverse, g5, g2])
  exact ⟨fr', rfl, h2', hk⟩
theorem un_neg_wd (x : W64) : unA .neg (wd x) = some (wd (0#64 - x)) := by
  have := wd_sub 0#64 x
  rw [← this]
  rfl
theorem ok_inverse (L : Lim) (h : AHeap) : acall ctx L i_field_inverse [] h = some (wd invW, h) := by
  rw [call_field_inverse]
  have hp : (cW pW)[0]? = some (wd 0x43e1f593f0000001#64) := rfl
  simp [C_field_inverse, limP, ok_prime, idxK, partA_one, hp]
  generalize hF : run ctx _ (.loop _) _ _ = R
  obtain ⟨fr1, rfl, h2, hk1⟩ := loop_inverse hF (by simp) (by simp [wd1]) (by simp)
  simp [hk1, h2, wr, Ba_field_inverse, dsts, un_neg_wd, invK_all]
/-! #### the product -/
theorem loop_prodM {fr : Fr} {h : AHeap} {R : Option (AEx × Fr × AHeap)} (t b : List W64) (x : W64) (z y : List AVal) (ht : t.length = 5) (hb : b.length = 4)
    (hF : run ctx (limP h) (.loop Ba_field_product) fr (hx h [z, y, cW t] []) = R)
    (h7 : fr 7 = pA h.blks.length 2 0) (h9 : fr 9 = wd x) (h10 : fr 10 = wd 0#64) (h21 : fr 21 = .agg (cW b)) (h22 : fr 22 = .int .i64 0) :
    ∃ fr', R = some (.exit 2, fr', hx h [z, y, cW (mulS t x b 4).1] []) ∧ fr' 10 = wd (mulS t x b 4).2 ∧ ∀ t, t ∉ wr Ba_field_product → fr' t = fr t := by
  obtain ⟨e, fr', h', rfl, ⟨rfl, rfl, h10'⟩, hk⟩ := loop_rule hF 4
    (fun k fr hh => fr 22 = .int .i64 k ∧ fr 10 = wd (mulS t x b k).2 ∧ hh = hx h [z, y, cW (mulS t x b k).1] [])
    (fun e fr hh => e = .exit 2 ∧ hh = hx h [z, y, cW (mulS t x b 4).1] [] ∧ fr 10 = wd (mulS t x b 4).2)
    ⟨h22, h10, rfl⟩ (by
      rintro k fr1 hh hkN hkeep ⟨g22, g10, rfl⟩
      have g7 := (hkeep 7 (by decide)).trans h7
      have g9 := (hkeep 9 (by decide)).trans h9
      have g21 := (hkeep 21 (by decide)).trans h21
      by_cases hlt : k < 4
      · have w1 : IntKind.i64.wrap ((k : Int) + 1) = k + 1 := wrap_i64 (by omega) (by omega)
        have hl := mulS_len t x b k
        have hst : mulS t x b (k + 1) = ((mulS t x b k).1.set k (lnL (gd (mulS t x b k).1 0#64 k) x (gd b 0#64 k) (mulS t x b k).2), lnH (gd (mulS t x b k).1 0#64 k) x (gd b 0#64 k) (mulS t x b k).2) := by rw [mulS]
        generalize mulS t x b k = q at *
        obtain ⟨u, c⟩ := q
        simp only at hl g10 hst
        have hl5 : u.length = 5 := hl.trans ht
        simp -implicitDefEqProofs [Ba_field_product, limP, g22, g10, g7, g9, g21, hlt, show (k : Int) < 4 by omega, show k ≤ 3 by omega, show k < 5 by omega, show k ≤ 4 by omega, w1, iadr_pA, idx_agg, partA_one, hb, ok_line, hl5, hst]
      · have : k = 4 := by omega
        subst this
        simp [Ba_field_product, g22, g10])
  exact ⟨fr', rfl, h10', hk⟩
theorem loop_prodR {fr : Fr} {h : AHeap} {R : Option (AEx × Fr × AHeap)} (t : List W64) (kk : W64) (z : List AVal) (ht : t.length = 5)
    (hF : run ctx (limP h) (.loop Bb_field_product) fr (hx h [z, cW pW, cW t] []) = R)
    (h5 : fr 5 = pA h.blks.length 1 0) (h7 : fr 7 = pA h.blks.length 2 0) (h13 : fr 13 = wd kk) (h10 : fr 10 = wd (redS t kk 0).2) (h14 : fr 14 = .int .i64 1) :
    ∃ fr', R = some (.exit 4, fr', hx h [z, cW pW, cW (redS t kk 3).1] []) ∧ fr' 10 = wd (redS t kk 3).2 ∧ ∀ t, t ∉ wr Bb_field_product → fr' t = fr t := by
  obtain ⟨e, fr', h', rfl, ⟨rfl, rfl, h10'⟩, hk⟩ := loop_rule hF 3
    (fun k fr hh => fr 14 = .int .i64 ((k + 1 : Nat) : Int) ∧ fr 10 = wd (redS t kk k).2 ∧ hh = hx h [z, cW pW, cW (redS t kk k).1] [])
    (fun e fr hh => e = .exit 4 ∧ hh = hx h [z, cW pW, cW (redS t kk 3).1] [] ∧ fr 10 = wd (redS t kk 3).2)
    ⟨h14, h10, rfl⟩ (by
      rintro k fr1 hh hkN hkeep ⟨g14, g10, rfl⟩
      have g5 := (hkeep 5 (by decide)).trans h5
      have g7 := (hkeep 7 (by decide)).trans h7
      have g13 := (hkeep 13 (by decide)).trans h13
      by_cases hlt : k < 3
      · have hl := redS_len t kk k
        have hst : redS t kk (k + 1) = ((redS t kk k).1.set k (lnL (gd (redS t kk k).1 0#64 (k + 1)) kk (gd pW 0#64 (k + 1)) (redS t kk k).2), lnH (gd (redS t kk k).1 0#64 (k + 1)) kk (gd pW 0#64 (k + 1)) (redS t kk k).2) := by rw [redS]
        generalize redS t kk k = q at *
        obtain ⟨u, c⟩ := q
        simp only at hl g10 hst
        have hl5 : u.length = 5 := hl.trans ht
        obtain ⟨j, hj⟩ : ∃ j, j = k + 1 := ⟨_, rfl⟩
        rw [← hj] at g14 hst
        have hpl : pW.length = 4 := rfl
        have w1 : IntKind.i64.wrap ((j : Int) + 1) = ((j + 1 : Nat) : Int) := wrap_i64 (by omega) (by omega)
        have w2 : IntKind.i64.wrap ((j : Int) - 1) = ((k : Nat) : Int) := by rw [← wrapN k (by omega)]; congr 1; omega
        simp -implicitDefEqProofs [Bb_field_product, limP, g14, g10, g5, g7, g13, hlt, show (j : Int) < 4 by omega, show j ≤ 3 by omega, show k < 5 by omega, show k ≤ 4 by omega, show j < 5 by omega, show j < 4 by omega, show j ≤ 4 by omega, show j ≤ 5 by omega, w1, w2, iadr_pA, ok_line, hl5, hpl, hst, ← hj]
      · have : k = 3 := by omega
        subst this
        simp [Bb_field_product, g14, g10])
  exact ⟨fr', rfl, h10', hk⟩
end Go.Av

namespace Go.Av
set_option maxHeartbeats 2000000
set_option maxRecDepth 20000
set_option linter.unusedSimpArgs false
set_option linter.unusedVariables false
theorem loop_prodO {fr : Fr} {h : AHeap} {R : Option (AEx × Fr × AHeap)} (a b : List W64) (z : List AVal) (ha : a.length = 4) (hb : b.length = 4)
    (hF : run ctx (limP h) (.loop Bc_field_product) fr (hx h [z, cW pW, cW (prodS a b 0)] []) = R)
    (h3 : fr 3 = .vptr (cW b) 0) (h5 : fr 5 = pA h.blks.length 1 0) (h6 : fr 6 = wd invW) (h7 : fr 7 = pA h.blks.length 2 0) (h17 : fr 17 = .agg (cW a)) (h18 : fr 18 = .int .i64 0) :
    ∃ fr', R = some (.exit 0, fr', hx h [z, cW pW, cW (prodS a b 4)] []) ∧ ∀ t, t ∉ wr Bc_field_product → fr' t = fr t := by
  obtain ⟨e, fr', h', rfl, ⟨rfl, rfl⟩, hk⟩ := loop_rule hF 4
    (fun k fr hh => fr 18 = .int .i64 k ∧ hh = hx h [z, cW pW, cW (prodS a b k)] [])
    (fun e fr hh => e = .exit 0 ∧ hh = hx h [z, cW pW, cW (prodS a b 4)] [])
    ⟨h18, rfl⟩ (by
      rintro k fr1 hh hkN hkeep ⟨g18, rfl⟩
      have g3 := (hkeep 3 (by decide)).trans h3
      have g5 := (hkeep 5 (by decide)).trans h5
      have g6 := (hkeep 6 (by decide)).trans h6
      have g7 := (hkeep 7 (by decide)).trans h7
      have g17 := (hkeep 17 (by decide)).trans h17
      by_cases hlt : k < 4
      · have w1 : IntKind.i64.wrap ((k : Int) + 1) = k + 1 := wrap_i64 (by omega) (by omega)
        have hl := prodS_len a b k
        have hst : prodS a b (k + 1) = roundS (prodS a b k) (gd a 0#64 k) b := rfl
        generalize hq : prodS a b k = t at *
        have h0 : (0#64 : W64).toNat = 0 := rfl
        simp [Bc_field_product, g18, g17, g3, hlt, show (k : Int) < 4 by omega, show k ≤ 3 by omega, idx_agg, partA_one, ha, hb, partAB, wd0]
        generalize hF : run ctx _ (.loop _) _ _ = R
        obtain ⟨fr2, rfl, q10, q1⟩ := loop_prodM t b (gd a 0#64 k) z (cW pW) hl hb hF (by simp [g7]) (by simp) (by simp) (by simp) (by simp)
        have hlm : (mulS t (gd a 0#64 k) b 4).1.length = 5 := (mulS_len _ _ _ _).trans hl
        have hr : prodS a b (k + 1) = endS (redS (adS (mulS t (gd a 0#64 k) b 4).1 (mulS t (gd a 0#64 k) b 4).2) (gd (adS (mulS t (gd a 0#64 k) b 4).1 (mulS t (gd a 0#64 k) b 4).2) 0#64 0 * invW) 3).1 (redS (adS (mulS t (gd a 0#64 k) b 4).1 (mulS t (gd a 0#64 k) b 4).2) (gd (adS (mulS t (gd a 0#64 k) b 4).1 (mulS t (gd a 0#64 k) b 4).2) 0#64 0 * invW) 3).2 := hst
        generalize mulS t (gd a 0#64 k) b 4 = m at *
        obtain ⟨u, c⟩ := m
        simp only at hlm q10 hr
        have had : u.set 4 (gd u 0#64 4 + c) = adS u c := rfl
        have hlu : (adS u c).length = 5 := (adS_len u c).trans hlm
        generalize hv : adS u c = v at *
        have hred0 : (redS v (gd v 0#64 0 * invW) 0) = (v, lnH (gd v 0#64 0) (gd v 0#64 0 * invW) (gd pW 0#64 0) 0#64) := rfl
        have hpl : pW.length = 4 := rfl
        have k4 : ∀ (i n off : Nat), iadrA (some 5) 1 (pA i n off) (.int .i64 4) = some (pA i n (off + 4)) := fun i n off => by simpa using iadr_pA 5 1 i n off 4 .i64 (by decide)
        have k3 : ∀ (i n off : Nat), iadrA (some 5) 1 (pA i n off) (.int .i64 3) = some (pA i n (off + 3)) := fun i n off => by simpa using iadr_pA 5 1 i n off 3 .i64 (by decide)
        simp -implicitDefEqProofs [q10, q1, wr, Ba_field_product, dsts, limP, g5, g6, g7, k4, hlm, had, hlu, hpl, ok_line]
        generalize hF : run ctx _ (.loop _) _ _ = R
        obtain ⟨fr3, rfl, p10, p1⟩ := loop_prodR v (gd v 0#64 0 * invW) z hlu hF (by simp [q1, wr, Ba_field_product, dsts, g5]) (by simp [q1, wr, Ba_field_product, dsts, g7]) (by simp) (by simp [hred0]) (by simp)
        have hlr : (redS v (gd v 0#64 0 * invW) 3).1.length = 5 := (redS_len _ _ _).trans hlu
        generalize redS v (gd v 0#64 0 * invW) 3 = m2 at *
        obtain ⟨u2, c2⟩ := m2
        simp only at hlr p10 hr
        have he : (u2.set 3 (adL (gd u2 0#64 4) c2 0#64)).set 4 (adH (gd u2 0#64 4) c2 0#64) = endS u2 c2 := rfl
        simp -implicitDefEqProofs [p10, p1, q1, wr, Ba_field_product, Bb_field_product, dsts, limP, g5, g6, g7, g18, k4, k3, hlr, wd0, ok_Add64, w1, he, hr]
        exact hlt
      · have : k = 4 := by omega
        subst this
        simp [Bc_field_product, g18])
  exact ⟨fr', rfl, hk⟩
theorem ok_product (L : Lim) (h : AHeap) (a b : List W64) (ha : a.length = 4) (hb : b.length = 4) (hp : val b < pN) :
    acall ctx L i_field_product [.agg (cW a), .agg (cW b)] h = some (.agg (cW (w4 (montN (val a) (val b)))), h) := by
  rw [call_field_product]
  have e0 : cW (tab 5 fun _ => 0#64) = cW (prodS a b 0) := rfl
  have hpl : pW.length = 4 := rfl
  simp -implicitDefEqProofs [C_field_product, limP, rep1_W, ok_prime, ok_inverse, partAB, stKB, setAtB, ha, hb, hpl]
  rw [e0]
  generalize hF : run ctx _ (.loop _) _ _ = R
  obtain ⟨fr1, rfl, hk1⟩ := loop_prodO a b _ ha hb hF (by simp) (by simp) (by simp) (by simp) (by simp) (by simp)
  obtain ⟨e1, e2⟩ := prod_lists ha hb hp
  have hl := prodS_len a b 4
  have hsl := slice_arrH 5 1 h.blks.length 2 0 4 .i64 (by decide)
  simp only [Int.cast_ofNat_Int] at hsl
  generalize prodS a b 4 = t at *
  have hl4 : (t.take 4).length = 4 := by simp [hl]
  have hbe := fun L h => ok_below L h (t.take 4) hl4
  simp only [e2] at hbe
  simp -implicitDefEqProofs [hk1, wr, Bc_field_product, Ba_field_product, Bb_field_product, dsts, hsl, s2a_sA, partA_cW, hl, hbe, stKB, setAtB, partAB]
end Go.Av

namespace Go.Av
set_option maxHeartbeats 2000000
set_option maxRecDepth 20000
set_option linter.unusedSimpArgs false
set_option linter.unusedVariables false
def dbl (k : Nat) : Nat := 2 ^ k % pN
theorem dbl_lt (k : Nat) : dbl k < pN := Nat.mod_lt _ pN_pos
theorem two_step (k : Nat) : belN (dbl k + dbl k) = dbl (k + 1) := by
  unfold dbl
  have h := Nat.mod_lt (2 ^ k) pN_pos
  rw [belN_mod (by omega), ← Nat.add_mod, Nat.pow_succ, Nat.mul_two]
theorem two_all : dbl 512 = rN * rN % pN := by decide +kernel
theorem loop_enter {fr : Fr} {h : AHeap} {R : Option (AEx × Fr × AHeap)} (z : List AVal)
    (hF : run ctx (limP h) (.loop Ba_field_enter) fr (hx h [z, cW (w4 (dbl 0))] []) = R)
    (h3 : fr 3 = pA h.blks.length 1 0) (h5 : fr 5 = .int .i64 0) :
    ∃ fr', R = some (.exit 0, fr', hx h [z, cW (w4 (dbl 512))] []) ∧ ∀ t, t ∉ wr Ba_field_enter → fr' t = fr t := by
  obtain ⟨e, fr', h', rfl, ⟨rfl, rfl⟩, hk⟩ := loop_rule hF 512
    (fun k fr hh => fr 5 = .int .i64 k ∧ hh = hx h [z, cW (w4 (dbl k))] [])
    (fun e fr hh => e = .exit 0 ∧ hh = hx h [z, cW (w4 (dbl 512))] [])
    ⟨h5, rfl⟩ (by
      rintro k fr1 hh hkN hkeep ⟨g5, rfl⟩
      have g3 := (hkeep 3 (by decide)).trans h3
      by_cases hlt : k < 512
      · have w1 : IntKind.i64.wrap ((k : Int) + 1) = k + 1 := wrap_i64 (by omega) (by omega)
        have hst := two_step k
        have hb := dbl_lt k
        have hb2 := dbl_lt (k + 1)
        generalize hv : dbl k = v at *
        generalize hv' : dbl (k + 1) = v' at *
        have hvl : v < rN := Nat.lt_trans hb (by decide)
        have hs2 : v + v < rN := Nat.lt_trans (Nat.add_lt_add hb hb) (by decide)
        have hp := fun L h => ok_plus L h (w4 v) (w4 v) rfl rfl (by rw [val_w4 v hvl]; exact hs2)
        have hbe := fun L h => ok_below L h (w4 (v + v)) rfl
        simp only [val_w4 v hvl] at hp
        simp only [val_w4 (v + v) hs2, hst] at hbe
        have l1 := w4_len v
        have l2 := w4_len (v + v)
        have l3 := w4_len v'
        generalize w4 v = a at *
        generalize w4 (v + v) = b at *
        generalize hc : w4 v' = c at *
        simp -implicitDefEqProofs [Ba_field_enter, limP, g5, g3, hlt, show (k : Int) < 512 by omega, w1, partAB, stKB, setAtB, hp, hbe, l1, l3, hv', hc]
      · have : k = 512 := by omega
        subst this
        simp [Ba_field_enter, g5])
  exact ⟨fr', rfl, hk⟩
theorem ok_enter (L : Lim) (h : AHeap) (a : List W64) (ha : a.length = 4) : acall ctx L i_field_enter [.agg (cW a)] h = some (.agg (cW (fe (val a))), h) := by
  rw [call_field_enter]
  have e0 : (cW (tab 4 fun _ => 0#64)).set 0 (wd 1#64) = cW (w4 (dbl 0)) := rfl
  have l0 := w4_len (dbl 0)
  simp -implicitDefEqProofs [C_field_enter, limP, rep1_W, fillA, wd1, stKB, setAtB, e0, l0]
  generalize hF : run ctx _ (.loop _) _ _ = R
  obtain ⟨fr1, rfl, hk1⟩ := loop_enter _ hF (by simp) (by simp)
  rw [two_all]
  have hlt : rN * rN % pN < pN := Nat.mod_lt _ pN_pos
  have hv := val_w4 (rN * rN % pN) (Nat.lt_trans hlt (by decide))
  have hp := fun L h => ok_product L h a (w4 (rN * rN % pN)) ha rfl (by rw [hv]; exact hlt)
  simp only [hv, mont_in] at hp
  have hfe : w4 (val a * rN % pN) = fe (val a) := rfl
  simp only [hfe] at hp
  have l1 := w4_len (rN * rN % pN)
  have l2 := fe_len (val a)
  generalize w4 (rN * rN % pN) = sq at *
  generalize fe (val a) = r at *
  simp -implicitDefEqProofs [hk1, wr, Ba_field_enter, dsts, partAB, stKB, setAtB, hp, ha, l1, l2, fillA]
end Go.Av
