/- Powers, matrices and the shift register of the program are those of the numbers. -/
import Derived.Test.YteionlpkpphkpaaC3
import Derived.Test.YteionlpkpphkpaaC8
namespace Go.Av
set_option maxHeartbeats 2000000
set_option maxRecDepth 20000
set_option linter.unusedSimpArgs false
set_option linter.unusedVariables false
theorem pN_rN : pN + pN < rN := by decide
theorem fe_sum_lt (x y : Nat) : val (fe x) + val (fe y) < rN := Nat.lt_trans (Nat.add_lt_add (val_fe_lt x) (val_fe_lt y)) pN_rN
theorem ok_Add (L : Lim) (h : AHeap) (x y : Nat) : acall ctx L i_field_Element_Add [.agg (cW (fe x)), .agg (cW (fe y))] h = some (.agg (cW (fe (x + y))), h) := by
  rw [call_field_Element_Add]
  have h1 := fun L h => ok_plus L h (fe x) (fe y) rfl rfl (fe_sum_lt x y)
  have h2 := fun L h => ok_below L h (w4 (val (fe x) + val (fe y))) rfl
  rw [val_w4 _ (fe_sum_lt x y), add_fe] at h2
  have l1 := fe_len x
  have l2 := fe_len y
  have l3 := fe_len (x + y)
  generalize w4 (val (fe x) + val (fe y)) = s at *
  generalize fe (x + y) = r at *
  generalize fe x = a at *
  generalize fe y = b at *
  simp -implicitDefEqProofs [C_field_Element_Add, limP, partAB, l1, l2, l3, h1, h2, fillA, stKB, setAtB, rep1_W]
theorem ok_Mul (L : Lim) (h : AHeap) (x y : Nat) : acall ctx L i_field_Element_Mul [.agg (cW (fe x)), .agg (cW (fe y))] h = some (.agg (cW (fe (x * y))), h) := by
  rw [call_field_Element_Mul]
  have h1 := fun L h => ok_product L h (fe x) (fe y) rfl rfl (val_fe_lt y)
  rw [mont_fe] at h1
  have l1 := fe_len x
  have l2 := fe_len y
  have l3 := fe_len (x * y)
  generalize fe (x * y) = r at *
  generalize fe x = a at *
  generalize fe y = b at *
  simp -implicitDefEqProofs [C_field_Element_Mul, limP, partAB, l1, l2, l3, h1, fillA, stKB, setAtB, rep1_W]
theorem ok_Square (L : Lim) (h : AHeap) (x : Nat) : acall ctx L i_field_Element_Square [.agg (cW (fe x))] h = some (.agg (cW (fe (x * x))), h) := by
  rw [call_field_Element_Square]
  have h1 := fun L h => ok_Mul L h x x
  have l1 := fe_len x
  have l3 := fe_len (x * x)
  generalize fe (x * x) = r at *
  generalize fe x = a at *
  simp -implicitDefEqProofs [C_field_Element_Square, limP, partAB, l1, l3, h1, fillA, stKB, setAtB, rep1_W]
theorem ok_FromUint64 (L : Lim) (h : AHeap) (v : W64) : acall ctx L i_field_FromUint64 [wd v] h = some (.agg (cW (fe v.toNat)), h) := by
  rw [call_field_FromUint64]
  have e0 : (cW (tab 4 fun _ => 0#64)).set 0 (wd v) = cW [v, 0#64, 0#64, 0#64] := rfl
  have h1 := fun L h => ok_enter L h [v, 0#64, 0#64, 0#64] rfl
  have hv : val [v, 0#64, 0#64, 0#64] = v.toNat := by simp [val]
  rw [hv] at h1
  have l3 := fe_len v.toNat
  generalize fe v.toNat = r at *
  generalize [v, 0#64, 0#64, 0#64] = q at *
  simp -implicitDefEqProofs [C_field_FromUint64, limP, partAB, l3, h1, fillA, stKB, setAtB, rep1_W, e0]
theorem fe_zero (x : Nat) : (fe x = tab 4 fun _ => 0#64) ↔ x % pN = 0 := by
  have h0 : (tab 4 fun _ => (0#64 : W64)) = fe 0 := by decide +kernel
  rw [h0]
  constructor
  · intro h
    have := fe_inj h
    rwa [Nat.zero_mod] at this
  · intro h
    rw [← fe_mod, h]
theorem ok_IsZero (L : Lim) (h : AHeap) (x : Nat) : acall ctx L i_field_Element_IsZero [.agg (cW (fe x))] h = some (.bool (decide (x % pN = 0)), h) := by
  rw [call_field_Element_IsZero]
  have e := eqA_cW (fe x) (tab 4 fun _ => 0#64) 4 rfl (by simp)
  have e2 : decide (fe x = tab 4 fun _ => 0#64) = decide (x % pN = 0) := by simp only [fe_zero]
  rw [e2] at e
  have l1 := fe_len x
  generalize fe x = a at *
  simp -implicitDefEqProofs [C_field_Element_IsZero, limP, partAB, l1, fillA, rep1_W, e, -eqA_agg]
theorem ok_Power (L : Lim) (h : AHeap) (x : Nat) : acall ctx L i_poseidon_Power [.agg (cW (fe x))] h = some (.agg (cW (fe (x ^ 5))), h) := by
  rw [call_poseidon_Power]
  have h1 := fun L h => ok_Square L h x
  have h2 := fun L h => ok_Square L h (x * x)
  have h3 := fun L h => ok_Mul L h (x * x * (x * x)) x
  have e : x * x * (x * x) * x = x ^ 5 := by simp [Nat.pow_succ, Nat.mul_assoc]
  rw [e] at h3
  have l1 := fe_len x
  have l3 := fe_len (x ^ 5)
  generalize fe (x ^ 5) = r at *
  generalize fe (x * x * (x * x)) = q at *
  generalize fe (x * x) = s at *
  generalize fe x = a at *
  simp -implicitDefEqProofs [C_poseidon_Power, limP, partAB, l1, l3, h1, h2, h3, stKB, setAtB, rep1_W]
theorem loop_Exp {fr : Fr} {h : AHeap} {R : Option (AEx × Fr × AHeap)} (x : Nat) (v : AVal) (e : List W64) (hr : RdW h v e) (hn : e.length < 1000000) (z : List AVal)
    (hF : run ctx (limP h) (.loop Ba_field_Element_Exp) fr (hx h [z, cW (fe 1)] []) = R)
    (h1 : fr 1 = v) (h2 : fr 2 = .vptr (cW (fe x)) 0) (h5 : fr 5 = pA h.blks.length 1 0) (h6 : fr 6 = .int .i64 (((bl (val e) : Nat) : Int) - 1)) :
    ∃ fr', R = some (.exit 0, fr', hx h [z, cW (fe (x ^ val e))] []) ∧ ∀ t, t ∉ wr Ba_field_Element_Exp → fr' t = fr t := by
  obtain ⟨r1, p, r2, r3⟩ := hr
  have hN : bl (val e) ≤ 64 * e.length := bl_le (by rw [← bN_pow]; exact val_lt e)
  have hvN : val e / 2 ^ bl (val e) = 0 := Nat.div_eq_of_lt (bl_lt _)
  obtain ⟨e', fr', h', rfl, ⟨rfl, rfl⟩, hk⟩ := loop_rule hF (bl (val e))
    (fun k fr hh => fr 6 = .int .i64 (((bl (val e) : Nat) : Int) - 1 - k) ∧ hh = hx h [z, cW (fe (x ^ (val e / 2 ^ (bl (val e) - k))))] [])
    (fun e' fr hh => e' = .exit 0 ∧ hh = hx h [z, cW (fe (x ^ val e))] [])
    ⟨by rw [h6]; simp, by rw [Nat.sub_zero, hvN, Nat.pow_zero]⟩ (by
      rintro k fr1 hh hkN hkeep ⟨g6, rfl⟩
      have g1 := (hkeep 1 (by decide)).trans h1
      have g2 := (hkeep 2 (by decide)).trans h2
      have g5 := (hkeep 5 (by decide)).trans h5
      by_cases hlt : k < bl (val e)
      · obtain ⟨i, hi⟩ : ∃ i : Nat, i = bl (val e) - 1 - k := ⟨_, rfl⟩
        have e1 : bl (val e) - k = i + 1 := by omega
        have e2 : bl (val e) - (k + 1) = i := by omega
        have hvb := val_bit e i
        have hil : i / 64 < e.length := by omega
        have g6' : fr1 6 = .int .i64 (i : Int) := by rw [g6]; congr 1; omega
        have w1 : IntKind.i64.wrap ((i : Int) - 1) = ((bl (val e) : Nat) : Int) - 1 - ((k + 1 : Nat) : Int) := (wrap_i64 (by omega) (by omega)).trans (by omega)
        have t1 : (i : Int).tdiv 64 = ((i / 64 : Nat) : Int) := tdivL i 64
        have t2 := wrapN (i / 64) (by omega)
        have t3 : (i : Int).tmod 64 = ((i % 64 : Nat) : Int) := tmodL i 64
        have hro := r2 (i / 64) hil
        have hsh := wd_shr (gd e 0#64 (i / 64)) .i64 (i % 64) (by simp; omega)
        have hstep : val e / 2 ^ i = 2 * (val e / 2 ^ (i + 1)) + val e / 2 ^ i % 2 := by
          rw [Nat.pow_succ, ← Nat.div_div_eq_div_mul]; omega
        have hrd := fun c => r3 (i / 64) [z, c] [] hil
        have hand : binA .and (wd (gd e 0#64 (i / 64) >>> (i % 64))) (wd 1#64) = some (wd (gd e 0#64 (i / 64) >>> (i % 64) &&& 1#64)) := wd_and _ _
        generalize gd e 0#64 (i / 64) >>> (i % 64) &&& 1#64 = bit at *
        generalize gd e 0#64 (i / 64) >>> (i % 64) = sh at *
        generalize gd e 0#64 (i / 64) = wq at *
        generalize i % 64 = ir at *
        generalize i / 64 = iq at *
        have hsq := fun L h => ok_Square L h (x ^ (val e / 2 ^ (i + 1)))
        have l1 := fe_len (x ^ (val e / 2 ^ (i + 1)))
        have l2 := fe_len (x ^ (val e / 2 ^ (i + 1)) * x ^ (val e / 2 ^ (i + 1)))
        have lx := fe_len x
        have hmu := fun L h => ok_Mul L h (x ^ (val e / 2 ^ (i + 1)) * x ^ (val e / 2 ^ (i + 1))) x
        have l3 := fe_len (x ^ (val e / 2 ^ (i + 1)) * x ^ (val e / 2 ^ (i + 1)) * x)
        rw [e1]
        by_cases hbz : val e / 2 ^ i % 2 = 0
        · have hfin : x ^ (val e / 2 ^ i) = x ^ (val e / 2 ^ (i + 1)) * x ^ (val e / 2 ^ (i + 1)) := by rw [hstep, hbz, Nat.add_zero, Nat.two_mul, Nat.pow_add]
          have hb0 : (bit == 1#64) = false := beq_false_of_ne fun q => by rw [q, hbz] at hvb; exact absurd hvb (by decide)
          rw [← hfin] at hsq l2
          generalize fe (x ^ (val e / 2 ^ (i + 1))) = o1 at *
          generalize ho2 : fe (x ^ (val e / 2 ^ i)) = o2 at *
          generalize fe x = ex at *
          simp -implicitDefEqProofs [Ba_field_Element_Exp, limP, g1, g2, g5, g6', show (0 : Int) ≤ (i : Int) by omega, t1, t2, t3, bin_quo, bin_rem, hro, hrd, hsh, wd1, hand, wd_eqlB, hb0, partAB, l1, l2, lx, hsq, hmu, stKB, setAtB, w1, -bin_shr, -bin_and, -wd_and, e2, ho2]
          exact hlt
        · have hb1 : val e / 2 ^ i % 2 = 1 := by omega
          have hfin : x ^ (val e / 2 ^ i) = x ^ (val e / 2 ^ (i + 1)) * x ^ (val e / 2 ^ (i + 1)) * x := by rw [hstep, hb1, Nat.two_mul, Nat.pow_succ, Nat.pow_add]
          have hb0 : (bit == 1#64) = true := by rw [beq_iff_eq]; exact BitVec.eq_of_toNat_eq (by rw [hvb, hb1]; rfl)
          rw [← hfin] at hmu l3
          generalize fe (x ^ (val e / 2 ^ (i + 1))) = o1 at *
          generalize ho2 : fe (x ^ (val e / 2 ^ i)) = o2 at *
          generalize fe (x ^ (val e / 2 ^ (i + 1)) * x ^ (val e / 2 ^ (i + 1))) = o3 at *
          generalize fe x = ex at *
          simp -implicitDefEqProofs [Ba_field_Element_Exp, limP, g1, g2, g5, g6', show (0 : Int) ≤ (i : Int) by omega, t1, t2, t3, bin_quo, bin_rem, hro, hrd, hsh, wd1, hand, wd_eqlB, hb0, partAB, l1, l2, l3, lx, hsq, hmu, stKB, setAtB, w1, -bin_shr, -bin_and, -wd_and, e2, ho2]
          exact hlt
      · have : k = bl (val e) := by omega
        subst this
        have hz : ((bl (val e) : Nat) : Int) - 1 - ((bl (val e) : Nat) : Int) = -1 := by omega
        rw [hz] at g6
        rw [Nat.sub_self, Nat.pow_zero, Nat.div_one]
        simp [Ba_field_Element_Exp, g6])
  exact ⟨fr', rfl, hk⟩
theorem ok_Exp (L : Lim) (h : AHeap) (x : Nat) (v : AVal) (e : List W64) (hr : RdW h v e) (hn : e.length < 1000000) : acall ctx L i_field_Element_Exp [.agg (cW (fe x)), v] h = some (.agg (cW (fe (x ^ val e))), h) := by
  rw [call_field_Element_Exp]
  have hB := fun L bs => ok_Bits L (hx h bs []) v e (hr.ext bs []) hn
  have hN : bl (val e) ≤ 64 * e.length := bl_le (by rw [← bN_pow]; exact val_lt e)
  have w1 : IntKind.i64.wrap (((bl (val e) : Nat) : Int) - 1) = ((bl (val e) : Nat) : Int) - 1 := wrap_i64 (by omega) (by omega)
  have hU := fun L h => ok_FromUint64 L h 1#64
  rw [show (1#64 : W64).toNat = 1 from rfl] at hU
  have l1 := fe_len 1
  have lx := fe_len x
  have l3 := fe_len (x ^ val e)
  have hlo := fun fr R => loop_Exp (fr := fr) (h := h) (R := R) x v e hr hn (cW (tab 4 fun _ => 0#64))
  generalize fe (x ^ val e) = r at *
  generalize fe 1 = o at *
  generalize fe x = a at *
  simp -implicitDefEqProofs [C_field_Element_Exp, limP, hB, w1, hU, wd1, rep1_W, stKB, setAtB, l1]
  generalize hF : run ctx _ (.loop _) _ _ = R
  obtain ⟨fr1, rfl, hk1⟩ := hlo _ _ hF (by simp) (by simp) (by simp) (by simp)
  simp -implicitDefEqProofs [hk1, wr, Ba_field_Element_Exp, dsts, partAB, stKB, setAtB, l3]
end Go.Av

namespace Go.Av
set_option maxHeartbeats 2000000
set_option maxRecDepth 20000
set_option linter.unusedSimpArgs false
set_option linter.unusedVariables false
def pW2 : List W64 := [0x43e1f593efffffff#64, 0x2833e84879b97091#64, 0xb85045b68181585d#64, 0x30644e72e131a029#64]
theorem val_p2 : val pW2 = pN - 2 := by decide +kernel
theorem ok_Inverse (L : Lim) (h : AHeap) (x : Nat) : acall ctx L i_field_Element_Inverse [.agg (cW (fe x))] h = some (.agg (cW (fe (x ^ (pN - 2)))), h) := by
  rw [call_field_Element_Inverse]
  have hsl := slice_arr 4 1 h.blks.length 1 0 (by decide)
  have hE := fun L => ok_Exp L (hx h [cW (tab 4 fun _ => 0#64), cW pW2] []) x (sA h.blks.length 1 0 1 4 (some 4)) pW2 (RdW.sA [] 1 4 _ pW2 rfl rfl) (by decide)
  rw [val_p2] at hE
  have hp4 : pW.length = 4 := rfl
  have h0 : ∀ hh : 0 < (cW pW).length, (cW pW)[0]'hh = wd 0x43e1f593f0000001#64 := fun _ => rfl
  have hset : (cW pW).set 0 (wd 0x43e1f593efffffff#64) = cW pW2 := rfl
  have e2 : AVal.int .u64 2 = wd 2#64 := rfl
  have hsub : binA .sub (wd 0x43e1f593f0000001#64) (wd 2#64) = some (wd 0x43e1f593efffffff#64) := by rw [wd_sub]; rfl
  have hl : (cW pW).length = 4 := rfl
  have l1 := fe_len x
  have l3 := fe_len (x ^ (pN - 2))
  generalize fe (x ^ (pN - 2)) = r at *
  generalize fe x = a at *
  generalize cW pW2 = pc2 at *
  generalize hpc : cW pW = pc at *
  simp -implicitDefEqProofs [C_field_Element_Inverse, limP, rep1_W, ok_prime, hpc, stKB, setAtB, hl, partA_one, h0, e2, hsub, hset, hsl, partAB, l1, l3, hE, -wd_sub]
theorem ok_leave (L : Lim) (h : AHeap) (x : Nat) : acall ctx L i_field_Element_leave [.agg (cW (fe x))] h = some (.agg (cW (w4 (x % pN))), h) := by
  rw [call_field_Element_leave]
  have e0 : (cW (tab 4 fun _ => 0#64)).set 0 (wd 1#64) = cW [1#64, 0#64, 0#64, 0#64] := rfl
  have hv : val [1#64, 0#64, 0#64, 0#64] = 1 := by decide +kernel
  have h1 := fun L h => ok_product L h (fe x) [1#64, 0#64, 0#64, 0#64] rfl rfl (by rw [hv]; decide)
  rw [hv, mont_out] at h1
  have l1 := fe_len x
  have l3 := w4_len (x % pN)
  generalize w4 (x % pN) = r at *
  generalize fe x = a at *
  generalize [1#64, 0#64, 0#64, 0#64] = q at *
  simp -implicitDefEqProofs [C_field_Element_leave, limP, partAB, l1, l3, h1, fillA, stKB, setAtB, rep1_W, e0, wd1]
/-- The bytes of a number below the prime. -/
def feB (x : Nat) : List Int := bytesL (w4 (x % pN))
@[simp] theorem feB_len (x : Nat) : (feB x).length = 32 := by simp [feB, bytesL]
theorem ok_Bytes (L : Lim) (h : AHeap) (x : Nat) : acall ctx L i_field_Element_Bytes [.agg (cW (fe x))] h = some (.agg (cI .u8 (feB x)), h) := by
  rw [call_field_Element_Bytes]
  have hsl := slice_arr 4 1 h.blks.length 1 0 (by decide)
  have hlv := fun L h => ok_leave L h x
  have hB := fun L z => ok_limbB L (hx h [z, cW (w4 (x % pN))] []) (w4 (x % pN)) (sA h.blks.length 1 0 1 4 (some 4)) (by simp) (RdW.sA [] 1 4 _ _ rfl rfl)
  have h2a := s2a_eI 32 false .u8 (feB x) (by simp)
  rw [List.take_of_length_le (by simp)] at h2a
  have l0 := feB_len x
  have l1 := fe_len x
  have l3 := w4_len (x % pN)
  have hf : bytesL (w4 (x % pN)) = feB x := rfl
  rw [hf] at hB
  generalize feB x = bs at *
  generalize w4 (x % pN) = r at *
  generalize fe x = a at *
  simp -implicitDefEqProofs [C_field_Element_Bytes, limP, partAB, l0, l1, l3, rep1_W, rep1_I, hlv, hsl, hB, h2a, stKB, setAtB]
theorem ok_FromBytes (L : Lim) (h : AHeap) (c : Bool) (b : List Int) (hb : inB b) (hl : b.length = 32) : acall ctx L i_field_FromBytes [.vsl c (eI .u8 b)] h =
    some (if leN b < pN then .tup [.agg (cW (fe (leN b))), .int .i64 0] else .tup [.agg (cW (tab 4 fun _ => 0#64)), .int .i64 4], h) := by
  rw [call_field_FromBytes]
  have hW := fun L H => ok_Words L H (.vsl false (eI .u8 b)) b (RdI.vsl H .u8 false b) (by omega)
  rw [hl, show (32 + 7) / 8 = 4 from rfl] at hW
  have hv := wdP_val b hb 4 (by omega)
  rw [hl] at hv
  have hwl : (wdP b 4 32).length = 4 := by simp
  have h2a := s2a_eW 4 false (wdP b 4 32) (by decide) (by simp)
  rw [List.take_of_length_le (by simp)] at h2a
  have hbo := fun L h => ok_borrow L h (wdP b 4 32) pW hwl rfl
  simp only [hv, val_p] at hbo
  have hE := fun L H => ok_enter L H (wdP b 4 32) hwl
  rw [hv] at hE
  generalize wdP b 4 32 = ws at *
  by_cases hlt : leN b < pN
  · simp only [if_pos hlt] at hbo
    rw [if_pos hlt]
    have l3 := w4_len (leN b + rN - pN)
    have l4 := fe_len (leN b)
    generalize w4 (leN b + rN - pN) = q at *
    generalize fe (leN b) = r at *
    have he : (wd 1#64 = AVal.int .u64 1) := rfl
    simp -implicitDefEqProofs [C_field_FromBytes, limP, hl, hW, h2a, partAB, hwl, rep1_W, stKB, setAtB, ok_prime, hbo, l3, l4, he, hE]
  · simp only [if_neg hlt] at hbo
    rw [if_neg hlt]
    have l3 := w4_len (leN b - pN)
    generalize w4 (leN b - pN) = q at *
    have he : (wd 0#64 = AVal.int .u64 0) := rfl
    simp -implicitDefEqProofs [C_field_FromBytes, limP, hl, hW, h2a, partAB, hwl, rep1_W, stKB, setAtB, ok_prime, hbo, l3, he, fillA]
end Go.Av

namespace Go.Av
set_option maxHeartbeats 2000000
set_option maxRecDepth 20000
set_option linter.unusedSimpArgs false
set_option linter.unusedVariables false
/-- The words of elements side by side. -/
def feL (l : List Nat) : List W64 := (l.map fe).flatten
@[simp] theorem feL_nil : feL [] = [] := rfl
theorem feL_cons (a : Nat) (l : List Nat) : feL (a :: l) = fe a ++ feL l := rfl
theorem feL_append (l m : List Nat) : feL (l ++ m) = feL l ++ feL m := by simp [feL]
@[simp] theorem feL_len : ∀ l : List Nat, (feL l).length = 4 * l.length
  | [] => rfl
  | a :: l => by rw [feL_cons, List.length_append, feL_len l, fe_len, List.length_cons]; omega
theorem feL_drop : ∀ (l : List Nat) (i : Nat), (feL l).drop (4 * i) = feL (l.drop i)
  | l, 0 => by simp
  | [], i + 1 => by simp
  | a :: l, i + 1 => by
    rw [feL_cons, List.drop_append, List.drop_of_length_le (by rw [fe_len]; omega), fe_len, show 4 * (i + 1) - 4 = 4 * i by omega, feL_drop l i]; rfl
theorem feL_take : ∀ (l : List Nat) (i : Nat), (feL l).take (4 * i) = feL (l.take i)
  | l, 0 => by simp
  | [], i + 1 => by simp
  | a :: l, i + 1 => by
    rw [feL_cons, List.take_append, List.take_of_length_le (by rw [fe_len]; omega), fe_len, show 4 * (i + 1) - 4 = 4 * i by omega, feL_take l i]; rfl
theorem feL_one (x : Nat) : feL [x] = fe x := by simp [feL]
theorem part_feL (pre : List AVal) (l : List Nat) (o i k : Nat) (ho : o = pre.length + 4 * i) (h : i + k ≤ l.length) : partA true (pre ++ cW (feL l)) o (4 * k) = some (.agg (cW (feL ((l.drop i).take k)))) := by
  subst ho
  unfold partA
  have h1 : pre.length + 4 * i + 4 * k ≤ (pre ++ cW (feL l)).length := by simp; omega
  have e : (pre ++ cW (feL l)).drop (pre.length + 4 * i) = cW ((feL l).drop (4 * i)) := by
    rw [List.drop_append, List.drop_of_length_le (by omega), List.nil_append, show pre.length + 4 * i - pre.length = 4 * i by omega, cW_drop]
  simp only [if_true, if_pos h1]
  rw [e, feL_drop, cW_take, feL_take]
theorem part_fe (pre : List AVal) (l : List Nat) (o i : Nat) (ho : o = pre.length + 4 * i) (h : i < l.length) : partA true (pre ++ cW (feL l)) o 4 = some (.agg (cW (fe (gd l 0 i)))) := by
  have := part_feL pre l o i 1 ho (by omega)
  rw [Nat.mul_one] at this
  rw [this]
  have e : (l.drop i).take 1 = [gd l 0 i] := by
    rw [List.drop_eq_getElem_cons h]
    have := gd_get? (d := 0) h
    rw [List.getElem?_eq_getElem h] at this
    simp only [List.take_succ_cons, List.take_zero, List.cons.injEq, and_true]
    exact Option.some.inj this
  rw [e, feL_one]
theorem set_feL (pre : List AVal) (l m : List Nat) (o i : Nat) (ho : o = pre.length + 4 * i) (h : i + m.length ≤ l.length) : setAt (pre ++ cW (feL l)) o (cW (feL m)) = pre ++ cW (feL (putAt l i m)) := by
  subst ho
  rw [setAt_put _ _ _ (by simp; omega)]
  unfold putAt
  rw [List.take_append, List.take_of_length_le (by omega), show pre.length + 4 * i - pre.length = 4 * i by omega, cW_take, feL_take]
  rw [List.drop_append, List.drop_of_length_le (by omega), List.nil_append, cW_len, feL_len, show pre.length + 4 * i + 4 * m.length - pre.length = 4 * (i + m.length) by omega, cW_drop, feL_drop]
  rw [feL_append, feL_append]
  simp [cW]
theorem putAt_one {α : Type} (l : List α) (i : Nat) (x : α) (h : i < l.length) : putAt l i [x] = l.set i x := by
  rw [List.set_eq_take_append_cons_drop, if_pos h]; rfl
theorem set_fe (pre : List AVal) (l : List Nat) (x o i : Nat) (ho : o = pre.length + 4 * i) (h : i < l.length) : setAt (pre ++ cW (feL l)) o (cW (fe x)) = pre ++ cW (feL (l.set i x)) := by
  rw [← feL_one, set_feL pre l [x] o i ho (by simp; omega), putAt_one l i x h]
/-- Without something ahead. -/
theorem part_feL0 (l : List Nat) (o i k : Nat) (ho : o = 4 * i) (h : i + k ≤ l.length) : partA true (cW (feL l)) o (4 * k) = some (.agg (cW (feL ((l.drop i).take k)))) := part_feL [] l o i k (by simpa using ho) h
theorem part_fe0 (l : List Nat) (o i : Nat) (ho : o = 4 * i) (h : i < l.length) : partA true (cW (feL l)) o 4 = some (.agg (cW (fe (gd l 0 i)))) := part_fe [] l o i (by simpa using ho) h
theorem set_fe0 (l : List Nat) (x o i : Nat) (ho : o = 4 * i) (h : i < l.length) : setAt (cW (feL l)) o (cW (fe x)) = cW (feL (l.set i x)) := set_fe [] l x o i (by simpa using ho) h
theorem zeros_fe : (tab 4 fun _ => (0#64 : W64)) = fe 0 := by decide +kernel
theorem zeros_feL (n : Nat) : (tab (4 * n) fun _ => (0#64 : W64)) = feL (tab n fun _ => 0) := by
  induction n with
  | zero => rfl
  | succ n ih =>
    rw [← tab_snoc, feL_append, ← ih, feL_one, ← zeros_fe]
    have : ∀ m k, (tab (m + k) fun _ => (0#64 : W64)) = (tab m fun _ => 0#64) ++ tab k fun _ => 0#64 := fun m k => by
      simp [tab, List.map_const', List.replicate_append_replicate]
    exact this (4 * n) 4
def sumN (l : List Nat) : Nat := l.foldl (· + ·) 0
theorem sumN_take (l : List Nat) (k : Nat) (h : k < l.length) : sumN (l.take (k + 1)) = sumN (l.take k) + gd l 0 k := by
  rw [take_snoc 0 h]; simp [sumN]
theorem loop_Sum {fr : Fr} {h : AHeap} {R : Option (AEx × Fr × AHeap)} (c : Bool) (l : List Nat) (hn : l.length < 1000000) (z : List AVal)
    (hF : run ctx (limP h) (.loop Ba_field_Sum) fr (hx h [z, cW (fe 0)] []) = R)
    (h6 : fr 6 = .vsl c (l.map fun x => cW (fe x))) (h3 : fr 3 = pA h.blks.length 1 0) (h7 : fr 7 = .int .i64 l.length) (h8 : fr 8 = .int .i64 0) :
    ∃ fr' js, R = some (.exit 0, fr', hx h (z :: cW (fe (sumN l)) :: js) []) ∧ ∀ t, t ∉ wr Ba_field_Sum → fr' t = fr t := by
  obtain ⟨e', fr', h', rfl, ⟨rfl, js, rfl⟩, hk⟩ := loop_rule hF l.length
    (fun k fr hh => fr 8 = .int .i64 k ∧ ∃ js, hh = hx h (z :: cW (fe (sumN (l.take k))) :: js) [])
    (fun e' fr hh => e' = .exit 0 ∧ ∃ js, hh = hx h (z :: cW (fe (sumN l)) :: js) [])
    ⟨h8, [], rfl⟩ (by
      rintro k fr1 hh hkN hkeep ⟨g8, js, rfl⟩
      have g6 := (hkeep 6 (by decide)).trans h6
      have g3 := (hkeep 3 (by decide)).trans h3
      have g7 := (hkeep 7 (by decide)).trans h7
      by_cases hlt : k < l.length
      · have w1 : IntKind.i64.wrap ((k : Int) + 1) = k + 1 := wrap_i64 (by omega) (by omega)
        have hia : iadrA none 4 (.vsl c (l.map fun x => cW (fe x))) (.int .i64 (k : Int)) = some (.vptr (cW (fe (gd l 0 k))) 0) := by
          have e := gd_get? (d := 0) hlt
          rw [List.getElem?_eq_getElem hlt] at e
          have e' := Option.some.inj e
          simp [iadrA, asI, hlt, e']
        have hA := fun L h => ok_Add L h (sumN (l.take k)) (gd l 0 k)
        have l1 := fe_len (sumN (l.take k))
        have l2 := fe_len (gd l 0 k)
        have l3 := fe_len (sumN (l.take k) + gd l 0 k)
        rw [← sumN_take l k hlt] at hA l3
        generalize hr : fe (sumN (l.take (k + 1))) = r at *
        generalize fe (sumN (l.take k)) = a at *
        generalize fe (gd l 0 k) = b at *
        simp -implicitDefEqProofs [Ba_field_Sum, limP, g3, g6, g7, g8, hlt, w1, hia, hA, rep1_W, stKB, setAtB, l1, l2, l3, partAB]
        rw [hr]
        exact ⟨_, rfl⟩
      · have : k = l.length := by omega
        subst this
        rw [List.take_length]
        simp [Ba_field_Sum, g8, g7]
        exact ⟨js, rfl⟩)
  exact ⟨fr', js, rfl, hk⟩
theorem ok_Sum (L : Lim) (h : AHeap) (c : Bool) (l : List Nat) (hn : l.length < 1000000) : acall ctx L i_field_Sum [.vsl c (l.map fun x => cW (fe x))] h = some (.agg (cW (fe (sumN l))), h) := by
  rw [call_field_Sum]
  have hlo := fun fr R => loop_Sum (fr := fr) (h := h) (R := R) false l hn (cW (fe 0))
  have l3 := fe_len (sumN l)
  have l0 := fe_len 0
  generalize fe (sumN l) = r at *
  have hz := zeros_fe
  generalize fe 0 = o at *
  simp -implicitDefEqProofs [C_field_Sum, limP, rep1_W, hz, lenA]
  generalize hF : run ctx _ (.loop _) _ _ = R
  obtain ⟨fr1, js, rfl, hk1⟩ := hlo _ _ hF (by simp) (by simp) (by simp) (by simp)
  simp -implicitDefEqProofs [hk1, wr, Ba_field_Sum, dsts, partAB, stKB, setAtB, l3, l0]
theorem ok_dot (L : Lim) (h : AHeap) (a b c x y z : Nat) : acall ctx L i_matrix_Vector_dot [.agg (cW (feL [a, b, c])), .agg (cW (feL [x, y, z]))] h = some (.agg (cW (fe (a * x + b * y + c * z))), h) := by
  rw [call_matrix_Vector_dot]
  have h1 := fun L h => ok_Mul L h a x
  have h2 := fun L h => ok_Mul L h b y
  have h3 := fun L h => ok_Mul L h c z
  have hS := fun L h c' => ok_Sum L h c' [a * x, b * y, c * z] (by simp)
  have e : sumN [a * x, b * y, c * z] = a * x + b * y + c * z := by simp [sumN]
  rw [e] at hS
  simp only [List.map_cons, List.map_nil] at hS
  have pa : partA true (cW (feL [a, b, c])) 0 4 = some (.agg (cW (fe a))) := part_fe0 [a, b, c] 0 0 rfl (by simp)
  have pb : partA true (cW (feL [a, b, c])) 4 4 = some (.agg (cW (fe b))) := part_fe0 [a, b, c] 4 1 rfl (by simp)
  have pc : partA true (cW (feL [a, b, c])) 8 4 = some (.agg (cW (fe c))) := part_fe0 [a, b, c] 8 2 rfl (by simp)
  have px : partA true (cW (feL [x, y, z])) 0 4 = some (.agg (cW (fe x))) := part_fe0 [x, y, z] 0 0 rfl (by simp)
  have py : partA true (cW (feL [x, y, z])) 4 4 = some (.agg (cW (fe y))) := part_fe0 [x, y, z] 4 1 rfl (by simp)
  have pz : partA true (cW (feL [x, y, z])) 8 4 = some (.agg (cW (fe z))) := part_fe0 [x, y, z] 8 2 rfl (by simp)
  have hf : ∀ u v w : List W64, u.length = 4 → v.length = 4 → w.length = 4 → fillA (rep (cW (tab 4 fun _ => 0#64)) 3) [(0, 4, .agg (cW u)), (4, 4, .agg (cW v)), (8, 4, .agg (cW w))] = some (cW u ++ (cW v ++ cW w)) ∧ chunks 4 3 (cW u ++ (cW v ++ cW w)) = [cW u, cW v, cW w] := by
    intro u v w hu hv hw
    match u, v, w, hu, hv, hw with
    | [_, _, _, _], [_, _, _, _], [_, _, _, _], _, _, _ => exact ⟨rfl, rfl⟩
  have hf1 := fun u v w hu hv hw => (hf u v w hu hv hw).1
  have hf2 := fun u v w hu hv hw => (hf u v w hu hv hw).2
  have hf1' := hf1 _ _ _ (fe_len (a * x)) (fe_len (b * y)) (fe_len (c * z))
  have hf2' := hf2 _ _ _ (fe_len (a * x)) (fe_len (b * y)) (fe_len (c * z))
  have l3 := fe_len (a * x + b * y + c * z)
  generalize fe (a * x + b * y + c * z) = r at *
  generalize fe (a * x) = m1 at *
  generalize fe (b * y) = m2 at *
  generalize fe (c * z) = m3 at *
  generalize feL [a, b, c] = v1 at *
  generalize feL [x, y, z] = v2 at *
  simp -implicitDefEqProofs [C_matrix_Vector_dot, limP, pa, pb, pc, px, py, pz, h1, h2, h3, hf1', hf2', hS, iadrA, asI, stKB, setAtB, l3, rep1_W, partAB]
/-- A matrix and a vector. -/
def applyN (m v : List Nat) : List Nat := tab 3 fun i => (gd m 0 (3 * i) * gd v 0 0 + gd m 0 (3 * i + 1) * gd v 0 1 + gd m 0 (3 * i + 2) * gd v 0 2) % pN
@[simp] theorem applyN_len (m v : List Nat) : (applyN m v).length = 3 := by simp [applyN]
theorem len3 {α : Type} {l : List α} (h : l.length = 3) : ∃ a b c, l = [a, b, c] := match l, h with
  | [a, b, c], _ => ⟨a, b, c, rfl⟩
theorem len9 {α : Type} {l : List α} (h : l.length = 9) : ∃ a b c d e f g i j, l = [a, b, c, d, e, f, g, i, j] := match l, h with
  | [a, b, c, d, e, f, g, i, j], _ => ⟨a, b, c, d, e, f, g, i, j, rfl⟩
theorem ok_Apply (L : Lim) (h : AHeap) (m v : List Nat) (hm : m.length = 9) (hv : v.length = 3) : acall ctx L i_matrix_Matrix_Apply [.agg (cW (feL m)), .agg (cW (feL v))] h = some (.agg (cW (feL (applyN m v))), h) := by
  obtain ⟨a, b, c, d, e, f, g, i, j, rfl⟩ := len9 hm
  obtain ⟨x, y, z, rfl⟩ := len3 hv
  rw [call_matrix_Matrix_Apply]
  have h1 := fun L h => ok_dot L h a b c x y z
  have h2 := fun L h => ok_dot L h d e f x y z
  have h3 := fun L h => ok_dot L h g i j x y z
  have hr : feL (applyN [a, b, c, d, e, f, g, i, j] [x, y, z]) = fe (a * x + b * y + c * z) ++ (fe (d * x + e * y + f * z) ++ fe (g * x + i * y + j * z)) := by
    have : applyN [a, b, c, d, e, f, g, i, j] [x, y, z] = [(a * x + b * y + c * z) % pN, (d * x + e * y + f * z) % pN, (g * x + i * y + j * z) % pN] := rfl
    rw [this]
    simp [feL, fe_mod]
  rw [hr]
  have pa : partA true (cW (feL [a, b, c, d, e, f, g, i, j])) 0 12 = some (.agg (cW (feL [a, b, c]))) := part_feL0 _ 0 0 3 rfl (by simp)
  have pb : partA true (cW (feL [a, b, c, d, e, f, g, i, j])) 12 12 = some (.agg (cW (feL [d, e, f]))) := part_feL0 _ 12 3 3 rfl (by simp)
  have pc : partA true (cW (feL [a, b, c, d, e, f, g, i, j])) 24 12 = some (.agg (cW (feL [g, i, j]))) := part_feL0 _ 24 6 3 rfl (by simp)
  have px : partA true (cW (feL [x, y, z])) 0 12 = some (.agg (cW (feL [x, y, z]))) := part_feL0 _ 0 0 3 rfl (by simp)
  have hf : ∀ u v w : List W64, u.length = 4 → v.length = 4 → w.length = 4 → fillA (cW (tab 12 fun _ => 0#64)) [(0, 4, .agg (cW u)), (4, 4, .agg (cW v)), (8, 4, .agg (cW w))] = some (cW (u ++ (v ++ w))) := by
    intro u v w hu hv hw
    match u, v, w, hu, hv, hw with
    | [_, _, _, _], [_, _, _, _], [_, _, _, _], _, _, _ => exact rfl
  have hf' := hf _ _ _ (fe_len (a * x + b * y + c * z)) (fe_len (d * x + e * y + f * z)) (fe_len (g * x + i * y + j * z))
  have l1 := fe_len (a * x + b * y + c * z)
  have l2 := fe_len (d * x + e * y + f * z)
  have l3 := fe_len (g * x + i * y + j * z)
  have l4 : (fe (a * x + b * y + c * z) ++ (fe (d * x + e * y + f * z) ++ fe (g * x + i * y + j * z))).length = 12 := by simp [l1, l2, l3]
  generalize fe (a * x + b * y + c * z) = m1 at *
  generalize fe (d * x + e * y + f * z) = m2 at *
  generalize fe (g * x + i * y + j * z) = m3 at *
  generalize m1 ++ (m2 ++ m3) = mm at *
  generalize feL [a, b, c, d, e, f, g, i, j] = q1 at *
  generalize feL [x, y, z] = q2 at *
  simp -implicitDefEqProofs [C_matrix_Matrix_Apply, limP, pa, pb, pc, px, h1, h2, h3, hf', iadrA, asI, stKB, setAtB, l4, rep1_W, partAB]
/-! #### Cauchy's matrix -/
def cauN (i : Nat) : Nat := (i / 3 + i % 3 + 3) ^ (pN - 2) % pN
def cauchyN : List Nat := tab 9 cauN
theorem ok_Cauchy1 (L : Lim) (h : AHeap) (i j : Nat) (hi : i < 3) (hj : j < 3) : acall ctx L i_matrix_Cauchy_1 [.int .i64 (i : Int), .int .i64 (j : Int)] h = some (.agg (cW (fe (cauN (3 * i + j)))), h) := by
  rw [call_matrix_Cauchy_1]
  have w1 : IntKind.i64.wrap ((i : Int) + (j : Int)) = ((i + j : Nat) : Int) := (wrap_i64 (by omega) (by omega)).trans (by omega)
  have w2 : IntKind.i64.wrap (((i + j : Nat) : Int) + 3) = ((i + j + 3 : Nat) : Int) := (wrap_i64 (by omega) (by omega)).trans (by omega)
  have hb : bw ((i + j + 3 : Nat) : Int) = BitVec.ofNat 64 (i + j + 3) := by unfold bw; rw [BitVec.ofInt_natCast]
  have hU := fun L h => ok_FromUint64 L h (BitVec.ofNat 64 (i + j + 3))
  have e : (BitVec.ofNat 64 (i + j + 3) : W64).toNat = i + j + 3 := by simp; omega
  rw [e] at hU
  have hI := fun L h => ok_Inverse L h (i + j + 3)
  have hc : fe (cauN (3 * i + j)) = fe ((i + j + 3) ^ (pN - 2)) := by
    unfold cauN
    rw [fe_mod, show (3 * i + j) / 3 = i by omega, show (3 * i + j) % 3 = j by omega]
  rw [hc]
  have l1 := fe_len (i + j + 3)
  have l3 := fe_len ((i + j + 3) ^ (pN - 2))
  generalize fe ((i + j + 3) ^ (pN - 2)) = r at *
  generalize fe (i + j + 3) = a at *
  generalize i + j + 3 = s at *
  generalize i + j = t at *
  simp -implicitDefEqProofs [C_matrix_Cauchy_1, limP, w1, w2, hb, hU, hI, stKB, setAtB, l3, rep1_W, partAB, -wd_add, -i2iK_int]
def fnC : AVal := .fn (.func i_matrix_Cauchy_1) [] []
theorem loop_build1 {fr : Fr} {h : AHeap} {R : Option (AEx × Fr × AHeap)} (i : Nat) (hi : i < 3)
    (hF : run ctx (limP h) (.loop Ba_matrix_build) fr (hx h [cW (feL (mixT 9 cauN (fun _ => 0) (3 * i)))] []) = R)
    (h0 : fr 0 = fnC) (h2 : fr 2 = pA h.blks.length 0 0) (h3 : fr 3 = .int .i64 (i : Int)) (h8 : fr 8 = .int .i64 0) :
    ∃ fr', R = some (.exit 2, fr', hx h [cW (feL (mixT 9 cauN (fun _ => 0) (3 * (i + 1))))] []) ∧ ∀ t, t ∉ wr Ba_matrix_build → fr' t = fr t := by
  obtain ⟨e', fr', h', rfl, ⟨rfl, rfl⟩, hk⟩ := loop_rule hF 3
    (fun k fr hh => fr 8 = .int .i64 k ∧ hh = hx h [cW (feL (mixT 9 cauN (fun _ => 0) (3 * i + k)))] [])
    (fun e' fr hh => e' = .exit 2 ∧ hh = hx h [cW (feL (mixT 9 cauN (fun _ => 0) (3 * (i + 1))))] [])
    ⟨h8, rfl⟩ (by
      rintro k fr1 hh hkN hkeep ⟨g8, rfl⟩
      have g0 := (hkeep 0 (by decide)).trans h0
      have g2 := (hkeep 2 (by decide)).trans h2
      have g3 := (hkeep 3 (by decide)).trans h3
      by_cases hlt : k < 3
      · have w1 : IntKind.i64.wrap ((k : Int) + 1) = k + 1 := wrap_i64 (by omega) (by omega)
        have hC := fun L h => ok_Cauchy1 L h i k hi hlt
        have i1 := iadr_pA 3 12 h.blks.length 0 0 i .i64 (by simpa using hi)
        have i2 := iadr_pA 3 4 h.blks.length 0 (0 + i * 12) k .i64 (by simpa using hlt)
        have hs := set_fe0 (mixT 9 cauN (fun _ => 0) (3 * i + k)) (cauN (3 * i + k)) (0 + i * 12 + k * 4) (3 * i + k) (by omega) (by simp; omega)
        rw [mixT_set] at hs
        have hn : mixT 9 cauN (fun _ => 0) (3 * i + k + 1) = mixT 9 cauN (fun _ => 0) (3 * i + (k + 1)) := rfl
        rw [hn] at hs
        have l1 := fe_len (cauN (3 * i + k))
        have hob : 0 + i * 12 + k * 4 + 4 ≤ (feL (mixT 9 cauN (fun _ => 0) (3 * i + k))).length := by simp; omega
        generalize fe (cauN (3 * i + k)) = c at *
        generalize feL (mixT 9 cauN (fun _ => 0) (3 * i + k)) = m1 at *
        generalize hm2 : feL (mixT 9 cauN (fun _ => 0) (3 * i + (k + 1))) = m2 at *
        generalize 0 + i * 12 + k * 4 = o at *
        generalize 0 + i * 12 = o1 at *
        simp -implicitDefEqProofs [Ba_matrix_build, limP, g0, g2, g3, g8, fnC, show (k : Int) < 3 by omega, w1, hC, i1, i2, stKB, l1, hs, hm2, hob]
        exact hlt
      · have : k = 3 := by omega
        subst this
        rw [show 3 * i + 3 = 3 * (i + 1) by omega]
        simp [Ba_matrix_build, g8])
  exact ⟨fr', rfl, hk⟩
theorem loop_build {fr : Fr} {h : AHeap} {R : Option (AEx × Fr × AHeap)}
    (hF : run ctx (limP h) (.loop Bb_matrix_build) fr (hx h [cW (feL (tab 9 fun _ => 0))] []) = R)
    (h0 : fr 0 = fnC) (h2 : fr 2 = pA h.blks.length 0 0) (h5 : fr 5 = .int .i64 0) :
    ∃ fr', R = some (.exit 0, fr', hx h [cW (feL cauchyN)] []) ∧ ∀ t, t ∉ wr Bb_matrix_build → fr' t = fr t := by
  obtain ⟨e', fr', h', rfl, ⟨rfl, rfl⟩, hk⟩ := loop_rule hF 3
    (fun k fr hh => fr 5 = .int .i64 k ∧ hh = hx h [cW (feL (mixT 9 cauN (fun _ => 0) (3 * k)))] [])
    (fun e' fr hh => e' = .exit 0 ∧ hh = hx h [cW (feL cauchyN)] [])
    ⟨h5, by rw [Nat.mul_zero, mixT_zero]⟩ (by
      rintro k fr1 hh hkN hkeep ⟨g5, rfl⟩
      have g0 := (hkeep 0 (by decide)).trans h0
      have g2 := (hkeep 2 (by decide)).trans h2
      by_cases hlt : k < 3
      · have w1 : IntKind.i64.wrap ((k : Int) + 1) = k + 1 := wrap_i64 (by omega) (by omega)
        have hlo := fun fr R => loop_build1 (fr := fr) (h := h) (R := R) k hlt
        generalize feL (mixT 9 cauN (fun _ => 0) (3 * k)) = m1 at *
        generalize hm2 : feL (mixT 9 cauN (fun _ => 0) (3 * (k + 1))) = m2 at *
        simp -implicitDefEqProofs [Bb_matrix_build, limP, g0, g2, g5, show (k : Int) < 3 by omega]
        generalize hF : run ctx _ (.loop _) _ _ = R
        obtain ⟨fr2, rfl, hk2⟩ := hlo _ _ hF (by simp [g0]) (by simp [g2]) (by simp) (by simp)
        simp -implicitDefEqProofs [hk2, wr, Ba_matrix_build, dsts, g5, w1, hm2]
        exact hlt
      · have : k = 3 := by omega
        subst this
        rw [show 3 * 3 = 9 by rfl, mixT_all]
        simp [Bb_matrix_build, g5, cauchyN])
  exact ⟨fr', rfl, hk⟩
theorem ok_build (L : Lim) (h : AHeap) : acall ctx L i_matrix_build [fnC] h = some (.agg (cW (feL cauchyN)), h) := by
  rw [call_matrix_build]
  have hz := zeros_feL 9
  simp only [show 4 * 9 = 36 from rfl] at hz
  have hlo := fun fr R => loop_build (fr := fr) (h := h) (R := R)
  have l1 : (feL cauchyN).length = 36 := by simp [cauchyN]
  have l2 : (feL (tab 9 fun _ => 0)).length = 36 := by simp
  generalize feL cauchyN = c at *
  generalize feL (tab 9 fun _ => 0) = z at *
  unfold fnC at *
  have hfz : fzA h (.fn (.func i_matrix_Cauchy_1) [] []) = some (.fn (.func i_matrix_Cauchy_1) [] [], false) := by simp only [fzA]
  simp -implicitDefEqProofs [C_matrix_build, limP, rep1_W, hz, hfz]
  generalize hF : run ctx _ (.loop _) _ _ = R
  obtain ⟨fr1, rfl, hk1⟩ := hlo _ _ hF (by simp) (by simp) (by simp)
  simp -implicitDefEqProofs [hk1, wr, Ba_matrix_build, Bb_matrix_build, dsts, partAB, stKB, setAtB, l1, l2]
theorem ok_Cauchy (L : Lim) (h : AHeap) : acall ctx L i_matrix_Cauchy [] h = some (.agg (cW (feL cauchyN)), h) := by
  rw [call_matrix_Cauchy]
  have hB := ok_build
  have l1 : (feL cauchyN).length = 36 := by simp [cauchyN]
  generalize feL cauchyN = c at *
  unfold fnC at hB
  simp -implicitDefEqProofs [C_matrix_Cauchy, limP, rep1_W, hB, partAB, stKB, setAtB, l1]
end Go.Av

namespace Go.Av
set_option maxHeartbeats 2000000
set_option maxRecDepth 20000
set_option linter.unusedSimpArgs false
set_option linter.unusedVariables false
/-- The bit of a turn; the state is a number, its lowest bit the oldest. -/
def bitG (s : Nat) : Bool := (s ^^^ (s >>> 13) ^^^ (s >>> 23) ^^^ (s >>> 38) ^^^ (s >>> 51) ^^^ (s >>> 62)).testBit 0
def turnN (s : Nat) : Nat := 2 ^ 79 * (bitG s).toNat + s >>> 1
def tapN (k : Nat) : Nat := gd [13, 23, 38, 51, 62] 0 k
def pxN (s : Nat) : Nat → Bool
  | 0 => s.testBit 0
  | k + 1 => pxN s k ^^ s.testBit (tapN k)
theorem pxN_all (s : Nat) : pxN s 5 = bitG s := by
  show ((((((s.testBit 0 ^^ s.testBit 13) ^^ s.testBit 23) ^^ s.testBit 38) ^^ s.testBit 51) ^^ s.testBit 62)) = bitG s
  simp only [bitG, Nat.testBit_xor, Nat.testBit_shiftRight, Nat.add_zero]
theorem turnN_lt (s : Nat) (h : s < 2 ^ 80) : turnN s < 2 ^ 80 := by
  unfold turnN
  have : s >>> 1 < 2 ^ 79 := by rw [Nat.shiftRight_eq_div_pow]; omega
  have : (bitG s).toNat ≤ 1 := by cases bitG s <;> decide
  generalize (bitG s).toNat = b at *
  have : 2 ^ 79 * b ≤ 2 ^ 79 := by
    calc 2 ^ 79 * b ≤ 2 ^ 79 * 1 := Nat.mul_le_mul_left _ this
      _ = 2 ^ 79 := by omega
  omega
theorem turnN_bit (s i : Nat) (h : s < 2 ^ 80) : (turnN s).testBit i = if i < 79 then s.testBit (i + 1) else (bitG s).toNat.testBit (i - 79) := by
  unfold turnN
  have h1 : s >>> 1 < 2 ^ 79 := by rw [Nat.shiftRight_eq_div_pow]; omega
  rw [Nat.testBit_two_pow_mul_add _ h1, Nat.testBit_shiftRight, Nat.add_comm 1 i]
/-- The block of a source. -/
def ringG (s a : Nat) : List Bool := tab 80 fun j => s.testBit ((j + 80 - a) % 80)
def srcC (s a : Nat) : List AVal := cB (ringG s a) ++ [AVal.int .i64 (a : Int)]
@[simp] theorem ringG_len (s a : Nat) : (ringG s a).length = 80 := by simp [ringG]
@[simp] theorem srcC_len (s a : Nat) : (srcC s a).length = 81 := by simp [srcC]
theorem ringG_gd (s a i : Nat) (ha : a < 80) (hi : i < 80) : gd (ringG s a) false ((a + i) % 80) = s.testBit i := by
  unfold ringG
  rw [gd_tab (by omega)]
  congr 1; omega
theorem ringG_turn (s a : Nat) (hs : s < 2 ^ 80) (ha : a < 80) : (ringG s a).set a (bitG s) = ringG (turnN s) ((a + 1) % 80) := by
  unfold ringG
  rw [tab_set]
  refine tab_congr fun j hj => ?_
  rw [turnN_bit _ _ hs]
  by_cases hja : j = a
  · subst hja
    rw [if_pos rfl]
    by_cases h79 : j + 1 = 80
    · rw [h79]
      rw [if_neg (by omega)]
      rw [show (j + 80 - 80 % 80) % 80 - 79 = 0 by omega]
      cases bitG s <;> decide
    · rw [show (j + 1) % 80 = j + 1 by omega, if_neg (by omega), show (j + 80 - (j + 1)) % 80 - 79 = 0 by omega]
      cases bitG s <;> decide
  · rw [if_neg hja]
    have e : (j + 80 - (a + 1) % 80) % 80 + 1 = (j + 80 - a) % 80 := by omega
    rw [if_pos (by omega), e]
theorem srcC_at (s a : Nat) : (srcC s a)[80]? = some (.int .i64 (a : Int)) := by
  unfold srcC; rw [List.getElem?_append_right (by simp)]; simp
theorem srcC_atE (s a : Nat) (h : 80 < (srcC s a).length) : (srcC s a)[80] = .int .i64 (a : Int) := by
  have := srcC_at s a
  rw [List.getElem?_eq_getElem h] at this
  exact Option.some.inj this
theorem srcC_get (s a i : Nat) (h : i < 80) : (srcC s a)[i]? = some (.bool (gd (ringG s a) false i)) := by
  unfold srcC; rw [List.getElem?_append_left (by simpa using h)]; exact cB_at (by simpa using h)
theorem srcC_set (s a : Nat) (hs : s < 2 ^ 80) (ha : a < 80) : (srcC s a).set a (.bool (bitG s)) = cB (ringG (turnN s) ((a + 1) % 80)) ++ [AVal.int .i64 (a : Int)] := by
  unfold srcC
  rw [List.set_append_left _ _ (by simpa using ha), cB_set, ringG_turn s a hs ha]
theorem srcC_setn (l : List Bool) (x y : AVal) (h : l.length = 80) : (cB l ++ [x]).set 80 y = cB l ++ [y] := by
  rw [List.set_append_right _ _ (by simp [h])]; simp [h]
theorem getE_of {α : Type} {l : List α} {i : Nat} {x : α} (h : l[i]? = some x) : ∀ hh : i < l.length, l[i]'hh = x := fun hh => by
  rw [List.getElem?_eq_getElem hh] at h
  exact Option.some.inj h
theorem loop_turn {L : Lim} {fr : Fr} {h : AHeap} {R : Option (AEx × Fr × AHeap)} (bs : List (List AVal)) (ts : List Nat) (i s a : Nat) (ha : a < 80) (hb : bs[i]? = some (srcC s a))
    (hF : run ctx L (.loop Ba_grain_Source_turn) fr (hx h bs ts) = R)
    (h0 : fr 0 = pA h.blks.length i 0) (h3 : fr 3 = .bool (s.testBit 0)) (h15 : fr 15 = .vsl true (eI .i64 [13, 23, 38, 51, 62])) (h16 : fr 16 = .int .i64 5) (h17 : fr 17 = .int .i64 0) :
    ∃ fr', R = some (.exit 0, fr', hx h bs ts) ∧ fr' 3 = .bool (bitG s) ∧ ∀ t, t ∉ wr Ba_grain_Source_turn → fr' t = fr t := by
  obtain ⟨e', fr', h', rfl, ⟨rfl, h3', rfl⟩, hk⟩ := loop_rule hF 5
    (fun k fr hh => fr 17 = .int .i64 k ∧ fr 3 = .bool (pxN s k) ∧ hh = hx h bs ts)
    (fun e' fr hh => e' = .exit 0 ∧ fr 3 = .bool (bitG s) ∧ hh = hx h bs ts)
    ⟨h17, h3, rfl⟩ (by
      rintro k fr1 hh hkN hkeep ⟨g17, g3, rfl⟩
      have g0 := (hkeep 0 (by decide)).trans h0
      have g15 := (hkeep 15 (by decide)).trans h15
      have g16 := (hkeep 16 (by decide)).trans h16
      by_cases hlt : k < 5
      · have w1 : IntKind.i64.wrap ((k : Int) + 1) = k + 1 := wrap_i64 (by omega) (by omega)
        have htap : gd [13, 23, 38, 51, 62] (0 : Int) k = ((tapN k : Nat) : Int) := by
          match k, hlt with
          | 0, _ => rfl | 1, _ => rfl | 2, _ => rfl | 3, _ => rfl | 4, _ => rfl
        have htl : tapN k < 80 := by
          match k, hlt with
          | 0, _ => decide | 1, _ => decide | 2, _ => decide | 3, _ => decide | 4, _ => decide
        have hia := iadr_eI .i64 .i64 true [13, 23, 38, 51, 62] k (by simpa using hlt)
        rw [htap] at hia
        have w2 : IntKind.i64.wrap ((a : Int) + (tapN k : Nat)) = ((a + tapN k : Nat) : Int) := (wrap_i64 (by omega) (by omega)).trans (by omega)
        have w3 := tmodL (a + tapN k) 80
        simp only [Int.cast_ofNat_Int] at w3
        have i1 := iadr_pA 80 1 h.blks.length i 0 ((a + tapN k) % 80) .i64 (by simp; omega)
        have hgt := srcC_get s a ((a + tapN k) % 80) (by omega)
        rw [ringG_gd s a _ ha htl] at hgt
        have hp : pxN s (k + 1) = (pxN s k ^^ s.testBit (tapN k)) := rfl
        rw [show 0 + (a + tapN k) % 80 * 1 = (a + tapN k) % 80 by omega] at i1
        generalize (a + tapN k) % 80 = x at *
        generalize a + tapN k = y at *
        generalize hp2 : pxN s (k + 1) = p2 at *
        generalize pxN s k = p1 at *
        generalize s.testBit (tapN k) = b at *
        have hat := srcC_at s a
        generalize srcC s a = cs at *
        simp -implicitDefEqProofs [Ba_grain_Source_turn, g0, g3, g15, g16, g17, show (k : Int) < 5 by omega, w1, w2, w3, hia, hb, hat, bin_rem, i1, hgt, partA_one, hp2, hp]
        exact ⟨hlt, by cases p1 <;> cases b <;> rfl⟩
      · have : k = 5 := by omega
        subst this
        rw [pxN_all] at g3
        simp [Ba_grain_Source_turn, g16, g17, g3])
  exact ⟨fr', rfl, h3', hk⟩
theorem ok_turn (L : Lim) (h : AHeap) (bs : List (List AVal)) (ts : List Nat) (i s a : Nat) (hs : s < 2 ^ 80) (ha : a < 80) (hb : bs[i]? = some (srcC s a)) (hL : L.rob ≤ h.blks.length) :
    acall ctx L i_grain_Source_turn [pA h.blks.length i 0] (hx h bs ts) = some (.bool (bitG s), hx h (bs.set i (srcC (turnN s) ((a + 1) % 80))) ts) := by
  rw [call_grain_Source_turn]
  obtain ⟨hi, hbe⟩ := List.getElem?_eq_some_iff.1 hb
  have w2 : IntKind.i64.wrap ((a : Int) + 1) = ((a + 1 : Nat) : Int) := (wrap_i64 (by omega) (by omega)).trans (by omega)
  have w3 := tmodL (a + 1) 80
  simp only [Int.cast_ofNat_Int] at w3
  have i1 := iadr_pA 80 1 h.blks.length i 0 a .i64 (by simp; omega)
  rw [show 0 + a * 1 = a by omega] at i1
  have hat := srcC_at s a
  have hgt := srcC_get s a a ha
  have e0 := ringG_gd s a 0 ha (by omega)
  rw [Nat.add_zero, Nat.mod_eq_of_lt ha] at e0
  rw [e0] at hgt
  have hset := srcC_set s a hs ha
  have hset2 : (cB (ringG (turnN s) ((a + 1) % 80)) ++ [AVal.int .i64 (a : Int)]).set 80 (.int .i64 (((a + 1) % 80 : Nat) : Int)) = srcC (turnN s) ((a + 1) % 80) := srcC_setn _ _ _ (by simp)
  have hat2 : (cB (ringG (turnN s) ((a + 1) % 80)) ++ [AVal.int .i64 (a : Int)])[80]? = some (.int .i64 (a : Int)) := by
    rw [List.getElem?_append_right (by simp)]; simp
  have hl2 : (cB (ringG (turnN s) ((a + 1) % 80)) ++ [AVal.int .i64 (a : Int)]).length = 81 := by simp
  have hlo := fun L fr R => loop_turn (L := L) (fr := fr) (h := h) (R := R) bs ts i s a ha hb
  have hl1 := srcC_len s a
  generalize cB (ringG (turnN s) ((a + 1) % 80)) ++ [AVal.int .i64 (a : Int)] = c2 at *
  generalize srcC (turnN s) ((a + 1) % 80) = c3 at *
  generalize srcC s a = c1 at *
  generalize (a + 1) % 80 = a2 at *
  generalize a + 1 = a1 at *
  have hsl : fillA (rep [AVal.int .i64 0] 5) [(0, 1, .int .i64 13), (1, 1, .int .i64 23), (2, 1, .int .i64 38), (3, 1, .int .i64 51), (4, 1, .int .i64 62)] = some (cI .i64 [13, 23, 38, 51, 62]) := rfl
  have hch : chunks 1 5 (cI .i64 [13, 23, 38, 51, 62]) = eI .i64 [13, 23, 38, 51, 62] := rfl
  have hll : (eI .i64 [13, 23, 38, 51, 62]).length = 5 := rfl
  generalize eI .i64 [13, 23, 38, 51, 62] = tp at *
  generalize cI .i64 [13, 23, 38, 51, 62] = tc at *
  simp -implicitDefEqProofs [-Nat.testBit_zero, C_grain_Source_turn, hx_blks, hx_toks, hb, hat, i1, hgt, partA_one, hsl, hch, lenA, hll]
  generalize hF : run ctx _ (.loop _) _ _ = R
  obtain ⟨fr1, rfl, h3, hk1⟩ := hlo _ _ _ hF (by simp) (by simp) (by simp) (by simp) (by simp)
  have hai : a ≤ 80 := by omega
  have hatE := getE_of hat
  have hat2E := getE_of hat2
  simp -implicitDefEqProofs [-Nat.testBit_zero, hk1, wr, Ba_grain_Source_turn, dsts, h3, hx_blks, hx_toks, hb, hbe, hat, hatE, hat2E, hi, i1, w2, w3, bin_rem, partA_one, storeA_fl, hL, hl1, hl2, hset, hset2, hat2, trunc_set, show a + 1 ≤ 81 by omega, hai]
end Go.Av

namespace Go.Av
set_option maxHeartbeats 2000000
set_option maxRecDepth 20000
set_option linter.unusedSimpArgs false
set_option linter.unusedVariables false
def bitN : Nat → Nat → Option (Nat × Bool)
  | 0, _ => none
  | f + 1, s => match bitG s with
    | true => some (turnN (turnN s), bitG (turnN s))
    | false => bitN f (turnN (turnN s))
theorem bitN_lt : ∀ (f s : Nat) (q : Nat × Bool), bitN f s = some q → s < 2 ^ 80 → q.1 < 2 ^ 80
  | 0, s, q, h, _ => by simp [bitN] at h
  | f + 1, s, q, h, hs => by
    unfold bitN at h
    cases hb : bitG s with
    | true =>
      rw [hb] at h
      obtain rfl := Option.some.inj h
      exact turnN_lt _ (turnN_lt _ hs)
    | false =>
      rw [hb] at h
      exact bitN_lt f _ q h (turnN_lt _ (turnN_lt _ hs))
def bitRest : AC := .seq (.reg [iv 5 (.mv (.t 0)),
    ic 6 (.call i_grain_Source_turn [.t 5]), iv 7 (.mv (.t 0)),
    ic 8 (.call i_grain_Source_turn [.t 7]), iv 3 (.mv (.t 6)), iv 4 (.mv (.t 8))])
  (.seq (.seq (.reg [iv 9 (.mv (.t 3)), iv 10 (.un .not (.t 9))])
  (.cond (.t 10)
   (.goto 0)
   (.skip)))
  (.seq (.reg [iv 11 (.mv (.t 4)), iv 2 (.mv (.t 11))])
  (.ret)))
def bitBody : AC := .seq (.label 0) bitRest
theorem find_bit : findLab bitBody 0 = some (.seq .skip bitRest) := by simp [bitBody, findLab]
theorem run_bitSkip (L : Lim) (fr : Fr) (h : AHeap) : run ctx L (.seq .skip bitRest) fr h = run ctx L bitRest fr h := by simp
theorem run_bitBody (L : Lim) (fr : Fr) (h : AHeap) : run ctx L bitBody fr h = run ctx L bitRest fr h := by
  unfold bitBody; simp
theorem run_bit (L : Lim) (h : AHeap) (ts : List Nat) (i : Nat) (hL : L.rob ≤ h.blks.length) : ∀ (f s a : Nat) (bs : List (List AVal)) (fr : Fr) (q : Nat × Bool), bitN f s = some q → s < 2 ^ 80 → a < 80 → bs[i]? = some (srcC s a) → fr 0 = pA h.blks.length i 0 →
    ∃ fr' a', a' < 80 ∧ scopeR ctx L bitBody (run ctx L bitRest fr (hx h bs ts)) = some (.ret, fr', hx h (bs.set i (srcC q.1 a')) ts) ∧ fr' 2 = .bool q.2
  | 0, s, a, bs, fr, q, hq, hs, ha, hb, h0 => by simp [bitN] at hq
  | f + 1, s, a, bs, fr, q, hq, hs, ha, hb, h0 => by
    obtain ⟨hi, hbe⟩ := List.getElem?_eq_some_iff.1 hb
    have t1 := ok_turn L h bs ts i s a hs ha hb hL
    have t2 := ok_turn L h (bs.set i (srcC (turnN s) ((a + 1) % 80))) ts i (turnN s) ((a + 1) % 80) (turnN_lt _ hs) (by omega) (by simp [hi]) hL
    rw [List.set_set] at t2
    have ha2 : ((a + 1) % 80 + 1) % 80 < 80 := by omega
    unfold bitN at hq
    have hb2 : (bs.set i (srcC (turnN (turnN s)) (((a + 1) % 80 + 1) % 80)))[i]? = some (srcC (turnN (turnN s)) (((a + 1) % 80 + 1) % 80)) := by simp [hi]
    have hrec := fun fr => run_bit L h ts i hL f (turnN (turnN s)) (((a + 1) % 80 + 1) % 80) (bs.set i (srcC (turnN (turnN s)) (((a + 1) % 80 + 1) % 80))) fr q
    have hs2 := turnN_lt _ (turnN_lt _ hs)
    generalize (((a + 1) % 80 + 1) % 80) = a2 at *
    generalize (a + 1) % 80 = a1 at *
    cases hbit : bitG s with
    | true =>
      rw [hbit] at hq t1
      obtain rfl := Option.some.inj hq
      simp only
      generalize turnN (turnN s) = s2 at *
      generalize bitG (turnN s) = b at *
      simp -implicitDefEqProofs [bitRest, h0, t1, t2]
      first | exact ⟨a2, ha2, rfl⟩ | exact ⟨_, a2, ha2, ⟨rfl, rfl⟩, by simp⟩
    | false =>
      rw [hbit] at hq t1
      have := fun fr => hrec fr hq hs2 ha2 hb2
      simp only [List.set_set] at this
      have hfind := find_bit
      generalize hbb : bitBody = bb at *
      generalize turnN (turnN s) = s2 at *
      generalize bitG (turnN s) = b at *
      have e : ∃ fr2, scopeR ctx L bb (run ctx L bitRest fr (hx h bs ts)) = scopeR ctx L bb (run ctx L bitRest fr2 (hx h (bs.set i (srcC s2 a2)) ts)) ∧ fr2 0 = pA h.blks.length i 0 := by
        have : ∃ fr2, run ctx L bitRest fr (hx h bs ts) = some (.goto 0, fr2, hx h (bs.set i (srcC s2 a2)) ts) ∧ fr2 0 = pA h.blks.length i 0 := by
          simp -implicitDefEqProofs [bitRest, h0, t1, t2]
        obtain ⟨fr2, e1, e2⟩ := this
        refine ⟨fr2, ?_, e2⟩
        rw [e1, scopeR_some, scopeA_goto, hfind]
        simp only [run_bitSkip]
      obtain ⟨fr2, e1, e2⟩ := e
      rw [e1]
      exact this fr2 e2
theorem ok_Bit (L : Lim) (h : AHeap) (bs : List (List AVal)) (ts : List Nat) (i s a f : Nat) (q : Nat × Bool) (hq : bitN f s = some q) (hs : s < 2 ^ 80) (ha : a < 80) (hb : bs[i]? = some (srcC s a)) (hL : L.rob ≤ h.blks.length) :
    ∃ a', a' < 80 ∧ acall ctx L i_grain_Source_Bit [pA h.blks.length i 0] (hx h bs ts) = some (.bool q.2, hx h (bs.set i (srcC q.1 a')) ts) := by
  rw [call_grain_Source_Bit]
  have hbody : C_grain_Source_Bit = .seq (.reg [iv 2 (.mv (.k (.bool false)))]) (.scope bitBody) := rfl
  rw [hbody]
  obtain ⟨fr', a', ha', e, e2⟩ := run_bit ⟨L.rob, L.rot, h.blks.length + bs.length, h.toks.length + ts.length⟩ h ts i hL f s a bs (upd (frm [pA h.blks.length i 0]) 2 (.bool false)) q hq hs ha hb (by simp)
  refine ⟨a', ha', ?_⟩
  rw [← run_bitBody] at e
  generalize bitBody = bb at *
  simp -implicitDefEqProofs [hx_blks, hx_toks, e, e2, trunc_set]
end Go.Av

namespace Go.Av
set_option maxHeartbeats 2000000
set_option maxRecDepth 20000
set_option linter.unusedSimpArgs false
set_option linter.unusedVariables false
/-- The bytes of a number. -/
def byL (k m : Nat) : List Int := tab k fun j => (((m >>> (8 * j)) % 256 : Nat) : Int)
@[simp] theorem byL_len (k m : Nat) : (byL k m).length = k := by simp [byL]
theorem byL_inB (k m : Nat) : inB (byL k m) := fun i hi => by
  unfold byL; rw [gd_tab (by simpa using hi)]; omega
theorem leN_byL (m : Nat) : ∀ k, leN (byL k m) = m % 256 ^ k
  | 0 => by simp [byL, tab, leN, Nat.mod_one]
  | k + 1 => by
    unfold byL
    rw [← tab_snoc, leN_snoc, show tab k (fun j => (((m >>> (8 * j)) % 256 : Nat) : Int)) = byL k m from rfl, leN_byL m k, byL_len, Int.toNat_natCast, Nat.mod_pow_succ, Nat.mul_comm (256 ^ k), Nat.shiftRight_eq_div_pow, Nat.pow_mul]
theorem byte_or (m i j : Nat) : ((m ||| 2 ^ i) >>> (8 * j)) % 256 = if j = i / 8 then ((m >>> (8 * j)) % 256 ||| 2 ^ (i % 8)) else (m >>> (8 * j)) % 256 := by
  refine Nat.eq_of_testBit_eq fun t => ?_
  have e : (256 : Nat) = 2 ^ 8 := rfl
  rw [e]
  split
  · rename_i hj
    simp only [Nat.testBit_mod_two_pow, Nat.testBit_shiftRight, Nat.testBit_or, Nat.testBit_two_pow]
    by_cases ht : t < 8
    · have : decide (i = 8 * j + t) = decide (i % 8 = t) := by congr 1; exact propext ⟨fun h => by omega, fun h => by omega⟩
      simp [ht, this]
    · have h1 : ¬ i % 8 = t := by omega
      simp [ht, h1]
  · rename_i hj
    simp only [Nat.testBit_mod_two_pow, Nat.testBit_shiftRight, Nat.testBit_or, Nat.testBit_two_pow]
    by_cases ht : t < 8
    · have h1 : ¬ i = 8 * j + t := by omega
      simp [h1]
    · simp [ht]
theorem byL_or (k m i : Nat) : (byL k m).set (i / 8) ((((m >>> (8 * (i / 8))) % 256 ||| 2 ^ (i % 8) : Nat)) : Int) = byL k (m ||| 2 ^ i) := by
  unfold byL
  rw [tab_set]
  refine tab_congr fun j hj => ?_
  rw [byte_or]
  split
  · rename_i h; subst h; rfl
  · rfl
theorem gd_byL (k m j : Nat) (h : j < k) : gd (byL k m) 0 j = (((m >>> (8 * j)) % 256 : Nat) : Int) := by unfold byL; rw [gd_tab h]
theorem shlU8 (r : Nat) (hr : r < 8) : binA .shl (.int .u8 1) (.int .i64 (r : Int)) = some (.int .u8 ((2 ^ r : Nat) : Int)) := by
  match r, hr with
  | 0, _ => rfl | 1, _ => rfl | 2, _ => rfl | 3, _ => rfl | 4, _ => rfl | 5, _ => rfl | 6, _ => rfl | 7, _ => rfl
theorem orU8 (x y : Nat) (hx : x < 256) (hy : y < 256) : binA .or (.int .u8 (x : Int)) (.int .u8 (y : Int)) = some (.int .u8 ((x ||| y : Nat) : Int)) := by
  rw [bin_or]
  have h : x ||| y < 2 ^ 8 := Nat.or_lt_two_pow hx hy
  have e : (BitVec.ofInt IntKind.u8.bits (x : Int) ||| BitVec.ofInt IntKind.u8.bits (y : Int)).toNat = x ||| y := by
    rw [BitVec.toNat_or]
    have : ∀ z : Nat, z < 256 → (BitVec.ofInt IntKind.u8.bits (z : Int)).toNat = z := fun z hz => by
      rw [BitVec.toNat_ofInt]; simp only [IntKind.bits]; omega
    rw [this x hx, this y hy]
  rw [e, wrap_u8 (by omega) (by omega)]
/-- So many bits, and their number. -/
def bitsN (s : Nat) : Nat → Option (Nat × Nat)
  | 0 => some (s, 0)
  | k + 1 => match bitsN s k with
    | none => none
    | some q => match bitN 100 q.1 with
      | none => none
      | some r => some (r.1, 2 * q.2 + r.2.toNat)
theorem bitsN_succ {s k : Nat} {q : Nat × Nat} (h : bitsN s (k + 1) = some q) : ∃ p r, bitsN s k = some p ∧ bitN 100 p.1 = some r ∧ q = (r.1, 2 * p.2 + r.2.toNat) := by
  simp only [bitsN] at h
  cases hp : bitsN s k with
  | none => rw [hp] at h; cases h
  | some p =>
    rw [hp] at h
    simp only at h
    cases hr : bitN 100 p.1 with
    | none => rw [hr] at h; cases h
    | some r =>
      rw [hr] at h
      exact ⟨p, r, rfl, hr, (Option.some.inj h).symm⟩
theorem bitsN_pre {s : Nat} : ∀ {k : Nat} {q : Nat × Nat}, bitsN s k = some q → ∀ j, j ≤ k → ∃ p, bitsN s j = some p
  | 0, q, h, j, hj => ⟨q, by rw [show j = 0 by omega]; exact h⟩
  | k + 1, q, h, j, hj => by
    obtain ⟨p, r, h1, h2, h3⟩ := bitsN_succ h
    by_cases e : j = k + 1
    · subst e; exact ⟨q, h⟩
    · exact bitsN_pre h1 j (by omega)
theorem bitsN_lt {s : Nat} (hs : s < 2 ^ 80) : ∀ {k : Nat} {q : Nat × Nat}, bitsN s k = some q → q.1 < 2 ^ 80 ∧ q.2 < 2 ^ k
  | 0, q, h => by
    obtain rfl := Option.some.inj h
    exact ⟨hs, by simp⟩
  | k + 1, q, h => by
    obtain ⟨p, r, h1, h2, rfl⟩ := bitsN_succ h
    obtain ⟨a, b⟩ := bitsN_lt hs h1
    have : r.2.toNat ≤ 1 := by cases r.2 <;> decide
    exact ⟨bitN_lt 100 _ r h2 a, by simp only [Nat.pow_succ]; omega⟩
theorem or_shift (n k : Nat) : (n <<< (k + 1)) ||| 2 ^ k = (2 * n + 1) <<< k := by
  rw [Nat.shiftLeft_eq, Nat.shiftLeft_eq, Nat.mul_comm n, ← Nat.two_pow_add_eq_or_of_lt (by rw [Nat.pow_succ]; have := Nat.two_pow_pos k; omega), Nat.pow_succ, Nat.add_mul, Nat.one_mul, Nat.mul_comm (2 ^ k * 2), ← Nat.mul_assoc, Nat.mul_right_comm, Nat.mul_comm 2 n, Nat.mul_right_comm]
theorem zero_shift (n k : Nat) : n <<< (k + 1) = (2 * n + 0) <<< k := by
  rw [Nat.shiftLeft_eq, Nat.shiftLeft_eq, Nat.pow_succ, Nat.add_zero, ← Nat.mul_assoc, Nat.mul_comm 2 n, Nat.mul_right_comm]
theorem loop_El1 {L : Lim} {fr : Fr} {h : AHeap} {R : Option (AEx × Fr × AHeap)} (cs : List (List AVal)) (ts : List Nat) (i s a : Nat) (q : Nat × Nat) (hq : bitsN s 254 = some q) (hs : s < 2 ^ 80) (ha : a < 80) (hb : cs[i]? = some (srcC s a)) (hL : L.rob ≤ h.blks.length)
    (hF : run ctx L (.loop Ba_grain_Source_Element) fr (hx h (cs ++ [cI .u8 (byL 32 0)]) ts) = R)
    (h0 : fr 0 = pA h.blks.length i 0) (h3 : fr 3 = pA h.blks.length cs.length 0) (h4 : fr 4 = .int .i64 253) :
    ∃ fr' a', a' < 80 ∧ R = some (.exit 2, fr', hx h (cs.set i (srcC q.1 a') ++ [cI .u8 (byL 32 q.2)]) ts) ∧ ∀ t, t ∉ wr Ba_grain_Source_Element → fr' t = fr t := by
  obtain ⟨hi, hbe⟩ := List.getElem?_eq_some_iff.1 hb
  obtain ⟨e', fr', h', rfl, ⟨rfl, a', ha', rfl⟩, hk⟩ := loop_rule hF 254
    (fun k fr hh => fr 4 = .int .i64 (253 - (k : Int)) ∧ ∃ a' s' n' m, a' < 80 ∧ m + k = 254 ∧ bitsN s k = some (s', n') ∧ hh = hx h (cs.set i (srcC s' a') ++ [cI .u8 (byL 32 (n' <<< m))]) ts)
    (fun e' fr hh => e' = .exit 2 ∧ ∃ a', a' < 80 ∧ hh = hx h (cs.set i (srcC q.1 a') ++ [cI .u8 (byL 32 q.2)]) ts)
    ⟨h4, a, s, 0, 254, ha, rfl, rfl, by
      have : cs.set i (srcC s a) = cs := by
        refine List.ext_getElem? fun j => ?_
        by_cases e : i = j
        · subst e; rw [List.getElem?_set_self hi, hb]
        · rw [List.getElem?_set_ne e]
      simp only [this, Nat.zero_shiftLeft]⟩ (by
      rintro k fr1 hh hkN hkeep ⟨g4, a1, ps, pn, m, ha1, hmk, hp, rfl⟩
      obtain ⟨p, rfl, rfl⟩ : ∃ p : Nat × Nat, p.1 = ps ∧ p.2 = pn := ⟨(ps, pn), rfl, rfl⟩
      have g0 := (hkeep 0 (by decide)).trans h0
      have g3 := (hkeep 3 (by decide)).trans h3
      by_cases hlt : k < 254
      · obtain ⟨q1, hq1⟩ := bitsN_pre hq (k + 1) (by omega)
        obtain ⟨p', r, e1, e2, rfl⟩ := bitsN_succ hq1
        rw [hp] at e1
        obtain rfl := Option.some.inj e1
        obtain ⟨hps, hpn⟩ := bitsN_lt hs hp
        obtain ⟨j, hj⟩ : ∃ j : Nat, j = 253 - k := ⟨_, rfl⟩
        obtain rfl : m = j + 1 := by omega
        have g4' : fr1 4 = .int .i64 (j : Int) := by rw [g4]; congr 1; omega
        have hil : (cs.set i (srcC p.1 a1))[i]? = some (srcC p.1 a1) := by simp [hi]
        obtain ⟨a2, ha2, hB⟩ := ok_Bit L h (cs.set i (srcC p.1 a1) ++ [cI .u8 (byL 32 (p.2 <<< (j + 1)))]) ts i p.1 a1 100 r e2 hps ha1 (app_get _ hil) hL
        rw [app_set _ _ (by simpa using hi), List.set_set] at hB
        have w1 : IntKind.i64.wrap ((j : Int) - 1) = 253 - ((k + 1 : Nat) : Int) := (wrap_i64 (by omega) (by omega)).trans (by omega)
        have hl : (cs.set i (srcC r.1 a2)).length = cs.length := by simp
        have hfin : ∃ a' s' n' m, a' < 80 ∧ m + (k + 1) = 254 ∧ bitsN s (k + 1) = some (s', n') ∧ hx h (cs.set i (srcC r.1 a2) ++ [cI .u8 (byL 32 ((2 * p.2 + r.2.toNat) <<< j))]) ts = hx h (cs.set i (srcC s' a') ++ [cI .u8 (byL 32 (n' <<< m))]) ts :=
          ⟨a2, _, _, j, ha2, by omega, hq1, rfl⟩
        have t1 := tdivL j 8
        have t3 := tmodL j 8
        have t2 := wrapN (j / 8) (by omega)
        simp only [Int.cast_ofNat_Int] at t1 t3
        have i1 := iadr_pA 32 1 h.blks.length cs.length 0 (j / 8) .i64 (by simp; omega)
        rw [show 0 + j / 8 * 1 = j / 8 by omega] at i1
        have hgd := gd_byL 32 (p.2 <<< (j + 1)) (j / 8) (by omega)
        have hsh := shlU8 (j % 8) (by omega)
        have hor := orU8 (((p.2 <<< (j + 1)) >>> (8 * (j / 8))) % 256) (2 ^ (j % 8)) (by omega) (Nat.pow_lt_pow_right (by omega : 1 < 2) (show j % 8 < 8 by omega))
        have hset := byL_or 32 (p.2 <<< (j + 1)) j
        rw [or_shift] at hset
        have hz := zero_shift p.2 j
        cases hr2 : r.2 with
        | true =>
          rw [hr2] at hB hfin
          have hgr := app_getR (cs.set i (srcC r.1 a2)) [cI .u8 (byL 32 (p.2 <<< (j + 1)))] cs.length 0 hl.symm
          have hsr := fun x => app_setR (cs.set i (srcC r.1 a2)) [cI .u8 (byL 32 (p.2 <<< (j + 1)))] cs.length 0 x hl.symm
          simp only [Nat.add_zero, List.getElem?_cons_zero, List.set_cons_zero] at hgr hsr
          have hcg : (cI .u8 (byL 32 (p.2 <<< (j + 1))))[j / 8]? = some (.int .u8 ((((p.2 <<< (j + 1)) >>> (8 * (j / 8))) % 256 : Nat) : Int)) := by
            rw [← hgd]
            simp only [cI, List.getElem?_map, gd_get? (show j / 8 < (byL 32 (p.2 <<< (j + 1))).length by simp; omega) (d := 0), Option.map_some]
          have hcs := cI_set .u8 (byL 32 (p.2 <<< (j + 1))) (j / 8) ((((p.2 <<< (j + 1)) >>> (8 * (j / 8))) % 256 ||| 2 ^ (j % 8) : Nat) : Int)
          rw [hset] at hcs
          have hcl : (cI .u8 (byL 32 (p.2 <<< (j + 1)))).length = 32 := by simp
          have hj8 : j / 8 + 1 ≤ 32 := by omega
          simp only [Bool.toNat_true] at hfin
          generalize cI .u8 (byL 32 (p.2 <<< (j + 1))) = c1 at *
          generalize cI .u8 (byL 32 ((2 * p.2 + 1) <<< j)) = c2 at *
          generalize cs.set i (srcC r.1 a2) = ds at *
          generalize ((p.2 <<< (j + 1)) >>> (8 * (j / 8))) % 256 ||| 2 ^ (j % 8) = v3 at *
          generalize ((p.2 <<< (j + 1)) >>> (8 * (j / 8))) % 256 = v1 at *
          generalize 2 ^ (j % 8) = v2 at *
          generalize j % 8 = x8 at *
          generalize j / 8 = y8 at *
          simp -implicitDefEqProofs [Ba_grain_Source_Element, limP, g0, g3, g4', show (0 : Int) ≤ (j : Int) by omega, w1, hB, t1, t2, t3, bin_quo, bin_rem, i1, hgr, hsr, hcg, getE_of hcg, hsh, hor, hcs, hcl, partA_one, storeA_fl, hL, hj8, show y8 < 32 by omega, -bin_shl, -bin_or]
          obtain ⟨a', s', n', m', f1, f2, f3, f4⟩ := hfin
          exact ⟨by omega, a', f1, s', n', m', f2, f3, f4⟩
        | false =>
          rw [hr2] at hB hfin
          simp only [Bool.toNat_false] at hfin
          rw [← hz] at hfin
          simp -implicitDefEqProofs [Ba_grain_Source_Element, limP, g0, g3, g4', show (0 : Int) ≤ (j : Int) by omega, w1, hB]
          obtain ⟨a', s', n', m', f1, f2, f3, f4⟩ := hfin
          exact ⟨by omega, a', f1, s', n', m', f2, f3, f4⟩
      · have : k = 254 := by omega
        subst this
        rw [hq] at hp
        obtain rfl := Option.some.inj hp
        obtain rfl : m = 0 := by omega
        rw [Nat.shiftLeft_zero]
        simp [Ba_grain_Source_Element, g4]
        exact ⟨a1, ha1, rfl⟩)
  exact ⟨fr', a', ha', rfl, hk⟩
end Go.Av

namespace Go.Av
set_option maxHeartbeats 2000000
set_option maxRecDepth 20000
set_option linter.unusedSimpArgs false
set_option linter.unusedVariables false
theorem flat_two (a b : AVal) (ha : a.flat = true) (hb : b.flat = true) : (AVal.tup [a, b]).flat = true := by simp [AVal.flat, flatL, ha, hb]
theorem ok_FromBytesS (L : Lim) (h : AHeap) (bs : List (List AVal)) (ts : List Nat) (i : Nat) (cap : Option Nat) (t : List Int) (hb : inB t) (hi : bs[i]? = some (cI .u8 t)) (hl : t.length = 32) :
    acall ctx L i_field_FromBytes [sA h.blks.length i 0 1 32 cap] (hx h bs ts) = some (if leN t < pN then .tup [.agg (cW (fe (leN t))), .int .i64 0] else .tup [.agg (cW (tab 4 fun _ => 0#64)), .int .i64 4], hx h bs ts) := by
  have h1 := ok_FromBytes L (hx h bs ts) false t hb hl
  rw [call_field_FromBytes] at h1 ⊢
  have hf := fzA_sA h bs ts i 32 cap .u8 t hi hl
  rw [argsA_pure, fzArgs_cons, fzA_vsl, fzArgs_nil, fzK_some, callR_some] at h1
  rw [argsA_pure, fzArgs_cons, hf, fzArgs_nil, fzK_some, callR_some]
  refine endR_flat h1 ?_
  split
  · exact flat_two _ _ (cW_flat _) rfl
  · exact flat_two _ _ (cW_flat _) rfl
/-- The next element. -/
@[irreducible] def bitsE (s : Nat) : Option (Nat × Nat) := bitsN s 254
theorem bitsE_eq (s : Nat) : bitsE s = bitsN s 254 := by unfold bitsE; exact rfl
def elemN : Nat → Nat → Option (Nat × Nat)
  | 0, _ => none
  | f + 1, s => match bitsE s with
    | none => none
    | some q => match Nat.ble pN q.2 with
      | true => elemN f q.1
      | false => some q
theorem elemN_lt : ∀ (f s : Nat) (q : Nat × Nat), elemN f s = some q → s < 2 ^ 80 → q.1 < 2 ^ 80 ∧ q.2 < pN
  | 0, s, q, h, _ => by simp [elemN] at h
  | f + 1, s, q, h, hs => by
    unfold elemN at h
    cases hb : bitsE s with
    | none => rw [hb] at h; cases h
    | some p =>
      rw [hb] at h
      simp only at h
      rw [bitsE_eq] at hb
      obtain ⟨h1, h2⟩ := bitsN_lt hs hb
      cases hp : Nat.ble pN p.2 with
      | true =>
        rw [hp] at h
        exact elemN_lt f _ q h h1
      | false =>
        rw [hp] at h
        obtain rfl := Option.some.inj h
        refine ⟨h1, Nat.lt_of_not_le fun hle => ?_⟩
        rw [Nat.ble_eq_true_of_le hle] at hp
        cases hp
theorem pN254 : (2 : Nat) ^ 254 < 256 ^ 32 := by decide
theorem run_El (L : Lim) (h : AHeap) (ts : List Nat) (i j : Nat) (hij : i ≠ j) (hL : L.rob ≤ h.blks.length) : ∀ (f s a : Nat) (cs : List (List AVal)) (fr : Fr) (z : List W64) (q : Nat × Nat), elemN f s = some q → s < 2 ^ 80 → a < 80 → cs[i]? = some (srcC s a) → cs[j]? = some (cW z) → z.length = 4 → fr 0 = pA h.blks.length i 0 → fr 2 = pA h.blks.length j 0 →
    ∃ fr' a' js, a' < 80 ∧ run ctx L (.loop Bb_grain_Source_Element) fr (hx h cs ts) = some (.ret, fr', hx h ((cs.set i (srcC q.1 a')).set j (cW (fe q.2)) ++ js) ts) ∧ fr' 2 = pA h.blks.length j 0
  | 0, s, a, cs, fr, z, q, hq, _, _, _, _, _, _, _ => by simp [elemN] at hq
  | f + 1, s, a, cs, fr, z, q, hq, hs, ha, hb, hj, hz, h0, h2 => by
    obtain ⟨hi, hbe⟩ := List.getElem?_eq_some_iff.1 hb
    obtain ⟨hj1, hje⟩ := List.getElem?_eq_some_iff.1 hj
    unfold elemN at hq
    cases hbb : bitsE s with
    | none => rw [hbb] at hq; cases hq
    | some p =>
      rw [hbb] at hq
      simp only at hq
      rw [bitsE_eq] at hbb
      obtain ⟨hp1, hp2⟩ := bitsN_lt hs hbb
      have hlo := fun fr R => loop_El1 (L := L) (fr := fr) (h := h) (R := R) cs ts i s a p hbb hs ha hb hL
      have hle : leN (byL 32 p.2) = p.2 := by rw [leN_byL]; exact Nat.mod_eq_of_lt (Nat.lt_trans hp2 pN254)
      have hFB := fun L a' => ok_FromBytesS L h (cs.set i (srcC p.1 a') ++ [cI .u8 (byL 32 p.2)]) ts cs.length (some 32) (byL 32 p.2) (byL_inB 32 p.2) (by simp) (by simp)
      rw [hle] at hFB
      have hsl := slice_arr 32 1 h.blks.length cs.length 0 (by decide)
      have hz0 : (tab 32 fun _ => (0 : Int)) = byL 32 0 := by unfold byL; refine tab_congr fun j hj => ?_; simp
      have hself : ∀ a', (cs.set i (srcC p.1 a'))[i]? = some (srcC p.1 a') := fun a' => by simp [hi]
      have hotherj : ∀ a', (cs.set i (srcC p.1 a'))[j]? = some (cW z) := fun a' => by rw [List.getElem?_set_ne hij]; exact hj
      have hlen : ∀ a', (cs.set i (srcC p.1 a')).length = cs.length := fun a' => by simp
      cases hp : Nat.ble pN p.2 with
      | true =>
        rw [hp] at hq
        simp only at hq
        have hnl : ¬ p.2 < pN := fun hlt => by
          have := Nat.le_of_ble_eq_true hp; omega
        rw [if_neg hnl] at hFB
        rw [run_loopE]
        have hbody : ∃ fr2 a2 j2, a2 < 80 ∧ run ctx L Bb_grain_Source_Element fr (hx h cs ts) = some (.normal, fr2, hx h (cs.set i (srcC p.1 a2) ++ j2) ts) ∧ fr2 0 = pA h.blks.length i 0 ∧ fr2 2 = pA h.blks.length j 0 := by
          generalize byL 32 p.2 = b1 at *
          generalize hb0 : byL 32 0 = b0 at *
          simp -implicitDefEqProofs [Bb_grain_Source_Element, rep1_I, hz0, h0]
          generalize hF : run ctx _ (.loop _) _ _ = R
          obtain ⟨fr1, a', ha', rfl, hk1⟩ := hlo _ _ hF (by simp [h0]) (by simp) (by simp)
          have hd := hlen a'
          have hgr := app_getR (cs.set i (srcC p.1 a')) [cI .u8 b1, cW (tab 4 fun _ => 0#64)] cs.length 1 hd.symm
          have hsr := fun x => app_setR (cs.set i (srcC p.1 a')) [cI .u8 b1, cW (tab 4 fun _ => 0#64)] cs.length 1 x hd.symm
          simp only [List.getElem?_cons_succ, List.getElem?_cons_zero, List.set_cons_succ, List.set_cons_zero] at hgr hsr
          have hfb := fun L => hFB L a'
          generalize hds : cs.set i (srcC p.1 a') = ds at *
          simp -implicitDefEqProofs [hk1, wr, Ba_grain_Source_Element, dsts, hsl, hfb, rep1_W, stKB, setAtB, hgr, hsr, hd, storeA_fl, hL, h0, h2]
          refine ⟨_, a', ha', ⟨rfl, _, by rw [hds]⟩, ?_, ?_⟩
          · simp -implicitDefEqProofs [hk1, wr, Ba_grain_Source_Element, dsts, h0]
          · simp -implicitDefEqProofs [hk1, wr, Ba_grain_Source_Element, dsts, h2]
        obtain ⟨fr2, a2, j2, ha2, hrun, e0, e2⟩ := hbody
        rw [hrun, seqR_normal]
        obtain ⟨fr', a3, js, ha3, hr, e3⟩ := run_El L h ts i j hij hL f p.1 a2 (cs.set i (srcC p.1 a2) ++ j2) fr2 z q hq hp1 ha2 (app_get _ (hself a2)) (app_get _ (hotherj a2)) hz e0 e2
        refine ⟨fr', a3, j2 ++ js, ha3, ?_, e3⟩
        rw [hr, app_set _ _ (by simpa using hi), List.set_set, app_set _ _ (by simpa using hj1), List.append_assoc]
      | false =>
        rw [hp] at hq
        obtain rfl := Option.some.inj hq
        have hlt : p.2 < pN := Nat.lt_of_not_le fun hle => by rw [Nat.ble_eq_true_of_le hle] at hp; cases hp
        rw [if_pos hlt] at hFB
        rw [run_loopE]
        have l3 := fe_len p.2
        generalize byL 32 p.2 = b1 at *
        generalize hb0 : byL 32 0 = b0 at *
        generalize fe p.2 = r at *
        simp -implicitDefEqProofs [Bb_grain_Source_Element, rep1_I, hz0, h0]
        generalize hF : run ctx _ (.loop _) _ _ = R
        obtain ⟨fr1, a', ha', rfl, hk1⟩ := hlo _ _ hF (by simp [h0]) (by simp) (by simp)
        have hd := hlen a'
        have hgr := fun y => app_getR (cs.set i (srcC p.1 a')) [cI .u8 b1, y] cs.length 1 hd.symm
        have hsr := fun y x => app_setR (cs.set i (srcC p.1 a')) [cI .u8 b1, y] cs.length 1 x hd.symm
        simp only [List.getElem?_cons_succ, List.getElem?_cons_zero, List.set_cons_succ, List.set_cons_zero] at hgr hsr
        have hgj := fun y => app_get [cI .u8 b1, y] (hotherj a')
        have hsj := fun x => app_set [cI .u8 b1, cW r] x (show j < (cs.set i (srcC p.1 a')).length by simpa using hj1)
        have hfb := fun L => hFB L a'
        generalize hds : cs.set i (srcC p.1 a') = ds at *
        have hn0 : (pN : Nat) = pN := rfl
        simp -implicitDefEqProofs [hk1, wr, Ba_grain_Source_Element, dsts, hsl, hfb, rep1_W, stKB, setAtB, hgr, hsr, hgj, hsj, hd, storeA_fl, hL, h0, h2, l3, hz, partAB]
        refine ⟨_, a', ha', ⟨rfl, _, by rw [hds]⟩, ?_⟩
        simp -implicitDefEqProofs [hk1, wr, Ba_grain_Source_Element, dsts, h2]
theorem ok_GElement (L : Lim) (h : AHeap) (bs : List (List AVal)) (ts : List Nat) (i s a f : Nat) (q : Nat × Nat) (hq : elemN f s = some q) (hs : s < 2 ^ 80) (ha : a < 80) (hb : bs[i]? = some (srcC s a)) (hL : L.rob ≤ h.blks.length) :
    ∃ a', a' < 80 ∧ acall ctx L i_grain_Source_Element [pA h.blks.length i 0] (hx h bs ts) = some (.agg (cW (fe q.2)), hx h (bs.set i (srcC q.1 a')) ts) := by
  obtain ⟨hi, hbe⟩ := List.getElem?_eq_some_iff.1 hb
  rw [call_grain_Source_Element]
  have hgz := app_getR bs [cW (tab 4 fun _ => 0#64)] bs.length 0 rfl
  simp only [Nat.add_zero, List.getElem?_cons_zero] at hgz
  obtain ⟨fr', a', js, ha', e, e2⟩ := run_El ⟨L.rob, L.rot, h.blks.length + bs.length, h.toks.length + ts.length⟩ h ts i bs.length (by omega) hL f s a (bs ++ [cW (tab 4 fun _ => 0#64)]) (upd (frm [pA h.blks.length i 0]) 2 (pA h.blks.length bs.length 0)) (tab 4 fun _ => 0#64) q hq hs ha (app_get _ hb) hgz (by simp) (by simp) (by simp)
  refine ⟨a', ha', ?_⟩
  have hs1 := app_setR (bs.set i (srcC q.1 a')) [cW (tab 4 fun _ => 0#64)] bs.length 0 (cW (fe q.2)) (by simp)
  simp only [Nat.add_zero, List.set_cons_zero] at hs1
  rw [app_set _ _ hi, hs1, List.append_assoc] at e
  have hd : (bs.set i (srcC q.1 a')).length = bs.length := by simp
  have htr := trunc_app h (bs.set i (srcC q.1 a')) ([cW (fe q.2)] ++ js) ts bs.length hd.symm
  have hg2 := app_getR (bs.set i (srcC q.1 a')) ([cW (fe q.2)] ++ js) bs.length 0 hd.symm
  simp only [Nat.add_zero, List.singleton_append, List.getElem?_cons_zero] at hg2 htr e
  have l3 := fe_len q.2
  generalize fe q.2 = r at *
  generalize bs.set i (srcC q.1 a') = ds at *
  have hbody : C_grain_Source_Element = .seq (.reg [ic 2 (.alloc (rep1 (.int .u64 0) 4))]) (.blk 0 (.loop Bb_grain_Source_Element)) := rfl
  rw [hbody]
  generalize Bb_grain_Source_Element = bb at *
  simp -implicitDefEqProofs [hx_blks, hx_toks, rep1_W, pA_up, e, e2, hg2, partAB, l3, htr]
end Go.Av

namespace Go.Av
set_option maxHeartbeats 2000000
set_option maxRecDepth 20000
set_option linter.unusedSimpArgs false
set_option linter.unusedVariables false
theorem storeA_nb (L : Lim) (h : AHeap) (bs : List (List AVal)) (ts : List Nat) (i off : Nat) (cs : List AVal) (h1 : (decide (L.rob ≤ h.blks.length) && decide (L.nb ≤ h.blks.length + i)) = true) :
    storeA L (hx h bs ts) (pA h.blks.length i off) cs = stO h bs ts i off cs bs[i]? := by
  simp only [Bool.and_eq_true, decide_eq_true_eq] at h1
  unfold storeA pA stO stI hx
  simp only
  rw [List.getElem?_append_right (Nat.le_add_right _ _), Nat.add_sub_cancel_left]
  cases bs[i]? with
  | none => rfl
  | some old =>
    simp only [Option.bind_some]
    by_cases hc : off + cs.length ≤ old.length
    · rw [if_pos ⟨by omega, hc, .inl (by omega)⟩, if_pos (by simpa using hc)]
      rw [List.set_append_right _ _ (Nat.le_add_right _ _), Nat.add_sub_cancel_left]
    · rw [if_neg (fun h => hc h.2.1), if_neg (by simpa using hc)]
def iniG : Nat := 1208925819174894048508930
theorem iniG_lt : iniG < 2 ^ 80 := by decide
/-- The ring, as far as it is laid. -/
def rgT (p : Nat) : List Bool := tab 80 fun j => if j < p then iniG.testBit j else false
@[simp] theorem rgT_len (p : Nat) : (rgT p).length = 80 := by simp [rgT]
theorem rgT_set (p : Nat) : (rgT p).set p (iniG.testBit p) = rgT (p + 1) := by
  unfold rgT; rw [tab_set]
  refine tab_congr fun j hj => ?_
  by_cases h : j = p
  · subst h; simp
  · rw [if_neg h]
    by_cases h2 : j < p
    · rw [if_pos h2, if_pos (by omega)]
    · rw [if_neg h2, if_neg (by omega)]
def rgC (p : Nat) : List AVal := cB (rgT p) ++ [AVal.int .i64 0]
@[simp] theorem rgC_len (p : Nat) : (rgC p).length = 81 := by simp [rgC]
theorem rgC_set (p : Nat) (hp : p < 80) : (rgC p).set p (.bool (iniG.testBit p)) = rgC (p + 1) := by
  unfold rgC; rw [List.set_append_left _ _ (by simpa using hp), cB_set, rgT_set]
theorem rgC_all : rgC 80 = srcC iniG 0 := by
  unfold rgC srcC
  have : rgT 80 = ringG iniG 0 := tab_congr fun j hj => by rw [if_pos hj]; congr 1; omega
  rw [this]; rfl
theorem shrI (n i : Nat) (hi : i ≤ 64) : binA .shr (.int .i64 (n : Int)) (.int .i64 (i : Int)) = some (.int .i64 ((n >>> i : Nat) : Int)) := by
  have := shrB .i64 (n : Int) (i : Int) (by simp only [Bool.and_eq_true, decide_eq_true_eq]; exact ⟨by omega, by show (i : Int) ≤ ((64 : Nat) : Int); omega⟩)
  rw [bin_shr, this, Nat.shiftRight_eq_div_pow, Int.fdiv_eq_ediv_of_nonneg _ (Int.pow_nonneg (by decide))]
  simp
theorem andI1 (n : Nat) (h : n < 9223372036854775808) : binA .and (.int .i64 (n : Int)) (.int .i64 1) = some (.int .i64 ((n % 2 : Nat) : Int)) := by
  rw [bin_and]
  have e : (BitVec.ofInt IntKind.i64.bits (n : Int) &&& BitVec.ofInt IntKind.i64.bits 1).toNat = n % 2 := by
    rw [BitVec.toNat_and]
    have h1 : (BitVec.ofInt IntKind.i64.bits (n : Int)).toNat = n := by rw [BitVec.toNat_ofInt]; simp only [IntKind.bits]; omega
    have h2 : (BitVec.ofInt IntKind.i64.bits 1).toNat = 1 := by decide
    rw [h1, h2, Nat.and_one_is_mod]
  rw [e, wrapN _ (by omega)]
theorem loop_lay {L : Lim} {fr : Fr} {h : AHeap} {R : Option (AEx × Fr × AHeap)} (cs : List (List AVal)) (ts : List Nat) (n w p : Nat) (hw : w ≤ 60) (hn : n < 2 ^ 60) (hp : p + w ≤ 80) (hbit : ∀ k, k < w → n.testBit (w - 1 - k) = iniG.testBit (p + k)) (hL : L.rob ≤ h.blks.length)
    (hF : run ctx L (.loop Ba_grain_New_1) fr (hx h (cs ++ [rgC p, [pA h.blks.length cs.length 0], [.int .i64 (p : Int)]]) ts) = R)
    (h0 : fr 0 = .int .i64 (n : Int)) (h2 : fr 2 = pA h.blks.length (cs.length + 1) 0) (h3 : fr 3 = pA h.blks.length (cs.length + 2) 0) (h6 : fr 6 = .int .i64 ((w : Int) - 1)) :
    ∃ fr', R = some (.exit 0, fr', hx h (cs ++ [rgC (p + w), [pA h.blks.length cs.length 0], [.int .i64 ((p + w : Nat) : Int)]]) ts) ∧ ∀ t, t ∉ wr Ba_grain_New_1 → fr' t = fr t := by
  obtain ⟨e', fr', h', rfl, ⟨rfl, rfl⟩, hk⟩ := loop_rule hF w
    (fun k fr hh => fr 6 = .int .i64 ((w : Int) - 1 - k) ∧ hh = hx h (cs ++ [rgC (p + k), [pA h.blks.length cs.length 0], [.int .i64 ((p + k : Nat) : Int)]]) ts)
    (fun e' fr hh => e' = .exit 0 ∧ hh = hx h (cs ++ [rgC (p + w), [pA h.blks.length cs.length 0], [.int .i64 ((p + w : Nat) : Int)]]) ts)
    ⟨by rw [h6]; simp, rfl⟩ (by
      rintro k fr1 hh hkN hkeep ⟨g6, rfl⟩
      have g0 := (hkeep 0 (by decide)).trans h0
      have g2 := (hkeep 2 (by decide)).trans h2
      have g3 := (hkeep 3 (by decide)).trans h3
      by_cases hlt : k < w
      · obtain ⟨i, hi⟩ : ∃ i : Nat, i = w - 1 - k := ⟨_, rfl⟩
        have g6' : fr1 6 = .int .i64 (i : Int) := by rw [g6]; congr 1; omega
        have w1 : IntKind.i64.wrap ((i : Int) - 1) = (w : Int) - 1 - ((k + 1 : Nat) : Int) := (wrap_i64 (by omega) (by omega)).trans (by omega)
        have w2 : IntKind.i64.wrap (((p + k : Nat) : Int) + 1) = ((p + (k + 1) : Nat) : Int) := (wrap_i64 (by omega) (by omega)).trans (by omega)
        have hsh := shrI n i (by omega)
        have hand := andI1 (n >>> i) (by
          have : n >>> i ≤ n := by rw [Nat.shiftRight_eq_div_pow]; exact Nat.div_le_self _ _
          omega)
        have hb := hbit k hlt
        rw [← hi] at hb
        have htb : decide (n >>> i % 2 = 1) = iniG.testBit (p + k) := by rw [← hb, Nat.testBit_eq_decide_div_mod_eq, Nat.shiftRight_eq_div_pow]
        have heq : (((n >>> i % 2 : Nat) : Int) == 1) = iniG.testBit (p + k) := by
          rw [← htb]
          by_cases e : n >>> i % 2 = 1
          · rw [e]; rfl
          · rw [decide_eq_false e]; exact beq_false_of_ne (by omega)
        have i1 := iadr_pA 80 1 h.blks.length cs.length 0 (p + k) .i64 (by simp; omega)
        rw [show 0 + (p + k) * 1 = p + k by omega] at i1
        have hset := rgC_set (p + k) (by omega)
        have hr0 := fun x y z => app_getR cs [x, y, z] cs.length 0 rfl
        have hr1 := fun x y z => app_getR cs [x, y, z] cs.length 1 rfl
        have hr2 := fun x y z => app_getR cs [x, y, z] cs.length 2 rfl
        have hs0 := fun x y z v => app_setR cs [x, y, z] cs.length 0 v rfl
        have hs2 := fun x y z v => app_setR cs [x, y, z] cs.length 2 v rfl
        simp only [Nat.add_zero, List.getElem?_cons_zero, List.getElem?_cons_succ, List.set_cons_zero, List.set_cons_succ] at hr0 hr1 hr2 hs0 hs2
        have hcl := rgC_len (p + k)
        have hpk : p + k + 1 ≤ 81 := by omega
        rw [show p + k + 1 = p + (k + 1) by omega] at hset
        generalize rgC (p + k) = c1 at *
        generalize hc2 : rgC (p + (k + 1)) = c2 at *
        generalize n >>> i % 2 = b1 at *
        generalize n >>> i = b2 at *
        generalize iniG.testBit (p + k) = bb at *
        generalize hpk1 : p + (k + 1) = pk1 at *
        have hc1 : (p : Int) + ((k : Int) + 1) = (pk1 : Int) := by omega
        have hpk0 : p + k ≤ 80 := by omega
        generalize p + k = pk at *
        simp -implicitDefEqProofs [Ba_grain_New_1, g0, g2, g3, g6', show (0 : Int) ≤ (i : Int) by omega, w1, w2, hsh, hand, heq, i1, hr0, hr1, hr2, hs0, hs2, hcl, hset, partA_one, storeA_fl, hL, hpk0, hc2, hpk1, hc1, -bin_shr, -bin_and]
        omega
      · have : k = w := by omega
        subst this
        have : (k : Int) - 1 - k = -1 := by omega
        rw [this] at g6
        simp [Ba_grain_New_1, g6])
  exact ⟨fr', rfl, hk⟩
theorem ok_lay (L : Lim) (h : AHeap) (cs : List (List AVal)) (ts : List Nat) (n w p : Nat) (hw : w ≤ 60) (hn : n < 2 ^ 60) (hp : p + w ≤ 80) (hbit : ∀ k, k < w → n.testBit (w - 1 - k) = iniG.testBit (p + k)) (hL : L.rob ≤ h.blks.length) :
    acall ctx L i_grain_New_1 [.int .i64 (n : Int), .int .i64 (w : Int), pA h.blks.length (cs.length + 1) 0, pA h.blks.length (cs.length + 2) 0] (hx h (cs ++ [rgC p, [pA h.blks.length cs.length 0], [.int .i64 (p : Int)]]) ts)
      = some (.tup [], hx h (cs ++ [rgC (p + w), [pA h.blks.length cs.length 0], [.int .i64 ((p + w : Nat) : Int)]]) ts) := by
  rw [call_grain_New_1]
  have w1 : IntKind.i64.wrap ((w : Int) - 1) = (w : Int) - 1 := wrap_i64 (by omega) (by omega)
  have hlo := fun L hL fr R => loop_lay (L := L) (fr := fr) (h := h) (R := R) cs ts n w p hw hn hp hbit hL
  generalize rgC (p + w) = c2 at *
  generalize rgC p = c1 at *
  generalize ((p + w : Nat) : Int) = pw at *
  simp -implicitDefEqProofs [C_grain_New_1, hx_blks, hx_toks, w1]
  generalize hF : run ctx _ (.loop _) _ _ = R
  obtain ⟨fr1, rfl, hk1⟩ := hlo ⟨L.rob, L.rot, h.blks.length + (cs.length + 3), h.toks.length + ts.length⟩ hL _ _ hF (by simp) (by simp) (by simp) (by simp)
  have htr := trunc_app h (cs ++ [c2, [pA h.blks.length cs.length 0], [.int .i64 pw]]) [] ts (cs.length + 3) (by simp)
  rw [List.append_nil] at htr
  simp -implicitDefEqProofs [hx_blks, hx_toks, htr]
/-- So many turns. -/
def turnsN (s : Nat) : Nat → Nat
  | 0 => s
  | k + 1 => turnN (turnsN s k)
theorem turnsN_lt (s : Nat) (hs : s < 2 ^ 80) : ∀ k, turnsN s k < 2 ^ 80
  | 0 => hs
  | k + 1 => turnN_lt _ (turnsN_lt s hs k)
theorem loop_GNew {L : Lim} {fr : Fr} {h : AHeap} {R : Option (AEx × Fr × AHeap)} (cs : List (List AVal)) (ts : List Nat) (y z : List AVal) (hy : y = [pA h.blks.length cs.length 0]) (hL : L.rob ≤ h.blks.length)
    (hF : run ctx L (.loop Ba_grain_New) fr (hx h (cs ++ [srcC iniG 0, y, z]) ts) = R)
    (h10 : fr 10 = pA h.blks.length (cs.length + 1) 0) (h64 : fr 64 = .int .i64 0) :
    ∃ fr' a', a' < 80 ∧ R = some (.exit 0, fr', hx h (cs ++ [srcC (turnsN iniG 160) a', y, z]) ts) ∧ ∀ t, t ∉ wr Ba_grain_New → fr' t = fr t := by
  obtain ⟨e', fr', h', rfl, ⟨rfl, a', ha', rfl⟩, hk⟩ := loop_rule hF 160
    (fun k fr hh => fr 64 = .int .i64 (k : Int) ∧ ∃ a', a' < 80 ∧ hh = hx h (cs ++ [srcC (turnsN iniG k) a', y, z]) ts)
    (fun e' fr hh => e' = .exit 0 ∧ ∃ a', a' < 80 ∧ hh = hx h (cs ++ [srcC (turnsN iniG 160) a', y, z]) ts)
    ⟨h64, 0, by decide, rfl⟩ (by
      rintro k fr1 hh hkN hkeep ⟨g64, a1, ha1, rfl⟩
      have g10 := (hkeep 10 (by decide)).trans h10
      by_cases hlt : k < 160
      · have w1 : IntKind.i64.wrap ((k : Int) + 1) = k + 1 := wrap_i64 (by omega) (by omega)
        have hr0 := fun x => app_getR cs [x, y, z] cs.length 0 rfl
        have hr1 := fun x => app_getR cs [x, y, z] cs.length 1 rfl
        have hs0 := fun x v => app_setR cs [x, y, z] cs.length 0 v rfl
        simp only [Nat.add_zero, List.getElem?_cons_zero, List.getElem?_cons_succ, List.set_cons_zero] at hr0 hr1 hs0
        have hT := fun L hL => ok_turn L h (cs ++ [srcC (turnsN iniG k) a1, y, z]) ts cs.length (turnsN iniG k) a1 (turnsN_lt _ iniG_lt k) ha1 (hr0 _) hL
        simp only [hs0] at hT
        have hn : turnN (turnsN iniG k) = turnsN iniG (k + 1) := rfl
        rw [hn] at hT
        have ha2 : (a1 + 1) % 80 < 80 := by omega
        generalize hs2 : turnsN iniG (k + 1) = s2 at *
        generalize turnsN iniG k = s1 at *
        generalize (a1 + 1) % 80 = a2 at *
        have hT2 := hT L hL
        have hpy : y[0]? = some (pA h.blks.length cs.length 0) := by rw [hy]; rfl
        simp -implicitDefEqProofs [Ba_grain_New, g10, g64, show (k : Int) < 160 by omega, w1, hr1, partA_one, hpy, getE_of hpy, hT2]
        exact ⟨hlt, a2, ha2, by rw [hs2]⟩
      · have : k = 160 := by omega
        subst this
        simp [Ba_grain_New, g64]
        exact ⟨a1, ha1, rfl⟩)
  exact ⟨fr', a', ha', rfl, hk⟩
def srcG : Nat := turnsN iniG 160
theorem srcG_lt : srcG < 2 ^ 80 := turnsN_lt _ iniG_lt 160
def nG : AC := .seq (.reg [iv 8 (.mv (.k (.nilp))), iv 9 (.mv (.k (.int .i64 0)))])
   (.seq (.seq (.reg [iv 13 (.mv (.t 0)), iv 14 (.bin .lss (.t 13) (.k (.int .i64 1))), iv 15 (.mv (.t 14)),
     ⟨(some 16), .v (.mv (.t 0)), (some (15, false)), [], 0, 0⟩,
     ⟨(some 17), .v (.bin .gtr (.t 16) (.k (.int .i64 4095))), (some (15, false)), [], 0, 0⟩, iv 18 (.pick (.t 15) (.k (.bool true)) (.t 17)), iv 19 (.mv (.t 18)),
     ⟨(some 20), .v (.mv (.t 1)), (some (19, false)), [], 0, 0⟩,
     ⟨(some 21), .v (.bin .lss (.t 20) (.k (.int .i64 1))), (some (19, false)), [], 0, 0⟩, iv 22 (.pick (.t 19) (.k (.bool true)) (.t 21)), iv 23 (.mv (.t 22)),
     ⟨(some 24), .v (.mv (.t 1)), (some (23, false)), [], 0, 0⟩,
     ⟨(some 25), .v (.bin .gtr (.t 24) (.k (.int .i64 4095))), (some (23, false)), [], 0, 0⟩, iv 26 (.pick (.t 23) (.k (.bool true)) (.t 25)), iv 27 (.mv (.t 26)),
     ⟨(some 28), .v (.mv (.t 2)), (some (27, false)), [], 0, 0⟩,
     ⟨(some 29), .v (.bin .lss (.t 28) (.k (.int .i64 0))), (some (27, false)), [], 0, 0⟩, iv 30 (.pick (.t 27) (.k (.bool true)) (.t 29)), iv 31 (.mv (.t 30)),
     ⟨(some 32), .v (.mv (.t 2)), (some (31, false)), [], 0, 0⟩,
     ⟨(some 33), .v (.bin .gtr (.t 32) (.k (.int .i64 1023))), (some (31, false)), [], 0, 0⟩, iv 34 (.pick (.t 31) (.k (.bool true)) (.t 33)), iv 35 (.mv (.t 34)),
     ⟨(some 36), .v (.mv (.t 3)), (some (35, false)), [], 0, 0⟩,
     ⟨(some 37), .v (.bin .lss (.t 36) (.k (.int .i64 0))), (some (35, false)), [], 0, 0⟩, iv 38 (.pick (.t 35) (.k (.bool true)) (.t 37)), iv 39 (.mv (.t 38)),
     ⟨(some 40), .v (.mv (.t 3)), (some (39, false)), [], 0, 0⟩,
     ⟨(some 41), .v (.bin .gtr (.t 40) (.k (.int .i64 1023))), (some (39, false)), [], 0, 0⟩, iv 42 (.pick (.t 39) (.k (.bool true)) (.t 41))])
   (.cond (.t 42)
    (.seq (.reg [iv 8 (.mv (.k (.nilp))), iv 9 (.mv (.k (.int .i64 1)))])
    (.ret))
    (.skip)))
   (.seq (.reg [iv 43 (.build (rgC 0) []),
     ic 44 (.box (.t 43)),
     ic 10 (.alloc [.nilp]),
     jc (.st 1 (.t 10) (.t 44))])
   (.seq (.reg [ic 11 (.alloc [.int .i64 0]),
     jc (.st 1 (.t 11) (.k (.int .i64 0)))])
   (.seq (.reg [iv 45 (.mkfn (.func i_grain_New_1) [] [.t 10, .t 11]), iv 12 (.mv (.t 45))])
   (.seq (.reg [iv 46 (.mv (.t 12)),
     ic 47 (.callv (.t 46) [.k (.int .i64 1), .k (.int .i64 2)])])
   (.seq (.reg [iv 48 (.mv (.t 12)),
     ic 49 (.callv (.t 48) [.k (.int .i64 0), .k (.int .i64 4)])])
   (.seq (.reg [iv 50 (.mv (.t 12)), iv 51 (.mv (.t 0)),
     ic 52 (.callv (.t 50) [.t 51, .k (.int .i64 12)])])
   (.seq (.reg [iv 53 (.mv (.t 12)), iv 54 (.mv (.t 1)),
     ic 55 (.callv (.t 53) [.t 54, .k (.int .i64 12)])])
   (.seq (.reg [iv 56 (.mv (.t 12)), iv 57 (.mv (.t 2)),
     ic 58 (.callv (.t 56) [.t 57, .k (.int .i64 10)])])
   (.seq (.reg [iv 59 (.mv (.t 12)), iv 60 (.mv (.t 3)),
     ic 61 (.callv (.t 59) [.t 60, .k (.int .i64 10)])])
   (.seq (.reg [iv 62 (.mv (.t 12)),
     ic 63 (.callv (.t 62) [.k (.int .i64 1073741823), .k (.int .i64 30)])])
   (.seq (.seq (.reg [iv 64 (.mv (.k (.int .i64 0)))])
   (.blk 0
    (.loop Ba_grain_New)))
   (.seq (.reg [ir 69 (.ld 1 false (.t 10)), iv 8 (.mv (.t 69)), iv 9 (.mv (.k (.int .i64 0)))])
   (.ret))))))))))))))
theorem nG_eq : C_grain_New = nG := rfl
theorem ok_GNew (L : Lim) (h : AHeap) (cs : List (List AVal)) (ts : List Nat) (hL : L.rob ≤ h.blks.length) (hnb : L.nb ≤ h.blks.length + cs.length) :
    ∃ a', a' < 80 ∧ acall ctx L i_grain_New [.int .i64 254, .int .i64 3, .int .i64 8, .int .i64 57] (hx h cs ts) = some (.tup [pA h.blks.length cs.length 0, .int .i64 0], hx h (cs ++ [srcC srcG a', [pA h.blks.length cs.length 0], [.int .i64 80]]) ts) := by
  rw [call_grain_New]
  have q1 : ∀ L : Lim, L.rob ≤ h.blks.length → acall ctx L i_grain_New_1 [.int .i64 1, .int .i64 2, pA h.blks.length (cs.length + 1) 0, pA h.blks.length (cs.length + 2) 0] (hx h (cs ++ [rgC 0, [pA h.blks.length cs.length 0], [.int .i64 0]]) ts)
      = some (.tup [], hx h (cs ++ [rgC 2, [pA h.blks.length cs.length 0], [.int .i64 2]]) ts) := fun L hL => ok_lay L h cs ts 1 2 0 (by decide) (by decide) (by decide) (by decide) hL
  have q2 : ∀ L : Lim, L.rob ≤ h.blks.length → acall ctx L i_grain_New_1 [.int .i64 0, .int .i64 4, pA h.blks.length (cs.length + 1) 0, pA h.blks.length (cs.length + 2) 0] (hx h (cs ++ [rgC 2, [pA h.blks.length cs.length 0], [.int .i64 2]]) ts)
      = some (.tup [], hx h (cs ++ [rgC 6, [pA h.blks.length cs.length 0], [.int .i64 6]]) ts) := fun L hL => ok_lay L h cs ts 0 4 2 (by decide) (by decide) (by decide) (by decide) hL
  have q3 : ∀ L : Lim, L.rob ≤ h.blks.length → acall ctx L i_grain_New_1 [.int .i64 254, .int .i64 12, pA h.blks.length (cs.length + 1) 0, pA h.blks.length (cs.length + 2) 0] (hx h (cs ++ [rgC 6, [pA h.blks.length cs.length 0], [.int .i64 6]]) ts)
      = some (.tup [], hx h (cs ++ [rgC 18, [pA h.blks.length cs.length 0], [.int .i64 18]]) ts) := fun L hL => ok_lay L h cs ts 254 12 6 (by decide) (by decide) (by decide) (by decide) hL
  have q4 : ∀ L : Lim, L.rob ≤ h.blks.length → acall ctx L i_grain_New_1 [.int .i64 3, .int .i64 12, pA h.blks.length (cs.length + 1) 0, pA h.blks.length (cs.length + 2) 0] (hx h (cs ++ [rgC 18, [pA h.blks.length cs.length 0], [.int .i64 18]]) ts)
      = some (.tup [], hx h (cs ++ [rgC 30, [pA h.blks.length cs.length 0], [.int .i64 30]]) ts) := fun L hL => ok_lay L h cs ts 3 12 18 (by decide) (by decide) (by decide) (by decide) hL
  have q5 : ∀ L : Lim, L.rob ≤ h.blks.length → acall ctx L i_grain_New_1 [.int .i64 8, .int .i64 10, pA h.blks.length (cs.length + 1) 0, pA h.blks.length (cs.length + 2) 0] (hx h (cs ++ [rgC 30, [pA h.blks.length cs.length 0], [.int .i64 30]]) ts)
      = some (.tup [], hx h (cs ++ [rgC 40, [pA h.blks.length cs.length 0], [.int .i64 40]]) ts) := fun L hL => ok_lay L h cs ts 8 10 30 (by decide) (by decide) (by decide) (by decide) hL
  have q6 : ∀ L : Lim, L.rob ≤ h.blks.length → acall ctx L i_grain_New_1 [.int .i64 57, .int .i64 10, pA h.blks.length (cs.length + 1) 0, pA h.blks.length (cs.length + 2) 0] (hx h (cs ++ [rgC 40, [pA h.blks.length cs.length 0], [.int .i64 40]]) ts)
      = some (.tup [], hx h (cs ++ [rgC 50, [pA h.blks.length cs.length 0], [.int .i64 50]]) ts) := fun L hL => ok_lay L h cs ts 57 10 40 (by decide) (by decide) (by decide) (by decide) hL
  have q7 : ∀ L : Lim, L.rob ≤ h.blks.length → acall ctx L i_grain_New_1 [.int .i64 1073741823, .int .i64 30, pA h.blks.length (cs.length + 1) 0, pA h.blks.length (cs.length + 2) 0] (hx h (cs ++ [rgC 50, [pA h.blks.length cs.length 0], [.int .i64 50]]) ts)
      = some (.tup [], hx h (cs ++ [rgC 80, [pA h.blks.length cs.length 0], [.int .i64 80]]) ts) := fun L hL => ok_lay L h cs ts 1073741823 30 50 (by decide) (by decide) (by decide) (by decide) hL
  rw [rgC_all] at q7
  have hlo := fun fr R y z hy => loop_GNew (L := L) (fr := fr) (h := h) (R := R) cs ts y z hy hL
  have q1 := q1 L hL
  have q2 := q2 L hL
  have q3 := q3 L hL
  have q4 := q4 L hL
  have q5 := q5 L hL
  have q6 := q6 L hL
  have q7 := q7 L hL
  have hok : (AVal.agg (rgC 0)).okV = true := by
    unfold rgC; rfl
  have hcl : (AVal.agg (rgC 0)).cells = rgC 0 := by simp only [AVal.cells]
  have hfl : fillA (rgC 0) [] = some (rgC 0) := by simp only [fillA]
  rw [nG_eq]
  unfold nG
  generalize rgC 0 = c0 at *
  generalize rgC 2 = c2 at *
  generalize rgC 6 = c6 at *
  generalize rgC 18 = c18 at *
  generalize rgC 30 = c30 at *
  generalize rgC 40 = c40 at *
  generalize rgC 50 = c50 at *
  have hr1 := fun x y => app_getR cs [x, y] cs.length 1 rfl
  have hs1 := fun x y v => app_setR cs [x, y] cs.length 1 v rfl
  have hr2 := fun x y z => app_getR cs [x, y, z] cs.length 2 rfl
  have hs2 := fun x y z v => app_setR cs [x, y, z] cs.length 2 v rfl
  have hr1' := fun x y z => app_getR cs [x, y, z] cs.length 1 rfl
  simp only [List.getElem?_cons_zero, List.getElem?_cons_succ, List.set_cons_zero, List.set_cons_succ] at hr1 hs1 hr2 hs2 hr1'
  have hsA := fun bs i off x (hi : (decide (L.rob ≤ h.blks.length) && decide (L.nb ≤ h.blks.length + i)) = true) => storeA_nb L h bs ts i off x hi
  have hnb1 : L.nb ≤ h.blks.length + (cs.length + 1) := by omega
  have hnb2 : L.nb ≤ h.blks.length + (cs.length + 2) := by omega
  simp -implicitDefEqProofs [hfl, copA_box, hok, hcl, hsA, hL, hnb1, hnb2, hr1, hs1, hr2, hs2, q1, q2, q3, q4, q5, q6, q7]
  generalize hF : run ctx _ (.loop _) _ _ = R
  obtain ⟨fr1, a', ha', rfl, hk1⟩ := hlo _ _ _ _ rfl hF (by simp) (by simp)
  have hs0 : turnsN iniG 160 = srcG := rfl
  rw [hs0]
  generalize srcG = sg at *
  simp -implicitDefEqProofs [hk1, wr, Ba_grain_New, dsts, hr1', partA_one]
  exact ⟨a', ha', rfl⟩
end Go.Av
