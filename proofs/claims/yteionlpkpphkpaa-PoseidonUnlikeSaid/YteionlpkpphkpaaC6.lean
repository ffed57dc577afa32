/- The field's modulus is prime; the law on fifth powers returns true. -/
import Derived.Test.YteionlpkpphkpaaC5
namespace Go.Av
set_option maxHeartbeats 2000000
set_option maxRecDepth 20000
set_option linter.unusedSimpArgs false
set_option linter.unusedVariables false
/-- Nobody goes from more places into fewer without meeting. -/
theorem no_inj : ∀ (m : Nat) (f : Nat → Nat), (∀ i, i < m + 1 → f i < m) → (∀ i j, i < m + 1 → j < m + 1 → f i = f j → i = j) → False
  | 0, f, h1, _ => by have := h1 0 (by omega); omega
  | k + 1, f, h1, h2 => by
    refine no_inj k (fun i => if f i = k then f (k + 1) else f i) ?_ ?_
    · intro i hi
      have a := h1 i (by omega)
      have b := h1 (k + 1) (by omega)
      split
      · rename_i e
        have : f (k + 1) ≠ k := fun e2 => by have := h2 i (k + 1) (by omega) (by omega) (e.trans e2.symm); omega
        omega
      · omega
    · intro i j hi hj he
      split at he
      · rename_i e1
        split at he
        · rename_i e2; exact h2 i j (by omega) (by omega) (e1.trans e2.symm)
        · have := h2 (k + 1) j (by omega) (by omega) he; omega
      · split at he
        · have := h2 i (k + 1) (by omega) (by omega) he; omega
        · exact h2 i j (by omega) (by omega) he
theorem inj_surj (m : Nat) (f : Nat → Nat) (h1 : ∀ i, i < m → f i < m) (h2 : ∀ i j, i < m → j < m → f i = f j → i = j) (y : Nat) (hy : y < m) : ∃ i, i < m ∧ f i = y := by
  refine Classical.byContradiction fun hno => ?_
  have hn : ∀ i, i < m → f i ≠ y := fun i hi e => hno ⟨i, hi, e⟩
  obtain ⟨k, rfl⟩ : ∃ k, m = k + 1 := ⟨m - 1, by omega⟩
  refine no_inj k (fun i => if f i = k then y else f i) ?_ ?_
  · intro i hi
    have a := h1 i hi
    split
    · rename_i e
      have := hn i hi
      omega
    · omega
  · intro i j hi hj he
    split at he
    · rename_i e1
      split at he
      · rename_i e2; exact h2 i j hi hj (e1.trans e2.symm)
      · exact absurd he.symm (hn j hj)
    · split at he
      · exact absurd he (hn i hi)
      · exact h2 i j hi hj he
/-- Prime. -/
def Pr (n : Nat) : Prop := 1 < n ∧ ∀ c, n ∣ c ∨ Nat.gcd c n = 1
theorem pr_two : Pr 2 := ⟨by decide, fun c => by
  by_cases h : c % 2 = 0
  · exact .inl (Nat.dvd_of_mod_eq_zero h)
  · right
    have : c % 2 = 1 := by omega
    rw [Nat.gcd_comm, Nat.gcd_rec, this]; decide⟩
/-- What generates all that isn't 0. -/
structure Gen (n g : Nat) : Prop where
  one : 1 < n
  fer : g ^ (n - 1) % n = 1
  all : ∀ x, 0 < x → x < n → ∃ i, i < n - 1 ∧ g ^ i % n = x
def prodL (l : List Nat) : Nat := l.foldr (· * ·) 1
theorem pr_dvd_prod {c : Nat} (hc : c ≠ 1) : ∀ (l : List Nat), (∀ q ∈ l, Pr q) → c ∣ prodL l → ∃ q ∈ l, q ∣ c
  | [], _, h => absurd (Nat.dvd_one.1 h) hc
  | q :: l, hl, h => by
    rcases (hl q (by simp)).2 c with h1 | h1
    · exact ⟨q, by simp, h1⟩
    · have : c ∣ prodL l := Nat.Coprime.dvd_of_dvd_mul_left h1 h
      obtain ⟨r, hr, h2⟩ := pr_dvd_prod hc l (fun q hq => hl q (by simp [hq])) this
      exact ⟨r, by simp [hr], h2⟩
theorem pow_one_mul {n g a : Nat} (hn : 1 < n) (h : g ^ a % n = 1) (k : Nat) : g ^ (a * k) % n = 1 := by
  rw [Nat.pow_mul, Nat.pow_mod, h, Nat.one_pow, Nat.mod_eq_of_lt hn]
theorem pow_gcd {n g : Nat} (hn : 1 < n) (a b : Nat) : g ^ a % n = 1 → g ^ b % n = 1 → g ^ (Nat.gcd a b) % n = 1 := by
  induction a, b using Nat.gcd.induction with
  | H0 b => intro _ h; rwa [Nat.gcd_zero_left]
  | H1 a b ha ih =>
    intro h1 h2
    rw [Nat.gcd_rec]
    refine ih ?_ h1
    have e : g ^ b % n = g ^ (b % a) % n := by
      calc g ^ b % n = g ^ (a * (b / a) + b % a) % n := by rw [Nat.div_add_mod]
        _ = g ^ (a * (b / a)) * g ^ (b % a) % n := by rw [Nat.pow_add]
        _ = (g ^ (a * (b / a)) % n) * g ^ (b % a) % n := by rw [Nat.mod_mul_mod]
        _ = g ^ (b % a) % n := by rw [pow_one_mul hn h1, Nat.one_mul]
    rw [← e, h2]
def genChk (n g : Nat) (l : List Nat) : Bool := Nat.blt 1 n && powM n 300 g (n - 1) == 1 && prodL l == n - 1 && Nat.blt n (2 ^ 300) && l.all fun q => powM n 300 g ((n - 1) / q) != 1
theorem gen_of (n g : Nat) (l : List Nat) (hc : genChk n g l = true) (hl : ∀ q ∈ l, Pr q) : Gen n g := by
  unfold genChk at hc
  simp only [Bool.and_eq_true, beq_iff_eq, List.all_eq_true, bne_iff_ne] at hc
  obtain ⟨⟨⟨⟨h1, h2⟩, h3⟩, h4⟩, h5⟩ := hc
  have h1 : 1 < n := by simpa [Nat.blt_eq] using h1
  have h4 : n < 2 ^ 300 := Nat.blt_eq ▸ h4
  rw [powM_ok _ _ _ _ (by omega)] at h2
  have h5' : ∀ q ∈ l, g ^ ((n - 1) / q) % n ≠ 1 := fun q hq => by
    have := h5 q hq
    rwa [powM_ok _ _ _ _ (Nat.lt_of_le_of_lt (Nat.div_le_self _ _) (by omega))] at this
  have ord : ∀ t, 0 < t → t < n - 1 → g ^ t % n ≠ 1 := by
    intro t ht0 ht hone
    have he := pow_gcd h1 t (n - 1) hone h2
    have hd : Nat.gcd t (n - 1) ∣ n - 1 := Nat.gcd_dvd_right _ _
    have hle : Nat.gcd t (n - 1) ≤ t := Nat.le_of_dvd ht0 (Nat.gcd_dvd_left _ _)
    generalize Nat.gcd t (n - 1) = e at *
    obtain ⟨c, hcc⟩ := hd
    have hc1 : c ≠ 1 := fun h => by subst h; omega
    have hcd : c ∣ prodL l := by rw [h3, hcc]; exact Nat.dvd_mul_left _ _
    obtain ⟨q, hq, r, hr⟩ := pr_dvd_prod hc1 l hl hcd
    have hq0 : 0 < q := by have := (hl q hq).1; omega
    refine h5' q hq ?_
    have : (n - 1) / q = e * r := by
      rw [hcc, hr, show e * (q * r) = q * (e * r) by rw [← Nat.mul_assoc, Nat.mul_comm e q, Nat.mul_assoc], Nat.mul_div_cancel_left _ hq0]
    rw [this]
    exact pow_one_mul h1 he r
  have nz : ∀ i, i ≤ n - 1 → g ^ i % n ≠ 0 := by
    intro i hi h0
    have : g ^ (n - 1) % n = 0 := by
      rw [show n - 1 = i + (n - 1 - i) by omega, Nat.pow_add, Nat.mul_mod, h0, Nat.zero_mul, Nat.zero_mod]
    omega
  refine ⟨h1, h2, fun x hx0 hx => ?_⟩
  obtain ⟨i, hi, he⟩ := inj_surj (n - 1) (fun i => g ^ i % n - 1) (fun i hi => by
      have := Nat.mod_lt (g ^ i) (show 0 < n by omega)
      have := nz i (by omega)
      omega) (fun i j hi hj he => by
      have a := nz i (by omega)
      have b := nz j (by omega)
      have he : g ^ i % n = g ^ j % n := by omega
      have key : ∀ i j, i < j → j < n - 1 → g ^ i % n = g ^ j % n → False := by
        intro i j hij hj he
        refine ord (j - i) (by omega) (by omega) ?_
        have e1 : g ^ (n - 1) % n = g ^ (n - 1 + (j - i)) % n := by
          rw [show n - 1 = i + (n - 1 - i) by omega, Nat.pow_add, Nat.mul_mod, he, ← Nat.mul_mod, ← Nat.pow_add]
          congr 2
          omega
        rw [Nat.pow_add, Nat.mul_mod, h2, Nat.one_mul, Nat.mod_mod] at e1
        exact e1.symm
      rcases Nat.lt_trichotomy i j with h | h | h
      · exact (key i j h hj he).elim
      · exact h
      · exact (key j i h hi he.symm).elim) (x - 1) (by omega)
  refine ⟨i, hi, ?_⟩
  have := nz i (by omega)
  omega
theorem Gen.unit {n g : Nat} (h : Gen n g) {c : Nat} (hc : c % n ≠ 0) : ∃ k, c * k % n = 1 ∧ c ^ (n - 1) % n = 1 := by
  obtain ⟨i, hi, he⟩ := h.all (c % n) (by omega) (Nat.mod_lt _ (by have := h.one; omega))
  refine ⟨g ^ (n - 1 - i), ?_, ?_⟩
  · rw [← Nat.mod_mul_mod, ← he, Nat.mod_mul_mod, ← Nat.pow_add, show i + (n - 1 - i) = n - 1 by omega, h.fer]
  · rw [Nat.pow_mod, ← he, ← Nat.pow_mod, ← Nat.pow_mul, Nat.mul_comm, pow_one_mul h.one h.fer]
theorem Gen.pr {n g : Nat} (h : Gen n g) : Pr n := by
  refine ⟨h.one, fun c => ?_⟩
  by_cases hc : c % n = 0
  · exact .inl (Nat.dvd_of_mod_eq_zero hc)
  · right
    obtain ⟨k, hk, _⟩ := h.unit hc
    have h1 : Nat.gcd c n ∣ c * k := Nat.dvd_trans (Nat.gcd_dvd_left _ _) (Nat.dvd_mul_right _ _)
    have h2 : Nat.gcd c n ∣ c * k % n := (Nat.dvd_mod_iff (Nat.gcd_dvd_right _ _)).2 h1
    rw [hk] at h2
    exact Nat.dvd_one.1 h2
end Go.Av

namespace Go.Av
set_option maxHeartbeats 2000000
set_option maxRecDepth 20000
set_option linter.unusedSimpArgs false
set_option linter.unusedVariables false
theorem pr_2 : Pr 2 := pr_two
theorem gen_3 : Gen 3 2 := gen_of 3 2 [2] (by decide +kernel) (by
  intro q hq
  simp only [List.mem_cons, List.not_mem_nil, or_false] at hq
  rcases hq with rfl
  · exact pr_2)
theorem pr_3 : Pr 3 := gen_3.pr
theorem gen_5 : Gen 5 2 := gen_of 5 2 [2, 2] (by decide +kernel) (by
  intro q hq
  simp only [List.mem_cons, List.not_mem_nil, or_false] at hq
  rcases hq with rfl | rfl
  · exact pr_2
  · exact pr_2)
theorem pr_5 : Pr 5 := gen_5.pr
theorem gen_19 : Gen 19 2 := gen_of 19 2 [2, 3, 3] (by decide +kernel) (by
  intro q hq
  simp only [List.mem_cons, List.not_mem_nil, or_false] at hq
  rcases hq with rfl | rfl | rfl
  · exact pr_2
  · exact pr_3
  · exact pr_3)
theorem pr_19 : Pr 19 := gen_19.pr
theorem gen_37 : Gen 37 2 := gen_of 37 2 [2, 2, 3, 3] (by decide +kernel) (by
  intro q hq
  simp only [List.mem_cons, List.not_mem_nil, or_false] at hq
  rcases hq with rfl | rfl | rfl | rfl
  · exact pr_2
  · exact pr_2
  · exact pr_3
  · exact pr_3)
theorem pr_37 : Pr 37 := gen_37.pr
theorem gen_223 : Gen 223 3 := gen_of 223 3 [2, 3, 37] (by decide +kernel) (by
  intro q hq
  simp only [List.mem_cons, List.not_mem_nil, or_false] at hq
  rcases hq with rfl | rfl | rfl
  · exact pr_2
  · exact pr_3
  · exact pr_37)
theorem pr_223 : Pr 223 := gen_223.pr
theorem gen_11 : Gen 11 2 := gen_of 11 2 [2, 5] (by decide +kernel) (by
  intro q hq
  simp only [List.mem_cons, List.not_mem_nil, or_false] at hq
  rcases hq with rfl | rfl
  · exact pr_2
  · exact pr_5)
theorem pr_11 : Pr 11 := gen_11.pr
theorem gen_23 : Gen 23 5 := gen_of 23 5 [2, 11] (by decide +kernel) (by
  intro q hq
  simp only [List.mem_cons, List.not_mem_nil, or_false] at hq
  rcases hq with rfl | rfl
  · exact pr_2
  · exact pr_11)
theorem pr_23 : Pr 23 := gen_23.pr
theorem gen_47 : Gen 47 5 := gen_of 47 5 [2, 23] (by decide +kernel) (by
  intro q hq
  simp only [List.mem_cons, List.not_mem_nil, or_false] at hq
  rcases hq with rfl | rfl
  · exact pr_2
  · exact pr_23)
theorem pr_47 : Pr 47 := gen_47.pr
theorem gen_20963 : Gen 20963 2 := gen_of 20963 2 [2, 47, 223] (by decide +kernel) (by
  intro q hq
  simp only [List.mem_cons, List.not_mem_nil, or_false] at hq
  rcases hq with rfl | rfl | rfl
  · exact pr_2
  · exact pr_47
  · exact pr_223)
theorem pr_20963 : Pr 20963 := gen_20963.pr
theorem gen_41927 : Gen 41927 5 := gen_of 41927 5 [2, 20963] (by decide +kernel) (by
  intro q hq
  simp only [List.mem_cons, List.not_mem_nil, or_false] at hq
  rcases hq with rfl | rfl
  · exact pr_2
  · exact pr_20963)
theorem pr_41927 : Pr 41927 := gen_41927.pr
theorem gen_1593227 : Gen 1593227 2 := gen_of 1593227 2 [2, 19, 41927] (by decide +kernel) (by
  intro q hq
  simp only [List.mem_cons, List.not_mem_nil, or_false] at hq
  rcases hq with rfl | rfl | rfl
  · exact pr_2
  · exact pr_19
  · exact pr_41927)
theorem pr_1593227 : Pr 1593227 := gen_1593227.pr
theorem gen_17 : Gen 17 3 := gen_of 17 3 [2, 2, 2, 2] (by decide +kernel) (by
  intro q hq
  simp only [List.mem_cons, List.not_mem_nil, or_false] at hq
  rcases hq with rfl | rfl | rfl | rfl
  · exact pr_2
  · exact pr_2
  · exact pr_2
  · exact pr_2)
theorem pr_17 : Pr 17 := gen_17.pr
theorem gen_409 : Gen 409 21 := gen_of 409 21 [2, 2, 2, 3, 17] (by decide +kernel) (by
  intro q hq
  simp only [List.mem_cons, List.not_mem_nil, or_false] at hq
  rcases hq with rfl | rfl | rfl | rfl | rfl
  · exact pr_2
  · exact pr_2
  · exact pr_2
  · exact pr_3
  · exact pr_17)
theorem pr_409 : Pr 409 := gen_409.pr
theorem gen_1637 : Gen 1637 2 := gen_of 1637 2 [2, 2, 409] (by decide +kernel) (by
  intro q hq
  simp only [List.mem_cons, List.not_mem_nil, or_false] at hq
  rcases hq with rfl | rfl | rfl
  · exact pr_2
  · exact pr_2
  · exact pr_409)
theorem pr_1637 : Pr 1637 := gen_1637.pr
theorem gen_7 : Gen 7 3 := gen_of 7 3 [2, 3] (by decide +kernel) (by
  intro q hq
  simp only [List.mem_cons, List.not_mem_nil, or_false] at hq
  rcases hq with rfl | rfl
  · exact pr_2
  · exact pr_3)
theorem pr_7 : Pr 7 := gen_7.pr
theorem gen_71 : Gen 71 7 := gen_of 71 7 [2, 5, 7] (by decide +kernel) (by
  intro q hq
  simp only [List.mem_cons, List.not_mem_nil, or_false] at hq
  rcases hq with rfl | rfl | rfl
  · exact pr_2
  · exact pr_5
  · exact pr_7)
theorem pr_71 : Pr 71 := gen_71.pr
theorem gen_853 : Gen 853 2 := gen_of 853 2 [2, 2, 3, 71] (by decide +kernel) (by
  intro q hq
  simp only [List.mem_cons, List.not_mem_nil, or_false] at hq
  rcases hq with rfl | rfl | rfl | rfl
  · exact pr_2
  · exact pr_2
  · exact pr_3
  · exact pr_71)
theorem pr_853 : Pr 853 := gen_853.pr
theorem gen_229 : Gen 229 6 := gen_of 229 6 [2, 2, 3, 19] (by decide +kernel) (by
  intro q hq
  simp only [List.mem_cons, List.not_mem_nil, or_false] at hq
  rcases hq with rfl | rfl | rfl | rfl
  · exact pr_2
  · exact pr_2
  · exact pr_3
  · exact pr_19)
theorem pr_229 : Pr 229 := gen_229.pr
theorem gen_639533339 : Gen 639533339 2 := gen_of 639533339 2 [2, 229, 853, 1637] (by decide +kernel) (by
  intro q hq
  simp only [List.mem_cons, List.not_mem_nil, or_false] at hq
  rcases hq with rfl | rfl | rfl | rfl
  · exact pr_2
  · exact pr_229
  · exact pr_853
  · exact pr_1637)
theorem pr_639533339 : Pr 639533339 := gen_639533339.pr
theorem gen_41 : Gen 41 6 := gen_of 41 6 [2, 2, 2, 5] (by decide +kernel) (by
  intro q hq
  simp only [List.mem_cons, List.not_mem_nil, or_false] at hq
  rcases hq with rfl | rfl | rfl | rfl
  · exact pr_2
  · exact pr_2
  · exact pr_2
  · exact pr_5)
theorem pr_41 : Pr 41 := gen_41.pr
theorem gen_83 : Gen 83 2 := gen_of 83 2 [2, 41] (by decide +kernel) (by
  intro q hq
  simp only [List.mem_cons, List.not_mem_nil, or_false] at hq
  rcases hq with rfl | rfl
  · exact pr_2
  · exact pr_41)
theorem pr_83 : Pr 83 := gen_83.pr
theorem gen_379 : Gen 379 2 := gen_of 379 2 [2, 3, 3, 3, 7] (by decide +kernel) (by
  intro q hq
  simp only [List.mem_cons, List.not_mem_nil, or_false] at hq
  rcases hq with rfl | rfl | rfl | rfl | rfl
  · exact pr_2
  · exact pr_3
  · exact pr_3
  · exact pr_3
  · exact pr_7)
theorem pr_379 : Pr 379 := gen_379.pr
theorem gen_65865678001877903 : Gen 65865678001877903 5 := gen_of 65865678001877903 5 [2, 83, 379, 1637, 639533339] (by decide +kernel) (by
  intro q hq
  simp only [List.mem_cons, List.not_mem_nil, or_false] at hq
  rcases hq with rfl | rfl | rfl | rfl | rfl
  · exact pr_2
  · exact pr_83
  · exact pr_379
  · exact pr_1637
  · exact pr_639533339)
theorem pr_65865678001877903 : Pr 65865678001877903 := gen_65865678001877903.pr
theorem gen_137 : Gen 137 3 := gen_of 137 3 [2, 2, 2, 17] (by decide +kernel) (by
  intro q hq
  simp only [List.mem_cons, List.not_mem_nil, or_false] at hq
  rcases hq with rfl | rfl | rfl | rfl
  · exact pr_2
  · exact pr_2
  · exact pr_2
  · exact pr_17)
theorem pr_137 : Pr 137 := gen_137.pr
theorem gen_823 : Gen 823 3 := gen_of 823 3 [2, 3, 137] (by decide +kernel) (by
  intro q hq
  simp only [List.mem_cons, List.not_mem_nil, or_false] at hq
  rcases hq with rfl | rfl | rfl
  · exact pr_2
  · exact pr_3
  · exact pr_137)
theorem pr_823 : Pr 823 := gen_823.pr
theorem gen_13818364434197438864469338081 : Gen 13818364434197438864469338081 3 := gen_of 13818364434197438864469338081 3 [2, 2, 2, 2, 2, 5, 823, 1593227, 65865678001877903] (by decide +kernel) (by
  intro q hq
  simp only [List.mem_cons, List.not_mem_nil, or_false] at hq
  rcases hq with rfl | rfl | rfl | rfl | rfl | rfl | rfl | rfl | rfl
  · exact pr_2
  · exact pr_2
  · exact pr_2
  · exact pr_2
  · exact pr_2
  · exact pr_5
  · exact pr_823
  · exact pr_1593227
  · exact pr_65865678001877903)
theorem pr_13818364434197438864469338081 : Pr 13818364434197438864469338081 := gen_13818364434197438864469338081.pr
theorem gen_13 : Gen 13 2 := gen_of 13 2 [2, 2, 3] (by decide +kernel) (by
  intro q hq
  simp only [List.mem_cons, List.not_mem_nil, or_false] at hq
  rcases hq with rfl | rfl | rfl
  · exact pr_2
  · exact pr_2
  · exact pr_3)
theorem pr_13 : Pr 13 := gen_13.pr
theorem gen_449 : Gen 449 3 := gen_of 449 3 [2, 2, 2, 2, 2, 2, 7] (by decide +kernel) (by
  intro q hq
  simp only [List.mem_cons, List.not_mem_nil, or_false] at hq
  rcases hq with rfl | rfl | rfl | rfl | rfl | rfl | rfl
  · exact pr_2
  · exact pr_2
  · exact pr_2
  · exact pr_2
  · exact pr_2
  · exact pr_2
  · exact pr_7)
theorem pr_449 : Pr 449 := gen_449.pr
theorem gen_237073 : Gen 237073 15 := gen_of 237073 15 [2, 2, 2, 2, 3, 11, 449] (by decide +kernel) (by
  intro q hq
  simp only [List.mem_cons, List.not_mem_nil, or_false] at hq
  rcases hq with rfl | rfl | rfl | rfl | rfl | rfl | rfl
  · exact pr_2
  · exact pr_2
  · exact pr_2
  · exact pr_2
  · exact pr_3
  · exact pr_11
  · exact pr_449)
theorem pr_237073 : Pr 237073 := gen_237073.pr
theorem gen_53 : Gen 53 2 := gen_of 53 2 [2, 2, 13] (by decide +kernel) (by
  intro q hq
  simp only [List.mem_cons, List.not_mem_nil, or_false] at hq
  rcases hq with rfl | rfl | rfl
  · exact pr_2
  · exact pr_2
  · exact pr_13)
theorem pr_53 : Pr 53 := gen_53.pr
theorem gen_107 : Gen 107 2 := gen_of 107 2 [2, 53] (by decide +kernel) (by
  intro q hq
  simp only [List.mem_cons, List.not_mem_nil, or_false] at hq
  rcases hq with rfl | rfl
  · exact pr_2
  · exact pr_53)
theorem pr_107 : Pr 107 := gen_107.pr
theorem gen_31 : Gen 31 3 := gen_of 31 3 [2, 3, 5] (by decide +kernel) (by
  intro q hq
  simp only [List.mem_cons, List.not_mem_nil, or_false] at hq
  rcases hq with rfl | rfl | rfl
  · exact pr_2
  · exact pr_3
  · exact pr_5)
theorem pr_31 : Pr 31 := gen_31.pr
theorem gen_93001 : Gen 93001 14 := gen_of 93001 14 [2, 2, 2, 3, 5, 5, 5, 31] (by decide +kernel) (by
  intro q hq
  simp only [List.mem_cons, List.not_mem_nil, or_false] at hq
  rcases hq with rfl | rfl | rfl | rfl | rfl | rfl | rfl | rfl
  · exact pr_2
  · exact pr_2
  · exact pr_2
  · exact pr_3
  · exact pr_5
  · exact pr_5
  · exact pr_5
  · exact pr_31)
theorem pr_93001 : Pr 93001 := gen_93001.pr
theorem gen_661 : Gen 661 2 := gen_of 661 2 [2, 2, 3, 5, 11] (by decide +kernel) (by
  intro q hq
  simp only [List.mem_cons, List.not_mem_nil, or_false] at hq
  rcases hq with rfl | rfl | rfl | rfl | rfl
  · exact pr_2
  · exact pr_2
  · exact pr_3
  · exact pr_5
  · exact pr_11)
theorem pr_661 : Pr 661 := gen_661.pr
theorem gen_12048837557 : Gen 12048837557 2 := gen_of 12048837557 2 [2, 2, 7, 7, 661, 93001] (by decide +kernel) (by
  intro q hq
  simp only [List.mem_cons, List.not_mem_nil, or_false] at hq
  rcases hq with rfl | rfl | rfl | rfl | rfl | rfl
  · exact pr_2
  · exact pr_2
  · exact pr_7
  · exact pr_7
  · exact pr_661
  · exact pr_93001)
theorem pr_12048837557 : Pr 12048837557 := gen_12048837557.pr
theorem gen_5156902474397 : Gen 5156902474397 2 := gen_of 5156902474397 2 [2, 2, 107, 12048837557] (by decide +kernel) (by
  intro q hq
  simp only [List.mem_cons, List.not_mem_nil, or_false] at hq
  rcases hq with rfl | rfl | rfl | rfl
  · exact pr_2
  · exact pr_2
  · exact pr_107
  · exact pr_12048837557)
theorem pr_5156902474397 : Pr 5156902474397 := gen_5156902474397.pr
theorem gen_1670836401704629 : Gen 1670836401704629 2 := gen_of 1670836401704629 2 [2, 2, 3, 3, 3, 3, 5156902474397] (by decide +kernel) (by
  intro q hq
  simp only [List.mem_cons, List.not_mem_nil, or_false] at hq
  rcases hq with rfl | rfl | rfl | rfl | rfl | rfl | rfl
  · exact pr_2
  · exact pr_2
  · exact pr_3
  · exact pr_3
  · exact pr_3
  · exact pr_3
  · exact pr_5156902474397)
theorem pr_1670836401704629 : Pr 1670836401704629 := gen_1670836401704629.pr
theorem gen_491 : Gen 491 2 := gen_of 491 2 [2, 5, 7, 7] (by decide +kernel) (by
  intro q hq
  simp only [List.mem_cons, List.not_mem_nil, or_false] at hq
  rcases hq with rfl | rfl | rfl | rfl
  · exact pr_2
  · exact pr_5
  · exact pr_7
  · exact pr_7)
theorem pr_491 : Pr 491 := gen_491.pr
theorem gen_983 : Gen 983 5 := gen_of 983 5 [2, 491] (by decide +kernel) (by
  intro q hq
  simp only [List.mem_cons, List.not_mem_nil, or_false] at hq
  rcases hq with rfl | rfl
  · exact pr_2
  · exact pr_491)
theorem pr_983 : Pr 983 := gen_983.pr
theorem gen_5501 : Gen 5501 2 := gen_of 5501 2 [2, 2, 5, 5, 5, 11] (by decide +kernel) (by
  intro q hq
  simp only [List.mem_cons, List.not_mem_nil, or_false] at hq
  rcases hq with rfl | rfl | rfl | rfl | rfl | rfl
  · exact pr_2
  · exact pr_2
  · exact pr_5
  · exact pr_5
  · exact pr_5
  · exact pr_11)
theorem pr_5501 : Pr 5501 := gen_5501.pr
theorem gen_11003 : Gen 11003 2 := gen_of 11003 2 [2, 5501] (by decide +kernel) (by
  intro q hq
  simp only [List.mem_cons, List.not_mem_nil, or_false] at hq
  rcases hq with rfl | rfl
  · exact pr_2
  · exact pr_5501)
theorem pr_11003 : Pr 11003 := gen_11003.pr
theorem gen_29 : Gen 29 2 := gen_of 29 2 [2, 2, 7] (by decide +kernel) (by
  intro q hq
  simp only [List.mem_cons, List.not_mem_nil, or_false] at hq
  rcases hq with rfl | rfl | rfl
  · exact pr_2
  · exact pr_2
  · exact pr_7)
theorem pr_29 : Pr 29 := gen_29.pr
theorem gen_3691 : Gen 3691 2 := gen_of 3691 2 [2, 3, 3, 5, 41] (by decide +kernel) (by
  intro q hq
  simp only [List.mem_cons, List.not_mem_nil, or_false] at hq
  rcases hq with rfl | rfl | rfl | rfl | rfl
  · exact pr_2
  · exact pr_3
  · exact pr_3
  · exact pr_5
  · exact pr_41)
theorem pr_3691 : Pr 3691 := gen_3691.pr
theorem gen_4999 : Gen 4999 3 := gen_of 4999 3 [2, 3, 7, 7, 17] (by decide +kernel) (by
  intro q hq
  simp only [List.mem_cons, List.not_mem_nil, or_false] at hq
  rcases hq with rfl | rfl | rfl | rfl | rfl
  · exact pr_2
  · exact pr_3
  · exact pr_7
  · exact pr_7
  · exact pr_17)
theorem pr_4999 : Pr 4999 := gen_4999.pr
theorem gen_405928799 : Gen 405928799 22 := gen_of 405928799 22 [2, 11, 3691, 4999] (by decide +kernel) (by
  intro q hq
  simp only [List.mem_cons, List.not_mem_nil, or_false] at hq
  rcases hq with rfl | rfl | rfl | rfl
  · exact pr_2
  · exact pr_11
  · exact pr_3691
  · exact pr_4999)
theorem pr_405928799 : Pr 405928799 := gen_405928799.pr
theorem gen_p : Gen 21888242871839275222246405745257275088548364400416034343698204186575808495617 5 := gen_of 21888242871839275222246405745257275088548364400416034343698204186575808495617 5 [2, 2, 2, 2, 2, 2, 2, 2, 2, 2, 2, 2, 2, 2, 2, 2, 2, 2, 2, 2, 2, 2, 2, 2, 2, 2, 2, 2, 3, 3, 13, 29, 983, 11003, 237073, 405928799, 1670836401704629, 13818364434197438864469338081] (by decide +kernel) (by
  intro q hq
  simp only [List.mem_cons, List.not_mem_nil, or_false] at hq
  rcases hq with rfl | rfl | rfl | rfl | rfl | rfl | rfl | rfl | rfl | rfl | rfl | rfl | rfl | rfl | rfl | rfl | rfl | rfl | rfl | rfl | rfl | rfl | rfl | rfl | rfl | rfl | rfl | rfl | rfl | rfl | rfl | rfl | rfl | rfl | rfl | rfl | rfl | rfl
  · exact pr_2
  · exact pr_2
  · exact pr_2
  · exact pr_2
  · exact pr_2
  · exact pr_2
  · exact pr_2
  · exact pr_2
  · exact pr_2
  · exact pr_2
  · exact pr_2
  · exact pr_2
  · exact pr_2
  · exact pr_2
  · exact pr_2
  · exact pr_2
  · exact pr_2
  · exact pr_2
  · exact pr_2
  · exact pr_2
  · exact pr_2
  · exact pr_2
  · exact pr_2
  · exact pr_2
  · exact pr_2
  · exact pr_2
  · exact pr_2
  · exact pr_2
  · exact pr_3
  · exact pr_3
  · exact pr_13
  · exact pr_29
  · exact pr_983
  · exact pr_11003
  · exact pr_237073
  · exact pr_405928799
  · exact pr_1670836401704629
  · exact pr_13818364434197438864469338081)
theorem pr_p : Pr 21888242871839275222246405745257275088548364400416034343698204186575808495617 := gen_p.pr

theorem gen_pN : Gen pN 5 := gen_p
theorem pr_pN : Pr pN := gen_pN.pr
def dN : Nat := 17510594297471420177797124596205820070838691520332827474958563349260646796493
theorem dN_eq : 5 * dN = 1 + (pN - 1) * 4 := by decide +kernel
theorem pow_5d (x : Nat) : x ^ (5 * dN) % pN = x % pN := by
  by_cases h : x % pN = 0
  · rw [Nat.pow_mod, h, Nat.zero_pow (by decide)]; rfl
  · obtain ⟨_, _, h2⟩ := gen_pN.unit h
    rw [dN_eq, Nat.pow_add, Nat.pow_one, Nat.mul_mod, pow_one_mul (by decide) h2, Nat.mul_one, Nat.mod_mod]
theorem pow5_inj (x y : Nat) (h : x ^ 5 % pN = y ^ 5 % pN) : x % pN = y % pN := by
  rw [← pow_5d x, ← pow_5d y, Nat.pow_mul, Nat.pow_mul, Nat.pow_mod, h, ← Nat.pow_mod]
end Go.Av

namespace Go.Av
set_option maxHeartbeats 2000000
set_option maxRecDepth 20000
set_option linter.unusedSimpArgs false
set_option linter.unusedVariables false
theorem fe_eq (x y : Nat) : fe x = fe y ↔ x % pN = y % pN := by
  constructor
  · exact fe_inj
  · intro h; rw [← fe_mod x, ← fe_mod y, h]
theorem fe_pow5 (x y : Nat) : decide (fe (x ^ 5) = fe (y ^ 5)) = decide (fe x = fe y) := by
  refine decide_eq_decide.2 ?_
  rw [fe_eq, fe_eq]
  refine ⟨pow5_inj x y, fun h => ?_⟩
  rw [Nat.pow_mod, h, ← Nat.pow_mod]
theorem eqBB (a b : Bool) : eqA .bool (.bool a) (.bool b) = some (a == b) := rfl
theorem ok_PoseidonPower (L : Lim) (h : AHeap) (ca cb : Bool) (a b : List Int) (ha : inB a) (hb : inB b) : acall ctx L i_avouchlaw10zPoseidonPower [.vsl ca (eI .u8 a), .vsl cb (eI .u8 b)] h = some (.bool true, h) := by
  rw [call_avouchlaw10zPoseidonPower]
  have hS := ok_speaks10
  by_cases ha40 : (40 : Int) < a.length
  · simp -implicitDefEqProofs [C_avouchlaw10zPoseidonPower, limP, hS, ha40, lenA]
  · by_cases hb40 : (40 : Int) < b.length
    · simp -implicitDefEqProofs [C_avouchlaw10zPoseidonPower, limP, hS, ha40, hb40, lenA]
    · have hFa := fun L h => ok_FromWide L h false a ha (by omega)
      have hFb := fun L h => ok_FromWide L h false b hb (by omega)
      generalize leN a = x at *
      generalize leN b = y at *
      have hPx := fun L h => ok_Power L h x
      have hPy := fun L h => ok_Power L h y
      have hsl : fillA (rep [AVal.int .u64 0] 1) [(0, 1, .int .u64 5)] = some [.int .u64 5] := rfl
      have hch : chunks 1 1 [AVal.int .u64 5] = eW [5#64] := rfl
      have hX := fun L h c => ok_Exp L h x (.vsl c (eW [5#64])) [5#64] (RdW.vsl h c [5#64]) (by decide)
      rw [show val [5#64] = 5 from rfl] at hX
      have hE1 := fun L h => ok_Equal L h (fe (x ^ 5)) (fe (x ^ 5)) rfl rfl
      have hE2 := fun L h => ok_Equal L h (fe (x ^ 5)) (fe (y ^ 5)) rfl rfl
      have hE3 := fun L h => ok_Equal L h (fe x) (fe y) rfl rfl
      have hd := fe_pow5 x y
      have l1 := fe_len x
      have l2 := fe_len y
      simp only [decide_true] at hE1
      rw [hd] at hE2
      generalize decide (fe x = fe y) = dd at *
      generalize fe (x ^ 5) = x5 at *
      generalize fe (y ^ 5) = y5 at *
      generalize fe x = fx at *
      generalize fe y = fy at *
      simp -implicitDefEqProofs [C_avouchlaw10zPoseidonPower, limP, hS, ha40, hb40, lenA, hFa, hFb, rep1_W, stKB, setAtB, l1, l2, partAB, hPx, hPy, hsl, hch, hX, hE1, hE2, hE3, eqBB]
end Go.Av
