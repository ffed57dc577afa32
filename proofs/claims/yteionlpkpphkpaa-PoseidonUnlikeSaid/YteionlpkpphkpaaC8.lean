/- The document's digits: sums, differences, products, rests. -/
import Derived.Test.YteionlpkpphkpaaC3
namespace Go.Av
set_option maxHeartbeats 2000000
set_option maxRecDepth 20000
set_option linter.unusedSimpArgs false
set_option linter.unusedVariables false
/-! #### lists with something behind -/
theorem app_get {α : Type} {bs : List α} {i : Nat} {x : α} (js : List α) (h : bs[i]? = some x) : (bs ++ js)[i]? = some x := by
  rw [List.getElem?_append_left (List.getElem?_eq_some_iff.1 h).1, h]
theorem app_set {α : Type} {bs : List α} {i : Nat} (js : List α) (x : α) (h : i < bs.length) : (bs ++ js).set i x = bs.set i x ++ js := List.set_append_left _ _ h
theorem app_getR {α : Type} (bs js : List α) (n k : Nat) (h : n = bs.length) : (bs ++ js)[n + k]? = js[k]? := by
  subst h; rw [List.getElem?_append_right (Nat.le_add_right _ _), Nat.add_sub_cancel_left]
theorem app_setR {α : Type} (bs js : List α) (n k : Nat) (x : α) (h : n = bs.length) : (bs ++ js).set (n + k) x = bs ++ js.set k x := by
  subst h; rw [List.set_append_right _ _ (Nat.le_add_right _ _), Nat.add_sub_cancel_left]
theorem trunc_app (h : AHeap) (bs js : List (List AVal)) (ts : List Nat) (n : Nat) (hn : n = bs.length) : trunc (hx h (bs ++ js) ts) (h.blks.length + n) (h.toks.length + ts.length) = hx h bs ts := by
  subst hn
  unfold trunc hx
  have e : ∀ {α : Type} (a b c : List α), (a ++ (b ++ c)).take (a.length + b.length) = a ++ b := fun a b c => by
    rw [← List.append_assoc, ← List.length_append]; exact List.take_left
  simp only [e]
  rw [← List.length_append, List.take_length]
/-! #### digits -/
def dB : Nat := 4294967296
def vD : List W64 → Nat
  | [] => 0
  | x :: l => x.toNat + dB * vD l
/-- All digits below 2 to the power of 32. -/
def Dg (l : List W64) : Prop := ∀ i, (gd l 0#64 i).toNat < dB
theorem gd_out {l : List W64} {i : Nat} (h : l.length ≤ i) : gd l 0#64 i = 0#64 := by
  unfold gd; simp [List.getD, List.getElem?_eq_none h]
theorem gd_cons0 (x : W64) (l : List W64) : gd (x :: l) 0#64 0 = x := rfl
theorem gd_consS (x : W64) (l : List W64) (i : Nat) : gd (x :: l) 0#64 (i + 1) = gd l 0#64 i := rfl
theorem Dg.tail {x : W64} {l : List W64} (h : Dg (x :: l)) : Dg l := fun i => h (i + 1)
theorem Dg.head {x : W64} {l : List W64} (h : Dg (x :: l)) : x.toNat < dB := h 0
theorem Dg.nil : Dg [] := fun i => by rw [gd_out (by simp)]; decide
theorem Dg.cons {x : W64} {l : List W64} (h1 : x.toNat < dB) (h : Dg l) : Dg (x :: l) := fun i => match i with
  | 0 => h1
  | i + 1 => h i
theorem Dg.take {l : List W64} (h : Dg l) (n : Nat) : Dg (l.take n) := fun i => by
  by_cases hi : i < n
  · rw [gd_take hi]; exact h i
  · rw [gd_out (by simp; omega)]; decide
theorem Dg.tab {n : Nat} {f : Nat → W64} (h : ∀ i, i < n → (f i).toNat < dB) : Dg (tab n f) := fun i => by
  by_cases hi : i < n
  · rw [gd_tab hi]; exact h i hi
  · rw [gd_out (by simp; omega)]; decide
/-- The sum of so many digits. -/
def sD (f : Nat → W64) : Nat → Nat
  | 0 => 0
  | k + 1 => sD f k + (f k).toNat * dB ^ k
theorem sD_congr {f g : Nat → W64} : ∀ {n : Nat}, (∀ i, i < n → f i = g i) → sD f n = sD g n
  | 0, _ => rfl
  | n + 1, h => by unfold sD; rw [sD_congr fun i hi => h i (by omega), h n (by omega)]
theorem sD_shift (f : Nat → W64) : ∀ n, sD f (n + 1) = (f 0).toNat + dB * sD (fun i => f (i + 1)) n
  | 0 => by simp [sD]
  | n + 1 => by
    rw [sD, sD_shift f n, sD, Nat.mul_add, Nat.add_assoc, Nat.pow_succ]
    congr 2
    rw [Nat.mul_comm dB, Nat.mul_assoc]
theorem vD_sD : ∀ (l : List W64) (n : Nat), l.length ≤ n → vD l = sD (gd l 0#64) n
  | [], n, _ => by
    have : ∀ n, sD (gd ([] : List W64) 0#64) n = 0 := by
      intro n
      induction n with
      | zero => rfl
      | succ n ih => rw [sD, ih]; simp [gd, List.getD]
    rw [this]; rfl
  | x :: l, 0, h => by simp at h
  | x :: l, n + 1, h => by
    rw [sD_shift, vD, vD_sD l n (by simpa using h)]
    rfl
theorem sD_lt {f : Nat → W64} : ∀ {n : Nat}, (∀ i, i < n → (f i).toNat < dB) → sD f n < dB ^ n
  | 0, _ => by simp [sD]
  | n + 1, h => by
    have a := sD_lt (f := f) (n := n) fun i hi => h i (by omega)
    have b := h n (by omega)
    have : (f n).toNat * dB ^ n + dB ^ n ≤ dB * dB ^ n := by
      rw [← Nat.succ_mul]; exact Nat.mul_le_mul_right _ b
    rw [sD, Nat.pow_succ, Nat.mul_comm (dB ^ n)]
    omega
theorem vD_lt {l : List W64} (h : Dg l) : vD l < dB ^ l.length := by
  rw [vD_sD l _ (Nat.le_refl _)]; exact sD_lt fun i _ => h i
theorem vD_tab (n : Nat) (f : Nat → W64) : vD (tab n f) = sD f n := by
  rw [vD_sD _ n (by simp)]; exact sD_congr fun i hi => gd_tab hi
/-- Without 0 at the end. -/
def Can (l : List W64) : Prop := Dg l ∧ (l = [] ∨ gd l 0#64 (l.length - 1) ≠ 0#64)
theorem Can.nil : Can [] := ⟨Dg.nil, .inl rfl⟩
theorem Can.tail {x : W64} {l : List W64} (h : Can (x :: l)) : Can l := ⟨h.1.tail, by
  cases l with
  | nil => exact .inl rfl
  | cons y l =>
    right
    rcases h.2 with e | e
    · cases e
    · simpa [gd_consS] using e⟩
theorem toNat_ne {x : W64} (h : x ≠ 0#64) : x.toNat ≠ 0 := fun e => h (BitVec.eq_of_toNat_eq e)
theorem Can.pos : ∀ {l : List W64}, Can l → l ≠ [] → vD l ≠ 0
  | [], _, h => absurd rfl h
  | [x], h, _ => by
    rcases h.2 with e | e
    · cases e
    · have := toNat_ne (x := x) e
      unfold vD; omega
  | x :: y :: l, h, _ => by
    have := Can.pos h.tail (by simp)
    have hB : dB = 4294967296 := rfl
    unfold vD
    rw [hB]
    omega
theorem Can.uniq : ∀ {l m : List W64}, Can l → Can m → vD l = vD m → l = m
  | [], [], _, _, _ => rfl
  | [], y :: m, _, h, e => absurd e.symm (h.pos (by simp))
  | x :: l, [], h, _, e => absurd e (h.pos (by simp))
  | x :: l, y :: m, h, h2, e => by
    have a := h.1.head
    have b := h2.1.head
    have hB : dB = 4294967296 := rfl
    unfold vD at e
    rw [hB] at e a b
    have e1 : x = y := BitVec.eq_of_toNat_eq (by omega)
    have e2 : vD l = vD m := by subst e1; omega
    rw [e1, Can.uniq h.tail h2.tail e2]
/-- The digits of a number. -/
def dgF : Nat → Nat → List W64
  | 0, _ => []
  | f + 1, n => if n = 0 then [] else BitVec.ofNat 64 (n % dB) :: dgF f (n / dB)
def dg (n : Nat) : List W64 := dgF n n
theorem dgF_ok : ∀ (f n : Nat), n ≤ f → Can (dgF f n) ∧ vD (dgF f n) = n
  | 0, n, h => ⟨Can.nil, by have : n = 0 := by omega
                            subst this; rfl⟩
  | f + 1, n, h => by
    unfold dgF
    by_cases h0 : n = 0
    · rw [if_pos h0]; exact ⟨Can.nil, h0.symm⟩
    · rw [if_neg h0]
      have hB : dB = 4294967296 := rfl
      have hlt : n % dB < dB := by rw [hB]; omega
      have hx : (BitVec.ofNat 64 (n % dB) : W64).toNat = n % dB := by
        rw [BitVec.toNat_ofNat]; rw [hB] at *; omega
      obtain ⟨a, b⟩ := dgF_ok f (n / dB) (by
        have : n / dB ≤ n / 2 := Nat.div_le_div_left (by rw [hB]; omega) (by omega)
        omega)
      refine ⟨⟨Dg.cons (by rw [hx]; exact hlt) a.1, .inr ?_⟩, ?_⟩
      · cases hd : dgF f (n / dB) with
        | nil =>
          rw [hd] at b
          have : n / dB = 0 := b.symm
          intro e
          have e2 := congrArg BitVec.toNat e
          simp only [List.length_cons, List.length_nil] at e2
          rw [show (0 + 1 - 1) = 0 from rfl, gd_cons0, hx] at e2
          rw [hB] at *
          simp at e2
          omega
        | cons y l =>
          rw [hd] at a
          rcases a.2 with e | e
          · cases e
          · simpa [gd_consS] using e
      · rw [vD, hx, b, hB]; omega
theorem dg_can (n : Nat) : Can (dg n) := (dgF_ok n n (Nat.le_refl _)).1
@[simp] theorem dg_val (n : Nat) : vD (dg n) = n := (dgF_ok n n (Nat.le_refl _)).2
theorem dg_dg (n : Nat) : Dg (dg n) := (dg_can n).1
theorem dg_of {l : List W64} (h : Can l) : l = dg (vD l) := Can.uniq h (dg_can _) (dg_val _).symm
theorem dg_zero : dg 0 = [] := rfl
theorem dg_len {n k : Nat} (h : n < dB ^ k) : (dg n).length ≤ k := by
  refine Nat.le_of_not_lt fun hk => ?_
  rcases (dg_can n).2 with e | e
  · rw [e] at hk; simp at hk
  · have h1 := vD_sD (dg n) (dg n).length (Nat.le_refl _)
    obtain ⟨m, hm⟩ : ∃ m, (dg n).length = m + 1 := ⟨(dg n).length - 1, by omega⟩
    rw [hm] at e h1
    simp only [Nat.add_sub_cancel] at e
    rw [dg_val, sD] at h1
    have := toNat_ne e
    have h2 : dB ^ k ≤ dB ^ m := Nat.pow_le_pow_right (by decide) (by omega)
    have h3 : dB ^ m ≤ (gd (dg n) 0#64 m).toNat * dB ^ m := Nat.le_mul_of_pos_left _ (by omega)
    omega
theorem dg_at (n i : Nat) : (gd (dg n) 0#64 i).toNat = n / dB ^ i % dB := by
  have key : ∀ (l : List W64), Dg l → ∀ i, (gd l 0#64 i).toNat = vD l / dB ^ i % dB := by
    intro l
    induction l with
    | nil => intro _ i; simp [gd, List.getD, vD]
    | cons x l ih =>
      intro h i
      have hB : 0 < dB := by decide
      cases i with
      | zero => rw [gd_cons0, vD, Nat.pow_zero, Nat.div_one, Nat.add_mul_mod_self_left, Nat.mod_eq_of_lt h.head]
      | succ i =>
        rw [gd_consS, ih h.tail i, vD, Nat.pow_succ, Nat.mul_comm (dB ^ i), ← Nat.div_div_eq_div_mul, Nat.add_mul_div_left _ _ hB, Nat.div_eq_of_lt h.head, Nat.zero_add]
  rw [key _ (dg_dg n), dg_val]
/-- How many digits are left without those that are 0 at the end. -/
def tlen (l : List W64) : Nat → Nat
  | 0 => 0
  | k + 1 => match gd l 0#64 k == 0#64 with
    | true => tlen l k
    | false => k + 1
theorem tlen_le (l : List W64) : ∀ k, tlen l k ≤ k
  | 0 => Nat.le_refl _
  | k + 1 => by
    unfold tlen
    split
    · have := tlen_le l k; omega
    · exact Nat.le_refl _
theorem trim_ok (l : List W64) (h : Dg l) : ∀ k, k ≤ l.length → vD (l.take k) = vD (l.take (tlen l k)) ∧ Can (l.take (tlen l k))
  | 0, _ => ⟨rfl, Can.nil⟩
  | k + 1, hk => by
    unfold tlen
    cases h0 : gd l 0#64 k == 0#64 with
    | true =>
      obtain ⟨a, b⟩ := trim_ok l h k (by omega)
      refine ⟨?_, b⟩
      simp only
      rw [← a, vD_sD (l.take (k + 1)) (k + 1) (by simp; omega), vD_sD (l.take k) (k + 1) (by simp; omega)]
      refine sD_congr fun i hi => ?_
      by_cases hik : i < k
      · rw [gd_take hi, gd_take hik]
      · have : i = k := by omega
        subst this
        rw [gd_take hi, gd_out (l := l.take i) (by simp; omega)]
        exact beq_iff_eq.1 h0
    | false =>
      refine ⟨rfl, h.take _, .inr ?_⟩
      simp only
      rw [List.length_take, Nat.min_eq_left hk, Nat.add_sub_cancel, gd_take (by omega)]
      intro e
      rw [e] at h0
      simp at h0
theorem trim_dg {l : List W64} (h : Dg l) : l.take (tlen l l.length) = dg (vD l) := by
  obtain ⟨a, b⟩ := trim_ok l h l.length (Nat.le_refl _)
  rw [List.take_length] at a
  rw [dg_of b, ← a]
end Go.Av

namespace Go.Av
set_option maxHeartbeats 2000000
set_option maxRecDepth 20000
set_option linter.unusedSimpArgs false
set_option linter.unusedVariables false
/-- A list of words that can be handed on, and read. -/
structure LV (x : AVal) (l : List W64) : Prop where
  fz : ∀ h, fzA h x = some (.vsl false (eW l), false)
  rd : ∀ h, RdW h x l
theorem LV.vsl (c : Bool) (l : List W64) : LV (.vsl c (eW l)) l := ⟨fun h => fzA_vsl h c _, fun h => RdW.vsl h c l⟩
theorem LV.nsl : LV .nsl [] := ⟨fun h => fzA_nsl h, fun h => ⟨rfl, fun _ => .nilp, fun i hi => by simp at hi, fun i _ _ hi => by simp at hi⟩⟩
theorem wd_lt (x y : W64) : binA .lss (wd x) (wd y) = some (.bool (decide (x.toNat < y.toNat))) := by
  show some (AVal.bool (decide ((x.toNat : Int) < y.toNat))) = _
  simp
theorem wd_gt (x y : W64) : binA .gtr (wd x) (wd y) = some (.bool (decide (y.toNat < x.toNat))) := by
  show some (AVal.bool (decide ((x.toNat : Int) > y.toNat))) = _
  simp
def rmW (x : W64) (c : Nat) : W64 := BitVec.ofNat 64 (x.toNat % c)
def qtW (x : W64) (c : Nat) : W64 := BitVec.ofNat 64 (x.toNat / c)
theorem rmW_nat (x : W64) (c : Nat) : (rmW x c).toNat = x.toNat % c := by
  unfold rmW; rw [BitVec.toNat_ofNat, Nat.mod_eq_of_lt (Nat.lt_of_le_of_lt (Nat.mod_le _ _) x.isLt)]
theorem qtW_nat (x : W64) (c : Nat) : (qtW x c).toNat = x.toNat / c := by
  unfold qtW; rw [BitVec.toNat_ofNat, Nat.mod_eq_of_lt (Nat.lt_of_le_of_lt (Nat.div_le_self _ _) x.isLt)]
theorem wd_remC (x : W64) (c : Nat) (h : c ≠ 0) : binA .rem (wd x) (.int .u64 (c : Int)) = some (wd (rmW x c)) := by
  have := bin_rem (k := .u64) (a := (x.toNat : Int)) (b := (c : Int)) (by omega)
  rw [tmodL] at this
  rw [wd, wd, rmW_nat]; exact this
theorem wd_quoC (x : W64) (c : Nat) (h : c ≠ 0) : binA .quo (wd x) (.int .u64 (c : Int)) = some (wd (qtW x c)) := by
  have := bin_quo (k := .u64) (a := (x.toNat : Int)) (b := (c : Int)) (by omega)
  rw [tdivL, wrapU _ (Nat.lt_of_le_of_lt (Nat.div_le_self _ _) x.isLt)] at this
  rw [wd, wd, qtW_nat]; exact this
theorem wd_rem32 (x : W64) : binA .rem (wd x) (.int .u64 4294967296) = some (wd (rmW x 4294967296)) := wd_remC x 4294967296 (by decide)
theorem wd_quo32 (x : W64) : binA .quo (wd x) (.int .u64 4294967296) = some (wd (qtW x 4294967296)) := wd_quoC x 4294967296 (by decide)
theorem wd_rem8 (x : W64) : binA .rem (wd x) (.int .u64 256) = some (wd (rmW x 256)) := wd_remC x 256 (by decide)
theorem wd_quo8 (x : W64) : binA .quo (wd x) (.int .u64 256) = some (wd (qtW x 256)) := wd_quoC x 256 (by decide)
theorem wd_rem1 (x : W64) : binA .rem (wd x) (.int .u64 2) = some (wd (rmW x 2)) := wd_remC x 2 (by decide)
theorem wd_quo1 (x : W64) : binA .quo (wd x) (.int .u64 2) = some (wd (qtW x 2)) := wd_quoC x 2 (by decide)
theorem ok_Rget (L : Lim) (h : AHeap) (x : AVal) (l : List W64) (hr : RdW h x l) (i : Nat) : acall ctx L i_avouchref01zget [x, .int .i64 (i : Int)] h = some (wd (gd l 0#64 i), h) := by
  rw [call_avouchref01zget]
  obtain ⟨r1, p, r2, r3⟩ := hr
  by_cases hi : i < l.length
  · simp -implicitDefEqProofs [C_avouchref01zget, limP, r1, hi, r2 i hi, r3 i [] [] hi]
  · have hg : gd l 0#64 i = 0#64 := gd_out (Nat.le_of_not_lt hi)
    simp -implicitDefEqProofs [C_avouchref01zget, limP, r1, hi, hg, wd0]
theorem loop_Trim {fr : Fr} {h : AHeap} {R : Option (AEx × Fr × AHeap)} (x : AVal) (l : List W64) (hr : RdW h x l) (hn : l.length < 1000000000)
    (hF : run ctx (limP h) (.loop Ba_avouchref01zTrim) fr (hx h [] []) = R)
    (h0 : fr 0 = x) (h3 : fr 3 = .int .i64 (l.length : Int)) :
    ∃ fr', R = some (.exit 0, fr', hx h [] []) ∧ fr' 3 = .int .i64 ((tlen l l.length : Nat) : Int) ∧ ∀ t, t ∉ wr Ba_avouchref01zTrim → fr' t = fr t := by
  obtain ⟨r1, p, r2, r3⟩ := hr
  generalize hT : tlen l l.length = T at *
  obtain ⟨e, fr', h', rfl, ⟨rfl, rfl, h3'⟩, hk⟩ := loop_rule hF l.length
    (fun k fr hh => ∃ m, m + k = l.length ∧ fr 3 = .int .i64 (m : Int) ∧ T = tlen l m ∧ hh = hx h [] [])
    (fun e fr hh => e = .exit 0 ∧ hh = hx h [] [] ∧ fr 3 = .int .i64 (T : Int))
    ⟨l.length, rfl, h3, hT.symm, rfl⟩ (by
      rintro k fr1 hh hkN hkeep ⟨m, hm, g3, ht, rfl⟩
      have g0 := (hkeep 0 (by decide)).trans h0
      cases m with
      | succ i =>
        have w1 : IntKind.i64.wrap (((i + 1 : Nat) : Int) - 1) = (i : Int) := (wrap_i64 (by omega) (by omega)).trans (by omega)
        have hro := r2 i (by omega)
        have hrd := r3 i [] [] (by omega)
        have hst : tlen l (i + 1) = match gd l 0#64 i == 0#64 with | true => tlen l i | false => i + 1 := rfl
        have e0 : AVal.int .u64 0 = wd 0#64 := rfl
        have hgt : (0 : Int) < ((i + 1 : Nat) : Int) := by omega
        rw [hst] at ht
        cases hz : gd l 0#64 i == 0#64 with
        | true =>
          rw [hz] at ht
          simp only at ht
          generalize ((i + 1 : Nat) : Int) = ii at *
          simp -implicitDefEqProofs [Ba_avouchref01zTrim, limP, g0, g3, hgt, w1, hro, hrd, e0, wd_eqlB, hz, -bin_eql]
          exact ⟨by omega, i, by omega, rfl, ht⟩
        | false =>
          rw [hz] at ht
          simp only at ht
          subst ht
          generalize ((i + 1 : Nat) : Int) = ii at *
          simp -implicitDefEqProofs [Ba_avouchref01zTrim, limP, g0, g3, hgt, w1, hro, hrd, e0, wd_eqlB, hz, -bin_eql]
      | zero =>
        have ht0 : T = 0 := ht
        subst ht0
        simp [Ba_avouchref01zTrim, g3])
  exact ⟨fr', rfl, h3', hk⟩
theorem ok_RTrim (L : Lim) (h : AHeap) (x r r' : AVal) (l : List W64) (hr : RdW h x l) (hn : l.length < 1000000000) (hsl : sliceV .slc 1 x none (some (.int .i64 ((tlen l l.length : Nat) : Int))) none = some r)
    (hfz : frz (hx h [] []) h.blks.length h.toks.length 12 r = some r') : acall ctx L i_avouchref01zTrim [x] h = some (r', h) := by
  rw [call_avouchref01zTrim]
  have hlo := fun fr R => loop_Trim (fr := fr) (h := h) (R := R) x l hr hn
  obtain ⟨r1, _⟩ := hr
  generalize ((tlen l l.length : Nat) : Int) = tl at *
  simp -implicitDefEqProofs [C_avouchref01zTrim, limP, r1]
  generalize hF : run ctx _ (.loop _) _ _ = R
  obtain ⟨fr1, rfl, h3, hk1⟩ := hlo _ _ hF (by simp) (by simp)
  simp -implicitDefEqProofs [hk1, wr, Ba_avouchref01zTrim, dsts, h3, hsl, hfz]
/-- Of what can be handed on. -/
theorem ok_RTrimV (L : Lim) (h : AHeap) (c : Bool) (l : List W64) (hd : Dg l) (hn : l.length < 1000000000) : acall ctx L i_avouchref01zTrim [.vsl c (eW l)] h = some (.vsl false (eW (dg (vD l))), h) := by
  have htl := tlen_le l l.length
  have htd := trim_dg hd
  refine ok_RTrim L h _ (.vsl (c && tlen l l.length == l.length) (eW (dg (vD l)))) _ l (RdW.vsl h c l) hn ?_ (frz_eWv _ _ _ _ _ _)
  have e1 : subL 0 (tlen l l.length) (eW l) = eW (dg (vD l)) := by rw [← htd]; simp [subL, eW, List.map_take]
  simp [sliceV, bndA, htl, e1]
/-- Of what is being made. -/
theorem ok_RTrimS (L : Lim) (h : AHeap) (bs : List (List AVal)) (ts : List Nat) (i n c : Nat) (cs l : List W64) (hb : bs[i]? = some (cW cs)) (hl : cs.take n = l) (hln : l.length = n) (hd : Dg l) (hn : n < 1000000000) (hnc : n ≤ c) :
    ∃ r, acall ctx L i_avouchref01zTrim [sA h.blks.length i 0 1 n (some c)] (hx h bs ts) = some (r, hx h bs ts) ∧ ∀ js, frz (hx h (bs ++ js) ts) h.blks.length h.toks.length 12 r = some (.vsl false (eW (dg (vD l)))) := by
  have hrd : RdW (hx h bs ts) (sA h.blks.length i 0 1 n (some c)) l := by
    refine ⟨by simp [hln], fun k => pA h.blks.length i (0 + k * 1), fun k hk => ?_, fun k bs' ts' hk => ?_⟩
    · exact iadr_sA h.blks.length i 0 1 n k (some c) .i64 (by simp; omega)
    · rw [hx_hx, loadA_pA, app_get bs' hb, partO_some, partA_one, Nat.zero_add, Nat.mul_one]
      have hkc : k < cs.length := by rw [← hl] at hk; simp at hk; omega
      have : gd l 0#64 k = gd cs 0#64 k := by rw [← hl, gd_take (by omega)]
      rw [this]; exact cW_at hkc
  have htl := tlen_le l n
  have htd := trim_dg hd
  rw [hln] at htd
  have hcl : n ≤ cs.length := by rw [← hl] at hln; simp at hln; omega
  have hb2 : bs[i]? = some (cI .u64 (nats cs)) := by rw [hb, cW_nats]
  have hbl := (List.getElem?_eq_some_iff.1 hb).1
  by_cases h0 : tlen l n = 0
  · have htd0 : dg (vD l) = [] := by rw [← htd, h0]; rfl
    rw [htd0]
    refine ⟨.vsl false (eW []), ok_RTrim L _ _ (.vsl (some c == some 0) (eW [])) _ l hrd (by omega) ?_ (frz_eWv _ _ _ _ _ _), fun js => frz_eWv _ _ _ _ _ _⟩
    rw [hln, h0]; simp [sliceV, sA, bndA]
  · refine ⟨sA h.blks.length i 0 1 (tlen l n) (some c), ok_RTrim L _ _ (sA h.blks.length i 0 1 (tlen l n) (some c)) _ l hrd (by omega) ?_ ?_, fun js => ?_⟩
    · rw [hln]; simp [sliceV, sA, bndA, h0, show tlen l n ≤ c by omega]
    · exact frz_sOld _ _ _ _ _ _ _ _ _ (by simp [hx_blks, hbl])
    · have := frz_sA h (bs ++ js) ts h.toks.length 11 i (tlen l n) (some c) .u64 (nats cs) (app_get js hb2) (by simp; omega)
      rw [this, ← htd]
      generalize tlen l n = T at *
      rw [← hl, List.take_take, Nat.min_eq_left htl, nats_take, ← eW_nats]
/-! #### compared -/
theorem sD_cmp {f g : Nat → W64} (hf : ∀ i, (f i).toNat < dB) : ∀ (n m : Nat), m < n → (∀ j, m < j → j < n → f j = g j) → (f m).toNat < (g m).toNat → sD f n < sD g n
  | 0, m, h, _, _ => by omega
  | n + 1, m, h, he, hl => by
    rw [sD, sD]
    by_cases e : m = n
    · subst e
      have h1 := sD_lt (f := f) (n := m) fun i _ => hf i
      have h2 : (f m).toNat * dB ^ m + dB ^ m ≤ (g m).toNat * dB ^ m := by
        rw [← Nat.succ_mul]; exact Nat.mul_le_mul_right _ hl
      omega
    · have h1 := sD_cmp hf n m (by omega) (fun j h1 h2 => he j h1 (by omega)) hl
      rw [he n (by omega) (by omega)]
      omega
theorem cmpN_lt {x y : Nat} (h : x < y) : cmpN x y = -1 := by unfold cmpN; rw [if_pos h]
theorem cmpN_gt {x y : Nat} (h : y < x) : cmpN x y = 1 := by unfold cmpN; rw [if_neg (by omega), if_pos h]
theorem cmpN_eq (x : Nat) : cmpN x x = 0 := by unfold cmpN; simp
theorem loop_RCmp {fr : Fr} {h : AHeap} {R : Option (AEx × Fr × AHeap)} (x y : AVal) (a b : List W64) (hx1 : RdW h x a) (hy1 : RdW h y b) (ha : Dg a) (hb : Dg b) (n : Nat) (hn : n < 1000000000)
    (hF : run ctx (limP h) (.loop Ba_avouchref01zCmp) fr (hx h [] []) = R)
    (h0 : fr 0 = x) (h1 : fr 1 = y) (h5 : fr 5 = .int .i64 ((n : Int) - 1)) :
    ∃ e fr', R = some (e, fr', hx h [] []) ∧ (e = .exit 0 ∧ (∀ j, j < n → gd a 0#64 j = gd b 0#64 j) ∧ (∀ t, t ∉ wr Ba_avouchref01zCmp → fr' t = fr t) ∨ e = .ret ∧ fr' 4 = .int .i64 (cmpN (sD (gd a 0#64) n) (sD (gd b 0#64) n))) := by
  obtain ⟨e, fr', h', rfl, ⟨rfl, hor⟩, hk⟩ := loop_rule hF n
    (fun k fr hh => ∃ m, m + k = n ∧ fr 5 = .int .i64 ((m : Int) - 1) ∧ (∀ j, m ≤ j → j < n → gd a 0#64 j = gd b 0#64 j) ∧ hh = hx h [] [])
    (fun e fr hh => hh = hx h [] [] ∧ (e = .exit 0 ∧ (∀ j, j < n → gd a 0#64 j = gd b 0#64 j) ∨ e = .ret ∧ fr 4 = .int .i64 (cmpN (sD (gd a 0#64) n) (sD (gd b 0#64) n))))
    ⟨n, rfl, h5, fun j h1 h2 => by omega, rfl⟩ (by
      rintro k fr1 hh hkN hkeep ⟨m, hm, g5, he, rfl⟩
      have g0 := (hkeep 0 (by decide)).trans h0
      have g1 := (hkeep 1 (by decide)).trans h1
      cases m with
      | succ i =>
        rw [show (((i + 1 : Nat) : Int) - 1) = (i : Int) by omega] at g5
        have hga := fun L => ok_Rget L (hx h [] []) x a (hx1.ext [] []) i
        have hgb := fun L => ok_Rget L (hx h [] []) y b (hy1.ext [] []) i
        have w1 : IntKind.i64.wrap ((i : Int) - 1) = (i : Int) - 1 := wrap_i64 (by omega) (by omega)
        have hnn : ¬ ((i : Int) < 0) := by omega
        have c1 : (gd a 0#64 i).toNat < (gd b 0#64 i).toNat → cmpN (sD (gd a 0#64) n) (sD (gd b 0#64) n) = -1 := fun hl => cmpN_lt (sD_cmp ha n i (by omega) (fun j h1 h2 => he j (by omega) h2) hl)
        have c2 : (gd b 0#64 i).toNat < (gd a 0#64 i).toNat → cmpN (sD (gd a 0#64) n) (sD (gd b 0#64) n) = 1 := fun hl => cmpN_gt (sD_cmp hb n i (by omega) (fun j h1 h2 => (he j (by omega) h2).symm) hl)
        generalize cmpN (sD (gd a 0#64) n) (sD (gd b 0#64) n) = r at *
        by_cases hl : (gd a 0#64 i).toNat < (gd b 0#64 i).toNat
        · simp -implicitDefEqProofs [Ba_avouchref01zCmp, limP, g0, g1, g5, w1, hga, hgb, wd_lt, hl, c1 hl]
        · by_cases hl2 : (gd b 0#64 i).toNat < (gd a 0#64 i).toNat
          · simp -implicitDefEqProofs [Ba_avouchref01zCmp, limP, g0, g1, g5, w1, hga, hgb, wd_lt, wd_gt, hl, hl2, c2 hl2]
          · simp -implicitDefEqProofs [Ba_avouchref01zCmp, limP, g0, g1, g5, w1, hga, hgb, wd_lt, wd_gt, hl, hl2]
            refine ⟨by omega, i, by omega, rfl, fun j h1 h2 => ?_⟩
            by_cases e : j = i
            · subst e; exact BitVec.eq_of_toNat_eq (by omega)
            · exact he j (by omega) h2
      | zero =>
        simp [Ba_avouchref01zCmp, g5]
        exact fun j hj => he j (by omega) hj)
  exact ⟨e, fr', rfl, hor.imp (fun ⟨p, q⟩ => ⟨p, q, hk⟩) id⟩
theorem ok_RCmp (L : Lim) (h : AHeap) (x y : AVal) (a b : List W64) (hx1 : RdW h x a) (hy1 : RdW h y b) (ha : Dg a) (hb : Dg b) (hl : a.length < 100000000 ∧ b.length < 100000000) :
    acall ctx L i_avouchref01zCmp [x, y] h = some (.int .i64 (cmpN (vD a) (vD b)), h) := by
  rw [call_avouchref01zCmp]
  have hlo := fun fr R => loop_RCmp (fr := fr) (h := h) (R := R) x y a b hx1 hy1 ha hb (a.length + b.length + 1) (by omega)
  rw [← vD_sD a _ (by omega), ← vD_sD b _ (by omega)] at hlo
  have hsame : (∀ j, j < a.length + b.length + 1 → gd a 0#64 j = gd b 0#64 j) → cmpN (vD a) (vD b) = 0 := fun hh => by
    rw [vD_sD a (a.length + b.length + 1) (by omega), vD_sD b (a.length + b.length + 1) (by omega), sD_congr hh, cmpN_eq]
  have w1 : IntKind.i64.wrap ((a.length : Int) + b.length) = ((a.length + b.length + 1 : Nat) : Int) - 1 := (wrap_i64 (by omega) (by omega)).trans (by omega)
  generalize cmpN (vD a) (vD b) = r at *
  obtain ⟨q1, _⟩ := hx1
  obtain ⟨q2, _⟩ := hy1
  generalize ((a.length + b.length + 1 : Nat) : Int) - 1 = nn at *
  simp -implicitDefEqProofs [C_avouchref01zCmp, limP, q1, q2, w1]
  generalize hF : run ctx _ (.loop _) _ _ = R
  obtain ⟨e, fr1, rfl, ⟨rfl, hs, hk⟩ | ⟨rfl, h4⟩⟩ := hlo _ _ hF (by simp) (by simp) (by simp)
  · simp -implicitDefEqProofs [hsame hs]
  · simp -implicitDefEqProofs [h4]
end Go.Av

namespace Go.Av
set_option maxHeartbeats 2000000
set_option maxRecDepth 20000
set_option linter.unusedSimpArgs false
set_option linter.unusedVariables false
theorem fill1W (x : W64) : fillA (rep [AVal.int .u64 0] 1) [(0, 1, wd x)] = some [wd x] := rfl
theorem chunk1 (x : AVal) : chunks 1 1 [x] = [[x]] := rfl
theorem putAt1 {α : Type} (l : List α) (i : Nat) (x : α) (h : i < l.length) : putAt l i [x] = l.set i x := by
  unfold putAt
  rw [List.set_eq_take_append_cons_drop, if_pos h]; rfl
theorem roomI {n : Nat} (h : n < 200000000000) : (decide ((0 : Int) ≤ (n : Int)) && decide ((n : Int) < maxRoom)) = true := by
  have : (maxRoom : Int) = 274877906944 := rfl
  rw [Bool.and_eq_true, decide_eq_true_eq, decide_eq_true_eq]
  omega
theorem app1W (L : Lim) (h : AHeap) (bs : List (List AVal)) (ts : List Nat) (i n c : Nat) (l : List W64) (x : W64) (cl : Bool) (hb : bs[i]? = some (cW l)) (hc : n < c) (hl : n < l.length) (hL : L.rob ≤ h.blks.length) :
    appK L (hx h bs ts) 1 false (sA h.blks.length i 0 1 n (some c)) (.vsl cl [[wd x]]) = some (sA h.blks.length i 0 1 (n + 1) (some c), hx h (bs.set i (cW (l.set n x))) ts) := by
  have := appK_roomW L h bs ts i 0 n c l [x] cl hb (by simp) (by simp; omega) (by simp; omega) hL
  rw [Nat.zero_add, putAt1 _ _ _ hl] at this
  exact this
theorem rep_W (n : Nat) : rep [AVal.int .u64 0] n = cW (tab n fun _ => 0#64) := by rw [rep_rep1, rep1_W]
/-! #### sums -/
def dSum (a b : Nat → W64) (k : Nat) (c : W64) : W64 := a k + b k + c
def dCar (a b : Nat → W64) : Nat → W64
  | 0 => 0#64
  | k + 1 => qtW (dSum a b k (dCar a b k)) 4294967296
def dDig (a b : Nat → W64) (k : Nat) : W64 := rmW (dSum a b k (dCar a b k)) 4294967296
theorem dSum_nat {a b : Nat → W64} (ha : ∀ i, (a i).toNat < dB) (hb : ∀ i, (b i).toNat < dB) (k : Nat) (c : W64) (hc : c.toNat ≤ 1) : (dSum a b k c).toNat = (a k).toNat + (b k).toNat + c.toNat := by
  have h1 := ha k
  have h2 := hb k
  rw [show dB = 4294967296 from rfl] at h1 h2
  unfold dSum
  rw [BitVec.toNat_add, BitVec.toNat_add]
  omega
theorem dCar_le {a b : Nat → W64} (ha : ∀ i, (a i).toNat < dB) (hb : ∀ i, (b i).toNat < dB) : ∀ k, (dCar a b k).toNat ≤ 1
  | 0 => by simp [dCar]
  | k + 1 => by
    have h1 := ha k
    have h2 := hb k
    have h3 := dCar_le ha hb k
    rw [show dB = 4294967296 from rfl] at h1 h2
    rw [dCar, qtW_nat, dSum_nat ha hb k _ h3]
    omega
theorem dDig_lt (a b : Nat → W64) (k : Nat) : (dDig a b k).toNat < dB := by
  unfold dDig; rw [rmW_nat]; exact Nat.mod_lt _ (by decide)
theorem dSum_sum {a b : Nat → W64} (ha : ∀ i, (a i).toNat < dB) (hb : ∀ i, (b i).toNat < dB) : ∀ k, sD (dDig a b) k + (dCar a b k).toNat * dB ^ k = sD a k + sD b k
  | 0 => by simp [sD, dCar]
  | k + 1 => by
    have ih := dSum_sum ha hb k
    have e := dSum_nat ha hb k _ (dCar_le ha hb k)
    have hm : (dDig a b k).toNat + dB * (dCar a b (k + 1)).toNat = (a k).toNat + (b k).toNat + (dCar a b k).toNat := by
      rw [← e]; unfold dDig; rw [dCar, rmW_nat, qtW_nat]; exact Nat.mod_add_div _ _
    rw [sD, sD, sD, Nat.pow_succ, ← Nat.mul_assoc, Nat.mul_right_comm]
    have := congrArg (· * dB ^ k) hm
    simp only [Nat.add_mul] at this
    rw [Nat.mul_comm dB] at this
    omega
theorem loop_RAdd {L : Lim} {fr : Fr} {h : AHeap} {R : Option (AEx × Fr × AHeap)} (a b : List W64) (n : Nat) (hn : n < 1000000000) (hL : L.rob ≤ h.blks.length)
    (hF : run ctx L (.loop Ba_avouchref01zAdd) fr (hx h [cW (mixT (n + 1) (dDig (gd a 0#64) (gd b 0#64)) (fun _ => 0#64) 0)] []) = R)
    (h0 : fr 0 = .vsl false (eW a)) (h1 : fr 1 = .vsl false (eW b)) (h5 : fr 5 = .int .i64 (n : Int)) (h6 : fr 6 = sA h.blks.length 0 0 1 0 (some (n + 1))) (h7 : fr 7 = wd 0#64) (h8 : fr 8 = .int .i64 0) :
    ∃ fr', R = some (.exit 0, fr', hx h [cW (tab (n + 1) (dDig (gd a 0#64) (gd b 0#64)))] []) ∧ fr' 6 = sA h.blks.length 0 0 1 (n + 1) (some (n + 1)) ∧ ∀ t, t ∉ wr Ba_avouchref01zAdd → fr' t = fr t := by
  generalize hfd : dDig (gd a 0#64) (gd b 0#64) = f at *
  obtain ⟨e, fr', h', rfl, ⟨rfl, rfl, h6'⟩, hk⟩ := loop_rule hF (n + 1)
    (fun k fr hh => fr 8 = .int .i64 (k : Int) ∧ fr 6 = sA h.blks.length 0 0 1 k (some (n + 1)) ∧ fr 7 = wd (dCar (gd a 0#64) (gd b 0#64) k) ∧ hh = hx h [cW (mixT (n + 1) f (fun _ => 0#64) k)] [])
    (fun e fr hh => e = .exit 0 ∧ hh = hx h [cW (tab (n + 1) f)] [] ∧ fr 6 = sA h.blks.length 0 0 1 (n + 1) (some (n + 1)))
    ⟨h8, h6, h7, rfl⟩ (by
      rintro k fr1 hh hkN hkeep ⟨g8, g6, g7, rfl⟩
      have g0 := (hkeep 0 (by decide)).trans h0
      have g1 := (hkeep 1 (by decide)).trans h1
      have g5 := (hkeep 5 (by decide)).trans h5
      by_cases hlt : k < n + 1
      · have w1 : IntKind.i64.wrap ((k : Int) + 1) = k + 1 := wrap_i64 (by omega) (by omega)
        have hga := fun L h => ok_Rget L h (.vsl false (eW a)) a (RdW.vsl h false a) k
        have hgb := fun L h => ok_Rget L h (.vsl false (eW b)) b (RdW.vsl h false b) k
        have hap := fun cl => app1W L h [cW (mixT (n + 1) f (fun _ => 0#64) k)] [] 0 k (n + 1) (mixT (n + 1) f (fun _ => 0#64) k) (f k) cl rfl hlt (by simpa using hlt) hL
        rw [mixT_set] at hap
        simp only [List.set_cons_zero] at hap
        have hS : wd (gd a 0#64 k + gd b 0#64 k + dCar (gd a 0#64) (gd b 0#64) k) = wd (dSum (gd a 0#64) (gd b 0#64) k (dCar (gd a 0#64) (gd b 0#64) k)) := rfl
        have hD : rmW (dSum (gd a 0#64) (gd b 0#64) k (dCar (gd a 0#64) (gd b 0#64) k)) 4294967296 = f k := by rw [← hfd]; rfl
        have hC : qtW (dSum (gd a 0#64) (gd b 0#64) k (dCar (gd a 0#64) (gd b 0#64) k)) 4294967296 = dCar (gd a 0#64) (gd b 0#64) (k + 1) := rfl
        generalize hc2 : dCar (gd a 0#64) (gd b 0#64) (k + 1) = c2 at *
        generalize dSum (gd a 0#64) (gd b 0#64) k (dCar (gd a 0#64) (gd b 0#64) k) = s at *
        generalize dCar (gd a 0#64) (gd b 0#64) k = c1 at *
        generalize hm2 : mixT (n + 1) f (fun _ => 0#64) (k + 1) = m2 at *
        generalize mixT (n + 1) f (fun _ => 0#64) k = m1 at *
        have hle : (k : Int) ≤ n := by omega
        simp -implicitDefEqProofs [Ba_avouchref01zAdd, g0, g1, g5, g6, g7, g8, hle, w1, hga, hgb, hS, wd_rem32, wd_quo32, hD, hC, fill1W, chunk1, hap]
        exact ⟨hlt, by rw [hc2], by rw [hm2]⟩
      · have : k = n + 1 := by omega
        subst this
        have hgt : ¬ ((n + 1 : Nat) : Int) ≤ n := by omega
        rw [mixT_all]
        generalize tab (n + 1) f = m1 at *
        generalize ((n + 1 : Nat) : Int) = nn at *
        simp [Ba_avouchref01zAdd, g8, g5, g6, hgt])
  exact ⟨fr', rfl, h6', hk⟩
theorem ok_RAdd (L : Lim) (h : AHeap) (x y : AVal) (a b : List W64) (hx1 : LV x a) (hy1 : LV y b) (ha : Dg a) (hb : Dg b) (hl : a.length < 100000000 ∧ b.length < 100000000) :
    acall ctx L i_avouchref01zAdd [x, y] h = some (.vsl false (eW (dg (vD a + vD b))), h) := by
  rw [call_avouchref01zAdd]
  obtain ⟨n, hn, hna, hnb⟩ : ∃ n, (n = a.length ∨ n = b.length) ∧ a.length ≤ n ∧ b.length ≤ n := ⟨max a.length b.length, by omega, Nat.le_max_left _ _, Nat.le_max_right _ _⟩
  have hlo := fun fr R => loop_RAdd (L := limP h) (fr := fr) (h := h) (R := R) a b n (by omega) (Nat.le_refl _)
  have hv : vD (tab (n + 1) (dDig (gd a 0#64) (gd b 0#64))) = vD a + vD b := by
    have e := dSum_sum ha hb (n + 1)
    have ec := dCar_le ha hb n
    have e0 : (dCar (gd a 0#64) (gd b 0#64) (n + 1)).toNat = 0 := by
      rw [dCar, qtW_nat, dSum_nat ha hb n _ ec, gd_out (l := a) (i := n) hna, gd_out (l := b) (i := n) hnb]
      simp; omega
    rw [e0, Nat.zero_mul, Nat.add_zero] at e
    rw [vD_tab, e, vD_sD a (n + 1) (by omega), vD_sD b (n + 1) (by omega)]
  obtain ⟨r, hT, hfz⟩ := ok_RTrimS (limP h) h [cW (tab (n + 1) (dDig (gd a 0#64) (gd b 0#64)))] [] 0 (n + 1) (n + 1) _ _ rfl (by rw [List.take_of_length_le (by simp)]) (by simp) (Dg.tab fun i _ => dDig_lt _ _ i) (by omega) (Nat.le_refl _)
  rw [hv] at hfz
  have hfz0 := hfz []
  rw [List.append_nil] at hfz0
  rw [mixT_zero] at hlo
  have hmk := mkcK_zero h [] [] 1 [AVal.int .u64 0] .i64 .i64 ((n + 1 : Nat) : Int) (roomI (by omega))
  rw [Int.toNat_natCast, rep_W] at hmk
  have w1 : IntKind.i64.wrap ((n : Int) + 1) = ((n + 1 : Nat) : Int) := wrap_i64 (by omega) (by omega)
  have hz : (AVal.int .u64 0) = wd 0#64 := rfl
  have hf1 := hx1.fz
  have hf2 := hy1.fz
  generalize ((n + 1 : Nat) : Int) = nn at *
  generalize hm0 : tab (n + 1) (fun _ => 0#64) = m0 at *
  generalize tab (n + 1) (dDig (gd a 0#64) (gd b 0#64)) = m1 at *
  generalize hr : eW (dg (vD a + vD b)) = rr at *
  by_cases hc : a.length < b.length
  · have hi : (a.length : Int) < b.length := by omega
    have hbn : b.length = n := by omega
    simp -implicitDefEqProofs [C_avouchref01zAdd, hf1, hf2, hi]
    rw [hbn]
    simp -implicitDefEqProofs [w1, hmk]
    generalize hF : run ctx _ (.loop _) _ _ = R
    obtain ⟨fr1, rfl, h6, hk1⟩ := hlo _ _ hF (by simp) (by simp) (by simp) (by simp) (by simp [hz]) (by simp)
    simp -implicitDefEqProofs [hk1, wr, Ba_avouchref01zAdd, dsts, h6, hT, hfz0]
  · have hi : ¬ (a.length : Int) < b.length := by omega
    have han : a.length = n := by omega
    simp -implicitDefEqProofs [C_avouchref01zAdd, hf1, hf2, hi]
    rw [han]
    simp -implicitDefEqProofs [w1, hmk]
    generalize hF : run ctx _ (.loop _) _ _ = R
    obtain ⟨fr1, rfl, h6, hk1⟩ := hlo _ _ hF (by simp) (by simp) (by simp) (by simp) (by simp [hz]) (by simp)
    simp -implicitDefEqProofs [hk1, wr, Ba_avouchref01zAdd, dsts, h6, hT, hfz0]
end Go.Av

namespace Go.Av
set_option maxHeartbeats 2000000
set_option maxRecDepth 20000
set_option linter.unusedSimpArgs false
set_option linter.unusedVariables false
theorem add32 (x : W64) : binA .add (.int .u64 4294967296) (wd x) = some (wd (4294967296#64 + x)) := wd_add 4294967296#64 x
theorem one_sub (x : W64) : binA .sub (.int .u64 1) (wd x) = some (wd (1#64 - x)) := wd_sub 1#64 x
def sSum (a b : Nat → W64) (k : Nat) (c : W64) : W64 := 4294967296#64 + a k - b k - c
def sBor (a b : Nat → W64) : Nat → W64
  | 0 => 0#64
  | k + 1 => 1#64 - qtW (sSum a b k (sBor a b k)) 4294967296
def sDig (a b : Nat → W64) (k : Nat) : W64 := rmW (sSum a b k (sBor a b k)) 4294967296
theorem sSum_nat {a b : Nat → W64} (ha : ∀ i, (a i).toNat < dB) (hb : ∀ i, (b i).toNat < dB) (k : Nat) (c : W64) (hc : c.toNat ≤ 1) : (sSum a b k c).toNat = 4294967296 + (a k).toNat - (b k).toNat - c.toNat := by
  have h1 := ha k
  have h2 := hb k
  rw [show dB = 4294967296 from rfl] at h1 h2
  unfold sSum
  rw [BitVec.toNat_sub, BitVec.toNat_sub, BitVec.toNat_add]
  simp only [BitVec.toNat_ofNat]
  omega
theorem sBor_step {a b : Nat → W64} (ha : ∀ i, (a i).toNat < dB) (hb : ∀ i, (b i).toNat < dB) (k : Nat) (h0 : (sBor a b k).toNat ≤ 1) : (sDig a b k).toNat + (b k).toNat + (sBor a b k).toNat = (a k).toNat + dB * (sBor a b (k + 1)).toNat ∧ (sBor a b (k + 1)).toNat ≤ 1 := by
  have h1 := ha k
  have h2 := hb k
  have e := sSum_nat ha hb k _ h0
  rw [show dB = 4294967296 from rfl] at *
  have h3 : (sBor a b (k + 1)).toNat = 1 - (sSum a b k (sBor a b k)).toNat / 4294967296 := by
    rw [sBor, BitVec.toNat_sub, qtW_nat, e]
    simp only [BitVec.toNat_ofNat]
    omega
  have h4 : (sDig a b k).toNat = (sSum a b k (sBor a b k)).toNat % 4294967296 := by unfold sDig; rw [rmW_nat]
  rw [h3, h4, e]
  omega
theorem sBor_le {a b : Nat → W64} (ha : ∀ i, (a i).toNat < dB) (hb : ∀ i, (b i).toNat < dB) : ∀ k, (sBor a b k).toNat ≤ 1
  | 0 => by simp [sBor]
  | k + 1 => (sBor_step ha hb k (sBor_le ha hb k)).2
theorem sDig_lt (a b : Nat → W64) (k : Nat) : (sDig a b k).toNat < dB := by
  unfold sDig; rw [rmW_nat]; exact Nat.mod_lt _ (by decide)
theorem sDig_sum {a b : Nat → W64} (ha : ∀ i, (a i).toNat < dB) (hb : ∀ i, (b i).toNat < dB) : ∀ k, sD (sDig a b) k + sD b k = sD a k + (sBor a b k).toNat * dB ^ k
  | 0 => by simp [sD, sBor]
  | k + 1 => by
    have ih := sDig_sum ha hb k
    have hm := (sBor_step ha hb k (sBor_le ha hb k)).1
    rw [sD, sD, sD, Nat.pow_succ, ← Nat.mul_assoc, Nat.mul_right_comm]
    have := congrArg (· * dB ^ k) hm
    simp only [Nat.add_mul] at this
    rw [Nat.mul_comm dB] at this
    omega
theorem loop_RSub {L : Lim} {fr : Fr} {h : AHeap} {R : Option (AEx × Fr × AHeap)} (a b : List W64) (n : Nat) (han : a.length = n) (hn : n < 1000000000) (hL : L.rob ≤ h.blks.length)
    (hF : run ctx L (.loop Ba_avouchref01zSub) fr (hx h [cW (mixT n (sDig (gd a 0#64) (gd b 0#64)) (fun _ => 0#64) 0)] []) = R)
    (h0 : fr 0 = .vsl false (eW a)) (h1 : fr 1 = .vsl false (eW b)) (h5 : fr 5 = sA h.blks.length 0 0 1 0 (some n)) (h6 : fr 6 = wd 0#64) (h7 : fr 7 = .int .i64 0) :
    ∃ fr', R = some (.exit 0, fr', hx h [cW (tab n (sDig (gd a 0#64) (gd b 0#64)))] []) ∧ fr' 5 = sA h.blks.length 0 0 1 n (some n) ∧ ∀ t, t ∉ wr Ba_avouchref01zSub → fr' t = fr t := by
  generalize hfd : sDig (gd a 0#64) (gd b 0#64) = f at *
  obtain ⟨e, fr', h', rfl, ⟨rfl, rfl, h5'⟩, hk⟩ := loop_rule hF n
    (fun k fr hh => fr 7 = .int .i64 (k : Int) ∧ fr 5 = sA h.blks.length 0 0 1 k (some n) ∧ fr 6 = wd (sBor (gd a 0#64) (gd b 0#64) k) ∧ hh = hx h [cW (mixT n f (fun _ => 0#64) k)] [])
    (fun e fr hh => e = .exit 0 ∧ hh = hx h [cW (tab n f)] [] ∧ fr 5 = sA h.blks.length 0 0 1 n (some n))
    ⟨h7, h5, h6, rfl⟩ (by
      rintro k fr1 hh hkN hkeep ⟨g7, g5, g6, rfl⟩
      have g0 := (hkeep 0 (by decide)).trans h0
      have g1 := (hkeep 1 (by decide)).trans h1
      by_cases hlt : k < n
      · have w1 : IntKind.i64.wrap ((k : Int) + 1) = k + 1 := wrap_i64 (by omega) (by omega)
        obtain ⟨r1, p, r2, r3⟩ := RdW.vsl h false a
        have hro := r2 k (by omega)
        have hrd := fun bs ts => r3 k bs ts (by omega)
        have hgb := fun L h => ok_Rget L h (.vsl false (eW b)) b (RdW.vsl h false b) k
        have hap := fun cl => app1W L h [cW (mixT n f (fun _ => 0#64) k)] [] 0 k n (mixT n f (fun _ => 0#64) k) (f k) cl rfl hlt (by simpa using hlt) hL
        rw [mixT_set] at hap
        simp only [List.set_cons_zero] at hap
        have hS : wd (4294967296#64 + gd a 0#64 k - gd b 0#64 k - sBor (gd a 0#64) (gd b 0#64) k) = wd (sSum (gd a 0#64) (gd b 0#64) k (sBor (gd a 0#64) (gd b 0#64) k)) := rfl
        have hD : rmW (sSum (gd a 0#64) (gd b 0#64) k (sBor (gd a 0#64) (gd b 0#64) k)) 4294967296 = f k := by rw [← hfd]; rfl
        have hC : 1#64 - qtW (sSum (gd a 0#64) (gd b 0#64) k (sBor (gd a 0#64) (gd b 0#64) k)) 4294967296 = sBor (gd a 0#64) (gd b 0#64) (k + 1) := rfl
        generalize hc2 : sBor (gd a 0#64) (gd b 0#64) (k + 1) = c2 at *
        generalize sSum (gd a 0#64) (gd b 0#64) k (sBor (gd a 0#64) (gd b 0#64) k) = s at *
        generalize sBor (gd a 0#64) (gd b 0#64) k = c1 at *
        generalize hm2 : mixT n f (fun _ => 0#64) (k + 1) = m2 at *
        generalize mixT n f (fun _ => 0#64) k = m1 at *
        have hle : (k : Int) < a.length := by omega
        simp -implicitDefEqProofs [Ba_avouchref01zSub, g0, g1, g5, g6, g7, hle, w1, hro, hrd, hgb, add32, one_sub, hS, wd_rem32, wd_quo32, hD, hC, fill1W, chunk1, hap]
        exact ⟨hlt, by rw [hc2], by rw [hm2]⟩
      · have : k = n := by omega
        subst this
        have hgt : ¬ (k : Int) < a.length := by omega
        rw [mixT_all]
        generalize tab k f = m1 at *
        simp [Ba_avouchref01zSub, g7, g5, g0, hgt])
  exact ⟨fr', rfl, h5', hk⟩
theorem ok_RSub (L : Lim) (h : AHeap) (x y : AVal) (a b : List W64) (hx1 : LV x a) (hy1 : LV y b) (ha : Dg a) (hb : Dg b) (hl : a.length < 100000000) (hba : b.length ≤ a.length) (hv : vD b ≤ vD a) :
    acall ctx L i_avouchref01zSub [x, y] h = some (.vsl false (eW (dg (vD a - vD b))), h) := by
  rw [call_avouchref01zSub]
  obtain ⟨n, hn⟩ : ∃ n, a.length = n := ⟨_, rfl⟩
  have hlo := fun fr R => loop_RSub (L := limP h) (fr := fr) (h := h) (R := R) a b n hn (by omega) (Nat.le_refl _)
  have hvd : vD (tab n (sDig (gd a 0#64) (gd b 0#64))) = vD a - vD b := by
    have e := sDig_sum ha hb n
    have e1 := sD_lt (f := sDig (gd a 0#64) (gd b 0#64)) (n := n) fun i _ => sDig_lt _ _ i
    have e0 := sBor_le ha hb n
    rw [← vD_sD a n (by omega), ← vD_sD b n (by omega)] at e
    rw [vD_tab]
    rcases Nat.le_one_iff_eq_zero_or_eq_one.1 e0 with e2 | e2
    · rw [e2] at e; omega
    · rw [e2] at e; omega
  obtain ⟨r, hT, hfz⟩ := ok_RTrimS (limP h) h [cW (tab n (sDig (gd a 0#64) (gd b 0#64)))] [] 0 n n _ _ rfl (by rw [List.take_of_length_le (by simp)]) (by simp) (Dg.tab fun i _ => sDig_lt _ _ i) (by omega) (Nat.le_refl _)
  rw [hvd] at hfz
  have hfz0 := hfz []
  rw [List.append_nil] at hfz0
  rw [mixT_zero] at hlo
  have hmk := mkcK_zero h [] [] 1 [AVal.int .u64 0] .i64 .i64 (n : Int) (roomI (by omega))
  rw [Int.toNat_natCast, rep_W] at hmk
  have hz : (AVal.int .u64 0) = wd 0#64 := rfl
  have hf1 := hx1.fz
  have hf2 := hy1.fz
  generalize hm0 : tab n (fun _ => 0#64) = m0 at *
  generalize tab n (sDig (gd a 0#64) (gd b 0#64)) = m1 at *
  generalize hr : eW (dg (vD a - vD b)) = rr at *
  simp -implicitDefEqProofs [C_avouchref01zSub, hf1, hf2, hn, hmk]
  generalize hF : run ctx _ (.loop _) _ _ = R
  obtain ⟨fr1, rfl, h5, hk1⟩ := hlo _ _ hF (by simp) (by simp) (by simp) (by simp [hz]) (by simp)
  simp -implicitDefEqProofs [hk1, wr, Ba_avouchref01zSub, dsts, h5, hT, hfz0]
/-! #### products -/
theorem vD_set (x : W64) : ∀ (l : List W64) (k : Nat), k < l.length → vD (l.set k x) + (gd l 0#64 k).toNat * dB ^ k = vD l + x.toNat * dB ^ k
  | [], k, h => by simp at h
  | y :: l, 0, _ => by rw [List.set_cons_zero, vD, vD, gd_cons0]; simp; omega
  | y :: l, k + 1, h => by
    have ih := vD_set x l k (by simpa using h)
    rw [List.set_cons_succ, vD, vD, gd_consS, Nat.pow_succ]
    have := congrArg (dB * ·) ih
    simp only [Nat.mul_add] at this
    have e1 : ∀ z : Nat, z * (dB ^ k * dB) = dB * (z * dB ^ k) := fun z => by rw [← Nat.mul_assoc, Nat.mul_comm]
    rw [e1, e1]
    omega
theorem Dg.set {l : List W64} (h : Dg l) {k : Nat} {x : W64} (hk : k < l.length) (hx : x.toNat < dB) : Dg (l.set k x) := fun i => by
  rw [gd_set _ _ _ _ _ hk]
  split
  · exact hx
  · exact h i
def mlS (o x y c : W64) : W64 := o + x * y + c
theorem mlS_nat {o x y c : W64} (ho : o.toNat < dB) (hx : x.toNat < dB) (hy : y.toNat < dB) (hc : c.toNat < dB) : (mlS o x y c).toNat = o.toNat + x.toNat * y.toNat + c.toNat ∧ (mlS o x y c).toNat < dB * dB := by
  have h1 : x.toNat * y.toNat ≤ 4294967295 * 4294967295 := Nat.mul_le_mul (by rw [show dB = 4294967296 from rfl] at hx; omega) (by rw [show dB = 4294967296 from rfl] at hy; omega)
  rw [show dB = 4294967296 from rfl] at *
  unfold mlS
  rw [BitVec.toNat_add, BitVec.toNat_add, BitVec.toNat_mul]
  generalize x.toNat * y.toNat = z at *
  omega
theorem loop_RMul1 {L : Lim} {fr : Fr} {h : AHeap} {R : Option (AEx × Fr × AHeap)} (a b : List W64) (ha : Dg a) (hb : Dg b) (i N : Nat) (hi : i < a.length) (hN : N = a.length + b.length + 1) (hn : N < 1000000000) (o0 : List W64) (ho0 : o0.length = N) (hd0 : Dg o0) (hL : L.rob ≤ h.blks.length)
    (hF : run ctx L (.loop Ba_avouchref01zMul) fr (hx h [cW o0] []) = R)
    (h0 : fr 0 = .vsl false (eW a)) (h1 : fr 1 = .vsl false (eW b)) (h5 : fr 5 = sA h.blks.length 0 0 1 N (some N)) (h6 : fr 6 = .int .i64 (i : Int)) (h7 : fr 7 = wd 0#64) (h8 : fr 8 = .int .i64 0) :
    ∃ fr' o c, R = some (.exit 2, fr', hx h [cW o] []) ∧ fr' 7 = wd c ∧ o.length = N ∧ Dg o ∧ c.toNat < dB ∧ vD o + c.toNat * dB ^ (i + b.length) = vD o0 + (gd a 0#64 i).toNat * dB ^ i * vD b ∧ (∀ t, i + b.length ≤ t → gd o 0#64 t = gd o0 0#64 t) ∧ ∀ t, t ∉ wr Ba_avouchref01zMul → fr' t = fr t := by
  rw [vD_sD b _ (Nat.le_refl _)]
  obtain ⟨e, fr', h', rfl, ⟨rfl, o, c, rfl, p1, p2, p3, p4, p5, p6⟩, hk⟩ := loop_rule hF b.length
    (fun k fr hh => fr 8 = .int .i64 (k : Int) ∧ ∃ o c, hh = hx h [cW o] [] ∧ fr 7 = wd c ∧ o.length = N ∧ Dg o ∧ c.toNat < dB ∧ vD o + c.toNat * dB ^ (i + k) = vD o0 + (gd a 0#64 i).toNat * dB ^ i * sD (gd b 0#64) k ∧ (∀ t, i + k ≤ t → gd o 0#64 t = gd o0 0#64 t))
    (fun e fr hh => e = .exit 2 ∧ ∃ o c, hh = hx h [cW o] [] ∧ fr 7 = wd c ∧ o.length = N ∧ Dg o ∧ c.toNat < dB ∧ vD o + c.toNat * dB ^ (i + b.length) = vD o0 + (gd a 0#64 i).toNat * dB ^ i * sD (gd b 0#64) b.length ∧ (∀ t, i + b.length ≤ t → gd o 0#64 t = gd o0 0#64 t))
    ⟨h8, o0, 0#64, rfl, h7, ho0, hd0, by decide, by simp [sD], fun t _ => rfl⟩ (by
      rintro k fr1 hh hkN hkeep ⟨g8, o, c, rfl, g7, q1, q2, q3, q4, q5⟩
      have g0 := (hkeep 0 (by decide)).trans h0
      have g1 := (hkeep 1 (by decide)).trans h1
      have g5 := (hkeep 5 (by decide)).trans h5
      have g6 := (hkeep 6 (by decide)).trans h6
      by_cases hlt : k < b.length
      · have w1 : IntKind.i64.wrap ((k : Int) + 1) = k + 1 := wrap_i64 (by omega) (by omega)
        have w2 : IntKind.i64.wrap ((i : Int) + k) = ((i + k : Nat) : Int) := wrap_i64 (by omega) (by omega)
        obtain ⟨r1, p, r2, r3⟩ := RdW.vsl h false a
        have hro := r2 i (by omega)
        have hrd := fun bs ts => r3 i bs ts (by omega)
        obtain ⟨r1', p', r2', r3'⟩ := RdW.vsl h false b
        have hro' := r2' k (by omega)
        have hrd' := fun bs ts => r3' k bs ts (by omega)
        have hio := iadr_wr h.blks.length 0 0 N (i + k) (some N) (by simp; omega)
        rw [Nat.zero_add] at hio
        have hat := cW_at (l := o) (i := i + k) (by omega)
        have hss := cW_set o (i + k) (rmW (mlS (gd o 0#64 (i + k)) (gd a 0#64 i) (gd b 0#64 k) c) 4294967296)
        have hlen : (cW o).length = N := by simp [q1]
        have hikN : i + k + 1 ≤ N := by omega
        have hmn := mlS_nat (q2 (i + k)) (ha i) (hb k) q3
        have hS : wd (gd o 0#64 (i + k) + gd a 0#64 i * gd b 0#64 k + c) = wd (mlS (gd o 0#64 (i + k)) (gd a 0#64 i) (gd b 0#64 k) c) := rfl
        have hfin : ∃ o' c', (hx h [cW (o.set (i + k) (rmW (mlS (gd o 0#64 (i + k)) (gd a 0#64 i) (gd b 0#64 k) c) 4294967296))] [] = hx h [cW o'] [] ∧ wd (qtW (mlS (gd o 0#64 (i + k)) (gd a 0#64 i) (gd b 0#64 k) c) 4294967296) = wd c' ∧ o'.length = N ∧ Dg o' ∧ c'.toNat < dB ∧ vD o' + c'.toNat * dB ^ (i + (k + 1)) = vD o0 + (gd a 0#64 i).toNat * dB ^ i * sD (gd b 0#64) (k + 1) ∧ (∀ t, i + (k + 1) ≤ t → gd o' 0#64 t = gd o0 0#64 t)) := by
          refine ⟨_, _, rfl, rfl, by simp [q1], q2.set (by omega) ?_, ?_, ?_, fun t ht => ?_⟩
          · rw [rmW_nat]; exact Nat.mod_lt _ (by decide)
          · rw [qtW_nat]; exact Nat.div_lt_of_lt_mul hmn.2
          · have e1 := vD_set (rmW (mlS (gd o 0#64 (i + k)) (gd a 0#64 i) (gd b 0#64 k) c) 4294967296) o (i + k) (by omega)
            have e2 := Nat.mod_add_div (mlS (gd o 0#64 (i + k)) (gd a 0#64 i) (gd b 0#64 k) c).toNat 4294967296
            rw [rmW_nat] at e1
            rw [qtW_nat]
            rw [hmn.1] at *
            have e3 := congrArg (· * dB ^ (i + k)) e2
            simp only [Nat.add_mul] at e3
            have e4 : dB ^ (i + (k + 1)) = 4294967296 * dB ^ (i + k) := by rw [← Nat.add_assoc, Nat.pow_succ, Nat.mul_comm]; rfl
            have e5 : (gd a 0#64 i).toNat * dB ^ i * ((gd b 0#64 k).toNat * dB ^ k) = (gd a 0#64 i).toNat * (gd b 0#64 k).toNat * dB ^ (i + k) := by
              rw [Nat.pow_add]; ac_rfl
            have e6 : ∀ z : Nat, z * (4294967296 * dB ^ (i + k)) = 4294967296 * z * dB ^ (i + k) := fun z => by rw [← Nat.mul_assoc, Nat.mul_comm z]
            rw [sD, Nat.mul_add, e5, e4, e6]
            omega
          · rw [gd_set _ _ _ _ _ (by omega), if_neg (by omega)]; exact q5 t (by omega)
        generalize mlS (gd o 0#64 (i + k)) (gd a 0#64 i) (gd b 0#64 k) c = s at *
        generalize cW (o.set (i + k) (rmW s 4294967296)) = cs2 at *
        generalize cW o = cs1 at *
        generalize ((i + k : Nat) : Int) = ik at *
        have hle : (k : Int) < b.length := by omega
        simp -implicitDefEqProofs [Ba_avouchref01zMul, g0, g1, g5, g6, g7, g8, hle, w1, w2, hro, hrd, hro', hrd', hio, hat, hS, wd_rem32, wd_quo32, partA_one, storeA_fl, hL, hikN, hlen, hss]
        obtain ⟨o', c', f1, f2, f3⟩ := hfin
        exact ⟨hlt, o', f1, c', f2, f3⟩
      · have : k = b.length := by omega
        subst this
        have hgt : ¬ (b.length : Int) < b.length := by omega
        simp [Ba_avouchref01zMul, g8, g1, g7]
        exact ⟨o, rfl, c, rfl, q1, q2, q3, q4, q5⟩)
  exact ⟨fr', o, c, rfl, p1, p2, p3, p4, p5, p6, hk⟩
theorem loop_RMul {L : Lim} {fr : Fr} {h : AHeap} {R : Option (AEx × Fr × AHeap)} (a b : List W64) (ha : Dg a) (hb : Dg b) (N : Nat) (hN : N = a.length + b.length + 1) (hn : N < 1000000000) (hL : L.rob ≤ h.blks.length)
    (hF : run ctx L (.loop Bb_avouchref01zMul) fr (hx h [cW (tab N fun _ => 0#64)] []) = R)
    (h0 : fr 0 = .vsl false (eW a)) (h1 : fr 1 = .vsl false (eW b)) (h5 : fr 5 = sA h.blks.length 0 0 1 N (some N)) (h6 : fr 6 = .int .i64 0) :
    ∃ fr' o, R = some (.exit 0, fr', hx h [cW o] []) ∧ o.length = N ∧ Dg o ∧ vD o = vD a * vD b ∧ ∀ t, t ∉ wr Bb_avouchref01zMul → fr' t = fr t := by
  obtain ⟨e, fr', h', rfl, ⟨rfl, o, rfl, p1, p2, p3⟩, hk⟩ := loop_rule hF a.length
    (fun k fr hh => fr 6 = .int .i64 (k : Int) ∧ ∃ o, hh = hx h [cW o] [] ∧ o.length = N ∧ Dg o ∧ vD o = sD (gd a 0#64) k * vD b ∧ (∀ t, k + b.length ≤ t → gd o 0#64 t = 0#64))
    (fun e fr hh => e = .exit 0 ∧ ∃ o, hh = hx h [cW o] [] ∧ o.length = N ∧ Dg o ∧ vD o = vD a * vD b)
    ⟨h6, _, rfl, by simp, Dg.tab (fun _ _ => by decide), by
      rw [vD_tab, sD, Nat.zero_mul]
      have : ∀ n, sD (fun _ => 0#64) n = 0 := fun n => by induction n with
        | zero => rfl
        | succ n ih => rw [sD, ih]; simp
      exact this N, fun t _ => by
      by_cases ht : t < N
      · rw [gd_tab ht]
      · rw [gd_out (by simp; omega)]⟩ (by
      rintro k fr1 hh hkN hkeep ⟨g6, o, rfl, q1, q2, q3, q4⟩
      have g0 := (hkeep 0 (by decide)).trans h0
      have g1 := (hkeep 1 (by decide)).trans h1
      have g5 := (hkeep 5 (by decide)).trans h5
      by_cases hlt : k < a.length
      · have w1 : IntKind.i64.wrap ((k : Int) + 1) = k + 1 := wrap_i64 (by omega) (by omega)
        have w2 : IntKind.i64.wrap ((k : Int) + b.length) = ((k + b.length : Nat) : Int) := wrap_i64 (by omega) (by omega)
        have hlo := fun fr R => loop_RMul1 (L := L) (fr := fr) (h := h) (R := R) a b ha hb k N hlt hN hn o q1 q2 hL
        have hle : (k : Int) < a.length := by omega
        have hz : AVal.int .u64 0 = wd 0#64 := rfl
        simp -implicitDefEqProofs [Bb_avouchref01zMul, g0, g1, g5, g6, hle]
        generalize hF : run ctx _ (.loop _) _ _ = R
        obtain ⟨fr2, o2, c, rfl, f7, f1, f2, f3, f4, f5, hk2⟩ := hlo _ _ hF (by simp [g0]) (by simp [g1]) (by simp [g5]) (by simp [g6]) (by simp [hz]) (by simp)
        have hio := iadr_wr h.blks.length 0 0 N (k + b.length) (some N) (by simp; omega)
        rw [Nat.zero_add] at hio
        have hss := cW_set o2 (k + b.length) c
        have hlen : (cW o2).length = N := by simp [f1]
        have hikN : k + b.length + 1 ≤ N := by omega
        have hfin : ∃ o', (hx h [cW (o2.set (k + b.length) c)] [] = hx h [cW o'] [] ∧ o'.length = N ∧ Dg o' ∧ vD o' = sD (gd a 0#64) (k + 1) * vD b ∧ (∀ t, k + 1 + b.length ≤ t → gd o' 0#64 t = 0#64)) := by
          refine ⟨_, rfl, by simp [f1], f2.set (by omega) f3, ?_, fun t ht => ?_⟩
          · have e1 := vD_set c o2 (k + b.length) (by omega)
            rw [f5 _ (Nat.le_refl _), q4 _ (Nat.le_refl _), f4, q3] at e1
            rw [sD, Nat.add_mul]
            simpa using e1
          · rw [gd_set _ _ _ _ _ (by omega), if_neg (by omega), f5 t (by omega)]; exact q4 t (by omega)
        generalize cW (o2.set (k + b.length) c) = cs2 at *
        generalize cW o2 = cs1 at *
        generalize ((k + b.length : Nat) : Int) = ik at *
        simp -implicitDefEqProofs [hk2, wr, Ba_avouchref01zMul, dsts, g0, g1, g5, g6, f7, w1, w2, hio, partA_one, storeA_fl, hL, hikN, hlen, hss]
        exact ⟨hlt, hfin⟩
      · have : k = a.length := by omega
        subst this
        have hgt : ¬ (a.length : Int) < a.length := by omega
        simp [Bb_avouchref01zMul, g6, g0]
        exact ⟨o, rfl, q1, q2, by rw [q3, ← vD_sD a _ (Nat.le_refl _)]⟩)
  exact ⟨fr', o, rfl, p1, p2, p3, hk⟩
theorem ok_RMul (L : Lim) (h : AHeap) (x y : AVal) (a b : List W64) (hx1 : LV x a) (hy1 : LV y b) (ha : Dg a) (hb : Dg b) (hl : a.length < 100000000 ∧ b.length < 100000000) :
    acall ctx L i_avouchref01zMul [x, y] h = some (.vsl false (eW (dg (vD a * vD b))), h) := by
  rw [call_avouchref01zMul]
  obtain ⟨N, hN⟩ : ∃ N, N = a.length + b.length + 1 := ⟨_, rfl⟩
  have hlo := fun fr R => loop_RMul (L := limP h) (fr := fr) (h := h) (R := R) a b ha hb N hN (by omega) (Nat.le_refl _)
  have hT := fun (o : List W64) (h1 : o.length = N) (h2 : Dg o) => ok_RTrimS (limP h) h [cW o] [] 0 N N o o rfl (by rw [List.take_of_length_le (by omega)]) h1 h2 (by omega) (Nat.le_refl _)
  have hmk := mkK_int h [] [] 1 [AVal.int .u64 0] .i64 (N : Int) (roomI (by omega))
  rw [Int.toNat_natCast, rep_W] at hmk
  have w1 : IntKind.i64.wrap ((a.length : Int) + b.length) = ((a.length + b.length : Nat) : Int) := wrap_i64 (by omega) (by omega)
  have w2 : IntKind.i64.wrap (((a.length + b.length : Nat) : Int) + 1) = (N : Int) := (wrap_i64 (by omega) (by omega)).trans (by omega)
  have hf1 := hx1.fz
  have hf2 := hy1.fz
  generalize hm0 : tab N (fun _ => 0#64) = m0 at *
  generalize hr : eW (dg (vD a * vD b)) = rr at *
  generalize ((a.length + b.length : Nat) : Int) = ab at *
  simp -implicitDefEqProofs [C_avouchref01zMul, hf1, hf2, w1, w2, hmk]
  generalize hF : run ctx _ (.loop _) _ _ = R
  obtain ⟨fr1, o, rfl, p1, p2, p3, hk1⟩ := hlo _ _ hF (by simp) (by simp) (by simp) (by simp)
  obtain ⟨r, hT1, hfz⟩ := hT o p1 p2
  have hfz0 := hfz []
  rw [List.append_nil, p3, hr] at hfz0
  simp -implicitDefEqProofs [hk1, wr, Bb_avouchref01zMul, Ba_avouchref01zMul, dsts, hT1, hfz0]
end Go.Av

namespace Go.Av
set_option maxHeartbeats 2000000
set_option maxRecDepth 20000
set_option linter.unusedSimpArgs false
set_option linter.unusedVariables false
theorem mulC2 (x : W64) : binA .mul (wd x) (.int .u64 2) = some (wd (x * 2#64)) := wd_mul x 2#64
def pw2 (k : Nat) : W64 := BitVec.ofNat 64 (2 ^ k)
theorem pw2_succ (k : Nat) : pw2 k * 2#64 = pw2 (k + 1) := by
  unfold pw2
  rw [Nat.pow_succ]
  refine BitVec.eq_of_toNat_eq ?_
  rw [BitVec.toNat_mul, BitVec.toNat_ofNat, BitVec.toNat_ofNat, BitVec.toNat_ofNat, ← Nat.mul_mod]
theorem pw2_nat {k : Nat} (h : k < 32) : (pw2 k).toNat = 2 ^ k := by
  unfold pw2
  rw [BitVec.toNat_ofNat, Nat.mod_eq_of_lt (Nat.pow_lt_pow_right (by decide) (by omega))]
theorem loop_Shift {L : Lim} {fr : Fr} {h : AHeap} {R : Option (AEx × Fr × AHeap)} (n : Nat) (hn : n < 32)
    (hF : run ctx L (.loop Ba_avouchref01zShift) fr h = R) (h1 : fr 1 = .int .i64 (n : Int)) (h5 : fr 5 = wd (pw2 0)) (h6 : fr 6 = .int .i64 0) :
    ∃ fr', R = some (.exit 0, fr', h) ∧ fr' 5 = wd (pw2 n) ∧ ∀ t, t ∉ wr Ba_avouchref01zShift → fr' t = fr t := by
  obtain ⟨e, fr', h', rfl, ⟨rfl, rfl, h5'⟩, hk⟩ := loop_rule hF n
    (fun k fr hh => fr 6 = .int .i64 (k : Int) ∧ fr 5 = wd (pw2 k) ∧ hh = h)
    (fun e fr hh => e = .exit 0 ∧ hh = h ∧ fr 5 = wd (pw2 n))
    ⟨h6, h5, rfl⟩ (by
      rintro k fr1 hh hkN hkeep ⟨g6, g5, rfl⟩
      have g1 := (hkeep 1 (by decide)).trans h1
      by_cases hlt : k < n
      · have w1 : IntKind.i64.wrap ((k : Int) + 1) = k + 1 := wrap_i64 (by omega) (by omega)
        have hle : (k : Int) < n := by omega
        have hp := pw2_succ k
        generalize pw2 k = pk at *
        generalize hp2 : pw2 (k + 1) = pk2 at *
        simp -implicitDefEqProofs [Ba_avouchref01zShift, g1, g5, g6, hle, w1, mulC2, hp]
        exact ⟨hlt, by rw [hp2]⟩
      · have : k = n := by omega
        subst this
        simp [Ba_avouchref01zShift, g6, g1, g5])
  exact ⟨fr', rfl, h5', hk⟩
theorem ok_RShift (L : Lim) (h : AHeap) (x : AVal) (a : List W64) (hx1 : LV x a) (ha : Dg a) (n : Nat) (hn : n < 32) (hl : a.length < 10000000) :
    acall ctx L i_avouchref01zShift [x, .int .i64 (n : Int)] h = some (.vsl false (eW (dg (vD a * 2 ^ n))), h) := by
  rw [call_avouchref01zShift]
  have hlo := fun L fr R => loop_Shift (L := L) (fr := fr) (h := hx h [] []) (R := R) n hn
  have hpn := pw2_nat hn
  have hd : Dg [pw2 n] := Dg.cons (by rw [hpn]; exact Nat.pow_lt_pow_right (by decide) hn) Dg.nil
  have hm := fun L h => ok_RMul L h (.vsl false (eW a)) (.vsl true (eW [pw2 n])) a [pw2 n] (LV.vsl _ _) (LV.vsl _ _) ha hd ⟨by omega, by simp⟩
  rw [show vD [pw2 n] = 2 ^ n by rw [vD, vD, hpn]; omega] at hm
  have hf1 := hx1.fz
  have hz : AVal.int .u64 1 = wd (pw2 0) := rfl
  have hch : chunks 1 1 [wd (pw2 n)] = eW [pw2 n] := rfl
  generalize eW [pw2 n] = e1 at *
  generalize pw2 n = pn at *
  generalize pw2 0 = p0 at *
  simp -implicitDefEqProofs [C_avouchref01zShift, hf1, hz]
  generalize hF : run ctx _ (.loop _) _ _ = R
  obtain ⟨fr1, rfl, h5, hk1⟩ := hlo _ _ _ hF (by simp) (by simp) (by simp)
  simp -implicitDefEqProofs [hk1, wr, Ba_avouchref01zShift, dsts, h5, fill1W, hch, hm]
/-! #### rests: plain laws -/
theorem dg_mono {x y : Nat} (h : x ≤ y) : (dg x).length ≤ (dg y).length := dg_len (Nat.lt_of_le_of_lt h (by have := vD_lt (dg_dg y); rwa [dg_val] at this))
theorem dg_len1 {x n : Nat} (h : x < 512 * dB ^ n) : (dg x).length ≤ n + 1 := dg_len (by
  rw [Nat.pow_succ, Nat.mul_comm]
  have : 512 * dB ^ n ≤ dB * dB ^ n := Nat.mul_le_mul_right _ (by decide)
  omega)
theorem vD_at {l : List W64} (h : Dg l) (i : Nat) : (gd l 0#64 i).toNat = vD l / dB ^ i % dB := by
  induction l generalizing i with
  | nil => simp [gd, List.getD, vD]
  | cons x l ih =>
    have hB : 0 < dB := by decide
    cases i with
    | zero => rw [gd_cons0, vD, Nat.pow_zero, Nat.div_one, Nat.add_mul_mod_self_left, Nat.mod_eq_of_lt h.head]
    | succ i => rw [gd_consS, ih h.tail i, vD, Nat.pow_succ, Nat.mul_comm (dB ^ i), ← Nat.div_div_eq_div_mul, Nat.add_mul_div_left _ _ hB, Nat.div_eq_of_lt h.head, Nat.zero_add]
theorem byte_at {l : List W64} (h : Dg l) (m : Nat) : (gd l 0#64 (m / 4)).toNat / 256 ^ (m % 4) % 256 = vD l / 256 ^ m % 256 := by
  rw [vD_at h]
  have e : 256 ^ m = dB ^ (m / 4) * 256 ^ (m % 4) := by
    rw [show dB = 256 ^ 4 from rfl, ← Nat.pow_mul, ← Nat.pow_add, Nat.div_add_mod]
  rw [e, ← Nat.div_div_eq_div_mul]
  generalize vD l / dB ^ (m / 4) = x
  rw [show dB = 4294967296 from rfl]
  have h4 : m % 4 < 4 := Nat.mod_lt _ (by decide)
  generalize m % 4 = j at *
  have : j = 0 ∨ j = 1 ∨ j = 2 ∨ j = 3 := by omega
  rcases this with rfl | rfl | rfl | rfl
  · rw [show 256 ^ 0 = 1 from rfl]; omega
  · rw [show 256 ^ 1 = 256 from rfl]; omega
  · rw [show 256 ^ 2 = 65536 from rfl]; omega
  · rw [show 256 ^ 3 = 16777216 from rfl]; omega
/-- As much taken away as goes: of so many doublings. -/
def grd (M : Nat) : Nat → Nat → Nat
  | 0, x => x
  | k + 1, x => grd M k (if M * 2 ^ k ≤ x then x - M * 2 ^ k else x)
theorem grd_ok (M : Nat) : ∀ (k x : Nat), x < M * 2 ^ k → grd M k x = x % M
  | 0, x, h => by rw [grd, Nat.mod_eq_of_lt (by simpa using h)]
  | k + 1, x, h => by
    rw [Nat.pow_succ, ← Nat.mul_assoc] at h
    rw [grd]
    split
    · rename_i hle
      rw [grd_ok M k _ (by omega)]
      exact (Nat.mod_eq_sub_mod_iter M (2 ^ k) x hle).symm
    · exact grd_ok M k x (by omega)
where
  Nat.mod_eq_sub_mod_iter (M c x : Nat) (h : M * c ≤ x) : x % M = (x - M * c) % M := by
    obtain ⟨d, rfl⟩ := Nat.exists_eq_add_of_le h
    rw [Nat.add_sub_cancel_left, Nat.mul_add_mod]
theorem mod_step (N M m : Nat) : (N / 256 ^ (m + 1) % M * 256 + N / 256 ^ m % 256) % M = N / 256 ^ m % M := by
  have e : N / 256 ^ m = N / 256 ^ (m + 1) * 256 + N / 256 ^ m % 256 := by
    rw [Nat.pow_succ, ← Nat.div_div_eq_div_mul]; omega
  conv => rhs; rw [e]
  rw [Nat.add_mod, Nat.mod_mul_mod, ← Nat.add_mod]
end Go.Av

namespace Go.Av
set_option maxHeartbeats 2000000
set_option maxRecDepth 20000
set_option linter.unusedSimpArgs false
set_option linter.unusedVariables false
def tmV (M k : Nat) : AVal := .vsl false (eW (dg (M * 2 ^ k)))
theorem tmV_cells (M k : Nat) : (tmV M k).cells = [tmV M k] := rfl
theorem stK_tmV (L : Lim) (h : AHeap) (p : AVal) (M k : Nat) : stK L h 1 p (tmV M k) = stM (storeA L h p [tmV M k]) := stK_vsl _ _ p _ _
theorem under_tmV (M k : Nat) : underL 0 0 [tmV M k] = true := by simp [underL, tmV, AVal.under]
theorem loop_Mod1 {fr : Fr} {h : AHeap} {R : Option (AEx × Fr × AHeap)} (m : List W64) (hm : Dg m) (hl : m.length < 10000000)
    (hF : run ctx (limP h) (.loop Ba_avouchref01zMod) fr (hx h [mixT 9 (tmV (vD m)) (fun _ => .nsl) 0] []) = R)
    (h1 : fr 1 = .vsl false (eW m)) (h5 : fr 5 = pA h.blks.length 0 0) (h6 : fr 6 = .int .i64 0) :
    ∃ fr', R = some (.exit 0, fr', hx h [tab 9 (tmV (vD m))] []) ∧ ∀ t, t ∉ wr Ba_avouchref01zMod → fr' t = fr t := by
  obtain ⟨e, fr', h', rfl, ⟨rfl, rfl⟩, hk⟩ := loop_rule hF 9
    (fun k fr hh => fr 6 = .int .i64 (k : Int) ∧ hh = hx h [mixT 9 (tmV (vD m)) (fun _ => .nsl) k] [])
    (fun e fr hh => e = .exit 0 ∧ hh = hx h [tab 9 (tmV (vD m))] [])
    ⟨h6, rfl⟩ (by
      rintro k fr1 hh hkN hkeep ⟨g6, rfl⟩
      have g1 := (hkeep 1 (by decide)).trans h1
      have g5 := (hkeep 5 (by decide)).trans h5
      by_cases hlt : k < 9
      · have w1 : IntKind.i64.wrap ((k : Int) + 1) = k + 1 := wrap_i64 (by omega) (by omega)
        have hS := fun L h => ok_RShift L h (.vsl false (eW m)) m (LV.vsl _ _) hm k (by omega) hl
        rw [show AVal.vsl false (eW (dg (vD m * 2 ^ k))) = tmV (vD m) k from rfl] at hS
        have hi := iadr_pA 9 1 h.blks.length 0 0 k .i64 (by simpa using hlt)
        rw [Nat.zero_add, Nat.mul_one] at hi
        have hms := mixT_set 9 (tmV (vD m)) (fun _ => AVal.nsl) k
        have hml : (mixT 9 (tmV (vD m)) (fun _ => AVal.nsl) k).length = 9 := by simp
        have hst := stK_tmV (limP h)
        have hun := under_tmV (vD m) k
        generalize hm2 : mixT 9 (tmV (vD m)) (fun _ => AVal.nsl) (k + 1) = m2 at *
        generalize mixT 9 (tmV (vD m)) (fun _ => AVal.nsl) k = m1 at *
        have hrob : (limP h).rob ≤ h.blks.length := Nat.le_refl _
        simp -implicitDefEqProofs [Ba_avouchref01zMod, g1, g5, g6, show (k : Int) < 9 by omega, w1, hS, hi, hst, storeA_fl, hrob, hun, hml, hms, show k + 1 ≤ 9 by omega]
        exact ⟨hlt, by rw [hm2]⟩
      · have : k = 9 := by omega
        subst this
        rw [mixT_all]
        simp [Ba_avouchref01zMod, g6])
  exact ⟨fr', rfl, hk⟩
def dq (d : W64) : Nat → W64
  | 0 => d
  | k + 1 => qtW (dq d k) 256
theorem dq_nat (d : W64) : ∀ k, (dq d k).toNat = d.toNat / 256 ^ k
  | 0 => by simp [dq]
  | k + 1 => by rw [dq, qtW_nat, dq_nat d k, Nat.pow_succ, Nat.div_div_eq_div_mul]
theorem loop_Mod2 {L : Lim} {fr : Fr} {h : AHeap} {R : Option (AEx × Fr × AHeap)} (d : W64) (i : Nat)
    (hF : run ctx L (.loop Bb_avouchref01zMod) fr h = R) (h8 : fr 8 = .int .i64 (i : Int)) (h9 : fr 9 = wd d) (h10 : fr 10 = .int .i64 0) :
    ∃ fr', R = some (.exit 4, fr', h) ∧ fr' 9 = wd (dq d (i % 4)) ∧ ∀ t, t ∉ wr Bb_avouchref01zMod → fr' t = fr t := by
  have hm4 : (i : Int).tmod 4 = ((i % 4 : Nat) : Int) := tmodL i 4
  generalize hn : i % 4 = n at *
  have hn4 : n < 4 := by omega
  obtain ⟨e, fr', h', rfl, ⟨rfl, rfl, h9'⟩, hk⟩ := loop_rule hF n
    (fun k fr hh => fr 10 = .int .i64 (k : Int) ∧ fr 9 = wd (dq d k) ∧ hh = h)
    (fun e fr hh => e = .exit 4 ∧ hh = h ∧ fr 9 = wd (dq d n))
    ⟨h10, h9, rfl⟩ (by
      rintro k fr1 hh hkN hkeep ⟨g10, g9, rfl⟩
      have g8 := (hkeep 8 (by decide)).trans h8
      by_cases hlt : k < n
      · have w1 : IntKind.i64.wrap ((k : Int) + 1) = k + 1 := wrap_i64 (by omega) (by omega)
        have hle : (k : Int) < n := by omega
        have hd : qtW (dq d k) 256 = dq d (k + 1) := rfl
        generalize hd2 : dq d (k + 1) = d2 at *
        generalize dq d k = d1 at *
        simp -implicitDefEqProofs [Bb_avouchref01zMod, g8, g9, g10, bin_rem, hm4, hle, w1, wd_quo8, hd]
        exact ⟨hlt, by rw [hd2]⟩
      · have : k = n := by omega
        subst this
        generalize dq d k = d1 at *
        simp [Bb_avouchref01zMod, g8, g9, g10, bin_rem, hm4])
  exact ⟨fr', rfl, h9', hk⟩
/-- A list of words, as a value. -/
def VlW (x : AVal) (l : List W64) : Prop := ∃ c, x = .vsl c (eW l)
theorem VlW.mk (c : Bool) (l : List W64) : VlW (.vsl c (eW l)) l := ⟨c, rfl⟩
theorem cmpN_ge (x y : Nat) : (decide (cmpN x y ≥ 0)) = decide (y ≤ x) := by
  unfold cmpN
  split
  · simp; omega
  · split <;> simp <;> omega
theorem loop_Mod3 {fr : Fr} {h : AHeap} {R : Option (AEx × Fr × AHeap)} (M K x0 : Nat) (hM : M < dB ^ K) (hK : K < 10000000) (hx0 : x0 < M * 512)
    (hF : run ctx (limP h) (.loop Bc_avouchref01zMod) fr (hx h [tab 9 (tmV M)] []) = R)
    (h5 : fr 5 = pA h.blks.length 0 0) (h7 : VlW (fr 7) (dg x0)) (h11 : fr 11 = .int .i64 8) :
    ∃ fr', R = some (.exit 6, fr', hx h [tab 9 (tmV M)] []) ∧ VlW (fr' 7) (dg (x0 % M)) ∧ ∀ t, t ∉ wr Bc_avouchref01zMod → fr' t = fr t := by
  have hbig : ∀ k, k ≤ 9 → M * 2 ^ k < 512 * dB ^ K ∨ M = 0 := fun k hk => by
    by_cases h0 : M = 0
    · exact .inr h0
    · left
      have h1 : (2 : Nat) ^ k ≤ 2 ^ 9 := Nat.pow_le_pow_right (by decide) hk
      have h2 : M * 2 ^ k ≤ M * 512 := Nat.mul_le_mul_left _ h1
      omega
  obtain ⟨e, fr', h', rfl, ⟨rfl, rfl, h7'⟩, hk⟩ := loop_rule hF 9
    (fun k fr hh => ∃ j x, j + k = 9 ∧ fr 11 = .int .i64 ((j : Int) - 1) ∧ VlW (fr 7) (dg x) ∧ x ≤ x0 ∧ grd M j x = grd M 9 x0 ∧ hh = hx h [tab 9 (tmV M)] [])
    (fun e fr hh => e = .exit 6 ∧ hh = hx h [tab 9 (tmV M)] [] ∧ VlW (fr 7) (dg (x0 % M)))
    ⟨9, x0, rfl, h11, h7, Nat.le_refl _, rfl, rfl⟩ (by
      rintro k fr1 hh hkN hkeep ⟨j, x, hj, g11, ⟨c, g7⟩, hxx, hgr, rfl⟩
      have g5 := (hkeep 5 (by decide)).trans h5
      cases j with
      | succ i =>
        rw [show (((i + 1 : Nat) : Int) - 1) = (i : Int) by omega] at g11
        have w1 : IntKind.i64.wrap ((i : Int) - 1) = (i : Int) - 1 := wrap_i64 (by omega) (by omega)
        have hi := iadr_pA 9 1 h.blks.length 0 0 i .i64 (by simp; omega)
        rw [Nat.zero_add, Nat.mul_one] at hi
        have hat : (tab 9 (tmV M))[i]? = some (tmV M i) := tab_at (by omega)
        have hM0 : M ≠ 0 := fun e => by subst e; omega
        have hl1 : (dg x).length < 100000000 := by have := dg_len1 (x := x) (n := K) (by have := hbig 9 (by omega); omega); omega
        have hl2 : (dg (M * 2 ^ i)).length < 100000000 := by have := dg_len1 (x := M * 2 ^ i) (n := K) (by have := hbig i (by omega); omega); omega
        have hC := fun L h c => ok_RCmp L h (.vsl c (eW (dg x))) (tmV M i) (dg x) (dg (M * 2 ^ i)) (RdW.vsl _ _ _) (RdW.vsl _ _ _) (dg_dg _) (dg_dg _) ⟨hl1, hl2⟩
        rw [dg_val, dg_val] at hC
        have hge := cmpN_ge x (M * 2 ^ i)
        have hnn : (i : Int) ≥ 0 := by omega
        by_cases hle : M * 2 ^ i ≤ x
        · have hS := fun L h c => ok_RSub L h (.vsl c (eW (dg x))) (tmV M i) (dg x) (dg (M * 2 ^ i)) (LV.vsl _ _) (LV.vsl _ _) (dg_dg _) (dg_dg _) hl1 (dg_mono hle) (by rw [dg_val, dg_val]; exact hle)
          rw [dg_val, dg_val] at hS
          rw [decide_eq_true hle] at hge
          have hfin : ∃ x', (x - M * 2 ^ i = x' ∧ x' ≤ x0 ∧ grd M i x' = grd M 9 x0) := ⟨_, rfl, by omega, by rw [← hgr, grd, if_pos hle]⟩
          obtain ⟨x', e1, e2, e3⟩ := hfin
          rw [e1] at hS
          generalize cmpN x (M * 2 ^ i) = cc at *
          generalize tab 9 (tmV M) = tb at *
          generalize tmV M i = tv at *
          simp -implicitDefEqProofs [Bc_avouchref01zMod, g5, g7, g11, w1, hi, hat, partA_one, hC, hge, hS, -bin_geq, binGE]
          exact ⟨by omega, i, by omega, rfl, x', VlW.mk _ _, e2, e3⟩
        · rw [decide_eq_false hle] at hge
          have e3 : grd M i x = grd M 9 x0 := by rw [← hgr, grd, if_neg hle]
          generalize cmpN x (M * 2 ^ i) = cc at *
          generalize tab 9 (tmV M) = tb at *
          generalize tmV M i = tv at *
          simp -implicitDefEqProofs [Bc_avouchref01zMod, g5, g7, g11, w1, hi, hat, partA_one, hC, hge, -bin_geq, binGE]
          exact ⟨by omega, i, by omega, rfl, x, VlW.mk _ _, hxx, e3⟩
      | zero =>
        have e1 : x = x0 % M := by
          rw [grd_ok M 9 x0 hx0] at hgr; exact hgr
        simp [Bc_avouchref01zMod, g11]
        rw [g7, e1]; exact VlW.mk _ _)
  exact ⟨fr', rfl, h7', hk⟩
where
  binGE {k : IntKind} (a : Int) : binA .geq (.int k a) (.int k 0) = some (.bool (decide (a ≥ 0))) := bin_geq k a 0
end Go.Av

namespace Go.Av
set_option maxHeartbeats 2000000
set_option maxRecDepth 20000
set_option linter.unusedSimpArgs false
set_option linter.unusedVariables false
theorem dg_one {x : W64} (h : x.toNat < dB) : Dg [x] := Dg.cons h Dg.nil
theorem vD_one (x : W64) : vD [x] = x.toNat := by simp [vD]
theorem rmW8_lt (x : W64) : (rmW x 256).toNat < dB := by
  rw [rmW_nat]; exact Nat.lt_of_lt_of_le (Nat.mod_lt _ (by decide)) (by decide)
theorem fill1C : fillA (rep [AVal.int .u64 0] 1) [(0, 1, .int .u64 256)] = some [wd 256#64] := rfl
theorem loop_Mod {fr : Fr} {h : AHeap} {R : Option (AEx × Fr × AHeap)} (a m : List W64) (ha : Dg a) (hm : Dg m) (h0m : vD m ≠ 0) (hl : a.length < 10000000 ∧ m.length < 10000000)
    (hF : run ctx (limP h) (.loop Bd_avouchref01zMod) fr (hx h [tab 9 (tmV (vD m))] []) = R)
    (h0 : fr 0 = .vsl false (eW a)) (h5 : fr 5 = pA h.blks.length 0 0) (h7 : VlW (fr 7) []) (h8 : fr 8 = .int .i64 (((4 * a.length : Nat) : Int) - 1)) :
    ∃ fr', R = some (.exit 2, fr', hx h [tab 9 (tmV (vD m))] []) ∧ VlW (fr' 7) (dg (vD a % vD m)) ∧ ∀ t, t ∉ wr Bd_avouchref01zMod → fr' t = fr t := by
  have hML := vD_lt hm
  generalize hM : vD m = M at *
  generalize hN : vD a = N at *
  have hbig : N / 256 ^ (4 * a.length) = 0 := Nat.div_eq_of_lt (by
    rw [Nat.pow_mul, ← hN]; exact vD_lt ha)
  obtain ⟨e, fr', h', rfl, ⟨rfl, rfl, h7'⟩, hk⟩ := loop_rule hF (4 * a.length)
    (fun k fr hh => ∃ j, j + k = 4 * a.length ∧ fr 8 = .int .i64 ((j : Int) - 1) ∧ VlW (fr 7) (dg (N / 256 ^ j % M)) ∧ hh = hx h [tab 9 (tmV M)] [])
    (fun e fr hh => e = .exit 2 ∧ hh = hx h [tab 9 (tmV M)] [] ∧ VlW (fr 7) (dg (N % M)))
    ⟨4 * a.length, rfl, h8, by rw [hbig, Nat.zero_mod, dg_zero]; exact h7, rfl⟩ (by
      rintro k fr1 hh hkN hkeep ⟨j, hj, g8, ⟨c, g7⟩, rfl⟩
      have g0 := (hkeep 0 (by decide)).trans h0
      have g5 := (hkeep 5 (by decide)).trans h5
      cases j with
      | succ i =>
        rw [show (((i + 1 : Nat) : Int) - 1) = (i : Int) by omega] at g8
        have w1 : IntKind.i64.wrap ((i : Int) - 1) = (i : Int) - 1 := wrap_i64 (by omega) (by omega)
        have w2 : IntKind.i64.wrap ((i : Int) / 4) = ((i / 4 : Nat) : Int) := wrap_i64 (by omega) (by omega)
        obtain ⟨r1, p, r2, r3⟩ := RdW.vsl h false a
        have hro := r2 (i / 4) (by omega)
        have hrd := fun bs ts => r3 (i / 4) bs ts (by omega)
        have hnn : (i : Int) ≥ 0 := by omega
        have hlo2 := fun L fr R => loop_Mod2 (L := L) (fr := fr) (h := hx h [tab 9 (tmV M)] []) (R := R) (gd a 0#64 (i / 4)) i
        have hdn := dq_nat (gd a 0#64 (i / 4)) (i % 4)
        generalize dq (gd a 0#64 (i / 4)) (i % 4) = dd at *
        have hr0 := Nat.mod_lt (N / 256 ^ (i + 1)) (Nat.pos_of_ne_zero h0m)
        generalize hr : N / 256 ^ (i + 1) % M = r at *
        have hrl : (dg r).length < 100000000 := by have := dg_len1 (x := r) (n := m.length) (by omega); omega
        have hMu := fun L h => ok_RMul L h (.vsl c (eW (dg r))) (.vsl true (eW [256#64])) (dg r) [256#64] (LV.vsl _ _) (LV.vsl _ _) (dg_dg _) (dg_one (by decide)) ⟨hrl, by simp⟩
        rw [dg_val, show vD [256#64] = 256 from rfl] at hMu
        have hTr := fun L h => ok_RTrimV L h true [rmW dd 256] (dg_one (rmW8_lt _)) (by simp)
        have hb : vD [rmW dd 256] = N / 256 ^ i % 256 := by rw [vD_one, rmW_nat, hdn, byte_at ha, hN]
        rw [hb] at hTr
        have hlr : (dg (r * 256)).length < 100000000 := by have := dg_len1 (x := r * 256) (n := m.length) (by omega); omega
        have hAd := fun L h => ok_RAdd L h (.vsl false (eW (dg (r * 256)))) (.vsl false (eW (dg (N / 256 ^ i % 256)))) _ _ (LV.vsl _ _) (LV.vsl _ _) (dg_dg _) (dg_dg _) ⟨hlr, by have := dg_len (n := N / 256 ^ i % 256) (k := 1) (Nat.lt_of_lt_of_le (Nat.mod_lt _ (by decide)) (show 256 ≤ dB ^ 1 by decide)); omega⟩
        rw [dg_val, dg_val] at hAd
        have hst := mod_step N M i
        rw [hr] at hst
        have hlo3 := fun fr R => loop_Mod3 (fr := fr) (h := h) (R := R) M m.length (r * 256 + N / 256 ^ i % 256) hML hl.2 (by have := Nat.mod_lt (N / 256 ^ i) (show 0 < 256 by decide); omega)
        rw [hst] at hlo3
        have hch1 : chunks 1 1 [wd 256#64] = eW [256#64] := rfl
        have hch2 : chunks 1 1 [wd (rmW dd 256)] = eW [rmW dd 256] := rfl
        generalize ((i / 4 : Nat) : Int) = q4 at *
        simp -implicitDefEqProofs [Bd_avouchref01zMod, g0, g7, g8, bin_quo, w2, hro, hrd]
        generalize hF : run ctx _ (.loop _) _ _ = R
        obtain ⟨fr2, rfl, f9, hk2⟩ := hlo2 _ _ _ hF (by simp [g8]) (by simp) (by simp)
        simp -implicitDefEqProofs [hk2, wr, Bb_avouchref01zMod, dsts, f9, g7, g8, fill1C, fill1W, hch1, hch2, hMu, wd_rem8, hTr, hAd]
        generalize hF : run ctx _ (.loop _) _ _ = R
        obtain ⟨fr3, rfl, f7, hk3⟩ := hlo3 _ _ hF (by simp [hk2, wr, Bb_avouchref01zMod, dsts, g5]) (by simp; exact VlW.mk _ _) (by simp)
        simp -implicitDefEqProofs [hk2, hk3, wr, Bb_avouchref01zMod, Bc_avouchref01zMod, dsts, g8, w1]
        exact ⟨by omega, i, by omega, rfl, f7⟩
      | zero =>
        simp [Bd_avouchref01zMod, g8]
        rw [g7, Nat.pow_zero, Nat.div_one]; exact VlW.mk _ _)
  exact ⟨fr', rfl, h7', hk⟩
theorem ok_RMod (L : Lim) (h : AHeap) (x y : AVal) (a m : List W64) (hx1 : LV x a) (hy1 : LV y m) (ha : Dg a) (hm : Dg m) (h0m : vD m ≠ 0) (hl : a.length < 10000000 ∧ m.length < 10000000) :
    acall ctx L i_avouchref01zMod [x, y] h = some (.vsl false (eW (dg (vD a % vD m))), h) := by
  rw [call_avouchref01zMod]
  have hlo1 := fun fr R => loop_Mod1 (fr := fr) (h := h) (R := R) m hm hl.2
  have hlo := fun fr R => loop_Mod (fr := fr) (h := h) (R := R) a m ha hm h0m hl
  have w1 : IntKind.i64.wrap ((a.length : Int) * 4) = ((4 * a.length : Nat) : Int) := (wrap_i64 (by omega) (by omega)).trans (by omega)
  have w2 : IntKind.i64.wrap (((4 * a.length : Nat) : Int) - 1) = ((4 * a.length : Nat) : Int) - 1 := wrap_i64 (by omega) (by omega)
  have hf1 := hx1.fz
  have hf2 := hy1.fz
  have hfill : fillA (rep1 AVal.nsl 9) [] = some (rep1 .nsl 9) := rfl
  have hrep : rep1 AVal.nsl 9 = mixT 9 (tmV (vD m)) (fun _ => .nsl) 0 := by rw [mixT_zero, rep1_tab]
  have hml : (mixT 9 (tmV (vD m)) (fun _ => AVal.nsl) 0).length = 9 := by simp
  have hun : underL 0 0 (mixT 9 (tmV (vD m)) (fun _ => AVal.nsl) 0) = true := by rw [← hrep]; rfl
  have hch : fillA (rep [AVal.int .u64 0] 0) [] = some [] := rfl
  have hch0 : chunks 1 0 [] = eW [] := rfl
  rw [hrep] at hfill
  generalize mixT 9 (tmV (vD m)) (fun _ => .nsl) 0 = m0 at *
  generalize tab 9 (tmV (vD m)) = m1 at *
  generalize ((4 * a.length : Nat) : Int) = la at *
  have hrob : (limP h).rob ≤ h.blks.length := Nat.le_refl _
  simp -implicitDefEqProofs [C_avouchref01zMod, hf1, hf2, hrep, hfill, stKB, setAtB, hml, storeA_fl, hrob, hun]
  generalize hF : run ctx _ (.loop _) _ _ = R
  obtain ⟨fr1, rfl, hk1⟩ := hlo1 _ _ hF (by simp) (by simp) (by simp)
  simp -implicitDefEqProofs [hk1, wr, Ba_avouchref01zMod, dsts, hch, hch0, w1, w2]
  generalize hF : run ctx _ (.loop _) _ _ = R
  obtain ⟨fr2, rfl, ⟨c, f7⟩, hk2⟩ := hlo _ _ hF (by simp [hk1, wr, Ba_avouchref01zMod, dsts]) (by simp [hk1, wr, Ba_avouchref01zMod, dsts]) (by simp; exact VlW.mk true []) (by simp)
  simp -implicitDefEqProofs [f7]
end Go.Av

namespace Go.Av
set_option maxHeartbeats 2000000
set_option maxRecDepth 20000
set_option linter.unusedSimpArgs false
set_option linter.unusedVariables false
/-! #### of bytes -/
/-- The bytes of a digit, from a place on. -/
def sg (b : List Int) (m q : Nat) : List Int := (b.take (4 * q + 4)).drop (max m (4 * q))
def sgD (b : List Int) (m q : Nat) : W64 := BitVec.ofNat 64 (leN (sg b m q))
theorem sg_lt {b : List Int} (hb : inB b) (m q : Nat) : leN (sg b m q) < dB := by
  have h := leN_lt (inB_drop (inB_take hb (4 * q + 4)) (max m (4 * q)))
  have hl : (sg b m q).length ≤ 4 := by simp [sg]; omega
  exact Nat.lt_of_lt_of_le h (Nat.pow_le_pow_right (by decide) hl)
theorem sgD_nat {b : List Int} (hb : inB b) (m q : Nat) : (sgD b m q).toNat = leN (sg b m q) := by
  have := sg_lt hb m q
  unfold sgD; rw [BitVec.toNat_ofNat]; rw [show dB = 4294967296 from rfl] at this; omega
theorem sg_other (b : List Int) (m q : Nat) (h : q ≠ m / 4) : sg b m q = sg b (m + 1) q := by
  unfold sg
  by_cases h1 : m < 4 * q
  · rw [show max m (4 * q) = max (m + 1) (4 * q) by omega]
  · rw [List.drop_eq_nil_of_le (by simp; omega), List.drop_eq_nil_of_le (by simp; omega)]
theorem sg_same (b : List Int) (m : Nat) (h : m < b.length) : sg b m (m / 4) = gd b 0 m :: sg b (m + 1) (m / 4) := by
  unfold sg
  rw [show max m (4 * (m / 4)) = m by omega, show max (m + 1) (4 * (m / 4)) = m + 1 by omega]
  have hl : m < (b.take (4 * (m / 4) + 4)).length := by simp; omega
  rw [List.drop_eq_getElem_cons hl, List.getElem_take]
  congr 1
  unfold gd; simp [List.getD, List.getElem?_eq_getElem h]
theorem sg_sum {b : List Int} (hb : inB b) : ∀ n, sD (sgD b 0) n = leN (b.take (4 * n))
  | 0 => by simp [sD, leN]
  | n + 1 => by
    rw [sD, sg_sum hb n, sgD_nat hb]
    have e : b.take (4 * (n + 1)) = b.take (4 * n) ++ sg b 0 n := by
      unfold sg
      rw [show max 0 (4 * n) = 4 * n by omega, show 4 * (n + 1) = 4 * n + 4 by omega, List.drop_take, Nat.add_sub_cancel_left, List.take_add]
    rw [e, leN_append]
    by_cases h : 4 * n ≤ b.length
    · rw [List.length_take, Nat.min_eq_left h, Nat.pow_mul]; rfl
    · have : sg b 0 n = [] := by unfold sg; exact List.drop_eq_nil_of_le (by simp; omega)
      rw [this]; simp [leN]
theorem mul256 (x : W64) : binA .mul (wd x) (.int .u64 256) = some (wd (x * 256#64)) := wd_mul x 256#64
theorem loop_OfBytes {fr : Fr} {h : AHeap} {R : Option (AEx × Fr × AHeap)} (b : List Int) (hb : inB b) (N : Nat) (hN : N = b.length / 4 + 1) (hl : b.length < 100000000)
    (hF : run ctx (limP h) (.loop Ba_avouchref01zOfBytes) fr (hx h [cW (tab N (sgD b b.length))] []) = R)
    (h0 : fr 0 = .vsl false (eI .u8 b)) (h3 : fr 3 = sA h.blks.length 0 0 1 N (some N)) (h4 : fr 4 = .int .i64 ((b.length : Int) - 1)) :
    ∃ fr', R = some (.exit 0, fr', hx h [cW (tab N (sgD b 0))] []) ∧ ∀ t, t ∉ wr Ba_avouchref01zOfBytes → fr' t = fr t := by
  obtain ⟨e, fr', h', rfl, ⟨rfl, rfl⟩, hk⟩ := loop_rule hF b.length
    (fun k fr hh => ∃ j, j + k = b.length ∧ fr 4 = .int .i64 ((j : Int) - 1) ∧ hh = hx h [cW (tab N (sgD b j))] [])
    (fun e fr hh => e = .exit 0 ∧ hh = hx h [cW (tab N (sgD b 0))] [])
    ⟨b.length, rfl, h4, rfl⟩ (by
      rintro k fr1 hh hkN hkeep ⟨j, hj, g4, rfl⟩
      have g0 := (hkeep 0 (by decide)).trans h0
      have g3 := (hkeep 3 (by decide)).trans h3
      cases j with
      | succ i =>
        rw [show (((i + 1 : Nat) : Int) - 1) = (i : Int) by omega] at g4
        have w1 : IntKind.i64.wrap ((i : Int) - 1) = (i : Int) - 1 := wrap_i64 (by omega) (by omega)
        have w2 : IntKind.i64.wrap ((i : Int) / 4) = ((i / 4 : Nat) : Int) := wrap_i64 (by omega) (by omega)
        have hbi := hb i (by omega)
        have hio := iadr_wr h.blks.length 0 0 N (i / 4) (some N) (by simp; omega)
        rw [Nat.zero_add] at hio
        have hat := cW_at (l := tab N (sgD b (i + 1))) (i := i / 4) (by simp; omega)
        rw [gd_tab (by omega)] at hat
        have hib := iadr_eI .u8 .i64 false b i (by simp; omega)
        have hlen : (cW (tab N (sgD b (i + 1)))).length = N := by simp
        have hv : sgD b (i + 1) (i / 4) * 256#64 + bw (gd b 0 i) = sgD b i (i / 4) := by
          refine BitVec.eq_of_toNat_eq ?_
          have e1 := sgD_nat hb (i + 1) (i / 4)
          have e2 := sgD_nat hb i (i / 4)
          rw [sg_same b i (by omega), leN] at e2
          have e3 := sg_lt hb i (i / 4)
          rw [sg_same b i (by omega), leN] at e3
          have e4 : (bw (gd b 0 i)).toNat = (gd b 0 i).toNat := by
            obtain ⟨v, hv⟩ : ∃ v : Nat, gd b 0 i = (v : Int) := ⟨(gd b 0 i).toNat, by omega⟩
            rw [hv, bw_nat v (by omega)]; simp
          rw [BitVec.toNat_add, BitVec.toNat_mul, e1, e2, e4]
          rw [show dB = 4294967296 from rfl] at e3
          simp only [BitVec.toNat_ofNat]
          omega
        have hss : (cW (tab N (sgD b (i + 1)))).set (i / 4) (wd (sgD b i (i / 4))) = cW (tab N (sgD b i)) := by
          rw [cW_set, tab_set]
          congr 1
          refine tab_congr fun q hq => ?_
          split
          · rename_i e; rw [e]
          · rename_i e; unfold sgD; rw [sg_other b i q e]
        have hrob : (limP h).rob ≤ h.blks.length := Nat.le_refl _
        have hi4 : i / 4 + 1 ≤ N := by omega
        generalize hm2 : cW (tab N (sgD b i)) = m2 at *
        generalize cW (tab N (sgD b (i + 1))) = m1 at *
        generalize hq : i / 4 = q at *
        generalize (q : Int) = qi at *
        have hnn : (i : Int) ≥ 0 := by omega
        simp -implicitDefEqProofs [Ba_avouchref01zOfBytes, g0, g3, g4, bin_quo, w1, w2, hio, hat, partA_one, hib, i2i_bw, -i2iK_int, mul256, hv, storeA_fl, hrob, hlen, hi4, hss]
        exact ⟨by omega, i, by omega, rfl, by rw [hm2]⟩
      | zero =>
        simp [Ba_avouchref01zOfBytes, g4])
  exact ⟨fr', rfl, hk⟩
theorem ok_ROfBytes (L : Lim) (h : AHeap) (c : Bool) (b : List Int) (hb : inB b) (hl : b.length < 100000000) :
    acall ctx L i_avouchref01zOfBytes [.vsl c (eI .u8 b)] h = some (.vsl false (eW (dg (leN b))), h) := by
  rw [call_avouchref01zOfBytes]
  obtain ⟨N, hN⟩ : ∃ N, N = b.length / 4 + 1 := ⟨_, rfl⟩
  have hlo := fun fr R => loop_OfBytes (fr := fr) (h := h) (R := R) b hb N hN hl
  have h0 : tab N (sgD b b.length) = tab N (fun _ => 0#64) := tab_congr fun q _ => by
    unfold sgD sg; rw [List.drop_eq_nil_of_le (by simp; omega)]; rfl
  rw [h0] at hlo
  have hvd : vD (tab N (sgD b 0)) = leN b := by rw [vD_tab, sg_sum hb, List.take_of_length_le (by omega)]
  obtain ⟨r, hT, hfz⟩ := ok_RTrimS (limP h) h [cW (tab N (sgD b 0))] [] 0 N N _ _ rfl (by rw [List.take_of_length_le (by simp)]) (by simp) (Dg.tab fun i _ => by rw [sgD_nat hb]; exact sg_lt hb _ _) (by omega) (Nat.le_refl _)
  rw [hvd] at hfz
  have hfz0 := hfz []
  rw [List.append_nil] at hfz0
  have hmk := mkK_int h [] [] 1 [AVal.int .u64 0] .i64 (N : Int) (roomI (by omega))
  rw [Int.toNat_natCast, rep_W] at hmk
  have w1 : IntKind.i64.wrap ((b.length : Int) / 4) = ((b.length / 4 : Nat) : Int) := wrap_i64 (by omega) (by omega)
  have w2 : IntKind.i64.wrap (((b.length / 4 : Nat) : Int) + 1) = (N : Int) := (wrap_i64 (by omega) (by omega)).trans (by omega)
  have w3 : IntKind.i64.wrap ((b.length : Int) - 1) = (b.length : Int) - 1 := wrap_i64 (by omega) (by omega)
  generalize ((b.length / 4 : Nat) : Int) = b4 at *
  generalize tab N (fun _ => 0#64) = m0 at *
  generalize tab N (sgD b 0) = m1 at *
  simp -implicitDefEqProofs [C_avouchref01zOfBytes, bin_quo, w1, w2, w3, hmk]
  generalize hF : run ctx _ (.loop _) _ _ = R
  obtain ⟨fr1, rfl, hk1⟩ := hlo _ _ hF (by simp) (by simp) (by simp)
  simp -implicitDefEqProofs [hk1, wr, Ba_avouchref01zOfBytes, dsts, hT, hfz0]
/-! #### as words -/
def wdO (l : List W64) (i : Nat) : W64 := gd l 0#64 (2 * i) + gd l 0#64 (2 * i + 1) * 4294967296#64
theorem mul32 (x : W64) : binA .mul (wd x) (.int .u64 4294967296) = some (wd (x * 4294967296#64)) := wd_mul x 4294967296#64
theorem wdO_nat {l : List W64} (hl : Dg l) (i : Nat) : (wdO l i).toNat = (gd l 0#64 (2 * i)).toNat + (gd l 0#64 (2 * i + 1)).toNat * 4294967296 := by
  have h1 := hl (2 * i)
  have h2 := hl (2 * i + 1)
  rw [show dB = 4294967296 from rfl] at h1 h2
  unfold wdO
  rw [BitVec.toNat_add, BitVec.toNat_mul]
  simp only [BitVec.toNat_ofNat]
  omega
theorem val_wdO {l : List W64} (hl : Dg l) : ∀ n, sumW (wdO l) n = sD (gd l 0#64) (2 * n)
  | 0 => rfl
  | n + 1 => by
    rw [sumW, val_wdO hl n, wdO_nat hl, show 2 * (n + 1) = 2 * n + 1 + 1 by omega, sD, sD, Nat.pow_succ, Nat.add_mul, Nat.add_assoc, ← Nat.mul_assoc]
    have e : bN n = dB ^ (2 * n) := by unfold bN; rw [Nat.pow_mul]; rfl
    rw [e, Nat.mul_assoc, Nat.mul_comm 4294967296, ← Nat.mul_assoc]
    rfl
end Go.Av
