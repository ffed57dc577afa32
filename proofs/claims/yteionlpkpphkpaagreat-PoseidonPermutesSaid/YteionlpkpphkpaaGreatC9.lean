/- The document's elements as bytes, its products, powers and inverses; three numbers as the program's and the document's. -/
import Derived.Test.YteionlpkpphkpaaGreatC8
import Derived.Test.YteionlpkpphkpaaGreatC4
import Derived.MapKept
import Derived.Test.YteionlpkpphkpaaGreatC5
namespace Go.Av
set_option maxHeartbeats 2000000
set_option maxRecDepth 20000
set_option linter.unusedSimpArgs false
set_option linter.unusedVariables false
theorem loop_RWords {fr : Fr} {h : AHeap} {R : Option (AEx × Fr × AHeap)} (l : List W64) (n : Nat) (hn : n < 100000000)
    (hF : run ctx (limP h) (.loop Ba_avouchref01zWords) fr (hx h [cW (mixT n (wdO l) (fun _ => 0#64) 0)] []) = R)
    (h0 : fr 0 = .vsl false (eW l)) (h1 : fr 1 = .int .i64 (n : Int)) (h5 : fr 5 = sA h.blks.length 0 0 1 0 (some n)) (h6 : fr 6 = .int .i64 0) :
    ∃ fr', R = some (.exit 0, fr', hx h [cW (tab n (wdO l))] []) ∧ fr' 5 = sA h.blks.length 0 0 1 n (some n) ∧ ∀ t, t ∉ wr Ba_avouchref01zWords → fr' t = fr t := by
  obtain ⟨e, fr', h', rfl, ⟨rfl, rfl, h5'⟩, hk⟩ := loop_rule hF n
    (fun k fr hh => fr 6 = .int .i64 (k : Int) ∧ fr 5 = sA h.blks.length 0 0 1 k (some n) ∧ hh = hx h [cW (mixT n (wdO l) (fun _ => 0#64) k)] [])
    (fun e fr hh => e = .exit 0 ∧ hh = hx h [cW (tab n (wdO l))] [] ∧ fr 5 = sA h.blks.length 0 0 1 n (some n))
    ⟨h6, h5, rfl⟩ (by
      rintro k fr1 hh hkN hkeep ⟨g6, g5, rfl⟩
      have g0 := (hkeep 0 (by decide)).trans h0
      have g1 := (hkeep 1 (by decide)).trans h1
      by_cases hlt : k < n
      · have w1 : IntKind.i64.wrap ((k : Int) + 1) = k + 1 := wrap_i64 (by omega) (by omega)
        have w2 : IntKind.i64.wrap (2 * (k : Int)) = ((2 * k : Nat) : Int) := (wrap_i64 (by omega) (by omega)).trans (by omega)
        have w3 : IntKind.i64.wrap (((2 * k : Nat) : Int) + 1) = ((2 * k + 1 : Nat) : Int) := wrap_i64 (by omega) (by omega)
        have hga := fun L h => ok_Rget L h (.vsl false (eW l)) l (RdW.vsl h false l) (2 * k)
        have hgb := fun L h => ok_Rget L h (.vsl false (eW l)) l (RdW.vsl h false l) (2 * k + 1)
        have hrob : (limP h).rob ≤ h.blks.length := Nat.le_refl _
        have hap := fun cl => app1W (limP h) h [cW (mixT n (wdO l) (fun _ => 0#64) k)] [] 0 k n (mixT n (wdO l) (fun _ => 0#64) k) (wdO l k) cl rfl hlt (by simpa using hlt) hrob
        rw [mixT_set] at hap
        simp only [List.set_cons_zero] at hap
        have hS : wd (gd l 0#64 (2 * k) + gd l 0#64 (2 * k + 1) * 4294967296#64) = wd (wdO l k) := rfl
        generalize hm2 : mixT n (wdO l) (fun _ => 0#64) (k + 1) = m2 at *
        generalize mixT n (wdO l) (fun _ => 0#64) k = m1 at *
        generalize ((2 * k + 1 : Nat) : Int) = i2 at *
        generalize ((2 * k : Nat) : Int) = i1 at *
        have hle : (k : Int) < n := by omega
        simp -implicitDefEqProofs [Ba_avouchref01zWords, g0, g1, g5, g6, hle, w1, w2, w3, hga, hgb, mul32, hS, fill1W, chunk1, hap]
        exact ⟨hlt, by rw [hm2]⟩
      · have : k = n := by omega
        subst this
        rw [mixT_all]
        generalize tab k (wdO l) = m1 at *
        simp [Ba_avouchref01zWords, g6, g5, g1])
  exact ⟨fr', rfl, h5', hk⟩
theorem ok_RWords (L : Lim) (h : AHeap) (x : AVal) (l : List W64) (hx1 : LV x l) (n : Nat) (hn : n < 100000000) :
    acall ctx L i_avouchref01zWords [x, .int .i64 (n : Int)] h = some (.vsl false (eW (tab n (wdO l))), h) := by
  rw [call_avouchref01zWords]
  have hlo := fun fr R => loop_RWords (fr := fr) (h := h) (R := R) l n hn
  rw [mixT_zero] at hlo
  have hfz := frz_sW h [cW (tab n (wdO l))] [] h.toks.length 11 0 n (some n) (tab n (wdO l)) rfl (by simp)
  have hmk := mkcK_zero h [] [] 1 [AVal.int .u64 0] .i64 .i64 (n : Int) (roomI (by omega))
  rw [Int.toNat_natCast, rep_W] at hmk
  have hf1 := hx1.fz
  generalize tab n (fun _ => 0#64) = m0 at *
  generalize tab n (wdO l) = m1 at *
  simp -implicitDefEqProofs [C_avouchref01zWords, hf1, hmk]
  generalize hF : run ctx _ (.loop _) _ _ = R
  obtain ⟨fr1, rfl, h5, hk1⟩ := hlo _ _ hF (by simp) (by simp) (by simp) (by simp)
  simp -implicitDefEqProofs [hk1, wr, Ba_avouchref01zWords, dsts, h5, hfz]
theorem val_tabW (n : Nat) (f : Nat → W64) : val (tab n f) = sumW f n := by
  rw [val_sum _ n (by simp)]; exact sumW_congr n fun i hi => gd_tab hi
/-- Of a number with room in the words. -/
theorem wdO_dg (n x : Nat) (h : x < bN n) : tab n (wdO (dg x)) = wN n x := by
  have hl : (dg x).length ≤ 2 * n := dg_len (by rw [Nat.pow_mul]; exact h)
  refine val_inj (by simp) ?_
  rw [val_tabW, val_wdO (dg_dg x), ← vD_sD _ _ hl, dg_val, val_wN n x h]
/-! #### bytes of words -/
theorem qt_byW (w : W64) (k : Nat) : qtW (w >>> (8 * k)) 256 = w >>> (8 * (k + 1)) := by
  refine BitVec.eq_of_toNat_eq ?_
  rw [qtW_nat, BitVec.toNat_ushiftRight, BitVec.toNat_ushiftRight, Nat.shiftRight_eq_div_pow, Nat.shiftRight_eq_div_pow, Nat.mul_add, Nat.pow_add, ← Nat.div_div_eq_div_mul]
theorem rm_byW (w : W64) : i2iK .u8 (wd (rmW w 256)) = some (.int .u8 ((w.toNat % 256 : Nat) : Int)) := by
  rw [i2i_u8_wd, rmW_nat, Nat.mod_mod]
theorem loop_RBytes1 {fr : Fr} {h : AHeap} {R : Option (AEx × Fr × AHeap)} (l : List W64) (i : Nat) (hi : i < l.length) (hl : l.length < 1000000) (f : Nat → Int) (hf : f = fun j => byW (gd l 0#64 (j / 8)) (j % 8))
    (hF : run ctx (limP h) (.loop Ba_avouchref01zBytes) fr (hx h [] (gT (eI .u8 (tab (8 * i) f)))) = R)
    (h3 : fr 3 = gL (.vsl true []) h.toks.length 0 (eI .u8 (tab (8 * i) f))) (h5 : fr 5 = wd (gd l 0#64 i)) (h6 : fr 6 = .int .i64 0) :
    ∃ fr', R = some (.exit 2, fr', hx h [] (gT (eI .u8 (tab (8 * (i + 1)) f)))) ∧ fr' 3 = gL (.vsl true []) h.toks.length 0 (eI .u8 (tab (8 * (i + 1)) f)) ∧ ∀ t, t ∉ wr Ba_avouchref01zBytes → fr' t = fr t := by
  obtain ⟨e, fr', h', rfl, ⟨rfl, rfl, h3'⟩, hk⟩ := loop_rule hF 8
    (fun k fr hh => fr 6 = .int .i64 k ∧ fr 5 = wd (gd l 0#64 i >>> (8 * k)) ∧ fr 3 = gL (.vsl true []) h.toks.length 0 (eI .u8 (tab (8 * i + k) f)) ∧ hh = hx h [] (gT (eI .u8 (tab (8 * i + k) f))))
    (fun e fr hh => e = .exit 2 ∧ hh = hx h [] (gT (eI .u8 (tab (8 * (i + 1)) f))) ∧ fr 3 = gL (.vsl true []) h.toks.length 0 (eI .u8 (tab (8 * (i + 1)) f)))
    ⟨h6, by simpa using h5, h3, rfl⟩ (by
      rintro k fr1 hh hkN hkeep ⟨g6, g5, g3, rfl⟩
      by_cases hlt : k < 8
      · have w1 : IntKind.i64.wrap ((k : Int) + 1) = k + 1 := wrap_i64 (by omega) (by omega)
        have hfk : ((((gd l 0#64 i >>> (8 * k)).toNat % 256 : Nat) : Int)) = f (8 * i + k) := by
          rw [hf]; simp only [byW]
          rw [show (8 * i + k) / 8 = i by omega, show (8 * i + k) % 8 = k by omega]
        have hrb := rm_byW (gd l 0#64 i >>> (8 * k))
        rw [hfk] at hrb
        have hqt := qt_byW (gd l 0#64 i) k
        generalize hw2 : gd l 0#64 i >>> (8 * (k + 1)) = w2 at *
        generalize gd l 0#64 i >>> (8 * k) = w at *
        have hroom : 8 * i + k + 1 < 274877906944 := by omega
        generalize hm : 8 * i + k = m at *
        have hfill : ∀ v : Int, fillA (rep [AVal.int .u8 0] 1) [(0, 1, .int .u8 v)] = some [.int .u8 v] := fun v => rfl
        simp [Ba_avouchref01zBytes, g6, g5, g3, show (k : Int) < 8 by omega, w1, limP, wd_rem8, wd_quo8, hrb, -i2i_u8_wd, hfill, chunk1, eI_one, appK_cV, maxRoom, hroom, hqt]
        exact ⟨hlt, by rw [← hw2, Nat.mul_add], by rw [← hm]; exact ⟨rfl, rfl⟩⟩
      · have : k = 8 := by omega
        subst this
        simp [Ba_avouchref01zBytes, g6, g3, Nat.mul_add])
  exact ⟨fr', rfl, h3', hk⟩
theorem loop_RBytes {fr : Fr} {h : AHeap} {R : Option (AEx × Fr × AHeap)} (l : List W64) (hl : l.length < 1000000) (f : Nat → Int) (hf : f = fun j => byW (gd l 0#64 (j / 8)) (j % 8))
    (hF : run ctx (limP h) (.loop Bb_avouchref01zBytes) fr (hx h [] (gT (eI .u8 (tab (8 * 0) f)))) = R)
    (h0 : fr 0 = .vsl false (eW l)) (h3 : fr 3 = gL (.vsl true []) h.toks.length 0 (eI .u8 (tab (8 * 0) f))) (h4 : fr 4 = .int .i64 0) :
    ∃ fr', R = some (.exit 0, fr', hx h [] (gT (eI .u8 (bytesL l)))) ∧ fr' 3 = gL (.vsl true []) h.toks.length 0 (eI .u8 (bytesL l)) := by
  have hb : bytesL l = tab (8 * l.length) f := by rw [hf]; rfl
  rw [hb]
  obtain ⟨r1, p, r2, r3⟩ := RdW.vsl h false l
  obtain ⟨e, fr', h', rfl, ⟨rfl, rfl, h3'⟩, hk⟩ := loop_rule hF l.length
    (fun k fr hh => fr 4 = .int .i64 k ∧ fr 3 = gL (.vsl true []) h.toks.length 0 (eI .u8 (tab (8 * k) f)) ∧ hh = hx h [] (gT (eI .u8 (tab (8 * k) f))))
    (fun e fr hh => e = .exit 0 ∧ hh = hx h [] (gT (eI .u8 (tab (8 * l.length) f))) ∧ fr 3 = gL (.vsl true []) h.toks.length 0 (eI .u8 (tab (8 * l.length) f)))
    ⟨h4, h3, rfl⟩ (by
      rintro k fr1 hh hkN hkeep ⟨g4, g3, rfl⟩
      have g0 := (hkeep 0 (by decide)).trans h0
      by_cases hlt : k < l.length
      · have w1 : IntKind.i64.wrap ((k : Int) + 1) = k + 1 := wrap_i64 (by omega) (by omega)
        have hro := r2 k hlt
        have hrd := fun bs ts => r3 k bs ts hlt
        have hlo := fun fr R => loop_RBytes1 (fr := fr) (h := h) (R := R) l k hlt hl f hf
        have hle : (k : Int) < l.length := by omega
        generalize gT (eI .u8 (tab (8 * k) f)) = tk at *
        simp -implicitDefEqProofs [Bb_avouchref01zBytes, g0, g3, g4, hle, hro, hrd]
        generalize hF : run ctx _ (.loop _) _ _ = R
        obtain ⟨fr2, rfl, f3, hk2⟩ := hlo _ _ hF (by simp [g3]) (by simp) (by simp)
        simp -implicitDefEqProofs [hk2, wr, Ba_avouchref01zBytes, dsts, f3, g4, w1]
        exact hlt
      · have : k = l.length := by omega
        subst this
        simp [Bb_avouchref01zBytes, g4, g0, g3])
  exact ⟨fr', rfl, h3'⟩
theorem ok_RBytes (L : Lim) (h : AHeap) (x : AVal) (l : List W64) (hx1 : LV x l) (hl : l.length < 1000000) : acall ctx L i_avouchref01zBytes [x] h = some (.vsl false (eI .u8 (bytesL l)), h) := by
  rw [call_avouchref01zBytes]
  have hlo := fun fr R => loop_RBytes (fr := fr) (h := h) (R := R) l hl _ rfl
  have hf1 := hx1.fz
  have hch : fillA (rep [AVal.int .u8 0] 0) [] = some [] := rfl
  have hch0 : chunks 1 0 [] = [] := rfl
  simp -implicitDefEqProofs [C_avouchref01zBytes, hf1, hch, hch0]
  generalize hF : run ctx _ (.loop _) _ _ = R
  obtain ⟨fr1, rfl, q1⟩ := hlo _ _ hF (by simp) (by simp [gL, tab]) (by simp)
  have hfz := frz_gL (h1 := hx h [] (gT (eI .u8 (bytesL l)))) (nb := h.blks.length) (nt := h.toks.length) (n := 11) (s := .vsl true []) (es := eI .u8 (bytesL l)) (.inr rfl) (by simp)
  generalize bytesL l = bl1 at *
  simp -implicitDefEqProofs [q1, hfz]
/-! #### the prime -/
def pD : List W64 := [4026531841#64, 1138881939#64, 2042196113#64, 674490440#64, 2172737629#64, 3092268470#64, 3778125865#64, 811880050#64]
theorem vD_pD : vD pD = pN := by decide +kernel
theorem Dg_pD : Dg pD := by
  repeat refine Dg.cons (by decide) ?_
  exact Dg.nil
theorem pD_dg : pD = dg pN := by rw [← vD_pD]; exact dg_of ⟨Dg_pD, .inr (by decide)⟩
theorem ok_RP (L : Lim) (h : AHeap) : acall ctx L i_avouchref02zP [] h = some (.vsl false (eW pD), h) := by
  rw [call_avouchref02zP]
  have hf : ∀ a b c d e f g i : AVal, fillA (rep [AVal.int .u64 0] 8) [(0, 1, a), (1, 1, b), (2, 1, c), (3, 1, d), (4, 1, e), (5, 1, f), (6, 1, g), (7, 1, i)] = some [a, b, c, d, e, f, g, i] → True := fun _ _ _ _ _ _ _ _ _ => trivial
  have hfill : fillA (rep [AVal.int .u64 0] 8) [(0, 1, .int .u64 4026531841), (1, 1, .int .u64 1138881939), (2, 1, .int .u64 2042196113), (3, 1, .int .u64 674490440), (4, 1, .int .u64 2172737629), (5, 1, .int .u64 3092268470), (6, 1, .int .u64 3778125865), (7, 1, .int .u64 811880050)] = some (cW pD) := rfl
  have hch : chunks 1 8 (cW pD) = eW pD := rfl
  simp -implicitDefEqProofs [C_avouchref02zP, hfill, hch]
theorem ok_RMod2 (L : Lim) (h : AHeap) (x : AVal) (a : List W64) (hx1 : LV x a) (ha : Dg a) (hl : a.length < 10000000) : acall ctx L i_avouchref02zMod [x] h = some (.vsl false (eW (dg (vD a % pN))), h) := by
  rw [call_avouchref02zMod]
  have hP := ok_RP
  have hM := fun L h => ok_RMod L h (.vsl false (eW a)) (.vsl false (eW pD)) a pD (LV.vsl _ _) (LV.vsl _ _) ha Dg_pD (by rw [vD_pD]; decide) ⟨hl, by decide⟩
  rw [vD_pD] at hM
  have hf1 := hx1.fz
  generalize eW pD = p at *
  simp -implicitDefEqProofs [C_avouchref02zMod, hf1, hP, hM]
/-- The bytes of a number below 2 to the power of 256. -/
theorem ok_RBytes2 (L : Lim) (h : AHeap) (x : AVal) (n : Nat) (hx1 : LV x (dg n)) (hn : n < rN) : acall ctx L i_avouchref02zBytes [x] h = some (.vsl false (eI .u8 (bytesL (w4 n))), h) := by
  rw [call_avouchref02zBytes]
  have hW : ∀ L h, acall ctx L i_avouchref01zWords [.vsl false (eW (dg n)), .int .i64 4] h = some (.vsl false (eW (tab 4 (wdO (dg n)))), h) := fun L h => ok_RWords L h (.vsl false (eW (dg n))) (dg n) (LV.vsl _ _) 4 (by decide)
  rw [wdO_dg 4 n hn, wN_four n hn] at hW
  have hB := fun L h => ok_RBytes L h (.vsl false (eW (w4 n))) (w4 n) (LV.vsl _ _) (by simp)
  have hf1 := hx1.fz
  generalize eW (w4 n) = e4 at *
  generalize bytesL (w4 n) = b4 at *
  simp -implicitDefEqProofs [C_avouchref02zBytes, hf1, hW, hB]
theorem pN_lt_rN : pN < rN := by decide
/-- An element, and the same number. -/
theorem ok_Is (L : Lim) (h : AHeap) (x : Nat) (v : AVal) (hv : LV v (dg (x % pN))) : acall ctx L i_avouchlaw02zIs [.agg (cW (fe x)), v] h = some (.bool true, h) := by
  rw [call_avouchlaw02zIs]
  have hB := fun L h => ok_Bytes L h x
  have hR := fun L h => ok_RBytes2 L h (.vsl false (eW (dg (x % pN)))) (x % pN) (LV.vsl _ _) (Nat.lt_trans (Nat.mod_lt _ pN_pos) pN_lt_rN)
  have hf1 := hv.fz
  have hfe : bytesL (w4 (x % pN)) = feB x := rfl
  rw [hfe] at hR
  have hl := feB_len x
  have l1 := fe_len x
  have hsl := slice_arr 32 1 h.blks.length 0 0 (by decide)
  have hb2 := fun ts => b2sK_sA h [cI .u8 (feB x)] ts 0 32 (some 32) (feB x) rfl hl
  generalize feB x = fb at *
  generalize fe x = fx at *
  generalize eW (dg (x % pN)) = ed at *
  have hrI := rep1_I .u8 0 32
  simp -implicitDefEqProofs [C_avouchlaw02zIs, limP, hf1, partAB, l1, hB, hR, hrI, stKB, setAtB, hl, hsl, hb2]
  exact (Go.MapKept.bytes_beq _ _).2 rfl
end Go.Av

namespace Go.Av
set_option maxHeartbeats 2000000
set_option maxRecDepth 20000
set_option linter.unusedSimpArgs false
set_option linter.unusedVariables false
/-- Three lists of bytes, as a law is handed them. -/
def tB (b : List (List Int)) : List AVal := b.map fun l => .vsl false (eI .u8 l)
theorem fzA_tB (h : AHeap) (x y z : List Int) : fzA h (.agg (tB [x, y, z])) = some (.agg (tB [x, y, z]), false) := by
  simp [fzA, flatL, AVal.flat, tB]
theorem ok_few (L : Lim) (h : AHeap) (x y z : List Int) : acall ctx L i_avouchlaw10zfew [.agg (tB [x, y, z])] h = some (.bool (decide (x.length ≤ 40) && (decide (y.length ≤ 40) && decide (z.length ≤ 40))), h) := by
  rw [call_avouchlaw10zfew]
  have hf := fun h => fzA_tB h x y z
  have i0 : iadrA (some 3) 1 (.vptr (tB [x, y, z]) 0) (.int .i64 0) = some (.vptr (tB [x, y, z]) 0) := rfl
  have i1 : iadrA (some 3) 1 (.vptr (tB [x, y, z]) 0) (.int .i64 1) = some (.vptr (tB [x, y, z]) 1) := rfl
  have i2 : iadrA (some 3) 1 (.vptr (tB [x, y, z]) 0) (.int .i64 2) = some (.vptr (tB [x, y, z]) 2) := rfl
  have p0 : partA false (tB [x, y, z]) 0 1 = some (.vsl false (eI .u8 x)) := rfl
  have p1 : partA false (tB [x, y, z]) 1 1 = some (.vsl false (eI .u8 y)) := rfl
  have p2 : partA false (tB [x, y, z]) 2 1 = some (.vsl false (eI .u8 z)) := rfl
  have e1 : decide ((x.length : Int) ≤ 40) = decide (x.length ≤ 40) := decide_eq_decide.2 (by omega)
  have e2 : decide ((y.length : Int) ≤ 40) = decide (y.length ≤ 40) := decide_eq_decide.2 (by omega)
  have e3 : decide ((z.length : Int) ≤ 40) = decide (z.length ≤ 40) := decide_eq_decide.2 (by omega)
  generalize tB [x, y, z] = t at *
  cases h1 : decide (x.length ≤ 40) with
  | false => 
    rw [h1] at e1
    simp -implicitDefEqProofs [C_avouchlaw10zfew, limP, hf, i0, i1, i2, p0, p1, p2, e1, -decide_eq_true_eq, -decide_eq_false_iff_not]
  | true =>
    rw [h1] at e1
    cases h2 : decide (y.length ≤ 40) with
    | false =>
      rw [h2] at e2
      simp -implicitDefEqProofs [C_avouchlaw10zfew, limP, hf, i0, i1, i2, p0, p1, p2, e1, e2, -decide_eq_true_eq, -decide_eq_false_iff_not]
    | true =>
      rw [h2] at e2
      cases h3 : decide (z.length ≤ 40) with
      | false => 
        rw [h3] at e3
        simp -implicitDefEqProofs [C_avouchlaw10zfew, limP, hf, i0, i1, i2, p0, p1, p2, e1, e2, e3, -decide_eq_true_eq, -decide_eq_false_iff_not]
      | true => 
        rw [h3] at e3
        simp -implicitDefEqProofs [C_avouchlaw10zfew, limP, hf, i0, i1, i2, p0, p1, p2, e1, e2, e3, -decide_eq_true_eq, -decide_eq_false_iff_not]
def dOf (b : List (List Int)) (i : Nat) : List AVal := [.vsl false (eW (dg (leN (gd b [] i) % pN)))]
theorem szOk_dOf (b : List (List Int)) (k : Nat) : szOk 1 (tab k (dOf b)) = true := by
  cases k with
  | zero => rfl
  | succ k => unfold tab; rw [List.range_succ_eq_map]; rfl
theorem under_dOf (b : List (List Int)) (nb nt k : Nat) : underLL nb nt (tab k (dOf b)) = true := by
  have : ∀ l : List Nat, underLL nb nt (l.map (dOf b)) = true := fun l => by
    induction l with
    | nil => rfl
    | cons x l ih => simp only [List.map_cons, underLL, ih, Bool.and_true, dOf, underL, AVal.under, eW_under]
  exact this _
theorem fill1N (x : AVal) (c : Bool) (es : List (List AVal)) (hx : x = .vsl c es) : fillA (rep [AVal.nsl] 1) [(0, 1, x)] = some [x] := by subst hx; rfl
theorem loop_POf {fr : Fr} {h : AHeap} {R : Option (AEx × Fr × AHeap)} (b : List (List Int)) (hbl : b.length = 3) (hb : ∀ i, i < 3 → inB (gd b [] i) ∧ (gd b [] i).length ≤ 1000) (z : List AVal)
    (hF : run ctx (limP h) (.loop Ba_avouchlaw10zOf) fr (hx h [z, cW (feL (mixT 3 (fun i => leN (gd b [] i)) (fun _ => 0) 0))] (gT (tab 0 (dOf b)))) = R)
    (h4 : fr 4 = pA h.blks.length 1 0) (h5 : fr 5 = gL (.vsl true []) h.toks.length 0 (tab 0 (dOf b))) (h9 : fr 9 = .agg (tB b)) (h10 : fr 10 = .int .i64 0) :
    ∃ fr', R = some (.exit 0, fr', hx h [z, cW (feL (tab 3 fun i => leN (gd b [] i)))] (gT (tab 3 (dOf b)))) ∧ fr' 5 = gL (.vsl true []) h.toks.length 0 (tab 3 (dOf b)) ∧ ∀ t, t ∉ wr Ba_avouchlaw10zOf → fr' t = fr t := by
  obtain ⟨e, fr', h', rfl, ⟨rfl, rfl, h5'⟩, hk⟩ := loop_rule hF 3
    (fun k fr hh => fr 10 = .int .i64 (k : Int) ∧ fr 5 = gL (.vsl true []) h.toks.length 0 (tab k (dOf b)) ∧ hh = hx h [z, cW (feL (mixT 3 (fun i => leN (gd b [] i)) (fun _ => 0) k))] (gT (tab k (dOf b))))
    (fun e fr hh => e = .exit 0 ∧ hh = hx h [z, cW (feL (tab 3 fun i => leN (gd b [] i)))] (gT (tab 3 (dOf b))) ∧ fr 5 = gL (.vsl true []) h.toks.length 0 (tab 3 (dOf b)))
    ⟨h10, h5, rfl⟩ (by
      rintro k fr1 hh hkN hkeep ⟨g10, g5, rfl⟩
      have g4 := (hkeep 4 (by decide)).trans h4
      have g9 := (hkeep 9 (by decide)).trans h9
      by_cases hlt : k < 3
      · have w1 : IntKind.i64.wrap ((k : Int) + 1) = k + 1 := wrap_i64 (by omega) (by omega)
        obtain ⟨hbk, hbl1⟩ := hb k hlt
        have hi := idx_agg 3 k false (tB b) 1 .i64 (by simpa using hlt)
        have hp : partA false (tB b) (k * 1) 1 = some (.vsl false (eI .u8 (gd b [] k))) := by
          rw [partA_one, Nat.mul_one]; unfold tB; rw [List.getElem?_map, gd_get? (d := []) (by omega)]; rfl
        rw [hp] at hi
        have hF1 := fun L h => ok_FromWide L h false (gd b [] k) hbk (by omega)
        have hO1 := fun L h => ok_ROfBytes L h false (gd b [] k) hbk (by omega)
        have hln : (dg (leN (gd b [] k))).length < 10000000 := by
          have := dg_len (n := leN (gd b [] k)) (k := (gd b [] k).length) (Nat.lt_of_lt_of_le (leN_lt hbk) (Nat.pow_le_pow_left (by decide) _))
          omega
        have hM1 := fun L h => ok_RMod2 L h (.vsl false (eW (dg (leN (gd b [] k))))) _ (LV.vsl _ _) (dg_dg _) hln
        rw [dg_val] at hM1
        have hia := iadr_pA 3 4 h.blks.length 1 0 k .i64 (by simpa using hlt)
        have hst := set_fe0 (mixT 3 (fun i => leN (gd b [] i)) (fun _ => 0) k) (leN (gd b [] k)) (0 + k * 4) k (by omega) (by simpa using hlt)
        rw [mixT_set 3 (fun i => leN (gd b [] i)) (fun _ => 0) k] at hst
        have hll : (cW (feL (mixT 3 (fun i => leN (gd b [] i)) (fun _ => 0) k))).length = 12 := by simp
        have hob : 0 + k * 4 + 4 ≤ 12 := by omega
        have hfill := fill1N (.vsl false (eW (dg (leN (gd b [] k) % pN)))) false _ rfl
        have hap := appK_cV (limP h) h [z, cW (feL (mixT 3 (fun i => leN (gd b [] i)) (fun _ => 0) (k + 1)))] 1 true (tab k (dOf b)) [dOf b k] (by rw [szOk_dOf]; simp [maxRoom, limP, dOf]; omega)
        have hsn : tab k (dOf b) ++ [dOf b k] = tab (k + 1) (dOf b) := tab_snoc _ _
        rw [hsn, show dOf b k = [.vsl false (eW (dg (leN (gd b [] k) % pN)))] from rfl] at hap
        have l1 := fe_len (leN (gd b [] k))
        have hrob : (limP h).rob ≤ h.blks.length := Nat.le_refl _
        generalize hm2 : cW (feL (mixT 3 (fun i => leN (gd b [] i)) (fun _ => 0) (k + 1))) = m2 at *
        generalize cW (feL (mixT 3 (fun i => leN (gd b [] i)) (fun _ => 0) k)) = m1 at *
        generalize fe (leN (gd b [] k)) = fx at *
        generalize eI .u8 (gd b [] k) = eb at *
        generalize eW (dg (leN (gd b [] k))) = e1 at *
        generalize eW (dg (leN (gd b [] k) % pN)) = e2 at *
        generalize hg2 : gL (.vsl true []) h.toks.length 0 (tab (k + 1) (dOf b)) = g2 at *
        generalize ht2 : gT (tab (k + 1) (dOf b)) = t2 at *
        generalize gL (.vsl true []) h.toks.length 0 (tab k (dOf b)) = g1 at *
        generalize gT (tab k (dOf b)) = t1 at *
        generalize 0 + k * 4 = o at *
        simp -implicitDefEqProofs [Ba_avouchlaw10zOf, g4, g5, g9, g10, show (k : Int) < 3 by omega, w1, hi, hF1, hO1, hM1, hia, stKB, l1, hst, hll, hob, storeA_fl, hrob, hfill, chunk1, hap]
        exact ⟨hlt, hg2.symm, by rw [hm2, ht2]⟩
      · have : k = 3 := by omega
        subst this
        rw [mixT_all]
        generalize gL (.vsl true []) h.toks.length 0 (tab 3 (dOf b)) = g1 at *
        simp [Ba_avouchlaw10zOf, g10, g5])
  exact ⟨fr', rfl, h5', hk⟩
/-- The element's vector, and the digits. -/
theorem ok_POf (L : Lim) (h : AHeap) (x y z : List Int) (hx1 : inB x ∧ x.length ≤ 1000) (hy1 : inB y ∧ y.length ≤ 1000) (hz1 : inB z ∧ z.length ≤ 1000) :
    acall ctx L i_avouchlaw10zOf [.agg (tB [x, y, z])] h = some (.tup [.agg (cW (feL [leN x, leN y, leN z])), .vsl false (tab 3 (dOf [x, y, z]))], h) := by
  rw [call_avouchlaw10zOf]
  have hlo := fun fr R z0 => loop_POf (fr := fr) (h := h) (R := R) [x, y, z] rfl (fun i hi => by
    have : i = 0 ∨ i = 1 ∨ i = 2 := by omega
    rcases this with rfl | rfl | rfl <;> assumption) z0
  have ht : (tab 3 fun i => leN (gd [x, y, z] [] i)) = [leN x, leN y, leN z] := rfl
  rw [ht, mixT_zero] at hlo
  have hf := fzA_tB h x y z
  have hz0 : rep1 (AVal.int .u64 0) 12 = cW (feL (tab 3 fun _ => 0)) := by rw [rep1_W]; exact congrArg cW (zeros_feL 3)
  have l1 : (cW (feL [leN x, leN y, leN z])).length = 12 := by simp
  have hch : fillA (rep [AVal.nsl] 0) [] = some [] := rfl
  have hch0 : chunks 1 0 [] = [] := rfl
  have hbox : boxK (.agg (tB [x, y, z])) = some (.vptr (tB [x, y, z]) 0) := rfl
  have hpt : partA true (tB [x, y, z]) 0 3 = some (.agg (tB [x, y, z])) := rfl
  have hg0 : gL (.vsl true []) h.toks.length 0 (tab 0 (dOf [x, y, z])) = .vsl true [] := rfl
  have ht0 : gT (tab 0 (dOf [x, y, z])) = [] := rfl
  have hgt : ∀ n, gL (.vsl true []) n 0 (tab 3 (dOf [x, y, z])) = gA n 0 (tab 3 (dOf [x, y, z])) := fun n => rfl
  have hund := under_dOf [x, y, z] h.blks.length h.toks.length 3
  rw [hgt] at hlo
  generalize tab 3 (dOf [x, y, z]) = es at *
  generalize gT es = tt at *
  generalize hfl : feL [leN x, leN y, leN z] = fl at *
  generalize tB [x, y, z] = t at *
  have hlz : (cW (feL (tab 3 fun _ => 0))).length = 12 := by simp
  generalize cW (feL (tab 3 fun _ => 0)) = m0 at *
  have hrob : (limP h).rob ≤ h.blks.length := Nat.le_refl _
  simp -implicitDefEqProofs [C_avouchlaw10zOf, hf, hz0, hbox, hpt, hch, hch0]
  generalize hF : run ctx _ (.loop _) _ _ = R
  obtain ⟨fr1, rfl, h5, hk1⟩ := hlo _ _ _ hF (by simp) (by simp [hg0]) (by simp) (by simp)
  have hfzg := fun hh n => frz_gAB hh h.blks.length h.toks.length n 0 es hund
  simp -implicitDefEqProofs [hk1, wr, Ba_avouchlaw10zOf, dsts, h5, partAB, l1, stKB, setAtB, hlz, storeA_fl, hrob, hfzg]
end Go.Av

namespace Go.Av
set_option maxHeartbeats 2000000
set_option maxRecDepth 20000
set_option linter.unusedSimpArgs false
set_option linter.unusedVariables false
/-! #### rows -/
def rwF (n i : Nat) : W64 := BitVec.ofNat 64 (n / dB ^ i % dB)
def rw9 (n : Nat) : List W64 := tab 9 (rwF n)
@[simp] theorem rw9_len (n : Nat) : (rw9 n).length = 9 := by simp [rw9]
theorem rwF_nat (n i : Nat) : (rwF n i).toNat = n / dB ^ i % dB := by
  unfold rwF
  rw [BitVec.toNat_ofNat, Nat.mod_eq_of_lt]
  exact Nat.lt_trans (Nat.mod_lt _ (by decide)) (by decide)
theorem rwF_lt (n i : Nat) : (rwF n i).toNat < dB := by rw [rwF_nat]; exact Nat.mod_lt _ (by decide)
theorem rw9_dg (n : Nat) : Dg (rw9 n) := Dg.tab fun i _ => rwF_lt n i
theorem sD_rwF (n : Nat) : ∀ k, sD (rwF n) k = n % dB ^ k
  | 0 => by simp [sD, Nat.mod_one]
  | k + 1 => by
    rw [sD, sD_rwF n k, rwF_nat, Nat.pow_succ, Nat.mod_mul, Nat.mul_comm (dB ^ k)]
theorem rw9_val {n : Nat} (h : n < dB ^ 9) : vD (rw9 n) = n := by
  unfold rw9; rw [vD_tab, sD_rwF, Nat.mod_eq_of_lt h]
theorem rw9_of {l : List W64} (hl : l.length = 9) (h : Dg l) : l = rw9 (vD l) := by
  rw [tab_gd' 0#64 hl]
  unfold rw9
  refine tab_congr fun i hi => BitVec.eq_of_toNat_eq ?_
  rw [rwF_nat, ← tab_gd' 0#64 hl, ← vD_at h]
theorem rw9_zero : (tab 9 fun _ => (0#64 : W64)) = rw9 0 := tab_congr fun i _ => by unfold rwF; simp
/-- 256 times a row, and so many times another one. -/
def mS (a b t c : W64) : W64 := a * 256#64 + b * t + c
def mC (a b : Nat → W64) (t : W64) : Nat → W64
  | 0 => 0#64
  | k + 1 => qtW (mS (a k) (b k) t (mC a b t k)) 4294967296
def mD (a b : Nat → W64) (t : W64) (k : Nat) : W64 := rmW (mS (a k) (b k) t (mC a b t k)) 4294967296
theorem mS_nat {a b t c : W64} (ha : a.toNat < dB) (hb : b.toNat < dB) (ht : t.toNat < 256) (hc : c.toNat < 512) : (mS a b t c).toNat = a.toNat * 256 + b.toNat * t.toNat + c.toNat ∧ (mS a b t c).toNat < 512 * dB := by
  have h1 : b.toNat * t.toNat ≤ 4294967295 * 255 := Nat.mul_le_mul (by rw [show dB = 4294967296 from rfl] at hb; omega) (by omega)
  rw [show dB = 4294967296 from rfl] at *
  unfold mS
  rw [BitVec.toNat_add, BitVec.toNat_add, BitVec.toNat_mul, BitVec.toNat_mul]
  generalize b.toNat * t.toNat = z at *
  simp only [BitVec.toNat_ofNat]
  omega
theorem mC_lt {a b : Nat → W64} (ha : ∀ i, (a i).toNat < dB) (hb : ∀ i, (b i).toNat < dB) {t : W64} (ht : t.toNat < 256) : ∀ k, (mC a b t k).toNat < 512
  | 0 => by simp [mC]
  | k + 1 => by
    have := mS_nat (ha k) (hb k) ht (mC_lt ha hb ht k)
    rw [mC, qtW_nat]
    rw [show dB = 4294967296 from rfl] at this
    omega
theorem mD_lt (a b : Nat → W64) (t : W64) (k : Nat) : (mD a b t k).toNat < dB := by
  unfold mD; rw [rmW_nat]; exact Nat.mod_lt _ (by decide)
theorem mD_sum {a b : Nat → W64} (ha : ∀ i, (a i).toNat < dB) (hb : ∀ i, (b i).toNat < dB) {t : W64} (ht : t.toNat < 256) : ∀ k, sD (mD a b t) k + (mC a b t k).toNat * dB ^ k = sD a k * 256 + sD b k * t.toNat
  | 0 => by simp [sD, mC]
  | k + 1 => by
    have ih := mD_sum ha hb ht k
    have e := (mS_nat (ha k) (hb k) ht (mC_lt ha hb ht k)).1
    have hm : (mD a b t k).toNat + dB * (mC a b t (k + 1)).toNat = (a k).toNat * 256 + (b k).toNat * t.toNat + (mC a b t k).toNat := by
      rw [← e]; unfold mD; rw [mC, rmW_nat, qtW_nat]; exact Nat.mod_add_div _ _
    rw [sD, sD, sD, Nat.pow_succ, ← Nat.mul_assoc, Nat.mul_right_comm]
    have := congrArg (· * dB ^ k) hm
    simp only [Nat.add_mul] at this
    rw [Nat.mul_comm dB] at this
    have e1 := Nat.mul_right_comm (a k).toNat 256 (dB ^ k)
    have e2 := Nat.mul_right_comm (b k).toNat t.toNat (dB ^ k)
    rw [Nat.add_mul, Nat.add_mul]
    omega
theorem mD_row (x y : Nat) (t : W64) (ht : t.toNat < 256) (h : x * 256 + y * t.toNat < dB ^ 9) (hx : x < dB ^ 9) (hy : y < dB ^ 9) : tab 9 (mD (gd (rw9 x) 0#64) (gd (rw9 y) 0#64) t) = rw9 (x * 256 + y * t.toNat) := by
  have e := mD_sum (rw9_dg x) (rw9_dg y) ht 9
  rw [← vD_sD _ 9 (by simp), ← vD_sD _ 9 (by simp), rw9_val hx, rw9_val hy] at e
  have hlt := sD_lt (f := mD (gd (rw9 x) 0#64) (gd (rw9 y) 0#64) t) (n := 9) fun i _ => mD_lt _ _ _ i
  have hc : (mC (gd (rw9 x) 0#64) (gd (rw9 y) 0#64) t 9).toNat = 0 := by
    rcases Nat.eq_zero_or_pos (mC (gd (rw9 x) 0#64) (gd (rw9 y) 0#64) t 9).toNat with h0 | h0
    · exact h0
    · have := Nat.le_mul_of_pos_left (dB ^ 9) h0
      omega
  rw [hc, Nat.zero_mul, Nat.add_zero] at e
  rw [rw9_of (l := tab 9 (mD (gd (rw9 x) 0#64) (gd (rw9 y) 0#64) t)) (by simp) (Dg.tab fun i _ => mD_lt _ _ _ i), vD_tab, e]
theorem loop_more {fr : Fr} {h : AHeap} {R : Option (AEx × Fr × AHeap)} (a b : List W64) (ha : a.length = 9) (hb : b.length = 9) (t : W64) (z : List AVal)
    (hF : run ctx (limP h) (.loop Ba_avouchref02zmore) fr (hx h [cW (mixT 9 (mD (gd a 0#64) (gd b 0#64) t) (gd a 0#64) 0), z] []) = R)
    (h3 : fr 3 = pA h.blks.length 0 0) (h4 : fr 4 = .vptr (cW b) 0) (h2 : fr 2 = wd t) (h7 : fr 7 = wd 0#64) (h8 : fr 8 = .int .i64 0) :
    ∃ fr', R = some (.exit 0, fr', hx h [cW (tab 9 (mD (gd a 0#64) (gd b 0#64) t)), z] []) ∧ ∀ t, t ∉ wr Ba_avouchref02zmore → fr' t = fr t := by
  generalize hfd : mD (gd a 0#64) (gd b 0#64) t = f at *
  obtain ⟨e, fr', h', rfl, ⟨rfl, rfl⟩, hk⟩ := loop_rule hF 9
    (fun k fr hh => fr 8 = .int .i64 (k : Int) ∧ fr 7 = wd (mC (gd a 0#64) (gd b 0#64) t k) ∧ hh = hx h [cW (mixT 9 f (gd a 0#64) k), z] [])
    (fun e fr hh => e = .exit 0 ∧ hh = hx h [cW (tab 9 f), z] [])
    ⟨h8, h7, rfl⟩ (by
      rintro k fr1 hh hkN hkeep ⟨g8, g7, rfl⟩
      have g2 := (hkeep 2 (by decide)).trans h2
      have g3 := (hkeep 3 (by decide)).trans h3
      have g4 := (hkeep 4 (by decide)).trans h4
      by_cases hlt : k < 9
      · have w1 : IntKind.i64.wrap ((k : Int) + 1) = k + 1 := wrap_i64 (by omega) (by omega)
        have i1 := iadr_pA 9 1 h.blks.length 0 0 k .i64 (by simpa using hlt)
        have i2 := iadr_vp 9 1 0 k (cW b) .i64 (by simpa using hlt)
        rw [Nat.zero_add, Nat.mul_one] at i1 i2
        have p1 := cW_at (l := mixT 9 f (gd a 0#64) k) (i := k) (by simpa using hlt)
        rw [gd_mixT hlt] at p1
        have p2 := cW_at (l := b) (i := k) (by omega)
        have hS : wd (gd a 0#64 k * 256#64 + gd b 0#64 k * t + mC (gd a 0#64) (gd b 0#64) t k) = wd (mS (gd a 0#64 k) (gd b 0#64 k) t (mC (gd a 0#64) (gd b 0#64) t k)) := rfl
        have hD : rmW (mS (gd a 0#64 k) (gd b 0#64 k) t (mC (gd a 0#64) (gd b 0#64) t k)) 4294967296 = f k := by rw [← hfd]; rfl
        have hC : qtW (mS (gd a 0#64 k) (gd b 0#64 k) t (mC (gd a 0#64) (gd b 0#64) t k)) 4294967296 = mC (gd a 0#64) (gd b 0#64) t (k + 1) := rfl
        have hset := cW_set (mixT 9 f (gd a 0#64) k) k (f k)
        rw [mixT_set] at hset
        have hlen : (cW (mixT 9 f (gd a 0#64) k)).length = 9 := by simp
        have hrob : (limP h).rob ≤ h.blks.length := Nat.le_refl _
        generalize hc2 : mC (gd a 0#64) (gd b 0#64) t (k + 1) = c2 at *
        generalize mS (gd a 0#64 k) (gd b 0#64 k) t (mC (gd a 0#64) (gd b 0#64) t k) = s at *
        generalize mC (gd a 0#64) (gd b 0#64) t k = c1 at *
        generalize hm2 : cW (mixT 9 f (gd a 0#64) (k + 1)) = m2 at *
        generalize cW (mixT 9 f (gd a 0#64) k) = m1 at *
        generalize cW b = cb at *
        simp -implicitDefEqProofs [Ba_avouchref02zmore, g2, g3, g4, g7, g8, show (k : Int) < 9 by omega, w1, i1, i2, p1, p2, partA_one, mul256, hS, wd_rem32, wd_quo32, hD, hC, storeA_fl, hrob, hlen, show k + 1 ≤ 9 by omega, hset]
        exact ⟨hlt, by rw [hc2], by rw [hm2]⟩
      · have : k = 9 := by omega
        subst this
        rw [mixT_all]
        generalize cW (tab 9 f) = m1 at *
        simp [Ba_avouchref02zmore, g8])
  exact ⟨fr', rfl, hk⟩
theorem ok_more (L : Lim) (h : AHeap) (x y : Nat) (t : W64) (ht : t.toNat < 256) (hlt : x * 256 + y * t.toNat < dB ^ 9) (hx1 : x < dB ^ 9) (hy1 : y < dB ^ 9) :
    acall ctx L i_avouchref02zmore [.agg (cW (rw9 x)), .agg (cW (rw9 y)), wd t] h = some (.agg (cW (rw9 (x * 256 + y * t.toNat))), h) := by
  rw [call_avouchref02zmore]
  have hlo := fun fr R z => loop_more (fr := fr) (h := h) (R := R) (rw9 x) (rw9 y) (by simp) (by simp) t z
  rw [mixT_zero, ← tab_gd' 0#64 (rw9_len x), mD_row x y t ht hlt hx1 hy1] at hlo
  have l1 : (rw9 x).length = 9 := rw9_len x
  have l3 : (rw9 (x * 256 + y * t.toNat)).length = 9 := rw9_len _
  have hokv : (AVal.agg (cW (rw9 x))).okV = true := okV_agg _
  have hcel : (AVal.agg (cW (rw9 x))).cells = cW (rw9 x) := by simp only [AVal.cells]
  have hz : AVal.int .u64 0 = wd 0#64 := rfl
  generalize rw9 (x * 256 + y * t.toNat) = r3 at *
  generalize rw9 x = r1 at *
  generalize rw9 y = r2 at *
  have hr0 := rep1_W 9
  simp -implicitDefEqProofs [C_avouchref02zmore, copA_box, hokv, hcel, hr0]
  generalize hF : run ctx _ (.loop _) _ _ = R
  obtain ⟨fr1, rfl, hk1⟩ := hlo _ _ _ hF (by simp) (by simp) (by simp) (by simp [hz]) (by simp)
  simp -implicitDefEqProofs [hk1, wr, Ba_avouchref02zmore, dsts, partAB, l3, stKB, setAtB, limP]
end Go.Av

namespace Go.Av
set_option maxHeartbeats 2000000
set_option maxRecDepth 20000
set_option linter.unusedSimpArgs false
set_option linter.unusedVariables false
theorem loop_minus {fr : Fr} {h : AHeap} {R : Option (AEx × Fr × AHeap)} (a b : List W64) (ha : a.length = 9) (hb : b.length = 9) (z : List AVal)
    (hF : run ctx (limP h) (.loop Ba_avouchref02zminus) fr (hx h [cW (mixT 9 (sDig (gd a 0#64) (gd b 0#64)) (gd a 0#64) 0), z] []) = R)
    (h2 : fr 2 = pA h.blks.length 0 0) (h3 : fr 3 = .vptr (cW b) 0) (h5 : fr 5 = wd 0#64) (h6 : fr 6 = .int .i64 0) :
    ∃ fr', R = some (.exit 0, fr', hx h [cW (tab 9 (sDig (gd a 0#64) (gd b 0#64))), z] []) ∧ ∀ t, t ∉ wr Ba_avouchref02zminus → fr' t = fr t := by
  generalize hfd : sDig (gd a 0#64) (gd b 0#64) = f at *
  obtain ⟨e, fr', h', rfl, ⟨rfl, rfl⟩, hk⟩ := loop_rule hF 9
    (fun k fr hh => fr 6 = .int .i64 (k : Int) ∧ fr 5 = wd (sBor (gd a 0#64) (gd b 0#64) k) ∧ hh = hx h [cW (mixT 9 f (gd a 0#64) k), z] [])
    (fun e fr hh => e = .exit 0 ∧ hh = hx h [cW (tab 9 f), z] [])
    ⟨h6, h5, rfl⟩ (by
      rintro k fr1 hh hkN hkeep ⟨g6, g5, rfl⟩
      have g2 := (hkeep 2 (by decide)).trans h2
      have g3 := (hkeep 3 (by decide)).trans h3
      by_cases hlt : k < 9
      · have w1 : IntKind.i64.wrap ((k : Int) + 1) = k + 1 := wrap_i64 (by omega) (by omega)
        have i1 := iadr_pA 9 1 h.blks.length 0 0 k .i64 (by simpa using hlt)
        have i2 := iadr_vp 9 1 0 k (cW b) .i64 (by simpa using hlt)
        rw [Nat.zero_add, Nat.mul_one] at i1 i2
        have p1 := cW_at (l := mixT 9 f (gd a 0#64) k) (i := k) (by simpa using hlt)
        rw [gd_mixT hlt] at p1
        have p2 := cW_at (l := b) (i := k) (by omega)
        have hS : wd (4294967296#64 + gd a 0#64 k - gd b 0#64 k - sBor (gd a 0#64) (gd b 0#64) k) = wd (sSum (gd a 0#64) (gd b 0#64) k (sBor (gd a 0#64) (gd b 0#64) k)) := rfl
        have hD : rmW (sSum (gd a 0#64) (gd b 0#64) k (sBor (gd a 0#64) (gd b 0#64) k)) 4294967296 = f k := by rw [← hfd]; rfl
        have hC : 1#64 - qtW (sSum (gd a 0#64) (gd b 0#64) k (sBor (gd a 0#64) (gd b 0#64) k)) 4294967296 = sBor (gd a 0#64) (gd b 0#64) (k + 1) := rfl
        have hset := cW_set (mixT 9 f (gd a 0#64) k) k (f k)
        rw [mixT_set] at hset
        have hlen : (cW (mixT 9 f (gd a 0#64) k)).length = 9 := by simp
        have hrob : (limP h).rob ≤ h.blks.length := Nat.le_refl _
        generalize hc2 : sBor (gd a 0#64) (gd b 0#64) (k + 1) = c2 at *
        generalize sSum (gd a 0#64) (gd b 0#64) k (sBor (gd a 0#64) (gd b 0#64) k) = s at *
        generalize sBor (gd a 0#64) (gd b 0#64) k = c1 at *
        generalize hm2 : cW (mixT 9 f (gd a 0#64) (k + 1)) = m2 at *
        generalize cW (mixT 9 f (gd a 0#64) k) = m1 at *
        generalize cW b = cb at *
        simp -implicitDefEqProofs [Ba_avouchref02zminus, g2, g3, g5, g6, show (k : Int) < 9 by omega, w1, i1, i2, p1, p2, partA_one, add32, one_sub, hS, wd_rem32, wd_quo32, hD, hC, storeA_fl, hrob, hlen, show k + 1 ≤ 9 by omega, hset]
        exact ⟨hlt, by rw [hc2], by rw [hm2]⟩
      · have : k = 9 := by omega
        subst this
        rw [mixT_all]
        generalize cW (tab 9 f) = m1 at *
        simp [Ba_avouchref02zminus, g6])
  exact ⟨fr', rfl, hk⟩
theorem sDig_row (x y : Nat) (hy : y ≤ x) (hx : x < dB ^ 9) : tab 9 (sDig (gd (rw9 x) 0#64) (gd (rw9 y) 0#64)) = rw9 (x - y) := by
  have e := sDig_sum (rw9_dg x) (rw9_dg y) 9
  rw [← vD_sD _ 9 (by simp), ← vD_sD _ 9 (by simp), rw9_val hx, rw9_val (Nat.lt_of_le_of_lt hy hx)] at e
  have hlt := sD_lt (f := sDig (gd (rw9 x) 0#64) (gd (rw9 y) 0#64)) (n := 9) fun i _ => sDig_lt _ _ i
  have e0 := sBor_le (rw9_dg x) (rw9_dg y) 9
  have e2 : sD (sDig (gd (rw9 x) 0#64) (gd (rw9 y) 0#64)) 9 = x - y := by
    rcases Nat.le_one_iff_eq_zero_or_eq_one.1 e0 with e2 | e2
    · rw [e2] at e; omega
    · rw [e2] at e; omega
  rw [rw9_of (l := tab 9 (sDig (gd (rw9 x) 0#64) (gd (rw9 y) 0#64))) (by simp) (Dg.tab fun i _ => sDig_lt _ _ i), vD_tab, e2]
theorem ok_minus (L : Lim) (h : AHeap) (x y : Nat) (hy : y ≤ x) (hx1 : x < dB ^ 9) :
    acall ctx L i_avouchref02zminus [.agg (cW (rw9 x)), .agg (cW (rw9 y))] h = some (.agg (cW (rw9 (x - y))), h) := by
  rw [call_avouchref02zminus]
  have hlo := fun fr R z => loop_minus (fr := fr) (h := h) (R := R) (rw9 x) (rw9 y) (by simp) (by simp) z
  rw [mixT_zero, ← tab_gd' 0#64 (rw9_len x), sDig_row x y hy hx1] at hlo
  have l1 : (rw9 x).length = 9 := rw9_len x
  have l3 : (rw9 (x - y)).length = 9 := rw9_len _
  have hokv : (AVal.agg (cW (rw9 x))).okV = true := okV_agg _
  have hcel : (AVal.agg (cW (rw9 x))).cells = cW (rw9 x) := by simp only [AVal.cells]
  have hz : AVal.int .u64 0 = wd 0#64 := rfl
  generalize rw9 (x - y) = r3 at *
  generalize rw9 x = r1 at *
  generalize rw9 y = r2 at *
  have hr0 := rep1_W 9
  simp -implicitDefEqProofs [C_avouchref02zminus, copA_box, hokv, hcel, hr0]
  generalize hF : run ctx _ (.loop _) _ _ = R
  obtain ⟨fr1, rfl, hk1⟩ := hlo _ _ _ hF (by simp) (by simp) (by simp [hz]) (by simp)
  simp -implicitDefEqProofs [hk1, wr, Ba_avouchref02zminus, dsts, partAB, l3, stKB, setAtB, limP]
/-! #### compared -/
theorem loop_reaches {fr : Fr} {h : AHeap} {R : Option (AEx × Fr × AHeap)} (a b : List W64) (la : a.length = 9) (lb : b.length = 9) (ha : Dg a) (hb : Dg b)
    (hF : run ctx (limP h) (.loop Ba_avouchref02zreaches) fr (hx h [] []) = R)
    (h2 : fr 2 = .vptr (cW a) 0) (h3 : fr 3 = .vptr (cW b) 0) (h5 : fr 5 = .int .i64 8) :
    ∃ e fr', R = some (e, fr', hx h [] []) ∧ (e = .exit 0 ∧ (∀ j, j < 9 → gd a 0#64 j = gd b 0#64 j) ∨ e = .ret ∧ fr' 4 = .bool (decide (sD (gd b 0#64) 9 ≤ sD (gd a 0#64) 9))) := by
  obtain ⟨e, fr', h', rfl, ⟨rfl, hor⟩, hk⟩ := loop_rule hF 9
    (fun k fr hh => ∃ m, m + k = 9 ∧ fr 5 = .int .i64 ((m : Int) - 1) ∧ (∀ j, m ≤ j → j < 9 → gd a 0#64 j = gd b 0#64 j) ∧ hh = hx h [] [])
    (fun e fr hh => hh = hx h [] [] ∧ (e = .exit 0 ∧ (∀ j, j < 9 → gd a 0#64 j = gd b 0#64 j) ∨ e = .ret ∧ fr 4 = .bool (decide (sD (gd b 0#64) 9 ≤ sD (gd a 0#64) 9))))
    ⟨9, rfl, h5, fun j h1 h2 => by omega, rfl⟩ (by
      rintro k fr1 hh hkN hkeep ⟨m, hm, g5, he, rfl⟩
      have g2 := (hkeep 2 (by decide)).trans h2
      have g3 := (hkeep 3 (by decide)).trans h3
      cases m with
      | succ i =>
        rw [show (((i + 1 : Nat) : Int) - 1) = (i : Int) by omega] at g5
        have w1 : IntKind.i64.wrap ((i : Int) - 1) = (i : Int) - 1 := wrap_i64 (by omega) (by omega)
        have i1 := iadr_vp 9 1 0 i (cW a) .i64 (by simp; omega)
        have i2 := iadr_vp 9 1 0 i (cW b) .i64 (by simp; omega)
        rw [Nat.zero_add, Nat.mul_one] at i1 i2
        have p1 := cW_at (l := a) (i := i) (by omega)
        have p2 := cW_at (l := b) (i := i) (by omega)
        have hnn : (i : Int) ≥ 0 := by omega
        have c1 : (gd a 0#64 i).toNat < (gd b 0#64 i).toNat → sD (gd a 0#64) 9 < sD (gd b 0#64) 9 := fun hl => sD_cmp ha 9 i (by omega) (fun j h1 h2 => he j (by omega) h2) hl
        have c2 : (gd b 0#64 i).toNat < (gd a 0#64 i).toNat → sD (gd b 0#64) 9 < sD (gd a 0#64) 9 := fun hl => sD_cmp hb 9 i (by omega) (fun j h1 h2 => (he j (by omega) h2).symm) hl
        have hgt := wd_gt (gd a 0#64 i) (gd b 0#64 i)
        have hne : binA .neq (wd (gd a 0#64 i)) (wd (gd b 0#64 i)) = some (.bool (decide (gd a 0#64 i ≠ gd b 0#64 i))) := by
          show some (AVal.bool (((gd a 0#64 i).toNat : Int) != ((gd b 0#64 i).toNat : Int))) = _
          congr 2
          by_cases e : gd a 0#64 i = gd b 0#64 i
          · rw [e]; simp
          · have : (gd a 0#64 i).toNat ≠ (gd b 0#64 i).toNat := fun q => e (BitVec.eq_of_toNat_eq q)
            simp [e]; omega
        by_cases hab : gd a 0#64 i = gd b 0#64 i
        · rw [decide_eq_false (fun q => q hab)] at hne
          generalize cW a = ca at *
          generalize cW b = cb at *
          simp -implicitDefEqProofs [Ba_avouchref02zreaches, limP, g2, g3, g5, w1, i1, i2, p1, p2, partA_one, hne, -bin_neq]
          refine ⟨by omega, i, by omega, rfl, fun j h1 h2 => ?_⟩
          by_cases e : j = i
          · subst e; exact hab
          · exact he j (by omega) h2
        · rw [decide_eq_true hab] at hne
          have hr : decide ((gd b 0#64 i).toNat < (gd a 0#64 i).toNat) = decide (sD (gd b 0#64) 9 ≤ sD (gd a 0#64) 9) := by
            have hn : (gd a 0#64 i).toNat ≠ (gd b 0#64 i).toNat := fun q => hab (BitVec.eq_of_toNat_eq q)
            refine decide_eq_decide.2 ⟨fun q => Nat.le_of_lt (c2 q), fun q => ?_⟩
            rcases Nat.lt_or_gt_of_ne hn with h | h
            · have := c1 h; omega
            · exact h
          rw [hr] at hgt
          generalize decide (sD (gd b 0#64) 9 ≤ sD (gd a 0#64) 9) = r at *
          generalize cW a = ca at *
          generalize cW b = cb at *
          simp -implicitDefEqProofs [Ba_avouchref02zreaches, limP, g2, g3, g5, w1, i1, i2, p1, p2, partA_one, hne, hgt, -bin_neq, -bin_gtr]
      | zero =>
        simp [Ba_avouchref02zreaches, g5]
        exact fun j hj => he j (by omega) hj)
  exact ⟨e, fr', rfl, hor⟩
theorem ok_reaches (L : Lim) (h : AHeap) (x y : Nat) (hx1 : x < dB ^ 9) (hy1 : y < dB ^ 9) :
    acall ctx L i_avouchref02zreaches [.agg (cW (rw9 x)), .agg (cW (rw9 y))] h = some (.bool (decide (y ≤ x)), h) := by
  rw [call_avouchref02zreaches]
  have hlo := fun fr R => loop_reaches (fr := fr) (h := h) (R := R) (rw9 x) (rw9 y) (by simp) (by simp) (rw9_dg x) (rw9_dg y)
  rw [← vD_sD _ 9 (by simp), ← vD_sD _ 9 (by simp), rw9_val hx1, rw9_val hy1] at hlo
  have hsame : (∀ j, j < 9 → gd (rw9 x) 0#64 j = gd (rw9 y) 0#64 j) → decide (y ≤ x) = true := fun hh => by
    have : vD (rw9 x) = vD (rw9 y) := by rw [vD_sD _ 9 (by simp), vD_sD _ 9 (by simp), sD_congr hh]
    rw [rw9_val hx1, rw9_val hy1] at this
    simp [this]
  generalize decide (y ≤ x) = r at *
  generalize rw9 x = r1 at *
  generalize rw9 y = r2 at *
  simp -implicitDefEqProofs [C_avouchref02zreaches, limP]
  generalize hF : run ctx _ (.loop _) _ _ = R
  obtain ⟨e, fr1, rfl, ⟨rfl, hs⟩ | ⟨rfl, h4⟩⟩ := hlo _ _ hF (by simp) (by simp) (by simp)
  · have := hsame hs
    subst this
    simp -implicitDefEqProofs
  · simp -implicitDefEqProofs [h4]
/-! #### of digits -/
theorem loop_rowOf {fr : Fr} {h : AHeap} {R : Option (AEx × Fr × AHeap)} (l : List W64) (hl : l.length ≤ 9) (z : List AVal)
    (hF : run ctx (limP h) (.loop Ba_avouchref02zrowOf) fr (hx h [z, cW (mixT 9 (gd l 0#64) (fun _ => 0#64) 0)] []) = R)
    (h0 : fr 0 = .vsl false (eW l)) (h3 : fr 3 = pA h.blks.length 1 0) (h4 : fr 4 = .int .i64 0) :
    ∃ fr', R = some (.exit 0, fr', hx h [z, cW (tab 9 (gd l 0#64))] []) ∧ ∀ t, t ∉ wr Ba_avouchref02zrowOf → fr' t = fr t := by
  have hend : mixT 9 (gd l 0#64) (fun _ => 0#64) l.length = tab 9 (gd l 0#64) := tab_congr fun i hi => by
    by_cases e : i < l.length
    · simp [e]
    · simp [e, gd_out (l := l) (i := i) (by omega)]
  obtain ⟨r1, p, r2, r3⟩ := RdW.vsl h false l
  obtain ⟨e, fr', h', rfl, ⟨rfl, rfl⟩, hk⟩ := loop_rule hF l.length
    (fun k fr hh => fr 4 = .int .i64 (k : Int) ∧ hh = hx h [z, cW (mixT 9 (gd l 0#64) (fun _ => 0#64) k)] [])
    (fun e fr hh => e = .exit 0 ∧ hh = hx h [z, cW (tab 9 (gd l 0#64))] [])
    ⟨h4, rfl⟩ (by
      rintro k fr1 hh hkN hkeep ⟨g4, rfl⟩
      have g0 := (hkeep 0 (by decide)).trans h0
      have g3 := (hkeep 3 (by decide)).trans h3
      by_cases hlt : k < l.length
      · have w1 : IntKind.i64.wrap ((k : Int) + 1) = k + 1 := wrap_i64 (by omega) (by omega)
        have i1 := iadr_pA 9 1 h.blks.length 1 0 k .i64 (by simp; omega)
        rw [Nat.zero_add, Nat.mul_one] at i1
        have hro := r2 k hlt
        have hrd := fun bs ts => r3 k bs ts hlt
        have hset := cW_set (mixT 9 (gd l 0#64) (fun _ => 0#64) k) k (gd l 0#64 k)
        rw [mixT_set] at hset
        have hlen : (cW (mixT 9 (gd l 0#64) (fun _ => 0#64) k)).length = 9 := by simp
        have hrob : (limP h).rob ≤ h.blks.length := Nat.le_refl _
        have e1 : (k : Int) < l.length := by omega
        have e2 : (k : Int) < 9 := by omega
        generalize hm2 : cW (mixT 9 (gd l 0#64) (fun _ => 0#64) (k + 1)) = m2 at *
        generalize cW (mixT 9 (gd l 0#64) (fun _ => 0#64) k) = m1 at *
        simp -implicitDefEqProofs [Ba_avouchref02zrowOf, g0, g3, g4, e1, e2, w1, i1, hro, hrd, storeA_fl, hrob, hlen, show k + 1 ≤ 9 by omega, hset]
        exact ⟨hlt, by rw [hm2]⟩
      · have : k = l.length := by omega
        subst this
        rw [hend]
        generalize cW (tab 9 (gd l 0#64)) = m1 at *
        simp [Ba_avouchref02zrowOf, g4, g0])
  exact ⟨fr', rfl, hk⟩
theorem row_of (n : Nat) (h : n < dB ^ 9) : tab 9 (gd (dg n) 0#64) = rw9 n := by
  rw [rw9_of (l := tab 9 (gd (dg n) 0#64)) (by simp) (Dg.tab fun i _ => dg_dg n i), vD_tab, ← vD_sD _ 9 (dg_len h), dg_val]
theorem ok_rowOf (L : Lim) (h : AHeap) (x : AVal) (n : Nat) (hx1 : LV x (dg n)) (hn : n < dB ^ 9) :
    acall ctx L i_avouchref02zrowOf [x] h = some (.agg (cW (rw9 n)), h) := by
  rw [call_avouchref02zrowOf]
  have hlo := fun fr R z => loop_rowOf (fr := fr) (h := h) (R := R) (dg n) (dg_len hn) z
  rw [mixT_zero, row_of n hn] at hlo
  have l3 : (rw9 n).length = 9 := rw9_len _
  have hf1 := hx1.fz
  have hr0 := rep1_W 9
  have hl0 : (tab 9 fun _ => (0#64 : W64)).length = 9 := by simp
  have hfill : fillA (cW (tab 9 fun _ => (0#64 : W64))) [] = some (cW (tab 9 fun _ => 0#64)) := rfl
  generalize rw9 n = r3 at *
  generalize (tab 9 fun _ => (0#64 : W64)) = m0 at *
  simp -implicitDefEqProofs [C_avouchref02zrowOf, hf1, hr0, hfill, stKB, setAtB, hl0, limP]
  generalize hF : run ctx _ (.loop _) _ _ = R
  obtain ⟨fr1, rfl, hk1⟩ := hlo _ _ _ hF (by simp) (by simp) (by simp)
  simp -implicitDefEqProofs [hk1, wr, Ba_avouchref02zrowOf, dsts, partAB, l3, stKB, setAtB, hl0, limP]
end Go.Av

namespace Go.Av
set_option maxHeartbeats 2000000
set_option maxRecDepth 20000
set_option linter.unusedSimpArgs false
set_option linter.unusedVariables false
/-! #### rows of rows -/
def rwL (l : List Nat) : List W64 := (l.map rw9).flatten
theorem rwL_cons (a : Nat) (l : List Nat) : rwL (a :: l) = rw9 a ++ rwL l := rfl
theorem rwL_append (l m : List Nat) : rwL (l ++ m) = rwL l ++ rwL m := by simp [rwL]
@[simp] theorem rwL_len : ∀ l : List Nat, (rwL l).length = 9 * l.length
  | [] => rfl
  | a :: l => by rw [rwL_cons, List.length_append, rw9_len, rwL_len l, List.length_cons]; omega
theorem rwL_drop : ∀ (l : List Nat) (i : Nat), (rwL l).drop (9 * i) = rwL (l.drop i)
  | l, 0 => rfl
  | [], i + 1 => by simp [rwL]
  | a :: l, i + 1 => by
    rw [rwL_cons, List.drop_succ_cons, ← rwL_drop l i, show 9 * (i + 1) = (rw9 a).length + 9 * i by simp; omega, List.drop_append]
    simp
theorem rwL_take : ∀ (l : List Nat) (i : Nat), (rwL l).take (9 * i) = rwL (l.take i)
  | l, 0 => rfl
  | [], i + 1 => by simp [rwL]
  | a :: l, i + 1 => by
    rw [rwL_cons, List.take_succ_cons, rwL_cons, ← rwL_take l i, show 9 * (i + 1) = (rw9 a).length + 9 * i by simp; omega, List.take_append, List.take_of_length_le (by simp), Nat.add_sub_cancel_left]
theorem part_rw (l : List Nat) (o i : Nat) (ho : o = i * 9) (h : i < l.length) : partA true (cW (rwL l)) o 9 = some (.agg (cW (rw9 (gd l 0 i)))) := by
  rw [ho, Nat.mul_comm]
  rw [partA_cW _ _ _ (by simp; omega), rwL_drop, List.drop_eq_getElem_cons h, rwL_cons, List.take_left' (by simp)]
  unfold gd; simp [List.getD, List.getElem?_eq_getElem h]
theorem set_rw (l : List Nat) (x o i : Nat) (ho : o = i * 9) (h : i < l.length) : setAt (cW (rwL l)) o (cW (rw9 x)) = cW (rwL (l.set i x)) := by
  rw [ho, Nat.mul_comm, setAt_put _ _ _ (by simp; omega)]
  unfold putAt
  rw [List.set_eq_take_append_cons_drop, if_pos h, rwL_append, rwL_cons, cW_take, rwL_take, cW_len, rw9_len, show 9 * i + 9 = 9 * (i + 1) by omega, cW_drop, rwL_drop]
  simp [cW]
theorem zeros_rwL (n : Nat) : (tab (9 * n) fun _ => (0#64 : W64)) = rwL (tab n fun _ => 0) := by
  induction n with
  | zero => rfl
  | succ n ih =>
    rw [← tab_snoc, rwL_append, ← ih]
    have e1 : rwL [0] = tab 9 fun _ => 0#64 := by rw [rw9_zero]; simp [rwL]
    rw [e1]
    have : ∀ m k, (tab (m + k) fun _ => (0#64 : W64)) = (tab m fun _ => 0#64) ++ tab k fun _ => 0#64 := fun m k => by
      simp [tab, List.map_const', List.replicate_append_replicate]
    exact this (9 * n) 9
/-! #### the primes -/
def prF (i : Nat) : Nat := pN * 2 ^ i
theorem prF_lt {i : Nat} (h : i < 9) : prF i < dB ^ 9 := by
  have h1 : (2 : Nat) ^ i ≤ 2 ^ 8 := Nat.pow_le_pow_right (by decide) (by omega)
  have h2 : prF i ≤ pN * 2 ^ 8 := Nat.mul_le_mul_left _ h1
  exact Nat.lt_of_le_of_lt h2 (by decide)
theorem loop_prm {fr : Fr} {h : AHeap} {R : Option (AEx × Fr × AHeap)}
    (hF : run ctx (limP h) (.loop Ba_avouchref02zMul) fr (hx h [cW (rwL (mixT 9 prF (fun _ => 0) 1))] []) = R)
    (h5 : fr 5 = pA h.blks.length 0 0) (h6 : fr 6 = .int .i64 1) :
    ∃ fr', R = some (.exit 0, fr', hx h [cW (rwL (tab 9 prF))] []) ∧ ∀ t, t ∉ wr Ba_avouchref02zMul → fr' t = fr t := by
  obtain ⟨e, fr', h', rfl, ⟨rfl, rfl⟩, hk⟩ := loop_rule hF 8
    (fun k fr hh => fr 6 = .int .i64 ((k + 1 : Nat) : Int) ∧ hh = hx h [cW (rwL (mixT 9 prF (fun _ => 0) (k + 1)))] [])
    (fun e fr hh => e = .exit 0 ∧ hh = hx h [cW (rwL (tab 9 prF))] [])
    ⟨h6, rfl⟩ (by
      rintro k fr1 hh hkN hkeep ⟨g6, rfl⟩
      have g5 := (hkeep 5 (by decide)).trans h5
      by_cases hlt : k < 8
      · have w1 : IntKind.i64.wrap (((k + 1 : Nat) : Int) + 1) = ((k + 2 : Nat) : Int) := (wrap_i64 (by omega) (by omega)).trans (by omega)
        have w2 : IntKind.i64.wrap (((k + 1 : Nat) : Int) - 1) = (k : Int) := (wrap_i64 (by omega) (by omega)).trans (by omega)
        have i1 := iadr_pA 9 9 h.blks.length 0 0 k .i64 (by simp; omega)
        have i2 := iadr_pA 9 9 h.blks.length 0 0 (k + 1) .i64 (by simp; omega)
        have p1 := part_rw (mixT 9 prF (fun _ => 0) (k + 1)) (0 + k * 9) k (by omega) (by simp; omega)
        have hg : gd (mixT 9 prF (fun _ => 0) (k + 1)) 0 k = prF k := by unfold mixT; rw [gd_tab (by omega), if_pos (by omega)]
        rw [hg] at p1
        have hM := fun L h => ok_more L h 0 (prF k) 2#64 (by decide) (by
          have := prF_lt (i := k + 1) (by omega)
          rw [show prF (k + 1) = prF k * 2 by unfold prF; rw [Nat.pow_succ, Nat.mul_assoc]] at this
          rw [show (2#64 : W64).toNat = 2 from rfl]; omega) (by decide) (prF_lt (by omega))
        rw [show 0 * 256 + prF k * (2#64 : W64).toNat = prF (k + 1) by unfold prF; rw [Nat.pow_succ, Nat.mul_assoc, show (2#64 : W64).toNat = 2 from rfl]; omega] at hM
        have s1 := set_rw (mixT 9 prF (fun _ => 0) (k + 1)) (prF (k + 1)) (0 + (k + 1) * 9) (k + 1) (by omega) (by simp; omega)
        rw [mixT_set] at s1
        have hlen : (cW (rwL (mixT 9 prF (fun _ => 0) (k + 1)))).length = 81 := by simp
        have hob : 0 + (k + 1) * 9 + 9 ≤ 81 := by omega
        have hrob : (limP h).rob ≤ h.blks.length := Nat.le_refl _
        have l1 := rw9_len (prF (k + 1))
        have e1 : ((k + 1 : Nat) : Int) < 9 := by omega
        have hz9 : rep1 (AVal.int .u64 0) 9 = cW (rw9 0) := by rw [rep1_W]; exact congrArg cW rw9_zero
        have hfill : fillA (cW (rw9 0)) [] = some (cW (rw9 0)) := rfl
        have hz2 : AVal.int .u64 2 = wd 2#64 := rfl
        generalize hm2 : cW (rwL (mixT 9 prF (fun _ => 0) (k + 1 + 1))) = m2 at *
        generalize cW (rwL (mixT 9 prF (fun _ => 0) (k + 1))) = m1 at *
        generalize rw9 (prF (k + 1)) = r2 at *
        generalize rw9 (prF k) = r1 at *
        generalize cW (rw9 0) = r0 at *
        generalize 0 + (k + 1) * 9 = o2 at *
        generalize 0 + k * 9 = o1 at *
        generalize hk1 : ((k + 1 : Nat) : Int) = k1 at *
        generalize hk2 : ((k + 2 : Nat) : Int) = k2 at *
        simp -implicitDefEqProofs [Ba_avouchref02zMul, g5, g6, e1, w1, w2, i1, i2, p1, hz9, hfill, hz2, hM, stKB, l1, s1, hlen, hob, storeA_fl, hrob]
        exact ⟨hlt, by rw [← hk2]; rfl, by rw [hm2]⟩
      · have : k = 8 := by omega
        subst this
        rw [mixT_all]
        generalize cW (rwL (tab 9 prF)) = m1 at *
        simp [Ba_avouchref02zMul, g6])
  exact ⟨fr', rfl, hk⟩
/-- As much of the prime as goes is taken away. -/
theorem loop_pgr {fr : Fr} {h : AHeap} {R : Option (AEx × Fr × AHeap)} (x0 : Nat) (z : List AVal) (hx0 : x0 < pN * 512)
    (hF : run ctx (limP h) (.loop Bb_avouchref02zMul) fr (hx h [cW (rwL (tab 9 prF)), cW (rw9 x0), z] []) = R)
    (h5 : fr 5 = pA h.blks.length 0 0) (h8 : fr 8 = pA h.blks.length 1 0) (h11 : fr 11 = .int .i64 8) :
    ∃ fr', R = some (.exit 4, fr', hx h [cW (rwL (tab 9 prF)), cW (rw9 (x0 % pN)), z] []) ∧ ∀ t, t ∉ wr Bb_avouchref02zMul → fr' t = fr t := by
  have hbig : pN * 512 < dB ^ 9 := by decide
  obtain ⟨e, fr', h', rfl, ⟨rfl, rfl⟩, hk⟩ := loop_rule hF 9
    (fun k fr hh => ∃ j x, j + k = 9 ∧ fr 11 = .int .i64 ((j : Int) - 1) ∧ x ≤ x0 ∧ grd pN j x = grd pN 9 x0 ∧ hh = hx h [cW (rwL (tab 9 prF)), cW (rw9 x), z] [])
    (fun e fr hh => e = .exit 4 ∧ hh = hx h [cW (rwL (tab 9 prF)), cW (rw9 (x0 % pN)), z] [])
    ⟨9, x0, rfl, h11, Nat.le_refl _, rfl, rfl⟩ (by
      rintro k fr1 hh hkN hkeep ⟨j, x, hj, g11, hxx, hgr, rfl⟩
      have g5 := (hkeep 5 (by decide)).trans h5
      have g8 := (hkeep 8 (by decide)).trans h8
      cases j with
      | succ i =>
        rw [show (((i + 1 : Nat) : Int) - 1) = (i : Int) by omega] at g11
        have w1 : IntKind.i64.wrap ((i : Int) - 1) = (i : Int) - 1 := wrap_i64 (by omega) (by omega)
        have i1 := iadr_pA 9 9 h.blks.length 0 0 i .i64 (by simp; omega)
        have p1 := part_rw (tab 9 prF) (0 + i * 9) i (by omega) (by simp; omega)
        rw [gd_tab (by omega)] at p1
        have hpi := prF_lt (i := i) (by omega)
        have hR := fun L h => ok_reaches L h x (prF i) (by omega) hpi
        have hnn : (i : Int) ≥ 0 := by omega
        have l0 := rw9_len x
        have hrob : (limP h).rob ≤ h.blks.length := Nat.le_refl _
        by_cases hle : prF i ≤ x
        · rw [decide_eq_true hle] at hR
          have hM := fun L h => ok_minus L h x (prF i) hle (by omega)
          obtain ⟨x', e1, e2, e3⟩ : ∃ x', (x - prF i = x' ∧ x' ≤ x0 ∧ grd pN i x' = grd pN 9 x0) := ⟨_, rfl, by omega, by rw [← hgr, grd, if_pos (show pN * 2 ^ i ≤ x from hle)]; rfl⟩
          rw [e1] at hM
          have l1 := rw9_len x'
          have hfin : ∃ y, (y ≤ x0 ∧ grd pN i y = grd pN 9 x0 ∧ hx h [cW (rwL (tab 9 prF)), cW (rw9 x'), z] [] = hx h [cW (rwL (tab 9 prF)), cW (rw9 y), z] []) := ⟨x', e2, e3, rfl⟩
          generalize cW (rwL (tab 9 prF)) = tb at *
          generalize rw9 (prF i) = r2 at *
          generalize rw9 x' = r1 at *
          generalize rw9 x = r0 at *
          generalize 0 + i * 9 = o at *
          simp -implicitDefEqProofs [Bb_avouchref02zMul, g5, g8, g11, w1, i1, p1, partAB, l0, hR, hM, stKB, setAtB, l1, storeA_fl, hrob]
          exact ⟨by omega, i, by omega, rfl, hfin⟩
        · rw [decide_eq_false hle] at hR
          have e3 : grd pN i x = grd pN 9 x0 := by rw [← hgr, grd, if_neg (show ¬ pN * 2 ^ i ≤ x from hle)]
          have hfin : ∃ y, (y ≤ x0 ∧ grd pN i y = grd pN 9 x0 ∧ hx h [cW (rwL (tab 9 prF)), cW (rw9 x), z] [] = hx h [cW (rwL (tab 9 prF)), cW (rw9 y), z] []) := ⟨x, hxx, e3, rfl⟩
          generalize cW (rwL (tab 9 prF)) = tb at *
          generalize rw9 (prF i) = r2 at *
          generalize rw9 x = r0 at *
          generalize 0 + i * 9 = o at *
          simp -implicitDefEqProofs [Bb_avouchref02zMul, g5, g8, g11, w1, i1, p1, partAB, l0, hR]
          exact ⟨by omega, i, by omega, rfl, hfin⟩
      | zero =>
        have e1 : x = x0 % pN := by
          rw [grd_ok pN 9 x0 hx0] at hgr; exact hgr
        subst e1
        generalize rw9 (x0 % pN) = r at *
        simp [Bb_avouchref02zMul, g11])
  exact ⟨fr', rfl, hk⟩
end Go.Av

namespace Go.Av
set_option maxHeartbeats 2000000
set_option maxRecDepth 20000
set_option linter.unusedSimpArgs false
set_option linter.unusedVariables false
theorem gd_bytes_w4 (x i : Nat) (hx : x < rN) (hi : i < 32) : gd (bytesL (w4 x)) 0 i = ((x / 256 ^ i % 256 : Nat) : Int) := by
  unfold bytesL
  rw [gd_tab (by simp; omega)]
  unfold byW
  congr 1
  have hv := val_w4 x hx
  have key : ∀ (l : List W64) (q : Nat), (gd l 0#64 q).toNat = val l / 18446744073709551616 ^ q % 18446744073709551616 := by
    intro l
    induction l with
    | nil => intro q; simp [gd, List.getD, val]
    | cons w l ih =>
      intro q
      have := w.isLt
      cases q with
      | zero => rw [gd_cons0, val, Nat.pow_zero, Nat.div_one, Nat.add_mul_mod_self_left, Nat.mod_eq_of_lt this]
      | succ q => rw [gd_consS, ih q, val, Nat.pow_succ, Nat.mul_comm (18446744073709551616 ^ q), ← Nat.div_div_eq_div_mul, Nat.add_mul_div_left _ _ (by decide), Nat.div_eq_of_lt this, Nat.zero_add]
  rw [BitVec.toNat_ushiftRight, key, hv, Nat.shiftRight_eq_div_pow, show (2 : Nat) ^ (8 * (i % 8)) = 256 ^ (i % 8) by rw [Nat.pow_mul]]
  have e : 256 ^ i = 18446744073709551616 ^ (i / 8) * 256 ^ (i % 8) := by
    rw [show 18446744073709551616 = 256 ^ 8 from rfl, ← Nat.pow_mul, ← Nat.pow_add, Nat.div_add_mod]
  rw [e, ← Nat.div_div_eq_div_mul]
  generalize x / 18446744073709551616 ^ (i / 8) = y
  have h8 : i % 8 < 8 := Nat.mod_lt _ (by decide)
  generalize i % 8 = j at *
  have : j = 0 ∨ j = 1 ∨ j = 2 ∨ j = 3 ∨ j = 4 ∨ j = 5 ∨ j = 6 ∨ j = 7 := by omega
  rcases this with rfl | rfl | rfl | rfl | rfl | rfl | rfl | rfl
  · rw [show 256 ^ 0 = 1 from rfl]; omega
  · rw [show 256 ^ 1 = 256 from rfl]; omega
  · rw [show 256 ^ 2 = 65536 from rfl]; omega
  · rw [show 256 ^ 3 = 16777216 from rfl]; omega
  · rw [show 256 ^ 4 = 4294967296 from rfl]; omega
  · rw [show 256 ^ 5 = 1099511627776 from rfl]; omega
  · rw [show 256 ^ 6 = 281474976710656 from rfl]; omega
  · rw [show 256 ^ 7 = 72057594037927936 from rfl]; omega
theorem mul_step (x y p i : Nat) : (x / 256 ^ (i + 1) * y % p * 256 + y * (x / 256 ^ i % 256)) % p = x / 256 ^ i * y % p := by
  have e : x / 256 ^ i = x / 256 ^ (i + 1) * 256 + x / 256 ^ i % 256 := by
    rw [Nat.pow_succ, ← Nat.div_div_eq_div_mul]; omega
  conv => rhs; rw [e]
  rw [Nat.add_mod, Nat.mod_mul_mod, ← Nat.add_mod]
  congr 1
  rw [Nat.add_mul, Nat.mul_comm y]
  congr 1
  rw [Nat.mul_right_comm]
theorem loop_pmul {fr : Fr} {h : AHeap} {R : Option (AEx × Fr × AHeap)} (x y : Nat) (hx1 : x < rN) (hy1 : y < pN)
    (hF : run ctx (limP h) (.loop Bc_avouchref02zMul) fr (hx h [cW (rwL (tab 9 prF)), cW (rw9 0), cW (rw9 y)] []) = R)
    (h5 : fr 5 = pA h.blks.length 0 0) (h7 : fr 7 = .vsl false (eI .u8 (bytesL (w4 x)))) (h8 : fr 8 = pA h.blks.length 1 0) (h9 : fr 9 = pA h.blks.length 2 0) (h10 : fr 10 = .int .i64 31) :
    ∃ fr', R = some (.exit 2, fr', hx h [cW (rwL (tab 9 prF)), cW (rw9 (x * y % pN)), cW (rw9 y)] []) ∧ ∀ t, t ∉ wr Bc_avouchref02zMul → fr' t = fr t := by
  have h0 : x / 256 ^ 32 = 0 := Nat.div_eq_of_lt hx1
  obtain ⟨e, fr', h', rfl, ⟨rfl, rfl⟩, hk⟩ := loop_rule hF 32
    (fun k fr hh => ∃ j, j + k = 32 ∧ fr 10 = .int .i64 ((j : Int) - 1) ∧ hh = hx h [cW (rwL (tab 9 prF)), cW (rw9 (x / 256 ^ j * y % pN)), cW (rw9 y)] [])
    (fun e fr hh => e = .exit 2 ∧ hh = hx h [cW (rwL (tab 9 prF)), cW (rw9 (x * y % pN)), cW (rw9 y)] [])
    ⟨32, rfl, h10, by rw [h0, Nat.zero_mul, Nat.zero_mod]⟩ (by
      rintro k fr1 hh hkN hkeep ⟨j, hj, g10, rfl⟩
      have g5 := (hkeep 5 (by decide)).trans h5
      have g7 := (hkeep 7 (by decide)).trans h7
      have g8 := (hkeep 8 (by decide)).trans h8
      have g9 := (hkeep 9 (by decide)).trans h9
      cases j with
      | succ i =>
        rw [show (((i + 1 : Nat) : Int) - 1) = (i : Int) by omega] at g10
        have w1 : IntKind.i64.wrap ((i : Int) - 1) = (i : Int) - 1 := wrap_i64 (by omega) (by omega)
        have hib := iadr_eI .u8 .i64 false (bytesL (w4 x)) i (by simp; omega)
        have hgb := gd_bytes_w4 x i hx1 (by omega)
        have hnn : (i : Int) ≥ 0 := by omega
        have hd : x / 256 ^ i % 256 < 256 := Nat.mod_lt _ (by decide)
        have hbw : i2iK .u64 (.int .u8 (gd (bytesL (w4 x)) 0 i)) = some (wd (BitVec.ofNat 64 (x / 256 ^ i % 256))) := by
          rw [hgb, i2i_bw]; rfl
        have htn : (BitVec.ofNat 64 (x / 256 ^ i % 256) : W64).toNat = x / 256 ^ i % 256 := by
          rw [BitVec.toNat_ofNat]; omega
        have hr0 := Nat.mod_lt (x / 256 ^ (i + 1) * y) pN_pos
        have hst := mul_step x y pN i
        generalize hr : x / 256 ^ (i + 1) * y % pN = r at *
        have hyd : y * (x / 256 ^ i % 256) ≤ pN * 255 := Nat.mul_le_mul (by omega) (by omega)
        have hbig : pN * 512 < dB ^ 9 := by decide
        have hM := fun L h => ok_more L h r y (BitVec.ofNat 64 (x / 256 ^ i % 256)) (by rw [htn]; exact hd) (by rw [htn]; omega) (by omega) (by omega)
        rw [htn] at hM
        have hlo := fun fr R z => loop_pgr (fr := fr) (h := h) (R := R) (r * 256 + y * (x / 256 ^ i % 256)) z (by omega)
        rw [hst] at hlo
        have l0 := rw9_len r
        have l1 := rw9_len y
        have l2 := rw9_len (r * 256 + y * (x / 256 ^ i % 256))
        have hrob : (limP h).rob ≤ h.blks.length := Nat.le_refl _
        generalize rw9 (r * 256 + y * (x / 256 ^ i % 256)) = r2 at *
        generalize hr3 : rw9 (x / 256 ^ i * y % pN) = r3 at *
        generalize rw9 r = r0 at *
        generalize hyy : rw9 y = y0 at *
        generalize cW (rwL (tab 9 prF)) = tb at *
        generalize (BitVec.ofNat 64 (x / 256 ^ i % 256) : W64) = t at *
        simp -implicitDefEqProofs [Bc_avouchref02zMul, g5, g7, g8, g9, g10, hib, hbw, -i2iK_int, partAB, l0, l1, l2, hM, stKB, setAtB, storeA_fl, hrob]
        generalize hF : run ctx _ (.loop _) _ _ = R
        obtain ⟨fr2, rfl, hk2⟩ := hlo _ _ _ hF (by simp [g5]) (by simp [g8]) (by simp)
        simp -implicitDefEqProofs [hk2, wr, Bb_avouchref02zMul, dsts, g10, w1]
        exact ⟨by omega, i, by omega, rfl, by rw [hr3]⟩
      | zero =>
        rw [Nat.pow_zero, Nat.div_one]
        generalize rw9 (x * y % pN) = r at *
        simp [Bc_avouchref02zMul, g10])
  exact ⟨fr', rfl, hk⟩
theorem RdW.gA (h : AHeap) (n i : Nat) (l : List W64) : RdW h (gA n i (eW l)) l := by
  refine ⟨by simp, fun k => .vptr [wd (gd l 0#64 k)] 0, fun k hk => ?_, fun k bs ts hk => ?_⟩
  · have e : (eW l)[k]? = some [wd (gd l 0#64 k)] := by rw [eW_get, gd_get? (d := 0#64) hk]; rfl
    simp [Av.gA, iadrA, asI, e]
  · simp [partA_one]
theorem ok_RTrimG (L : Lim) (h : AHeap) (n i : Nat) (l : List W64) (hd : Dg l) (hn : l.length < 1000000000) : acall ctx L i_avouchref01zTrim [gA n i (eW l)] h = some (.vsl false (eW (dg (vD l))), h) := by
  have htl := tlen_le l l.length
  have htd := trim_dg hd
  refine ok_RTrim L h _ (.vsl false (eW (dg (vD l)))) _ l (RdW.gA h n i l) hn ?_ (frz_eWv _ _ _ _ _ _)
  have e1 : subL 0 (tlen l l.length) (eW l) = eW (dg (vD l)) := by rw [← htd]; simp [subL, eW, List.map_take]
  simp [sliceV, gA, bndA, htl, e1]
theorem prF_zero : prF 0 = pN := by unfold prF; simp
theorem ok_RMul2 (L : Lim) (h : AHeap) (u v : AVal) (x y : Nat) (hu : LV u (dg x)) (hv : LV v (dg y)) (hx1 : x < rN) (hy1 : y < pN) :
    acall ctx L i_avouchref02zMul [u, v] h = some (.vsl false (eW (dg (x * y % pN))), h) := by
  rw [call_avouchref02zMul]
  have hP := ok_RP
  rw [pD_dg] at hP
  have hR1 := fun L h => ok_rowOf L h (.vsl false (eW (dg pN))) pN (LV.vsl _ _) (by decide)
  have hR2 := fun L h => ok_rowOf L h (.vsl false (eW (dg y))) y (LV.vsl _ _) (Nat.lt_trans hy1 (by decide))
  have hz81 : rep1 (AVal.int .u64 0) 81 = cW (rwL (tab 9 fun _ => 0)) := by rw [rep1_W]; exact congrArg cW (zeros_rwL 9)
  have hz9 : rep1 (AVal.int .u64 0) 9 = cW (rw9 0) := by rw [rep1_W]; exact congrArg cW rw9_zero
  have hs0 := set_rw (tab 9 fun _ => 0) (prF 0) 0 0 rfl (by simp)
  rw [← mixT_zero 9 prF (fun _ => 0), mixT_set, prF_zero] at hs0
  rw [mixT_zero] at hs0
  have hfill : fillA (cW (rwL (tab 9 fun _ => 0))) [(0, 9, .agg (cW (rw9 pN)))] = some (cW (rwL (mixT 9 prF (fun _ => 0) 1))) := by
    have l1 : (cW (rw9 pN)).length = 9 := by simp
    have l2 : (cW (rwL (tab 9 fun _ => 0))).length = 81 := by simp
    simp only [fillA, AVal.cells, l1, l2, okV_agg]
    rw [hs0]; simp
  have hfill9 : fillA (cW (rw9 0)) [] = some (cW (rw9 0)) := rfl
  have hlo1 := fun fr R => loop_prm (fr := fr) (h := h) (R := R)
  have hlo := fun fr R => loop_pmul (fr := fr) (h := h) (R := R) x y hx1 hy1
  have hW : ∀ L h, acall ctx L i_avouchref01zWords [.vsl false (eW (dg x)), .int .i64 4] h = some (.vsl false (eW (tab 4 (wdO (dg x)))), h) := fun L h => ok_RWords L h (.vsl false (eW (dg x))) (dg x) (LV.vsl _ _) 4 (by decide)
  rw [wdO_dg 4 x hx1, wN_four x hx1] at hW
  have hB := fun L h => ok_RBytes L h (.vsl false (eW (w4 x))) (w4 x) (LV.vsl _ _) (by simp)
  have hf1 := hu.fz
  have hf2 := hv.fz
  have l1 : (cW (rwL (mixT 9 prF (fun _ => 0) 1))).length = 81 := by simp
  have l2 : (rw9 0).length = 9 := by simp
  have l3 : (rw9 y).length = 9 := by simp
  have l81 : (rwL (tab 9 fun _ => 0)).length = 81 := by simp
  have hxy : x * y % pN < dB ^ 9 := Nat.lt_trans (Nat.mod_lt _ pN_pos) (by decide)
  have hsl := slice_arr 9 1 h.blks.length 1 0 (by decide)
  have hel := fun b0 b2 => elems_sW h [b0, cW (rw9 (x * y % pN)), b2] [] 1 9 (some 9) (rw9 (x * y % pN)) rfl (by simp)
  have hap := fun b0 b2 => appK_gL (L := limP h) (h := h) (bs := [b0, cW (rw9 (x * y % pN)), b2]) (sz := 1) (s := .vsl true []) (y := sA h.blks.length 1 0 1 9 (some 9)) (es := []) (ys := eW (rw9 (x * y % pN))) (.inr rfl) (hel b0 b2) rfl (by simp) rfl (Nat.le_refl _) (by simp [maxRoom])
  have hg0 : gL (.vsl true []) h.toks.length 0 [] = .vsl true [] := rfl
  have ht0 : gT ([] : List (List AVal)) = [] := rfl
  rw [hg0, ht0] at hap
  rw [List.nil_append, show gL (.vsl true []) h.toks.length 0 (eW (rw9 (x * y % pN))) = gA h.toks.length 0 (eW (rw9 (x * y % pN))) from rfl] at hap
  have hT := fun L hh => ok_RTrimG L hh h.toks.length 0 (rw9 (x * y % pN)) (rw9_dg _) (by simp)
  rw [rw9_val hxy] at hT
  have hch : fillA (rep [AVal.int .u64 0] 0) [] = some [] := rfl
  have hch0 : chunks 1 0 [] = [] := rfl
  generalize rw9 (x * y % pN) = rr at *
  generalize hm1 : cW (rwL (mixT 9 prF (fun _ => 0) 1)) = m1 at *
  generalize cW (rwL (tab 9 prF)) = tb at *
  generalize rwL (tab 9 fun _ => 0) = zz at *
  generalize rw9 y = ry at *
  generalize rw9 pN = rp at *
  generalize rw9 0 = r0 at *
  generalize eW (w4 x) = e4 at *
  generalize bytesL (w4 x) = b4 at *
  generalize eW (dg pN) = ep at *
  have hrob : (limP h).rob ≤ h.blks.length := Nat.le_refl _
  have hul : underL 0 0 m1 = true := by rw [← hm1]; simp
  simp -implicitDefEqProofs [C_avouchref02zMul, hf1, hf2, hP, hR1, hz81, hfill, stKB, setAtB, l1, l81, storeA_fl, hrob, hul]
  generalize hF : run ctx _ (.loop _) _ _ = R
  obtain ⟨fr1, rfl, hk1⟩ := hlo1 _ _ hF (by simp) (by simp)
  simp -implicitDefEqProofs [hk1, wr, Ba_avouchref02zMul, dsts, hW, hB, hz9, hfill9, hR2, stKB, setAtB, l2, l3, storeA_fl, hrob]
  generalize hF : run ctx _ (.loop _) _ _ = R
  obtain ⟨fr2, rfl, hk2⟩ := hlo _ _ hF (by simp [hk1, wr, Ba_avouchref02zMul, dsts]) (by simp) (by simp) (by simp) (by simp)
  simp -implicitDefEqProofs [hk2, wr, Ba_avouchref02zMul, Bb_avouchref02zMul, Bc_avouchref02zMul, dsts, hch, hch0, hsl, hap, hT]
end Go.Av

namespace Go.Av
set_option maxHeartbeats 2000000
set_option maxRecDepth 20000
set_option linter.unusedSimpArgs false
set_option linter.unusedVariables false
def dq2 (d : W64) : Nat → W64
  | 0 => d
  | k + 1 => qtW (dq2 d k) 2
theorem dq2_nat (d : W64) : ∀ k, (dq2 d k).toNat = d.toNat / 2 ^ k
  | 0 => by simp [dq2]
  | k + 1 => by rw [dq2, qtW_nat, dq2_nat d k, Nat.pow_succ, Nat.div_div_eq_div_mul]
theorem loop_RBit {L : Lim} {fr : Fr} {h : AHeap} {R : Option (AEx × Fr × AHeap)} (d : W64) (i : Nat)
    (hF : run ctx L (.loop Ba_avouchref01zBit) fr h = R) (h1 : fr 1 = .int .i64 (i : Int)) (h5 : fr 5 = wd d) (h6 : fr 6 = .int .i64 0) :
    ∃ fr', R = some (.exit 0, fr', h) ∧ fr' 5 = wd (dq2 d (i % 32)) ∧ ∀ t, t ∉ wr Ba_avouchref01zBit → fr' t = fr t := by
  have hm4 : (i : Int).tmod 32 = ((i % 32 : Nat) : Int) := tmodL i 32
  generalize hn : i % 32 = n at *
  have hn4 : n < 32 := by omega
  obtain ⟨e, fr', h', rfl, ⟨rfl, rfl, h5'⟩, hk⟩ := loop_rule hF n
    (fun k fr hh => fr 6 = .int .i64 (k : Int) ∧ fr 5 = wd (dq2 d k) ∧ hh = h)
    (fun e fr hh => e = .exit 0 ∧ hh = h ∧ fr 5 = wd (dq2 d n))
    ⟨h6, h5, rfl⟩ (by
      rintro k fr1 hh hkN hkeep ⟨g6, g5, rfl⟩
      have g1 := (hkeep 1 (by decide)).trans h1
      by_cases hlt : k < n
      · have w1 : IntKind.i64.wrap ((k : Int) + 1) = k + 1 := wrap_i64 (by omega) (by omega)
        have hle : (k : Int) < n := by omega
        have hd : qtW (dq2 d k) 2 = dq2 d (k + 1) := rfl
        generalize hd2 : dq2 d (k + 1) = d2 at *
        generalize dq2 d k = d1 at *
        simp -implicitDefEqProofs [Ba_avouchref01zBit, g1, g5, g6, bin_rem, hm4, hle, w1, wd_quo1, hd]
        exact ⟨hlt, by rw [hd2]⟩
      · have : k = n := by omega
        subst this
        generalize dq2 d k = d1 at *
        simp [Ba_avouchref01zBit, g1, g5, g6, bin_rem, hm4])
  exact ⟨fr', rfl, h5', hk⟩
theorem bit_at {l : List W64} (h : Dg l) (m : Nat) : (gd l 0#64 (m / 32)).toNat / 2 ^ (m % 32) % 2 = vD l / 2 ^ m % 2 := by
  rw [vD_at h]
  have e : 2 ^ m = dB ^ (m / 32) * 2 ^ (m % 32) := by
    rw [show dB = 2 ^ 32 from rfl, ← Nat.pow_mul, ← Nat.pow_add, Nat.div_add_mod]
  rw [e, ← Nat.div_div_eq_div_mul]
  generalize vD l / dB ^ (m / 32) = x
  have h32 : m % 32 < 32 := Nat.mod_lt _ (by decide)
  generalize m % 32 = j at *
  have e2 : dB = 2 ^ j * 2 ^ (31 - j) * 2 := by rw [← Nat.pow_add, ← Nat.pow_succ, show (j + (31 - j)).succ = 32 by omega]; rfl
  rw [e2, Nat.mul_assoc, Nat.mod_mul_right_div_self, Nat.mod_mul_left_mod]
def btW (n i : Nat) : W64 := BitVec.ofNat 64 (n / 2 ^ i % 2)
theorem ok_RBit (L : Lim) (h : AHeap) (x : AVal) (l : List W64) (hx1 : LV x l) (hd : Dg l) (i : Nat) (hi : i < 1000000000) :
    acall ctx L i_avouchref01zBit [x, .int .i64 (i : Int)] h = some (wd (btW (vD l) i), h) := by
  rw [call_avouchref01zBit]
  have hlo := fun L fr R h => loop_RBit (L := L) (fr := fr) (h := h) (R := R) (gd l 0#64 (i / 32)) i
  have hG := fun L h => ok_Rget L h (.vsl false (eW l)) l (RdW.vsl h false l) (i / 32)
  have w2 : IntKind.i64.wrap ((i : Int) / 32) = ((i / 32 : Nat) : Int) := wrap_i64 (by omega) (by omega)
  have hr : rmW (dq2 (gd l 0#64 (i / 32)) (i % 32)) 2 = btW (vD l) i := by
    refine BitVec.eq_of_toNat_eq ?_
    unfold btW
    rw [rmW_nat, dq2_nat, bit_at hd, BitVec.toNat_ofNat]
    omega
  have hf1 := hx1.fz
  generalize btW (vD l) i = r at *
  generalize dq2 (gd l 0#64 (i / 32)) (i % 32) = d2 at *
  generalize ((i / 32 : Nat) : Int) = i32 at *
  simp -implicitDefEqProofs [C_avouchref01zBit, hf1, bin_quo, w2, hG]
  generalize hF : run ctx _ (.loop _) _ _ = R
  obtain ⟨fr1, rfl, h5, hk1⟩ := hlo _ _ _ _ hF (by simp) (by simp) (by simp)
  simp -implicitDefEqProofs [hk1, wr, Ba_avouchref01zBit, dsts, h5, wd_rem1, hr]
theorem btW_one (n i : Nat) : (binA .eql (wd (btW n i)) (.int .u64 1)) = some (.bool (decide (n / 2 ^ i % 2 = 1))) := by
  show some (AVal.bool (((btW n i).toNat : Int) == 1)) = _
  congr 2
  have : (btW n i).toNat = n / 2 ^ i % 2 := by unfold btW; rw [BitVec.toNat_ofNat]; omega
  rw [this]
  by_cases e : n / 2 ^ i % 2 = 1
  · rw [e]; rfl
  · rw [decide_eq_false e]; exact beq_false_of_ne (by omega)
theorem bl_of {n i : Nat} (h1 : n / 2 ^ (i + 1) = 0) (h2 : n / 2 ^ i % 2 = 1) : bl n = i + 1 := by
  have h0 : n ≠ 0 := fun e => by subst e; simp at h2
  have h3 : n < 2 ^ (i + 1) := by
    rcases Nat.div_eq_zero_iff.1 h1 with h | h
    · exact absurd h (by simp)
    · exact h
  have h4 : 2 ^ i ≤ n := by
    rcases Nat.lt_or_ge n (2 ^ i) with h | h
    · rw [Nat.div_eq_of_lt h] at h2; simp at h2
    · exact h
  unfold bl
  rw [if_neg h0, (Nat.log2_eq_iff h0).2 ⟨h4, h3⟩]
theorem loop_RBits {fr : Fr} {h : AHeap} {R : Option (AEx × Fr × AHeap)} (n N : Nat) (hN : n < 2 ^ N) (hN2 : N < 1000000000)
    (hF : run ctx (limP h) (.loop Ba_avouchref01zBits) fr (hx h [] []) = R)
    (h0 : fr 0 = .vsl false (eW (dg n))) (h3 : fr 3 = .int .i64 ((N : Int) - 1)) :
    ∃ e fr', R = some (e, fr', hx h [] []) ∧ (e = .exit 0 ∧ n = 0 ∨ e = .ret ∧ fr' 2 = .int .i64 ((bl n : Nat) : Int)) := by
  obtain ⟨e, fr', h', rfl, ⟨rfl, hor⟩, hk⟩ := loop_rule hF N
    (fun k fr hh => ∃ m, m + k = N ∧ fr 3 = .int .i64 ((m : Int) - 1) ∧ n / 2 ^ m = 0 ∧ hh = hx h [] [])
    (fun e fr hh => hh = hx h [] [] ∧ (e = .exit 0 ∧ n = 0 ∨ e = .ret ∧ fr 2 = .int .i64 ((bl n : Nat) : Int)))
    ⟨N, rfl, h3, Nat.div_eq_of_lt hN, rfl⟩ (by
      rintro k fr1 hh hkN hkeep ⟨m, hm, g3, he, rfl⟩
      have g0 := (hkeep 0 (by decide)).trans h0
      cases m with
      | succ i =>
        rw [show (((i + 1 : Nat) : Int) - 1) = (i : Int) by omega] at g3
        have w1 : IntKind.i64.wrap ((i : Int) - 1) = (i : Int) - 1 := wrap_i64 (by omega) (by omega)
        have hnn : (i : Int) ≥ 0 := by omega
        have hB := fun L h => ok_RBit L h (.vsl false (eW (dg n))) (dg n) (LV.vsl _ _) (dg_dg n) i (by omega)
        rw [dg_val] at hB
        have h1 := btW_one n i
        by_cases hb : n / 2 ^ i % 2 = 1
        · rw [decide_eq_true hb] at h1
          have hbl := bl_of he hb
          have w2 : IntKind.i64.wrap ((i : Int) + 1) = ((bl n : Nat) : Int) := (wrap_i64 (by omega) (by omega)).trans (by omega)
          generalize ((bl n : Nat) : Int) = b at *
          generalize btW n i = bt at *
          generalize eW (dg n) = en at *
          simp -implicitDefEqProofs [Ba_avouchref01zBits, limP, g0, g3, hB, h1, w2, -bin_eql]
        · rw [decide_eq_false hb] at h1
          have he2 : n / 2 ^ i = 0 := by
            have : n / 2 ^ (i + 1) = n / 2 ^ i / 2 := by rw [Nat.pow_succ, Nat.div_div_eq_div_mul]
            rw [this] at he
            omega
          generalize btW n i = bt at *
          generalize eW (dg n) = en at *
          simp -implicitDefEqProofs [Ba_avouchref01zBits, limP, g0, g3, hB, h1, w1, -bin_eql]
          exact ⟨by omega, i, by omega, rfl, Nat.div_eq_zero_iff.1 he2 |>.resolve_left (by simp)⟩
      | zero =>
        simp [Ba_avouchref01zBits, g3]
        simpa using he)
  exact ⟨e, fr', rfl, hor⟩
theorem ok_RBits (L : Lim) (h : AHeap) (x : AVal) (n : Nat) (hx1 : LV x (dg n)) (hl : (dg n).length < 1000000) :
    acall ctx L i_avouchref01zBits [x] h = some (.int .i64 ((bl n : Nat) : Int), h) := by
  rw [call_avouchref01zBits]
  have hnl : n < 2 ^ (32 * (dg n).length) := by
    have := vD_lt (dg_dg n)
    rw [dg_val] at this
    rw [Nat.pow_mul]; exact this
  have hlo := fun fr R => loop_RBits (fr := fr) (h := h) (R := R) n (32 * (dg n).length) hnl (by omega)
  have hT := fun L h => ok_RTrimV L h false (dg n) (dg_dg n) (by omega)
  rw [dg_val] at hT
  have hf1 := hx1.fz
  have w1 : IntKind.i64.wrap (32 * ((dg n).length : Int)) = ((32 * (dg n).length : Nat) : Int) := (wrap_i64 (by omega) (by omega)).trans (by omega)
  have w2 : IntKind.i64.wrap (((32 * (dg n).length : Nat) : Int) - 1) = ((32 * (dg n).length : Nat) : Int) - 1 := wrap_i64 (by omega) (by omega)
  have hb0 : n = 0 → ((bl n : Nat) : Int) = 0 := fun e => by subst e; rfl
  generalize ((bl n : Nat) : Int) = b at *
  generalize ((32 * (dg n).length : Nat) : Int) = l32 at *
  simp -implicitDefEqProofs [C_avouchref01zBits, hf1, hT, w1, w2]
  generalize hF : run ctx _ (.loop _) _ _ = R
  obtain ⟨e, fr1, rfl, ⟨rfl, hs⟩ | ⟨rfl, h4⟩⟩ := hlo _ _ hF (by simp) (by simp)
  · simp -implicitDefEqProofs [hb0 hs]
  · simp -implicitDefEqProofs [h4]
/-! #### powers -/
theorem pow_bit (a e i : Nat) (p : Nat) : (a ^ (e / 2 ^ (i + 1)) % p * (a ^ (e / 2 ^ (i + 1)) % p) % p * (if e / 2 ^ i % 2 = 1 then a else 1)) % p = a ^ (e / 2 ^ i) % p := by
  have h : e / 2 ^ i = 2 * (e / 2 ^ (i + 1)) + e / 2 ^ i % 2 := by
    rw [Nat.pow_succ, ← Nat.div_div_eq_div_mul]; omega
  have key : (if e / 2 ^ i % 2 = 1 then a else 1) = a ^ (e / 2 ^ i % 2) := by
    have : e / 2 ^ i % 2 = 0 ∨ e / 2 ^ i % 2 = 1 := by omega
    rcases this with e | e <;> simp [e]
  rw [key, ← Nat.mul_mod, Nat.mod_mul_mod, ← Nat.pow_add, ← Nat.two_mul, ← Nat.pow_add, ← h]
theorem loop_RExp {fr : Fr} {h : AHeap} {R : Option (AEx × Fr × AHeap)} (a e : Nat) (ha : a < pN) (hbe : bl e < 1000000)
    (hF : run ctx (limP h) (.loop Ba_avouchref02zExp) fr (hx h [] []) = R)
    (h0 : fr 0 = .vsl false (eW (dg a))) (h1 : fr 1 = .vsl false (eW (dg e))) (h5 : VlW (fr 5) (dg 1)) (h6 : fr 6 = .int .i64 (((bl e : Nat) : Int) - 1)) :
    ∃ fr', R = some (.exit 0, fr', hx h [] []) ∧ VlW (fr' 5) (dg (a ^ e % pN)) := by
  have h00 : e / 2 ^ bl e = 0 := Nat.div_eq_of_lt (bl_lt e)
  obtain ⟨ex, fr', h', rfl, ⟨rfl, rfl, h5'⟩, hk⟩ := loop_rule hF (bl e)
    (fun k fr hh => ∃ j, j + k = bl e ∧ fr 6 = .int .i64 ((j : Int) - 1) ∧ VlW (fr 5) (dg (a ^ (e / 2 ^ j) % pN)) ∧ hh = hx h [] [])
    (fun ex fr hh => ex = .exit 0 ∧ hh = hx h [] [] ∧ VlW (fr 5) (dg (a ^ e % pN)))
    ⟨bl e, rfl, h6, by rw [h00, Nat.pow_zero, Nat.mod_eq_of_lt (by decide)]; exact h5, rfl⟩ (by
      rintro k fr1 hh hkN hkeep ⟨j, hj, g6, ⟨c, g5⟩, rfl⟩
      have g0 := (hkeep 0 (by decide)).trans h0
      have g1 := (hkeep 1 (by decide)).trans h1
      cases j with
      | succ i =>
        rw [show (((i + 1 : Nat) : Int) - 1) = (i : Int) by omega] at g6
        have w1 : IntKind.i64.wrap ((i : Int) - 1) = (i : Int) - 1 := wrap_i64 (by omega) (by omega)
        have hnn : (i : Int) ≥ 0 := by omega
        have hpb := pow_bit a e i pN
        have hr0 := Nat.mod_lt (a ^ (e / 2 ^ (i + 1))) pN_pos
        generalize a ^ (e / 2 ^ (i + 1)) % pN = r at *
        have hM1 := fun L h => ok_RMul2 L h (.vsl c (eW (dg r))) (.vsl c (eW (dg r))) r r (LV.vsl _ _) (LV.vsl _ _) (Nat.lt_trans hr0 pN_lt_rN) hr0
        have hr1 := Nat.mod_lt (r * r) pN_pos
        generalize r * r % pN = s at *
        have hM2 := fun L h => ok_RMul2 L h (.vsl false (eW (dg s))) (.vsl false (eW (dg a))) s a (LV.vsl _ _) (LV.vsl _ _) (Nat.lt_trans hr1 pN_lt_rN) ha
        have hB := fun L h => ok_RBit L h (.vsl false (eW (dg e))) (dg e) (LV.vsl _ _) (dg_dg e) i (by omega)
        rw [dg_val] at hB
        have hb1 := btW_one e i
        by_cases hb : e / 2 ^ i % 2 = 1
        · rw [decide_eq_true hb] at hb1
          rw [if_pos hb] at hpb
          rw [hpb] at hM2
          generalize btW e i = bt at *
          generalize eW (dg e) = ee at *
          simp -implicitDefEqProofs [Ba_avouchref02zExp, limP, g0, g1, g5, g6, hM1, hB, hb1, hM2, w1, -bin_eql]
          exact ⟨by omega, i, by omega, rfl, VlW.mk _ _⟩
        · rw [decide_eq_false hb] at hb1
          rw [if_neg hb, Nat.mul_one, Nat.mod_eq_of_lt hr1] at hpb
          subst hpb
          generalize btW e i = bt at *
          generalize eW (dg e) = ee at *
          simp -implicitDefEqProofs [Ba_avouchref02zExp, limP, g0, g1, g5, g6, hM1, hB, hb1, w1, -bin_eql]
          exact ⟨by omega, i, by omega, rfl, VlW.mk _ _⟩
      | zero =>
        rw [Nat.pow_zero, Nat.div_one] at g5
        simp [Ba_avouchref02zExp, g6]
        rw [g5]; exact VlW.mk _ _)
  exact ⟨fr', rfl, h5'⟩
theorem ok_RExp (L : Lim) (h : AHeap) (u v : AVal) (a e : Nat) (hu : LV u (dg a)) (hv : LV v (dg e)) (ha : a < pN) (he : (dg e).length < 10000) :
    acall ctx L i_avouchref02zExp [u, v] h = some (.vsl false (eW (dg (a ^ e % pN))), h) := by
  rw [call_avouchref02zExp]
  have hbe : bl e < 1000000 := by
    have h1 := vD_lt (dg_dg e)
    rw [dg_val] at h1
    have h2 : bl e ≤ 32 * (dg e).length := bl_le (by rw [Nat.pow_mul]; exact h1)
    omega
  have hlo := fun fr R => loop_RExp (fr := fr) (h := h) (R := R) a e ha hbe
  have hB := fun L h => ok_RBits L h (.vsl false (eW (dg e))) e (LV.vsl _ _) (by omega)
  have hf1 := hu.fz
  have hf2 := hv.fz
  have w1 : IntKind.i64.wrap (((bl e : Nat) : Int) - 1) = ((bl e : Nat) : Int) - 1 := wrap_i64 (by omega) (by omega)
  have hfill : fillA (rep [AVal.int .u64 0] 1) [(0, 1, .int .u64 1)] = some [wd 1#64] := rfl
  have hch : chunks 1 1 [wd 1#64] = eW (dg 1) := rfl
  generalize ((bl e : Nat) : Int) = be at *
  simp -implicitDefEqProofs [C_avouchref02zExp, hf1, hf2, hfill, hch, hB, w1]
  generalize hF : run ctx _ (.loop _) _ _ = R
  obtain ⟨fr1, rfl, ⟨c, h5⟩⟩ := hlo _ _ hF (by simp) (by simp) (by simp; exact VlW.mk _ _) (by simp)
  simp -implicitDefEqProofs [h5]
theorem ok_RInverse (L : Lim) (h : AHeap) (u : AVal) (a : Nat) (hu : LV u (dg a)) (ha : a < pN) :
    acall ctx L i_avouchref02zInverse [u] h = some (.vsl false (eW (dg (a ^ (pN - 2) % pN))), h) := by
  rw [call_avouchref02zInverse]
  have hP := ok_RP
  rw [pD_dg] at hP
  have hS := fun L h => ok_RSub L h (.vsl false (eW (dg pN))) (.vsl true (eW (dg 2))) (dg pN) (dg 2) (LV.vsl _ _) (LV.vsl _ _) (dg_dg _) (dg_dg _) (by rw [← pD_dg]; decide) (dg_mono (by decide)) (by rw [dg_val, dg_val]; decide)
  rw [dg_val, dg_val] at hS
  have hE := fun L h => ok_RExp L h (.vsl false (eW (dg a))) (.vsl false (eW (dg (pN - 2)))) a (pN - 2) (LV.vsl _ _) (LV.vsl _ _) ha (by
    have := dg_mono (show pN - 2 ≤ pN by decide)
    rw [← pD_dg] at this
    exact Nat.lt_of_le_of_lt this (by decide))
  have hf1 := hu.fz
  have hfill : fillA (rep [AVal.int .u64 0] 1) [(0, 1, .int .u64 2)] = some [wd 2#64] := rfl
  have hch : chunks 1 1 [wd 2#64] = eW (dg 2) := rfl
  generalize eW (dg (pN - 2)) = e2 at *
  generalize eW (dg 2) = ee at *
  generalize eW (dg pN) = ep at *
  simp -implicitDefEqProofs [C_avouchref02zInverse, hf1, hP, hfill, hch, hS, hE]
end Go.Av
