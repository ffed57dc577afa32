/- Three numbers as the program's and the document's; a round keeps unlike vectors unlike; the law on them returns true. -/
import Derived.Test.YteionlpkpphkpaaC8
import Derived.Test.YteionlpkpphkpaaC4
import Derived.MapKept
import Derived.Test.YteionlpkpphkpaaC5
import Derived.Test.YteionlpkpphkpaaC6
namespace Go.Av
set_option maxHeartbeats 2000000
set_option maxRecDepth 20000
set_option linter.unusedSimpArgs false
set_option linter.unusedVariables false
theorem loop_RWords {fr : Fr} {h : AHeap} {R : Option (AEx × Fr × AHeap)} (l : List W64) (n : Nat) (hn : n < 100000000)
    (hF : run ctx (limP h) (.loop Ba_avouchref01zWords) fr (hx h [cW (mixT n (wdO l) (fun _ => 0#64) 0)] []) = R)
    (h0 : fr 0 = .vsl false (eW l)) (h1 : fr 1 = .int .i64 (n : Int)) (h5 : fr 5 = sA h.blks.length 0 0 1 0 (some n)) (h6 : fr 6 = .int .i64 0) :
    ∃ fr', R = some (.exit 0, fr', hx h [cW (tab n (wdO l))] []) ∧ fr' 5 = sA h.blks.length 0 0 1 n (some n) ∧ ∀ t, t ∉ wr Ba_avouchref01zWords → fr' t = fr t := by
  obtain ⟨e, fr', h', rfl, ⟨rfl, rfl, h5'⟩, hk⟩ := loop_rule hF n
    (fun k fr hh => fr 6 = .int .i64 (k : Int) ∧ fr 5 = sA h.blks.length 0 0 1 k (some n) ∧ hh = hx h [cW (mixT n (wdO l) (fun _ => 0#64) k)] [])
    (fun e fr hh => e = .exit 0 ∧ hh = hx h [cW (tab n (wdO l))] [] ∧ fr 5 = sA h.blks.length 0 0 1 n (some n))
    ⟨h6, h5, rfl⟩ (by
      rintro k fr1 hh hkN hkeep ⟨g6, g5, rfl⟩
      have g0 := (hkeep 0 (by decide)).trans h0
      have g1 := (hkeep 1 (by decide)).trans h1
      by_cases hlt : k < n
      · have w1 : IntKind.i64.wrap ((k : Int) + 1) = k + 1 := wrap_i64 (by omega) (by omega)
        have w2 : IntKind.i64.wrap (2 * (k : Int)) = ((2 * k : Nat) : Int) := (wrap_i64 (by omega) (by omega)).trans (by omega)
        have w3 : IntKind.i64.wrap (((2 * k : Nat) : Int) + 1) = ((2 * k + 1 : Nat) : Int) := wrap_i64 (by omega) (by omega)
        have hga := fun L h => ok_Rget L h (.vsl false (eW l)) l (RdW.vsl h false l) (2 * k)
        have hgb := fun L h => ok_Rget L h (.vsl false (eW l)) l (RdW.vsl h false l) (2 * k + 1)
        have hrob : (limP h).rob ≤ h.blks.length := Nat.le_refl _
        have hap := fun cl => app1W (limP h) h [cW (mixT n (wdO l) (fun _ => 0#64) k)] [] 0 k n (mixT n (wdO l) (fun _ => 0#64) k) (wdO l k) cl rfl hlt (by simpa using hlt) hrob
        rw [mixT_set] at hap
        simp only [List.set_cons_zero] at hap
        have hS : wd (gd l 0#64 (2 * k) + gd l 0#64 (2 * k + 1) * 4294967296#64) = wd (wdO l k) := rfl
        generalize hm2 : mixT n (wdO l) (fun _ => 0#64) (k + 1) = m2 at *
        generalize mixT n (wdO l) (fun _ => 0#64) k = m1 at *
        generalize ((2 * k + 1 : Nat) : Int) = i2 at *
        generalize ((2 * k : Nat) : Int) = i1 at *
        have hle : (k : Int) < n := by omega
        simp -implicitDefEqProofs [Ba_avouchref01zWords, g0, g1, g5, g6, hle, w1, w2, w3, hga, hgb, mul32, hS, fill1W, chunk1, hap]
        exact ⟨hlt, by rw [hm2]⟩
      · have : k = n := by omega
        subst this
        rw [mixT_all]
        generalize tab k (wdO l) = m1 at *
        simp [Ba_avouchref01zWords, g6, g5, g1])
  exact ⟨fr', rfl, h5', hk⟩
theorem ok_RWords (L : Lim) (h : AHeap) (x : AVal) (l : List W64) (hx1 : LV x l) (n : Nat) (hn : n < 100000000) :
    acall ctx L i_avouchref01zWords [x, .int .i64 (n : Int)] h = some (.vsl false (eW (tab n (wdO l))), h) := by
  rw [call_avouchref01zWords]
  have hlo := fun fr R => loop_RWords (fr := fr) (h := h) (R := R) l n hn
  rw [mixT_zero] at hlo
  have hfz := frz_sW h [cW (tab n (wdO l))] [] h.toks.length 11 0 n (some n) (tab n (wdO l)) rfl (by simp)
  have hmk := mkcK_zero h [] [] 1 [AVal.int .u64 0] .i64 .i64 (n : Int) (roomI (by omega))
  rw [Int.toNat_natCast, rep_W] at hmk
  have hf1 := hx1.fz
  generalize tab n (fun _ => 0#64) = m0 at *
  generalize tab n (wdO l) = m1 at *
  simp -implicitDefEqProofs [C_avouchref01zWords, hf1, hmk]
  generalize hF : run ctx _ (.loop _) _ _ = R
  obtain ⟨fr1, rfl, h5, hk1⟩ := hlo _ _ hF (by simp) (by simp) (by simp) (by simp)
  simp -implicitDefEqProofs [hk1, wr, Ba_avouchref01zWords, dsts, h5, hfz]
theorem val_tabW (n : Nat) (f : Nat → W64) : val (tab n f) = sumW f n := by
  rw [val_sum _ n (by simp)]; exact sumW_congr n fun i hi => gd_tab hi
/-- Of a number with room in the words. -/
theorem wdO_dg (n x : Nat) (h : x < bN n) : tab n (wdO (dg x)) = wN n x := by
  have hl : (dg x).length ≤ 2 * n := dg_len (by rw [Nat.pow_mul]; exact h)
  refine val_inj (by simp) ?_
  rw [val_tabW, val_wdO (dg_dg x), ← vD_sD _ _ hl, dg_val, val_wN n x h]
/-! #### bytes of words -/
theorem qt_byW (w : W64) (k : Nat) : qtW (w >>> (8 * k)) 256 = w >>> (8 * (k + 1)) := by
  refine BitVec.eq_of_toNat_eq ?_
  rw [qtW_nat, BitVec.toNat_ushiftRight, BitVec.toNat_ushiftRight, Nat.shiftRight_eq_div_pow, Nat.shiftRight_eq_div_pow, Nat.mul_add, Nat.pow_add, ← Nat.div_div_eq_div_mul]
theorem rm_byW (w : W64) : i2iK .u8 (wd (rmW w 256)) = some (.int .u8 ((w.toNat % 256 : Nat) : Int)) := by
  rw [i2i_u8_wd, rmW_nat, Nat.mod_mod]
theorem loop_RBytes1 {fr : Fr} {h : AHeap} {R : Option (AEx × Fr × AHeap)} (l : List W64) (i : Nat) (hi : i < l.length) (hl : l.length < 1000000) (f : Nat → Int) (hf : f = fun j => byW (gd l 0#64 (j / 8)) (j % 8))
    (hF : run ctx (limP h) (.loop Ba_avouchref01zBytes) fr (hx h [] (gT (eI .u8 (tab (8 * i) f)))) = R)
    (h3 : fr 3 = gL (.vsl true []) h.toks.length 0 (eI .u8 (tab (8 * i) f))) (h5 : fr 5 = wd (gd l 0#64 i)) (h6 : fr 6 = .int .i64 0) :
    ∃ fr', R = some (.exit 2, fr', hx h [] (gT (eI .u8 (tab (8 * (i + 1)) f)))) ∧ fr' 3 = gL (.vsl true []) h.toks.length 0 (eI .u8 (tab (8 * (i + 1)) f)) ∧ ∀ t, t ∉ wr Ba_avouchref01zBytes → fr' t = fr t := by
  obtain ⟨e, fr', h', rfl, ⟨rfl, rfl, h3'⟩, hk⟩ := loop_rule hF 8
    (fun k fr hh => fr 6 = .int .i64 k ∧ fr 5 = wd (gd l 0#64 i >>> (8 * k)) ∧ fr 3 = gL (.vsl true []) h.toks.length 0 (eI .u8 (tab (8 * i + k) f)) ∧ hh = hx h [] (gT (eI .u8 (tab (8 * i + k) f))))
    (fun e fr hh => e = .exit 2 ∧ hh = hx h [] (gT (eI .u8 (tab (8 * (i + 1)) f))) ∧ fr 3 = gL (.vsl true []) h.toks.length 0 (eI .u8 (tab (8 * (i + 1)) f)))
    ⟨h6, by simpa using h5, h3, rfl⟩ (by
      rintro k fr1 hh hkN hkeep ⟨g6, g5, g3, rfl⟩
      by_cases hlt : k < 8
      · have w1 : IntKind.i64.wrap ((k : Int) + 1) = k + 1 := wrap_i64 (by omega) (by omega)
        have hfk : ((((gd l 0#64 i >>> (8 * k)).toNat % 256 : Nat) : Int)) = f (8 * i + k) := by
          rw [hf]; simp only [byW]
          rw [show (8 * i + k) / 8 = i by omega, show (8 * i + k) % 8 = k by omega]
        have hrb := rm_byW (gd l 0#64 i >>> (8 * k))
        rw [hfk] at hrb
        have hqt := qt_byW (gd l 0#64 i) k
        generalize hw2 : gd l 0#64 i >>> (8 * (k + 1)) = w2 at *
        generalize gd l 0#64 i >>> (8 * k) = w at *
        have hroom : 8 * i + k + 1 < 274877906944 := by omega
        generalize hm : 8 * i + k = m at *
        have hfill : ∀ v : Int, fillA (rep [AVal.int .u8 0] 1) [(0, 1, .int .u8 v)] = some [.int .u8 v] := fun v => rfl
        simp [Ba_avouchref01zBytes, g6, g5, g3, show (k : Int) < 8 by omega, w1, limP, wd_rem8, wd_quo8, hrb, -i2i_u8_wd, hfill, chunk1, eI_one, appK_cV, maxRoom, hroom, hqt]
        exact ⟨hlt, by rw [← hw2, Nat.mul_add], by rw [← hm]; exact ⟨rfl, rfl⟩⟩
      · have : k = 8 := by omega
        subst this
        simp [Ba_avouchref01zBytes, g6, g3, Nat.mul_add])
  exact ⟨fr', rfl, h3', hk⟩
theorem loop_RBytes {fr : Fr} {h : AHeap} {R : Option (AEx × Fr × AHeap)} (l : List W64) (hl : l.length < 1000000) (f : Nat → Int) (hf : f = fun j => byW (gd l 0#64 (j / 8)) (j % 8))
    (hF : run ctx (limP h) (.loop Bb_avouchref01zBytes) fr (hx h [] (gT (eI .u8 (tab (8 * 0) f)))) = R)
    (h0 : fr 0 = .vsl false (eW l)) (h3 : fr 3 = gL (.vsl true []) h.toks.length 0 (eI .u8 (tab (8 * 0) f))) (h4 : fr 4 = .int .i64 0) :
    ∃ fr', R = some (.exit 0, fr', hx h [] (gT (eI .u8 (bytesL l)))) ∧ fr' 3 = gL (.vsl true []) h.toks.length 0 (eI .u8 (bytesL l)) := by
  have hb : bytesL l = tab (8 * l.length) f := by rw [hf]; rfl
  rw [hb]
  obtain ⟨r1, p, r2, r3⟩ := RdW.vsl h false l
  obtain ⟨e, fr', h', rfl, ⟨rfl, rfl, h3'⟩, hk⟩ := loop_rule hF l.length
    (fun k fr hh => fr 4 = .int .i64 k ∧ fr 3 = gL (.vsl true []) h.toks.length 0 (eI .u8 (tab (8 * k) f)) ∧ hh = hx h [] (gT (eI .u8 (tab (8 * k) f))))
    (fun e fr hh => e = .exit 0 ∧ hh = hx h [] (gT (eI .u8 (tab (8 * l.length) f))) ∧ fr 3 = gL (.vsl true []) h.toks.length 0 (eI .u8 (tab (8 * l.length) f)))
    ⟨h4, h3, rfl⟩ (by
      rintro k fr1 hh hkN hkeep ⟨g4, g3, rfl⟩
      have g0 := (hkeep 0 (by decide)).trans h0
      by_cases hlt : k < l.length
      · have w1 : IntKind.i64.wrap ((k : Int) + 1) = k + 1 := wrap_i64 (by omega) (by omega)
        have hro := r2 k hlt
        have hrd := fun bs ts => r3 k bs ts hlt
        have hlo := fun fr R => loop_RBytes1 (fr := fr) (h := h) (R := R) l k hlt hl f hf
        have hle : (k : Int) < l.length := by omega
        generalize gT (eI .u8 (tab (8 * k) f)) = tk at *
        simp -implicitDefEqProofs [Bb_avouchref01zBytes, g0, g3, g4, hle, hro, hrd]
        generalize hF : run ctx _ (.loop _) _ _ = R
        obtain ⟨fr2, rfl, f3, hk2⟩ := hlo _ _ hF (by simp [g3]) (by simp) (by simp)
        simp -implicitDefEqProofs [hk2, wr, Ba_avouchref01zBytes, dsts, f3, g4, w1]
        exact hlt
      · have : k = l.length := by omega
        subst this
        simp [Bb_avouchref01zBytes, g4, g0, g3])
  exact ⟨fr', rfl, h3'⟩
theorem ok_RBytes (L : Lim) (h : AHeap) (x : AVal) (l : List W64) (hx1 : LV x l) (hl : l.length < 1000000) : acall ctx L i_avouchref01zBytes [x] h = some (.vsl false (eI .u8 (bytesL l)), h) := by
  rw [call_avouchref01zBytes]
  have hlo := fun fr R => loop_RBytes (fr := fr) (h := h) (R := R) l hl _ rfl
  have hf1 := hx1.fz
  have hch : fillA (rep [AVal.int .u8 0] 0) [] = some [] := rfl
  have hch0 : chunks 1 0 [] = [] := rfl
  simp -implicitDefEqProofs [C_avouchref01zBytes, hf1, hch, hch0]
  generalize hF : run ctx _ (.loop _) _ _ = R
  obtain ⟨fr1, rfl, q1⟩ := hlo _ _ hF (by simp) (by simp [gL, tab]) (by simp)
  have hfz := frz_gL (h1 := hx h [] (gT (eI .u8 (bytesL l)))) (nb := h.blks.length) (nt := h.toks.length) (n := 11) (s := .vsl true []) (es := eI .u8 (bytesL l)) (.inr rfl) (by simp)
  generalize bytesL l = bl1 at *
  simp -implicitDefEqProofs [q1, hfz]
/-! #### the prime -/
def pD : List W64 := [4026531841#64, 1138881939#64, 2042196113#64, 674490440#64, 2172737629#64, 3092268470#64, 3778125865#64, 811880050#64]
theorem vD_pD : vD pD = pN := by decide +kernel
theorem Dg_pD : Dg pD := by
  repeat refine Dg.cons (by decide) ?_
  exact Dg.nil
theorem pD_dg : pD = dg pN := by rw [← vD_pD]; exact dg_of ⟨Dg_pD, .inr (by decide)⟩
theorem ok_RP (L : Lim) (h : AHeap) : acall ctx L i_avouchref02zP [] h = some (.vsl false (eW pD), h) := by
  rw [call_avouchref02zP]
  have hf : ∀ a b c d e f g i : AVal, fillA (rep [AVal.int .u64 0] 8) [(0, 1, a), (1, 1, b), (2, 1, c), (3, 1, d), (4, 1, e), (5, 1, f), (6, 1, g), (7, 1, i)] = some [a, b, c, d, e, f, g, i] → True := fun _ _ _ _ _ _ _ _ _ => trivial
  have hfill : fillA (rep [AVal.int .u64 0] 8) [(0, 1, .int .u64 4026531841), (1, 1, .int .u64 1138881939), (2, 1, .int .u64 2042196113), (3, 1, .int .u64 674490440), (4, 1, .int .u64 2172737629), (5, 1, .int .u64 3092268470), (6, 1, .int .u64 3778125865), (7, 1, .int .u64 811880050)] = some (cW pD) := rfl
  have hch : chunks 1 8 (cW pD) = eW pD := rfl
  simp -implicitDefEqProofs [C_avouchref02zP, hfill, hch]
theorem ok_RMod2 (L : Lim) (h : AHeap) (x : AVal) (a : List W64) (hx1 : LV x a) (ha : Dg a) (hl : a.length < 10000000) : acall ctx L i_avouchref02zMod [x] h = some (.vsl false (eW (dg (vD a % pN))), h) := by
  rw [call_avouchref02zMod]
  have hP := ok_RP
  have hM := fun L h => ok_RMod L h (.vsl false (eW a)) (.vsl false (eW pD)) a pD (LV.vsl _ _) (LV.vsl _ _) ha Dg_pD (by rw [vD_pD]; decide) ⟨hl, by decide⟩
  rw [vD_pD] at hM
  have hf1 := hx1.fz
  generalize eW pD = p at *
  simp -implicitDefEqProofs [C_avouchref02zMod, hf1, hP, hM]
/-- The bytes of a number below 2 to the power of 256. -/
theorem ok_RBytes2 (L : Lim) (h : AHeap) (x : AVal) (n : Nat) (hx1 : LV x (dg n)) (hn : n < rN) : acall ctx L i_avouchref02zBytes [x] h = some (.vsl false (eI .u8 (bytesL (w4 n))), h) := by
  rw [call_avouchref02zBytes]
  have hW : ∀ L h, acall ctx L i_avouchref01zWords [.vsl false (eW (dg n)), .int .i64 4] h = some (.vsl false (eW (tab 4 (wdO (dg n)))), h) := fun L h => ok_RWords L h (.vsl false (eW (dg n))) (dg n) (LV.vsl _ _) 4 (by decide)
  rw [wdO_dg 4 n hn, wN_four n hn] at hW
  have hB := fun L h => ok_RBytes L h (.vsl false (eW (w4 n))) (w4 n) (LV.vsl _ _) (by simp)
  have hf1 := hx1.fz
  generalize eW (w4 n) = e4 at *
  generalize bytesL (w4 n) = b4 at *
  simp -implicitDefEqProofs [C_avouchref02zBytes, hf1, hW, hB]
theorem pN_lt_rN : pN < rN := by decide
/-- An element, and the same number. -/
theorem ok_Is (L : Lim) (h : AHeap) (x : Nat) (v : AVal) (hv : LV v (dg (x % pN))) : acall ctx L i_avouchlaw02zIs [.agg (cW (fe x)), v] h = some (.bool true, h) := by
  rw [call_avouchlaw02zIs]
  have hB := fun L h => ok_Bytes L h x
  have hR := fun L h => ok_RBytes2 L h (.vsl false (eW (dg (x % pN)))) (x % pN) (LV.vsl _ _) (Nat.lt_trans (Nat.mod_lt _ pN_pos) pN_lt_rN)
  have hf1 := hv.fz
  have hfe : bytesL (w4 (x % pN)) = feB x := rfl
  rw [hfe] at hR
  have hl := feB_len x
  have l1 := fe_len x
  have hsl := slice_arr 32 1 h.blks.length 0 0 (by decide)
  have hb2 := fun ts => b2sK_sA h [cI .u8 (feB x)] ts 0 32 (some 32) (feB x) rfl hl
  generalize feB x = fb at *
  generalize fe x = fx at *
  generalize eW (dg (x % pN)) = ed at *
  have hrI := rep1_I .u8 0 32
  simp -implicitDefEqProofs [C_avouchlaw02zIs, limP, hf1, partAB, l1, hB, hR, hrI, stKB, setAtB, hl, hsl, hb2]
  exact (Go.MapKept.bytes_beq _ _).2 rfl
end Go.Av

namespace Go.Av
set_option maxHeartbeats 2000000
set_option maxRecDepth 20000
set_option linter.unusedSimpArgs false
set_option linter.unusedVariables false
/-- Three lists of bytes, as a law is handed them. -/
def tB (b : List (List Int)) : List AVal := b.map fun l => .vsl false (eI .u8 l)
theorem fzA_tB (h : AHeap) (x y z : List Int) : fzA h (.agg (tB [x, y, z])) = some (.agg (tB [x, y, z]), false) := by
  simp [fzA, flatL, AVal.flat, tB]
theorem ok_few (L : Lim) (h : AHeap) (x y z : List Int) : acall ctx L i_avouchlaw10zfew [.agg (tB [x, y, z])] h = some (.bool (decide (x.length ≤ 40) && (decide (y.length ≤ 40) && decide (z.length ≤ 40))), h) := by
  rw [call_avouchlaw10zfew]
  have hf := fun h => fzA_tB h x y z
  have i0 : iadrA (some 3) 1 (.vptr (tB [x, y, z]) 0) (.int .i64 0) = some (.vptr (tB [x, y, z]) 0) := rfl
  have i1 : iadrA (some 3) 1 (.vptr (tB [x, y, z]) 0) (.int .i64 1) = some (.vptr (tB [x, y, z]) 1) := rfl
  have i2 : iadrA (some 3) 1 (.vptr (tB [x, y, z]) 0) (.int .i64 2) = some (.vptr (tB [x, y, z]) 2) := rfl
  have p0 : partA false (tB [x, y, z]) 0 1 = some (.vsl false (eI .u8 x)) := rfl
  have p1 : partA false (tB [x, y, z]) 1 1 = some (.vsl false (eI .u8 y)) := rfl
  have p2 : partA false (tB [x, y, z]) 2 1 = some (.vsl false (eI .u8 z)) := rfl
  have e1 : decide ((x.length : Int) ≤ 40) = decide (x.length ≤ 40) := decide_eq_decide.2 (by omega)
  have e2 : decide ((y.length : Int) ≤ 40) = decide (y.length ≤ 40) := decide_eq_decide.2 (by omega)
  have e3 : decide ((z.length : Int) ≤ 40) = decide (z.length ≤ 40) := decide_eq_decide.2 (by omega)
  generalize tB [x, y, z] = t at *
  cases h1 : decide (x.length ≤ 40) with
  | false => 
    rw [h1] at e1
    simp -implicitDefEqProofs [C_avouchlaw10zfew, limP, hf, i0, i1, i2, p0, p1, p2, e1, -decide_eq_true_eq, -decide_eq_false_iff_not]
  | true =>
    rw [h1] at e1
    cases h2 : decide (y.length ≤ 40) with
    | false =>
      rw [h2] at e2
      simp -implicitDefEqProofs [C_avouchlaw10zfew, limP, hf, i0, i1, i2, p0, p1, p2, e1, e2, -decide_eq_true_eq, -decide_eq_false_iff_not]
    | true =>
      rw [h2] at e2
      cases h3 : decide (z.length ≤ 40) with
      | false => 
        rw [h3] at e3
        simp -implicitDefEqProofs [C_avouchlaw10zfew, limP, hf, i0, i1, i2, p0, p1, p2, e1, e2, e3, -decide_eq_true_eq, -decide_eq_false_iff_not]
      | true => 
        rw [h3] at e3
        simp -implicitDefEqProofs [C_avouchlaw10zfew, limP, hf, i0, i1, i2, p0, p1, p2, e1, e2, e3, -decide_eq_true_eq, -decide_eq_false_iff_not]
def dOf (b : List (List Int)) (i : Nat) : List AVal := [.vsl false (eW (dg (leN (gd b [] i) % pN)))]
theorem szOk_dOf (b : List (List Int)) (k : Nat) : szOk 1 (tab k (dOf b)) = true := by
  cases k with
  | zero => rfl
  | succ k => unfold tab; rw [List.range_succ_eq_map]; rfl
theorem under_dOf (b : List (List Int)) (nb nt k : Nat) : underLL nb nt (tab k (dOf b)) = true := by
  have : ∀ l : List Nat, underLL nb nt (l.map (dOf b)) = true := fun l => by
    induction l with
    | nil => rfl
    | cons x l ih => simp only [List.map_cons, underLL, ih, Bool.and_true, dOf, underL, AVal.under, eW_under]
  exact this _
theorem fill1N (x : AVal) (c : Bool) (es : List (List AVal)) (hx : x = .vsl c es) : fillA (rep [AVal.nsl] 1) [(0, 1, x)] = some [x] := by subst hx; rfl
theorem loop_POf {fr : Fr} {h : AHeap} {R : Option (AEx × Fr × AHeap)} (b : List (List Int)) (hbl : b.length = 3) (hb : ∀ i, i < 3 → inB (gd b [] i) ∧ (gd b [] i).length ≤ 1000) (z : List AVal)
    (hF : run ctx (limP h) (.loop Ba_avouchlaw10zOf) fr (hx h [z, cW (feL (mixT 3 (fun i => leN (gd b [] i)) (fun _ => 0) 0))] (gT (tab 0 (dOf b)))) = R)
    (h4 : fr 4 = pA h.blks.length 1 0) (h5 : fr 5 = gL (.vsl true []) h.toks.length 0 (tab 0 (dOf b))) (h9 : fr 9 = .agg (tB b)) (h10 : fr 10 = .int .i64 0) :
    ∃ fr', R = some (.exit 0, fr', hx h [z, cW (feL (tab 3 fun i => leN (gd b [] i)))] (gT (tab 3 (dOf b)))) ∧ fr' 5 = gL (.vsl true []) h.toks.length 0 (tab 3 (dOf b)) ∧ ∀ t, t ∉ wr Ba_avouchlaw10zOf → fr' t = fr t := by
  obtain ⟨e, fr', h', rfl, ⟨rfl, rfl, h5'⟩, hk⟩ := loop_rule hF 3
    (fun k fr hh => fr 10 = .int .i64 (k : Int) ∧ fr 5 = gL (.vsl true []) h.toks.length 0 (tab k (dOf b)) ∧ hh = hx h [z, cW (feL (mixT 3 (fun i => leN (gd b [] i)) (fun _ => 0) k))] (gT (tab k (dOf b))))
    (fun e fr hh => e = .exit 0 ∧ hh = hx h [z, cW (feL (tab 3 fun i => leN (gd b [] i)))] (gT (tab 3 (dOf b))) ∧ fr 5 = gL (.vsl true []) h.toks.length 0 (tab 3 (dOf b)))
    ⟨h10, h5, rfl⟩ (by
      rintro k fr1 hh hkN hkeep ⟨g10, g5, rfl⟩
      have g4 := (hkeep 4 (by decide)).trans h4
      have g9 := (hkeep 9 (by decide)).trans h9
      by_cases hlt : k < 3
      · have w1 : IntKind.i64.wrap ((k : Int) + 1) = k + 1 := wrap_i64 (by omega) (by omega)
        obtain ⟨hbk, hbl1⟩ := hb k hlt
        have hi := idx_agg 3 k false (tB b) 1 .i64 (by simpa using hlt)
        have hp : partA false (tB b) (k * 1) 1 = some (.vsl false (eI .u8 (gd b [] k))) := by
          rw [partA_one, Nat.mul_one]; unfold tB; rw [List.getElem?_map, gd_get? (d := []) (by omega)]; rfl
        rw [hp] at hi
        have hF1 := fun L h => ok_FromWide L h false (gd b [] k) hbk (by omega)
        have hO1 := fun L h => ok_ROfBytes L h false (gd b [] k) hbk (by omega)
        have hln : (dg (leN (gd b [] k))).length < 10000000 := by
          have := dg_len (n := leN (gd b [] k)) (k := (gd b [] k).length) (Nat.lt_of_lt_of_le (leN_lt hbk) (Nat.pow_le_pow_left (by decide) _))
          omega
        have hM1 := fun L h => ok_RMod2 L h (.vsl false (eW (dg (leN (gd b [] k))))) _ (LV.vsl _ _) (dg_dg _) hln
        rw [dg_val] at hM1
        have hia := iadr_pA 3 4 h.blks.length 1 0 k .i64 (by simpa using hlt)
        have hst := set_fe0 (mixT 3 (fun i => leN (gd b [] i)) (fun _ => 0) k) (leN (gd b [] k)) (0 + k * 4) k (by omega) (by simpa using hlt)
        rw [mixT_set 3 (fun i => leN (gd b [] i)) (fun _ => 0) k] at hst
        have hll : (cW (feL (mixT 3 (fun i => leN (gd b [] i)) (fun _ => 0) k))).length = 12 := by simp
        have hob : 0 + k * 4 + 4 ≤ 12 := by omega
        have hfill := fill1N (.vsl false (eW (dg (leN (gd b [] k) % pN)))) false _ rfl
        have hap := appK_cV (limP h) h [z, cW (feL (mixT 3 (fun i => leN (gd b [] i)) (fun _ => 0) (k + 1)))] 1 true (tab k (dOf b)) [dOf b k] (by rw [szOk_dOf]; simp [maxRoom, limP, dOf]; omega)
        have hsn : tab k (dOf b) ++ [dOf b k] = tab (k + 1) (dOf b) := tab_snoc _ _
        rw [hsn, show dOf b k = [.vsl false (eW (dg (leN (gd b [] k) % pN)))] from rfl] at hap
        have l1 := fe_len (leN (gd b [] k))
        have hrob : (limP h).rob ≤ h.blks.length := Nat.le_refl _
        generalize hm2 : cW (feL (mixT 3 (fun i => leN (gd b [] i)) (fun _ => 0) (k + 1))) = m2 at *
        generalize cW (feL (mixT 3 (fun i => leN (gd b [] i)) (fun _ => 0) k)) = m1 at *
        generalize fe (leN (gd b [] k)) = fx at *
        generalize eI .u8 (gd b [] k) = eb at *
        generalize eW (dg (leN (gd b [] k))) = e1 at *
        generalize eW (dg (leN (gd b [] k) % pN)) = e2 at *
        generalize hg2 : gL (.vsl true []) h.toks.length 0 (tab (k + 1) (dOf b)) = g2 at *
        generalize ht2 : gT (tab (k + 1) (dOf b)) = t2 at *
        generalize gL (.vsl true []) h.toks.length 0 (tab k (dOf b)) = g1 at *
        generalize gT (tab k (dOf b)) = t1 at *
        generalize 0 + k * 4 = o at *
        simp -implicitDefEqProofs [Ba_avouchlaw10zOf, g4, g5, g9, g10, show (k : Int) < 3 by omega, w1, hi, hF1, hO1, hM1, hia, stKB, l1, hst, hll, hob, storeA_fl, hrob, hfill, chunk1, hap]
        exact ⟨hlt, hg2.symm, by rw [hm2, ht2]⟩
      · have : k = 3 := by omega
        subst this
        rw [mixT_all]
        generalize gL (.vsl true []) h.toks.length 0 (tab 3 (dOf b)) = g1 at *
        simp [Ba_avouchlaw10zOf, g10, g5])
  exact ⟨fr', rfl, h5', hk⟩
/-- The element's vector, and the digits. -/
theorem ok_POf (L : Lim) (h : AHeap) (x y z : List Int) (hx1 : inB x ∧ x.length ≤ 1000) (hy1 : inB y ∧ y.length ≤ 1000) (hz1 : inB z ∧ z.length ≤ 1000) :
    acall ctx L i_avouchlaw10zOf [.agg (tB [x, y, z])] h = some (.tup [.agg (cW (feL [leN x, leN y, leN z])), .vsl false (tab 3 (dOf [x, y, z]))], h) := by
  rw [call_avouchlaw10zOf]
  have hlo := fun fr R z0 => loop_POf (fr := fr) (h := h) (R := R) [x, y, z] rfl (fun i hi => by
    have : i = 0 ∨ i = 1 ∨ i = 2 := by omega
    rcases this with rfl | rfl | rfl <;> assumption) z0
  have ht : (tab 3 fun i => leN (gd [x, y, z] [] i)) = [leN x, leN y, leN z] := rfl
  rw [ht, mixT_zero] at hlo
  have hf := fzA_tB h x y z
  have hz0 : rep1 (AVal.int .u64 0) 12 = cW (feL (tab 3 fun _ => 0)) := by rw [rep1_W]; exact congrArg cW (zeros_feL 3)
  have l1 : (cW (feL [leN x, leN y, leN z])).length = 12 := by simp
  have hch : fillA (rep [AVal.nsl] 0) [] = some [] := rfl
  have hch0 : chunks 1 0 [] = [] := rfl
  have hbox : boxK (.agg (tB [x, y, z])) = some (.vptr (tB [x, y, z]) 0) := rfl
  have hpt : partA true (tB [x, y, z]) 0 3 = some (.agg (tB [x, y, z])) := rfl
  have hg0 : gL (.vsl true []) h.toks.length 0 (tab 0 (dOf [x, y, z])) = .vsl true [] := rfl
  have ht0 : gT (tab 0 (dOf [x, y, z])) = [] := rfl
  have hgt : ∀ n, gL (.vsl true []) n 0 (tab 3 (dOf [x, y, z])) = gA n 0 (tab 3 (dOf [x, y, z])) := fun n => rfl
  have hund := under_dOf [x, y, z] h.blks.length h.toks.length 3
  rw [hgt] at hlo
  generalize tab 3 (dOf [x, y, z]) = es at *
  generalize gT es = tt at *
  generalize hfl : feL [leN x, leN y, leN z] = fl at *
  generalize tB [x, y, z] = t at *
  have hlz : (cW (feL (tab 3 fun _ => 0))).length = 12 := by simp
  generalize cW (feL (tab 3 fun _ => 0)) = m0 at *
  have hrob : (limP h).rob ≤ h.blks.length := Nat.le_refl _
  simp -implicitDefEqProofs [C_avouchlaw10zOf, hf, hz0, hbox, hpt, hch, hch0]
  generalize hF : run ctx _ (.loop _) _ _ = R
  obtain ⟨fr1, rfl, h5, hk1⟩ := hlo _ _ _ hF (by simp) (by simp [hg0]) (by simp) (by simp)
  have hfzg := fun hh n => frz_gAB hh h.blks.length h.toks.length n 0 es hund
  simp -implicitDefEqProofs [hk1, wr, Ba_avouchlaw10zOf, dsts, h5, partAB, l1, stKB, setAtB, hlz, storeA_fl, hrob, hfzg]
end Go.Av

namespace Go.Av
set_option maxHeartbeats 2000000
set_option maxRecDepth 20000
set_option linter.unusedSimpArgs false
set_option linter.unusedVariables false
theorem mixI {p b0 b1 b2 m0 m1 m2 m3 m4 m5 m6 m7 m8 e0 e1 e2 : Nat} (a0 a1 a2 : Nat) (h0 : (b0 * m0 + b1 * m3 + b2 * m6) % p = e0 % p) (h1 : (b0 * m1 + b1 * m4 + b2 * m7) % p = e1 % p) (h2 : (b0 * m2 + b1 * m5 + b2 * m8) % p = e2 % p) :
    (b0 * ((m0 * a0 + m1 * a1 + m2 * a2) % p) + b1 * ((m3 * a0 + m4 * a1 + m5 * a2) % p) + b2 * ((m6 * a0 + m7 * a1 + m8 * a2) % p)) % p = (e0 * a0 + e1 * a1 + e2 * a2) % p := by
  have cg : ∀ x y x' y' : Nat, x % p = x' % p → y % p = y' % p → (x + y) % p = (x' + y') % p := fun x y x' y' h1 h2 => by
    rw [Nat.add_mod, h1, h2, ← Nat.add_mod]
  have cm : ∀ c x x' : Nat, x % p = x' % p → (c * x) % p = (c * x') % p := fun c x x' h => by
    rw [Nat.mul_mod, h, ← Nat.mul_mod]
  have cn : ∀ c x x' : Nat, x % p = x' % p → (x * c) % p = (x' * c) % p := fun c x x' h => by
    rw [Nat.mul_mod, h, ← Nat.mul_mod]
  refine (cg _ _ _ _ (cg _ _ _ _ (cm b0 _ _ (Nat.mod_mod _ _)) (cm b1 _ _ (Nat.mod_mod _ _))) (cm b2 _ _ (Nat.mod_mod _ _))).trans ?_
  have e : b0 * (m0 * a0 + m1 * a1 + m2 * a2) + b1 * (m3 * a0 + m4 * a1 + m5 * a2) + b2 * (m6 * a0 + m7 * a1 + m8 * a2) =
      (b0 * m0 + b1 * m3 + b2 * m6) * a0 + (b0 * m1 + b1 * m4 + b2 * m7) * a1 + (b0 * m2 + b1 * m5 + b2 * m8) * a2 := by
    simp only [Nat.mul_add, Nat.add_mul, Nat.mul_assoc]; omega
  rw [e]
  exact cg _ _ _ _ (cg _ _ _ _ (cn a0 _ _ h0) (cn a1 _ _ h1)) (cn a2 _ _ h2)
theorem apply_inj {a b : List Nat} (h : ∀ i, i < 3 → gd (applyN cauchyN a) 0 i % pN = gd (applyN cauchyN b) 0 i % pN) : ∀ i, i < 3 → gd a 0 i % pN = gd b 0 i % pN := by
  rw [cauchy_lit] at h
  have r : ∀ i, i < 3 → ∀ v : List Nat, gd (applyN cauchyL v) 0 i = (gd cauchyL 0 (3 * i) * gd v 0 0 + gd cauchyL 0 (3 * i + 1) * gd v 0 1 + gd cauchyL 0 (3 * i + 2) * gd v 0 2) % pN := fun i hi v => by
    unfold applyN; rw [gd_tab hi]
  have q := fun i hi => by have := h i hi; rw [r i hi a, r i hi b, Nat.mod_mod, Nat.mod_mod] at this; exact this
  have q0 := q 0 (by decide)
  have q1 := q 1 (by decide)
  have q2 := q 2 (by decide)
  have key : ∀ b0 b1 b2 e0 e1 e2 : Nat, (b0 * gd cauchyL 0 0 + b1 * gd cauchyL 0 3 + b2 * gd cauchyL 0 6) % pN = e0 % pN → (b0 * gd cauchyL 0 1 + b1 * gd cauchyL 0 4 + b2 * gd cauchyL 0 7) % pN = e1 % pN →
      (b0 * gd cauchyL 0 2 + b1 * gd cauchyL 0 5 + b2 * gd cauchyL 0 8) % pN = e2 % pN → (e0 * gd a 0 0 + e1 * gd a 0 1 + e2 * gd a 0 2) % pN = (e0 * gd b 0 0 + e1 * gd b 0 1 + e2 * gd b 0 2) % pN := fun b0 b1 b2 e0 e1 e2 k0 k1 k2 => by
    rw [← mixI (gd a 0 0) (gd a 0 1) (gd a 0 2) k0 k1 k2, ← mixI (gd b 0 0) (gd b 0 1) (gd b 0 2) k0 k1 k2]
    exact congrArg (· % pN) (by rw [q0, q1, q2])
  have z0 := key 300 (pN - 900) 630 1 0 0 (by decide +kernel) (by decide +kernel) (by decide +kernel)
  have z1 := key (pN - 900) 2880 (pN - 2100) 0 1 0 (by decide +kernel) (by decide +kernel) (by decide +kernel)
  have z2 := key 630 (pN - 2100) 1575 0 0 1 (by decide +kernel) (by decide +kernel) (by decide +kernel)
  simp only [Nat.one_mul, Nat.zero_mul, Nat.add_zero, Nat.zero_add] at z0 z1 z2
  intro i hi
  have : i = 0 ∨ i = 1 ∨ i = 2 := by omega
  rcases this with rfl | rfl | rfl <;> assumption
theorem addc_inj {p : Nat} (x y c : Nat) (h : (x + c) % p = (y + c) % p) : x % p = y % p := by
  have h1 : ((x : Int) + c) % p = ((y : Int) + c) % p := by
    have := congrArg (fun n : Nat => (n : Int)) h
    simpa using this
  have h2 := (Int.emod_add_cancel_right (m := (x : Int)) (n := (p : Int)) (k := (y : Int)) (c : Int)).1 h1
  have : ((x % p : Nat) : Int) = ((y % p : Nat) : Int) := by simpa using h2
  exact Int.ofNat_inj.1 this
theorem step_inj (v w c : List Nat) (full : Bool) (i : Nat) (h : stepE v c full i % pN = stepE w c full i % pN) : gd v 0 i % pN = gd w 0 i % pN := by
  unfold stepE at h
  cases e : full || i == 0 with
  | true => rw [e] at h; exact addc_inj _ _ _ (pow5_inj _ _ h)
  | false => rw [e] at h; exact addc_inj _ _ _ h
theorem round_inj (K v w : List Nat) (r : Int) (h : ∀ i, i < 3 → gd (roundN K v r) 0 i % pN = gd (roundN K w r) 0 i % pN) : ∀ i, i < 3 → gd v 0 i % pN = gd w 0 i % pN := fun i hi => by
  have := apply_inj h i hi
  rw [gd_tab hi, gd_tab hi] at this
  exact step_inj v w _ _ i this
/-- Whether two vectors are alike. -/
def smN (v w : List Nat) : Bool := decide (fe (gd v 0 0) = fe (gd w 0 0)) && (decide (fe (gd v 0 1) = fe (gd w 0 1)) && decide (fe (gd v 0 2) = fe (gd w 0 2)))
theorem smN_iff (v w : List Nat) : smN v w = true ↔ ∀ i, i < 3 → gd v 0 i % pN = gd w 0 i % pN := by
  unfold smN
  simp only [Bool.and_eq_true, decide_eq_true_eq, fe_eq]
  constructor
  · intro ⟨h0, h1, h2⟩ i hi
    have : i = 0 ∨ i = 1 ∨ i = 2 := by omega
    rcases this with rfl | rfl | rfl <;> assumption
  · intro h
    exact ⟨h 0 (by decide), h 1 (by decide), h 2 (by decide)⟩
theorem round_cong (K : List Nat) {v w : List Nat} (r : Int) (h : ∀ i, i < 3 → gd v 0 i % pN = gd w 0 i % pN) : roundN K v r = roundN K w r := by
  have cg : ∀ x y x' y' : Nat, x % pN = x' % pN → y % pN = y' % pN → (x + y) % pN = (x' + y') % pN := fun x y x' y' h1 h2 => by
    rw [Nat.add_mod, h1, h2, ← Nat.add_mod]
  have cm : ∀ c x x' : Nat, x % pN = x' % pN → (c * x) % pN = (c * x') % pN := fun c x x' h => by
    rw [Nat.mul_mod, h, ← Nat.mul_mod]
  have hs : ∀ i, i < 3 → stepE v (rowN K r) (fullN r) i % pN = stepE w (rowN K r) (fullN r) i % pN := fun i hi => by
    unfold stepE
    have e : (gd v 0 i + gd (rowN K r) 0 i) % pN = (gd w 0 i + gd (rowN K r) 0 i) % pN := cg _ _ _ _ (h i hi) rfl
    cases fullN r || i == 0 with
    | true => simp only; rw [Nat.pow_mod, e, ← Nat.pow_mod]
    | false => exact e
  unfold roundN applyN
  refine tab_congr fun i hi => ?_
  rw [gd_tab (by decide : 0 < 3), gd_tab (by decide : 1 < 3), gd_tab (by decide : 2 < 3), gd_tab (by decide : 0 < 3), gd_tab (by decide : 1 < 3), gd_tab (by decide : 2 < 3)]
  exact cg _ _ _ _ (cg _ _ _ _ (cm _ _ _ (hs 0 (by decide))) (cm _ _ _ (hs 1 (by decide)))) (cm _ _ _ (hs 2 (by decide)))
theorem sm_round (K v w : List Nat) (r : Int) : smN (roundN K v r) (roundN K w r) = smN v w := by
  rw [Bool.eq_iff_iff, smN_iff, smN_iff]
  exact ⟨round_inj K v w r, fun h i hi => by rw [round_cong K r h]⟩
theorem sm_perm (K v w : List Nat) : ∀ k, smN (permN K v k) (permN K w k) = smN v w
  | 0 => rfl
  | k + 1 => (sm_round K _ _ _).trans (sm_perm K v w k)
theorem sm_refl (v : List Nat) : smN v v = true := by simp [smN]
end Go.Av

namespace Go.Av
set_option maxHeartbeats 2000000
set_option maxRecDepth 20000
set_option linter.unusedSimpArgs false
set_option linter.unusedVariables false
theorem swV_01 (p nt off : Nat) : SwV p nt (.ptr p off) (.ptr (p + 1) off) := by
  have := SwV.ptr (p := p) (nt := nt) (p + 1) off
  rwa [swI_1] at this
theorem swV_10 (p nt off : Nat) : SwV p nt (.ptr (p + 1) off) (.ptr p off) := by
  have := SwV.ptr (p := p) (nt := nt) p off
  rwa [swI_0] at this
theorem SwL.same {p nt : Nat} : ∀ {l : List AVal}, underL p nt l = true → SwL p nt l l
  | [], _ => .nil
  | c :: l, h => by
    simp only [underL, Bool.and_eq_true] at h
    exact .cons _ _ _ _ (.same _ h.1) (SwL.same h.2)
theorem under_cW (p nt : Nat) (l : List W64) : underL p nt (cW l) = true := underL_mono (Nat.zero_le _) (Nat.zero_le _) _ (underL_cW l)
theorem two_run (fr : Fr) (h : AHeap) (po : List AVal) (v w : List W64) (hv : v.length = 12) (hw : w.length = 12) (h6 : fr 6 = pA h.blks.length 1 0) (h8 : fr 8 = pA h.blks.length 2 0) :
    run ctx (limP h) (.draw2 [⟨(some 58), .r (.ld 12 true (.t 6)), none, [6], 0, 2⟩,
      ⟨(some 59), .r (.ld 12 true (.t 8)), none, [8], 0, 3⟩,
      ic 11 (.alloc (rep1 (.int .u64 0) 12)),
      ic 12 (.alloc (rep1 (.int .u64 0) 12)),
      ⟨none, .c (.st 12 (.t 11) (.t 58)), none, [11, 58], 0, 0⟩,
      ⟨none, .c (.st 12 (.t 12) (.t 59)), none, [12, 59], 0, 0⟩]
     [⟨(some 58), .r (.ld 12 true (.t 6)), none, [6], 0, 2⟩,
      ⟨(some 59), .r (.ld 12 true (.t 8)), none, [8], 0, 3⟩,
      ic 12 (.alloc (rep1 (.int .u64 0) 12)),
      ic 11 (.alloc (rep1 (.int .u64 0) 12)),
      ⟨none, .c (.st 12 (.t 11) (.t 58)), none, [11, 58], 0, 0⟩,
      ⟨none, .c (.st 12 (.t 12) (.t 59)), none, [12, 59], 0, 0⟩]
     [(0, 0), (1, 1)]) fr (hx h [po, cW v, cW w] []) =
    some (.normal, upd (upd (upd (upd fr 58 (.agg (cW v))) 59 (.agg (cW w))) 11 (pA h.blks.length 3 0)) 12 (pA h.blks.length 4 0), hx h [po, cW v, cW w, cW v, cW w] []) := by
  have hz0 : rep1 (AVal.int .u64 0) 12 = cW (feL (tab 3 fun _ => 0)) := by rw [rep1_W]; exact congrArg cW (zeros_feL 3)
  have l0 : (feL (tab 3 fun _ => 0)).length = 12 := by simp
  have hrob : (limP h).rob ≤ h.blks.length := Nat.le_refl _
  have u1 := under_cW (h.blks.length + 3) h.toks.length v
  have u2 := under_cW (h.blks.length + 3) h.toks.length w
  generalize feL (tab 3 fun _ => 0) = fz at *
  simp -implicitDefEqProofs [h6, h8, hz0, l0, hv, hw, stKB, setAtB, storeA_fl, hrob, partAB]
  rw [twoE_some]
  · simp
  · have e1 : (hx h [po, cW v, cW w] []).blks.length = h.blks.length + 3 := by simp [hx]
    have e2 : (hx h [po, cW v, cW w] []).toks.length = h.toks.length := by simp [hx]
    refine ⟨.inr ⟨cW v, cW w, cW v, cW w, by simp [hx], by simp [hx], ?_, ?_, ?_, ?_, ?_⟩, ?_⟩
    · intro e; have := congrArg List.length e; simp [hv] at this
    · intro e; have := congrArg List.length e; simp [hw] at this
    · rw [e1, e2]; exact .same u1
    · rw [e1, e2]; exact .same u2
    · rw [e1, e2]
      intro t ht
      have : t = 58 ∨ t = 59 ∨ t = 11 ∨ t = 12 := by simpa [dsts] using ht
      rcases this with rfl | rfl | rfl | rfl
      · exact .same _ u1
      · exact .same _ u2
      · exact swV_01 _ _ _
      · exact swV_10 _ _ _
    · intro q hq
      simp only [List.mem_cons, List.not_mem_nil, or_false] at hq
      rcases hq with rfl | rfl <;> rfl
end Go.Av

namespace Go.Av
set_option maxHeartbeats 4000000
set_option maxRecDepth 20000
set_option linter.unusedSimpArgs false
set_option linter.unusedVariables false
theorem loop_Unl {fr : Fr} {h : AHeap} {R : Option (AEx × Fr × AHeap)} (v w : List Nat) (hv : v.length = 3) (hw : w.length = 3) (Q : Nat × List Nat) (hQ : elemsN srcG 195 = some Q) (K : List Nat) (hK : Q.2 ++ cauchyN = K)
    (V W c0 : List AVal) (hp0 : poOk K c0)
    (hF : run ctx (limP h) (.loop Ba_avouchlaw10zPoseidonUnlike) fr (hx h [c0, V, W, cW (feL v), cW (feL w)] []) = R)
    (h5 : fr 5 = pA h.blks.length 0 0) (h11 : fr 11 = pA h.blks.length 3 0) (h12 : fr 12 = pA h.blks.length 4 0) (h10 : fr 10 = .bool (smN v w)) (h60 : fr 60 = .int .i64 0) :
    ∃ fr' c, poOk K c ∧ R = some (.exit 0, fr', hx h [c, V, W, cW (feL (permN K v 65)), cW (feL (permN K w 65))] []) ∧ ∀ t, t ∉ wr Ba_avouchlaw10zPoseidonUnlike → fr' t = fr t := by
  obtain ⟨e, fr', h', rfl, ⟨rfl, c, hc, rfl⟩, hk⟩ := loop_rule hF 65
    (fun k fr hh => fr 60 = .int .i64 (k : Int) ∧ ∃ c, poOk K c ∧ hh = hx h [c, V, W, cW (feL (permN K v k)), cW (feL (permN K w k))] [])
    (fun e fr hh => e = .exit 0 ∧ ∃ c, poOk K c ∧ hh = hx h [c, V, W, cW (feL (permN K v 65)), cW (feL (permN K w 65))] [])
    ⟨h60, c0, hp0, rfl⟩ (by
      rintro k fr1 hh hkN hkeep ⟨g60, c, hp, rfl⟩
      have g5 := (hkeep 5 (by decide)).trans h5
      have g11 := (hkeep 11 (by decide)).trans h11
      have g12 := (hkeep 12 (by decide)).trans h12
      have g10 := (hkeep 10 (by decide)).trans h10
      by_cases hlt : k < 65
      · have w1 : IntKind.i64.wrap ((k : Int) + 1) = k + 1 := wrap_i64 (by omega) (by omega)
        have hR1 := fun L hL => ok_Round L h [c, V, W, cW (feL (permN K v k)), cW (feL (permN K w k))] [] 0 c (permN K v k) (k : Int) (permN_len _ _ hv k) rfl Q hQ (by rw [hK]; exact hp) hL
        have hR2 := fun L hL => ok_Round L h [poF K, V, W, cW (feL (permN K v k)), cW (feL (permN K w k))] [] 0 (poF K) (permN K w k) (k : Int) (permN_len _ _ hw k) rfl Q hQ (by rw [hK]; exact .inl rfl) hL
        simp only [hK, List.set_cons_zero] at hR1 hR2
        have ev : roundN K (permN K v k) (k : Int) = permN K v (k + 1) := rfl
        have ew : roundN K (permN K w k) (k : Int) = permN K w (k + 1) := rfl
        rw [ev] at hR1
        rw [ew] at hR2
        have hD : (decide (fe (gd (permN K v (k + 1)) 0 0) = fe (gd (permN K w (k + 1)) 0 0)) && (decide (fe (gd (permN K v (k + 1)) 0 1) = fe (gd (permN K w (k + 1)) 0 1)) && decide (fe (gd (permN K v (k + 1)) 0 2) = fe (gd (permN K w (k + 1)) 0 2)))) = smN v w := sm_perm K v w (k + 1)
        have nv := permN_len K v hv (k + 1)
        have nw := permN_len K w hw (k + 1)
        have lv : (feL (permN K v (k + 1))).length = 12 := by simp [nv]
        have lw : (feL (permN K w (k + 1))).length = 12 := by simp [nw]
        have lv0 : (feL (permN K v k)).length = 12 := by simp [permN_len K v hv k]
        have lw0 : (feL (permN K w k)).length = 12 := by simp [permN_len K w hw k]
        have p0 := part_fe0 (permN K v (k + 1)) 0 0 rfl (by omega)
        have p1 := part_fe0 (permN K v (k + 1)) 4 1 rfl (by omega)
        have p2 := part_fe0 (permN K v (k + 1)) 8 2 rfl (by omega)
        have q0 := part_fe0 (permN K w (k + 1)) 0 0 rfl (by omega)
        have q1 := part_fe0 (permN K w (k + 1)) 4 1 rfl (by omega)
        have q2 := part_fe0 (permN K w (k + 1)) 8 2 rfl (by omega)
        have hE := fun i L h => ok_Equal L h (fe (gd (permN K v (k + 1)) 0 i)) (fe (gd (permN K w (k + 1)) 0 i)) rfl rfl
        have hE0 := hE 0
        have hE1 := hE 1
        have hE2 := hE 2
        have ia0 : ∀ i, iadrA (some 3) 4 (pA h.blks.length i 0) (.int .i64 0) = some (pA h.blks.length i 0) := fun i => iadr_pA 3 4 h.blks.length i 0 0 .i64 rfl
        have ia1 : ∀ i, iadrA (some 3) 4 (pA h.blks.length i 0) (.int .i64 1) = some (pA h.blks.length i 4) := fun i => iadr_pA 3 4 h.blks.length i 0 1 .i64 rfl
        have ia2 : ∀ i, iadrA (some 3) 4 (pA h.blks.length i 0) (.int .i64 2) = some (pA h.blks.length i 8) := fun i => iadr_pA 3 4 h.blks.length i 0 2 .i64 rfl
        have hrob : (limP h).rob ≤ h.blks.length := Nat.le_refl _
        have hpF : poOk K (poF K) := .inl rfl
        clear hE
        generalize smN v w = sm at *
        generalize decide (fe (gd (permN K v (k + 1)) 0 0) = fe (gd (permN K w (k + 1)) 0 0)) = d0 at *
        generalize decide (fe (gd (permN K v (k + 1)) 0 1) = fe (gd (permN K w (k + 1)) 0 1)) = d1 at *
        generalize decide (fe (gd (permN K v (k + 1)) 0 2) = fe (gd (permN K w (k + 1)) 0 2)) = d2 at *
        generalize fe (gd (permN K v (k + 1)) 0 0) = a0 at *
        generalize fe (gd (permN K v (k + 1)) 0 1) = a1 at *
        generalize fe (gd (permN K v (k + 1)) 0 2) = a2 at *
        generalize fe (gd (permN K w (k + 1)) 0 0) = b0 at *
        generalize fe (gd (permN K w (k + 1)) 0 1) = b1 at *
        generalize fe (gd (permN K w (k + 1)) 0 2) = b2 at *
        generalize hv2 : feL (permN K v (k + 1)) = v2 at *
        generalize hw2 : feL (permN K w (k + 1)) = w2 at *
        generalize feL (permN K v k) = v1 at *
        generalize feL (permN K w k) = w1' at *
        generalize hpf : poF K = pf at *
        have fin : ∀ k', k' = k + 1 → ∃ c, poOk K c ∧ hx h [pf, V, W, cW v2, cW w2] [] = hx h [c, V, W, cW (feL (permN K v k')), cW (feL (permN K w k'))] [] := fun k' e => ⟨pf, hpF, by rw [e, hv2, hw2]⟩
        rcases d0 with _ | _ <;> rcases d1 with _ | _ <;> rcases d2 with _ | _ <;> simp only [Bool.and_true, Bool.true_and, Bool.and_false, Bool.false_and] at hD <;> subst hD <;>
          simp -implicitDefEqProofs [Ba_avouchlaw10zPoseidonUnlike, g5, g10, g11, g12, g60, show (k : Int) < 65 by omega, w1, hR1, hR2, lv, lw, lv0, lw0, p0, p1, p2, q0, q1, q2, hE0, hE1, hE2, ia0, ia1, ia2, hrob, stKB, setAtB, storeA_fl, partAB, eqBB] <;>
          first | exact ⟨hlt, fin _ rfl⟩ | skip
      · have : k = 65 := by omega
        subst this
        generalize feL (permN K v 65) = v1 at *
        generalize feL (permN K w 65) = w1 at *
        simp [Ba_avouchlaw10zPoseidonUnlike, g60]
        exact ⟨c, hp, rfl⟩)
  exact ⟨fr', c, hc, rfl, hk⟩
end Go.Av

namespace Go.Av
set_option maxHeartbeats 4000000
set_option maxRecDepth 20000
set_option linter.unusedSimpArgs false
set_option linter.unusedVariables false
theorem ok_PoseidonUnlike (L : Lim) (h : AHeap) (x y z x' y' z' : List Int) (hx1 : inB x) (hy1 : inB y) (hz1 : inB z) (hx2 : inB x') (hy2 : inB y') (hz2 : inB z') :
    acall ctx L i_avouchlaw10zPoseidonUnlike [.agg (tB [x, y, z]), .agg (tB [x', y', z'])] h = some (.bool true, h) := by
  rw [call_avouchlaw10zPoseidonUnlike]
  have hS := ok_speaks10
  have hf := fzA_tB h x y z
  have hf' := fzA_tB h x' y' z'
  have hbox : boxK (.agg (tB [x, y, z])) = some (.vptr (tB [x, y, z]) 0) := rfl
  have hbox' : boxK (.agg (tB [x', y', z'])) = some (.vptr (tB [x', y', z']) 0) := rfl
  have hpt : partA true (tB [x, y, z]) 0 3 = some (.agg (tB [x, y, z])) := rfl
  have hpt' : partA true (tB [x', y', z']) 0 3 = some (.agg (tB [x', y', z'])) := rfl
  have hfew := fun L h => ok_few L h x y z
  have hfew' := fun L h => ok_few L h x' y' z'
  by_cases hc : (decide (x.length ≤ 40) && (decide (y.length ≤ 40) && decide (z.length ≤ 40))) = true
  · rw [hc] at hfew
    simp only [Bool.and_eq_true, decide_eq_true_eq] at hc
    by_cases hc2 : (decide (x'.length ≤ 40) && (decide (y'.length ≤ 40) && decide (z'.length ≤ 40))) = true
    · rw [hc2] at hfew'
      simp only [Bool.and_eq_true, decide_eq_true_eq] at hc2
      have hOf := fun L h => ok_POf L h x y z ⟨hx1, by omega⟩ ⟨hy1, by omega⟩ ⟨hz1, by omega⟩
      have hOf' := fun L h => ok_POf L h x' y' z' ⟨hx2, by omega⟩ ⟨hy2, by omega⟩ ⟨hz2, by omega⟩
      obtain ⟨v, hv⟩ : ∃ v, v = [leN x, leN y, leN z] := ⟨_, rfl⟩
      obtain ⟨w, hw⟩ : ∃ w, w = [leN x', leN y', leN z'] := ⟨_, rfl⟩
      rw [← hv] at hOf
      rw [← hw] at hOf'
      have hvl : v.length = 3 := by rw [hv]; rfl
      have hwl : w.length = 3 := by rw [hw]; rfl
      have hN := fun L => ok_PNew L h [] []
      obtain ⟨Q, hQ⟩ : ∃ Q, elemsN srcG 195 = some Q := ⟨_, elems_lit⟩
      obtain ⟨K, hK⟩ : ∃ K, Q.2 ++ cauchyN = K := ⟨_, rfl⟩
      have hp0 : poOk K (poC 0 0 0 (tab 204 fun _ => 0)) := poOk_new _
      have l0 : (feL (tab 3 fun _ => 0)).length = 12 := by simp
      have lv : (feL v).length = 12 := by simp [hvl]
      have lw : (feL w).length = 12 := by simp [hwl]
      have hz0 : rep1 (AVal.int .u64 0) 12 = cW (feL (tab 3 fun _ => 0)) := by rw [rep1_W]; exact congrArg cW (zeros_feL 3)
      have hT := fun fr po => two_run fr h po (feL v) (feL w) lv lw
      simp only [hz0] at hT
      have hlo := fun fr R c0 => loop_Unl (fr := fr) (h := h) (R := R) v w hvl hwl Q hQ K hK (cW (feL v)) (cW (feL w)) c0
      have hP := fun c hc L hL => ok_Perm L h [c, cW (feL v), cW (feL w), cW (feL (permN K v 65)), cW (feL (permN K w 65))] [] 0 c v hvl rfl Q hQ (by rw [hK]; exact hc) hL
      simp only [hK, List.set_cons_zero] at hP
      have nv := permN_len K v hvl 65
      have lv65 : (feL (permN K v 65)).length = 12 := by simp [nv]
      have p0 := part_fe0 v 0 0 rfl (by omega)
      have p1 := part_fe0 v 4 1 rfl (by omega)
      have p2 := part_fe0 v 8 2 rfl (by omega)
      have q0 := part_fe0 w 0 0 rfl (by omega)
      have q1 := part_fe0 w 4 1 rfl (by omega)
      have q2 := part_fe0 w 8 2 rfl (by omega)
      have r0 := part_fe0 (permN K v 65) 0 0 rfl (by omega)
      have r1 := part_fe0 (permN K v 65) 4 1 rfl (by omega)
      have r2 := part_fe0 (permN K v 65) 8 2 rfl (by omega)
      have hE0 := fun L h => ok_Equal L h (fe (gd v 0 0)) (fe (gd w 0 0)) rfl rfl
      have hE1 := fun L h => ok_Equal L h (fe (gd v 0 1)) (fe (gd w 0 1)) rfl rfl
      have hE2 := fun L h => ok_Equal L h (fe (gd v 0 2)) (fe (gd w 0 2)) rfl rfl
      have hS0 := fun L h => ok_Equal L h (fe (gd (permN K v 65) 0 0)) (fe (gd (permN K v 65) 0 0)) rfl rfl
      have hS1 := fun L h => ok_Equal L h (fe (gd (permN K v 65) 0 1)) (fe (gd (permN K v 65) 0 1)) rfl rfl
      have hS2 := fun L h => ok_Equal L h (fe (gd (permN K v 65) 0 2)) (fe (gd (permN K v 65) 0 2)) rfl rfl
      simp only [decide_true] at hS0 hS1 hS2
      have hD : (decide (fe (gd v 0 0) = fe (gd w 0 0)) && (decide (fe (gd v 0 1) = fe (gd w 0 1)) && decide (fe (gd v 0 2) = fe (gd w 0 2)))) = smN v w := rfl
      have ia0 : ∀ i, iadrA (some 3) 4 (pA h.blks.length i 0) (.int .i64 0) = some (pA h.blks.length i 0) := fun i => iadr_pA 3 4 h.blks.length i 0 0 .i64 rfl
      have ia1 : ∀ i, iadrA (some 3) 4 (pA h.blks.length i 0) (.int .i64 1) = some (pA h.blks.length i 4) := fun i => iadr_pA 3 4 h.blks.length i 0 1 .i64 rfl
      have ia2 : ∀ i, iadrA (some 3) 4 (pA h.blks.length i 0) (.int .i64 2) = some (pA h.blks.length i 8) := fun i => iadr_pA 3 4 h.blks.length i 0 2 .i64 rfl
      have hrob : (limP h).rob ≤ h.blks.length := Nat.le_refl _
      clear hv hw
      generalize tab 3 (dOf [x, y, z]) = n1 at *
      generalize tab 3 (dOf [x', y', z']) = n2 at *
      generalize tB [x, y, z] = t1 at *
      generalize tB [x', y', z'] = t2 at *
      generalize poC 0 0 0 (tab 204 fun _ => 0) = pz at *
      generalize poF K = pf at *
      generalize smN v w = sm at *
      generalize decide (fe (gd v 0 0) = fe (gd w 0 0)) = d0 at *
      generalize decide (fe (gd v 0 1) = fe (gd w 0 1)) = d1 at *
      generalize decide (fe (gd v 0 2) = fe (gd w 0 2)) = d2 at *
      generalize fe (gd v 0 0) = fv0 at *
      generalize fe (gd v 0 1) = fv1 at *
      generalize fe (gd v 0 2) = fv2 at *
      generalize fe (gd w 0 0) = fw0 at *
      generalize fe (gd w 0 1) = fw1 at *
      generalize fe (gd w 0 2) = fw2 at *
      generalize fe (gd (permN K v 65) 0 0) = fp0 at *
      generalize fe (gd (permN K v 65) 0 1) = fp1 at *
      generalize fe (gd (permN K v 65) 0 2) = fp2 at *
      generalize feL (permN K v 65) = v65 at *
      generalize feL (permN K w 65) = w65 at *
      generalize feL (tab 3 fun _ => 0) = fz at *
      generalize feL v = v0 at *
      generalize feL w = w0 at *
      rcases d0 with _ | _ <;> rcases d1 with _ | _ <;> rcases d2 with _ | _ <;> simp only [Bool.and_true, Bool.true_and, Bool.and_false, Bool.false_and] at hD <;> subst hD <;>
      · simp -implicitDefEqProofs [-run_draw2', C_avouchlaw10zPoseidonUnlike, hS, hf, hf', hbox, hbox', hpt, hpt', hfew, hfew', hN, hOf, hOf', hz0, l0, lv, lw, stKB, setAtB, storeA_fl, hrob, partAB, p0, p1, p2, q0, q1, q2, hE0, hE1, hE2, ia0, ia1, ia2, hT]
        generalize hF : run ctx _ (.loop _) _ _ = R
        obtain ⟨fr1, c, hc1, rfl, hk1⟩ := hlo _ _ _ hp0 hF (by simp) (by simp) (by simp) (by simp) (by simp)
        have hP1 := hP c hc1
        simp -implicitDefEqProofs [hk1, wr, Ba_avouchlaw10zPoseidonUnlike, dsts, hP1, hz0, l0, lv, lw, lv65, stKB, setAtB, storeA_fl, hrob, partAB, r0, r1, r2, hS0, hS1, hS2, ia0, ia1, ia2]
    · have hc' : (decide (x'.length ≤ 40) && (decide (y'.length ≤ 40) && decide (z'.length ≤ 40))) = false := by simpa using hc2
      rw [hc'] at hfew'
      generalize tB [x, y, z] = t1 at *
      generalize tB [x', y', z'] = t2 at *
      simp -implicitDefEqProofs [C_avouchlaw10zPoseidonUnlike, hS, hf, hf', hbox, hbox', hpt, hpt', hfew, hfew']
  · have hc' : (decide (x.length ≤ 40) && (decide (y.length ≤ 40) && decide (z.length ≤ 40))) = false := by simpa using hc
    rw [hc'] at hfew
    generalize tB [x, y, z] = t1 at *
    generalize tB [x', y', z'] = t2 at *
    simp -implicitDefEqProofs [C_avouchlaw10zPoseidonUnlike, hS, hf, hf', hbox, hbox', hpt, hpt', hfew, hfew']
end Go.Av
