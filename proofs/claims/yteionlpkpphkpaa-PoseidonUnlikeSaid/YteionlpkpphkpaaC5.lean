/- The permutation of the program is that of the numbers. -/
import Derived.Test.YteionlpkpphkpaaC4
namespace Go.Av
set_option maxHeartbeats 2000000
set_option maxRecDepth 20000
set_option linter.unusedSimpArgs false
set_option linter.unusedVariables false
/-- So many elements. -/
def elemsN (s : Nat) : Nat → Option (Nat × List Nat)
  | 0 => some (s, [])
  | k + 1 => match elemsN s k with
    | none => none
    | some q => match elemN 40 q.1 with
      | none => none
      | some r => some (r.1, q.2 ++ [r.2])
theorem elemsN_succ {s k : Nat} {q : Nat × List Nat} (h : elemsN s (k + 1) = some q) : ∃ p r, elemsN s k = some p ∧ elemN 40 p.1 = some r ∧ q = (r.1, p.2 ++ [r.2]) := by
  simp only [elemsN] at h
  cases hp : elemsN s k with
  | none => rw [hp] at h; cases h
  | some p =>
    rw [hp] at h
    simp only at h
    cases hr : elemN 40 p.1 with
    | none => rw [hr] at h; cases h
    | some r =>
      rw [hr] at h
      exact ⟨p, r, rfl, hr, (Option.some.inj h).symm⟩
theorem elemsN_pre {s : Nat} : ∀ {k : Nat} {q : Nat × List Nat}, elemsN s k = some q → ∀ j, j ≤ k → ∃ p, elemsN s j = some p
  | 0, q, h, j, hj => ⟨q, by rw [show j = 0 by omega]; exact h⟩
  | k + 1, q, h, j, hj => by
    obtain ⟨p, r, h1, h2, h3⟩ := elemsN_succ h
    by_cases e : j = k + 1
    · subst e; exact ⟨q, h⟩
    · exact elemsN_pre h1 j (by omega)
theorem elemsN_ok {s : Nat} (hs : s < 2 ^ 80) : ∀ {k : Nat} {q : Nat × List Nat}, elemsN s k = some q → q.1 < 2 ^ 80 ∧ q.2.length = k
  | 0, q, h => by
    obtain rfl := Option.some.inj h
    exact ⟨hs, rfl⟩
  | k + 1, q, h => by
    obtain ⟨p, r, h1, h2, rfl⟩ := elemsN_succ h
    obtain ⟨a, b⟩ := elemsN_ok hs h1
    exact ⟨(elemN_lt 40 _ r h2 a).1, by simp [b]⟩
/-- The block of a permutation. -/
def poH (d m u : Int) : List AVal := [.int .u32 d, .int .i32 m, .int .u32 u]
def poC (d m u : Int) (l : List Nat) : List AVal := poH d m u ++ cW (feL l)
@[simp] theorem poC_len (d m u : Int) (l : List Nat) : (poC d m u l).length = 3 + 4 * l.length := by simp [poC, poH]; omega
theorem poC_part (d m u : Int) (l : List Nat) (o i : Nat) (ho : o = 3 + 4 * i) (h : i < l.length) : partA true (poC d m u l) o 4 = some (.agg (cW (fe (gd l 0 i)))) := part_fe (poH d m u) l o i ho h
theorem poC_parts (d m u : Int) (l : List Nat) (o i k : Nat) (ho : o = 3 + 4 * i) (h : i + k ≤ l.length) : partA true (poC d m u l) o (4 * k) = some (.agg (cW (feL ((l.drop i).take k)))) := part_feL (poH d m u) l o i k ho h
theorem poC_set (d m u : Int) (l : List Nat) (x o i : Nat) (ho : o = 3 + 4 * i) (h : i < l.length) : setAt (poC d m u l) o (cW (fe x)) = poC d m u (l.set i x) := set_fe (poH d m u) l x o i ho h
theorem poC_sets (d m u : Int) (l n : List Nat) (o i : Nat) (ho : o = 3 + 4 * i) (h : i + n.length ≤ l.length) : setAt (poC d m u l) o (cW (feL n)) = poC d m u (putAt l i n) := set_feL (poH d m u) l n o i ho h
/-- A list whose beginning is new. -/
theorem begin_set (p l : List Nat) (k x : Nat) (hp : p.length = k) (hk : k < l.length) : (p ++ l.drop k).set k x = (p ++ [x]) ++ l.drop (k + 1) := by
  subst hp
  rw [List.set_append_right _ _ (Nat.le_refl _), Nat.sub_self, List.drop_eq_getElem_cons hk, List.append_assoc]
  rfl
section
variable (d m u : Int) (l : List Nat)
theorem loop_fill1 {L : Lim} {fr : Fr} {h : AHeap} {R : Option (AEx × Fr × AHeap)} (bs : List (List AVal)) (ts : List Nat) (b i : Nat) (hl : l.length = 204) (hi : i < 65) (hb : b < bs.length) (Q : Nat × List Nat) (hQ : elemsN srcG 195 = some Q) (y z : List AVal) (hL : L.rob ≤ h.blks.length)
    (p0 : Nat × List Nat) (hp0 : elemsN srcG (3 * i) = some p0) (a0 : Nat) (ha0 : a0 < 80)
    (hF : run ctx L (.loop Ba_poseidon_Permutation_fill) fr (hx h (bs.set b (poC d m u (p0.2 ++ l.drop (3 * i))) ++ [srcC p0.1 a0, y, z]) ts) = R)
    (h0 : fr 0 = pA h.blks.length b 0) (h2 : fr 2 = pA h.blks.length bs.length 0) (h4 : fr 4 = .int .i64 (i : Int)) (h17 : fr 17 = .int .i64 0) :
    ∃ fr' p1 a1, a1 < 80 ∧ elemsN srcG (3 * (i + 1)) = some p1 ∧ R = some (.exit 2, fr', hx h (bs.set b (poC d m u (p1.2 ++ l.drop (3 * (i + 1)))) ++ [srcC p1.1 a1, y, z]) ts) ∧ ∀ t, t ∉ wr Ba_poseidon_Permutation_fill → fr' t = fr t := by
  obtain ⟨e', fr', h', rfl, ⟨rfl, p1, a1, ha1, hp1, rfl⟩, hk⟩ := loop_rule hF 3
    (fun k fr hh => fr 17 = .int .i64 (k : Int) ∧ ∃ p1 a1, a1 < 80 ∧ elemsN srcG (3 * i + k) = some p1 ∧ hh = hx h (bs.set b (poC d m u (p1.2 ++ l.drop (3 * i + k))) ++ [srcC p1.1 a1, y, z]) ts)
    (fun e' fr hh => e' = .exit 2 ∧ ∃ p1 a1, a1 < 80 ∧ elemsN srcG (3 * (i + 1)) = some p1 ∧ hh = hx h (bs.set b (poC d m u (p1.2 ++ l.drop (3 * (i + 1)))) ++ [srcC p1.1 a1, y, z]) ts)
    ⟨h17, p0, a0, ha0, hp0, rfl⟩ (by
      rintro k fr1 hh hkN hkeep ⟨g17, p1, a1, ha1, hp1, rfl⟩
      have g0 := (hkeep 0 (by decide)).trans h0
      have g2 := (hkeep 2 (by decide)).trans h2
      have g4 := (hkeep 4 (by decide)).trans h4
      by_cases hlt : k < 3
      · have w1 : IntKind.i64.wrap ((k : Int) + 1) = k + 1 := wrap_i64 (by omega) (by omega)
        obtain ⟨q1, hq1⟩ := elemsN_pre hQ (3 * i + k + 1) (by omega)
        obtain ⟨p', r, e1, e2, rfl⟩ := elemsN_succ hq1
        rw [hp1] at e1
        obtain rfl := Option.some.inj e1
        obtain ⟨hs1, hlen1⟩ := elemsN_ok srcG_lt hp1
        have hdl : (bs.set b (poC d m u (p1.2 ++ l.drop (3 * i + k)))).length = bs.length := by simp
        have hr0 := app_getR (bs.set b (poC d m u (p1.2 ++ l.drop (3 * i + k)))) [srcC p1.1 a1, y, z] bs.length 0 hdl.symm
        have hs0 := fun v => app_setR (bs.set b (poC d m u (p1.2 ++ l.drop (3 * i + k)))) [srcC p1.1 a1, y, z] bs.length 0 v hdl.symm
        simp only [Nat.add_zero, List.getElem?_cons_zero, List.set_cons_zero] at hr0 hs0
        obtain ⟨a2, ha2, hE⟩ := ok_GElement L h (bs.set b (poC d m u (p1.2 ++ l.drop (3 * i + k))) ++ [srcC p1.1 a1, y, z]) ts bs.length p1.1 a1 40 r e2 hs1 ha1 hr0 hL
        rw [hs0] at hE
        have i1 := iadr_pA 65 12 h.blks.length b 3 i .i64 (by simpa using hi)
        have i2 := iadr_pA 3 4 h.blks.length b (3 + i * 12) k .i64 (by simpa using hlt)
        have hget := app_get [srcC r.1 a2, y, z] (show (bs.set b (poC d m u (p1.2 ++ l.drop (3 * i + k))))[b]? = some (poC d m u (p1.2 ++ l.drop (3 * i + k))) by simp [hb])
        have hset := fun v => app_set [srcC r.1 a2, y, z] v (show b < (bs.set b (poC d m u (p1.2 ++ l.drop (3 * i + k)))).length by simpa using hb)
        simp only [List.set_set] at hset
        have hll : (p1.2 ++ l.drop (3 * i + k)).length = 204 := by simp [hlen1, hl]; omega
        have hsx := poC_set d m u (p1.2 ++ l.drop (3 * i + k)) r.2 (3 + i * 12 + k * 4) (3 * i + k) (by omega) (by omega)
        rw [begin_set p1.2 l (3 * i + k) r.2 hlen1 (by omega)] at hsx
        have hob : 3 + i * 12 + k * 4 + 4 ≤ (poC d m u (p1.2 ++ l.drop (3 * i + k))).length := by rw [poC_len, hll]; omega
        have hfin : ∃ p1 a1, a1 < 80 ∧ elemsN srcG (3 * i + (k + 1)) = some p1 ∧ hx h (bs.set b (poC d m u ((p1.2 ++ l.drop (3 * i + (k + 1))))) ++ [srcC p1.1 a1, y, z]) ts = hx h (bs.set b (poC d m u ((p1.2 ++ l.drop (3 * i + (k + 1))))) ++ [srcC p1.1 a1, y, z]) ts := ⟨_, a2, ha2, hq1, rfl⟩
        clear hfin
        have hfin : ∃ p3 a3, a3 < 80 ∧ elemsN srcG (3 * i + (k + 1)) = some p3 ∧ hx h (bs.set b (poC d m u ((p1.2 ++ [r.2]) ++ l.drop (3 * i + k + 1))) ++ [srcC r.1 a2, y, z]) ts = hx h (bs.set b (poC d m u ((p3.2 ++ l.drop (3 * i + (k + 1))))) ++ [srcC p3.1 a3, y, z]) ts := ⟨_, a2, ha2, hq1, rfl⟩
        have l3 := fe_len r.2
        generalize poC d m u ((p1.2 ++ [r.2]) ++ l.drop (3 * i + k + 1)) = c2 at *
        generalize poC d m u (p1.2 ++ l.drop (3 * i + k)) = c1 at *
        generalize fe r.2 = rr at *
        generalize srcC p1.1 a1 = s1 at *
        generalize srcC r.1 a2 = s2 at *
        generalize 3 + i * 12 + k * 4 = o at *
        generalize 3 + i * 12 = o1 at *
        simp -implicitDefEqProofs [Ba_poseidon_Permutation_fill, g0, g2, g4, g17, show (k : Int) < 3 by omega, w1, hE, i1, i2, stKB, l3, hget, hset, hsx, hob, storeA_fl, hL]
        obtain ⟨p3, a3, f1, f2, f3⟩ := hfin
        exact ⟨hlt, p3.1, p3.2, a3, f1, f2, f3⟩
      · have : k = 3 := by omega
        subst this
        rw [show 3 * i + 3 = 3 * (i + 1) by omega] at *
        simp [Ba_poseidon_Permutation_fill, g17]
        exact ⟨p1.1, p1.2, a1, ha1, hp1, rfl⟩)
  exact ⟨fr', p1, a1, ha1, hp1, rfl, hk⟩
theorem loop_fill {L : Lim} {fr : Fr} {h : AHeap} {R : Option (AEx × Fr × AHeap)} (bs : List (List AVal)) (ts : List Nat) (b : Nat) (hl : l.length = 204) (hb : b < bs.length) (Q : Nat × List Nat) (hQ : elemsN srcG 195 = some Q) (y z : List AVal) (hL : L.rob ≤ h.blks.length)
    (a0 : Nat) (ha0 : a0 < 80)
    (hF : run ctx L (.loop Bb_poseidon_Permutation_fill) fr (hx h (bs.set b (poC d m u l) ++ [srcC srcG a0, y, z]) ts) = R)
    (h0 : fr 0 = pA h.blks.length b 0) (h2 : fr 2 = pA h.blks.length bs.length 0) (h14 : fr 14 = .int .i64 0) :
    ∃ fr' a1, R = some (.exit 0, fr', hx h (bs.set b (poC d m u (Q.2 ++ l.drop 195)) ++ [srcC Q.1 a1, y, z]) ts) ∧ ∀ t, t ∉ wr Bb_poseidon_Permutation_fill → fr' t = fr t := by
  obtain ⟨e', fr', h', rfl, ⟨rfl, p1, a1, ha1, hp1, rfl⟩, hk⟩ := loop_rule hF 65
    (fun k fr hh => fr 14 = .int .i64 (k : Int) ∧ ∃ p1 a1, a1 < 80 ∧ elemsN srcG (3 * k) = some p1 ∧ hh = hx h (bs.set b (poC d m u (p1.2 ++ l.drop (3 * k))) ++ [srcC p1.1 a1, y, z]) ts)
    (fun e' fr hh => e' = .exit 0 ∧ ∃ p1 a1, a1 < 80 ∧ elemsN srcG 195 = some p1 ∧ hh = hx h (bs.set b (poC d m u (p1.2 ++ l.drop 195)) ++ [srcC p1.1 a1, y, z]) ts)
    ⟨h14, (srcG, []), a0, ha0, rfl, by simp⟩ (by
      rintro k fr1 hh hkN hkeep ⟨g14, p1, a1, ha1, hp1, rfl⟩
      have g0 := (hkeep 0 (by decide)).trans h0
      have g2 := (hkeep 2 (by decide)).trans h2
      by_cases hlt : k < 65
      · have w1 : IntKind.i64.wrap ((k : Int) + 1) = k + 1 := wrap_i64 (by omega) (by omega)
        have hlo := fun fr R => loop_fill1 d m u l (L := L) (fr := fr) (h := h) (R := R) bs ts b k hl hlt hb Q hQ y z hL p1 hp1 a1 ha1
        generalize hx h (bs.set b (poC d m u (p1.2 ++ l.drop (3 * k))) ++ [srcC p1.1 a1, y, z]) ts = H1 at *
        simp -implicitDefEqProofs [Bb_poseidon_Permutation_fill, g0, g2, g14, show (k : Int) < 65 by omega]
        generalize hF : run ctx _ (.loop _) _ _ = R
        obtain ⟨fr2, p2, a2, ha2, hp2, rfl, hk2⟩ := hlo _ _ hF (by simp [g0]) (by simp [g2]) (by simp) (by simp)
        simp -implicitDefEqProofs [hk2, wr, Ba_poseidon_Permutation_fill, dsts, g14, w1]
        exact ⟨hlt, p2.1, p2.2, a2, ha2, hp2, rfl⟩
      · have : k = 65 := by omega
        subst this
        rw [show 3 * 65 = 195 from rfl] at *
        generalize hH : hx h (bs.set b (poC d m u (p1.2 ++ l.drop 195)) ++ [srcC p1.1 a1, y, z]) ts = H1 at *
        simp -implicitDefEqProofs [Bb_poseidon_Permutation_fill, g14]
        exact ⟨p1.1, p1.2, a1, ha1, hp1, hH.symm⟩)
  rw [hQ] at hp1
  obtain rfl := Option.some.inj hp1
  exact ⟨fr', a1, rfl, hk⟩
/-- With the constants. -/
theorem ok_fill (L : Lim) (h : AHeap) (bs : List (List AVal)) (ts : List Nat) (b : Nat) (hl : l.length = 204) (hb : bs[b]? = some (poC d m u l)) (Q : Nat × List Nat) (hQ : elemsN srcG 195 = some Q) (hL : L.rob ≤ h.blks.length) :
    acall ctx L i_poseidon_Permutation_fill [pA h.blks.length b 0] (hx h bs ts) = some (.tup [], hx h (bs.set b (poC d m u (Q.2 ++ cauchyN))) ts) := by
  obtain ⟨hbl, hbe⟩ := List.getElem?_eq_some_iff.1 hb
  rw [call_poseidon_Permutation_fill]
  have hcl : (feL cauchyN).length = 36 := by simp [cauchyN]
  have hset := poC_sets d m u l cauchyN 783 195 rfl (by simp [cauchyN, hl])
  have hput : putAt l 195 cauchyN = l.take 195 ++ cauchyN := by
    unfold putAt
    rw [List.drop_of_length_le (by simp [cauchyN, hl]), List.append_nil]
  rw [hput] at hset
  have hl2 : (l.take 195 ++ cauchyN).length = 204 := by simp [cauchyN, hl]
  have hdrop : (l.take 195 ++ cauchyN).drop 195 = cauchyN := by
    rw [List.drop_append, List.drop_of_length_le (by simp; omega), List.length_take, hl]; rfl
  have hlo := fun L hL a0 ha0 fr R y z => loop_fill d m u (l.take 195 ++ cauchyN) (L := L) (fr := fr) (h := h) (R := R) bs ts b hl2 hbl Q hQ y z hL a0 ha0
  simp only [hdrop] at hlo
  have hob : 783 + 36 ≤ (poC d m u l).length := by rw [poC_len, hl]; decide
  have hN := fun L hL hnb => ok_GNew L h (bs.set b (poC d m u (l.take 195 ++ cauchyN))) ts hL hnb
  simp only [List.length_set] at hN
  have hN1 := hN ⟨L.rob, L.rot, h.blks.length + bs.length, h.toks.length + ts.length⟩ hL (Nat.le_refl _)
  obtain ⟨a0, ha0, hN2⟩ := hN1
  have htr := fun js => trunc_app h (bs.set b (poC d m u (Q.2 ++ cauchyN))) js ts bs.length (by simp)
  have hC := ok_Cauchy
  generalize poC d m u (l.take 195 ++ cauchyN) = c2 at *
  generalize poC d m u (Q.2 ++ cauchyN) = c3 at *
  generalize poC d m u l = c1 at *
  generalize feL cauchyN = cc at *
  simp -implicitDefEqProofs [C_poseidon_Permutation_fill, hx_blks, hx_toks, hC, stKB, hcl, hb, hbe, hbl, hob, hset, storeA_fl, hL, hN2, show 819 ≤ c1.length by omega]
  generalize hF : run ctx _ (.loop _) _ _ = R
  obtain ⟨fr1, a1, rfl, hk1⟩ := hlo ⟨L.rob, L.rot, h.blks.length + bs.length, h.toks.length + ts.length⟩ hL a0 ha0 _ _ _ _ hF (by simp) (by simp) (by simp)
  simp -implicitDefEqProofs [htr, hx_blks, hx_toks]
end
/-- The constants of a round. -/
def rowN (K : List Nat) (r : Int) : List Nat := if 0 ≤ r ∧ r < 65 then (K.drop (3 * r.toNat)).take 3 else [0, 0, 0]
theorem rowN_len (K : List Nat) (hK : K.length = 204) (r : Int) : (rowN K r).length = 3 := by
  unfold rowN; split
  · simp [hK]; omega
  · rfl
def poF (K : List Nat) : List AVal := poC 1 0 0 K
/-- The state of a permutation, used or not. -/
def poOk (K : List Nat) (cs : List AVal) : Prop := cs = poF K ∨ ∃ l : List Nat, l.length = 204 ∧ cs = poC 0 0 0 l
theorem ok_Do (L : Lim) (h : AHeap) (bs : List (List AVal)) (ts : List Nat) (b : Nat) (cs : List AVal) (hb : bs[b]? = some cs) (Q : Nat × List Nat) (hQ : elemsN srcG 195 = some Q) (hp : poOk (Q.2 ++ cauchyN) cs) (hL : L.rob ≤ h.blks.length) :
    acall ctx L i_sync_Once_Do [pA h.blks.length b 0, .fn (.func i_poseidon_Permutation_fill) [pA h.blks.length b 0] []] (hx h bs ts) = some (.tup [], hx h (bs.set b (poF (Q.2 ++ cauchyN))) ts) := by
  obtain ⟨hbl, hbe⟩ := List.getElem?_eq_some_iff.1 hb
  have hX : ctx.ext i_sync_Once_Do = some onceX := rfl
  rcases hp with rfl | ⟨l, hl, rfl⟩
  · have e : bs.set b (poF (Q.2 ++ cauchyN)) = bs := by
      refine List.ext_getElem? fun j => ?_
      by_cases e : b = j
      · subst e; rw [List.getElem?_set_self hbl, hb]
      · rw [List.getElem?_set_ne e]
    rw [e]
    exact call_once_done hX hb (d := 1) (m := 0) rfl rfl (by decide)
  · have hg := ok_fill 0 1 0 l L h (bs.set b (poC 0 1 0 l)) ts b hl (by simp [hbl]) Q hQ hL
    rw [List.set_set] at hg
    have := call_once_first (L := L) (f := i_sync_Once_Do) (g := i_poseidon_Permutation_fill) (h := h) (bs := bs) (ts := ts) (i := b) (off := 0) (first := [pA h.blks.length b 0]) (cap := []) hX hb rfl rfl hL (bs2 := bs.set b (poC 0 1 0 (Q.2 ++ cauchyN))) (ts2 := ts) (v := .tup []) hg (by simp [hbl] : _ = some (poC 0 1 0 (Q.2 ++ cauchyN))) rfl rfl
    rw [this, List.set_set]
    rfl
theorem ok_Constants (L : Lim) (h : AHeap) (bs : List (List AVal)) (ts : List Nat) (b : Nat) (cs : List AVal) (r : Int) (hb : bs[b]? = some cs) (Q : Nat × List Nat) (hQ : elemsN srcG 195 = some Q) (hp : poOk (Q.2 ++ cauchyN) cs) (hL : L.rob ≤ h.blks.length) :
    acall ctx L i_poseidon_Permutation_Constants [pA h.blks.length b 0, .int .i64 r] (hx h bs ts) = some (.agg (cW (feL (rowN (Q.2 ++ cauchyN) r))), hx h (bs.set b (poF (Q.2 ++ cauchyN))) ts) := by
  obtain ⟨hbl, hbe⟩ := List.getElem?_eq_some_iff.1 hb
  have hK : (Q.2 ++ cauchyN).length = 204 := by simp [cauchyN, (elemsN_ok srcG_lt hQ).2]
  rw [call_poseidon_Permutation_Constants]
  have hD := fun L hL js => ok_Do L h (bs ++ js) ts b cs (app_get _ hb) Q hQ hp hL
  generalize Q.2 ++ cauchyN = K at *
  have hD1 := fun js => hD ⟨L.rob, L.rot, h.blks.length + bs.length, h.toks.length + ts.length⟩ hL js
  simp only [app_set _ _ hbl] at hD1
  have hdl : (bs.set b (poF K)).length = bs.length := by simp
  have hget : (bs.set b (poF K))[b]? = some (poF K) := by simp [hbl]
  have htr := fun js => trunc_app h (bs.set b (poF K)) js ts bs.length hdl.symm
  generalize bs.set b (poF K) = ds at *
  have hg0 := fun x => app_getR ds [x] bs.length 0 hdl.symm
  have hs0 := fun x v => app_setR ds [x] bs.length 0 v hdl.symm
  have hgb := fun x => app_get [x] hget
  simp only [Nat.add_zero, List.getElem?_cons_zero, List.set_cons_zero] at hg0 hs0
  have hrl := rowN_len K hK r
  by_cases hr : 0 ≤ r ∧ r < 65
  · obtain ⟨n, rfl⟩ := Int.eq_ofNat_of_zero_le hr.1
    have hn : n < 65 := by omega
    have i1 := iadr_pA 65 12 h.blks.length b 3 n .i64 (by simpa using hn)
    have hpt := poC_parts 1 0 0 K (3 + n * 12) (3 * n) 3 (by omega) (by omega)
    have hrow : (K.drop (3 * n)).take 3 = rowN K (n : Int) := by unfold rowN; rw [if_pos hr]; rfl
    rw [hrow, show 4 * 3 = 12 from rfl] at hpt
    have hl3 : (feL (rowN K (n : Int))).length = 12 := by simp [hrl]
    have hpF : poF K = poC 1 0 0 K := rfl
    generalize poC 1 0 0 K = cF at *
    generalize poF K = cF2 at *
    subst hpF
    generalize feL (rowN K (n : Int)) = rr at *
    generalize 3 + n * 12 = o at *
    simp -implicitDefEqProofs [C_poseidon_Permutation_Constants, hx_blks, hx_toks, rep1_W, pA_up, hD1, show ¬ ((n : Int) < 0) by omega, show ¬ (65 : Int) ≤ n by omega, hg0, hs0, hgb, i1, hpt, stKB, setAtB, hl3, storeA_fl, hL, partAB, htr]
  · have hrow : rowN K r = [0, 0, 0] := by unfold rowN; rw [if_neg hr]
    have hz : (tab 12 fun _ => (0#64 : W64)) = feL [0, 0, 0] := zeros_feL 3
    rw [hrow]
    have hl3 : (feL [0, 0, 0]).length = 12 := by simp
    generalize feL [0, 0, 0] = rr at *
    have hfl : fillA (cW rr) [] = some (cW rr) := by simp only [fillA]
    by_cases hneg : r < 0
    · simp -implicitDefEqProofs [C_poseidon_Permutation_Constants, hx_blks, hx_toks, rep1_W, pA_up, hD1, hneg, hg0, hs0, hz, hfl, stKB, setAtB, hl3, storeA_fl, hL, partAB, htr]
    · have h65 : 65 ≤ r := by omega
      simp -implicitDefEqProofs [C_poseidon_Permutation_Constants, hx_blks, hx_toks, rep1_W, pA_up, hD1, hneg, h65, hg0, hs0, hz, hfl, stKB, setAtB, hl3, storeA_fl, hL, partAB, htr]
end Go.Av

namespace Go.Av
set_option maxHeartbeats 2000000
set_option maxRecDepth 20000
set_option linter.unusedSimpArgs false
set_option linter.unusedVariables false
/-- What a round makes of an element ahead of the mixing. -/
def stepE (v c : List Nat) (full : Bool) (j : Nat) : Nat := match full || j == 0 with
  | true => (gd v 0 j + gd c 0 j) ^ 5
  | false => gd v 0 j + gd c 0 j
def fullN (r : Int) : Bool := decide (r < 4) || decide (61 ≤ r)
def roundN (K v : List Nat) (r : Int) : List Nat := applyN cauchyN (tab 3 (stepE v (rowN K r) (fullN r)))
@[simp] theorem roundN_len (K v : List Nat) (r : Int) : (roundN K v r).length = 3 := by simp [roundN]
theorem loop_Round {L : Lim} {fr : Fr} {h : AHeap} {R : Option (AEx × Fr × AHeap)} (ds : List (List AVal)) (ts : List Nat) (v c : List Nat) (hv : v.length = 3) (hc : c.length = 3) (full : Bool) (z : List AVal) (hL : L.rob ≤ h.blks.length)
    (hF : run ctx L (.loop Ba_poseidon_Permutation_Round) fr (hx h (ds ++ [cW (feL v), z, cW (feL c)]) ts) = R)
    (h4 : fr 4 = pA h.blks.length ds.length 0) (h7 : fr 7 = pA h.blks.length (ds.length + 2) 0) (h8 : fr 8 = .bool full) (h19 : fr 19 = .int .i64 0) :
    ∃ fr', R = some (.exit 0, fr', hx h (ds ++ [cW (feL (tab 3 (stepE v c full))), z, cW (feL c)]) ts) ∧ ∀ t, t ∉ wr Ba_poseidon_Permutation_Round → fr' t = fr t := by
  have hvt : v = tab 3 (gd v 0) := tab_gd' 0 hv
  obtain ⟨e', fr', h', rfl, ⟨rfl, rfl⟩, hk⟩ := loop_rule hF 3
    (fun k fr hh => fr 19 = .int .i64 (k : Int) ∧ hh = hx h (ds ++ [cW (feL (mixT 3 (stepE v c full) (gd v 0) k)), z, cW (feL c)]) ts)
    (fun e' fr hh => e' = .exit 0 ∧ hh = hx h (ds ++ [cW (feL (tab 3 (stepE v c full))), z, cW (feL c)]) ts)
    ⟨h19, by rw [mixT_zero, ← hvt]⟩ (by
      rintro k fr1 hh hkN hkeep ⟨g19, rfl⟩
      have g4 := (hkeep 4 (by decide)).trans h4
      have g7 := (hkeep 7 (by decide)).trans h7
      have g8 := (hkeep 8 (by decide)).trans h8
      by_cases hlt : k < 3
      · have w1 : IntKind.i64.wrap ((k : Int) + 1) = k + 1 := wrap_i64 (by omega) (by omega)
        have i1 := iadr_pA 3 4 h.blks.length ds.length 0 k .i64 (by simpa using hlt)
        have i2 := iadr_pA 3 4 h.blks.length (ds.length + 2) 0 k .i64 (by simpa using hlt)
        have hml : (mixT 3 (stepE v c full) (gd v 0) k).length = 3 := by simp
        have p1 := part_fe0 (mixT 3 (stepE v c full) (gd v 0) k) (0 + k * 4) k (by omega) (by omega)
        rw [gd_mixT hlt] at p1
        have p2 := part_fe0 c (0 + k * 4) k (by omega) (by omega)
        have hA := fun L h => ok_Add L h (gd v 0 k) (gd c 0 k)
        have hP := fun L h => ok_Power L h (gd v 0 k + gd c 0 k)
        have s1 := set_fe0 (mixT 3 (stepE v c full) (gd v 0) k) (gd v 0 k + gd c 0 k) (0 + k * 4) k (by omega) (by omega)
        have p3 := part_fe0 ((mixT 3 (stepE v c full) (gd v 0) k).set k (gd v 0 k + gd c 0 k)) (0 + k * 4) k (by omega) (by simpa using hlt)
        rw [gd_set _ _ _ _ _ (by omega), if_pos rfl] at p3
        have s2 := set_fe0 ((mixT 3 (stepE v c full) (gd v 0) k).set k (gd v 0 k + gd c 0 k)) ((gd v 0 k + gd c 0 k) ^ 5) (0 + k * 4) k (by omega) (by simpa using hlt)
        rw [List.set_set] at s2
        have hmx := mixT_set 3 (stepE v c full) (gd v 0) k
        have hb1 : 0 + k * 4 + 4 ≤ (cW (feL (mixT 3 (stepE v c full) (gd v 0) k))).length := by simp; omega
        have hb2 : 0 + k * 4 + 4 ≤ (cW (feL ((mixT 3 (stepE v c full) (gd v 0) k).set k (gd v 0 k + gd c 0 k)))).length := by simp; omega
        have hr0 := fun x y => app_getR ds [x, z, y] ds.length 0 rfl
        have hr2 := fun x y => app_getR ds [x, z, y] ds.length 2 rfl
        have hs0 := fun x y v => app_setR ds [x, z, y] ds.length 0 v rfl
        simp only [Nat.add_zero, List.getElem?_cons_zero, List.getElem?_cons_succ, List.set_cons_zero] at hr0 hr2 hs0
        have l1 := fe_len (gd v 0 k + gd c 0 k)
        have l2 := fe_len ((gd v 0 k + gd c 0 k) ^ 5)
        have hk0 : ((k : Int) == 0) = (k == 0) := by
          by_cases e : k = 0
          · subst e; rfl
          · rw [beq_false_of_ne e]; exact beq_false_of_ne (by omega)
        cases hfu : (full || k == 0) with
        | true =>
          have hst : stepE v c full k = (gd v 0 k + gd c 0 k) ^ 5 := by unfold stepE; rw [hfu]
          rw [← hst, hmx] at s2
          rw [← hst] at hP l2
          generalize fe (stepE v c full k) = f2 at *
          generalize fe (gd v 0 k + gd c 0 k) = f1 at *
          generalize cW (feL ((mixT 3 (stepE v c full) (gd v 0) k).set k (gd v 0 k + gd c 0 k))) = m1 at *
          generalize hm2 : cW (feL (mixT 3 (stepE v c full) (gd v 0) (k + 1))) = m2 at *
          generalize cW (feL (mixT 3 (stepE v c full) (gd v 0) k)) = m0 at *
          generalize 0 + k * 4 = o at *
          simp -implicitDefEqProofs [Ba_poseidon_Permutation_Round, g4, g7, g8, g19, show (k : Int) < 3 by omega, w1, i1, i2, p1, p2, p3, hA, hP, s1, s2, hb1, hb2, hr0, hr2, hs0, l1, l2, stKB, storeA_fl, hL, hk0, hm2]
          cases full with
          | true => simp -implicitDefEqProofs [stKB, storeA_fl, hL, l1, l2, p1, p2, p3, hA, hP, s1, s2, hb1, hb2, hr0, hr2, hs0, i1, i2, hm2, g4, w1, g19]; exact hlt
          | false =>
            have hk1 : (k == 0) = true := by simpa using hfu
            simp -implicitDefEqProofs [hk0.trans hk1, hk1, stKB, storeA_fl, hL, l1, l2, p1, p2, p3, hA, hP, s1, s2, hb1, hb2, hr0, hr2, hs0, i1, i2, hm2, g4, w1, g19]
            exact hlt
        | false =>
          have hst : stepE v c full k = gd v 0 k + gd c 0 k := by unfold stepE; rw [hfu]
          rw [← hst] at s1 l1 hA
          rw [hmx] at s1
          have hff : full = false := by cases full; rfl; simp at hfu
          subst hff
          have hkk : (k == 0) = false := by simpa using hfu
          generalize fe (stepE v c false k) = f2 at *
          generalize hm2 : cW (feL (mixT 3 (stepE v c false) (gd v 0) (k + 1))) = m2 at *
          generalize cW (feL (mixT 3 (stepE v c false) (gd v 0) k)) = m0 at *
          generalize 0 + k * 4 = o at *
          simp -implicitDefEqProofs [Ba_poseidon_Permutation_Round, g4, g7, g8, g19, show (k : Int) < 3 by omega, w1, i1, i2, p1, p2, hA, s1, hb1, hr0, hr2, hs0, l1, stKB, storeA_fl, hL, hk0.trans hkk, hk0, hkk, hm2]
          exact hlt
      · have : k = 3 := by omega
        subst this
        rw [mixT_all]
        simp [Ba_poseidon_Permutation_Round, g19])
  exact ⟨fr', rfl, hk⟩
theorem ok_Round (L : Lim) (h : AHeap) (bs : List (List AVal)) (ts : List Nat) (b : Nat) (cs : List AVal) (v : List Nat) (r : Int) (hv : v.length = 3) (hb : bs[b]? = some cs) (Q : Nat × List Nat) (hQ : elemsN srcG 195 = some Q) (hp : poOk (Q.2 ++ cauchyN) cs) (hL : L.rob ≤ h.blks.length) :
    acall ctx L i_poseidon_Permutation_Round [pA h.blks.length b 0, .agg (cW (feL v)), .int .i64 r] (hx h bs ts) = some (.agg (cW (feL (roundN (Q.2 ++ cauchyN) v r))), hx h (bs.set b (poF (Q.2 ++ cauchyN))) ts) := by
  obtain ⟨hbl, hbe⟩ := List.getElem?_eq_some_iff.1 hb
  have hK : (Q.2 ++ cauchyN).length = 204 := by simp [cauchyN, (elemsN_ok srcG_lt hQ).2]
  have hmat : ((Q.2 ++ cauchyN).drop 195).take 9 = cauchyN := by
    have e := (elemsN_ok srcG_lt hQ).2
    rw [List.drop_append, List.drop_of_length_le (by omega), e]
    rfl
  have hpm := poC_parts 1 0 0 (Q.2 ++ cauchyN) 783 195 9 rfl (by omega)
  rw [hmat] at hpm
  rw [call_poseidon_Permutation_Round]
  have hC := fun L hL js => ok_Constants L h (bs ++ js) ts b cs r (app_get _ hb) Q hQ hp hL
  have hrl := rowN_len (Q.2 ++ cauchyN) hK r
  have hlo := fun L hL fr R ds z => loop_Round (L := L) (fr := fr) (h := h) (R := R) ds ts v (rowN (Q.2 ++ cauchyN) r) hv hrl (fullN r) z hL
  have hAp := fun L h => ok_Apply L h cauchyN (tab 3 (stepE v (rowN (Q.2 ++ cauchyN) r) (fullN r))) (by simp [cauchyN]) (by simp)
  have hrn : applyN cauchyN (tab 3 (stepE v (rowN (Q.2 ++ cauchyN) r) (fullN r))) = roundN (Q.2 ++ cauchyN) v r := rfl
  rw [hrn] at hAp
  have hpF : poF (Q.2 ++ cauchyN) = poC 1 0 0 (Q.2 ++ cauchyN) := rfl
  have hfl := poC_len 1 0 0 (Q.2 ++ cauchyN)
  rw [hK] at hfl
  have l1 : (feL v).length = 12 := by simp [hv]
  have l2 : (feL (rowN (Q.2 ++ cauchyN) r)).length = 12 := by simp [hrl]
  have l3 : (feL (roundN (Q.2 ++ cauchyN) v r)).length = 12 := by simp
  have l4 : (feL (tab 3 (stepE v (rowN (Q.2 ++ cauchyN) r) (fullN r)))).length = 12 := by simp
  rw [← hpF] at hpm hfl
  generalize feL (rowN (Q.2 ++ cauchyN) r) = cr at *
  generalize feL (tab 3 (stepE v (rowN (Q.2 ++ cauchyN) r) (fullN r))) = vr at *
  generalize feL (roundN (Q.2 ++ cauchyN) v r) = rr at *
  generalize feL v = v0 at *
  generalize feL cauchyN = cm at *
  generalize poF (Q.2 ++ cauchyN) = cF at *
  have hC1 := fun js => hC ⟨L.rob, L.rot, h.blks.length + bs.length, h.toks.length + ts.length⟩ hL js
  simp only [app_set _ _ hbl] at hC1
  have hdl : (bs.set b cF).length = bs.length := by simp
  have hget : (bs.set b cF)[b]? = some cF := by simp [hbl]
  have htr := fun js => trunc_app h (bs.set b cF) js ts bs.length hdl.symm
  generalize bs.set b cF = ds at *
  have hs2 := fun x y z v => app_setR ds [x, y, z] bs.length 2 v hdl.symm
  have hg2 := fun x y z => app_getR ds [x, y, z] bs.length 2 hdl.symm
  have hs1 := fun x y z v => app_setR ds [x, y, z] bs.length 1 v hdl.symm
  have hg1 := fun x y z => app_getR ds [x, y, z] bs.length 1 hdl.symm
  have hg0 := fun x y z => app_getR ds [x, y, z] bs.length 0 hdl.symm
  have hgb := fun x y z => app_get [x, y, z] hget
  simp only [Nat.add_zero, List.getElem?_cons_zero, List.getElem?_cons_succ, List.set_cons_zero, List.set_cons_succ] at hg0 hg1 hg2 hs1 hs2
  have hf : fullN r = (decide (r < 4) || decide (61 ≤ r)) := rfl
  have hokv : (AVal.agg (cW v0)).okV = true := okV_agg _
  have hcel : (AVal.agg (cW v0)).cells = cW v0 := by simp only [AVal.cells]
  have hlo1 := fun fr R z => hlo ⟨L.rob, L.rot, h.blks.length + bs.length, h.toks.length + ts.length⟩ hL fr R ds z
  rw [hdl] at hlo1
  generalize fullN r = fu at *
  by_cases hr4 : r < 4
  · obtain rfl : fu = true := by rw [hf]; simp [hr4]
    simp -implicitDefEqProofs [C_poseidon_Permutation_Round, hx_blks, hx_toks, rep1_W, pA_up, copA_box, hokv, hcel, hC1, hr4, hg2, hs2, hdl, stKB, setAtB, l1, l2, storeA_fl, hL]
    generalize hF : run ctx _ (.loop _) _ _ = R
    obtain ⟨fr1, rfl, hk1⟩ := hlo1 _ _ _ hF (by simp) (by simp) (by simp) (by simp)
    simp -implicitDefEqProofs [hk1, wr, Ba_poseidon_Permutation_Round, dsts, hg0, hg1, hs1, hgb, hpm, partAB, l4, l3, hAp, stKB, setAtB, storeA_fl, hL, htr, hx_blks, hx_toks]
  · by_cases hr61 : 61 ≤ r
    · obtain rfl : fu = true := by rw [hf]; simp [hr61]
      simp -implicitDefEqProofs [C_poseidon_Permutation_Round, hx_blks, hx_toks, rep1_W, pA_up, copA_box, hokv, hcel, hC1, hr4, hr61, hg2, hs2, hdl, stKB, setAtB, l1, l2, storeA_fl, hL]
      generalize hF : run ctx _ (.loop _) _ _ = R
      obtain ⟨fr1, rfl, hk1⟩ := hlo1 _ _ _ hF (by simp) (by simp) (by simp) (by simp)
      simp -implicitDefEqProofs [hk1, wr, Ba_poseidon_Permutation_Round, dsts, hg0, hg1, hs1, hgb, hpm, partAB, l4, l3, hAp, stKB, setAtB, storeA_fl, hL, htr, hx_blks, hx_toks]
    · obtain rfl : fu = false := by rw [hf]; simp [hr4, hr61]
      simp -implicitDefEqProofs [C_poseidon_Permutation_Round, hx_blks, hx_toks, rep1_W, pA_up, copA_box, hokv, hcel, hC1, hr4, hr61, hg2, hs2, hdl, stKB, setAtB, l1, l2, storeA_fl, hL]
      generalize hF : run ctx _ (.loop _) _ _ = R
      obtain ⟨fr1, rfl, hk1⟩ := hlo1 _ _ _ hF (by simp) (by simp) (by simp) (by simp)
      simp -implicitDefEqProofs [hk1, wr, Ba_poseidon_Permutation_Round, dsts, hg0, hg1, hs1, hgb, hpm, partAB, l4, l3, hAp, stKB, setAtB, storeA_fl, hL, htr, hx_blks, hx_toks]
end Go.Av

namespace Go.Av
set_option maxHeartbeats 2000000
set_option maxRecDepth 20000
set_option linter.unusedSimpArgs false
set_option linter.unusedVariables false
def permN (K v : List Nat) : Nat → List Nat
  | 0 => v
  | k + 1 => roundN K (permN K v k) (k : Int)
theorem permN_len (K v : List Nat) (hv : v.length = 3) : ∀ k, (permN K v k).length = 3
  | 0 => hv
  | k + 1 => roundN_len _ _ _
theorem set_same {α : Type} {bs : List α} {b : Nat} {cs : α} (hb : bs[b]? = some cs) : bs.set b cs = bs := by
  refine List.ext_getElem? fun j => ?_
  by_cases e : b = j
  · subst e; rw [List.getElem?_set_self (List.getElem?_eq_some_iff.1 hb).1, hb]
  · rw [List.getElem?_set_ne e]
theorem loop_Perm {L : Lim} {fr : Fr} {h : AHeap} {R : Option (AEx × Fr × AHeap)} (bs : List (List AVal)) (ts : List Nat) (b : Nat) (cs : List AVal) (v : List Nat) (hv : v.length = 3) (hb : bs[b]? = some cs) (Q : Nat × List Nat) (hQ : elemsN srcG 195 = some Q) (hp : poOk (Q.2 ++ cauchyN) cs) (z : List AVal) (hL : L.rob ≤ h.blks.length)
    (hF : run ctx L (.loop Ba_poseidon_Permutation_Permute) fr (hx h (bs ++ [cW (feL v), z]) ts) = R)
    (h0 : fr 0 = pA h.blks.length b 0) (h3 : fr 3 = pA h.blks.length bs.length 0) (h6 : fr 6 = .int .i64 0) :
    ∃ fr', R = some (.exit 0, fr', hx h (bs.set b (poF (Q.2 ++ cauchyN)) ++ [cW (feL (permN (Q.2 ++ cauchyN) v 65)), z]) ts) ∧ ∀ t, t ∉ wr Ba_poseidon_Permutation_Permute → fr' t = fr t := by
  obtain ⟨hbl, hbe⟩ := List.getElem?_eq_some_iff.1 hb
  obtain ⟨e', fr', h', rfl, ⟨rfl, rfl⟩, hk⟩ := loop_rule hF 65
    (fun k fr hh => fr 6 = .int .i64 (k : Int) ∧ ∃ c', poOk (Q.2 ++ cauchyN) c' ∧ (k = 0 ∨ c' = poF (Q.2 ++ cauchyN)) ∧ hh = hx h (bs.set b c' ++ [cW (feL (permN (Q.2 ++ cauchyN) v k)), z]) ts)
    (fun e' fr hh => e' = .exit 0 ∧ hh = hx h (bs.set b (poF (Q.2 ++ cauchyN)) ++ [cW (feL (permN (Q.2 ++ cauchyN) v 65)), z]) ts)
    ⟨h6, cs, hp, .inl rfl, by rw [set_same hb]; rfl⟩ (by
      rintro k fr1 hh hkN hkeep ⟨g6, c', hp', hor, rfl⟩
      have g0 := (hkeep 0 (by decide)).trans h0
      have g3 := (hkeep 3 (by decide)).trans h3
      by_cases hlt : k < 65
      · have w1 : IntKind.i64.wrap ((k : Int) + 1) = k + 1 := wrap_i64 (by omega) (by omega)
        have hdl : (bs.set b c').length = bs.length := by simp
        have hdl2 : (bs.set b (poF (Q.2 ++ cauchyN))).length = bs.length := by simp
        have hR := ok_Round L h (bs.set b c' ++ [cW (feL (permN (Q.2 ++ cauchyN) v k)), z]) ts b c' (permN (Q.2 ++ cauchyN) v k) (k : Int) (permN_len _ _ hv k) (app_get _ (by simp [hbl])) Q hQ hp' hL
        rw [app_set _ _ (by simpa using hbl), List.set_set] at hR
        have hn : roundN (Q.2 ++ cauchyN) (permN (Q.2 ++ cauchyN) v k) (k : Int) = permN (Q.2 ++ cauchyN) v (k + 1) := rfl
        rw [hn] at hR
        have l1 : (feL (permN (Q.2 ++ cauchyN) v k)).length = 12 := by simp [permN_len _ _ hv]
        have l2 : (feL (permN (Q.2 ++ cauchyN) v (k + 1))).length = 12 := by simp [permN_len _ _ hv]
        generalize feL (permN (Q.2 ++ cauchyN) v k) = v1 at *
        generalize hv2 : feL (permN (Q.2 ++ cauchyN) v (k + 1)) = v2 at *
        have hg0 := fun x => app_getR (bs.set b c') [x, z] bs.length 0 hdl.symm
        have hs0 := fun x v => app_setR (bs.set b (poF (Q.2 ++ cauchyN))) [x, z] bs.length 0 v hdl2.symm
        have hg1 := fun x => app_getR (bs.set b (poF (Q.2 ++ cauchyN))) [x, z] bs.length 0 hdl2.symm
        simp only [Nat.add_zero, List.getElem?_cons_zero, List.set_cons_zero] at hg0 hs0 hg1
        generalize bs.set b c' = d1 at *
        generalize hd2 : bs.set b (poF (Q.2 ++ cauchyN)) = d2 at *
        simp -implicitDefEqProofs [Ba_poseidon_Permutation_Permute, g0, g3, g6, show (k : Int) < 65 by omega, w1, hR, hg0, hs0, hg1, partAB, stKB, setAtB, l1, l2, storeA_fl, hL]
        exact ⟨hlt, poF (Q.2 ++ cauchyN), .inl rfl, rfl, by rw [hd2, hv2]⟩
      · have : k = 65 := by omega
        subst this
        obtain rfl : c' = poF (Q.2 ++ cauchyN) := by
          rcases hor with h | h
          · omega
          · exact h
        generalize permN (Q.2 ++ cauchyN) v 65 = pv at *
        simp [Ba_poseidon_Permutation_Permute, g6])
  exact ⟨fr', rfl, hk⟩
theorem ok_Perm (L : Lim) (h : AHeap) (bs : List (List AVal)) (ts : List Nat) (b : Nat) (cs : List AVal) (v : List Nat) (hv : v.length = 3) (hb : bs[b]? = some cs) (Q : Nat × List Nat) (hQ : elemsN srcG 195 = some Q) (hp : poOk (Q.2 ++ cauchyN) cs) (hL : L.rob ≤ h.blks.length) :
    acall ctx L i_poseidon_Permutation_Permute [pA h.blks.length b 0, .agg (cW (feL v))] (hx h bs ts) = some (.agg (cW (feL (permN (Q.2 ++ cauchyN) v 65))), hx h (bs.set b (poF (Q.2 ++ cauchyN))) ts) := by
  obtain ⟨hbl, hbe⟩ := List.getElem?_eq_some_iff.1 hb
  rw [call_poseidon_Permutation_Permute]
  have hlo := fun L hL fr R z => loop_Perm (L := L) (fr := fr) (h := h) (R := R) bs ts b cs v hv hb Q hQ hp z hL
  have hlo1 := fun fr R z => hlo ⟨L.rob, L.rot, h.blks.length + bs.length, h.toks.length + ts.length⟩ hL fr R z
  have l1 : (feL v).length = 12 := by simp [hv]
  have l2 : (feL (permN (Q.2 ++ cauchyN) v 65)).length = 12 := by simp [permN_len _ _ hv]
  generalize feL (permN (Q.2 ++ cauchyN) v 65) = v2 at *
  generalize feL v = v1 at *
  have hdl : (bs.set b (poF (Q.2 ++ cauchyN))).length = bs.length := by simp
  generalize bs.set b (poF (Q.2 ++ cauchyN)) = ds at *
  have htr := fun js => trunc_app h ds js ts bs.length hdl.symm
  have hg0 := fun x y => app_getR ds [x, y] bs.length 0 hdl.symm
  have hg1 := fun x y => app_getR ds [x, y] bs.length 1 hdl.symm
  have hs1 := fun x y v => app_setR ds [x, y] bs.length 1 v hdl.symm
  simp only [Nat.add_zero, List.getElem?_cons_zero, List.getElem?_cons_succ, List.set_cons_zero, List.set_cons_succ] at hg0 hg1 hs1
  have hokv : (AVal.agg (cW v1)).okV = true := okV_agg _
  have hcel : (AVal.agg (cW v1)).cells = cW v1 := by simp only [AVal.cells]
  simp -implicitDefEqProofs [C_poseidon_Permutation_Permute, hx_blks, hx_toks, rep1_W, pA_up, copA_box, hokv, hcel]
  generalize hF : run ctx _ (.loop _) _ _ = R
  obtain ⟨fr1, rfl, hk1⟩ := hlo1 _ _ _ hF (by simp) (by simp) (by simp)
  simp -implicitDefEqProofs [hk1, wr, Ba_poseidon_Permutation_Permute, dsts, hg0, hg1, hs1, partAB, l2, stKB, setAtB, storeA_fl, hL, htr, hx_blks, hx_toks]
/-! #### a new one -/
theorem zeros_po : poC 0 0 0 (tab 204 fun _ => 0) = poH 0 0 0 ++ rep1 (.int .u64 0) 816 := by
  unfold poC
  rw [rep1_W, ← zeros_feL 204]
def pnG : AC := .seq (.reg [iv 0 (.mv (.k (.nilp)))])
 (.seq (.reg [iv 1 (.build (poH 0 0 0 ++ rep1 (.int .u64 0) 816) []),
   ic 2 (.box (.t 1)), iv 0 (.mv (.t 2))])
 (.ret))
theorem pnG_eq : C_poseidon_New = pnG := rfl
theorem ok_PNew (L : Lim) (h : AHeap) (bs : List (List AVal)) (ts : List Nat) : acall ctx L i_poseidon_New [] (hx h bs ts) = some (pA h.blks.length bs.length 0, hx h (bs ++ [poC 0 0 0 (tab 204 fun _ => 0)]) ts) := by
  rw [call_poseidon_New, pnG_eq]
  unfold pnG
  rw [← zeros_po]
  generalize poC 0 0 0 (tab 204 fun _ => 0) = c at *
  have hok : (AVal.agg c).okV = true := okV_agg _
  have hcl : (AVal.agg c).cells = c := by simp only [AVal.cells]
  have hfl : fillA c [] = some c := by simp only [fillA]
  simp -implicitDefEqProofs [hfl, copA_box, hok, hcl]
theorem poOk_new (K : List Nat) : poOk K (poC 0 0 0 (tab 204 fun _ => 0)) := .inr ⟨_, by simp, rfl⟩
end Go.Av

namespace Go.Av
set_option maxHeartbeats 2000000
set_option maxRecDepth 20000
set_option linter.unusedSimpArgs false
set_option linter.unusedVariables false
/-- A power, by squares. -/
def powM (m : Nat) : Nat → Nat → Nat → Nat
  | 0, _, _ => 1 % m
  | f + 1, b, e => match e % 2 with
    | 0 => powM m f (b * b % m) (e / 2)
    | _ => b * powM m f (b * b % m) (e / 2) % m
theorem powM_ok (m : Nat) : ∀ (f b e : Nat), e < 2 ^ f → powM m f b e = b ^ e % m
  | 0, b, e, h => by
    have : e = 0 := by simpa using h
    subst this; rfl
  | f + 1, b, e, h => by
    have ih := powM_ok m f (b * b % m) (e / 2) (by rw [Nat.pow_succ] at h; omega)
    have e1 : (b * b % m) ^ (e / 2) % m = b ^ (2 * (e / 2)) % m := by
      rw [← Nat.pow_mod, ← Nat.pow_two, ← Nat.pow_mul]
    unfold powM
    rw [ih, e1]
    split
    · rename_i h0
      rw [show 2 * (e / 2) = e by omega]
    · rename_i h0
      have h1 : e % 2 ≠ 0 := fun h => h0 h
      have h2 : (2 * (e / 2)).succ = e := by omega
      rw [Nat.mul_mod_mod, ← Nat.pow_succ', h2]
def cauM (i : Nat) : Nat := powM pN 254 (i / 3 + i % 3 + 3) (pN - 2)
theorem cauM_eq (i : Nat) : cauM i = cauN i := powM_ok pN 254 _ _ (by decide)
end Go.Av

namespace Go.Av
set_option maxHeartbeats 2000000
set_option maxRecDepth 20000
set_option linter.unusedSimpArgs false
set_option linter.unusedVariables false
def constL : List Nat := [6745197990210204598374042828761989596302876299545964402857411729872131034734,
  426281677759936592021316809065178817848084678679510574715894138690250139748,
  4014188762916583598888942667424965430287497824629657219807941460227372577781,
  21328925083209914769191926116470334003273872494252651254811226518870906634704,
  19525217621804205041825319248827370085205895195618474548469181956339322154226,
  1402547928439424661186498190603111095981986484908825517071607587179649375482,
  18320863691943690091503704046057443633081959680694199244583676572077409194605,
  17709820605501892134371743295301255810542620360751268064484461849423726103416,
  15970119011175710804034336110979394557344217932580634635707518729185096681010,
  9818625905832534778628436765635714771300533913823445439412501514317783880744,
  6235167673500273618358172865171408902079591030551453531218774338170981503478,
  12575685815457815780909564540589853169226710664203625668068862277336357031324,
  7381963244739421891665696965695211188125933529845348367882277882370864309593,
  14214782117460029685087903971105962785460806586237411939435376993762368956406,
  13382692957873425730537487257409819532582973556007555550953772737680185788165,
  2203881792421502412097043743980777162333765109810562102330023625047867378813,
  2916799379096386059941979057020673941967403377243798575982519638429287573544,
  4341714036313630002881786446132415875360643644216758539961571543427269293497,
  2340590164268886572738332390117165591168622939528604352383836760095320678310,
  5222233506067684445011741833180208249846813936652202885155168684515636170204,
  7963328565263035669460582454204125526132426321764384712313576357234706922961,
  1394121618978136816716817287892553782094854454366447781505650417569234586889,
  20251767894547536128245030306810919879363877532719496013176573522769484883301,
  141695147295366035069589946372747683366709960920818122842195372849143476473,
  15919677773886738212551540894030218900525794162097204800782557234189587084981,
  2616624285043480955310772600732442182691089413248613225596630696960447611520,
  4740655602437503003625476760295930165628853341577914460831224100471301981787,
  19201590924623513311141753466125212569043677014481753075022686585593991810752,
  12116486795864712158501385780203500958268173542001460756053597574143933465696,
  8481222075475748672358154589993007112877289817336436741649507712124418867136,
  5181207870440376967537721398591028675236553829547043817076573656878024336014,
  1576305643467537308202593927724028147293702201461402534316403041563704263752,
  2555752030748925341265856133642532487884589978209403118872788051695546807407,
  18840924862590752659304250828416640310422888056457367520753407434927494649454,
  14593453114436356872569019099482380600010961031449147888385564231161572479535,
  20826991704411880672028799007667199259549645488279985687894219600551387252871,
  9159011389589751902277217485643457078922343616356921337993871236707687166408,
  5605846325255071220412087261490782205304876403716989785167758520729893194481,
  1148784255964739709393622058074925404369763692117037208398835319441214134867,
  20945896491956417459309978192328611958993484165135279604807006821513499894540,
  229312996389666104692157009189660162223783309871515463857687414818018508814,
  21184391300727296923488439338697060571987191396173649012875080956309403646776,
  21853424399738097885762888601689700621597911601971608617330124755808946442758,
  12776298811140222029408960445729157525018582422120161448937390282915768616621,
  7556638921712565671493830639474905252516049452878366640087648712509680826732,
  19042212131548710076857572964084011858520620377048961573689299061399932349935,
  12871359356889933725034558434803294882039795794349132643274844130484166679697,
  3313271555224009399457959221795880655466141771467177849716499564904543504032,
  15080780006046305940429266707255063673138269243146576829483541808378091931472,
  21300668809180077730195066774916591829321297484129506780637389508430384679582,
  20480395468049323836126447690964858840772494303543046543729776750771407319822,
  10034492246236387932307199011778078115444704411143703430822959320969550003883,
  19584962776865783763416938001503258436032522042569001300175637333222729790225,
  20155726818439649091211122042505326538030503429443841583127932647435472711802,
  13313554736139368941495919643765094930693458639277286513236143495391474916777,
  14606609055603079181113315307204024259649959674048912770003912154260692161833,
  5563317320536360357019805881367133322562055054443943486481491020841431450882,
  10535419877021741166931390532371024954143141727751832596925779759801808223060,
  12025323200952647772051708095132262602424463606315130667435888188024371598063,
  2906495834492762782415522961458044920178260121151056598901462871824771097354,
  19131970618309428864375891649512521128588657129006772405220584460225143887876,
  8896386073442729425831367074375892129571226824899294414632856215758860965449,
  7748212315898910829925509969895667732958278025359537472413515465768989125274,
  422974903473869924285294686399247660575841594104291551918957116218939002865,
  6398251826151191010634405259351528880538837895394722626439957170031528482771,
  18978082967849498068717608127246258727629855559346799025101476822814831852169,
  19150742296744826773994641927898928595714611370355487304294875666791554590142,
  12896891575271590393203506752066427004153880610948642373943666975402674068209,
  9546270356416926575977159110423162512143435321217584886616658624852959369669,
  2159256158967802519099187112783460402410585039950369442740637803310736339200,
  8911064487437952102278704807713767893452045491852457406400757953039127292263,
  745203718271072817124702263707270113474103371777640557877379939715613501668,
  19313999467876585876087962875809436559985619524211587308123441305315685710594,
  13254105126478921521101199309550428567648131468564858698707378705299481802310,
  1842081783060652110083740461228060164332599013503094142244413855982571335453,
  9630707582521938235113899367442877106957117302212260601089037887382200262598,
  5066637850921463603001689152130702510691309665971848984551789224031532240292,
  4222575506342961001052323857466868245596202202118237252286417317084494678062,
  2919565560395273474653456663643621058897649501626354982855207508310069954086,
  6828792324689892364977311977277548750189770865063718432946006481461319858171,
  2245543836264212411244499299744964607957732316191654500700776604707526766099,
  19602444885919216544870739287153239096493385668743835386720501338355679311704,
  8239538512351936341605373169291864076963368674911219628966947078336484944367,
  15053013456316196458870481299866861595818749671771356646798978105863499965417,
  7173615418515925804810790963571435428017065786053377450925733428353831789901,
  8239211677777829016346247446855147819062679124993100113886842075069166957042,
  15330855478780269194281285878526984092296288422420009233557393252489043181621,
  10014883178425964324400942419088813432808659204697623248101862794157084619079,
  14014440630268834826103915635277409547403899966106389064645466381170788813506,
  3580284508947993352601712737893796312152276667249521401778537893620670305946,
  2559754020964039399020874042785294258009596917335212876725104742182177996988,
  14898657953331064524657146359621913343900897440154577299309964768812788279359,
  2094037260225570753385567402013028115218264157081728958845544426054943497065,
  18051086536715129874440142649831636862614413764019212222493256578581754875930,
  21680659279808524976004872421382255670910633119979692059689680820959727969489,
  13950668739013333802529221454188102772764935019081479852094403697438884885176,
  9703845704528288130475698300068368924202959408694460208903346143576482802458,
  12064310080154762977097567536495874701200266107682637369509532768346427148165,
  16970760937630487134309762150133050221647250855182482010338640862111040175223,
  9790997389841527686594908620011261506072956332346095631818178387333642218087,
  16314772317774781682315680698375079500119933343877658265473913556101283387175,
  82044870826814863425230825851780076663078706675282523830353041968943811739,
  21696416499108261787701615667919260888528264686979598953977501999747075085778,
  327771579314982889069767086599893095509690747425186236545716715062234528958,
  4606746338794869835346679399457321301521448510419912225455957310754258695442,
  64499140292086295251085369317820027058256893294990556166497635237544139149,
  10455028514626281809317431738697215395754892241565963900707779591201786416553,
  10421411526406559029881814534127830959833724368842872558146891658647152404488,
  18848084335930758908929996602136129516563864917028006334090900573158639401697,
  13844582069112758573505569452838731733665881813247931940917033313637916625267,
  13488838454403536473492810836925746129625931018303120152441617863324950564617,
  15742141787658576773362201234656079648895020623294182888893044264221895077688,
  6756884846734501741323584200608866954194124526254904154220230538416015199997,
  7860026400080412708388991924996537435137213401947704476935669541906823414404,
  7871040688194276447149361970364037034145427598711982334898258974993423182255,
  20758972836260983284101736686981180669442461217558708348216227791678564394086,
  21723241881201839361054939276225528403036494340235482225557493179929400043949,
  19428469330241922173653014973246050805326196062205770999171646238586440011910,
  7969200143746252148180468265998213908636952110398450526104077406933642389443,
  10950417916542216146808986264475443189195561844878185034086477052349738113024,
  18149233917533571579549129116652755182249709970669448788972210488823719849654,
  3729796741814967444466779622727009306670204996071028061336690366291718751463,
  5172504399789702452458550583224415301790558941194337190035441508103183388987,
  6686473297578275808822003704722284278892335730899287687997898239052863590235,
  19426913098142877404613120616123695099909113097119499573837343516470853338513,
  5120337081764243150760446206763109494847464512045895114970710519826059751800,
  5055737465570446530938379301905385631528718027725177854815404507095601126720,
  14235578612970484492268974539959119923625505766550088220840324058885914976980,
  653592517890187950103239281291172267359747551606210609563961204572842639923,
  5507360526092411682502736946959369987101940689834541471605074817375175870579,
  7864202866011437199771472205361912625244234597659755013419363091895334445453,
  21294659996736305811805196472076519801392453844037698272479731199885739891648,
  13767183507040326119772335839274719411331242166231012705169069242737428254651,
  810181532076738148308457416289197585577119693706380535394811298325092337781,
  14232321930654703053193240133923161848171310212544136614525040874814292190478,
  16796904728299128263054838299534612533844352058851230375569421467352578781209,
  16256310366973209550759123431979563367001604350120872788217761535379268327259,
  19791658638819031543640174069980007021961272701723090073894685478509001321817,
  7046232469803978873754056165670086532908888046886780200907660308846356865119,
  16001732848952745747636754668380555263330934909183814105655567108556497219752,
  9737276123084413897604802930591512772593843242069849260396983774140735981896,
  11410895086919039954381533622971292904413121053792570364694836768885182251535,
  19098362474249267294548762387533474746422711206129028436248281690105483603471,
  11013788190750472643548844759298623898218957233582881400726340624764440203586,
  2206958256327295151076063922661677909471794458896944583339625762978736821035,
  7171889270225471948987523104033632910444398328090760036609063776968837717795,
  2510237900514902891152324520472140114359583819338640775472608119384714834368,
  8825275525296082671615660088137472022727508654813239986303576303490504107418,
  1481125575303576470988538039195271612778457110700618040436600537924912146613,
  16268684562967416784133317570130804847322980788316762518215429249893668424280,
  4681491452239189664806745521067158092729838954919425311759965958272644506354,
  3131438137839074317765338377823608627360421824842227925080193892542578675835,
  7930402370812046914611776451748034256998580373012248216998696754202474945793,
  8973151117361309058790078507956716669068786070949641445408234962176963060145,
  10223139291409280771165469989652431067575076252562753663259473331031932716923,
  2232089286698717316374057160056566551249777684520809735680538268209217819725,
  16930089744400890347392540468934821520000065594669279286854302439710657571308,
  21739597952486540111798430281275997558482064077591840966152905690279247146674,
  7508315029150148468008716674010060103310093296969466203204862163743615534994,
  11418894863682894988747041469969889669847284797234703818032750410328384432224,
  10895338268862022698088163806301557188640023613155321294365781481663489837917,
  18644184384117747990653304688839904082421784959872380449968500304556054962449,
  7414443845282852488299349772251184564170443662081877445177167932875038836497,
  5391299369598751507276083947272874512197023231529277107201098701900193273851,
  10329906873896253554985208009869159014028187242848161393978194008068001342262,
  4711719500416619550464783480084256452493890461073147512131129596065578741786,
  11943219201565014805519989716407790139241726526989183705078747065985453201504,
  4298705349772984837150885571712355513879480272326239023123910904259614053334,
  9999044003322463509208400801275356671266978396985433172455084837770460579627,
  4908416131442887573991189028182614782884545304889259793974797565686968097291,
  11963412684806827200577486696316210731159599844307091475104710684559519773777,
  20129916000261129180023520480843084814481184380399868943565043864970719708502,
  12884788430473747619080473633364244616344003003135883061507342348586143092592,
  20286808211545908191036106582330883564479538831989852602050135926112143921015,
  16282045180030846845043407450751207026423331632332114205316676731302016331498,
  4332932669439410887701725251009073017227450696965904037736403407953448682093,
  11105712698773407689561953778861118250080830258196150686012791790342360778288,
  21853934471586954540926699232107176721894655187276984175226220218852955976831,
  9807888223112768841912392164376763820266226276821186661925633831143729724792,
  13411808896854134882869416756427789378942943805153730705795307450368858622668,
  17906847067500673080192335286161014930416613104209700445088168479205894040011,
  14554387648466176616800733804942239711702169161888492380425023505790070369632,
  4264116751358967409634966292436919795665643055548061693088119780787376143967,
  2401104597023440271473786738539405349187326308074330930748109868990675625380,
  12251645483867233248963286274239998200789646392205783056343767189806123148785,
  15331181254680049984374210433775713530849624954688899814297733641575188164316,
  13108834590369183125338853868477110922788848506677889928217413952560148766472,
  6843160824078397950058285123048455551935389277899379615286104657075620692224,
  10151103286206275742153883485231683504642432930275602063393479013696349676320,
  7074320081443088514060123546121507442501369977071685257650287261047855962224,
  11413928794424774638606755585641504971720734248726394295158115188173278890938,
  7312756097842145322667451519888915975561412209738441762091369106604423801080,
  7181677521425162567568557182629489303281861794357882492140051324529826589361,
  15123155547166304758320442783720138372005699143801247333941013553002921430306,
  13409242754315411433193860530743374419854094495153957441316635981078068351329]
def cauchyL : List Nat := [14592161914559516814830937163504850059032242933610689562465469457717205663745,
  16416182153879456416684804308942956316411273300312025757773653139931856371713,
  8755297148735710088898562298102910035419345760166413737479281674630323398247,
  16416182153879456416684804308942956316411273300312025757773653139931856371713,
  8755297148735710088898562298102910035419345760166413737479281674630323398247,
  18240202393199396018538671454381062573790303667013361953081836822146507079681,
  8755297148735710088898562298102910035419345760166413737479281674630323398247,
  18240202393199396018538671454381062573790303667013361953081836822146507079681,
  3126891838834182174606629392179610726935480628630862049099743455225115499374]
theorem cauchy_lit : cauchyN = cauchyL := by
  have h1 : cauchyN = tab 9 cauM := by unfold cauchyN; exact tab_congr fun i _ => (cauM_eq i).symm
  rw [h1]
  decide +kernel
theorem elems_lit : elemsN srcG 195 = some (1013386232571974362401034, constL) := by decide +kernel
end Go.Av

namespace Go.Av
set_option maxHeartbeats 2000000
set_option maxRecDepth 20000
set_option linter.unusedSimpArgs false
set_option linter.unusedVariables false
def roundE (K v : List Nat) (r : Int) : List Nat := applyN cauchyL (tab 3 (stepE v (rowN K r) (fullN r)))
theorem roundE_eq (K v : List Nat) (r : Int) : roundN K v r = roundE K v r := by unfold roundN roundE; rw [cauchy_lit]
def permE (K v : List Nat) : Nat → List Nat
  | 0 => v
  | k + 1 => roundE K (permE K v k) (k : Int)
theorem permE_eq (K v : List Nat) : ∀ k, permN K v k = permE K v k
  | 0 => rfl
  | k + 1 => by unfold permN permE; rw [roundE_eq, permE_eq K v k]
def constK : List Nat := constL ++ cauchyL
theorem perm_zero : ¬ gd (permN (constL ++ cauchyN) [0, 0, 0] 65) 0 0 % pN = 0 := by
  rw [permE_eq, cauchy_lit]
  have h : Nat.beq (gd (permE (constL ++ cauchyL) [0, 0, 0] 65) 0 0 % pN) 0 = false := by decide +kernel
  intro e
  rw [e] at h
  cases h
theorem ok_speaks10 (L : Lim) (h : AHeap) : acall ctx L i_avouchlaw10zspeaks [] h = some (.bool true, h) := by
  rw [call_avouchlaw10zspeaks]
  have hN := fun L => ok_PNew L h [] []
  have hP := fun L hL => ok_Perm L h [poC 0 0 0 (tab 204 fun _ => 0)] [] 0 _ [0, 0, 0] rfl rfl _ elems_lit (poOk_new _) hL
  have hz : (tab 12 fun _ => (0#64 : W64)) = feL [0, 0, 0] := zeros_feL 3
  have hlen := permN_len (constL ++ cauchyN) [0, 0, 0] rfl 65
  have hpz := perm_zero
  have hK : (1013386232571974362401034, constL).2 ++ cauchyN = constL ++ cauchyN := rfl
  rw [hK] at hP
  generalize permN (constL ++ cauchyN) [0, 0, 0] 65 = pv at *
  generalize poF (constL ++ cauchyN) = cF at *
  generalize poC 0 0 0 (tab 204 fun _ => 0) = c0 at *
  have hp0 := part_fe0 pv 0 0 rfl (by omega)
  have hI := fun L h => ok_IsZero L h (gd pv 0 0)
  rw [decide_eq_false hpz] at hI
  have hU2 := fun L h => ok_FromUint64 L h 2#64
  have hU32 := fun L h => ok_FromUint64 L h 32#64
  have hW := fun L h => ok_Power L h 2
  have hE := fun L h => ok_Equal L h (fe 32) (fe 32) rfl rfl
  have hI2 := fun L h => ok_IsZero L h 32
  have e1 : (2#64 : W64).toNat = 2 := rfl
  have e2 : (32#64 : W64).toNat = 32 := rfl
  have e3 : (2 : Nat) ^ 5 = 32 := rfl
  have e4 : decide (32 % pN = 0) = false := by decide +kernel
  rw [e1] at hU2
  rw [e2] at hU32
  rw [e3] at hW
  rw [e4] at hI2
  have w2 : AVal.int .u64 2 = wd 2#64 := rfl
  have w32 : AVal.int .u64 32 = wd 32#64 := rfl
  have l0 : (feL pv).length = 12 := by simp [hlen]
  have hz2 : (feL [0, 0, 0]).length = 12 := rfl
  have hfl : fillA (cW (feL [0, 0, 0])) [] = some (cW (feL [0, 0, 0])) := by simp only [fillA]
  have hP2 := hP ⟨h.blks.length, h.toks.length, h.blks.length, h.toks.length⟩ (Nat.le_refl _)
  generalize feL [0, 0, 0] = z at *
  generalize fe (gd pv 0 0) = f0 at *
  generalize feL pv = fv at *
  generalize fe 32 = f32 at *
  generalize fe 2 = f2 at *
  have hN1 := hN ⟨h.blks.length, h.toks.length, h.blks.length, h.toks.length⟩
  simp only [List.length_nil, List.nil_append] at hN1
  simp only [List.set_cons_zero] at hP2
  have hnil : eqA .ptr (pA h.blks.length 0 0) .nilp = some false := rfl
  simp -implicitDefEqProofs [C_avouchlaw10zspeaks, limP, hnil, hN1, rep1_W, hz, hfl, hP2, stKB, setAtB, l0, hz2, hp0, hI, w2, w32, hU2, hU32, hW, hE, hI2]
end Go.Av
