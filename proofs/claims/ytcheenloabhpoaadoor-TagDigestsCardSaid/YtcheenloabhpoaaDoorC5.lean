/- The law on digests of tags returns true. -/
import Derived.Test.YtcheenloabhpoaaDoorC2
import Derived.Test.YtcheenloabhpoaaDoorC4
namespace Go.Av
set_option maxHeartbeats 2000000
set_option maxRecDepth 100000
set_option linter.unusedSimpArgs false
set_option linter.unusedVariables false
theorem sum_threeG (L : Lim) (h : AHeap) (bs : List (List AVal)) (ts : List Nat) (i : Nat) (hb : bs[i]? = some (cI .u8 domB)) (b : Int) (r : List Int) (hr : r.length < 200000000000) :
    acall ctx L i_digest_Sum [.vsl true [[sA h.blks.length i 0 1 19 (some 19)], [.vsl true (eI .u8 [b])], [.vsl false (eI .u8 r)]]] (hx h bs ts) = some (.agg (cI .u8 (sumL (domB ++ ([b] ++ r)))), hx h bs ts) := by
  have h1 := ok_DSum L (hx h bs ts) true [(sA h.blks.length i 0 1 19 (some 19), domB), (.vsl true (eI .u8 [b]), [b]), (.vsl false (eI .u8 r), r)] (by simp) (by
    intro p hp
    simp only [List.mem_cons, List.not_mem_nil, or_false] at hp
    rcases hp with rfl | rfl | rfl
    · exact ⟨RdI.sA ts .u8 i 19 _ domB rfl hb, by simp [domB]⟩
    · exact ⟨RdI.vsl _ .u8 true [b], by simp⟩
    · exact ⟨RdI.vsl _ .u8 false r, hr⟩)
  have h2 : msg [(sA h.blks.length i 0 1 19 (some 19), domB), (.vsl true (eI .u8 [b]), [b]), (.vsl false (eI .u8 r), r)] = domB ++ ([b] ++ r) := by simp [msg]
  rw [h2] at h1
  exact h1
theorem serL_at : ∀ (l : List It) (k : Nat) (out : List Int), (serL l k out).2.2 = 0 → (serL l k out).2.1 = -1
  | [], k, out, _ => rfl
  | x :: l, k, out, h => by
    rw [serL] at h ⊢
    split
    · rename_i hk; rw [if_pos hk] at h; cases h
    · rename_i hk
      rw [if_neg hk] at h
      split
      · rename_i hc; rw [if_pos hc] at h; exact serL_at l _ _ h
      · rename_i hc; rw [if_neg hc] at h; exact absurd h hc
theorem ok_TagDigests (L : Lim) (h : AHeap) (l : List It) (fields : Bool) (t : List Int) (ht : t.length = 32) (hb : inB t) :
    acall ctx L i_avouchlaw14zTagDigests [.vsl false (l.map It.cells), .bool fields, .agg (cI .u8 t)] h = some (.bool true, h) := by
  rw [call_avouchlaw14zTagDigests]
  by_cases hn : (20 : Int) < (l.length : Int)
  · simp -implicitDefEqProofs [C_avouchlaw14zTagDigests, -List.map_take, limP, ok_speaks, hn, copA_box]
  · have hl : l.length ≤ 2000 := by omega
    have hof := fun L h => ok_Ofs L h l (by omega)
    have hser := fun L h => ok_Ser L h l hl
    obtain ⟨b, hbv, hbk⟩ : ∃ b : Int, b = (if fields then 2 else 1) ∧ (b = 1 ∨ b = 2) := by cases fields <;> exact ⟨_, rfl, by simp⟩
    have htag := fun L h => ok_Tag L h b l hl
    have hEl := fun L h => ok_Element L h t hb ht
    have hFW := fun L bs ts hi => ok_FromWideS L h bs ts 0 32 (some 32) t hb hi ht (by decide)
    have hEq := fun L h => ok_Equal L h (fe (leN t)) (fe (leN t)) rfl rfl
    have hsl := slice_arr 32 1 h.blks.length 0 0 (by decide)
    have hlen : (serL l 0 []).1.length < 200000000000 := by
      have := serL_short l 0 []; simp at this; omega
    have hat := serL_at l 0 []
    have hwb : IntKind.u8.wrap b = b := by rcases hbk with rfl | rfl <;> decide
    have hnb : ¬ (b ≠ 1 ∧ b ≠ 2) := by omega
    generalize fe (leN t) = el at *
    have hsu := fun L bs ts i hi => sum_threeG L h bs ts i hi b (serL l 0 []).1 hlen
    unfold tagL at htag
    rw [if_neg hnb] at htag
    generalize serL l 0 [] = sr at *
    obtain ⟨out, at_, code⟩ := sr
    simp only at hser htag hlen hat hsu
    by_cases h0 : code = 0
    · subst h0
      have hat' := hat rfl
      subst hat'
      simp only [ne_eq, not_true_eq_false, if_false, hwb] at htag
      have hd : (sumL (domB ++ ([b] ++ out))).length = 32 := sumL_len _
      have hself : ∀ v : List Int, v.length = 32 → eqA (.agg (rep1 .i 32)) (.agg (cI .u8 v)) (.agg (cI .u8 v)) = some true := fun v hv => by
        rw [eqA_cI .u8 32 v v (by simpa using hv) (by simpa using hv)]; simp
      have hs2 := hself _ hd
      generalize sumL (domB ++ ([b] ++ out)) = dg at *
      have hsu' := fun L z w => hsu L [z, w, cI .u8 domB] [] 2 rfl
      have hFW1 := fun L => hFW L [cI .u8 t, cI .u8 dg] [] rfl
      cases fields
      · simp at hbv
        subst hbv
        simp -implicitDefEqProofs [C_avouchlaw14zTagDigests, -List.map_take, limP, ok_speaks, hn, copA_box, hof, hser, htag, rep1_I, stKB, setAtB, hd, partAB, ht, hEl, hFW1, hsl, hEq, fillA, rep, chunks, dom_cells, eI_one, hsu', hs2, hwb, -eqA_agg]
      · simp at hbv
        subst hbv
        simp -implicitDefEqProofs [C_avouchlaw14zTagDigests, -List.map_take, limP, ok_speaks, hn, copA_box, hof, hser, htag, rep1_I, stKB, setAtB, hd, partAB, ht, hEl, hFW1, hsl, hEq, fillA, rep, chunks, dom_cells, eI_one, hsu', hs2, hwb, -eqA_agg]
    · have bc : (code == 0) = false := beq_false_of_ne h0
      simp only [ne_eq, h0, not_false_eq_true, if_true] at htag
      have hz : zer32.length = 32 := rfl
      generalize zer32 = zz at *
      have hFW1 := fun L => hFW L [cI .u8 t, cI .u8 zz] [] rfl
      have bne0 : (code != 0) = true := bne_iff_ne.2 h0
      cases fields
      · simp at hbv
        subst hbv
        simp -implicitDefEqProofs [C_avouchlaw14zTagDigests, -List.map_take, limP, ok_speaks, hn, copA_box, hof, hser, htag, rep1_I, stKB, setAtB, hz, partAB, ht, hEl, hFW1, hsl, hEq, bne0]
      · simp at hbv
        subst hbv
        simp -implicitDefEqProofs [C_avouchlaw14zTagDigests, -List.map_take, limP, ok_speaks, hn, copA_box, hof, hser, htag, rep1_I, stKB, setAtB, hz, partAB, ht, hEl, hFW1, hsl, hEq, bne0]
end Go.Av
