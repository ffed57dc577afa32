/- Tags are alike in the program and the document, and the first law's call returns true. -/
import Derived.Test.YtljmmfgacoapaaaDoorC4
import Derived.Test.YtljmmfgacoapaaaDoorC2
namespace Go.Av
set_option maxHeartbeats 2000000
set_option maxRecDepth 20000
set_option linter.unusedSimpArgs false
set_option linter.unusedVariables false
def domB : List Int := [97, 118, 111, 117, 99, 104, 47, 116, 114, 97, 110, 115, 99, 114, 105, 112, 116, 47, 49]
def zer32 : List Int := tab 32 fun _ => 0
/-- A tag, the place, what is wrong. -/
def tagL (b : Int) (l : List It) : List Int × Int × Int :=
  if b ≠ 1 ∧ b ≠ 2 then (zer32, -1, 15)
  else if (serL l 0 []).2.2 ≠ 0 then (zer32, (serL l 0 []).2.1, (serL l 0 []).2.2)
  else (sumL (domB ++ ([IntKind.u8.wrap b] ++ (serL l 0 []).1)), -1, 0)
theorem serL_short : ∀ (l : List It) (k : Nat) (out : List Int) (hl : ∀ x ∈ l, x.label.size < 1000000), (serL l k out).1.length ≤ out.length + l.length * 1000008
  | [], k, out, _ => by simp [serL]
  | x :: l, k, out, hl => by
    rw [serL]
    split
    · simp
    · split
      · have h1 := serL_short l (k + 1) (out ++ encB x) (fun y hy => hl y (by simp [hy]))
        have h2 := hl x (by simp)
        simp only [List.length_append, encB_len, List.length_cons] at h1 ⊢
        omega
      · simp
theorem dom_cells : [AVal.int .u8 97, AVal.int .u8 118, AVal.int .u8 111, AVal.int .u8 117, AVal.int .u8 99, AVal.int .u8 104, AVal.int .u8 47, AVal.int .u8 116, AVal.int .u8 114, AVal.int .u8 97, AVal.int .u8 110, AVal.int .u8 115, AVal.int .u8 99, AVal.int .u8 114, AVal.int .u8 105, AVal.int .u8 112, AVal.int .u8 116, AVal.int .u8 47, AVal.int .u8 49] = cI .u8 domB := rfl
theorem sum_three (L : Lim) (h : AHeap) (z : List AVal) (b : Int) (r : List Int) (hr : r.length < 200000000000) :
    acall ctx L i_digest_Sum [.vsl true [[sA h.blks.length 1 0 1 19 (some 19)], [.vsl true (eI .u8 [b])], [.vsl false (eI .u8 r)]]] (hx h [z, cI .u8 domB] []) = some (.agg (cI .u8 (sumL (domB ++ ([b] ++ r)))), hx h [z, cI .u8 domB] []) := by
  have h1 := ok_DSum L (hx h [z, cI .u8 domB] []) true [(sA h.blks.length 1 0 1 19 (some 19), domB), (.vsl true (eI .u8 [b]), [b]), (.vsl false (eI .u8 r), r)] (by simp) (by
    intro p hp
    simp only [List.mem_cons, List.not_mem_nil, or_false] at hp
    rcases hp with rfl | rfl | rfl
    · exact ⟨RdI.sA [] .u8 1 19 _ domB rfl (by simp), by simp [domB]⟩
    · exact ⟨RdI.vsl _ .u8 true [b], by simp⟩
    · exact ⟨RdI.vsl _ .u8 false r, hr⟩)
  have h2 : msg [(sA h.blks.length 1 0 1 19 (some 19), domB), (.vsl true (eI .u8 [b]), [b]), (.vsl false (eI .u8 r), r)] = domB ++ ([b] ++ r) := by simp [msg]
  rw [h2] at h1
  exact h1
@[simp] theorem sumL_len (l : List Int) : (sumL l).length = 32 := by
  obtain ⟨c1, c2⟩ := takeAll_ok l (q := (tab 25 fun _ => 0#64, 0)) (by simp) (by simp)
  simp [sumL, endL, permL_len, c1]
theorem ok_Tag (L : Lim) (h : AHeap) (b : Int) (l : List It) (hn : l.length ≤ 2000) (hl : ∀ x ∈ l, x.label.size < 1000000) :
    acall ctx L i_tag_Tag [.int .i64 b, .vsl false (l.map It.cells)] h = some (.tup [.agg (cI .u8 (tagL b l).1), .int .i64 (tagL b l).2.1, .int .i64 (tagL b l).2.2], h) := by
  rw [call_tag_Tag]
  have hser := fun L h => ok_Ser L h l hn hl
  by_cases hb : b ≠ 1 ∧ b ≠ 2
  · have e1 : tagL b l = (zer32, -1, 15) := by unfold tagL; rw [if_pos hb]
    rw [e1]
    simp [C_tag_Tag, -List.map_take, limP, rep1_I, bne, beq_false_of_ne hb.1, beq_false_of_ne hb.2, fillA, stKB, setAtB, partAB, zer32]
  · have hb' : b = 1 ∨ b = 2 := by omega
    by_cases h0 : (serL l 0 []).2.2 = 0
    · have e1 : tagL b l = (sumL (domB ++ ([IntKind.u8.wrap b] ++ (serL l 0 []).1)), -1, 0) := by unfold tagL; rw [if_neg hb, if_neg (by simpa using h0)]
      rw [e1]
      have hlen : (serL l 0 []).1.length < 200000000000 := by
        have := serL_short l 0 [] hl; simp at this; omega
      rcases hb' with rfl | rfl
      · simp [C_tag_Tag, -List.map_take, limP, rep1_I, hser, h0, fillA, rep, chunks, eI_one, dom_cells, sum_three, hlen, stKB, setAtB, partAB]
      · simp [C_tag_Tag, -List.map_take, limP, rep1_I, hser, h0, fillA, rep, chunks, eI_one, dom_cells, sum_three, hlen, stKB, setAtB, partAB]
    · have e1 : tagL b l = (zer32, (serL l 0 []).2.1, (serL l 0 []).2.2) := by unfold tagL; rw [if_neg hb, if_pos h0]
      rw [e1]
      have b0 : ((serL l 0 []).2.2 == 0) = false := beq_false_of_ne h0
      rcases hb' with rfl | rfl
      · simp [C_tag_Tag, -List.map_take, limP, rep1_I, hser, bne, b0, fillA, stKB, setAtB, partAB, zer32]
      · simp [C_tag_Tag, -List.map_take, limP, rep1_I, hser, bne, b0, fillA, stKB, setAtB, partAB, zer32]
theorem inB_app {l m : List Int} (hl : inB l) (hm : inB m) : inB (l ++ m) := fun i hi => by
  by_cases h : i < l.length
  · rw [gd_app1 _ _ _ _ h]; exact hl i h
  · rw [gd_app2 _ _ _ _ (by omega)]; exact hm _ (by simp at hi; omega)
theorem wrap8_range (n : Int) : 0 ≤ IntKind.u8.wrap n ∧ IntKind.u8.wrap n < 256 := by
  have : IntKind.u8.wrap n = n % 256 := by unfold IntKind.wrap; simp [IntKind.signed, IntKind.bits]
  rw [this]; omega
theorem inB_nil : inB [] := fun i hi => by simp at hi
theorem inB_all {l : List Int} (h : ∀ x ∈ l, 0 ≤ x ∧ x < 256) : inB l := fun i hi => by
  have := gd_get? (d := (0 : Int)) hi
  exact h _ (List.mem_of_getElem? this)
theorem inB_one (n : Int) : inB [IntKind.u8.wrap n] := inB_all fun x hx => by
  simp at hx; subst hx; exact wrap8_range n
theorem inB_le (n : Int) : ∀ k, inB (le n k)
  | 0 => inB_nil
  | k + 1 => by rw [le]; exact inB_app (inB_le n k) (inB_one _)
theorem inB_bts (s : ByteArray) : inB (bts s) := inB_all fun x hx => by
  unfold bts at hx
  simp only [List.mem_map] at hx
  obtain ⟨b, _, rfl⟩ := hx
  have := b.toNat_lt
  omega
theorem inB_encB (x : It) : inB (encB x) := by
  unfold encB
  have h0 : inB [IntKind.u8.wrap x.kind, IntKind.u8.wrap x.typ] := inB_app (l := [_]) (inB_one _) (inB_one _)
  exact inB_app (inB_app (inB_app h0 (inB_le _ _)) (inB_le _ _)) (inB_bts _)
theorem inB_ser : ∀ (l : List It) (k : Nat) (out : List Int), inB out → inB (serL l k out).1
  | [], k, out, h => h
  | x :: l, k, out, h => by
    rw [serL]
    split
    · exact inB_nil
    · split
      · exact inB_ser l (k + 1) _ (inB_app h (inB_encB x))
      · exact inB_nil
theorem inB_dom : inB domB := inB_all fun x hx => by
  have : ∀ x ∈ domB, 0 ≤ x ∧ x < 256 := by decide
  exact this x hx
theorem RSum_gA (L : Lim) (h : AHeap) (n i : Nat) (es : List (List AVal)) : acall ctx L i_avouchref07zSum [gA n i es] h = acall ctx L i_avouchref07zSum [.vsl false es] h := by
  rw [call_avouchref07zSum, call_avouchref07zSum]; simp
theorem ok_RTag (L : Lim) (h : AHeap) (b : Int) (l : List It) (hn : l.length ≤ 2000) (hl : ∀ x ∈ l, x.label.size < 1000000) :
    acall ctx L i_avouchref14zTag [.int .i64 b, .vsl false (l.map It.cells)] h = some (.tup [.vsl false (eI .u8 (tagL b l).1), .int .i64 (tagL b l).2.1, .int .i64 (tagL b l).2.2], h) := by
  rw [call_avouchref14zTag]
  have hser := fun L h => ok_RSer L h l hn hl
  have hz : cI .u8 (tab 32 fun _ => 0) = cI .u8 zer32 := rfl
  have hf := fun bs ts n' nt => frz_sA h (cI .u8 zer32 :: bs) ts nt n' 0 32 (some 32) .u8 zer32 (by simp) (by simp [zer32])
  have ht : zer32.take 32 = zer32 := List.take_of_length_le (by simp [zer32])
  by_cases hb : b ≠ 1 ∧ b ≠ 2
  · have e1 : tagL b l = (zer32, -1, 15) := by unfold tagL; rw [if_pos hb]
    rw [e1]
    simp [C_avouchref14zTag, -List.map_take, limP, mkK_int, maxRoom, rep_rep1, rep1_I, bne, beq_false_of_ne hb.1, beq_false_of_ne hb.2, hz, hf, ht]
  · have hb' : b = 1 ∨ b = 2 := by omega
    by_cases h0 : (serL l 0 []).2.2 = 0
    · have e1 : tagL b l = (sumL (domB ++ ([IntKind.u8.wrap b] ++ (serL l 0 []).1)), -1, 0) := by unfold tagL; rw [if_neg hb, if_neg (by simpa using h0)]
      rw [e1]
      have hlen : (serL l 0 []).1.length < 90000000000 := by
        have := serL_short l 0 [] hl; simp at this; omega
      have hB : inB (domB ++ ([IntKind.u8.wrap b] ++ (serL l 0 []).1)) := inB_app inB_dom (inB_app (inB_one b) (inB_ser l 0 [] inB_nil))
      have hsum := fun L h c => ok_RSum L h c (domB ++ ([IntKind.u8.wrap b] ++ (serL l 0 []).1)) (by simp [domB]; omega) hB
      rw [rsum_sum _ hB] at hsum
      simp only [List.cons_append, List.nil_append] at hsum
      have hdl : domB.length = 19 := rfl
      rcases hb' with rfl | rfl
      · have ha := fun L bs => appK_sAf L h (bs :: [cI .u8 domB]) [] 1 19 .u8 domB [IntKind.u8.wrap 1] true (by simp) (by simp [maxRoom, domB])
        simp [C_avouchref14zTag, -List.map_take, limP, mkK_int, maxRoom, rep_rep1, rep1_I, hser, h0, fillA, rep, rep1, chunks, eI_one, dom_cells, ha, appK_gA, hdl, RSum_gA, hsum, show 20 + (serL l 0 []).1.length < 274877906944 by omega]
      · have ha := fun L bs => appK_sAf L h (bs :: [cI .u8 domB]) [] 1 19 .u8 domB [IntKind.u8.wrap 2] true (by simp) (by simp [maxRoom, domB])
        simp [C_avouchref14zTag, -List.map_take, limP, mkK_int, maxRoom, rep_rep1, rep1_I, hser, h0, fillA, rep, rep1, chunks, eI_one, dom_cells, ha, appK_gA, hdl, RSum_gA, hsum, show 20 + (serL l 0 []).1.length < 274877906944 by omega]
    · have e1 : tagL b l = (zer32, (serL l 0 []).2.1, (serL l 0 []).2.2) := by unfold tagL; rw [if_neg hb, if_pos h0]
      rw [e1]
      have b0 : ((serL l 0 []).2.2 == 0) = false := beq_false_of_ne h0
      rcases hb' with rfl | rfl
      · simp [C_avouchref14zTag, -List.map_take, limP, mkK_int, maxRoom, rep_rep1, rep1_I, hser, bne, b0, hz, hf, ht]
      · simp [C_avouchref14zTag, -List.map_take, limP, mkK_int, maxRoom, rep_rep1, rep1_I, hser, bne, b0, hz, hf, ht]
end Go.Av

namespace Go.Av
set_option maxRecDepth 100000
theorem two_tags : sumL (domB ++ [1]) ≠ sumL (domB ++ [2]) := by decide +kernel
end Go.Av

namespace Go.Av
set_option maxHeartbeats 2000000
set_option maxRecDepth 100000
set_option linter.unusedSimpArgs false
set_option linter.unusedVariables false
theorem tag_nil (b : Int) (hb : b = 1 ∨ b = 2) : tagL b [] = (sumL (domB ++ [b]), -1, 0) := by
  unfold tagL
  rw [if_neg (by omega)]
  have hw : IntKind.u8.wrap b = b := by rcases hb with rfl | rfl <;> decide
  simp [serL, hw]
theorem Tag_nsl (L : Lim) (h : AHeap) (b : Int) : acall ctx L i_tag_Tag [.int .i64 b, .nsl] h = acall ctx L i_tag_Tag [.int .i64 b, .vsl false []] h := by
  rw [call_tag_Tag, call_tag_Tag]; simp
theorem ok_speaks (L : Lim) (h : AHeap) : acall ctx L i_avouchlaw14zspeaks [] h = some (.bool true, h) := by
  rw [call_avouchlaw14zspeaks]
  have t1 := fun L h => (Tag_nsl L h 1).trans (ok_Tag L h 1 [] (by simp) (by simp))
  have t2 := fun L h => (Tag_nsl L h 2).trans (ok_Tag L h 2 [] (by simp) (by simp))
  rw [tag_nil 1 (.inl rfl)] at t1
  rw [tag_nil 2 (.inr rfl)] at t2
  have hne : (sumL (domB ++ [1]) == sumL (domB ++ [2])) = false := beq_false_of_ne two_tags
  have h1 : (sumL (domB ++ [1])).length = 32 := sumL_len _
  have h2 : (sumL (domB ++ [2])).length = 32 := sumL_len _
  generalize sumL (domB ++ [1]) = a at *
  generalize sumL (domB ++ [2]) = b at *
  simp [C_avouchlaw14zspeaks, limP, t1, t2, rep1_I, stKB, setAtB, h1, h2, partAB, eqA_cI, hne, -eqA_agg]
theorem loop_TT {fr : Fr} {h : AHeap} {R : Option (AEx × Fr × AHeap)} (l : List It) (hn : l.length ≤ 2000)
    (hF : run ctx (limP h) (.loop Ba_avouchlaw14zTagTells) fr (hx h [] []) = R)
    (h21 : fr 21 = .vsl false (l.map It.cells)) (h22 : fr 22 = .int .i64 l.length) (h23 : fr 23 = .int .i64 0) :
    ∃ e fr' bs, R = some (e, fr', hx h bs []) ∧ ((e = .ret ∧ fr' 4 = .bool true) ∨ (e = .exit 0 ∧ ∀ x ∈ l, x.label.size ≤ 400)) ∧ ∀ t, t ∉ wr Ba_avouchlaw14zTagTells → fr' t = fr t := by
  obtain ⟨e, fr', h', rfl, ⟨⟨bs, rfl⟩, hp⟩, hk⟩ := loop_rule hF l.length
    (fun k fr hh => fr 23 = .int .i64 k ∧ (∃ bs, hh = hx h bs []) ∧ ∀ x ∈ l.take k, x.label.size ≤ 400)
    (fun e fr hh => (∃ bs, hh = hx h bs []) ∧ ((e = .ret ∧ fr 4 = .bool true) ∨ (e = .exit 0 ∧ ∀ x ∈ l, x.label.size ≤ 400)))
    ⟨h23, ⟨[], rfl⟩, by simp⟩ (by
      rintro k fr1 hh hkN hkeep ⟨g23, ⟨bs, rfl⟩, ga⟩
      have g21 := (hkeep 21 (by decide)).trans h21
      have g22 := (hkeep 22 (by decide)).trans h22
      by_cases hlt : k < l.length
      · have w1 : IntKind.i64.wrap ((k : Int) + 1) = k + 1 := wrap_i64 (by omega) (by omega)
        have h3 : l[k].cells[3]? = some (.str l[k].label) := rfl
        by_cases h400 : (l[k].label.size : Int) > 400
        · simp [Ba_avouchlaw14zTagTells, g21, g22, g23, hlt, iadrA, asI, partAB, stKB, setAtB, limP]
          simp [It.cells, show 400 < l[k].label.size by omega, show (400 : Int) < l[k].label.size by omega]
          exact ⟨_, rfl⟩
        · have hnext : ∀ x ∈ l.take (k + 1), x.label.size ≤ 400 := by
            intro x hx
            rw [List.take_succ_eq_append_getElem hlt] at hx
            rcases List.mem_append.1 hx with hx | hx
            · exact ga x hx
            · simp at hx; subst hx; omega
          simp [Ba_avouchlaw14zTagTells, g21, g22, g23, hlt, iadrA, asI, partAB, stKB, setAtB, limP]
          simp [It.cells, show ¬ 400 < l[k].label.size by omega, show ¬ (400 : Int) < l[k].label.size by omega, g23, w1, hlt]
          exact ⟨⟨_, rfl⟩, hnext⟩
      · have : k = l.length := by omega
        subst this
        rw [List.take_length] at ga
        simp [Ba_avouchlaw14zTagTells, g22, g23]
        exact ⟨⟨_, rfl⟩, ga⟩)
  exact ⟨e, fr', bs, rfl, hp, hk⟩
theorem byA_refl (s : ByteArray) : (s == s) = true := (Go.MapKept.bytes_beq s s).2 rfl
theorem ok_TagTells (L : Lim) (h : AHeap) (b : Int) (l : List It) (hl40 : l.length ≤ 2000 ∨ l.length > 40) :
    acall ctx L i_avouchlaw14zTagTells [.int .i64 b, .vsl false (l.map It.cells)] h = some (.bool true, h) := by
  rw [call_avouchlaw14zTagTells]
  by_cases hn : (l.length : Int) > 40
  · simp [C_avouchlaw14zTagTells, ok_speaks, -List.map_take, hn]
  · have hn' : l.length ≤ 40 := by omega
    simp [C_avouchlaw14zTagTells, ok_speaks, -List.map_take, hn, show ¬ 40 < l.length by omega]
    generalize hF : run ctx _ (.loop _) _ _ = R
    obtain ⟨e, fr', bs, rfl, ⟨rfl, e1⟩ | ⟨rfl, e1⟩, hk⟩ := loop_TT l (by omega) hF (by simp) (by simp) (by simp)
    · simp [e1]
    · have hsz : ∀ x ∈ l, x.label.size < 1000000 := fun x hx => by have := e1 x hx; omega
      have ho := fun L h => ok_Ofs L h l (by omega)
      have ht := fun L h => ok_Tag L h b l (by omega) hsz
      have hr := fun L h => ok_RTag L h b l (by omega) hsz
      have hlen : (tagL b l).1.length = 32 := by
        unfold tagL
        split
        · simp [zer32]
        · split
          · simp [zer32]
          · simp
      have hs := fun bs ts i hb => b2sK_sA h bs ts i 32 (some 32) (tagL b l).1 hb hlen
      generalize (tagL b l).1 = T at *
      generalize (tagL b l).2.1 = a at *
      generalize (tagL b l).2.2 = e at *
      have hb2 := b2sK_sA h (bs ++ [cI .u8 T]) [] bs.length 32 (some 32) T (by simp) hlen
      simp [hk, wr, Ba_avouchlaw14zTagTells, dsts, ho, ht, hr, limP, rep1_I, stKB, setAtB, hlen, slice_arr, hb2]
      exact byA_refl _
end Go.Av
