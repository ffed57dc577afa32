/- Tags are alike in the program and the document, and the second law gives true for any two backends and lists of items. -/
import Derived.Test.YtljmmfgacoapaaaDoorC4
import Derived.Test.YtljmmfgacoapaaaDoorC2
namespace Go.Av
set_option maxHeartbeats 2000000
set_option maxRecDepth 20000
set_option linter.unusedSimpArgs false
set_option linter.unusedVariables false
def domB : List Int := [97, 118, 111, 117, 99, 104, 47, 116, 114, 97, 110, 115, 99, 114, 105, 112, 116, 47, 49]
def zer32 : List Int := tab 32 fun _ => 0
/-- A tag, the place, what is wrong. -/
def tagL (b : Int) (l : List It) : List Int × Int × Int :=
  if b ≠ 1 ∧ b ≠ 2 then (zer32, -1, 15)
  else if (serL l 0 []).2.2 ≠ 0 then (zer32, (serL l 0 []).2.1, (serL l 0 []).2.2)
  else (sumL (domB ++ ([IntKind.u8.wrap b] ++ (serL l 0 []).1)), -1, 0)
theorem serL_short : ∀ (l : List It) (k : Nat) (out : List Int), (serL l k out).1.length ≤ out.length + l.length * 1000008
  | [], k, out => by simp [serL]
  | x :: l, k, out => by
    rw [serL]
    split
    · simp
    · split
      · rename_i hc
        have h1 := serL_short l (k + 1) (out ++ encB x)
        have h2 := (chk_zero hc).2.2.2.2.2.2
        simp only [List.length_append, encB_len, List.length_cons] at h1 ⊢
        omega
      · simp
theorem dom_cells : [AVal.int .u8 97, AVal.int .u8 118, AVal.int .u8 111, AVal.int .u8 117, AVal.int .u8 99, AVal.int .u8 104, AVal.int .u8 47, AVal.int .u8 116, AVal.int .u8 114, AVal.int .u8 97, AVal.int .u8 110, AVal.int .u8 115, AVal.int .u8 99, AVal.int .u8 114, AVal.int .u8 105, AVal.int .u8 112, AVal.int .u8 116, AVal.int .u8 47, AVal.int .u8 49] = cI .u8 domB := rfl
theorem sum_three (L : Lim) (h : AHeap) (z : List AVal) (b : Int) (r : List Int) (hr : r.length < 200000000000) :
    acall ctx L i_digest_Sum [.vsl true [[sA h.blks.length 1 0 1 19 (some 19)], [.vsl true (eI .u8 [b])], [.vsl false (eI .u8 r)]]] (hx h [z, cI .u8 domB] []) = some (.agg (cI .u8 (sumL (domB ++ ([b] ++ r)))), hx h [z, cI .u8 domB] []) := by
  have h1 := ok_DSum L (hx h [z, cI .u8 domB] []) true [(sA h.blks.length 1 0 1 19 (some 19), domB), (.vsl true (eI .u8 [b]), [b]), (.vsl false (eI .u8 r), r)] (by simp) (by
    intro p hp
    simp only [List.mem_cons, List.not_mem_nil, or_false] at hp
    rcases hp with rfl | rfl | rfl
    · exact ⟨RdI.sA [] .u8 1 19 _ domB rfl (by simp), by simp [domB]⟩
    · exact ⟨RdI.vsl _ .u8 true [b], by simp⟩
    · exact ⟨RdI.vsl _ .u8 false r, hr⟩)
  have h2 : msg [(sA h.blks.length 1 0 1 19 (some 19), domB), (.vsl true (eI .u8 [b]), [b]), (.vsl false (eI .u8 r), r)] = domB ++ ([b] ++ r) := by simp [msg]
  rw [h2] at h1
  exact h1
@[simp] theorem sumL_len (l : List Int) : (sumL l).length = 32 := by
  obtain ⟨c1, c2⟩ := takeAll_ok l (q := (tab 25 fun _ => 0#64, 0)) (by simp) (by simp)
  simp [sumL, endL, permL_len, c1]
theorem ok_Tag (L : Lim) (h : AHeap) (b : Int) (l : List It) (hn : l.length ≤ 2000) :
    acall ctx L i_tag_Tag [.int .i64 b, .vsl false (l.map It.cells)] h = some (.tup [.agg (cI .u8 (tagL b l).1), .int .i64 (tagL b l).2.1, .int .i64 (tagL b l).2.2], h) := by
  rw [call_tag_Tag]
  have hser := fun L h => ok_Ser L h l hn
  by_cases hb : b ≠ 1 ∧ b ≠ 2
  · have e1 : tagL b l = (zer32, -1, 15) := by unfold tagL; rw [if_pos hb]
    rw [e1]
    simp [C_tag_Tag, -List.map_take, limP, rep1_I, bne, beq_false_of_ne hb.1, beq_false_of_ne hb.2, fillA, stKB, setAtB, partAB, zer32]
  · have hb' : b = 1 ∨ b = 2 := by omega
    by_cases h0 : (serL l 0 []).2.2 = 0
    · have e1 : tagL b l = (sumL (domB ++ ([IntKind.u8.wrap b] ++ (serL l 0 []).1)), -1, 0) := by unfold tagL; rw [if_neg hb, if_neg (by simpa using h0)]
      rw [e1]
      have hlen : (serL l 0 []).1.length < 200000000000 := by
        have := serL_short l 0 []; simp at this; omega
      rcases hb' with rfl | rfl
      · simp [C_tag_Tag, -List.map_take, limP, rep1_I, hser, h0, fillA, rep, chunks, eI_one, dom_cells, sum_three, hlen, stKB, setAtB, partAB]
      · simp [C_tag_Tag, -List.map_take, limP, rep1_I, hser, h0, fillA, rep, chunks, eI_one, dom_cells, sum_three, hlen, stKB, setAtB, partAB]
    · have e1 : tagL b l = (zer32, (serL l 0 []).2.1, (serL l 0 []).2.2) := by unfold tagL; rw [if_neg hb, if_pos h0]
      rw [e1]
      have b0 : ((serL l 0 []).2.2 == 0) = false := beq_false_of_ne h0
      rcases hb' with rfl | rfl
      · simp [C_tag_Tag, -List.map_take, limP, rep1_I, hser, bne, b0, fillA, stKB, setAtB, partAB, zer32]
      · simp [C_tag_Tag, -List.map_take, limP, rep1_I, hser, bne, b0, fillA, stKB, setAtB, partAB, zer32]
theorem inB_app {l m : List Int} (hl : inB l) (hm : inB m) : inB (l ++ m) := fun i hi => by
  by_cases h : i < l.length
  · rw [gd_app1 _ _ _ _ h]; exact hl i h
  · rw [gd_app2 _ _ _ _ (by omega)]; exact hm _ (by simp at hi; omega)
theorem wrap8_range (n : Int) : 0 ≤ IntKind.u8.wrap n ∧ IntKind.u8.wrap n < 256 := by
  have : IntKind.u8.wrap n = n % 256 := by unfold IntKind.wrap; simp [IntKind.signed, IntKind.bits]
  rw [this]; omega
theorem inB_nil : inB [] := fun i hi => by simp at hi
theorem inB_all {l : List Int} (h : ∀ x ∈ l, 0 ≤ x ∧ x < 256) : inB l := fun i hi => by
  have := gd_get? (d := (0 : Int)) hi
  exact h _ (List.mem_of_getElem? this)
theorem inB_one (n : Int) : inB [IntKind.u8.wrap n] := inB_all fun x hx => by
  simp at hx; subst hx; exact wrap8_range n
theorem inB_le (n : Int) : ∀ k, inB (le n k)
  | 0 => inB_nil
  | k + 1 => by rw [le]; exact inB_app (inB_le n k) (inB_one _)
theorem inB_bts (s : ByteArray) : inB (bts s) := inB_all fun x hx => by
  unfold bts at hx
  simp only [List.mem_map] at hx
  obtain ⟨b, _, rfl⟩ := hx
  have := b.toNat_lt
  omega
theorem inB_encB (x : It) : inB (encB x) := by
  unfold encB
  have h0 : inB [IntKind.u8.wrap x.kind, IntKind.u8.wrap x.typ] := inB_app (l := [_]) (inB_one _) (inB_one _)
  exact inB_app (inB_app (inB_app h0 (inB_le _ _)) (inB_le _ _)) (inB_bts _)
theorem inB_ser : ∀ (l : List It) (k : Nat) (out : List Int), inB out → inB (serL l k out).1
  | [], k, out, h => h
  | x :: l, k, out, h => by
    rw [serL]
    split
    · exact inB_nil
    · split
      · exact inB_ser l (k + 1) _ (inB_app h (inB_encB x))
      · exact inB_nil
theorem inB_dom : inB domB := inB_all fun x hx => by
  have : ∀ x ∈ domB, 0 ≤ x ∧ x < 256 := by decide
  exact this x hx
theorem RSum_gA (L : Lim) (h : AHeap) (n i : Nat) (es : List (List AVal)) : acall ctx L i_avouchref07zSum [gA n i es] h = acall ctx L i_avouchref07zSum [.vsl false es] h := by
  rw [call_avouchref07zSum, call_avouchref07zSum]; simp
theorem ok_RTag (L : Lim) (h : AHeap) (b : Int) (l : List It) (hn : l.length ≤ 2000) :
    acall ctx L i_avouchref14zTag [.int .i64 b, .vsl false (l.map It.cells)] h = some (.tup [.vsl false (eI .u8 (tagL b l).1), .int .i64 (tagL b l).2.1, .int .i64 (tagL b l).2.2], h) := by
  rw [call_avouchref14zTag]
  have hser := fun L h => ok_RSer L h l hn
  have hz : cI .u8 (tab 32 fun _ => 0) = cI .u8 zer32 := rfl
  have hf := fun bs ts n' nt => frz_sA h (cI .u8 zer32 :: bs) ts nt n' 0 32 (some 32) .u8 zer32 (by simp) (by simp [zer32])
  have ht : zer32.take 32 = zer32 := List.take_of_length_le (by simp [zer32])
  by_cases hb : b ≠ 1 ∧ b ≠ 2
  · have e1 : tagL b l = (zer32, -1, 15) := by unfold tagL; rw [if_pos hb]
    rw [e1]
    simp [C_avouchref14zTag, -List.map_take, limP, mkK_int, maxRoom, rep_rep1, rep1_I, bne, beq_false_of_ne hb.1, beq_false_of_ne hb.2, hz, hf, ht]
  · have hb' : b = 1 ∨ b = 2 := by omega
    by_cases h0 : (serL l 0 []).2.2 = 0
    · have e1 : tagL b l = (sumL (domB ++ ([IntKind.u8.wrap b] ++ (serL l 0 []).1)), -1, 0) := by unfold tagL; rw [if_neg hb, if_neg (by simpa using h0)]
      rw [e1]
      have hlen : (serL l 0 []).1.length < 90000000000 := by
        have := serL_short l 0 []; simp at this; omega
      have hB : inB (domB ++ ([IntKind.u8.wrap b] ++ (serL l 0 []).1)) := inB_app inB_dom (inB_app (inB_one b) (inB_ser l 0 [] inB_nil))
      have hsum := fun L h c => ok_RSum L h c (domB ++ ([IntKind.u8.wrap b] ++ (serL l 0 []).1)) (by simp [domB]; omega) hB
      rw [rsum_sum _ hB] at hsum
      simp only [List.cons_append, List.nil_append] at hsum
      have hdl : domB.length = 19 := rfl
      rcases hb' with rfl | rfl
      · have ha := fun L bs => appK_sAf L h (bs :: [cI .u8 domB]) [] 1 19 .u8 domB [IntKind.u8.wrap 1] true (by simp) (by simp [maxRoom, domB])
        simp [C_avouchref14zTag, -List.map_take, limP, mkK_int, maxRoom, rep_rep1, rep1_I, hser, h0, fillA, rep, rep1, chunks, eI_one, dom_cells, ha, appK_gA, hdl, RSum_gA, hsum, show 20 + (serL l 0 []).1.length < 274877906944 by omega]
      · have ha := fun L bs => appK_sAf L h (bs :: [cI .u8 domB]) [] 1 19 .u8 domB [IntKind.u8.wrap 2] true (by simp) (by simp [maxRoom, domB])
        simp [C_avouchref14zTag, -List.map_take, limP, mkK_int, maxRoom, rep_rep1, rep1_I, hser, h0, fillA, rep, rep1, chunks, eI_one, dom_cells, ha, appK_gA, hdl, RSum_gA, hsum, show 20 + (serL l 0 []).1.length < 274877906944 by omega]
    · have e1 : tagL b l = (zer32, (serL l 0 []).2.1, (serL l 0 []).2.2) := by unfold tagL; rw [if_neg hb, if_pos h0]
      rw [e1]
      have b0 : ((serL l 0 []).2.2 == 0) = false := beq_false_of_ne h0
      rcases hb' with rfl | rfl
      · simp [C_avouchref14zTag, -List.map_take, limP, mkK_int, maxRoom, rep_rep1, rep1_I, hser, bne, b0, hz, hf, ht]
      · simp [C_avouchref14zTag, -List.map_take, limP, mkK_int, maxRoom, rep_rep1, rep1_I, hser, bne, b0, hz, hf, ht]
end Go.Av

namespace Go.Av
set_option maxRecDepth 100000
theorem two_tags : sumL (domB ++ [1]) ≠ sumL (domB ++ [2]) := by decide +kernel
end Go.Av

namespace Go.Av
set_option maxHeartbeats 2000000
set_option maxRecDepth 100000
set_option linter.unusedSimpArgs false
set_option linter.unusedVariables false
theorem tag_nil (b : Int) (hb : b = 1 ∨ b = 2) : tagL b [] = (sumL (domB ++ [b]), -1, 0) := by
  unfold tagL
  rw [if_neg (by omega)]
  have hw : IntKind.u8.wrap b = b := by rcases hb with rfl | rfl <;> decide
  simp [serL, hw]
theorem Tag_nsl (L : Lim) (h : AHeap) (b : Int) : acall ctx L i_tag_Tag [.int .i64 b, .nsl] h = acall ctx L i_tag_Tag [.int .i64 b, .vsl false []] h := by
  rw [call_tag_Tag, call_tag_Tag]; simp
theorem ok_speaks (L : Lim) (h : AHeap) : acall ctx L i_avouchlaw14zspeaks [] h = some (.bool true, h) := by
  rw [call_avouchlaw14zspeaks]
  have t1 := fun L h => (Tag_nsl L h 1).trans (ok_Tag L h 1 [] (by simp))
  have t2 := fun L h => (Tag_nsl L h 2).trans (ok_Tag L h 2 [] (by simp))
  rw [tag_nil 1 (.inl rfl)] at t1
  rw [tag_nil 2 (.inr rfl)] at t2
  have hne : (sumL (domB ++ [1]) == sumL (domB ++ [2])) = false := beq_false_of_ne two_tags
  have h1 : (sumL (domB ++ [1])).length = 32 := sumL_len _
  have h2 : (sumL (domB ++ [2])).length = 32 := sumL_len _
  generalize sumL (domB ++ [1]) = a at *
  generalize sumL (domB ++ [2]) = b at *
  simp [C_avouchlaw14zspeaks, limP, t1, t2, rep1_I, stKB, setAtB, h1, h2, partAB, eqA_cI, hne, -eqA_agg]
theorem loop_TT {fr : Fr} {h : AHeap} {R : Option (AEx × Fr × AHeap)} (l : List It) (hn : l.length ≤ 2000)
    (hF : run ctx (limP h) (.loop Ba_avouchlaw14zTagTells) fr (hx h [] []) = R)
    (h21 : fr 21 = .vsl false (l.map It.cells)) (h22 : fr 22 = .int .i64 l.length) (h23 : fr 23 = .int .i64 0) :
    ∃ e fr' bs, R = some (e, fr', hx h bs []) ∧ ((e = .ret ∧ fr' 4 = .bool true) ∨ (e = .exit 0 ∧ ∀ x ∈ l, x.label.size ≤ 400)) ∧ ∀ t, t ∉ wr Ba_avouchlaw14zTagTells → fr' t = fr t := by
  obtain ⟨e, fr', h', rfl, ⟨⟨bs, rfl⟩, hp⟩, hk⟩ := loop_rule hF l.length
    (fun k fr hh => fr 23 = .int .i64 k ∧ (∃ bs, hh = hx h bs []) ∧ ∀ x ∈ l.take k, x.label.size ≤ 400)
    (fun e fr hh => (∃ bs, hh = hx h bs []) ∧ ((e = .ret ∧ fr 4 = .bool true) ∨ (e = .exit 0 ∧ ∀ x ∈ l, x.label.size ≤ 400)))
    ⟨h23, ⟨[], rfl⟩, by simp⟩ (by
      rintro k fr1 hh hkN hkeep ⟨g23, ⟨bs, rfl⟩, ga⟩
      have g21 := (hkeep 21 (by decide)).trans h21
      have g22 := (hkeep 22 (by decide)).trans h22
      by_cases hlt : k < l.length
      · have w1 : IntKind.i64.wrap ((k : Int) + 1) = k + 1 := wrap_i64 (by omega) (by omega)
        have h3 : l[k].cells[3]? = some (.str l[k].label) := rfl
        by_cases h400 : (l[k].label.size : Int) > 400
        · simp [Ba_avouchlaw14zTagTells, g21, g22, g23, hlt, iadrA, asI, partAB, stKB, setAtB, limP]
          simp [It.cells, show 400 < l[k].label.size by omega, show (400 : Int) < l[k].label.size by omega]
          exact ⟨_, rfl⟩
        · have hnext : ∀ x ∈ l.take (k + 1), x.label.size ≤ 400 := by
            intro x hx
            rw [List.take_succ_eq_append_getElem hlt] at hx
            rcases List.mem_append.1 hx with hx | hx
            · exact ga x hx
            · simp at hx; subst hx; omega
          simp [Ba_avouchlaw14zTagTells, g21, g22, g23, hlt, iadrA, asI, partAB, stKB, setAtB, limP]
          simp [It.cells, show ¬ 400 < l[k].label.size by omega, show ¬ (400 : Int) < l[k].label.size by omega, g23, w1, hlt]
          exact ⟨⟨_, rfl⟩, hnext⟩
      · have : k = l.length := by omega
        subst this
        rw [List.take_length] at ga
        simp [Ba_avouchlaw14zTagTells, g22, g23]
        exact ⟨⟨_, rfl⟩, ga⟩)
  exact ⟨e, fr', bs, rfl, hp, hk⟩
theorem byA_refl (s : ByteArray) : (s == s) = true := (Go.MapKept.bytes_beq s s).2 rfl
theorem ok_TagTells (L : Lim) (h : AHeap) (b : Int) (l : List It) (hl40 : l.length ≤ 2000 ∨ l.length > 40) :
    acall ctx L i_avouchlaw14zTagTells [.int .i64 b, .vsl false (l.map It.cells)] h = some (.bool true, h) := by
  rw [call_avouchlaw14zTagTells]
  by_cases hn : (l.length : Int) > 40
  · simp [C_avouchlaw14zTagTells, ok_speaks, -List.map_take, hn]
  · have hn' : l.length ≤ 40 := by omega
    simp [C_avouchlaw14zTagTells, ok_speaks, -List.map_take, hn, show ¬ 40 < l.length by omega]
    generalize hF : run ctx _ (.loop _) _ _ = R
    obtain ⟨e, fr', bs, rfl, ⟨rfl, e1⟩ | ⟨rfl, e1⟩, hk⟩ := loop_TT l (by omega) hF (by simp) (by simp) (by simp)
    · simp [e1]
    · have hsz : ∀ x ∈ l, x.label.size < 1000000 := fun x hx => by have := e1 x hx; omega
      have ho := fun L h => ok_Ofs L h l (by omega)
      have ht := fun L h => ok_Tag L h b l (by omega)
      have hr := fun L h => ok_RTag L h b l (by omega)
      have hlen : (tagL b l).1.length = 32 := by
        unfold tagL
        split
        · simp [zer32]
        · split
          · simp [zer32]
          · simp
      have hs := fun bs ts i hb => b2sK_sA h bs ts i 32 (some 32) (tagL b l).1 hb hlen
      generalize (tagL b l).1 = T at *
      generalize (tagL b l).2.1 = a at *
      generalize (tagL b l).2.2 = e at *
      have hb2 := b2sK_sA h (bs ++ [cI .u8 T]) [] bs.length 32 (some 32) T (by simp) hlen
      simp [hk, wr, Ba_avouchlaw14zTagTells, dsts, ho, ht, hr, limP, rep1_I, stKB, setAtB, hlen, slice_arr, hb2]
      exact byA_refl _
end Go.Av

namespace Go.Av
set_option maxHeartbeats 2000000
set_option maxRecDepth 100000
set_option linter.unusedSimpArgs false
set_option linter.unusedVariables false
/-! #### the same items? -/
def itE (x y : It) : Bool := x.kind == y.kind && (x.typ == y.typ && (x.count == y.count && x.label == y.label))
theorem itE_iff (x y : It) : itE x y = true ↔ x = y := by
  obtain ⟨k, t, c, l⟩ := x
  obtain ⟨k', t', c', l'⟩ := y
  simp only [itE, Bool.and_eq_true, beq_iff_eq, Go.MapKept.bytes_beq, It.mk.injEq]
def sameL : List It → List It → Bool
  | [], [] => true
  | x :: l, y :: m => itE x y && sameL l m
  | _, _ => false
theorem sameL_iff : ∀ l m : List It, sameL l m = true ↔ l = m
  | [], [] => by simp [sameL]
  | [], y :: m => by simp [sameL]
  | x :: l, [] => by simp [sameL]
  | x :: l, y :: m => by simp [sameL, itE_iff, sameL_iff l m]
theorem cells_eq (x y : It) : cellsEq [.i, .i, .i, .s] x.cells y.cells = some (itE x y) := by
  simp [It.cells, cellsEq, cellEq, itE]
theorem loop_Same {fr : Fr} {h : AHeap} {R : Option (AEx × Fr × AHeap)} (l m : List It) (hn : l.length = m.length) (hs : l.length < 1000000)
    (hF : run ctx (limP h) (.loop Ba_avouchref13zSame) fr (hx h [] []) = R)
    (h0 : fr 0 = .vsl false (l.map It.cells)) (h1 : fr 1 = .vsl false (m.map It.cells)) (h5 : fr 5 = .int .i64 0) :
    ∃ e fr', R = some (e, fr', hx h [] []) ∧ ((e = .ret ∧ fr' 4 = .bool false ∧ sameL l m = false) ∨ (e = .exit 0 ∧ sameL l m = true)) := by
  obtain ⟨e, fr', h', rfl, ⟨rfl, hp⟩, hk⟩ := loop_rule hF l.length
    (fun k fr hh => fr 5 = .int .i64 k ∧ hh = hx h [] [] ∧ sameL l m = sameL (l.drop k) (m.drop k))
    (fun e fr hh => hh = hx h [] [] ∧ ((e = .ret ∧ fr 4 = .bool false ∧ sameL l m = false) ∨ (e = .exit 0 ∧ sameL l m = true)))
    ⟨h5, rfl, by simp⟩ (by
      rintro k fr1 hh hkN hkeep ⟨g5, rfl, gs⟩
      have g0 := (hkeep 0 (by decide)).trans h0
      have g1 := (hkeep 1 (by decide)).trans h1
      by_cases hlt : k < l.length
      · have hlt2 : k < m.length := by omega
        have w1 : IntKind.i64.wrap ((k : Int) + 1) = k + 1 := wrap_i64 (by omega) (by omega)
        rw [List.drop_eq_getElem_cons hlt, List.drop_eq_getElem_cons hlt2, sameL] at gs
        have hc := cells_eq l[k] m[k]
        cases hb : itE l[k] m[k]
        · rw [hb] at gs hc
          simp at gs
          simp [Ba_avouchref13zSame, g0, g1, g5, hlt, hlt2, iadrA, asI, partAB, hc, gs]
        · rw [hb] at gs hc
          simp at gs
          simp [Ba_avouchref13zSame, g0, g1, g5, hlt, hlt2, iadrA, asI, partAB, hc, w1]
          exact gs
      · have : k = l.length := by omega
        subst this
        simp [Ba_avouchref13zSame, g0, g5]
        rw [gs, List.drop_length, List.drop_eq_nil_of_le (by omega)]; rfl)
  exact ⟨e, fr', rfl, hp⟩
theorem ok_RSame (L : Lim) (h : AHeap) (l m : List It) (hs : l.length < 1000000) : acall ctx L i_avouchref13zSame [.vsl false (l.map It.cells), .vsl false (m.map It.cells)] h = some (.bool (sameL l m), h) := by
  rw [call_avouchref13zSame]
  by_cases hn : l.length = m.length
  · simp [C_avouchref13zSame, -List.map_take, hn, bne]
    generalize hF : run ctx _ (.loop _) _ _ = R
    obtain ⟨e, fr', rfl, ⟨rfl, e1, e2⟩ | ⟨rfl, e1⟩⟩ := loop_Same l m hn hs hF (by simp) (by simp) (by simp)
    · simp [e1, e2]
    · simp [e1]
  · have hne : ((l.length : Int) == (m.length : Int)) = false := beq_false_of_ne (by omega)
    have hf : sameL l m = false := by
      cases hb : sameL l m
      · rfl
      · exact absurd (congrArg List.length ((sameL_iff l m).1 hb)) hn
    simp [C_avouchref13zSame, -List.map_take, bne, hne, hf]

/-! #### unlike items, unlike bytes -/
def catB (l : List It) : List Int := (l.map encB).flatten
theorem ser_ok : ∀ (l : List It) (k : Nat) (out : List Int), (serL l k out).2.2 = 0 → (serL l k out).1 = out ++ catB l ∧ ∀ x ∈ l, chk x = 0
  | [], k, out, _ => by simp [serL, catB]
  | x :: l, k, out, h => by
    rw [serL] at h ⊢
    split at h
    · simp at h
    · split at h
      · rename_i h1 h2
        rw [if_neg h1, if_pos h2]
        obtain ⟨e1, e2⟩ := ser_ok l (k + 1) (out ++ encB x) h
        refine ⟨by rw [e1]; simp [catB], fun y hy => ?_⟩
        rcases List.mem_cons.1 hy with rfl | hy
        · exact h2
        · exact e2 y hy
      · rename_i h1 h2; exact absurd h h2
theorem wrap8_emod (n : Int) : IntKind.u8.wrap n = n % 256 := by unfold IntKind.wrap; simp [IntKind.signed, IntKind.bits]
theorem bts_inj {s t : ByteArray} (h : bts s = bts t) : s = t := by
  have h1 : s.data.toList = t.data.toList := by
    unfold bts at h
    exact List.map_inj_right (fun a b hab => UInt8.toNat_inj.1 (by exact_mod_cast hab)) |>.1 h
  have h2 : s.data = t.data := Array.toList_inj.1 h1
  cases s; cases t; simp at h2; rw [h2]
theorem enc_inj {x y : It} {r s : List Int} (hx1 : chk x = 0) (hy1 : chk y = 0) (h : encB x ++ r = encB y ++ s) : x = y ∧ r = s := by
  obtain ⟨a1, a2, a3, a4, a5, a6, a7⟩ := chk_zero hx1
  obtain ⟨b1, b2, b3, b4, b5, b6, b7⟩ := chk_zero hy1
  obtain ⟨k, t, c, l⟩ := x
  obtain ⟨k', t', c', l'⟩ := y
  simp only at a1 a2 a3 a4 a5 a6 a7 b1 b2 b3 b4 b5 b6 b7
  simp only [encB, le, wrap8_emod, List.nil_append, List.cons_append, List.append_assoc, List.cons.injEq, Nat.mul_zero, Nat.mul_one, Int.pow_zero] at h
  obtain ⟨e1, e2, e3, e4, e5, e6, e7, e8, h⟩ := h
  have hk : k = k' := by omega
  have ht : t = t' := by omega
  have hc : c = c' := by
    simp only [Int.fdiv_eq_ediv_of_nonneg _ (show (0 : Int) ≤ 1 by decide), Int.fdiv_eq_ediv_of_nonneg _ (Int.pow_nonneg (show (0 : Int) ≤ 2 by decide))] at e3 e4 e5 e6
    simp only [Int.ediv_one, show (2 : Int) ^ 8 = 256 from rfl, show (2 : Int) ^ (8 * 2) = 65536 from rfl, show (2 : Int) ^ (8 * 3) = 16777216 from rfl] at e3 e4 e5 e6
    omega
  have hsz : l.size = l'.size := by
    simp only [Int.fdiv_eq_ediv_of_nonneg _ (show (0 : Int) ≤ 1 by decide), Int.ediv_one] at e7
    omega
  obtain ⟨h1, h2⟩ := List.append_inj h (by simpa using hsz)
  have hl := bts_inj h1
  subst hk ht hc hl
  exact ⟨rfl, h2⟩
theorem cat_inj : ∀ (l m : List It), (∀ x ∈ l, chk x = 0) → (∀ x ∈ m, chk x = 0) → catB l = catB m → l = m
  | [], [], _, _, _ => rfl
  | [], y :: m, _, _, h => by
    have := congrArg List.length h
    simp [catB] at this
    omega
  | x :: l, [], _, _, h => by
    have := congrArg List.length h
    simp [catB] at this
  | x :: l, y :: m, hl, hm, h => by
    have h' : encB x ++ catB l = encB y ++ catB m := by simpa [catB] using h
    obtain ⟨rfl, h2⟩ := enc_inj (hl x (by simp)) (hm y (by simp)) h'
    rw [cat_inj l m (fun z hz => hl z (by simp [hz])) (fun z hz => hm z (by simp [hz])) h2]
theorem byA_inj {l m : List Int} (hl : inB l) (hm : inB m) (h : byA l = byA m) : l = m := by
  unfold byA at h
  have h1 : l.map (fun n => UInt8.ofNat n.toNat) = m.map fun n => UInt8.ofNat n.toNat := by
    have := congrArg (fun s : ByteArray => s.data.toList) h
    simpa using this
  have hlen : l.length = m.length := by simpa using congrArg List.length h1
  rw [← tab_gd l 0, ← tab_gd m 0, ← hlen]
  refine tab_congr fun i hi => ?_
  have h2 : (l.map (fun n => UInt8.ofNat n.toNat))[i]? = (m.map fun n => UInt8.ofNat n.toNat)[i]? := by rw [h1]
  rw [List.getElem?_map, List.getElem?_map, gd_get? (d := 0) hi, gd_get? (d := 0) (by omega)] at h2
  simp only [Option.map_some, Option.some.injEq] at h2
  have r1 := hl i hi
  have r2 := hm i (by omega)
  have h3 := congrArg UInt8.toNat h2
  simp only [UInt8.toNat_ofNat'] at h3
  omega
end Go.Av

namespace Go.Av
set_option maxHeartbeats 200000
set_option maxRecDepth 100000
set_option linter.unusedSimpArgs false
set_option linter.unusedVariables false
theorem RdI.gA (h : AHeap) (k : IntKind) (n i : Nat) (l : List Int) : RdI h k (gA n i (eI k l)) l :=
  ⟨by simp, fun j => .vptr [.int k (gd l 0 j)] 0, fun j hj => by simp [iadrA, asI, Av.gA, eI_get, gd, List.getD, hj], fun j bs ts hj => by simp⟩
theorem sum_one (L : Lim) (h : AHeap) (n i : Nat) (r : List Int) (hr : r.length < 200000000000) :
    acall ctx L i_digest_Sum [.vsl true [[gA n i (eI .u8 r)]]] h = some (.agg (cI .u8 (sumL r)), h) := by
  have h1 := ok_DSum L h true [(gA n i (eI .u8 r), r)] (by simp) (by
    intro p hp
    simp only [List.mem_cons, List.not_mem_nil, or_false] at hp
    subst hp
    exact ⟨RdI.gA h .u8 n i r, hr⟩)
  have h2 : msg [(gA n i (eI .u8 r), r)] = r := by simp [msg]
  rw [h2] at h1
  exact h1
theorem tag_ok (b : Int) (l : List It) (h : (tagL b l).2.2 = 0) : (b = 1 ∨ b = 2) ∧ (serL l 0 []).2.2 = 0 ∧ (tagL b l).1 = sumL (domB ++ ([IntKind.u8.wrap b] ++ catB l)) ∧ (serL l 0 []).1 = catB l ∧ ∀ x ∈ l, chk x = 0 := by
  unfold tagL at h ⊢
  split at h
  · simp at h
  · rename_i hb
    split at h
    · rename_i h1; exact absurd h h1
    · rename_i h1
      have h0 : (serL l 0 []).2.2 = 0 := Decidable.not_not.1 h1
      obtain ⟨e1, e2⟩ := ser_ok l 0 [] h0
      rw [if_neg hb, if_neg h1]
      refine ⟨by omega, h0, ?_, by simpa using e1, e2⟩
      rw [e1]; simp
theorem inB_cat : ∀ l : List It, inB (catB l)
  | [] => inB_nil
  | x :: l => by
    have : catB (x :: l) = encB x ++ catB l := by simp [catB]
    rw [this]; exact inB_app (inB_encB x) (inB_cat l)
theorem pq_iff (x y : Int) (a b : List It) (hx : x = 1 ∨ x = 2) (hy : y = 1 ∨ y = 2) (ha : ∀ z ∈ a, chk z = 0) (hb : ∀ z ∈ b, chk z = 0) :
    domB ++ ([IntKind.u8.wrap x] ++ catB a) = domB ++ ([IntKind.u8.wrap y] ++ catB b) ↔ x = y ∧ a = b := by
  constructor
  · intro h
    have h1 := List.append_cancel_left h
    simp only [List.cons_append, List.nil_append, List.cons.injEq] at h1
    rw [wrap8_emod, wrap8_emod] at h1
    exact ⟨by omega, cat_inj a b ha hb h1.2⟩
  · rintro ⟨rfl, rfl⟩; rfl

theorem unlike_tail (h : AHeap) (x y : Int) (a b : List It) (T1 T2 : List Int) (fr : Fr)
    (hq : ∀ (L : Lim) (h : AHeap), acall ctx L i_avouchref13zSame [AVal.vsl false (List.map It.cells a), AVal.vsl false (List.map It.cells b)] h = some (AVal.bool (sameL a b), h))
    (hsum1 : ∀ (L : Lim) (h : AHeap) (n i : Nat), acall ctx L i_digest_Sum [AVal.vsl true [[gA n i (eI IntKind.u8 (domB ++ IntKind.u8.wrap x :: catB a))]]] h = some (AVal.agg (cI IntKind.u8 T1), h))
    (hsum2 : ∀ (L : Lim) (h : AHeap) (n i : Nat), acall ctx L i_digest_Sum [AVal.vsl true [[gA n i (eI IntKind.u8 (domB ++ IntKind.u8.wrap y :: catB b))]]] h = some (AVal.agg (cI IntKind.u8 T2), h))
    (hl1 : T1.length = 32) (hl2 : T2.length = 32)
    (hsame : (x == y && sameL a b) = (byA (domB ++ IntKind.u8.wrap x :: catB a) == byA (domB ++ IntKind.u8.wrap y :: catB b)))
    (hsame2 : (x == y && sameL a b) = true → T1 = T2)
    (g2 : AVal.vsl false (List.map It.cells a) = fr 2)
    (g3 : AVal.vsl false (List.map It.cells b) = fr 3)
    (g9 : pA h.blks.length 0 0 = fr 9)
    (g12 : pA h.blks.length 1 0 = fr 12)
    (g21 : gA h.toks.length 0 (eI IntKind.u8 (domB ++ IntKind.u8.wrap x :: catB a)) = fr 21)
    (g22 : gA h.toks.length 1 (eI IntKind.u8 (domB ++ IntKind.u8.wrap y :: catB b)) = fr 22)
    (g90 : AVal.bool (x == y) = fr 90) :
    endR Mode.pure h 116 [ARes.tmp 8]
      [AVal.int IntKind.i64 x, AVal.int IntKind.i64 y, AVal.vsl false (List.map It.cells a),
        AVal.vsl false (List.map It.cells b)]
      false
      (seqR ctx { rob := h.blks.length, rot := h.toks.length, nb := h.blks.length, nt := h.toks.length }
        (regR
          (grdR ctx { rob := h.blks.length, rot := h.toks.length, nb := h.blks.length, nt := h.toks.length } fr
            (hx h [cI IntKind.u8 T1, cI IntKind.u8 T2, cI IntKind.u8 domB, cI IntKind.u8 domB]
              [20 + (catB a).length, 20 + (catB b).length])
            (x == y) (some 91) (AOp.v (VOp.mv (AO.t 2)))
            [{ dst := some 92, op := AOp.v (VOp.mv (AO.t 3)), grd := some (90, true) },
              { dst := some 93, op := AOp.r (ROp.call i_avouchref13zSame [AO.t 91, AO.t 92]), grd := some (90, true) },
              iv 94 (VOp.pick (AO.t 90) (AO.t 93) (AO.k (AVal.bool false))), iv 23 (VOp.mv (AO.t 94))]))
        (((AC.reg
                  [iv 95 (VOp.mv (AO.t 21)), ir 96 (ROp.b2s (AO.t 95)), iv 97 (VOp.mv (AO.t 22)),
                    ir 98 (ROp.b2s (AO.t 97)), iv 99 (VOp.bin BinOp.eql (AO.t 96) (AO.t 98)), iv 100 (VOp.mv (AO.t 23)),
                    iv 101 (VOp.eq ECls.bool true (AO.t 99) (AO.t 100))]).seq
              (AC.cond (AO.t 101) ((AC.reg [iv 8 (VOp.mv (AO.k (AVal.bool false)))]).seq AC.ret) AC.skip)).seq
          ((AC.reg
                [ir 102 (ROp.ld 32 true (AO.t 9)), ir 103 (ROp.ld 32 true (AO.t 12)),
                  iv 104 (VOp.eq (ECls.agg (rep1 CK.i 32)) false (AO.t 102) (AO.t 103)), iv 105 (VOp.mv (AO.t 23)),
                  iv 106 (VOp.eq ECls.bool false (AO.t 104) (AO.t 105)), iv 107 (VOp.mv (AO.t 106)),
                  { dst := some 108, op := AOp.v (VOp.mv (AO.t 21)), grd := some (107, false) },
                  { dst := some 109, op := AOp.v (VOp.slit 1 1 [AVal.nsl] [(0, AO.t 108)]), grd := some (107, false) },
                  { dst := some 110, op := AOp.r (ROp.call i_digest_Sum [AO.t 109]), grd := some (107, false) },
                  { dst := some 111, op := AOp.v (VOp.mv (AO.t 22)), grd := some (107, false) },
                  { dst := some 112, op := AOp.v (VOp.slit 1 1 [AVal.nsl] [(0, AO.t 111)]), grd := some (107, false) },
                  { dst := some 113, op := AOp.r (ROp.call i_digest_Sum [AO.t 112]), grd := some (107, false) },
                  { dst := some 114, op := AOp.v (VOp.eq (ECls.agg (rep1 CK.i 32)) false (AO.t 110) (AO.t 113)),
                    grd := some (107, false) },
                  iv 115 (VOp.pick (AO.t 107) (AO.k (AVal.bool true)) (AO.t 114)), iv 8 (VOp.mv (AO.t 115))]).seq
            AC.ret))) =
    some (AVal.bool true, h) := by
  have hp1 : partA true (cI .u8 T1) 0 32 = some (.agg (cI .u8 T1)) := by
    rw [partA_cI _ _ _ _ (by simp [hl1]), List.drop_zero, List.take_of_length_le (by omega)]
  have hp2 : partA true (cI .u8 T2) 0 32 = some (.agg (cI .u8 T2)) := by
    rw [partA_cI _ _ _ _ (by simp [hl2]), List.drop_zero, List.take_of_length_le (by omega)]
  cases hxy : (x == y)
  · simp [hxy] at hsame
    simp [hxy, hsame, ← g2, ← g3, ← g9, ← g12, ← g21, ← g22, ← g90]
    rw [hp1]
    simp [← g2, ← g3, ← g9, ← g12, ← g21, ← g22, ← g90]
    rw [hp2]
    simp [hl1, hl2, eqA_cI, -eqA_agg, ← g21, ← g22]
    cases htt : (T1 == T2)
    · simp [htt]
    · simp [htt, fillA, rep, chunks, hsum1, hsum2, ← g21, ← g22, eqA_cI, -eqA_agg, hl1, hl2]
  · simp [hxy] at hsame hsame2
    cases hsl : sameL a b
    · simp [hsl] at hsame
      simp [hxy, hsl, hsame, hq, limP, ← g2, ← g3, ← g9, ← g12, ← g21, ← g22, ← g90]
      rw [hp1]
      simp [← g2, ← g3, ← g9, ← g12, ← g21, ← g22, ← g90]
      rw [hp2]
      simp [hl1, hl2, eqA_cI, -eqA_agg, ← g21, ← g22]
      cases htt : (T1 == T2)
      · simp [htt]
      · simp [htt, fillA, rep, chunks, hsum1, hsum2, ← g21, ← g22, eqA_cI, -eqA_agg, hl1, hl2]
    · simp [hsl] at hsame hsame2
      simp [hxy, hsl, hsame, hq, limP, ← g2, ← g3, ← g9, ← g12, ← g21, ← g22, ← g90]
      rw [hp1]
      simp [← g2, ← g3, ← g9, ← g12, ← g21, ← g22, ← g90]
      rw [hp2]
      simp [hl1, hl2, hsame2, eqA_cI, -eqA_agg, ← g21, ← g22]
theorem tagL_len (b : Int) (l : List It) : (tagL b l).1.length = 32 := by
  unfold tagL
  split
  · simp [zer32]
  · split
    · simp [zer32]
    · simp
theorem ok_TagUnlike (L : Lim) (h : AHeap) (x y : Int) (a b : List It) :
    acall ctx L i_avouchlaw14zTagUnlike [.int .i64 x, .int .i64 y, .vsl false (a.map It.cells), .vsl false (b.map It.cells)] h = some (.bool true, h) := by
  rw [call_avouchlaw14zTagUnlike]
  by_cases hna : (a.length : Int) > 20
  · simp [C_avouchlaw14zTagUnlike, ok_speaks, -List.map_take, hna]
  · by_cases hnb : (b.length : Int) > 20
    · simp [C_avouchlaw14zTagUnlike, ok_speaks, -List.map_take, hna, hnb]
    · have ho1 := fun L h => ok_Ofs L h a (by omega)
      have ho2 := fun L h => ok_Ofs L h b (by omega)
      have ht1 := fun L h => ok_Tag L h x a (by omega)
      have ht2 := fun L h => ok_Tag L h y b (by omega)
      have hl1 := tagL_len x a
      have hl2 := tagL_len y b
      by_cases e1 : (tagL x a).2.2 = 0
      · by_cases e2 : (tagL y b).2.2 = 0
        · have hs1 := fun L h => ok_RSer L h a (by omega)
          have hs2 := fun L h => ok_RSer L h b (by omega)
          have hq := fun L h => ok_RSame L h a b (by omega)
          obtain ⟨hx, x1, x2, x3, x4⟩ := tag_ok x a e1
          obtain ⟨hy, y1, y2, y3, y4⟩ := tag_ok y b e2
          have hpq := pq_iff x y a b hx hy x4 y4
          have hla : (catB a).length < 90000000000 := by
            have := serL_short a 0 []; rw [x3] at this; simp at this; omega
          have hlb : (catB b).length < 90000000000 := by
            have := serL_short b 0 []; rw [y3] at this; simp at this; omega
          have hBa : inB (domB ++ ([IntKind.u8.wrap x] ++ catB a)) := inB_app inB_dom (inB_app (inB_one x) (inB_cat a))
          have hBb : inB (domB ++ ([IntKind.u8.wrap y] ++ catB b)) := inB_app inB_dom (inB_app (inB_one y) (inB_cat b))
          have hdl : domB.length = 19 := rfl
          have hPl : (domB ++ ([IntKind.u8.wrap x] ++ catB a)).length < 200000000000 := by simp [hdl]; omega
          have hQl : (domB ++ ([IntKind.u8.wrap y] ++ catB b)).length < 200000000000 := by simp [hdl]; omega
          have hsum1 := fun L h n i => sum_one L h n i (domB ++ ([IntKind.u8.wrap x] ++ catB a)) hPl
          have hsum2 := fun L h n i => sum_one L h n i (domB ++ ([IntKind.u8.wrap y] ++ catB b)) hQl
          have hsame : (x == y && sameL a b) = (byA (domB ++ ([IntKind.u8.wrap x] ++ catB a)) == byA (domB ++ ([IntKind.u8.wrap y] ++ catB b))) := by
            rw [Bool.eq_iff_iff, Go.MapKept.bytes_beq, Bool.and_eq_true, sameL_iff, beq_iff_eq, ← hpq]
            exact ⟨fun h => by rw [h], fun h => byA_inj hBa hBb h⟩
          have hsame2 : (x == y && sameL a b) = true → (tagL x a).1 = (tagL y b).1 := by
            intro h
            rw [Bool.and_eq_true, sameL_iff, beq_iff_eq] at h
            obtain ⟨rfl, rfl⟩ := h; rfl
          rw [x1] at hs1
          rw [y1] at hs2
          rw [x3] at hs1
          rw [y3] at hs2
          rw [← x2] at hsum1
          rw [← y2] at hsum2
          simp only [e1] at ht1
          simp only [e2] at ht2
          simp only [List.cons_append, List.nil_append] at hsame hsum1 hsum2
          clear hpq x1 x2 x3 x4 y1 y2 y3 y4 e1 e2 hBa hBb hPl hQl hx hy
          generalize (tagL x a).1 = T1 at *
          generalize (tagL y b).1 = T2 at *
          generalize (tagL x a).2.1 = n1 at *
          generalize (tagL y b).2.1 = n2 at *
          generalize (serL a 0 []).2.1 = n3 at *
          generalize (serL b 0 []).2.1 = n4 at *
          have ap1 := fun L => appK_sAf L h [cI .u8 T1, cI .u8 T2, cI .u8 domB] [] 2 19 .u8 domB [IntKind.u8.wrap x] true (by simp) (by simp [maxRoom, domB])
          have ap2 := fun L ts => appK_sAf L h [cI .u8 T1, cI .u8 T2, cI .u8 domB, cI .u8 domB] ts 3 19 .u8 domB [IntKind.u8.wrap y] true (by simp) (by simp [maxRoom, domB])
          simp only [C_avouchlaw14zTagUnlike]
          simp [ok_speaks, -List.map_take, hna, hnb, limP, ho1, ho2, ht1, ht2, hs1, hs2, rep1_I, stKB, setAtB, hl1, hl2, bne, partAB, fillA, rep, chunks, eI_one, dom_cells, ap1, ap2, appK_gA, maxRoom, hdl, show 20 + (catB a).length < 274877906944 by omega, show 20 + (catB b).length < 274877906944 by omega, hq, eqA_cI, -eqA_agg, hsum1, hsum2]
          generalize hU : upd _ _ _ = fr
          have g2 := congrFun hU 2
          have g3 := congrFun hU 3
          have g9 := congrFun hU 9
          have g12 := congrFun hU 12
          have g21 := congrFun hU 21
          have g22 := congrFun hU 22
          have g90 := congrFun hU 90
          simp at g2 g3 g9 g12 g21 g22 g90
          clear hU
          exact unlike_tail h x y a b T1 T2 fr hq hsum1 hsum2 hl1 hl2 hsame hsame2 g2 g3 g9 g12 g21 g22 g90
        · have b2 : ((tagL y b).2.2 == 0) = false := beq_false_of_ne e2
          generalize tagL x a = T1 at *
          generalize tagL y b = T2 at *
          obtain ⟨t1, n1, c1⟩ := T1
          obtain ⟨t2, n2, c2⟩ := T2
          simp only at *
          simp [C_avouchlaw14zTagUnlike, ok_speaks, -List.map_take, hna, hnb, limP, ho1, ho2, ht1, ht2, rep1_I, stKB, setAtB, hl1, hl2, e1, bne, b2]
      · have b1 : ((tagL x a).2.2 == 0) = false := beq_false_of_ne e1
        generalize tagL x a = T1 at *
        generalize tagL y b = T2 at *
        obtain ⟨t1, n1, c1⟩ := T1
        obtain ⟨t2, n2, c2⟩ := T2
        simp only at *
        simp [C_avouchlaw14zTagUnlike, ok_speaks, -List.map_take, hna, hnb, limP, ho1, ho2, ht1, ht2, rep1_I, stKB, setAtB, hl1, hl2, bne, b1]
end Go.Av
