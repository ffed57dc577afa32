/- How a law's arguments are read, and equations by which the machine's runs are reckoned. -/
import Derived.Test.YtafkceblllhheaaDoorV4
import Derived.Carry
import Derived.OpenShut
import Derived.MapKept
namespace Go.Av
open Go.RowKit
set_option linter.unusedVariables false
set_option linter.unusedSimpArgs false

/-- What a cell may hold. -/
inductive Ty where
  | bool | int (k : IntKind) | str | sl (e : List Ty)

mutual
inductive CellOk : Ty → AVal → Prop
  | bool (b : Bool) : CellOk .bool (.bool b)
  | int (k : IntKind) (n : Int) (h : (Lit.int k n).wf = true) : CellOk (.int k) (.int k n)
  | str (x : ByteArray) (h : x.size ≤ maxLen) : CellOk .str (.str x)
  | sl (ts : List Ty) (es : List (List AVal)) (hl : es.length ≤ maxLen) (h : ElemsOk ts es) : CellOk (.sl ts) (.vsl false es)
inductive CellsOk : List Ty → List AVal → Prop
  | nil : CellsOk [] []
  | cons (t : Ty) (ts : List Ty) (c : AVal) (cs : List AVal) (h : CellOk t c) (ht : CellsOk ts cs) : CellsOk (t :: ts) (c :: cs)
inductive ElemsOk : List Ty → List (List AVal) → Prop
  | nil (ts : List Ty) : ElemsOk ts []
  | cons (ts : List Ty) (e : List AVal) (es : List (List AVal)) (h : CellsOk ts e) (ht : ElemsOk ts es) : ElemsOk ts (e :: es)
end

theorem CellOk.cell {t : Ty} {c : AVal} (h : CellOk t c) : c.isCell = true := by cases h <;> rfl
theorem CellsOk.cell : ∀ {ts : List Ty} {cs : List AVal}, CellsOk ts cs → ∀ c ∈ cs, c.isCell = true
  | _, _, .nil => by simp
  | _, _, .cons t ts c cs h ht => fun x hx => by
    rcases List.mem_cons.1 hx with rfl | hx
    · exact h.cell
    · exact ht.cell x hx
theorem CellsOk.length : ∀ {ts : List Ty} {cs : List AVal}, CellsOk ts cs → cs.length = ts.length
  | _, _, .nil => rfl
  | _, _, .cons t ts c cs h ht => by simp [ht.length]
theorem CellsOk.append : ∀ {ts us : List Ty} {cs ds : List AVal}, CellsOk ts cs → CellsOk us ds → CellsOk (ts ++ us) (cs ++ ds)
  | _, _, _, _, .nil, h => h
  | _, _, _, _, .cons t ts c cs h ht, h' => .cons t _ c _ h (ht.append h')

def shF (P : Program) (rec : TypeId → Option (List Ty)) (z : Nat) : Nat → List Field → Option (List Ty)
  | o, [] => if o = z then some [] else none
  | o, f :: fs => if f.offset = o then
      match rec f.type with
      | some l => if l.length = P.cellsOf f.type then (shF P rec z (o + P.cellsOf f.type) fs).map (l ++ ·) else none
      | none => none
    else none
def shT (P : Program) : Nat → TypeId → Option (List Ty)
  | 0, _ => none
  | d + 1, t => match P.underlying t with
    | some .bool => some [.bool]
    | some (.int k) => some [.int k]
    | some .string => some [.str]
    | some (.slice e) => match shT P d e with
      | some l => if l.length = P.cellsOf e ∧ 0 < l.length then some [.sl l] else none
      | none => none
    | some (.struct fs) => shF P (shT P d) (P.cellsOf t) 0 fs.toList
    | some (.array n e) => match shT P d e with
      | some l => if P.cellsOf t = n * P.cellsOf e ∧ l.length = P.cellsOf e then some (nrep l n) else none
      | none => none
    | _ => none

/-- The world before a call from outside: nothing may be written. -/
def st0 (W : World) : St := ⟨W, ⟨[], []⟩, [], [], 0, 0⟩
theorem imm0 (W : World) (X o : Nat) : Imm (st0 W) X o := ⟨fun b _ h => by simp [st0] at h, fun t sz n _ h => by simp [st0] at h⟩

section
variable {H : Type} {enc : TypeId × Value → H} {P : Program} {W : World} {base : Nat} {spare : Nat → Bool} {held : Bool}

theorem repL_row {X o : Nat} {avs : List AVal} {cs : List Value} (hr : RepL (st0 W) avs cs) (hk : ∀ c ∈ avs, c.isCell = true) (hc : ∀ (i : Nat) v, cs[i]? = some v → World.at W X (o + i) = some v) : RepR (st0 W) X o avs := by
  refine RepR.of_get fun i c hi => ?_
  obtain ⟨v, hv, hrep⟩ := hr.get i c hi
  exact ⟨v, hc i v hv, imm0 W _ _, hk c (List.mem_of_getElem? hi), hrep⟩

theorem add_bo (a : Addr) (k : Nat) : (a.add k).block = a.block ∧ (a.add k).off = a.off + k := by
  unfold Addr.add
  split <;> simp_all
theorem cells_row {a : Addr} {n : Nat} {cs : List Value} (h : W.cells? base a n = some cs) (hn : 0 < n) : a.spot = none ∧ cs.length = n ∧ ∀ (i : Nat) v, cs[i]? = some v → World.at W a.block (a.off + i) = some v := by
  unfold World.cells? at h
  split at h
  · have hlen : cs.length = n := by simpa using mapM_some_length h
    have key : ∀ i : Nat, i < n → W.cell? (a.add i) = cs[i]? := fun i hi => mapM_some_get h i i (by simp [hi])
    have hs : a.spot = none := by
      have h0 := key 0 hn
      rw [List.getElem?_eq_getElem (by omega)] at h0
      unfold World.cell? at h0
      split at h0
      · split at h0
        · simp at h0
        · rename_i hsp
          simpa [Addr.add] using hsp
      · simp at h0
    refine ⟨hs, hlen, fun i v hi => ?_⟩
    have hlt := (List.getElem?_eq_some_iff.1 hi).1
    have := key i (by omega)
    rw [hi] at this
    unfold World.at
    rw [← this]
    congr 1
    simp [Addr.add, hs]
    intro h0
    subst h0
    cases a
    simp at hs
    subst hs
    rfl
  · simp at h

def sEq (W : World) (tys : List Ty) (cs : List Value) : Prop := ∃ avs, CellsOk tys avs ∧ RepL (st0 W) avs cs

theorem sEq.append {t u : List Ty} {a b : List Value} (h : sEq W t a) (k : sEq W u b) : sEq W (t ++ u) (a ++ b) := by
  obtain ⟨x, h1, h2⟩ := h
  obtain ⟨y, k1, k2⟩ := k
  exact ⟨x ++ y, h1.append k1, h2.append k2⟩

theorem ElemsOk.of_all {ts : List Ty} : ∀ {es : List (List AVal)}, (∀ e ∈ es, CellsOk ts e) → ElemsOk ts es
  | [], _ => .nil ts
  | e :: es, h => .cons ts e es (h e (by simp)) (ElemsOk.of_all fun x hx => h x (by simp [hx]))

theorem shF_open {n : Nat} {cs : List Value} {rec : TypeId → Option (List Ty)} {z : Nat} (hz : cs.length = z)
    (ih : ∀ (t : TypeId) (tys : List Ty) (cs' : List Value), rec t = some tys → (∃ x, DataW.trod enc P W base spare held n t cs' = some x) → sEq W tys cs') :
    ∀ (fs : List Field) (o : Nat) (tys : List Ty), shF P rec z o fs = some tys → (∀ f ∈ fs, ∃ x, DataW.trod enc P W base spare held n f.type ((cs.drop f.offset).take (P.cellsOf f.type)) = some x) →
      sEq W tys (cs.drop o)
  | [], o, tys, h, _ => by
    simp only [shF] at h
    split at h
    · rename_i ho
      obtain rfl := Option.some.inj h
      rw [List.drop_eq_nil_of_le (by omega)]
      exact ⟨[], .nil, .nil⟩
    · simp at h
  | f :: fs, o, tys, h, hf => by
    simp only [shF] at h
    split at h
    · rename_i ho
      split at h
      · rename_i l hl
        split at h
        · obtain ⟨r, hr, rfl⟩ := map_some h
          have h1 := ih f.type l _ hl (hf f (by simp))
          rw [ho] at h1
          have h2 := shF_open hz ih fs _ r hr fun g hg => hf g (by simp [hg])
          have := h1.append h2
          rwa [← List.drop_drop, List.take_append_drop] at this
        · simp at h
      · simp at h
    · simp at h

theorem arr_open {n sz : Nat} {cs : List Value} {l : List Ty} (hz : cs.length = n * sz) (hi : ∀ i, i < n → sEq W l ((cs.drop (i * sz)).take sz)) : ∀ k, k ≤ n → sEq W (nrep l k) (cs.drop ((n - k) * sz))
  | 0, _ => by
    rw [Nat.sub_zero, List.drop_eq_nil_of_le (by omega)]
    exact ⟨[], .nil, .nil⟩
  | k + 1, hk => by
    have h1 := hi (n - (k + 1)) (by omega)
    have h2 := arr_open hz hi k (by omega)
    have := h1.append h2
    have e : (n - k) * sz = (n - (k + 1)) * sz + sz := by
      rw [← Nat.succ_mul]; congr 1; omega
    rwa [e, ← List.drop_drop, List.take_append_drop] at this

theorem open_cells : ∀ (d : Nat) {t : TypeId} {tys : List Ty} {fuel : Nat} {cs : List Value} {x : DataW H × List MemPlace}, shT P d t = some tys →
    DataW.trod enc P W base spare held fuel t cs = some x → sEq W tys cs
  | 0, t, tys, fuel, cs, x, hs, h => by simp [shT] at hs
  | d + 1, t, tys, fuel, cs, x, hs, h => by
    simp only [shT] at hs
    split at hs
    · rename_i hu
      obtain rfl := Option.some.inj hs
      cases fuel with
      | zero => simp [DataW.trod] at h
      | succ n =>
        unfold DataW.trod at h
        rw [hu] at h
        split at h <;> simp_all
        exact ⟨_, .cons _ _ _ _ (.bool _) .nil, .cons _ _ _ _ (.bool _) .nil⟩
    · rename_i k hu
      obtain rfl := Option.some.inj hs
      cases fuel with
      | zero => simp [DataW.trod] at h
      | succ n =>
        unfold DataW.trod at h
        rw [hu] at h
        split at h <;> simp_all
        obtain ⟨⟨rfl, hw⟩, _⟩ := h
        exact ⟨_, .cons _ _ _ _ (.int _ _ hw) .nil, .cons _ _ _ _ (.int _ _) .nil⟩
    · rename_i hu
      obtain rfl := Option.some.inj hs
      cases fuel with
      | zero => simp [DataW.trod] at h
      | succ n =>
        unfold DataW.trod at h
        rw [hu] at h
        split at h <;> simp_all
        exact ⟨_, .cons _ _ _ _ (.str _ h.1) .nil, .cons _ _ _ _ (.str _) .nil⟩
    · rename_i e hu
      split at hs
      · rename_i l hl
        split at hs
        · rename_i hlen
          obtain rfl := Option.some.inj hs
          rcases DataW.trod_slice hu h with ⟨rfl, _⟩ | ⟨a, len, cap, elems, rest, n, rfl, rfl, _, hb, hlc, hcm, hel, hget, _⟩
          · exact ⟨[.vsl false []], .cons _ _ _ _ (.sl l [] (by simp) (.nil l)) .nil, .cons _ _ _ _ (.vsl0 false none 0 (by simp) (fun _ => rfl)) .nil⟩
          · subst hel
            have key : ∀ i : Nat, i < elems.length → (a.add (i * P.cellsOf e)).spot = none ∧ ∃ x : List AVal, CellsOk l x ∧ RepR (st0 W) a.block (a.off + i * P.cellsOf e) x := fun i hi => by
              have h1 := hget i hi
              rw [List.getElem?_eq_getElem hi] at h1
              obtain ⟨cs', h2, h3⟩ := Option.bind_eq_some_iff.1 h1
              obtain ⟨avs, g1, g2⟩ := open_cells d hl h3
              obtain ⟨k1, k2, k3⟩ := cells_row h2 (by omega)
              obtain ⟨b1, b2⟩ := add_bo a (i * P.cellsOf e)
              refine ⟨k1, avs, g1, repL_row g2 g1.cell fun j v hj => ?_⟩
              have := k3 j v hj
              rw [b1, b2] at this
              exact this
            by_cases h0 : elems.length = 0
            · rw [h0]
              exact ⟨[.vsl false []], .cons _ _ _ _ (.sl l [] (by simp) (.nil l)) .nil, .cons _ _ _ _ (.vsl0 false (some a) cap (by simp) (by simp)) .nil⟩
            · let f : Nat → List AVal := fun i => if h : i < elems.length then (key i h).2.choose else []
              have hf : ∀ i, i < elems.length → CellsOk l (f i) ∧ RepR (st0 W) a.block (a.off + i * P.cellsOf e) (f i) := fun i hi => by
                simp only [f, dif_pos hi]
                exact (key i hi).2.choose_spec
              have hsp := (key 0 (by omega)).1
              rw [Nat.zero_mul] at hsp
              replace hsp : a.spot = none := by simpa [Addr.add] using hsp
              obtain ⟨X, o, sp⟩ := a
              simp only [] at hsp
              subst hsp
              refine ⟨[.vsl false ((List.range elems.length).map f)], .cons _ _ _ _ (.sl l _ (by simp; omega) (.of_all fun y he => ?_)) .nil, .cons _ _ _ _ (.vsl false _ X o (P.cellsOf e) cap elems.length (RepE.of_get fun i y he => ?_) (by simp) hlc (by simp)) .nil⟩
              · obtain ⟨i, hi, rfl⟩ := List.mem_map.1 he
                exact (hf i (by simpa using hi)).1
              · have hi : i < elems.length := by have := (List.getElem?_eq_some_iff.1 he).1; simpa using this
                rw [List.getElem?_map, List.getElem?_range hi] at he
                obtain rfl := Option.some.inj he
                exact ⟨by rw [(hf i hi).1.length]; exact hlen.1, (hf i hi).2⟩
        · simp at hs
      · simp at hs
    · rename_i fs hu
      obtain ⟨xs, n, rfl, _, hl, hlen, hf⟩ := DataW.trod_struct hu h
      have := shF_open (enc := enc) (base := base) (spare := spare) (held := held) (n := n) hl (fun t tys cs' h1 ⟨x, h2⟩ => open_cells d h1 h2) fs.toList 0 tys hs fun f hfm => by
        obtain ⟨i, hi⟩ := List.mem_iff_getElem?.1 hfm
        have hi' : fs[i]? = some f := by simpa using hi
        have hlt := (Array.getElem?_eq_some_iff.1 hi').1
        exact ⟨_, (hf i f hi').trans (List.getElem?_eq_getElem (by omega))⟩
      simpa using this
    · rename_i n e hu
      split at hs
      · rename_i l hl
        split at hs
        · rename_i hz
          obtain rfl := Option.some.inj hs
          obtain ⟨xs, m, rfl, _, hlc, hlen, hget⟩ := DataW.trod_array hu h
          have := arr_open (W := W) (n := n) (sz := P.cellsOf e) (cs := cs) (l := l) (by rw [hlc]; exact hz.1) (fun i hi => open_cells d hl ((hget i hi).trans (List.getElem?_eq_getElem (by omega)))) n (Nat.le_refl _)
          simpa using this
        · simp at hs
      · simp at hs
    · simp at hs

/-- A law's argument. -/
theorem open_arg {d : Nat} {t : TypeId} {tys : List Ty} {v : Value} {dd : DataW H} {ps : List MemPlace} (hs : shT P d t = some tys) (hok : Value.okWide P W .any base t v) (h : DataW.Trod enc P W 0 spare held t v dd ps) :
    (∃ avs, CellsOk tys avs ∧ Rep (st0 W) (.agg avs) v ∧ ∃ cs, v = .agg cs) ∨ (∃ ty c, tys = [ty] ∧ CellOk ty c ∧ Rep (st0 W) c v ∧ ∀ cs, v ≠ .agg cs) := by
  obtain ⟨fuel, h⟩ := h
  obtain ⟨avs, h1, h2⟩ := open_cells d hs h
  by_cases hv : ∃ cs, v = .agg cs
  · obtain ⟨cs, rfl⟩ := hv
    exact .inl ⟨avs, h1, .agg avs cs (by simpa [Value.cells] using h2) h1.cell, cs, rfl⟩
  · right
    have e : v.cells = #[v] := by
      cases v <;> first | rfl | exact (hv ⟨_, rfl⟩).elim
    rw [e] at h2
    cases h2 with
    | cons c _ cs _ hc ht =>
      cases ht
      cases h1 with
      | cons ty ts _ _ g1 g2 =>
        cases g2
        exact ⟨ty, c, rfl, g1, hc, fun cs hcs => hv ⟨cs, hcs⟩⟩

end

/-- A call from outside. -/
theorem call_top {C : Ctx} {P : Program} (hC : CtxOk C P) {W : World} {f : FuncId} {F : AFn} {args : List AVal} {cargs : Array Value} {h' : AHeap} (hF : C.fns f = some F)
    (hv : acall C ⟨0, 0, 0, 0⟩ f args ⟨[], []⟩ = some (.bool true, h')) (hg : ∀ g cs, C.glob g = some cs → GlobR (st0 W) g cs) (hargs : RepL (st0 W) args cargs.toList) :
    Calls P f cargs W fun e W' => e = .returned (.bool true) ∧ Below W.heap.size W W' := by
  obtain ⟨⟨_, hc⟩, _⟩ := acall_ok hC hv
  have hsim : Sim C (st0 W) := ⟨rfl, rfl, fun b X cs hb => by simp [st0] at hb, fun b b' X hb => by simp [st0] at hb, fun t t' X z z' ht => by simp [st0] at ht, fun b t X z hb => by simp [st0] at hb, fun t X z ht => by simp [st0] at ht, hg⟩
  obtain ⟨nx, w', h1, h2⟩ := hc (st0 W) cargs rfl hsim ⟨Nat.le_refl _, Nat.le_refl _, Nat.le_refl _, Nat.le_refl _⟩ hargs
  obtain ⟨fn, fl, g1, g2, g3⟩ := hC.fns f F hF
  have hb : ∃ x, fn.body = some x := by
    unfold cfn at g2
    cases hx : fn.body with
    | some x => exact ⟨x, rfl⟩
    | none => rw [hx] at g2; simp at g2
  obtain ⟨x, hx⟩ := hb
  have he := enter_run g1 hx g3 cargs W
  have h1' : (callFunc f cargs).run P W = .ok nx w' := h1
  rw [he] at h1'
  injection h1' with e1 e2
  subst e1 e2
  rcases h2 with ⟨cv, h3 | h3, _⟩ | ⟨f', args', h3, h4⟩
  · simp at h3
  · simp at h3
  · injection h3 with e1 e2
    subst e1 e2
    refine h4.mono fun e W' hgd => ?_
    cases e with
    | returned cv =>
      obtain ⟨s', rfl, _, _, hle, hrep⟩ := hgd
      cases hrep
      have hk := hle.kept
      exact ⟨rfl, hk.os, hk.tape, hk.out, hk.size, fun k hlt => hk.heap k hlt fun ht => by
        rcases ht with ⟨b, hb⟩ | ⟨t, z, hz⟩
        · simp [st0] at hb
        · simp [st0] at hz⟩
    | panicked _ => exact hgd.elim
    | outgrown => exact hgd.elim
end Go.Av

namespace Go.Av
set_option linter.unusedVariables false
set_option linter.unusedSimpArgs false

/-! #### short words -/
abbrev iv (d : Nat) (o : VOp) : AI := ⟨some d, .v o, none, [], 0, 0⟩
abbrev ir (d : Nat) (o : ROp) : AI := ⟨some d, .r o, none, [], 0, 0⟩
abbrev ic (d : Nat) (o : COp) : AI := ⟨some d, .c o, none, [], 0, 0⟩
abbrev jv (o : VOp) : AI := ⟨none, .v o, none, [], 0, 0⟩
abbrev jr (o : ROp) : AI := ⟨none, .r o, none, [], 0, 0⟩
abbrev jc (o : COp) : AI := ⟨none, .c o, none, [], 0, 0⟩
def rep1 {α : Type} (x : α) : Nat → List α
  | 0 => []
  | n + 1 => x :: rep1 x n

/-- As if-then-else, of values. -/
def ifK {α : Type} (b : Bool) (x y : α) : α := if b = true then x else y
@[simp] theorem ifK_true {α : Type} (x y : α) : ifK true x y = x := rfl
@[simp] theorem ifK_false {α : Type} (x y : α) : ifK false x y = y := rfl

noncomputable section
variable (C : Ctx) (L : Lim) (fr : Fr) (h : AHeap)

/-! #### code -/
def seqR (r : Option (AEx × Fr × AHeap)) (b : AC) : Option (AEx × Fr × AHeap) :=
  r.bind fun r => match r.1 with
    | .normal => run C L b r.2.1 r.2.2
    | _ => some r
@[simp] theorem seqR_none (b : AC) : seqR C L none b = none := rfl
@[simp] theorem seqR_normal (b : AC) : seqR C L (some (.normal, fr, h)) b = run C L b fr h := rfl
@[simp] theorem seqR_exit (b : AC) (i : Nat) : seqR C L (some (.exit i, fr, h)) b = some (.exit i, fr, h) := rfl
@[simp] theorem seqR_goto (b : AC) (i : Nat) : seqR C L (some (.goto i, fr, h)) b = some (.goto i, fr, h) := rfl
@[simp] theorem seqR_ret (b : AC) : seqR C L (some (.ret, fr, h)) b = some (.ret, fr, h) := rfl

@[simp] theorem run_skip : run C L .skip fr h = some (.normal, fr, h) := by rw [run.eq_def]
@[simp] theorem run_label (l : Nat) : run C L (.label l) fr h = some (.normal, fr, h) := by rw [run.eq_def]
@[simp] theorem run_exit (i : Nat) : run C L (.exit i) fr h = some (.exit i, fr, h) := by rw [run.eq_def]
@[simp] theorem run_goto (i : Nat) : run C L (.goto i) fr h = some (.goto i, fr, h) := by rw [run.eq_def]
@[simp] theorem run_ret : run C L .ret fr h = some (.ret, fr, h) := by rw [run.eq_def]
@[simp] theorem run_seq' (a b : AC) : run C L (.seq a b) fr h = seqR C L (run C L a fr h) b := by rw [run.eq_def]; rfl
def blkK (id : Nat) (r : Option (AEx × Fr × AHeap)) : Option (AEx × Fr × AHeap) := r.map fun r => if r.1 = .exit id then (.normal, r.2) else r
@[simp] theorem blkK_none (id : Nat) : blkK id none = none := rfl
@[simp] theorem blkK_some (id : Nat) (e : AEx) : blkK id (some (e, fr, h)) = some (if e = .exit id then .normal else e, fr, h) := by
  unfold blkK; simp only [Option.map_some]; split <;> simp_all
@[simp] theorem run_blk' (id : Nat) (a : AC) : run C L (.blk id a) fr h = blkK id (run C L a fr h) := by
  rw [run.eq_def]
  simp only [blkK]
  cases run C L a fr h with
  | none => rfl
  | some r => simp only [bind, Option.bind_some, Option.map_some]; split <;> rfl
def boolOf : AVal → Option Bool
  | .bool b => some b
  | _ => none
@[simp] theorem boolOf_bool (b : Bool) : boolOf (.bool b) = some b := rfl
@[simp] theorem boolOf_ifK (t x y : Bool) : boolOf (ifK t (.bool x) (.bool y)) = some (ifK t x y) := by cases t <;> rfl
def condB (b : Bool) (x y : AC) : Option (AEx × Fr × AHeap) := if b = true then run C L x fr h else run C L y fr h
@[simp] theorem condB_true (x y : AC) : condB C L fr h true x y = run C L x fr h := rfl
@[simp] theorem condB_false (x y : AC) : condB C L fr h false x y = run C L y fr h := rfl
def condR (c : Option Bool) (x y : AC) : Option (AEx × Fr × AHeap) := c.bind fun c => condB C L fr h c x y
@[simp] theorem condR_some (b : Bool) (x y : AC) : condR C L fr h (some b) x y = condB C L fr h b x y := rfl
@[simp] theorem run_condE (c : AO) (a b : AC) : run C L (.cond c a b) fr h = condR C L fr h (boolOf (C.ev fr c)) a b := by
  rw [run.eq_def]
  simp only
  generalize C.ev fr c = v
  cases v <;> first | rfl | (rename_i b; cases b <;> rfl)
theorem run_loopE (a : AC) : run C L (.loop a) fr h = seqR C L (run C L a fr h) (.loop a) := by
  rw [run.eq_def]
  rfl
def scopeR (a : AC) (r : Option (AEx × Fr × AHeap)) : Option (AEx × Fr × AHeap) := r.bind fun r => scopeA C L a r.1 r.2.1 r.2.2
@[simp] theorem scopeR_some (a : AC) (e : AEx) : scopeR C L a (some (e, fr, h)) = scopeA C L a e fr h := rfl
@[simp] theorem run_scope' (a : AC) : run C L (.scope a) fr h = scopeR C L a (run C L a fr h) := by rw [run.eq_def]; rfl
@[simp] theorem scopeA_normal (a : AC) : scopeA C L a .normal fr h = some (.normal, fr, h) := by rw [scopeA.eq_def]
@[simp] theorem scopeA_ret (a : AC) : scopeA C L a .ret fr h = some (.ret, fr, h) := by rw [scopeA.eq_def]
@[simp] theorem scopeA_exit (a : AC) (i : Nat) : scopeA C L a (.exit i) fr h = some (.exit i, fr, h) := by rw [scopeA.eq_def]
theorem scopeA_goto (a : AC) (i : Nat) : scopeA C L a (.goto i) fr h = match findLab a i with
    | some rest => scopeR C L a (run C L rest fr h)
    | none => some (.goto i, fr, h) := by rw [scopeA.eq_def]; rfl

/-! #### regions in order -/
def regR (r : Option (Fr × AHeap)) : Option (AEx × Fr × AHeap) := r.map fun r => (.normal, r.1, r.2)
@[simp] theorem regR_some : regR (some (fr, h)) = some (.normal, fr, h) := rfl
@[simp] theorem run_reg' (ops : List AI) : run C L (.reg ops) fr h = regR (runO C L ops fr h) := by
  rw [run.eq_def]; simp only; cases runO C L ops fr h <;> rfl
@[simp] theorem runO_nil' : runO C L [] fr h = some (fr, h) := by rw [runO.eq_def]
theorem runO_cons' (i : AI) (rest : List AI) : runO C L (i :: rest) fr h = if wantedA fr i.grd = true then (step1 C L i.op fr h).bind fun r => runO C L rest (put fr i.dst r.1) r.2 else runO C L rest (put fr i.dst undefA) h := by
  rw [runO.eq_def]; rfl
def opV (d : Option Nat) (rest : List AI) (r : Option AVal) : Option (Fr × AHeap) := r.bind fun v => runO C L rest (put fr d v) h
@[simp] theorem opV_some (d : Option Nat) (rest : List AI) (v : AVal) : opV C L fr h d rest (some v) = runO C L rest (put fr d v) h := rfl
def opC (d : Option Nat) (rest : List AI) (r : Option (AVal × AHeap)) : Option (Fr × AHeap) := r.bind fun r => runO C L rest (put fr d r.1) r.2
@[simp] theorem opC_some (d : Option Nat) (rest : List AI) (v : AVal) : opC C L fr d rest (some (v, h)) = runO C L rest (put fr d v) h := rfl
@[simp] theorem runO_v (d : Option Nat) (o : VOp) (rest : List AI) (u : List Nat) (x y : Nat) : runO C L (⟨d, .v o, none, u, x, y⟩ :: rest) fr h = opV C L fr h d rest (vopA C fr o) := by
  rw [runO_cons', step1.eq_def]
  simp only [wantedA, if_true]
  cases vopA C fr o <;> rfl
@[simp] theorem runO_r (d : Option Nat) (o : ROp) (rest : List AI) (u : List Nat) (x y : Nat) : runO C L (⟨d, .r o, none, u, x, y⟩ :: rest) fr h = opV C L fr h d rest (stepR C L o fr h) := by
  rw [runO_cons', step1.eq_def]
  simp only [wantedA, if_true]
  cases stepR C L o fr h <;> rfl
@[simp] theorem runO_c (d : Option Nat) (o : COp) (rest : List AI) (u : List Nat) (x y : Nat) : runO C L (⟨d, .c o, none, u, x, y⟩ :: rest) fr h = opC C L fr d rest (stepC C L o fr h) := by
  rw [runO_cons', step1.eq_def]
  simp only [wantedA, if_true]
  rfl
def grdV (v : AVal) (b : Bool) : Bool := match v with | .bool c => c == b | _ => false
@[simp] theorem grdV_true (c : Bool) : grdV (.bool c) true = c := by cases c <;> rfl
@[simp] theorem grdV_false (c : Bool) : grdV (.bool c) false = !c := by cases c <;> rfl
def grdR (g : Bool) (d : Option Nat) (o : AOp) (rest : List AI) : Option (Fr × AHeap) := if g = true then runO C L (⟨d, o, none, [], 0, 0⟩ :: rest) fr h else runO C L rest (put fr d undefA) h
@[simp] theorem grdR_true (d : Option Nat) (o : AOp) (rest : List AI) : grdR C L fr h true d o rest = runO C L (⟨d, o, none, [], 0, 0⟩ :: rest) fr h := rfl
@[simp] theorem grdR_false (d : Option Nat) (o : AOp) (rest : List AI) : grdR C L fr h false d o rest = runO C L rest (put fr d undefA) h := rfl
@[simp] theorem runO_g (d : Option Nat) (o : AOp) (t : Nat) (b : Bool) (rest : List AI) (u : List Nat) (x y : Nat) : runO C L (⟨d, o, some (t, b), u, x, y⟩ :: rest) fr h =
    grdR C L fr h (grdV (fr t) b) d o rest := by
  unfold grdR
  rw [runO_cons', runO_cons']
  simp only [wantedA, if_true, grdV]
  rfl

/-! #### operations -/
@[simp] theorem stepR_ld (n : Nat) (g : Bool) (x : AO) : stepR C L (.ld n g x) fr h = loadA h (C.ev fr x) n g := by rw [stepR.eq_def]; rfl
@[simp] theorem stepR_b2s (x : AO) : stepR C L (.b2s x) fr h = ropA C fr h (.b2s x) := by rw [stepR.eq_def]
@[simp] theorem stepR_mark (x : AO) : stepR C L (.mark x) fr h = ropA C fr h (.mark x) := by rw [stepR.eq_def]
def fstR (q : Bool) (r : Option (AVal × AHeap)) : Option AVal := if q = true then r.map (·.1) else none
@[simp] theorem fstR_some (v : AVal) : fstR true (some (v, h)) = some v := rfl
@[simp] theorem stepR_call (f : FuncId) (as : List AO) : stepR C L (.call f as) fr h = fstR (quietMode C f) (acall C L f (as.map (C.ev fr)) h) := by
  rw [stepR.eq_def]; simp only [fstR]; split
  · cases acall C L f (as.map (C.ev fr)) h <;> rfl
  · rfl
@[simp] theorem stepC_call (f : FuncId) (as : List AO) : stepC C L (.call f as) fr h = acall C L f (as.map (C.ev fr)) h := by rw [stepC.eq_def]
def callvR (x : AVal) (as : List AVal) : Option (AVal × AHeap) := match x with
  | .fn (.func f) a b => acall C L f (a ++ as ++ b) h
  | _ => none
@[simp] theorem callvR_fn (f : FuncId) (a b as : List AVal) : callvR C L h (.fn (.func f) a b) as = acall C L f (a ++ as ++ b) h := rfl
@[simp] theorem stepC_callv (x : AO) (as : List AO) : stepC C L (.callv x as) fr h = callvR C L h (C.ev fr x) (as.map (C.ev fr)) := by
  rw [stepC.eq_def]; rfl
@[simp] theorem stepC_alloc (z : List AVal) : stepC C L (.alloc z) fr h = copA C L fr h (.alloc z) := by rw [stepC.eq_def]
@[simp] theorem stepC_box (x : AO) : stepC C L (.box x) fr h = copA C L fr h (.box x) := by rw [stepC.eq_def]
@[simp] theorem stepC_slit (a b : Nat) (z : List AVal) (p : List (Nat × AO)) : stepC C L (.slit a b z p) fr h = copA C L fr h (.slit a b z p) := by rw [stepC.eq_def]
@[simp] theorem stepC_mk (a : Nat) (z : List AVal) (x : AO) : stepC C L (.mk a z x) fr h = copA C L fr h (.mk a z x) := by rw [stepC.eq_def]
@[simp] theorem stepC_mkc (a : Nat) (z : List AVal) (x y : AO) : stepC C L (.mkc a z x y) fr h = copA C L fr h (.mkc a z x y) := by rw [stepC.eq_def]
@[simp] theorem stepC_st (n : Nat) (x y : AO) : stepC C L (.st n x y) fr h = copA C L fr h (.st n x y) := by rw [stepC.eq_def]
@[simp] theorem stepC_app (n : Nat) (r : Bool) (x y : AO) : stepC C L (.app n r x y) fr h = copA C L fr h (.app n r x y) := by rw [stepC.eq_def]
@[simp] theorem stepC_copy (n : Nat) (x y : AO) : stepC C L (.copy n x y) fr h = copA C L fr h (.copy n x y) := by rw [stepC.eq_def]
@[simp] theorem stepC_clear (z : List AVal) (x : AO) : stepC C L (.clear z x) fr h = copA C L fr h (.clear z x) := by rw [stepC.eq_def]
@[simp] theorem stepC_s2b (x : AO) : stepC C L (.s2b x) fr h = copA C L fr h (.s2b x) := by rw [stepC.eq_def]

@[simp] theorem ev_t (n : Nat) : C.ev fr (.t n) = fr n := rfl
@[simp] theorem ev_k (v : AVal) : C.ev fr (.k v) = v := rfl
@[simp] theorem put_some (d : Nat) (v : AVal) : put fr (some d) v = upd fr d v := rfl
@[simp] theorem put_none (v : AVal) : put fr none v = fr := rfl
theorem upd_at (d : Nat) (v : AVal) (i : Nat) : upd fr d v i = if i = d then v else fr i := rfl
@[simp] theorem maskF_at (u : List Nat) (i : Nat) : maskF u fr i = ifK (u.contains i) (fr i) undefA := rfl

/-! #### regions in any order -/
def consK (v : AVal) (r : Option (Fr × List AHeap × List AVal)) : Option (Fr × List AHeap × List AVal) := r.map fun q => (q.1, q.2.1, v :: q.2.2)
def consH (h : AHeap) (v : AVal) (r : Option (Fr × List AHeap × List AVal)) : Option (Fr × List AHeap × List AVal) := r.map fun q => (q.1, h :: q.2.1, v :: q.2.2)
@[simp] theorem consK_some (v : AVal) (fr : Fr) (hs : List AHeap) (vs : List AVal) : consK v (some (fr, hs, vs)) = some (fr, hs, v :: vs) := rfl
@[simp] theorem consH_some (h : AHeap) (v : AVal) (fr : Fr) (hs : List AHeap) (vs : List AVal) : consH h v (some (fr, hs, vs)) = some (fr, h :: hs, v :: vs) := rfl
def drawE (u : Option Unit) : Option (AEx × Fr × AHeap) := u.map fun _ => (.normal, fr, h)
@[simp] theorem drawE_some : drawE fr h (some ()) = some (.normal, fr, h) := rfl
def drawR (ops : List AI) (r : Option (Fr × List AHeap × List AVal)) : Option (AEx × Fr × AHeap) :=
  r.bind fun r => drawE r.1 (r.2.1.getLastD h) (chkD C L ops r.2.2 fr (h :: r.2.1))
@[simp] theorem drawR_some (ops : List AI) (fr' : Fr) (hs : List AHeap) (vs : List AVal) : drawR C L fr h ops (some (fr', hs, vs)) = drawE fr' (hs.getLastD h) (chkD C L ops vs fr (h :: hs)) := rfl
@[simp] theorem run_draw' (ops : List AI) : run C L (.draw ops) fr h = drawR C L fr h ops (runD C L ops fr h) := by
  rw [run.eq_def]
  simp only [drawR, drawE]
  cases runD C L ops fr h with
  | none => rfl
  | some r => simp only [bind, Option.bind_some]; cases chkD C L ops r.2.2 fr (h :: r.2.1) <;> rfl
open Classical in
def twoE (a : List AI) (ag : List (Nat × Nat)) (rA rB : Fr × List AHeap × List AVal) (x y : Option Unit) : Option (AEx × Fr × AHeap) :=
  x.bind fun _ => y.bind fun _ => if TwoEnd h a ag rA rB then some (.normal, rA.1, rA.2.1.getLastD h) else none
theorem twoE_some {a : List AI} {ag : List (Nat × Nat)} {rA rB : Fr × List AHeap × List AVal} (hE : TwoEnd h a ag rA rB) : twoE h a ag rA rB (some ()) (some ()) = some (.normal, rA.1, rA.2.1.getLastD h) := by
  unfold twoE; simp [hE]
def twoR (a b : List AI) (ag : List (Nat × Nat)) (x y : Option (Fr × List AHeap × List AVal)) : Option (AEx × Fr × AHeap) :=
  x.bind fun rA => y.bind fun rB => twoE h a ag rA rB (chkD C L a rA.2.2 fr (h :: rA.2.1)) (chkD C L b rB.2.2 fr (h :: rB.2.1))
@[simp] theorem twoR_some (a b : List AI) (ag : List (Nat × Nat)) (rA rB : Fr × List AHeap × List AVal) : twoR C L fr h a b ag (some rA) (some rB) =
    twoE h a ag rA rB (chkD C L a rA.2.2 fr (h :: rA.2.1)) (chkD C L b rB.2.2 fr (h :: rB.2.1)) := rfl
@[simp] theorem run_draw2' (a b : List AI) (ag : List (Nat × Nat)) : run C L (.draw2 a b ag) fr h = twoR C L fr h a b ag (runD C L a fr h) (runD C L b fr h) := by
  rw [run.eq_def]
  simp only [twoR, twoE]
  cases runD C L a fr h with
  | none => rfl
  | some rA =>
    simp only [bind, Option.bind_some]
    cases runD C L b fr h with
    | none => cases chkD C L a rA.2.2 fr (h :: rA.2.1) <;> rfl
    | some rB =>
      simp only [Option.bind_some]
@[simp] theorem runD_nil' : runD C L [] fr h = some (fr, [], []) := by rw [runD.eq_def]
def dV (d : Option Nat) (rest : List AI) (r : Option AVal) : Option (Fr × List AHeap × List AVal) := r.bind fun v => consK v (runD C L rest (put fr d v) h)
@[simp] theorem dV_some (d : Option Nat) (rest : List AI) (v : AVal) : dV C L fr h d rest (some v) = consK v (runD C L rest (put fr d v) h) := rfl
def dC (d : Option Nat) (rest : List AI) (r : Option (AVal × AHeap)) : Option (Fr × List AHeap × List AVal) := r.bind fun r => consH r.2 r.1 (runD C L rest (put fr d r.1) r.2)
@[simp] theorem dC_some (d : Option Nat) (rest : List AI) (v : AVal) : dC C L fr d rest (some (v, h)) = consH h v (runD C L rest (put fr d v) h) := rfl
@[simp] theorem runD_v (d : Option Nat) (o : VOp) (rest : List AI) (u : List Nat) (x y : Nat) : runD C L (⟨d, .v o, none, u, x, y⟩ :: rest) fr h =
    dV C L fr h d rest (vopA C (maskF u fr) o) := by
  rw [runD.eq_def]
  simp only [wantedA, if_true]
  rw [step1.eq_def]
  simp only
  cases vopA C (maskF u fr) o with
  | none => rfl
  | some v => simp only [bind, Option.bind_some, dV]; cases runD C L rest (put fr d v) h <;> rfl
@[simp] theorem runD_r (d : Option Nat) (o : ROp) (rest : List AI) (u : List Nat) (x y : Nat) : runD C L (⟨d, .r o, none, u, x, y⟩ :: rest) fr h =
    dV C L fr h d rest (stepR C L o (maskF u fr) h) := by
  rw [runD.eq_def]
  simp only [wantedA, if_true]
  rw [step1.eq_def]
  simp only
  cases stepR C L o (maskF u fr) h with
  | none => rfl
  | some v => simp only [bind, Option.bind_some, dV]; cases runD C L rest (put fr d v) h <;> rfl
@[simp] theorem runD_c (d : Option Nat) (o : COp) (rest : List AI) (u : List Nat) (x y : Nat) : runD C L (⟨d, .c o, none, u, x, y⟩ :: rest) fr h =
    dC C L fr d rest (stepC C L o (maskF u fr) h) := by
  rw [runD.eq_def]
  simp only [wantedA, if_true]
  rw [step1.eq_def]
  simp only
  cases stepC C L o (maskF u fr) h with
  | none => rfl
  | some r => simp only [bind, Option.bind_some, dC]; cases runD C L rest (put fr d r.1) r.2 <;> rfl
def grdD (g : Bool) (d : Option Nat) (o : AOp) (u : List Nat) (x y : Nat) (rest : List AI) : Option (Fr × List AHeap × List AVal) :=
  if g = true then runD C L (⟨d, o, none, u, x, y⟩ :: rest) fr h else (if isC o = true then consH h undefA (runD C L rest (put fr d undefA) h) else consK undefA (runD C L rest (put fr d undefA) h))
@[simp] theorem grdD_true (d : Option Nat) (o : AOp) (u : List Nat) (x y : Nat) (rest : List AI) : grdD C L fr h true d o u x y rest = runD C L (⟨d, o, none, u, x, y⟩ :: rest) fr h := rfl
@[simp] theorem grdD_falseV (d : Option Nat) (o : VOp) (u : List Nat) (x y : Nat) (rest : List AI) : grdD C L fr h false d (.v o) u x y rest = consK undefA (runD C L rest (put fr d undefA) h) := rfl
@[simp] theorem grdD_falseR (d : Option Nat) (o : ROp) (u : List Nat) (x y : Nat) (rest : List AI) : grdD C L fr h false d (.r o) u x y rest = consK undefA (runD C L rest (put fr d undefA) h) := rfl
@[simp] theorem grdD_falseC (d : Option Nat) (o : COp) (u : List Nat) (x y : Nat) (rest : List AI) : grdD C L fr h false d (.c o) u x y rest = consH h undefA (runD C L rest (put fr d undefA) h) := rfl
@[simp] theorem runD_g (d : Option Nat) (o : AOp) (t : Nat) (b : Bool) (rest : List AI) (u : List Nat) (x y : Nat) : runD C L (⟨d, o, some (t, b), u, x, y⟩ :: rest) fr h =
    grdD C L fr h (grdV (fr t) b) d o u x y rest := by
  unfold grdD
  rw [runD.eq_def]
  conv => rhs; rw [runD.eq_def]
  simp only [wantedA, if_true]
  show (if grdV (fr t) b = true then _ else _) = (if grdV (fr t) b = true then _ else _)
  split
  · rfl
  · cases runD C L rest (put fr d undefA) h with
    | none => cases o <;> rfl
    | some q => cases o <;> rfl
@[simp] theorem chkD_nil' (vs : List AVal) (hs : List AHeap) : chkD C L [] vs fr hs = some () := by rw [chkD.eq_def]
@[simp] theorem chkD_v (d : Option Nat) (o : VOp) (g : Option (Nat × Bool)) (rest : List AI) (u : List Nat) (x y : Nat) (v : AVal) (vs : List AVal) (hs : List AHeap) :
    chkD C L (⟨d, .v o, g, u, x, y⟩ :: rest) (v :: vs) fr hs = chkD C L rest vs (put fr d v) hs := by rw [chkD.eq_def]
@[simp] theorem chkD_c (d : Option Nat) (o : COp) (g : Option (Nat × Bool)) (rest : List AI) (u : List Nat) (x y : Nat) (v : AVal) (vs : List AVal) (hs : List AHeap) :
    chkD C L (⟨d, .c o, g, u, x, y⟩ :: rest) (v :: vs) fr hs = chkD C L rest vs (put fr d v) hs := by rw [chkD.eq_def]
def chkE (rest : List AI) (vs : List AVal) (hs : List AHeap) (r : Option Unit) : Option Unit := r.bind fun _ => chkD C L rest vs fr hs
@[simp] theorem chkE_some (rest : List AI) (vs : List AVal) (hs : List AHeap) : chkE C L fr rest vs hs (some ()) = chkD C L rest vs fr hs := rfl
def chkG (g : Bool) (o : ROp) (u : List Nat) (x y : Nat) (d : Option Nat) (v : AVal) (rest : List AI) (vs : List AVal) (hs : List AHeap) : Option Unit :=
  if g = true then chkE C L (put fr d v) rest vs hs (chkR C L o (maskF u fr) ((hs.take (y + 1)).drop x) v) else chkD C L rest vs (put fr d v) hs
@[simp] theorem chkG_true (o : ROp) (u : List Nat) (x y : Nat) (d : Option Nat) (v : AVal) (rest : List AI) (vs : List AVal) (hs : List AHeap) :
    chkG C L fr true o u x y d v rest vs hs = chkE C L (put fr d v) rest vs hs (chkR C L o (maskF u fr) ((hs.take (y + 1)).drop x) v) := rfl
@[simp] theorem chkG_false (o : ROp) (u : List Nat) (x y : Nat) (d : Option Nat) (v : AVal) (rest : List AI) (vs : List AVal) (hs : List AHeap) :
    chkG C L fr false o u x y d v rest vs hs = chkD C L rest vs (put fr d v) hs := rfl
theorem chkD_r (d : Option Nat) (o : ROp) (g : Option (Nat × Bool)) (rest : List AI) (u : List Nat) (x y : Nat) (v : AVal) (vs : List AVal) (hs : List AHeap) :
    chkD C L (⟨d, .r o, g, u, x, y⟩ :: rest) (v :: vs) fr hs = chkG C L fr (wantedA fr g && decide (x < y)) o u x y d v rest vs hs := by
  rw [chkD.eq_def]; rfl
@[simp] theorem chkD_rn (d : Option Nat) (o : ROp) (rest : List AI) (u : List Nat) (x y : Nat) (v : AVal) (vs : List AVal) (hs : List AHeap) :
    chkD C L (⟨d, .r o, none, u, x, y⟩ :: rest) (v :: vs) fr hs = chkG C L fr (decide (x < y)) o u x y d v rest vs hs := by
  rw [chkD_r]; simp [wantedA]
@[simp] theorem chkD_rg (d : Option Nat) (o : ROp) (t : Nat) (b : Bool) (rest : List AI) (u : List Nat) (x y : Nat) (v : AVal) (vs : List AVal) (hs : List AHeap) :
    chkD C L (⟨d, .r o, some (t, b), u, x, y⟩ :: rest) (v :: vs) fr hs = chkG C L fr (grdV (fr t) b && decide (x < y)) o u x y d v rest vs hs := by
  rw [chkD_r]; rfl
@[simp] theorem chkR_nil (o : ROp) (v : AVal) : chkR C L o fr [] v = some () := by rw [chkR.eq_def]
open Classical in
def chkS (o : ROp) (hs : List AHeap) (v : AVal) (u : Option AVal) : Option Unit := u.bind fun u => if u = v then chkR C L o fr hs v else none
@[simp] theorem chkS_same (o : ROp) (hs : List AHeap) (v : AVal) : chkS C L fr o hs v (some v) = chkR C L o fr hs v := by simp [chkS]
@[simp] theorem chkR_cons (o : ROp) (v : AVal) (h : AHeap) (hs : List AHeap) : chkR C L o fr (h :: hs) v = chkS C L fr o hs v (stepR C L o fr h) := by rw [chkR.eq_def]; rfl

/-! #### calls -/
theorem acall_eq {f : FuncId} {F : AFn} (hx : C.ext f = none) (hf : C.fns f = some F) (hp : F.pre = none) (args : List AVal) : acall C L f args h =
    (argsA (C.mode f) h args).bind fun a => (run C (limOf (C.mode f) L h) F.code (fun i => a.1.getD i undefA) h).bind fun r =>
      if (r.1 = .normal ∨ r.1 = .ret) ∧ a.1.length ≤ F.n then
        (resA r.2.1 r.2.2 F.res).bind fun vs => (retA (C.mode f) h r.2.2 (tupA vs)).bind fun o => if (a.2 && !o.1.flat) = true then none else some o
      else none := by
  rw [acall.eq_def]
  simp only [hx, hf, hp, bind, Option.bind_some, finA]
theorem acall_ext {f : FuncId} {g : ExtF} (hx : C.ext f = some g) (args : List AVal) : acall C L f args h = (g.pre L args h).bind fun q => match q with
    | .inl r => some r
    | .inr q => (acall C L q.1 q.2.1 q.2.2).bind fun r => g.post args r.1 r.2 := by
  rw [acall.eq_def]
  simp only [hx, bind]
  congr 1
end
end Go.Av

namespace Go.Av
set_option linter.unusedVariables false
set_option linter.unusedSimpArgs false

section
variable (C : Ctx) (fr : Fr)

/-! #### frames -/
theorem upd_ifK (d : Nat) (v : AVal) (i : Nat) : upd fr d v i = ifK (i == d) v (fr i) := by
  unfold upd ifK
  by_cases h : i = d
  · subst h; simp
  · simp [h]
attribute [simp] upd_ifK

/-! #### values: shapes asked for -/
def boxK : AVal → Option AVal
  | .tup _ => none
  | .agg cs => some (.vptr cs 0)
  | v => some (.vptr [v] 0)
theorem vop_box (x : AO) : vopA C fr (.boxv x) = boxK (C.ev fr x) := by
  simp only [vopA]
  cases C.ev fr x <;> simp [boxK, AVal.okV, AVal.cells]
theorem vop_mv (x : AO) : vopA C fr (.mv x) = some (C.ev fr x) := by simp only [vopA]
def pickR (c : Option Bool) (a b : AVal) : Option AVal := c.map fun t => ifK t a b
@[simp] theorem pickR_some (t : Bool) (a b : AVal) : pickR (some t) a b = some (ifK t a b) := by unfold pickR; exact rfl
theorem vop_pick (c a b : AO) : vopA C fr (.pick c a b) = pickR (boolOf (C.ev fr c)) (C.ev fr a) (C.ev fr b) := by
  simp only [vopA]
  cases C.ev fr c <;> rfl
theorem vop_bin (op : BinOp) (x y : AO) : vopA C fr (.bin op x y) = binA op (C.ev fr x) (C.ev fr y) := by simp only [vopA]
theorem vop_eq (c : ECls) (n : Bool) (x y : AO) : vopA C fr (.eq c n x y) = (eqA c (C.ev fr x) (C.ev fr y)).map fun b => .bool (n ^^ b) := by
  simp only [vopA]
  cases n <;> cases eqA c (C.ev fr x) (C.ev fr y) <;> simp
def notK : AVal → Option AVal
  | .bool b => some (.bool !b)
  | _ => none
theorem vop_not (x : AO) : vopA C fr (.un .not x) = notK (C.ev fr x) := by
  simp only [vopA]
  cases C.ev fr x <;> rfl
theorem vop_neg (x : AO) : vopA C fr (.un .neg x) = unA .neg (C.ev fr x) := by simp only [vopA]
theorem vop_cpl (x : AO) : vopA C fr (.un .xor x) = unA .xor (C.ev fr x) := by simp only [vopA]
def i2iK (k : IntKind) : AVal → Option AVal
  | .int _ n => some (.int k (k.wrap n))
  | _ => none
theorem vop_i2i (k : IntKind) (x : AO) : vopA C fr (.i2i k x) = i2iK k (C.ev fr x) := by
  simp only [vopA]; cases C.ev fr x <;> rfl
def strK : AVal → Option ByteArray
  | .str s => some s
  | _ => none
theorem vop_s2s (x : AO) : vopA C fr (.s2s x) = (strK (C.ev fr x)).map .str := by
  simp only [vopA]; cases C.ev fr x <;> rfl
theorem vop_lenS (x : AO) : vopA C fr (.lenS x) = (strK (C.ev fr x)).map fun s => .int .i64 s.size := by
  simp only [vopA]; cases C.ev fr x <;> rfl
theorem vop_lenL (x : AO) : vopA C fr (.lenL x) = (lenA (C.ev fr x)).map fun (n : Nat) => AVal.int .i64 (n : Int) := by simp only [vopA]
theorem vop_mkif (t : TypeId) (x : AO) : vopA C fr (.mkif t x) = some (.iface t (C.ev fr x)) := by simp only [vopA]
theorem vop_mkfn (f : Fn) (a b : List AO) : vopA C fr (.mkfn f a b) = some (.fn f (a.map (C.ev fr)) (b.map (C.ev fr))) := by simp only [vopA]
theorem vop_slice (k : SK) (sz : Nat) (x : AO) (lo hi mx : Option AO) : vopA C fr (.slice k sz x lo hi mx) = sliceV k sz (C.ev fr x) (lo.map (C.ev fr)) (hi.map (C.ev fr)) (mx.map (C.ev fr)) := by simp only [vopA]
def fadrK (off : Nat) : AVal → Option AVal
  | .ptr b o => some (.ptr b (o + off))
  | .vptr cs o => some (.vptr cs (o + off))
  | _ => none
theorem vop_fadr (off : Nat) (x : AO) : vopA C fr (.fadr off x) = fadrK off (C.ev fr x) := by
  simp only [vopA]; cases C.ev fr x <;> rfl
def nckK : AVal → Option AVal
  | .ptr b o => some (.ptr b o)
  | .vptr cs o => some (.vptr cs o)
  | .iface t v => some (.iface t v)
  | _ => none
theorem vop_nck (x : AO) : vopA C fr (.nck x) = nckK (C.ev fr x) := by
  simp only [vopA]; cases C.ev fr x <;> rfl
def fldK (off sz : Nat) (agg : Bool) : AVal → Option AVal
  | .agg cs => partA agg cs off sz
  | _ => none
theorem vop_fld (off sz : Nat) (agg : Bool) (x : AO) : vopA C fr (.fld off sz agg x) = fldK off sz agg (C.ev fr x) := by
  simp only [vopA]; cases C.ev fr x <;> rfl
theorem vop_iadr (a : Option Nat) (sz : Nat) (x i : AO) : vopA C fr (.iadr a sz x i) = iadrA a sz (C.ev fr x) (C.ev fr i) := by simp only [vopA]
def idxK (len sz : Nat) (agg : Bool) : AVal → AVal → Option AVal
  | .agg cs, .int _ i => if 0 ≤ i ∧ i < len then partA agg cs (i.toNat * sz) sz else none
  | _, _ => none
theorem vop_idxA (len sz : Nat) (agg : Bool) (x i : AO) : vopA C fr (.idxA len sz agg x i) = idxK len sz agg (C.ev fr x) (C.ev fr i) := by
  simp only [vopA]
  generalize C.ev fr x = a
  generalize C.ev fr i = b
  cases a <;> cases b <;> rfl
def idxSK : AVal → AVal → Option AVal
  | .str s, .int _ i => if 0 ≤ i then (s.data.toList[i.toNat]?).map fun b => .int .u8 b.toNat else none
  | _, _ => none
theorem vop_idxS (x i : AO) : vopA C fr (.idxS x i) = idxSK (C.ev fr x) (C.ev fr i) := by
  simp only [vopA]
  generalize C.ev fr x = a
  generalize C.ev fr i = b
  cases a <;> cases b <;> rfl
def extK (i : Nat) : AVal → Option AVal
  | .tup vs => vs[i]?
  | _ => none
theorem vop_ext (x : AO) (i : Nat) : vopA C fr (.ext x i) = extK i (C.ev fr x) := by
  simp only [vopA]; cases C.ev fr x <;> rfl
def s2aK (n : Nat) : AVal → Option AVal
  | .sl b off _ len _ => if n ≤ len then some (.ptr b off) else none
  | .vsl _ es => if n ≤ es.length ∧ 0 < n then some (.vptr (es.take n).flatten 0) else none
  | .gsl _ es => if n ≤ es.length ∧ 0 < n then some (.vptr (es.take n).flatten 0) else none
  | _ => none
theorem vop_s2a (n : Nat) (x : AO) : vopA C fr (.s2a n x) = s2aK n (C.ev fr x) := by
  simp only [vopA]; cases C.ev fr x <;> rfl
theorem vop_build (z : List AVal) (ps : List (Nat × Nat × AO)) : vopA C fr (.build z ps) = (fillA z (ps.map fun p => (p.1, p.2.1, C.ev fr p.2.2))).map .agg := by
  simp only [vopA]; cases fillA z (ps.map fun p => (p.1, p.2.1, C.ev fr p.2.2)) <;> rfl
theorem vop_slit (sz len : Nat) (z : List AVal) (ps : List (Nat × AO)) : vopA C fr (.slit sz len z ps) = (fillA (rep z len) (ps.map fun p => (p.1 * sz, sz, C.ev fr p.2))).map fun cs => .vsl true (chunks sz len cs) := by
  simp only [vopA]; cases fillA (rep z len) (ps.map fun p => (p.1 * sz, sz, C.ev fr p.2)) <;> rfl
theorem vop_mxmn (m : Bool) (x : AO) (xs : List AO) : vopA C fr (.mxmn m (x :: xs)) = foldA m (C.ev fr x) (xs.map (C.ev fr)) := by simp only [vopA, List.map_cons]

end

/-! #### what is asked of values -/
section
variable (k : IntKind) (a b : Int)
@[simp] theorem boxK_agg (cs : List AVal) : boxK (.agg cs) = some (.vptr cs 0) := by unfold boxK; exact rfl
@[simp] theorem boxK_int : boxK (.int k a) = some (.vptr [.int k a] 0) := by unfold boxK; exact rfl
@[simp] theorem boxK_bool (b : Bool) : boxK (.bool b) = some (.vptr [.bool b] 0) := by unfold boxK; exact rfl
@[simp] theorem boxK_str (s : ByteArray) : boxK (.str s) = some (.vptr [.str s] 0) := by unfold boxK; exact rfl
@[simp] theorem boxK_vsl (c : Bool) (es : List (List AVal)) : boxK (.vsl c es) = some (.vptr [.vsl c es] 0) := by unfold boxK; exact rfl
@[simp] theorem notK_bool (b : Bool) : notK (.bool b) = some (.bool !b) := by unfold notK; exact rfl
@[simp] theorem i2iK_int (k' : IntKind) : i2iK k' (.int k a) = some (.int k' (k'.wrap a)) := by unfold i2iK; exact rfl
@[simp] theorem strK_str (s : ByteArray) : strK (.str s) = some s := by unfold strK; exact rfl
@[simp] theorem lenA_vsl (c : Bool) (es : List (List AVal)) : lenA (.vsl c es) = some es.length := by unfold lenA; exact rfl
@[simp] theorem lenA_gsl (t : Nat) (es : List (List AVal)) : lenA (.gsl t es) = some es.length := by unfold lenA; exact rfl
@[simp] theorem lenA_nsl : lenA .nsl = some 0 := by unfold lenA; exact rfl
@[simp] theorem lenA_sl (x off sz n : Nat) (c : Option Nat) : lenA (.sl x off sz n c) = some n := by unfold lenA; exact rfl
@[simp] theorem fadrK_ptr (off x o : Nat) : fadrK off (.ptr x o) = some (.ptr x (o + off)) := by unfold fadrK; exact rfl
@[simp] theorem fadrK_vptr (off o : Nat) (cs : List AVal) : fadrK off (.vptr cs o) = some (.vptr cs (o + off)) := by unfold fadrK; exact rfl
@[simp] theorem nckK_ptr (x o : Nat) : nckK (.ptr x o) = some (.ptr x o) := by unfold nckK; exact rfl
@[simp] theorem nckK_if (t : TypeId) (v : AVal) : nckK (.iface t v) = some (.iface t v) := by unfold nckK; exact rfl
@[simp] theorem nckK_vptr (o : Nat) (cs : List AVal) : nckK (.vptr cs o) = some (.vptr cs o) := by unfold nckK; exact rfl
@[simp] theorem fldK_agg (off sz : Nat) (g : Bool) (cs : List AVal) : fldK off sz g (.agg cs) = partA g cs off sz := by unfold fldK; exact rfl
@[simp] theorem extK_tup (i : Nat) (vs : List AVal) : extK i (.tup vs) = vs[i]? := by unfold extK; exact rfl
@[simp] theorem bin_add : binA .add (.int k a) (.int k b) = some (.int k (k.wrap (a + b))) := by simp [binA, intBin]
@[simp] theorem bin_sub : binA .sub (.int k a) (.int k b) = some (.int k (k.wrap (a - b))) := by simp [binA, intBin]
@[simp] theorem bin_mul : binA .mul (.int k a) (.int k b) = some (.int k (k.wrap (a * b))) := by simp [binA, intBin]
theorem bin_quo (h : b ≠ 0) : binA .quo (.int k a) (.int k b) = some (.int k (k.wrap (a.tdiv b))) := by simp [binA, intBin, h]
theorem bin_rem (h : b ≠ 0) : binA .rem (.int k a) (.int k b) = some (.int k (a.tmod b)) := by simp [binA, intBin, h]
@[simp] theorem bin_and : binA .and (.int k a) (.int k b) = some (.int k (k.wrap (BitVec.ofInt k.bits a &&& BitVec.ofInt k.bits b).toNat)) := by simp [binA, intBin]
@[simp] theorem bin_or : binA .or (.int k a) (.int k b) = some (.int k (k.wrap (BitVec.ofInt k.bits a ||| BitVec.ofInt k.bits b).toNat)) := by simp [binA, intBin]
@[simp] theorem bin_xor : binA .xor (.int k a) (.int k b) = some (.int k (k.wrap (BitVec.ofInt k.bits a ^^^ BitVec.ofInt k.bits b).toNat)) := by simp [binA, intBin]
@[simp] theorem bin_andNot : binA .andNot (.int k a) (.int k b) = some (.int k (k.wrap (BitVec.ofInt k.bits a &&& ~~~ (BitVec.ofInt k.bits b)).toNat)) := by simp [binA, intBin]
@[simp] theorem bin_eql : binA .eql (.int k a) (.int k b) = some (.bool (a == b)) := by simp [binA, intBin]
@[simp] theorem bin_neq : binA .neq (.int k a) (.int k b) = some (.bool (a != b)) := by simp [binA, intBin]
@[simp] theorem bin_lss : binA .lss (.int k a) (.int k b) = some (.bool (decide (a < b))) := by simp [binA, intBin]
@[simp] theorem bin_leq : binA .leq (.int k a) (.int k b) = some (.bool (decide (a ≤ b))) := by simp [binA, intBin]
@[simp] theorem bin_gtr : binA .gtr (.int k a) (.int k b) = some (.bool (decide (a > b))) := by simp [binA, intBin]
@[simp] theorem bin_geq : binA .geq (.int k a) (.int k b) = some (.bool (decide (a ≥ b))) := by simp [binA, intBin]
@[simp] theorem bin_shl (k' : IntKind) : binA .shl (.int k a) (.int k' b) = shiftA .shl k a b := by simp [binA]
@[simp] theorem bin_shr (k' : IntKind) : binA .shr (.int k a) (.int k' b) = shiftA .shr k a b := by simp [binA]
@[simp] theorem bin_seql (s t : ByteArray) : binA .eql (.str s) (.str t) = some (.bool (s == t)) := by simp [binA]
@[simp] theorem bin_sneq (s t : ByteArray) : binA .neq (.str s) (.str t) = some (.bool !(s == t)) := by simp [binA]
@[simp] theorem eqA_bool (x y : Bool) : eqA .bool (.bool x) (.bool y) = some (x == y) := by simp [eqA]
@[simp] theorem eqA_agg (sh : List CK) (xs ys : List AVal) : eqA (.agg sh) (.agg xs) (.agg ys) = cellsEq sh xs ys := by simp [eqA]
/-! #### parts, memory -/
theorem partA_one (cs : List AVal) (off n : Nat) : partA false cs off n = cs[off]? := by unfold partA; simp
theorem partA_all {cs : List AVal} {n : Nat} (h : cs.length = n) : partA true cs 0 n = some (.agg cs) := by
  unfold partA; subst h; simp
@[simp] theorem loadA_vptr (h : AHeap) (cs : List AVal) (off n : Nat) (g : Bool) : loadA h (.vptr cs off) n g = partA g cs off n := by unfold loadA; exact rfl
theorem setAt_all : ∀ (cs pre old : List AVal), old.length = cs.length → setAt (pre ++ old) pre.length cs = pre ++ cs
  | [], pre, old, h => by simp at h; subst h; rfl
  | c :: cs, pre, [], h => by simp at h
  | c :: cs, pre, x :: old, h => by
    have := setAt_all cs (pre ++ [c]) old (by simpa using h)
    simp only [setAt]
    rw [List.set_append_right _ _ (Nat.le_refl _), Nat.sub_self, List.set_cons_zero]
    simpa using this
theorem setAt_full {cs old : List AVal} (h : old.length = cs.length) : setAt old 0 cs = cs := setAt_all cs [] old h
@[simp] theorem setAt_one (cs : List AVal) (off : Nat) (v : AVal) : setAt cs off [v] = cs.set off v := by simp only [setAt]

/-- A heap with more on it; a pointer into that. -/
def hx (h : AHeap) (bs : List (List AVal)) (ts : List Nat) : AHeap := ⟨h.blks ++ bs, h.toks ++ ts⟩
theorem hx_nil (h : AHeap) : hx h [] [] = h := by simp [hx]
def pA (n i off : Nat) : AVal := .ptr (n + i) off
def sA (n i off sz len : Nat) (cap : Option Nat) : AVal := .sl (n + i) off sz len cap
def gA (n i : Nat) (es : List (List AVal)) : AVal := .gsl (n + i) es
def limP (h : AHeap) : Lim := ⟨h.blks.length, h.toks.length, h.blks.length, h.toks.length⟩
variable (h : AHeap) (bs : List (List AVal)) (ts : List Nat) (L : Lim)
@[simp] theorem fadrK_pA (n off i o : Nat) : fadrK off (pA n i o) = some (pA n i (o + off)) := by unfold fadrK pA; exact rfl
@[simp] theorem nckK_pA (n i o : Nat) : nckK (pA n i o) = some (pA n i o) := by unfold nckK pA; exact rfl
def partO (cs : Option (List AVal)) (g : Bool) (off n : Nat) : Option AVal := cs.bind fun cs => partA g cs off n
@[simp] theorem partO_some (cs : List AVal) (g : Bool) (off n : Nat) : partO (some cs) g off n = partA g cs off n := by unfold partO; exact rfl
@[simp] theorem loadA_pA (i off n : Nat) (g : Bool) : loadA (hx h bs ts) (pA h.blks.length i off) n g = partO bs[i]? g off n := by
  unfold loadA pA hx partO
  simp only
  rw [List.getElem?_append_right (Nat.le_add_right _ _), Nat.add_sub_cancel_left]
def stI (h : AHeap) (bs : List (List AVal)) (ts : List Nat) (i off : Nat) (cs old : List AVal) (b : Bool) : Option AHeap := if b = true then some (hx h (bs.set i (setAt old off cs)) ts) else none
@[simp] theorem stI_true (i off : Nat) (cs old : List AVal) : stI h bs ts i off cs old true = some (hx h (bs.set i (setAt old off cs)) ts) := by unfold stI; exact rfl
def stO (h : AHeap) (bs : List (List AVal)) (ts : List Nat) (i off : Nat) (cs : List AVal) (old : Option (List AVal)) : Option AHeap := old.bind fun old => stI h bs ts i off cs old (decide (off + cs.length ≤ old.length))
@[simp] theorem stO_some (i off : Nat) (cs old : List AVal) : stO h bs ts i off cs (some old) = stI h bs ts i off cs old (decide (off + cs.length ≤ old.length)) := by unfold stO; exact rfl
@[simp] theorem storeA_pA (i off : Nat) (cs : List AVal) (r1 r2 r3 r4 : Nat) (h1 : r1 ≤ h.blks.length) (h3 : r3 ≤ h.blks.length) :
    storeA ⟨r1, r2, r3, r4⟩ (hx h bs ts) (pA h.blks.length i off) cs = stO h bs ts i off cs bs[i]? := by
  unfold storeA pA stO stI hx
  simp only
  rw [List.getElem?_append_right (Nat.le_add_right _ _), Nat.add_sub_cancel_left]
  cases bs[i]? with
  | none => rfl
  | some old =>
    simp only [Option.bind_some]
    by_cases hc : off + cs.length ≤ old.length
    · rw [if_pos ⟨by omega, hc, .inl (by omega)⟩, if_pos (by simpa using hc)]
      rw [List.set_append_right _ _ (Nat.le_add_right _ _), Nat.add_sub_cancel_left]
    · rw [if_neg (fun h => hc h.2.1), if_neg (by simpa using hc)]
@[simp] theorem copA_alloc (C : Ctx) (fr : Fr) (z : List AVal) : copA C L fr (hx h bs ts) (.alloc z) = some (pA h.blks.length bs.length 0, hx h (bs ++ [z]) ts) := by
  simp only [copA]
  simp [hx, pA, push]
theorem copA_box (C : Ctx) (fr : Fr) (x : AO) (hv : (C.ev fr x).okV = true) : copA C L fr (hx h bs ts) (.box x) = some (pA h.blks.length bs.length 0, hx h (bs ++ [(C.ev fr x).cells]) ts) := by
  simp only [copA, hv, if_true]
  simp [hx, pA, push]
def stM (r : Option AHeap) : Option (AVal × AHeap) := r.map fun h => (undefA, h)
@[simp] theorem stM_some : stM (some h) = some (undefA, h) := by unfold stM; exact rfl
def stK (L : Lim) (h : AHeap) (n : Nat) (p v : AVal) : Option (AVal × AHeap) := if (decide (v.cells.length = n) && v.okV) = true then stM (storeA L h p v.cells) else none
@[simp] theorem copA_st (C : Ctx) (fr : Fr) (n : Nat) (x y : AO) : copA C L fr h (.st n x y) = stK L h n (C.ev fr x) (C.ev fr y) := by
  simp only [copA, stK, stM]
  by_cases h1 : (C.ev fr y).cells.length = n <;> cases h2 : (C.ev fr y).okV <;> simp [h1, h2]
@[simp] theorem stK_int (p : AVal) : stK L h 1 p (.int k a) = stM (storeA L h p [.int k a]) := by simp [stK, AVal.cells, AVal.okV]
@[simp] theorem stK_bool (p : AVal) (b : Bool) : stK L h 1 p (.bool b) = stM (storeA L h p [.bool b]) := by simp [stK, AVal.cells, AVal.okV]
@[simp] theorem stK_str (p : AVal) (b : ByteArray) : stK L h 1 p (.str b) = stM (storeA L h p [.str b]) := by simp [stK, AVal.cells, AVal.okV]
@[simp] theorem stK_vsl (p : AVal) (c : Bool) (es : List (List AVal)) : stK L h 1 p (.vsl c es) = stM (storeA L h p [.vsl c es]) := by simp [stK, AVal.cells, AVal.okV]
@[simp] theorem stK_gA (p : AVal) (n i : Nat) (es : List (List AVal)) : stK L h 1 p (gA n i es) = stM (storeA L h p [gA n i es]) := by simp [stK, gA, AVal.cells, AVal.okV]
@[simp] theorem stK_nsl (p : AVal) : stK L h 1 p .nsl = stM (storeA L h p [.nsl]) := by simp [stK, AVal.cells, AVal.okV]
theorem stK_agg {cs : List AVal} {n : Nat} (p : AVal) (hn : cs.length = n) : stK L h n p (.agg cs) = stM (storeA L h p cs) := by simp [stK, AVal.cells, AVal.okV, hn]

/-! #### a call's ends -/
@[simp] theorem limOf_pure : limOf Mode.pure L h = limP h := by simp [limOf, Mode.pure, limP]
@[simp] theorem argsA_pure (args : List AVal) : argsA Mode.pure h args = fzArgs h args := by simp [argsA, Mode.pure]
@[simp] theorem fzArgs_nil : fzArgs h [] = some ([], false) := by simp only [fzArgs]
def fzK (a : Option (AVal × Bool)) (b : Option (List AVal × Bool)) : Option (List AVal × Bool) := a.bind fun a => b.bind fun b => some (a.1 :: b.1, a.2 || b.2)
@[simp] theorem fzK_some (v : AVal) (c : Bool) (vs : List AVal) (d : Bool) : fzK (some (v, c)) (some (vs, d)) = some (v :: vs, c || d) := by unfold fzK; exact rfl
@[simp] theorem fzArgs_cons (v : AVal) (vs : List AVal) : fzArgs h (v :: vs) = fzK (fzA h v) (fzArgs h vs) := by simp only [fzArgs, fzK, bind]
@[simp] theorem fzA_int : fzA h (.int k a) = some (.int k a, false) := by simp only [fzA]
@[simp] theorem fzA_bool (b : Bool) : fzA h (.bool b) = some (.bool b, false) := by simp only [fzA]
@[simp] theorem fzA_str (b : ByteArray) : fzA h (.str b) = some (.str b, false) := by simp only [fzA]
@[simp] theorem fzA_vsl (c : Bool) (es : List (List AVal)) : fzA h (.vsl c es) = some (.vsl false es, false) := by simp only [fzA]
@[simp] theorem fzA_gsl (c : Nat) (es : List (List AVal)) : fzA h (.gsl c es) = some (.vsl false es, false) := by simp only [fzA]
@[simp] theorem fzA_gA (n i : Nat) (es : List (List AVal)) : fzA h (gA n i es) = some (.vsl false es, false) := by simp only [gA, fzA]
@[simp] theorem fzA_nsl : fzA h .nsl = some (.vsl false [], false) := by simp only [fzA]
@[simp] theorem fzA_ptr (x o : Nat) : fzA h (.ptr x o) = some (.ptr x o, false) := by simp only [fzA]
@[simp] theorem fzA_pA (n x o : Nat) : fzA h (pA n x o) = some (pA n x o, false) := by simp only [pA, fzA]
@[simp] theorem fzA_vptr (cs : List AVal) (o : Nat) : fzA h (.vptr cs o) = some (.vptr cs o, false) := by simp only [fzA]
theorem fzA_agg {cs : List AVal} (hc : flatL cs = true) : fzA h (.agg cs) = some (.agg cs, false) := by simp only [fzA, hc, if_true]
def consO (a : Option AVal) (b : Option (List AVal)) : Option (List AVal) := a.bind fun a => b.map fun b => a :: b
@[simp] theorem consO_some (v : AVal) (vs : List AVal) : consO (some v) (some vs) = some (v :: vs) := by unfold consO; exact rfl
@[simp] theorem resA_nil (fr : Fr) : resA fr h [] = some [] := by simp only [resA]
@[simp] theorem resA_tmp (fr : Fr) (t : Nat) (rs : List ARes) : resA fr h (.tmp t :: rs) = consO (some (fr t)) (resA fr h rs) := by
  simp only [resA, consO, bind, Option.bind_some]
  cases resA fr h rs <;> rfl
@[simp] theorem resA_cell (fr : Fr) (t n : Nat) (g : Bool) (rs : List ARes) : resA fr h (.cell t n g :: rs) = consO (loadA h (fr t) n g) (resA fr h rs) := by
  simp only [resA, consO, bind]
  cases loadA h (fr t) n g <;> cases resA fr h rs <;> rfl
@[simp] theorem tupA_nil : tupA [] = .tup [] := by simp only [tupA]
@[simp] theorem tupA_one (v : AVal) : tupA [v] = v := by simp only [tupA]
@[simp] theorem tupA_two (v w : AVal) (vs : List AVal) : tupA (v :: w :: vs) = .tup (v :: w :: vs) := by simp only [tupA]
/-- The end of a call. -/
def endU (c : Bool) (o : Option (AVal × AHeap)) : Option (AVal × AHeap) := o.bind fun o => if (c && !o.1.flat) = true then none else some o
@[simp] theorem endU_false (o : Option (AVal × AHeap)) : endU false o = o := by unfold endU; cases o <;> simp
theorem endU_true (v : AVal) (hv : v.flat = true) : endU true (some (v, h)) = some (v, h) := by simp [endU, hv]
def endT (m : Mode) (h : AHeap) (c : Bool) (h1 : AHeap) (vs : Option (List AVal)) : Option (AVal × AHeap) := vs.bind fun vs => endU c (retA m h h1 (tupA vs))
@[simp] theorem endT_some (m : Mode) (c : Bool) (h1 : AHeap) (vs : List AVal) : endT m h c h1 (some vs) = endU c (retA m h h1 (tupA vs)) := by unfold endT; exact rfl
def endG (b : Bool) (m : Mode) (h : AHeap) (res : List ARes) (c : Bool) (fr : Fr) (h1 : AHeap) : Option (AVal × AHeap) := if b = true then endT m h c h1 (resA fr h1 res) else none
@[simp] theorem endG_true (m : Mode) (res : List ARes) (c : Bool) (fr : Fr) (h1 : AHeap) : endG true m h res c fr h1 = endT m h c h1 (resA fr h1 res) := by unfold endG; exact rfl
def endR (m : Mode) (h : AHeap) (n : Nat) (res : List ARes) (as : List AVal) (c : Bool) (r : Option (AEx × Fr × AHeap)) : Option (AVal × AHeap) :=
  r.bind fun r => endG (decide ((r.1 = .normal ∨ r.1 = .ret) ∧ as.length ≤ n)) m h res c r.2.1 r.2.2
@[simp] theorem endR_ret (m : Mode) (n : Nat) (res : List ARes) (as : List AVal) (c : Bool) (fr : Fr) (h1 : AHeap) : endR m h n res as c (some (.ret, fr, h1)) = endG (decide (as.length ≤ n)) m h res c fr h1 := by
  simp [endR]
@[simp] theorem endR_normal (m : Mode) (n : Nat) (res : List ARes) (as : List AVal) (c : Bool) (fr : Fr) (h1 : AHeap) : endR m h n res as c (some (.normal, fr, h1)) = endG (decide (as.length ≤ n)) m h res c fr h1 := by
  simp [endR]
/-- A call's frame at its beginning. -/
def frm (as : List AVal) : Fr := fun i => as.getD i undefA
@[simp] theorem frm_at (as : List AVal) (i : Nat) : frm as i = as.getD i undefA := by unfold frm; exact rfl
noncomputable def callR (C : Ctx) (L : Lim) (m : Mode) (h : AHeap) (n : Nat) (code : AC) (res : List ARes) (a : Option (List AVal × Bool)) : Option (AVal × AHeap) :=
  a.bind fun a => endR m h n res a.1 a.2 (run C (limOf m L h) code (frm a.1) (hx h [] []))
@[simp] theorem callR_some (C : Ctx) (m : Mode) (n : Nat) (code : AC) (res : List ARes) (as : List AVal) (c : Bool) : callR C L m h n code res (some (as, c)) = endR m h n res as c (run C (limOf m L h) code (frm as) (hx h [] [])) := by unfold callR; exact rfl
theorem acall_at {C : Ctx} {f : FuncId} {n : Nat} {code : AC} {res : List ARes} (hx' : C.ext f = none) (hf : C.fns f = some ⟨n, code, res, none⟩) (args : List AVal) : acall C L f args h =
    callR C L (C.mode f) h n code res (argsA (C.mode f) h args) := by
  rw [acall_eq C L h hx' hf rfl args]
  unfold callR endR endG endT endU frm
  rw [hx_nil]
  cases argsA (C.mode f) h args with
  | none => rfl
  | some a =>
    simp only [Option.bind_some]
    cases run C (limOf (C.mode f) L h) code (fun i => a.1.getD i undefA) h with
    | none => rfl
    | some r =>
      simp only [Option.bind_some]
      by_cases hc : (r.1 = .normal ∨ r.1 = .ret) ∧ a.1.length ≤ n
      · rw [if_pos hc, if_pos (by simpa using hc)]
      · rw [if_neg hc, if_neg (by simpa using hc)]
def pairM (v : Option AVal) (h : AHeap) : Option (AVal × AHeap) := v.map fun v => (v, h)
@[simp] theorem pairM_some (v : AVal) : pairM (some v) h = some (v, h) := by unfold pairM; exact rfl
@[simp] theorem retA_pure (h1 : AHeap) (v : AVal) : retA Mode.pure h h1 v = pairM (frz h1 h.blks.length h.toks.length 12 v) h := by
  simp [retA, Mode.pure, pairM]
section
variable (nb nt n : Nat)
@[simp] theorem frz_int : frz h nb nt (n + 1) (.int k a) = some (.int k a) := by simp only [frz]
@[simp] theorem frz_bool (b : Bool) : frz h nb nt (n + 1) (.bool b) = some (.bool b) := by simp only [frz]
@[simp] theorem frz_str (b : ByteArray) : frz h nb nt (n + 1) (.str b) = some (.str b) := by simp only [frz]
@[simp] theorem frz_nsl : frz h nb nt (n + 1) .nsl = some (.vsl false []) := by simp only [frz]
theorem frz_vsl (c : Bool) {es : List (List AVal)} (he : underLL nb nt es = true) : frz h nb nt (n + 1) (.vsl c es) = some (.vsl false es) := by simp [frz, frzE, he]
theorem frz_gsl {t : Nat} {es : List (List AVal)} (ht : nt ≤ t) (he : underLL nb nt es = true) : frz h nb nt (n + 1) (.gsl t es) = some (.vsl false es) := by
  simp [frz, frzE, he]; omega
theorem frz_agg {cs : List AVal} (hc : flatL cs = true) : frz h nb nt (n + 1) (.agg cs) = some (.agg cs) := by simp [frz, hc]
def frzT (h : AHeap) (nb nt n : Nat) : List AVal → Option (List AVal)
  | [] => some []
  | c :: cs => consO (frz h nb nt n c) (frzT h nb nt n cs)
@[simp] theorem frzT_nil : frzT h nb nt n [] = some [] := by unfold frzT; exact rfl
@[simp] theorem frzT_cons (c : AVal) (cs : List AVal) : frzT h nb nt n (c :: cs) = consO (frz h nb nt n c) (frzT h nb nt n cs) := by rw [frzT]
theorem frzT_eq : ∀ cs : List AVal, cs.mapM (frz h nb nt n) = frzT h nb nt n cs
  | [] => by simp
  | c :: cs => by
    rw [frzT_cons, List.mapM_cons, frzT_eq cs, consO]
    cases frz h nb nt n c with
    | none => rfl
    | some v => cases frzT h nb nt n cs <;> rfl
@[simp] theorem frz_tup (cs : List AVal) : frz h nb nt (n + 1) (.tup cs) = (frzT h nb nt n cs).map .tup := by
  simp only [frz]; rw [frzT_eq]
end
@[simp] theorem flatL_nil : flatL [] = true := by simp only [flatL]
@[simp] theorem flatL_cons (c : AVal) (cs : List AVal) : flatL (c :: cs) = (c.flat && flatL cs) := by simp only [flatL]
@[simp] theorem flat_int : (AVal.int k a).flat = true := by simp only [AVal.flat]
@[simp] theorem flat_bool (b : Bool) : (AVal.bool b).flat = true := by simp only [AVal.flat]
@[simp] theorem flat_str (b : ByteArray) : (AVal.str b).flat = true := by simp only [AVal.flat]
attribute [simp] vop_box vop_mv vop_pick vop_bin vop_eq vop_not vop_neg vop_cpl vop_i2i vop_s2s vop_lenS vop_lenL vop_mkif vop_mkfn vop_slice vop_fadr vop_nck vop_fld vop_iadr vop_idxA vop_idxS vop_ext vop_s2a vop_build vop_slit vop_mxmn
attribute [simp] partA_one
end
end Go.Av

namespace Go.Av
set_option linter.unusedVariables false
set_option linter.unusedSimpArgs false

/-! #### what is not written stays -/
def wr : AC → List Nat
  | .reg ops => dsts ops
  | .draw ops => dsts ops
  | .draw2 a _ _ => dsts a
  | .seq a b => wr a ++ wr b
  | .cond _ a b => wr a ++ wr b
  | .blk _ a => wr a
  | .loop a => wr a
  | .scope a => wr a
  | _ => []
theorem dsts_cons {i : AI} {is : List AI} {t : Nat} (h : t ∉ dsts (i :: is)) : i.dst ≠ some t ∧ t ∉ dsts is := by
  simp only [dsts] at h
  cases hd : i.dst with
  | none => rw [hd] at h; exact ⟨by simp, h⟩
  | some d => rw [hd] at h; simp at h; exact ⟨by simp; exact fun e => h.1 e.symm, h.2⟩
theorem put_keep {fr : Fr} {d : Option Nat} {v : AVal} {t : Nat} (h : d ≠ some t) : put fr d v t = fr t := by
  cases d with
  | none => rfl
  | some d =>
    have : t ≠ d := fun e => h (by rw [e])
    simp [put, upd, this]
theorem findLab_wr {l : Nat} : ∀ {a r : AC}, findLab a l = some r → ∀ t, t ∈ wr r → t ∈ wr a := by
  intro a
  induction a with
  | seq a b ih1 ih2 =>
    intro r h t ht
    simp only [findLab] at h
    split at h
    · rename_i r1 h1
      obtain rfl := Option.some.inj h
      simp only [wr, List.mem_append] at ht ⊢
      exact ht.imp (ih1 h1 t) id
    · simp only [wr, List.mem_append]
      exact .inr (ih2 h t ht)
  | label l' =>
    intro r h t ht
    simp only [findLab] at h
    split at h
    · obtain rfl := Option.some.inj h; simp [wr] at ht
    · simp at h
  | _ => intro r h; simp [findLab] at h

theorem run_keep {C : Ctx} {L : Lim} {c : AC} {fr : Fr} {h : AHeap} {r : AEx × Fr × AHeap} (hv : run C L c fr h = some r) : ∀ t, t ∉ wr c → r.2.1 t = fr t := by
  refine (acall.mutual_partial_correctness C
    (fun _ _ _ _ _ => True)
    (fun L c fr h r => ∀ t, t ∉ wr c → r.2.1 t = fr t)
    (fun L a e fr h r => ∀ t, t ∉ wr a → r.2.1 t = fr t)
    (fun _ _ _ _ _ _ => True) (fun _ _ _ _ _ _ => True) (fun _ _ _ _ _ => True)
    (fun L ops fr h r => ∀ t, t ∉ dsts ops → r.1 t = fr t)
    (fun _ _ _ _ _ => True) (fun _ _ _ _ _ => True)
    (fun L ops fr h r => ∀ t, t ∉ dsts ops → r.1 t = fr t)
    ?_ ?_ ?_ ?_ ?_ ?_ ?_ ?_ ?_ ?_).2.1 L c fr h r hv
  · intros; trivial
  · intro run scopeA chkD runD runO hrun hscope hchk hrunD hrunO L c fr h r hv t ht
    split at hv
    · obtain rfl := Option.some.inj hv; rfl
    · obtain rfl := Option.some.inj hv; rfl
    · obtain ⟨r1, hr1, hv⟩ := bind_some hv
      obtain rfl := Option.some.inj hv
      exact hrunO _ _ _ _ _ hr1 t ht
    · obtain ⟨r1, hr1, hv⟩ := bind_some hv
      obtain ⟨u, hu, hv⟩ := bind_some hv
      obtain rfl := Option.some.inj hv
      exact hrunD _ _ _ _ _ hr1 t ht
    · obtain ⟨r1, hr1, hv⟩ := bind_some hv
      obtain ⟨u, hu, hv⟩ := bind_some hv
      obtain ⟨r2, hr2, hv⟩ := bind_some hv
      obtain ⟨u2, hu2, hv⟩ := bind_some hv
      split at hv
      · obtain rfl := Option.some.inj hv
        exact hrunD _ _ _ _ _ hr1 t ht
      · simp at hv
    · obtain ⟨r1, hr1, hv⟩ := bind_some hv
      simp only [wr, List.mem_append, not_or] at ht
      have k1 := hrun _ _ _ _ _ hr1 t ht.1
      split at hv
      · exact (hrun _ _ _ _ _ hv t ht.2).trans k1
      · obtain rfl := Option.some.inj hv; exact k1
    · simp only [wr, List.mem_append, not_or] at ht
      split at hv
      · exact hrun _ _ _ _ _ hv t ht.1
      · exact hrun _ _ _ _ _ hv t ht.2
      · simp at hv
    · obtain ⟨r1, hr1, hv⟩ := bind_some hv
      have k1 := hrun _ _ _ _ _ hr1 t ht
      split at hv
      · obtain rfl := Option.some.inj hv; exact k1
      · obtain rfl := Option.some.inj hv; exact k1
    · obtain ⟨r1, hr1, hv⟩ := bind_some hv
      have k1 := hrun _ _ _ _ _ hr1 t ht
      split at hv
      · exact (hrun _ _ _ _ _ hv t ht).trans k1
      · obtain rfl := Option.some.inj hv; exact k1
    · obtain rfl := Option.some.inj hv; rfl
    · obtain ⟨r1, hr1, hv⟩ := bind_some hv
      exact (hscope _ _ _ _ _ _ hv t ht).trans (hrun _ _ _ _ _ hr1 t ht)
    · obtain rfl := Option.some.inj hv; rfl
    · obtain rfl := Option.some.inj hv; rfl
  · intro run scopeA hrun hscope L a e fr h r hv t ht
    split at hv
    · split at hv
      · rename_i rest hl
        obtain ⟨r1, hr1, hv⟩ := bind_some hv
        exact (hscope _ _ _ _ _ _ hv t ht).trans (hrun _ _ _ _ _ hr1 t fun hx => ht (findLab_wr hl t hx))
      · obtain rfl := Option.some.inj hv; rfl
    · obtain rfl := Option.some.inj hv; rfl
  · intros; trivial
  · intros; trivial
  · intros; trivial
  · intro runD step1 hrunD hstep1 L ops fr h r hv t ht
    split at hv
    · obtain rfl := Option.some.inj hv; rfl
    · rename_i i rest
      obtain ⟨t1, t2⟩ := dsts_cons ht
      split at hv
      · obtain ⟨r1, hr1, hv⟩ := bind_some hv
        obtain ⟨q, hq, hv⟩ := bind_some hv
        obtain rfl := Option.some.inj hv
        exact (hrunD _ _ _ _ _ hq t t2).trans (put_keep t1)
      · obtain ⟨q, hq, hv⟩ := bind_some hv
        obtain rfl := Option.some.inj hv
        exact (hrunD _ _ _ _ _ hq t t2).trans (put_keep t1)
  · intros; trivial
  · intros; trivial
  · intro step1 runO hstep1 hrunO L ops fr h r hv t ht
    split at hv
    · obtain rfl := Option.some.inj hv; rfl
    · rename_i i rest
      obtain ⟨t1, t2⟩ := dsts_cons ht
      split at hv
      · obtain ⟨r1, hr1, hv⟩ := bind_some hv
        exact (hrunO _ _ _ _ _ hv t t2).trans (put_keep t1)
      · exact (hrunO _ _ _ _ _ hv t t2).trans (put_keep t1)

/-! #### conditional equations, as the simplifier takes them -/
theorem partAB (cs : List AVal) (n : Nat) (h : (cs.length == n) = true) : partA true cs 0 n = some (.agg cs) := partA_all (by simpa using h)
theorem stKB (L : Lim) (h : AHeap) (cs : List AVal) (n : Nat) (p : AVal) (hn : (cs.length == n) = true) : stK L h n p (.agg cs) = stM (storeA L h p cs) := stK_agg h L p (by simpa using hn)
theorem setAtB (cs old : List AVal) (h : (old.length == cs.length) = true) : setAt old 0 cs = cs := setAt_full (by simpa using h)
@[simp] theorem getLast_new {α : Type} (bs : List α) (z : α) : (bs ++ [z])[bs.length]? = some z := by simp
@[simp] theorem setLast_new {α : Type} (bs : List α) (z v : α) : (bs ++ [z]).set bs.length v = bs ++ [v] := by
  rw [List.set_append_right _ _ (Nat.le_refl _)]; simp

theorem shrB (k : IntKind) (a b : Int) (h : (decide (0 ≤ b) && decide (b ≤ k.bits)) = true) : shiftA .shr k a b = some (.int k (a.fdiv (2 ^ b.toNat))) := by
  simp only [Bool.and_eq_true, decide_eq_true_eq] at h
  unfold shiftA
  rw [if_neg (by omega), Nat.min_eq_left (by omega)]
theorem shlB (k : IntKind) (a b : Int) (h : (decide (0 ≤ b) && decide (b ≤ k.bits)) = true) : shiftA .shl k a b = some (.int k (k.wrap (a * 2 ^ b.toNat))) := by
  simp only [Bool.and_eq_true, decide_eq_true_eq] at h
  unfold shiftA
  rw [if_neg (by omega), Nat.min_eq_left (by omega)]
@[simp] theorem wrap_zero (k : IntKind) : k.wrap 0 = 0 := by cases k <;> decide
theorem wrap_i64 {n : Int} (h1 : -9223372036854775808 ≤ n) (h2 : n ≤ 9223372036854775807) : IntKind.i64.wrap n = n := by
  simp [IntKind.wrap, IntKind.signed, IntKind.bits]; omega
theorem wrap_u64 {n : Int} (h1 : 0 ≤ n) (h2 : n ≤ 18446744073709551615) : IntKind.u64.wrap n = n := by
  simp [IntKind.wrap, IntKind.signed, IntKind.bits]; omega
theorem wrap_u8 {n : Int} (h1 : 0 ≤ n) (h2 : n ≤ 255) : IntKind.u8.wrap n = n := by
  simp [IntKind.wrap, IntKind.signed, IntKind.bits]; omega

/-! #### what a run ends in -/
def Ends {α : Type} (x : Option α) (P : α → Prop) : Prop := ∃ r, x = some r ∧ P r
@[simp] theorem Ends_some {α : Type} (r : α) (P : α → Prop) : Ends (some r) P ↔ P r := by simp [Ends]
@[simp] theorem Ends_none {α : Type} (P : α → Prop) : Ends none P ↔ False := by simp [Ends]
@[congr] theorem Ends_congr {α : Type} {x y : Option α} (P : α → Prop) (h : x = y) : Ends x P = Ends y P := by rw [h]
/-- A loop's round: how it must end. -/
def Round (N k : Nat) (I : Nat → Fr → AHeap → Prop) (Post : AEx → Fr → AHeap → Prop) (r : AEx × Fr × AHeap) : Prop :=
  match r.1 with
  | .normal => k < N ∧ I (k + 1) r.2.1 r.2.2
  | e => Post e r.2.1 r.2.2
@[simp] theorem Round_normal (N k : Nat) (I : Nat → Fr → AHeap → Prop) (Post : AEx → Fr → AHeap → Prop) (fr : Fr) (h : AHeap) : Round N k I Post (.normal, fr, h) ↔ (k < N ∧ I (k + 1) fr h) := by unfold Round; exact Iff.rfl
@[simp] theorem Round_exit (N k : Nat) (I : Nat → Fr → AHeap → Prop) (Post : AEx → Fr → AHeap → Prop) (i : Nat) (fr : Fr) (h : AHeap) : Round N k I Post (.exit i, fr, h) ↔ Post (.exit i) fr h := by unfold Round; exact Iff.rfl
@[simp] theorem Round_ret (N k : Nat) (I : Nat → Fr → AHeap → Prop) (Post : AEx → Fr → AHeap → Prop) (fr : Fr) (h : AHeap) : Round N k I Post (.ret, fr, h) ↔ Post .ret fr h := by unfold Round; exact Iff.rfl

theorem loop_rule {C : Ctx} {L : Lim} {B : AC} {fr0 : Fr} {h0 : AHeap} {R : Option (AEx × Fr × AHeap)} (hF : run C L (.loop B) fr0 h0 = R) (N : Nat) (I : Nat → Fr → AHeap → Prop) (Post : AEx → Fr → AHeap → Prop) (hI : I 0 fr0 h0)
    (step : ∀ k fr h, k ≤ N → (∀ t, t ∉ wr B → fr t = fr0 t) → I k fr h → Ends (run C L B fr h) (Round N k I Post)) :
    ∃ e fr h, R = some (e, fr, h) ∧ Post e fr h ∧ (∀ t, t ∉ wr B → fr t = fr0 t) := by
  subst hF
  have key : ∀ m k fr h, N - k = m → k ≤ N → (∀ t, t ∉ wr B → fr t = fr0 t) → I k fr h →
      ∃ e fr' h', run C L (.loop B) fr h = some (e, fr', h') ∧ Post e fr' h' ∧ (∀ t, t ∉ wr B → fr' t = fr0 t) := by
    intro m
    induction m with
    | zero =>
      intro k fr h hm hk hkeep hi
      obtain ⟨⟨e, fr1, h1⟩, hr, hp⟩ := step k fr h hk hkeep hi
      have hkp := run_keep hr
      rw [run_loopE, hr]
      cases e with
      | normal => have := (Round_normal N k I Post fr1 h1).1 hp; omega
      | exit i => exact ⟨_, _, _, rfl, hp, fun t ht => (hkp t ht).trans (hkeep t ht)⟩
      | goto l => exact ⟨_, _, _, rfl, hp, fun t ht => (hkp t ht).trans (hkeep t ht)⟩
      | ret => exact ⟨_, _, _, rfl, hp, fun t ht => (hkp t ht).trans (hkeep t ht)⟩
    | succ m ih =>
      intro k fr h hm hk hkeep hi
      obtain ⟨⟨e, fr1, h1⟩, hr, hp⟩ := step k fr h hk hkeep hi
      have hkp := run_keep hr
      rw [run_loopE, hr]
      cases e with
      | normal =>
        have := (Round_normal N k I Post fr1 h1).1 hp
        exact ih (k + 1) fr1 h1 (by omega) (by omega) (fun t ht => (hkp t ht).trans (hkeep t ht)) this.2
      | exit i => exact ⟨_, _, _, rfl, hp, fun t ht => (hkp t ht).trans (hkeep t ht)⟩
      | goto l => exact ⟨_, _, _, rfl, hp, fun t ht => (hkp t ht).trans (hkeep t ht)⟩
      | ret => exact ⟨_, _, _, rfl, hp, fun t ht => (hkp t ht).trans (hkeep t ht)⟩
  exact key N 0 fr0 h0 rfl (Nat.zero_le _) (fun _ _ => rfl) hI

/-! #### lists that grow from nothing -/
/-- The list, and the heap with it: 's' as long as nothing is in it. -/
def gL (s : AVal) (n i : Nat) (es : List (List AVal)) : AVal := if es = [] then s else gA n i es
def gT (es : List (List AVal)) : List Nat := if es = [] then [] else [es.length]
theorem app_gL {C : Ctx} {fr : Fr} {L : Lim} {h : AHeap} {bs : List (List AVal)} {sz : Nat} {x y : AO} {s : AVal} {es ys : List (List AVal)} (hs : s = .nsl ∨ s = .vsl true [])
    (hx' : C.ev fr x = gL s h.toks.length 0 es) (hy : elemsA (hx h bs (gT es)) sz (C.ev fr y) = some ys) (hstr : strOk sz (C.ev fr y) = true)
    (hsz : szOk sz ys = true) (hse : szOk sz es = true) (hr : L.rot ≤ h.toks.length) (hroom : es.length + ys.length < maxRoom) :
    copA C L fr (hx h bs (gT es)) (.app sz false x y) = some (gL s h.toks.length 0 (es ++ ys), hx h bs (gT (es ++ ys))) := by
  simp only [copA, bind, hy, Option.bind_some, hstr, if_true]
  rw [hx']
  unfold appA
  rw [if_pos hsz]
  by_cases he : es = []
  · subst he
    have h1 : gL s h.toks.length 0 [] = s := by simp [gL]
    rw [h1]
    by_cases hy0 : ys = []
    · subst hy0
      rcases hs with rfl | rfl <;> simp [gL, gT, szOk]
    · have hroom' : ys.length < maxRoom := by simpa using hroom
      rcases hs with rfl | rfl <;> simp [gL, gT, szOk, hy0, hroom', freshA, gA, hx, ptok]
  · have h1 : gL s h.toks.length 0 es = gA h.toks.length 0 es := by simp [gL, he]
    rw [h1]
    have h2 : gT es = [es.length] := by simp [gT, he]
    have h3 : gL s h.toks.length 0 (es ++ ys) = gA h.toks.length 0 (es ++ ys) := by simp [gL, he]
    have h4 : gT (es ++ ys) = [es.length + ys.length] := by simp [gT, he]
    rw [h3, h2, h4]
    simp only [gA, Nat.add_zero]
    have h5 : (hx h bs [es.length]).toks[h.toks.length]? = some es.length := by simp [hx]
    rw [if_pos ⟨trivial, he, hse, hr, h5, hroom⟩]
    simp [hx]
/-- The same, as the simplifier takes it: 'appK' is the operation on values. -/
def appK (L : Lim) (h : AHeap) (sz : Nat) (ref : Bool) (x y : AVal) : Option (AVal × AHeap) :=
  (elemsA h sz y).bind fun ys => if strOk sz y = true then appA L ref sz h x ys else none
@[simp] theorem copA_app (C : Ctx) (fr : Fr) (L : Lim) (h : AHeap) (sz : Nat) (ref : Bool) (x y : AO) : copA C L fr h (.app sz ref x y) = appK L h sz ref (C.ev fr x) (C.ev fr y) := by
  simp only [copA, appK, bind]
theorem appK_gL {L : Lim} {h : AHeap} {bs : List (List AVal)} {sz : Nat} {s y : AVal} {es ys : List (List AVal)} (hs : s = .nsl ∨ s = .vsl true [])
    (hy : elemsA (hx h bs (gT es)) sz y = some ys) (hstr : strOk sz y = true) (hsz : szOk sz ys = true) (hse : szOk sz es = true) (hr : L.rot ≤ h.toks.length) (hroom : es.length + ys.length < maxRoom) :
    appK L (hx h bs (gT es)) sz false (gL s h.toks.length 0 es) y = some (gL s h.toks.length 0 (es ++ ys), hx h bs (gT (es ++ ys))) := by
  let C : Ctx := { fns := fun _ => none, mode := fun _ => Mode.pure, glob := fun _ => none, meth := fun _ _ => none, ext := fun _ => none }
  have := app_gL (C := C) (fr := fun _ => undefA) (x := .k (gL s h.toks.length 0 es)) (y := .k y) hs rfl hy hstr hsz hse hr hroom
  rw [copA_app] at this
  exact this
theorem appK_nV (L : Lim) (h : AHeap) (bs : List (List AVal)) (sz : Nat) (c : Bool) (es ys : List (List AVal))
    (hc : (szOk sz ys && szOk sz es && decide (L.rot ≤ h.toks.length) && decide (es.length + ys.length < maxRoom)) = true) :
    appK L (hx h bs (gT es)) sz false (gL .nsl h.toks.length 0 es) (.vsl c ys) = some (gL .nsl h.toks.length 0 (es ++ ys), hx h bs (gT (es ++ ys))) := by
  simp only [Bool.and_eq_true, decide_eq_true_eq] at hc
  exact appK_gL (.inl rfl) (by simp only [elemsA]) (by simp only [strOk]) hc.1.1.1 hc.1.1.2 hc.1.2 hc.2
theorem appK_cV (L : Lim) (h : AHeap) (bs : List (List AVal)) (sz : Nat) (c : Bool) (es ys : List (List AVal))
    (hc : (szOk sz ys && szOk sz es && decide (L.rot ≤ h.toks.length) && decide (es.length + ys.length < maxRoom)) = true) :
    appK L (hx h bs (gT es)) sz false (gL (.vsl true []) h.toks.length 0 es) (.vsl c ys) = some (gL (.vsl true []) h.toks.length 0 (es ++ ys), hx h bs (gT (es ++ ys))) := by
  simp only [Bool.and_eq_true, decide_eq_true_eq] at hc
  exact appK_gL (.inr rfl) (by simp only [elemsA]) (by simp only [strOk]) hc.1.1.1 hc.1.1.2 hc.1.2 hc.2
theorem appK_nS (L : Lim) (h : AHeap) (bs : List (List AVal)) (es : List (List AVal)) (t : ByteArray)
    (hc : (szOk 1 es && decide (L.rot ≤ h.toks.length) && decide (es.length + t.size < maxRoom)) = true) :
    appK L (hx h bs (gT es)) 1 false (gL .nsl h.toks.length 0 es) (.str t) = some (gL .nsl h.toks.length 0 (es ++ t.data.toList.map fun b => [.int .u8 b.toNat]), hx h bs (gT (es ++ t.data.toList.map fun b => [.int .u8 b.toNat]))) := by
  simp only [Bool.and_eq_true, decide_eq_true_eq] at hc
  exact appK_gL (.inl rfl) (by simp only [elemsA]) (by simp [strOk]) (szOk_str _) hc.1.1 hc.1.2 (by simpa using hc.2)
/-- To what is full, a new list. -/
theorem appK_full (L : Lim) (h : AHeap) (bs : List (List AVal)) (ts : List Nat) (sz : Nat) (c : Bool) (es ys : List (List AVal))
    (hc : (szOk sz ys && szOk sz es && decide (es.length + ys.length < maxRoom) && decide (0 < ys.length)) = true) :
    appK L (hx h bs ts) sz false (.vsl true es) (.vsl c ys) = some (gA h.toks.length ts.length (es ++ ys), hx h bs (ts ++ [es.length + ys.length])) := by
  simp only [Bool.and_eq_true, decide_eq_true_eq] at hc
  have hy : ys ≠ [] := fun e => by have := hc.2; simp [e] at this
  simp [appK, elemsA, strOk, appA, hc.1.1.1, hc.1.1.2, hc.1.2, hy, freshA, gA, hx, ptok]
/-- To a list that grows. -/
theorem appK_gA (L : Lim) (h : AHeap) (bs : List (List AVal)) (ts : List Nat) (sz i : Nat) (c : Bool) (es ys : List (List AVal))
    (hc : (szOk sz ys && szOk sz es && decide (es.length + ys.length < maxRoom) && decide (0 < es.length) && decide (L.rot ≤ h.toks.length) && (ts[i]? == some es.length)) = true) :
    appK L (hx h bs ts) sz false (gA h.toks.length i es) (.vsl c ys) = some (gA h.toks.length i (es ++ ys), hx h bs (ts.set i (es.length + ys.length))) := by
  simp only [Bool.and_eq_true, decide_eq_true_eq, beq_iff_eq] at hc
  obtain ⟨⟨⟨⟨⟨c1, c2⟩, c3⟩, c4⟩, c5⟩, c6⟩ := hc
  have he : es ≠ [] := fun e => by simp [e] at c4
  have h5 : (hx h bs ts).toks[h.toks.length + i]? = some es.length := by
    simp only [hx]; rw [List.getElem?_append_right (Nat.le_add_right _ _), Nat.add_sub_cancel_left]; exact c6
  simp only [appK, elemsA, strOk, appA, gA, c1, c2, Option.bind_some, if_true]
  rw [if_pos ⟨trivial, he, by trivial, by omega, h5, c3⟩]
  simp only [hx]
  rw [List.set_append_right _ _ (Nat.le_add_right _ _), Nat.add_sub_cancel_left]
theorem szOk_take {sz k : Nat} {es : List (List AVal)} (h : szOk sz es = true) : szOk sz (es.take k) = true := by
  cases es with
  | nil => simp [szOk]
  | cons e es => cases k <;> simp [szOk] at h ⊢; exact h
theorem frz_gL {h1 : AHeap} {nb nt n : Nat} {s : AVal} {es : List (List AVal)} (hs : s = .nsl ∨ s = .vsl true []) (he : underLL nb nt es = true) : frz h1 nb nt (n + 1) (gL s nt 0 es) = some (.vsl false es) := by
  unfold gL
  split
  · rename_i h0
    subst h0
    rcases hs with rfl | rfl
    · simp
    · exact frz_vsl h1 nb nt n true (by simp [underLL])
  · exact frz_gsl h1 nb nt n (by simp) he
theorem lenA_gL {n i : Nat} {s : AVal} {es : List (List AVal)} (hs : s = .nsl ∨ s = .vsl true []) : lenA (gL s n i es) = some es.length := by
  unfold gL
  split
  · rename_i h0
    subst h0
    rcases hs with rfl | rfl <;> simp
  · simp [gA]
end Go.Av

namespace Go.Av
set_option linter.unusedVariables false
set_option linter.unusedSimpArgs false

/-! #### lists of numbers -/
def eI (k : IntKind) (l : List Int) : List (List AVal) := l.map fun n => [.int k n]
@[simp] theorem eI_len (k : IntKind) (l : List Int) : (eI k l).length = l.length := by simp [eI]
@[simp] theorem eI_szOk (k : IntKind) (l : List Int) : szOk 1 (eI k l) = true := by cases l <;> simp [eI, szOk]
@[simp] theorem eI_under (k : IntKind) (nb nt : Nat) : ∀ l : List Int, underLL nb nt (eI k l) = true
  | [] => by simp [eI, underLL]
  | x :: l => by
    have := eI_under k nb nt l
    simp only [eI] at this
    simp [eI, underLL, underL, AVal.under, this]
@[simp] theorem eI_append (k : IntKind) (l m : List Int) : eI k l ++ eI k m = eI k (l ++ m) := by simp [eI]
theorem eI_get (k : IntKind) (l : List Int) (i : Nat) : (eI k l)[i]? = (l[i]?).map fun n => [.int k n] := by simp [eI]
theorem eI_one (k : IntKind) (n : Int) : [[AVal.int k n]] = eI k [n] := rfl
theorem eI_cons (k : IntKind) (n : Int) (l : List Int) : [AVal.int k n] :: eI k l = eI k (n :: l) := rfl
@[simp] theorem eI_nil (k : IntKind) : eI k [] = [] := rfl
/-- A text's bytes. -/
def bts (s : ByteArray) : List Int := s.data.toList.map fun b => (b.toNat : Int)
theorem bts_map (s : ByteArray) : (s.data.toList.map fun b => [AVal.int .u8 b.toNat]) = eI .u8 (bts s) := by unfold bts eI; rw [List.map_map]; rfl
@[simp] theorem bts_len (s : ByteArray) : (bts s).length = s.size := by unfold bts; rw [List.length_map]; rfl
@[simp] theorem szOk_one (sz : Nat) (x : List AVal) : szOk sz [x] = (x.length == sz) := rfl

abbrev ownM : Mode := ⟨false, false, false, true⟩
section
variable (L : Lim) (h : AHeap) (bs : List (List AVal)) (ts : List Nat)
def setT (h : AHeap) (t n : Nat) : AHeap := ⟨h.blks, h.toks.set t n⟩
@[simp] theorem setT_blks (t n : Nat) : (setT h t n).blks = h.blks := rfl
@[simp] theorem setT_len (t n : Nat) : (setT h t n).toks.length = h.toks.length := by simp [setT]
@[simp] theorem trunc_hx : trunc (hx h bs ts) h.blks.length h.toks.length = h := by simp [trunc, hx]
@[simp] theorem trunc_setT (t n : Nat) : trunc (hx (setT h t n) bs ts) h.blks.length h.toks.length = setT h t n := by
  have := trunc_hx (setT h t n) bs ts
  simpa using this
@[simp] theorem argsA_own (args : List AVal) : argsA ownM h args = some (args, false) := by simp [argsA]
@[simp] theorem limOf_own : limOf ownM L h = ⟨L.rob, L.rot, h.blks.length, h.toks.length⟩ := by simp [limOf]
/-- A list of its own is handed back. -/
theorem retA_new (es : List (List AVal)) (hu : (underLL h.blks.length h.toks.length es && (ts[0]? == some es.length)) = true) :
    retA ownM h (hx h bs ts) (gA h.toks.length 0 es) = some (.gsl h.toks.length es, ptok h es.length) := by
  simp only [Bool.and_eq_true, beq_iff_eq] at hu
  obtain ⟨u1, u2⟩ := hu
  have h5 : (hx h bs ts).toks[h.toks.length]? = some es.length := by
    simp only [hx]; rw [List.getElem?_append_right (Nat.le_refl _), Nat.sub_self]; exact u2
  unfold retA
  simp only [gA, Nat.add_zero, h5, u1, trunc_hx]
  simp
/-- A list that was handed in is handed back, longer. -/
theorem retA_old (t : Nat) (es : List (List AVal)) (h' : AHeap) (hl : h'.blks.length = h.blks.length ∧ h'.toks.length = h.toks.length) (ht : t < h.toks.length) (hu : underLL h.blks.length h.toks.length es = true) :
    retA ownM h (hx h' bs ts) (.gsl t es) = some (.gsl t es, h') := by
  have e : trunc (hx h' bs ts) h.blks.length h.toks.length = h' := by rw [← hl.1, ← hl.2]; exact trunc_hx h' bs ts
  unfold retA
  simp only [e]
  have hnot : ¬ h.toks.length ≤ t := by omega
  simp [hnot, frz, frzE, hu, ht]
theorem appK_old (sz t : Nat) (c : Bool) (es ys : List (List AVal)) (ht : h.toks[t]? = some es.length)
    (hc : (szOk sz ys && szOk sz es && decide (es.length + ys.length < maxRoom) && decide (0 < es.length) && decide (L.rot ≤ t)) = true) :
    appK L (hx h bs ts) sz false (.gsl t es) (.vsl c ys) = some (.gsl t (es ++ ys), hx (setT h t (es.length + ys.length)) bs ts) := by
  simp only [Bool.and_eq_true, decide_eq_true_eq] at hc
  obtain ⟨⟨⟨⟨c1, c2⟩, c3⟩, c4⟩, c5⟩ := hc
  have he : es ≠ [] := fun e => by simp [e] at c4
  have hlt := (List.getElem?_eq_some_iff.1 ht).1
  have h5 : (hx h bs ts).toks[t]? = some es.length := by
    simp only [hx]; rw [List.getElem?_append_left hlt]; exact ht
  simp only [appK, elemsA, strOk, appA, c1, c2, Option.bind_some, if_true]
  rw [if_pos ⟨trivial, he, by trivial, c5, h5, c3⟩]
  simp only [hx, setT]
  rw [List.set_append_left _ _ hlt]
theorem appK_gAS (i : Nat) (es : List Int) (s : ByteArray)
    (hc : (decide (es.length + s.size < maxRoom) && decide (0 < es.length) && decide (L.rot ≤ h.toks.length) && (ts[i]? == some es.length)) = true) :
    appK L (hx h bs ts) 1 false (gA h.toks.length i (eI .u8 es)) (.str s) = some (gA h.toks.length i (eI .u8 (es ++ bts s)), hx h bs (ts.set i (es.length + s.size))) := by
  have hs : appK L (hx h bs ts) 1 false (gA h.toks.length i (eI .u8 es)) (.str s) = appK L (hx h bs ts) 1 false (gA h.toks.length i (eI .u8 es)) (.vsl false (eI .u8 (bts s))) := by
    simp [appK, elemsA, strOk, bts_map]
  have h1 := appK_gA L h bs ts 1 i false (eI .u8 es) (eI .u8 (bts s)) (by simpa using hc)
  rw [hs, h1]
  simp
theorem ptok_hx (n : Nat) : ptok (hx h bs ts) n = hx h bs (ts ++ [n]) := by simp [ptok, hx]
theorem hx_toks : (hx h bs ts).toks.length = h.toks.length + ts.length := by simp [hx]
theorem hx_blks : (hx h bs ts).blks.length = h.blks.length + bs.length := by simp [hx]
theorem setT_hx (i n : Nat) : setT (hx h bs ts) (h.toks.length + i) n = hx h bs (ts.set i n) := by
  simp only [setT, hx]
  rw [List.set_append_right _ _ (Nat.le_add_right _ _), Nat.add_sub_cancel_left]
end
end Go.Av

namespace Go.Av
set_option linter.unusedVariables false
set_option linter.unusedSimpArgs false

/-! #### tables -/
def tab {α : Type} (n : Nat) (f : Nat → α) : List α := (List.range n).map f
@[simp] theorem tab_len {α : Type} (n : Nat) (f : Nat → α) : (tab n f).length = n := by simp [tab]
theorem tab_get? {α : Type} (n : Nat) (f : Nat → α) (i : Nat) : (tab n f)[i]? = if i < n then some (f i) else none := by
  unfold tab
  by_cases h : i < n
  · rw [List.getElem?_map, List.getElem?_range h, if_pos h]; rfl
  · rw [if_neg h]; simp; omega
theorem tab_at {α : Type} {n : Nat} {f : Nat → α} {i : Nat} (h : i < n) : (tab n f)[i]? = some (f i) := by rw [tab_get?, if_pos h]
theorem tab_congr {α : Type} {n : Nat} {f g : Nat → α} (h : ∀ i, i < n → f i = g i) : tab n f = tab n g := by
  unfold tab; exact List.map_congr_left fun i hi => h i (by simpa using hi)
theorem tab_set {α : Type} (n : Nat) (f : Nat → α) (i : Nat) (v : α) : (tab n f).set i v = tab n (fun j => if j = i then v else f j) := by
  refine List.ext_getElem? fun j => ?_
  rw [List.getElem?_set, tab_len, tab_get?, tab_get?]
  by_cases h : i = j
  · subst h; simp
  · simp [h, Ne.symm h]
theorem tab_getD {α : Type} (l : List α) (d : α) : tab l.length (fun i => l.getD i d) = l := by
  refine List.ext_getElem? fun j => ?_
  rw [tab_get?]
  by_cases h : j < l.length
  · rw [if_pos h, List.getElem?_eq_getElem h]; simp [List.getD, h]
  · rw [if_neg h, List.getElem?_eq_none (by omega)]
theorem tab_getD' {α : Type} {l : List α} {n : Nat} (d : α) (h : l.length = n) : l = tab n (fun i => l.getD i d) := by subst h; exact (tab_getD l d).symm
theorem getD_tab {α : Type} {n : Nat} {f : Nat → α} {i : Nat} {d : α} (h : i < n) : (tab n f).getD i d = f i := by
  rw [List.getD, tab_at h]; rfl
theorem tab_map {α β : Type} (n : Nat) (f : Nat → α) (g : α → β) : (tab n f).map g = tab n (fun i => g (f i)) := by
  simp [tab, Function.comp_def]
theorem tab_drop_take {α : Type} (n : Nat) (f : Nat → α) (o m : Nat) (h : o + m ≤ n) : ((tab n f).drop o).take m = tab m (fun i => f (o + i)) := by
  refine List.ext_getElem? fun j => ?_
  rw [tab_get?, List.getElem?_take]
  by_cases hj : j < m
  · rw [if_pos hj, if_pos hj, List.getElem?_drop, tab_at (by omega)]
  · rw [if_neg hj, if_neg hj]
theorem setAt_tab (f : Nat → AVal) (g : Nat → AVal) (m : Nat) : ∀ (n o : Nat), o + m ≤ n → setAt (tab n f) o (tab m g) = tab n (fun i => if o ≤ i ∧ i < o + m then g (i - o) else f i) := by
  have key : ∀ (cs : List AVal) (old : List AVal) (o i : Nat), o + cs.length ≤ old.length → (setAt old o cs)[i]? = if o ≤ i ∧ i < o + cs.length then cs[i - o]? else old[i]? := by
    intro cs
    induction cs with
    | nil => intro old o i h; simp [setAt]; omega
    | cons c cs ih =>
      intro old o i h
      simp only [setAt]
      simp only [List.length_cons] at h
      rw [ih _ _ _ (by simp; omega)]
      by_cases h1 : o + 1 ≤ i ∧ i < o + 1 + cs.length
      · rw [if_pos h1, if_pos ⟨by omega, by simp only [List.length_cons]; omega⟩]
        rw [show i - o = (i - (o + 1)) + 1 by omega, List.getElem?_cons_succ]
      · rw [if_neg h1]
        by_cases h2 : i = o
        · subst h2
          rw [List.getElem?_set_self (by omega), if_pos ⟨Nat.le_refl _, by simp⟩]; simp
        · rw [List.getElem?_set_ne (Ne.symm h2), if_neg (by simp only [List.length_cons]; omega)]
  intro n o h
  refine List.ext_getElem? fun i => ?_
  rw [key _ _ _ _ (by simpa using h), tab_len, tab_get?, tab_get?, tab_get?]
  by_cases h1 : o ≤ i ∧ i < o + m
  · rw [if_pos h1, if_pos (by omega), if_pos (by omega), if_pos h1]
  · rw [if_neg h1, if_neg h1]
theorem rep1_tab {α : Type} (x : α) (n : Nat) : rep1 x n = tab n (fun _ => x) := by
  refine List.ext_getElem? fun j => ?_
  have key : ∀ n j : Nat, (rep1 x n)[j]? = if j < n then some x else none := by
    intro n
    induction n with
    | zero => intro j; simp [rep1]
    | succ n ih =>
      intro j
      cases j with
      | zero => simp [rep1]
      | succ j => simp only [rep1, List.getElem?_cons_succ, ih]; simp
  rw [key, tab_get?]

/-- What stands at a place. -/
def gd {α : Type} (l : List α) (d : α) (i : Nat) : α := l.getD i d
theorem gd_tab {α : Type} {n : Nat} {f : Nat → α} {i : Nat} {d : α} (h : i < n) : gd (tab n f) d i = f i := getD_tab h
theorem gd_tabB {α : Type} (n : Nat) (f : Nat → α) (i : Nat) (d : α) (h : decide (i < n) = true) : gd (tab n f) d i = f i := getD_tab (by simpa using h)
theorem tab_gd {α : Type} (l : List α) (d : α) : tab l.length (gd l d) = l := tab_getD l d
theorem tab_gd' {α : Type} {l : List α} {n : Nat} (d : α) (h : l.length = n) : l = tab n (gd l d) := tab_getD' d h
theorem gd_get? {α : Type} {l : List α} {i : Nat} {d : α} (h : i < l.length) : l[i]? = some (gd l d i) := by
  unfold gd; simp [List.getD, h]
/-- The first of them new. -/
def mixT {α : Type} (n : Nat) (f g : Nat → α) (k : Nat) : List α := tab n fun j => if j < k then f j else g j
@[simp] theorem mixT_len {α : Type} (n : Nat) (f g : Nat → α) (k : Nat) : (mixT n f g k).length = n := by simp [mixT]
theorem mixT_set {α : Type} (n : Nat) (f g : Nat → α) (k : Nat) : (mixT n f g k).set k (f k) = mixT n f g (k + 1) := by
  unfold mixT
  rw [tab_set]
  refine tab_congr fun j hj => ?_
  by_cases h1 : j = k
  · subst h1; simp
  · by_cases h2 : j < k
    · rw [if_neg h1, if_pos h2, if_pos (by omega)]
    · rw [if_neg h1, if_neg h2, if_neg (by omega)]
theorem mixT_zero {α : Type} (n : Nat) (f g : Nat → α) : mixT n f g 0 = tab n g := tab_congr fun j hj => by simp
theorem mixT_all {α : Type} (n : Nat) (f g : Nat → α) : mixT n f g n = tab n f := tab_congr fun j hj => by simp [hj]
theorem gd_mixT {α : Type} {n : Nat} {f g : Nat → α} {k : Nat} {d : α} (h : k < n) : gd (mixT n f g k) d k = g k := by
  unfold mixT; rw [gd_tab h]; simp
/-! #### words -/
abbrev W64 := BitVec 64
def wd (x : W64) : AVal := .int .u64 x.toNat
theorem wd_eq (x : W64) : AVal.int .u64 (x.toNat : Int) = wd x := rfl
/-- Cells of an array of words; of one of bits. -/
def cW (l : List W64) : List AVal := l.map wd
def cB (l : List Bool) : List AVal := l.map AVal.bool
def cI (k : IntKind) (l : List Int) : List AVal := l.map fun n => .int k n
@[simp] theorem cW_len (l : List W64) : (cW l).length = l.length := by simp [cW]
@[simp] theorem cB_len (l : List Bool) : (cB l).length = l.length := by simp [cB]
@[simp] theorem cI_len (k : IntKind) (l : List Int) : (cI k l).length = l.length := by simp [cI]
theorem flatL_iff : ∀ {l : List AVal}, flatL l = true ↔ ∀ c ∈ l, c.flat = true
  | [] => by simp [flatL]
  | c :: cs => by simp [flatL, flatL_iff (l := cs)]
@[simp] theorem cW_flat (l : List W64) : flatL (cW l) = true := flatL_iff.2 fun c h => by
  simp only [cW, List.mem_map] at h; obtain ⟨x, _, rfl⟩ := h; rfl
@[simp] theorem cB_flat (l : List Bool) : flatL (cB l) = true := flatL_iff.2 fun c h => by
  simp only [cB, List.mem_map] at h; obtain ⟨x, _, rfl⟩ := h; rfl
@[simp] theorem cI_flat (k : IntKind) (l : List Int) : flatL (cI k l) = true := flatL_iff.2 fun c h => by
  simp only [cI, List.mem_map] at h; obtain ⟨x, _, rfl⟩ := h; rfl
theorem cW_at {l : List W64} {i : Nat} (h : i < l.length) : (cW l)[i]? = some (wd (gd l 0#64 i)) := by
  simp [cW, gd, List.getD, h]
theorem cB_at {l : List Bool} {i : Nat} (h : i < l.length) : (cB l)[i]? = some (.bool (gd l false i)) := by
  simp [cB, gd, List.getD, h]
theorem cW_get (l : List W64) (i : Nat) (h : decide (i < l.length) = true) : (cW l)[i]? = some (wd (gd l 0#64 i)) := cW_at (by simpa using h)
theorem cB_get (l : List Bool) (i : Nat) (h : decide (i < l.length) = true) : (cB l)[i]? = some (.bool (gd l false i)) := cB_at (by simpa using h)
@[simp] theorem cW_getE (l : List W64) (i : Nat) (h : i < (cW l).length) : (cW l)[i] = wd (gd l 0#64 i) := by
  have := cW_at (l := l) (i := i) (by simpa using h)
  rw [List.getElem?_eq_getElem h] at this
  exact Option.some.inj this
@[simp] theorem cB_getE (l : List Bool) (i : Nat) (h : i < (cB l).length) : (cB l)[i] = .bool (gd l false i) := by
  have := cB_at (l := l) (i := i) (by simpa using h)
  rw [List.getElem?_eq_getElem h] at this
  exact Option.some.inj this
@[simp] theorem cW_set (l : List W64) (i : Nat) (x : W64) : (cW l).set i (wd x) = cW (l.set i x) := by simp [cW, List.map_set]
@[simp] theorem cB_set (l : List Bool) (i : Nat) (x : Bool) : (cB l).set i (.bool x) = cB (l.set i x) := by simp [cB, List.map_set]
@[simp] theorem cI_set (k : IntKind) (l : List Int) (i : Nat) (x : Int) : (cI k l).set i (.int k x) = cI k (l.set i x) := by simp [cI, List.map_set]
@[simp] theorem cW_take (l : List W64) (n : Nat) : (cW l).take n = cW (l.take n) := by simp [cW]
@[simp] theorem cW_drop (l : List W64) (n : Nat) : (cW l).drop n = cW (l.drop n) := by simp [cW]
@[simp] theorem cB_take (l : List Bool) (n : Nat) : (cB l).take n = cB (l.take n) := by simp [cB]
@[simp] theorem cB_drop (l : List Bool) (n : Nat) : (cB l).drop n = cB (l.drop n) := by simp [cB]
theorem rep1_W (n : Nat) : rep1 (.int .u64 0) n = cW (tab n fun _ => 0#64) := by rw [rep1_tab, cW, tab_map]; rfl
theorem rep1_B (n : Nat) : rep1 (.bool false) n = cB (tab n fun _ => false) := by rw [rep1_tab, cB, tab_map]
theorem rep1_I (k : IntKind) (x : Int) (n : Nat) : rep1 (.int k x) n = cI k (tab n fun _ => x) := by rw [rep1_tab, cI, tab_map]
@[simp] theorem wd_cells (x : W64) : (wd x).cells = [wd x] := rfl
@[simp] theorem wd_okV (x : W64) : (wd x).okV = true := rfl
@[simp] theorem wd_flat (x : W64) : (wd x).flat = true := rfl
@[simp] theorem asI_wd (x : W64) : asI (wd x) = some (x.toNat : Int) := rfl
theorem wd_zero : AVal.int .u64 0 = wd 0 := rfl
theorem wd_lit (n : Nat) (h : n < 18446744073709551616) : AVal.int .u64 (n : Int) = wd (BitVec.ofNat 64 n) := by
  unfold wd; rw [BitVec.toNat_ofNat, Nat.mod_eq_of_lt (by simpa using h)]

theorem wrapU (n : Nat) (h : n < 18446744073709551616) : IntKind.u64.wrap (n : Int) = n := wrap_u64 (by omega) (by omega)
theorem ofInt_toNat (x : W64) : BitVec.ofInt 64 (x.toNat : Int) = x := by
  apply BitVec.eq_of_toNat_eq
  rw [BitVec.toNat_ofInt]
  have := x.isLt
  omega
theorem isLt64 (x : W64) : x.toNat < 18446744073709551616 := x.isLt
@[simp] theorem wd_xor (x y : W64) : binA .xor (wd x) (wd y) = some (wd (x ^^^ y)) := by
  unfold wd
  rw [bin_xor]
  show some (AVal.int .u64 (IntKind.u64.wrap ((BitVec.ofInt 64 (x.toNat : Int) ^^^ BitVec.ofInt 64 (y.toNat : Int) : BitVec 64).toNat : Int))) = _
  rw [ofInt_toNat, ofInt_toNat, wrapU _ (isLt64 _)]
@[simp] theorem wd_and (x y : W64) : binA .and (wd x) (wd y) = some (wd (x &&& y)) := by
  unfold wd
  rw [bin_and]
  show some (AVal.int .u64 (IntKind.u64.wrap ((BitVec.ofInt 64 (x.toNat : Int) &&& BitVec.ofInt 64 (y.toNat : Int) : BitVec 64).toNat : Int))) = _
  rw [ofInt_toNat, ofInt_toNat, wrapU _ (isLt64 _)]
@[simp] theorem wd_or (x y : W64) : binA .or (wd x) (wd y) = some (wd (x ||| y)) := by
  unfold wd
  rw [bin_or]
  show some (AVal.int .u64 (IntKind.u64.wrap ((BitVec.ofInt 64 (x.toNat : Int) ||| BitVec.ofInt 64 (y.toNat : Int) : BitVec 64).toNat : Int))) = _
  rw [ofInt_toNat, ofInt_toNat, wrapU _ (isLt64 _)]
@[simp] theorem wd_andNot (x y : W64) : binA .andNot (wd x) (wd y) = some (wd (x &&& ~~~ y)) := by
  unfold wd
  rw [bin_andNot]
  show some (AVal.int .u64 (IntKind.u64.wrap ((BitVec.ofInt 64 (x.toNat : Int) &&& ~~~ (BitVec.ofInt 64 (y.toNat : Int)) : BitVec 64).toNat : Int))) = _
  rw [ofInt_toNat, ofInt_toNat, wrapU _ (isLt64 _)]
theorem wrap_u64_emod (n : Int) : IntKind.u64.wrap n = n % 18446744073709551616 := by
  unfold IntKind.wrap
  simp [IntKind.signed, IntKind.bits]
@[simp] theorem wd_add (x y : W64) : binA .add (wd x) (wd y) = some (wd (x + y)) := by
  unfold wd
  rw [bin_add, wrap_u64_emod, BitVec.toNat_add, Int.natCast_emod, Int.natCast_add]; rfl
@[simp] theorem wd_mul (x y : W64) : binA .mul (wd x) (wd y) = some (wd (x * y)) := by
  unfold wd
  rw [bin_mul, wrap_u64_emod, BitVec.toNat_mul, Int.natCast_emod, Int.natCast_mul]; rfl
@[simp] theorem wd_sub (x y : W64) : binA .sub (wd x) (wd y) = some (wd (x - y)) := by
  unfold wd
  rw [bin_sub, wrap_u64_emod]
  congr 2
  have h1 := x.isLt
  have h2 := y.isLt
  rw [BitVec.toNat_sub]
  omega
/-- A shift to the left, by less than 64. -/
theorem wd_shl (x : W64) (k : IntKind) (n : Nat) (h : decide (n ≤ 64) = true) : binA .shl (wd x) (.int k (n : Int)) = some (wd (x <<< n)) := by
  have h' : n ≤ 64 := by simpa using h
  unfold wd
  rw [bin_shl, shlB _ _ _ (by simp only [show ((IntKind.u64.bits : Nat) : Int) = 64 from rfl, Bool.and_eq_true, decide_eq_true_eq]; exact ⟨Int.natCast_nonneg n, by omega⟩)]
  rw [wrap_u64_emod, BitVec.toNat_shiftLeft, Int.toNat_natCast, Nat.shiftLeft_eq, Int.natCast_emod, Int.natCast_mul, Int.natCast_pow]; rfl
theorem wd_shr (x : W64) (k : IntKind) (n : Nat) (h : decide (n ≤ 64) = true) : binA .shr (wd x) (.int k (n : Int)) = some (wd (x >>> n)) := by
  have h' : n ≤ 64 := by simpa using h
  unfold wd
  rw [bin_shr, shrB _ _ _ (by simp only [show ((IntKind.u64.bits : Nat) : Int) = 64 from rfl, Bool.and_eq_true, decide_eq_true_eq]; exact ⟨Int.natCast_nonneg n, by omega⟩)]
  rw [BitVec.toNat_ushiftRight, Int.toNat_natCast, Nat.shiftRight_eq_div_pow, Int.fdiv_eq_ediv_of_nonneg _ (by exact Int.pow_nonneg (by decide)), Int.natCast_ediv, Int.natCast_pow]; rfl
/-- A byte's word. -/
def bw (n : Int) : W64 := BitVec.ofInt 64 n
@[simp] theorem i2i_bw (k : IntKind) (n : Int) : i2iK .u64 (.int k n) = some (wd (bw n)) := by
  rw [i2iK_int, wrap_u64_emod]
  unfold wd bw
  congr 2
  rw [BitVec.toNat_ofInt]
  omega

/-! #### ends -/
theorem frz_gAB (h : AHeap) (nb nt n i : Nat) (es : List (List AVal)) (he : underLL nb nt es = true) : frz h nb nt (n + 1) (gA nt i es) = some (.vsl false es) := frz_gsl h nb nt n (by simp) he
@[simp] theorem frz_eI (h : AHeap) (nb nt n i : Nat) (k : IntKind) (l : List Int) : frz h nb nt (n + 1) (gA nt i (eI k l)) = some (.vsl false (eI k l)) := frz_gAB h nb nt n i _ (by simp)
@[simp] theorem frz_eIv (h : AHeap) (nb nt n : Nat) (c : Bool) (k : IntKind) (l : List Int) : frz h nb nt (n + 1) (.vsl c (eI k l)) = some (.vsl false (eI k l)) := frz_vsl h nb nt n c (by simp)
@[simp] theorem frz_wd (h : AHeap) (nb nt n : Nat) (x : W64) : frz h nb nt (n + 1) (wd x) = some (wd x) := by unfold wd; simp
@[simp] theorem fzA_wd (h : AHeap) (x : W64) : fzA h (wd x) = some (wd x, false) := by unfold wd; simp
@[simp] theorem frz_cW (h : AHeap) (nb nt n : Nat) (l : List W64) : frz h nb nt (n + 1) (.agg (cW l)) = some (.agg (cW l)) := frz_agg h nb nt n (cW_flat l)
@[simp] theorem frz_cB (h : AHeap) (nb nt n : Nat) (l : List Bool) : frz h nb nt (n + 1) (.agg (cB l)) = some (.agg (cB l)) := frz_agg h nb nt n (cB_flat l)
@[simp] theorem frz_cI (h : AHeap) (nb nt n : Nat) (k : IntKind) (l : List Int) : frz h nb nt (n + 1) (.agg (cI k l)) = some (.agg (cI k l)) := frz_agg h nb nt n (cI_flat k l)
@[simp] theorem fzA_cW (h : AHeap) (l : List W64) : fzA h (.agg (cW l)) = some (.agg (cW l), false) := fzA_agg h (cW_flat l)
@[simp] theorem fzA_cB (h : AHeap) (l : List Bool) : fzA h (.agg (cB l)) = some (.agg (cB l), false) := fzA_agg h (cB_flat l)
@[simp] theorem fzA_cI (h : AHeap) (k : IntKind) (l : List Int) : fzA h (.agg (cI k l)) = some (.agg (cI k l), false) := fzA_agg h (cI_flat k l)
@[simp] theorem stK_wd (L : Lim) (h : AHeap) (p : AVal) (x : W64) : stK L h 1 p (wd x) = stM (storeA L h p [wd x]) := by simp [stK]
@[simp] theorem boxK_wd (x : W64) : boxK (wd x) = some (.vptr [wd x] 0) := rfl

/-! #### addresses -/
theorem iadr_pA (n sz m i off k : Nat) (kd : IntKind) (h : decide (k < n) = true) : iadrA (some n) sz (pA m i off) (.int kd (k : Int)) = some (pA m i (off + k * sz)) := by
  have : k < n := by simpa using h
  simp [iadrA, asI, pA, this]
theorem iadr_vp (n sz off k : Nat) (cs : List AVal) (kd : IntKind) (h : decide (k < n) = true) : iadrA (some n) sz (.vptr cs off) (.int kd (k : Int)) = some (.vptr cs (off + k * sz)) := by
  have : k < n := by simpa using h
  simp [iadrA, asI, this]
@[simp] theorem iadr_pA0 (n sz m i off : Nat) (kd : IntKind) : iadrA (some (n + 1)) sz (pA m i off) (.int kd 0) = some (pA m i off) := by simp [iadrA, asI, pA]
@[simp] theorem iadr_vp0 (n sz off : Nat) (cs : List AVal) (kd : IntKind) : iadrA (some (n + 1)) sz (.vptr cs off) (.int kd 0) = some (.vptr cs off) := by simp [iadrA, asI]
theorem iadr_sA (n i off sz len k : Nat) (cap : Option Nat) (kd : IntKind) (h : decide (k < len) = true) : iadrA none sz (sA n i off sz len cap) (.int kd (k : Int)) = some (pA n i (off + k * sz)) := by
  have : k < len := by simpa using h
  simp [iadrA, asI, sA, pA, this]
theorem idx_agg (n k : Nat) (g : Bool) (cs : List AVal) (sz : Nat) (kd : IntKind) (h : decide (k < n) = true) : idxK n sz g (.agg cs) (.int kd (k : Int)) = partA g cs (k * sz) sz := by
  have : k < n := by simpa using h
  unfold idxK; simp [this]
theorem iadr_eI (k' kd : IntKind) (c : Bool) (l : List Int) (i : Nat) (h : decide (i < l.length) = true) : iadrA none 1 (.vsl c (eI k' l)) (.int kd (i : Int)) = some (.vptr [.int k' (gd l 0 i)] 0) := by
  have h' : i < l.length := by simpa using h
  simp [iadrA, asI, eI_get, h', gd, List.getD]
@[simp] theorem lenA_sA (n i off sz len : Nat) (cap : Option Nat) : lenA (sA n i off sz len cap) = some len := rfl
@[simp] theorem lenA_gA (n i : Nat) (es : List (List AVal)) : lenA (gA n i es) = some es.length := rfl
@[simp] theorem stK_sA (L : Lim) (h : AHeap) (p : AVal) (n i off sz len : Nat) (cap : Option Nat) : stK L h 1 p (sA n i off sz len cap) = stM (storeA L h p [sA n i off sz len cap]) := by simp [stK, sA, AVal.cells, AVal.okV]
@[simp] theorem stK_pA (L : Lim) (h : AHeap) (p : AVal) (n i off : Nat) : stK L h 1 p (pA n i off) = stM (storeA L h p [pA n i off]) := by simp [stK, pA, AVal.cells, AVal.okV]

section
variable (L : Lim) (h : AHeap) (bs : List (List AVal)) (ts : List Nat)
/-! #### lists that may be written -/
theorem appK_refV (sz : Nat) (c : Bool) (es ys : List (List AVal)) (hc : (szOk sz ys && szOk sz es && decide (es.length + ys.length < maxRoom) && decide (0 < ys.length)) = true) :
    appK L (hx h bs ts) sz true (.vsl true es) (.vsl c ys) = some (sA h.blks.length bs.length 0 sz (es.length + ys.length) none, hx h (bs ++ [(es ++ ys).flatten]) ts) := by
  simp only [Bool.and_eq_true, decide_eq_true_eq] at hc
  have hy : ys ≠ [] := fun e => by have := hc.2; simp [e] at this
  simp [appK, elemsA, strOk, appA, hc.1.1.1, hc.1.1.2, hc.1.2, hy, freshA, sA, hx, push]
theorem appK_refE (sz : Nat) (x : AVal) (c : Bool) : appK L (hx h bs ts) sz true (.vsl true []) (.vsl c []) = some (.vsl true [], hx h bs ts) := by
  simp [appK, elemsA, strOk, appA, szOk]
theorem chunks_one : ∀ (n : Nat) (cs : List AVal), cs.length = n → chunks 1 n cs = cs.map fun c => [c]
  | 0, [], _ => rfl
  | n + 1, c :: cs, h => by simp [chunks, chunks_one n cs (by simpa using h)]
theorem elems_sA (i n : Nat) (cs : List AVal) (cap : Option Nat) (hb : bs[i]? = some cs) (hl : cs.length = n) : elemsA (hx h bs ts) 1 (sA h.blks.length i 0 1 n cap) = some (cs.map fun c => [c]) := by
  simp only [elemsA, sA, hx]
  rw [List.getElem?_append_right (Nat.le_add_right _ _), Nat.add_sub_cancel_left, hb]
  simp [hl, chunks_one]
theorem eI_cells (k : IntKind) (l : List Int) : (cI k l).map (fun c => [c]) = eI k l := by simp [cI, eI]
theorem eI_flat (k : IntKind) (l : List Int) : (eI k l).flatten = cI k l := by
  induction l with
  | nil => rfl
  | cons x l ih => simp only [eI, List.map_cons, List.flatten_cons] at ih ⊢; rw [ih]; rfl
/-- To a list of numbers that may be written: it goes on under a new name. -/
theorem appK_sA (i n : Nat) (k : IntKind) (l m : List Int) (c : Bool) (hb : bs[i]? = some (cI k l))
    (hc : (decide (l.length = n) && decide (0 < n) && decide (n + m.length < maxRoom) && decide (L.rob ≤ h.blks.length) && decide (0 < m.length)) = true) :
    appK L (hx h bs ts) 1 true (sA h.blks.length i 0 1 n none) (.vsl c (eI k m)) = some (sA h.blks.length bs.length 0 1 (n + m.length) none, hx h (bs.set i [] ++ [cI k (l ++ m)]) ts) := by
  simp only [Bool.and_eq_true, decide_eq_true_eq] at hc
  obtain ⟨⟨⟨⟨c1, c2⟩, c3⟩, c4⟩, c5⟩ := hc
  have he := elems_sA h bs ts i n (cI k l) none hb (by simpa using c1)
  rw [eI_cells] at he
  simp only [sA] at he
  have hm : eI k m ≠ [] := fun e => by have := congrArg List.length e; simp at this; simp [this] at c5
  simp only [appK, elemsA, strOk, Option.bind_some, if_true, appA, eI_szOk, sA]
  simp only [elemsA] at he
  rw [if_pos ⟨trivial, trivial, trivial, c2, by decide, by omega⟩, he, Option.bind_some, if_neg hm, if_pos (by simp [c1]; exact c3)]
  have hflat : (eI k l ++ eI k m).flatten = cI k (l ++ m) := by rw [eI_append, eI_flat]
  simp only [push, hx, hflat, eI_len, c1]
  rw [List.set_append_right _ _ (Nat.le_add_right _ _), Nat.add_sub_cancel_left]
  simp
end
end Go.Av

namespace Go.Av
set_option linter.unusedVariables false
set_option linter.unusedSimpArgs false
abbrev wrM : Mode := ⟨false, false, false, false⟩
abbrev roM : Mode := ⟨true, false, false, false⟩
abbrev escM : Mode := ⟨false, false, true, false⟩
section
variable (L : Lim) (h : AHeap) (bs bs' : List (List AVal)) (ts ts' : List Nat)
@[simp] theorem argsA_wr (args : List AVal) : argsA wrM h args = some (args, false) := by simp [argsA]
@[simp] theorem argsA_ro (args : List AVal) : argsA roM h args = some (args, false) := by simp [argsA]
@[simp] theorem argsA_esc (args : List AVal) : argsA escM h args = some (args, false) := by simp [argsA]
@[simp] theorem limOf_wr : limOf wrM L h = ⟨L.rob, L.rot, h.blks.length, h.toks.length⟩ := by simp [limOf]
@[simp] theorem limOf_ro : limOf roM L h = limP h := by simp [limOf, limP]
@[simp] theorem limOf_esc : limOf escM L h = L := by simp [limOf]
@[simp] theorem retA_wr (h1 : AHeap) (v : AVal) : retA wrM h h1 v = pairM (frz h1 h.blks.length h.toks.length 12 v) (trunc h1 h.blks.length h.toks.length) := by
  simp [retA, pairM]
@[simp] theorem retA_ro (h1 : AHeap) (v : AVal) : retA roM h h1 v = pairM (frz h1 h.blks.length h.toks.length 12 v) h := by
  simp [retA, pairM]
@[simp] theorem retA_esc (h1 : AHeap) (v : AVal) : retA escM h h1 v = some (v, h1) := by
  simp [retA]
@[simp] theorem hx_hx : hx (hx h bs ts) bs' ts' = hx h (bs ++ bs') (ts ++ ts') := by simp [hx]
theorem trunc_same {h1 : AHeap} (h2 : h1.blks.length = h.blks.length) (h3 : h1.toks.length = h.toks.length) : trunc h1 h.blks.length h.toks.length = h1 := by
  unfold trunc
  rw [← h2, ← h3, List.take_length, List.take_length]
theorem trunc_set (i : Nat) (cs : List AVal) : trunc (hx h (bs.set i cs) ts) (h.blks.length + bs.length) (h.toks.length + ts.length) = hx h (bs.set i cs) ts := by
  have := trunc_same (hx h bs ts) (h1 := hx h (bs.set i cs) ts) (by simp [hx]) (by simp [hx])
  rwa [hx_blks, hx_toks] at this
theorem storeA_fl (L : Lim) (i off : Nat) (cs : List AVal) (h1 : (decide (L.rob ≤ h.blks.length) && underL 0 0 cs) = true) :
    storeA L (hx h bs ts) (pA h.blks.length i off) cs = stO h bs ts i off cs bs[i]? := by
  simp only [Bool.and_eq_true, decide_eq_true_eq] at h1
  unfold storeA pA stO stI hx
  simp only
  rw [List.getElem?_append_right (Nat.le_add_right _ _), Nat.add_sub_cancel_left]
  cases bs[i]? with
  | none => rfl
  | some old =>
    simp only [Option.bind_some]
    by_cases hc : off + cs.length ≤ old.length
    · rw [if_pos ⟨by omega, hc, .inr h1.2⟩, if_pos (by simpa using hc)]
      rw [List.set_append_right _ _ (Nat.le_add_right _ _), Nat.add_sub_cancel_left]
    · rw [if_neg (fun h => hc h.2.1), if_neg (by simpa using hc)]
theorem underL_of : ∀ {l : List AVal}, (∀ c ∈ l, c.under 0 0 = true) → underL 0 0 l = true
  | [], _ => rfl
  | c :: cs, h => by simp only [underL, Bool.and_eq_true]; exact ⟨h c (by simp), underL_of fun c hc => h c (by simp [hc])⟩
@[simp] theorem underL_cW (l : List W64) : underL 0 0 (cW l) = true := underL_of fun c hc => by
  simp only [cW, List.mem_map] at hc; obtain ⟨x, _, rfl⟩ := hc; rfl
@[simp] theorem underL_wd (x : W64) : underL 0 0 [wd x] = true := rfl
@[simp] theorem underL_int (k : IntKind) (x : Int) : underL 0 0 [.int k x] = true := rfl
@[simp] theorem underL_bool (x : Bool) : underL 0 0 [.bool x] = true := rfl
theorem loadA_old (b off n : Nat) (g : Bool) (cs : List AVal) (hb : h.blks[b]? = some cs) : loadA (hx h bs ts) (.ptr b off) n g = partA g cs off n := by
  unfold loadA hx
  simp only
  rw [List.getElem?_append_left (List.getElem?_eq_some_iff.1 hb).1, hb]
  rfl

/-- A list of numbers that may be read. -/
def RdI (h : AHeap) (k : IntKind) (x : AVal) (l : List Int) : Prop :=
  lenA x = some l.length ∧ ∃ p : Nat → AVal, (∀ i, i < l.length → iadrA none 1 x (.int .i64 (i : Int)) = some (p i)) ∧ ∀ i bs ts, i < l.length → loadA (hx h bs ts) (p i) 1 false = some (.int k (gd l 0 i))
def RdW (h : AHeap) (x : AVal) (l : List W64) : Prop :=
  lenA x = some l.length ∧ ∃ p : Nat → AVal, (∀ i, i < l.length → iadrA none 1 x (.int .i64 (i : Int)) = some (p i)) ∧ ∀ i bs ts, i < l.length → loadA (hx h bs ts) (p i) 1 false = some (wd (gd l 0#64 i))
theorem RdI.ext {h : AHeap} {k : IntKind} {x : AVal} {l : List Int} (hr : RdI h k x l) (bs : List (List AVal)) (ts : List Nat) : RdI (hx h bs ts) k x l := by
  obtain ⟨h1, p, h2, h3⟩ := hr
  exact ⟨h1, p, h2, fun i bs' ts' hi => by rw [hx_hx]; exact h3 i _ _ hi⟩
theorem RdW.ext {h : AHeap} {x : AVal} {l : List W64} (hr : RdW h x l) (bs : List (List AVal)) (ts : List Nat) : RdW (hx h bs ts) x l := by
  obtain ⟨h1, p, h2, h3⟩ := hr
  exact ⟨h1, p, h2, fun i bs' ts' hi => by rw [hx_hx]; exact h3 i _ _ hi⟩
theorem RdI.vsl (h : AHeap) (k : IntKind) (c : Bool) (l : List Int) : RdI h k (.vsl c (eI k l)) l :=
  ⟨by simp, fun i => .vptr [.int k (gd l 0 i)] 0, fun i hi => iadr_eI k .i64 c l i (by simpa using hi), fun i bs ts hi => by simp⟩
def eW (l : List W64) : List (List AVal) := l.map fun x => [wd x]
@[simp] theorem eW_len (l : List W64) : (eW l).length = l.length := by simp [eW]
theorem eW_get (l : List W64) (i : Nat) : (eW l)[i]? = (l[i]?).map fun n => [wd n] := by simp [eW]
theorem RdW.vsl (h : AHeap) (c : Bool) (l : List W64) : RdW h (.vsl c (eW l)) l :=
  ⟨by simp, fun i => .vptr [wd (gd l 0#64 i)] 0, fun i hi => by simp [iadrA, asI, eW_get, hi, gd, List.getD], fun i bs ts hi => by simp⟩
theorem cI_at {k : IntKind} {l : List Int} {i : Nat} (h : i < l.length) : (cI k l)[i]? = some (.int k (gd l 0 i)) := by
  simp [cI, gd, List.getD, h]
theorem RdW.sl (h : AHeap) (b n : Nat) (cap : Option Nat) (l : List W64) (hl : l.length = n) (hb : h.blks[b]? = some (cW l)) : RdW h (.sl b 0 1 n cap) l :=
  ⟨by simp [hl], fun i => .ptr b (0 + i * 1), fun i hi => by simp [iadrA, asI]; omega, fun i bs ts hi => by
    rw [loadA_old h bs ts b _ _ _ _ hb, partA_one, Nat.zero_add, Nat.mul_one]; exact cW_at hi⟩
theorem RdI.sl (h : AHeap) (k : IntKind) (b n : Nat) (cap : Option Nat) (l : List Int) (hl : l.length = n) (hb : h.blks[b]? = some (cI k l)) : RdI h k (.sl b 0 1 n cap) l :=
  ⟨by simp [hl], fun i => .ptr b (0 + i * 1), fun i hi => by simp [iadrA, asI]; omega, fun i bs ts hi => by
    rw [loadA_old h bs ts b _ _ _ _ hb, partA_one, Nat.zero_add, Nat.mul_one]; exact cI_at hi⟩
end
theorem slice_arr (n sz m i off : Nat) (h : decide (0 < n) = true) : sliceV (.arr n) sz (pA m i off) none none none = some (sA m i off sz n (some n)) := by
  have h' : 0 < n := by simpa using h
  have : ¬ n = 0 := by omega
  simp [sliceV, pA, sA, bndA, this]
theorem slice_arrH (n sz m i off c : Nat) (kd : IntKind) (h : (decide (0 < c) && decide (c ≤ n)) = true) : sliceV (.arr n) sz (pA m i off) none (some (.int kd (c : Int))) none = some (sA m i off sz c (some n)) := by
  simp only [Bool.and_eq_true, decide_eq_true_eq] at h
  have h0 : ¬ c = 0 := by omega
  simp [sliceV, pA, sA, bndA, h0, h.2]
theorem RdW.sA {h : AHeap} {bs : List (List AVal)} (ts : List Nat) (i n : Nat) (cap : Option Nat) (l : List W64) (hl : l.length = n) (hb : bs[i]? = some (cW l)) : RdW (hx h bs ts) (sA h.blks.length i 0 1 n cap) l :=
  RdW.sl _ _ n cap l hl (by simp only [hx]; rw [List.getElem?_append_right (Nat.le_add_right _ _), Nat.add_sub_cancel_left]; exact hb)
theorem RdI.sA {h : AHeap} {bs : List (List AVal)} (ts : List Nat) (k : IntKind) (i n : Nat) (cap : Option Nat) (l : List Int) (hl : l.length = n) (hb : bs[i]? = some (cI k l)) : RdI (hx h bs ts) k (sA h.blks.length i 0 1 n cap) l :=
  RdI.sl _ k _ n cap l hl (by simp only [hx]; rw [List.getElem?_append_right (Nat.le_add_right _ _), Nat.add_sub_cancel_left]; exact hb)
theorem s2a_eI (n : Nat) (c : Bool) (k : IntKind) (l : List Int) (h : (decide (0 < n) && decide (n ≤ l.length)) = true) : s2aK n (.vsl c (eI k l)) = some (.vptr (cI k (l.take n)) 0) := by
  simp only [Bool.and_eq_true, decide_eq_true_eq] at h
  show (if n ≤ (eI k l).length ∧ 0 < n then some (AVal.vptr (List.take n (eI k l)).flatten 0) else none) = _
  rw [if_pos ⟨by simpa using h.2, h.1⟩]
  have : (eI k l).take n = eI k (l.take n) := by simp [eI]
  rw [this, eI_flat]
theorem s2a_sA (n m i off len : Nat) (cap : Option Nat) (h : decide (n ≤ len) = true) : s2aK n (sA m i off 1 len cap) = some (pA m i off) := by
  have : n ≤ len := by simpa using h
  unfold s2aK; simp [sA, pA, this]
@[simp] theorem cI_take (k : IntKind) (l : List Int) (n : Nat) : (cI k l).take n = cI k (l.take n) := by simp [cI]
@[simp] theorem cI_drop (k : IntKind) (l : List Int) (n : Nat) : (cI k l).drop n = cI k (l.drop n) := by simp [cI]
theorem hx_blk {h : AHeap} {bs : List (List AVal)} (ts : List Nat) {i : Nat} {cs : List AVal} (hb : bs[i]? = some cs) : (hx h bs ts).blks[h.blks.length + i]? = some cs := by
  simp only [hx]; rw [List.getElem?_append_right (Nat.le_add_right _ _), Nat.add_sub_cancel_left]; exact hb
@[simp] theorem setAt_nil (cs : List AVal) (off : Nat) : setAt cs off [] = cs := by simp only [setAt]
theorem partA_cI (k : IntKind) (l : List Int) (off sz : Nat) (h : decide (off + sz ≤ l.length) = true) : partA true (cI k l) off sz = some (.agg (cI k ((l.drop off).take sz))) := by
  have h' : off + sz ≤ l.length := by simpa using h
  unfold partA; simp [h']
theorem partA_cW (l : List W64) (off sz : Nat) (h : decide (off + sz ≤ l.length) = true) : partA true (cW l) off sz = some (.agg (cW ((l.drop off).take sz))) := by
  have h' : off + sz ≤ l.length := by simpa using h
  unfold partA; simp [h']
theorem partA_cB (l : List Bool) (off sz : Nat) (h : decide (off + sz ≤ l.length) = true) : partA true (cB l) off sz = some (.agg (cB ((l.drop off).take sz))) := by
  have h' : off + sz ≤ l.length := by simpa using h
  unfold partA; simp [h']
abbrev owrM : Mode := ⟨true, true, false, true⟩
@[simp] theorem argsA_owr (h : AHeap) (args : List AVal) : argsA owrM h args = fzArgs h args := by simp [argsA]
@[simp] theorem limOf_owr (L : Lim) (h : AHeap) : limOf owrM L h = limP h := by simp [limOf, limP]
theorem retA_owr (h : AHeap) (bs : List (List AVal)) (ts : List Nat) (es : List (List AVal)) (hu : (underLL h.blks.length h.toks.length es && (ts[0]? == some es.length)) = true) :
    retA owrM h (hx h bs ts) (gA h.toks.length 0 es) = some (.gsl h.toks.length es, ptok h es.length) := by
  simp only [Bool.and_eq_true, beq_iff_eq] at hu
  obtain ⟨u1, u2⟩ := hu
  have h5 : (hx h bs ts).toks[h.toks.length]? = some es.length := by
    simp only [hx]; rw [List.getElem?_append_right (Nat.le_refl _), Nat.sub_self]; exact u2
  unfold retA
  simp only [gA, Nat.add_zero, h5, u1]
  simp
@[simp] theorem appK_g (L : Lim) (h : AHeap) (sz : Nat) (ref : Bool) (x : AVal) (n i : Nat) (es : List (List AVal)) : appK L h sz ref x (gA n i es) = appK L h sz ref x (.vsl false es) := by
  simp [appK, gA, elemsA, strOk]
def s2bK (h : AHeap) : AVal → Option (AVal × AHeap)
  | .str s => some (.gsl h.toks.length (eI .u8 (bts s)), ptok h s.size)
  | _ => none
@[simp] theorem copA_s2b (C : Ctx) (L : Lim) (fr : Fr) (h : AHeap) (x : AO) : copA C L fr h (.s2b x) = s2bK h (C.ev fr x) := by
  simp only [copA]
  cases C.ev fr x <;> first | rfl | (simp only [s2bK, bts_map])
@[simp] theorem s2bK_str (h : AHeap) (bs : List (List AVal)) (ts : List Nat) (s : ByteArray) : s2bK (hx h bs ts) (.str s) = some (gA h.toks.length ts.length (eI .u8 (bts s)), hx h bs (ts ++ [s.size])) := by
  simp [s2bK, gA, hx, ptok]
@[simp] theorem grdV_undef (b : Bool) : grdV undefA b = false := rfl
@[simp] theorem tab_snoc {α : Type} (n : Nat) (f : Nat → α) : tab n f ++ [f n] = tab (n + 1) f := by simp [tab, List.range_succ]
theorem gd_take {α : Type} {l : List α} {n i : Nat} {d : α} (h : i < n) : gd (l.take n) d i = gd l d i := by
  unfold gd; simp [List.getD, List.getElem?_take, h]
theorem take_snoc {α : Type} {l : List α} {k : Nat} (d : α) (h : k < l.length) : l.take (k + 1) = l.take k ++ [gd l d k] := by
  rw [List.take_add_one, gd_get? (d := d) h]; rfl
end Go.Av

namespace Go.Av
set_option linter.unusedVariables false
set_option linter.unusedSimpArgs false
def mkK (h : AHeap) (sz : Nat) (zero : List AVal) : AVal → Option (AVal × AHeap)
  | .int _ n => if 0 ≤ n ∧ n < maxRoom then some (.sl h.blks.length 0 sz n.toNat (some n.toNat), push h (rep zero n.toNat)) else none
  | _ => none
@[simp] theorem copA_mk (C : Ctx) (L : Lim) (fr : Fr) (h : AHeap) (sz : Nat) (z : List AVal) (x : AO) : copA C L fr h (.mk sz z x) = mkK h sz z (C.ev fr x) := by
  simp only [copA]
  cases C.ev fr x <;> rfl
theorem mkK_int (h : AHeap) (bs : List (List AVal)) (ts : List Nat) (sz : Nat) (z : List AVal) (k : IntKind) (n : Int) (hc : (decide (0 ≤ n) && decide (n < maxRoom)) = true) :
    mkK (hx h bs ts) sz z (.int k n) = some (sA h.blks.length bs.length 0 sz n.toNat (some n.toNat), hx h (bs ++ [rep z n.toNat]) ts) := by
  simp only [Bool.and_eq_true, decide_eq_true_eq] at hc
  unfold mkK
  simp only [if_pos hc]
  simp [sA, hx, push]
theorem rep_rep1 (x : AVal) : ∀ n, rep [x] n = rep1 x n
  | 0 => rfl
  | n + 1 => by simp [rep, rep1, rep_rep1 x n]
theorem slice_slH (sz m i len c : Nat) (cap : Option Nat) (kd : IntKind) (h : (decide (0 < c) && decide (c ≤ len) && decide (len ≤ cap.getD len)) = true) : sliceV .slc sz (sA m i 0 sz len cap) none (some (.int kd (c : Int))) none = some (sA m i 0 sz c cap) := by
  simp only [Bool.and_eq_true, decide_eq_true_eq] at h
  obtain ⟨⟨h1, h2⟩, h3⟩ := h
  have h0 : ¬ c = 0 := by omega
  have h4 : c ≤ cap.getD len := by omega
  simp [sliceV, sA, bndA, h0, h4]
@[simp] theorem cells_int (k : IntKind) (a : Int) : AVal.cells (AVal.int k a) = [.int k a] := rfl
@[simp] theorem okV_int (k : IntKind) (a : Int) : AVal.okV (AVal.int k a) = true := rfl
@[simp] theorem cells_bool (b : Bool) : AVal.cells (AVal.bool b) = [.bool b] := rfl
@[simp] theorem okV_bool (b : Bool) : AVal.okV (AVal.bool b) = true := rfl
@[simp] theorem cells_str (b : ByteArray) : AVal.cells (AVal.str b) = [.str b] := rfl
@[simp] theorem okV_str (b : ByteArray) : AVal.okV (AVal.str b) = true := rfl
@[simp] theorem cells_vsl (c : Bool) (es : List (List AVal)) : AVal.cells (AVal.vsl c es) = [.vsl c es] := rfl
@[simp] theorem okV_vsl (c : Bool) (es : List (List AVal)) : AVal.okV (AVal.vsl c es) = true := rfl
@[simp] theorem cells_nsl  : AVal.cells (AVal.nsl) = [.nsl] := rfl
@[simp] theorem okV_nsl  : AVal.okV (AVal.nsl) = true := rfl
@[simp] theorem cells_nilp  : AVal.cells (AVal.nilp) = [.nilp] := rfl
@[simp] theorem okV_nilp  : AVal.okV (AVal.nilp) = true := rfl
@[simp] theorem cells_nfn  : AVal.cells (AVal.nfn) = [.nfn] := rfl
@[simp] theorem okV_nfn  : AVal.okV (AVal.nfn) = true := rfl
@[simp] theorem cells_nif  : AVal.cells (AVal.nif) = [.nif] := rfl
@[simp] theorem okV_nif  : AVal.okV (AVal.nif) = true := rfl
@[simp] theorem cells_iface (t : TypeId) (v : AVal) : AVal.cells (AVal.iface t v) = [.iface t v] := rfl
@[simp] theorem okV_iface (t : TypeId) (v : AVal) : AVal.okV (AVal.iface t v) = true := rfl
@[simp] theorem cells_fn (f : Fn) (a b : List AVal) : AVal.cells (AVal.fn f a b) = [.fn f a b] := rfl
@[simp] theorem okV_fn (f : Fn) (a b : List AVal) : AVal.okV (AVal.fn f a b) = true := rfl
@[simp] theorem cells_vptr (cs : List AVal) (o : Nat) : AVal.cells (AVal.vptr cs o) = [.vptr cs o] := rfl
@[simp] theorem okV_vptr (cs : List AVal) (o : Nat) : AVal.okV (AVal.vptr cs o) = true := rfl
@[simp] theorem cells_sA (n i off sz len : Nat) (cap : Option Nat) : AVal.cells (sA n i off sz len cap : AVal) = [sA n i off sz len cap] := rfl
@[simp] theorem okV_sA (n i off sz len : Nat) (cap : Option Nat) : AVal.okV (sA n i off sz len cap : AVal) = true := rfl
@[simp] theorem cells_pA (n i off : Nat) : AVal.cells (pA n i off : AVal) = [pA n i off] := rfl
@[simp] theorem okV_pA (n i off : Nat) : AVal.okV (pA n i off : AVal) = true := rfl
@[simp] theorem cells_gA (n i : Nat) (es : List (List AVal)) : AVal.cells (gA n i es : AVal) = [gA n i es] := rfl
@[simp] theorem okV_gA (n i : Nat) (es : List (List AVal)) : AVal.okV (gA n i es : AVal) = true := rfl
@[simp] theorem cells_agg (cs : List AVal) : AVal.cells (AVal.agg cs) = cs := rfl
@[simp] theorem okV_agg (cs : List AVal) : AVal.okV (AVal.agg cs) = true := rfl
theorem cellsEq_cI (k : IntKind) : ∀ (n : Nat) (l m : List Int), l.length = n → m.length = n → cellsEq (rep1 .i n) (cI k l) (cI k m) = some (l == m)
  | 0, [], [], _, _ => by simp [rep1, cI, cellsEq]
  | n + 1, x :: l, y :: m, h1, h2 => by
    have := cellsEq_cI k n l m (by simpa using h1) (by simpa using h2)
    simp only [cI] at this
    simp only [rep1, cI, List.map_cons, cellsEq, cellEq, bind, if_true, Option.bind_some, this]
    congr 1
theorem eqA_cI (k : IntKind) (n : Nat) (l m : List Int) (h1 : (l.length == n) = true) (h2 : (m.length == n) = true) : eqA (.agg (rep1 .i n)) (.agg (cI k l)) (.agg (cI k m)) = some (l == m) := by
  rw [eqA_agg]; exact cellsEq_cI k n l m (by simpa using h1) (by simpa using h2)
/-- The text of bytes. -/
def byA (l : List Int) : ByteArray := ⟨(l.map fun n => UInt8.ofNat n.toNat).toArray⟩
theorem bytesA_eI : ∀ l : List Int, bytesA (eI .u8 l) = some (l.map fun n => UInt8.ofNat n.toNat)
  | [] => rfl
  | x :: l => by
    have := bytesA_eI l
    simp only [eI] at this
    simp only [eI, List.map_cons, bytesA, this, bind, Option.bind_some]
def b2sK (h : AHeap) (x : AVal) : Option AVal := (elemsA h 1 x).bind fun es => (bytesA es).map fun bs => .str ⟨bs.toArray⟩
@[simp] theorem ropA_b2s (C : Ctx) (fr : Fr) (h : AHeap) (x : AO) : ropA C fr h (.b2s x) = b2sK h (C.ev fr x) := by
  simp only [ropA, b2sK, bind]
  congr 1
  funext es
  cases bytesA es <;> rfl
@[simp] theorem b2sK_vsl (h : AHeap) (c : Bool) (l : List Int) : b2sK h (.vsl c (eI .u8 l)) = some (.str (byA l)) := by
  simp [b2sK, elemsA, bytesA_eI, byA]
@[simp] theorem b2sK_gA (h : AHeap) (n i : Nat) (l : List Int) : b2sK h (gA n i (eI .u8 l)) = some (.str (byA l)) := by
  simp [b2sK, gA, elemsA, bytesA_eI, byA]
@[simp] theorem b2sK_nsl (h : AHeap) : b2sK h .nsl = some (.str (byA [])) := by
  simp [b2sK, elemsA, bytesA, byA]
theorem b2sK_sA (h : AHeap) (bs : List (List AVal)) (ts : List Nat) (i n : Nat) (cap : Option Nat) (l : List Int) (hb : bs[i]? = some (cI .u8 l)) (hl : l.length = n) : b2sK (hx h bs ts) (sA h.blks.length i 0 1 n cap) = some (.str (byA l)) := by
  have he := elems_sA h bs ts i n (cI .u8 l) cap hb (by simpa using hl)
  rw [eI_cells] at he
  simp [b2sK, he, bytesA_eI, byA]
def markK : AVal → Option AVal
  | .sl b off sz n c => some (.sl b off sz n c)
  | _ => none
@[simp] theorem ropA_mark (C : Ctx) (fr : Fr) (h : AHeap) (x : AO) : ropA C fr h (.mark x) = markK (C.ev fr x) := by
  simp only [ropA]
  cases C.ev fr x <;> rfl
@[simp] theorem markK_sA (n i off sz len : Nat) (cap : Option Nat) : markK (sA n i off sz len cap) = some (sA n i off sz len cap) := rfl
def slitK (h : AHeap) (sz len : Nat) (cs : Option (List AVal)) : Option (AVal × AHeap) := cs.map fun cs => (.sl h.blks.length 0 sz len (some len), push h cs)
@[simp] theorem copA_slit (C : Ctx) (L : Lim) (fr : Fr) (h : AHeap) (sz len : Nat) (z : List AVal) (ps : List (Nat × AO)) :
    copA C L fr h (.slit sz len z ps) = slitK h sz len (fillA (rep z len) (ps.map fun p => (p.1 * sz, sz, C.ev fr p.2))) := by
  simp only [copA, slitK]
  cases fillA (rep z len) (ps.map fun p => (p.1 * sz, sz, C.ev fr p.2)) <;> rfl
@[simp] theorem slitK_some (h : AHeap) (bs : List (List AVal)) (ts : List Nat) (sz len : Nat) (cs : List AVal) : slitK (hx h bs ts) sz len (some cs) = some (sA h.blks.length bs.length 0 sz len (some len), hx h (bs ++ [cs]) ts) := by
  simp [slitK, sA, hx, push]
/-- To a full list that may be written: a new list. -/
theorem appK_sAf (L : Lim) (h : AHeap) (bs : List (List AVal)) (ts : List Nat) (i n : Nat) (k : IntKind) (l m : List Int) (c : Bool) (hb : bs[i]? = some (cI k l))
    (hc : (decide (l.length = n) && decide (n + m.length < maxRoom) && decide (0 < m.length)) = true) :
    appK L (hx h bs ts) 1 false (sA h.blks.length i 0 1 n (some n)) (.vsl c (eI k m)) = some (gA h.toks.length ts.length (eI k (l ++ m)), hx h bs (ts ++ [n + m.length])) := by
  simp only [Bool.and_eq_true, decide_eq_true_eq] at hc
  obtain ⟨⟨c1, c3⟩, c5⟩ := hc
  have he := elems_sA h bs ts i n (cI k l) (some n) hb (by simpa using c1)
  rw [eI_cells] at he
  simp only [sA] at he
  have hm : eI k m ≠ [] := fun e => by have := congrArg List.length e; simp at this; simp [this] at c5
  simp only [appK, elemsA, strOk, Option.bind_some, if_true, appA, eI_szOk, sA]
  simp only [elemsA] at he
  rw [if_pos ⟨trivial, trivial⟩, he, Option.bind_some, if_neg hm, if_pos (by simp [c1]; exact c3)]
  simp [freshA, gA, hx, ptok, c1]
end Go.Av
