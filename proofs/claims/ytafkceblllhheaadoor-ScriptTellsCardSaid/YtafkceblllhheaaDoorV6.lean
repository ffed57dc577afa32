/- More equations: copies, carries, lists of words, what is done once; answers as a text, scripts as bytes. -/
import Derived.Test.YtafkceblllhheaaDoorV5
import Derived.ChangeKeysEq
import Derived.Laws.Externs
import Derived.Laws.Pointers
import Derived.Lib.LaidTab
import Derived.Lib.ItoaNum
import Derived.Below
namespace Go.Av
set_option linter.unusedVariables false
set_option linter.unusedSimpArgs false
/-- The type's own method, as its row has it. -/
def methRow (P : Program) (t : TypeId) (name : String) (f : FuncId) : Bool :=
  match P.info? t with
  | some i => match i.methods.find? (·.name == name) with
    | some m => m.path.isEmpty && (match m.func, P.underlying t with
      | some (g, pr), some d => g == f && (match d with | .pointer _ => pr | _ => !pr)
      | _, _ => false)
    | none => false
  | none => false
theorem meth_row {P : Program} {t : TypeId} {name : String} {f : FuncId} (hm : methRow P t name f = true) (n : Nat) (v : Value) (w : World) : (method (n + 1) t v name).run P w = .ok (f, v) w := by
  unfold methRow at hm
  split at hm
  · rename_i i hi
    split at hm
    · rename_i m hf
      simp only [Bool.and_eq_true] at hm
      obtain ⟨h1, h2⟩ := hm
      split at h2
      · rename_i g pr d hg hd
        simp only [Bool.and_eq_true, beq_iff_eq] at h2
        obtain ⟨rfl, h3⟩ := h2
        have hp : m.path.toList = [] := by simpa using h1
        have hu : (underlying t).run P w = .ok d w := run_underlying hd w
        unfold method
        rw [Sem.run_bind, run_typeInfo w hi]
        simp only [Result.andThen, hf, hp, follow, hg]
        simp only [Sem.run_bind, Sem.run_pure, Result.andThen, receiverAt, hu]
        cases d <;> simp at h3 <;> subst h3 <;> simp [Place.get, Sem.run_pure]
      · cases h2
    · cases hm
  · cases hm

noncomputable section
variable (C : Ctx) (L : Lim) (fr : Fr) (h : AHeap)
def methR (m : Option (List (Nat × Nat × Bool) × FuncId)) (v : AVal) (as : List AVal) : Option (AVal × AHeap) := match m with
  | some (path, f) => match methFollow path v with
    | some r => acall C L f (r :: as) h
    | none => none
  | none => none
@[simp] theorem methR_own (f : FuncId) (v : AVal) (as : List AVal) : methR C L h (some ([], f)) v as = acall C L f (v :: as) h := rfl
def invR (x : AVal) (name : String) (as : List AVal) : Option (AVal × AHeap) := match x with
  | .iface t v => methR C L h (C.meth t name) v as
  | _ => none
@[simp] theorem invR_iface (t : TypeId) (v : AVal) (name : String) (as : List AVal) : invR C L h (.iface t v) name as = methR C L h (C.meth t name) v as := rfl
@[simp] theorem stepC_inv (x : AO) (name : String) (as : List AO) : stepC C L (.inv x name as) fr h = invR C L h (C.ev fr x) name (as.map (C.ev fr)) := by
  rw [stepC.eq_def]; rfl
end

/-! #### parts -/
/-- Some of them new. -/
def putAt {α : Type} (l : List α) (off : Nat) (m : List α) : List α := l.take off ++ (m ++ l.drop (off + m.length))
theorem putAt_len {α : Type} (l : List α) (off : Nat) (m : List α) (h : off + m.length ≤ l.length) : (putAt l off m).length = l.length := by
  simp [putAt]; omega
theorem putAt_nil {α : Type} (l : List α) (off : Nat) : putAt l off [] = l := by simp [putAt]
theorem setAt_mid : ∀ (cs old rest pre : List AVal), old.length = cs.length → setAt (pre ++ (old ++ rest)) pre.length cs = pre ++ (cs ++ rest)
  | [], old, rest, pre, h => by cases old with | nil => simp [setAt] | cons a l => simp at h
  | c :: cs, [], rest, pre, h => by simp at h
  | c :: cs, a :: l, rest, pre, h => by
    have := setAt_mid cs l rest (pre ++ [c]) (by simpa using h)
    simp only [setAt]
    rw [List.set_append_right _ _ (Nat.le_refl _), Nat.sub_self]
    simpa using this
theorem setAt_put (l : List AVal) (off : Nat) (m : List AVal) (h : off + m.length ≤ l.length) : setAt l off m = putAt l off m := by
  have h1 : l = l.take off ++ ((l.drop off).take m.length ++ l.drop (off + m.length)) := by
    rw [← List.drop_drop, List.take_append_drop, List.take_append_drop]
  have h2 := setAt_mid m ((l.drop off).take m.length) (l.drop (off + m.length)) (l.take off) (by simp; omega)
  rw [← h1, List.length_take, Nat.min_eq_left (by omega)] at h2
  exact h2
theorem setAt_cI (k : IntKind) (l : List Int) (off : Nat) (m : List Int) (h : off + m.length ≤ l.length) : setAt (cI k l) off (cI k m) = cI k (putAt l off m) := by
  rw [setAt_put _ _ _ (by simpa using h)]
  simp [putAt, cI]

/-! #### copies -/
def copyK (L : Lim) (h : AHeap) (sz : Nat) (x y : AVal) : Option (AVal × AHeap) := (elemsA h sz y).bind fun es =>
  if szOk sz es = true ∧ strOk sz y = true then (match x with
    | .sl b off s n _ => if s = sz then (storeA L h (.ptr b off) (es.take (min es.length n)).flatten).map fun h => (.int .i64 ((min es.length n : Nat) : Int), h) else none
    | _ => none) else none
@[simp] theorem copA_copy (C : Ctx) (L : Lim) (fr : Fr) (h : AHeap) (sz : Nat) (x y : AO) : copA C L fr h (.copy sz x y) = copyK L h sz (C.ev fr x) (C.ev fr y) := by
  simp only [copA, copyK, bind]
  congr 1
@[simp] theorem strOk_one (y : AVal) : strOk 1 y = true := by cases y <;> rfl
theorem underL_cI (k : IntKind) (l : List Int) : underL 0 0 (cI k l) = true := underL_of fun c hc => by
  simp only [cI, List.mem_map] at hc; obtain ⟨x, _, rfl⟩ := hc; rfl
attribute [simp] underL_cI
theorem copyK_I (L : Lim) (h : AHeap) (bs : List (List AVal)) (ts : List Nat) (i off n : Nat) (cap : Option Nat) (k : IntKind) (l m : List Int) (y : AVal) (hy : elemsA (hx h bs ts) 1 y = some (eI k l)) (hb : bs[i]? = some (cI k m))
    (hn : off + min l.length n ≤ m.length) (hL : L.rob ≤ h.blks.length) :
    copyK L (hx h bs ts) 1 (sA h.blks.length i off 1 n cap) y = some (.int .i64 ((min l.length n : Nat) : Int), hx h (bs.set i (cI k (putAt m off (l.take (min l.length n))))) ts) := by
  have e1 : ((eI k l).take (min l.length n)).flatten = cI k (l.take (min l.length n)) := by
    rw [← eI_flat]; simp [eI]
  have hs := storeA_fl h bs ts L i off (cI k (l.take (min l.length n))) (by simp [hL])
  rw [hb] at hs
  simp only [stO_some, cI_len] at hs
  rw [decide_eq_true (by simp; omega), stI_true, setAt_cI _ _ _ _ (by simp; omega)] at hs
  unfold copyK
  rw [hy]
  simp only [Option.bind_some, eI_szOk, strOk_one, sA, and_self, if_true, eI_len]
  rw [e1]
  simp only [pA] at hs
  rw [hs]
  rfl
def clearK (L : Lim) (h : AHeap) (zero : List AVal) (x : AVal) : Option (AVal × AHeap) := match x with
  | .sl b off s n _ => if s = zero.length then (storeA L h (.ptr b off) (rep zero n)).map fun h => (.tup [], h) else none
  | _ => none
@[simp] theorem copA_clear (C : Ctx) (L : Lim) (fr : Fr) (h : AHeap) (z : List AVal) (x : AO) : copA C L fr h (.clear z x) = clearK L h z (C.ev fr x) := by
  simp only [copA, clearK]
  cases C.ev fr x <;> rfl
theorem clearK_I (L : Lim) (h : AHeap) (bs : List (List AVal)) (ts : List Nat) (i off n : Nat) (cap : Option Nat) (k : IntKind) (z : Int) (m : List Int) (hb : bs[i]? = some (cI k m)) (hn : off + n ≤ m.length) (hL : L.rob ≤ h.blks.length) :
    clearK L (hx h bs ts) [.int k z] (sA h.blks.length i off 1 n cap) = some (.tup [], hx h (bs.set i (cI k (putAt m off (tab n fun _ => z)))) ts) := by
  have hs := storeA_fl h bs ts L i off (cI k (tab n fun _ => z)) (by simp [hL])
  rw [hb] at hs
  simp only [stO_some, cI_len, tab_len] at hs
  rw [decide_eq_true hn, stI_true, setAt_cI _ _ _ _ (by simpa using hn)] at hs
  unfold clearK
  simp only [sA, List.length_singleton, if_true, rep_rep1, rep1_I]
  simp only [pA] at hs
  rw [hs]
  rfl

/-! #### parts of lists -/
theorem slice_slL (sz m i len c : Nat) (cap : Option Nat) (kd : IntKind) (h : (decide (c < len) && decide (len ≤ cap.getD len)) = true) : sliceV .slc sz (sA m i 0 sz len cap) (some (.int kd (c : Int))) none none = some (sA m i (c * sz) sz (len - c) (cap.map (· - c))) := by
  simp only [Bool.and_eq_true, decide_eq_true_eq] at h
  obtain ⟨h1, h3⟩ := h
  have h0 : ¬ len = c := by omega
  have h4 : c ≤ len := by omega
  simp [sliceV, sA, bndA, h0, h3, h4]
theorem elems_sAo (h : AHeap) (bs : List (List AVal)) (ts : List Nat) (i off n : Nat) (k : IntKind) (l : List Int) (cap : Option Nat) (hb : bs[i]? = some (cI k l)) (hl : off + n ≤ l.length) : elemsA (hx h bs ts) 1 (sA h.blks.length i off 1 n cap) = some (eI k ((l.drop off).take n)) := by
  simp only [elemsA, sA, hx]
  rw [List.getElem?_append_right (Nat.le_add_right _ _), Nat.add_sub_cancel_left, hb]
  have key : ∀ (n : Nat) (l : List Int), n ≤ l.length → chunks 1 n (cI k l) = eI k (l.take n) := by
    intro n
    induction n with
    | zero => intro l _; simp [chunks]
    | succ n ih =>
      intro l hl
      cases l with
      | nil => simp at hl
      | cons x l => simp only [cI, List.map_cons, chunks, List.take_succ_cons, List.drop_succ_cons, List.drop_zero, List.take_zero, eI]; rw [show List.map (fun n => AVal.int k n) l = cI k l from rfl, ih l (by simpa using hl)]; rfl
  simp only [ne_eq, not_true_eq_false, if_false, Option.bind_some, cI_len, Nat.mul_one, hl, if_true, cI_drop]
  rw [key n (l.drop off) (by simp; omega)]
/-- A list of bytes that may be read at once, too. -/
def Lst (h : AHeap) (k : IntKind) (x : AVal) (l : List Int) : Prop := RdI h k x l ∧ ∀ bs ts, elemsA (hx h bs ts) 1 x = some (eI k l)
theorem Lst.ext {h : AHeap} {k : IntKind} {x : AVal} {l : List Int} (hr : Lst h k x l) (bs : List (List AVal)) (ts : List Nat) : Lst (hx h bs ts) k x l :=
  ⟨hr.1.ext bs ts, fun bs' ts' => by rw [hx_hx]; exact hr.2 _ _⟩
theorem Lst.vsl (h : AHeap) (k : IntKind) (c : Bool) (l : List Int) : Lst h k (.vsl c (eI k l)) l := ⟨RdI.vsl h k c l, fun bs ts => by simp only [elemsA]⟩
theorem Lst.nsl (h : AHeap) (k : IntKind) : Lst h k .nsl [] := ⟨⟨by simp, fun _ => .nilp, fun i hi => by simp at hi, fun i _ _ hi => by simp at hi⟩, fun bs ts => by simp only [elemsA]; rfl⟩
theorem Lst.sA {h : AHeap} {bs : List (List AVal)} (ts : List Nat) (k : IntKind) (i off n : Nat) (cap : Option Nat) (l : List Int) (hl : off + n ≤ l.length) (hb : bs[i]? = some (cI k l)) : Lst (hx h bs ts) k (sA h.blks.length i off 1 n cap) ((l.drop off).take n) := by
  refine ⟨⟨by simp; omega, fun j => pA h.blks.length i (off + j * 1), fun j hj => iadr_sA _ _ _ _ _ _ _ _ (decide_eq_true (by simp at hj; omega)), fun j bs' ts' hj => ?_⟩, fun bs' ts' => ?_⟩
  · have hi := (List.getElem?_eq_some_iff.1 hb).1
    rw [hx_hx, loadA_pA, List.getElem?_append_left hi, hb, partO_some, partA_one, Nat.mul_one]
    simp at hj
    rw [cI_at (by omega)]
    congr 2
    unfold gd
    simp [List.getD, List.getElem?_take, List.getElem?_drop, show j < n by omega]
  · have hi := (List.getElem?_eq_some_iff.1 hb).1
    rw [hx_hx]
    exact elems_sAo h (bs ++ bs') (ts ++ ts') i off n k l cap (by rw [List.getElem?_append_left hi]; exact hb) hl
theorem pA_up (n m i off : Nat) : pA (n + m) i off = pA n (m + i) off := by simp [pA, Nat.add_assoc]
theorem sA_up (n m i off sz len : Nat) (cap : Option Nat) : sA (n + m) i off sz len cap = sA n (m + i) off sz len cap := by simp [sA, Nat.add_assoc]
theorem gA_up (n m i : Nat) (es : List (List AVal)) : gA (n + m) i es = gA n (m + i) es := by simp [gA, Nat.add_assoc]
/-- To a list that grows behind others. -/
theorem appK_nT (L : Lim) (h : AHeap) (bs : List (List AVal)) (ts : List Nat) (sz : Nat) (c : Bool) (es ys : List (List AVal))
    (hc : (szOk sz ys && szOk sz es && decide (L.rot ≤ h.toks.length) && decide (es.length + ys.length < maxRoom)) = true) :
    appK L (hx h bs (ts ++ gT es)) sz false (gL .nsl h.toks.length ts.length es) (.vsl c ys) = some (gL .nsl h.toks.length ts.length (es ++ ys), hx h bs (ts ++ gT (es ++ ys))) := by
  simp only [Bool.and_eq_true, decide_eq_true_eq] at hc
  have e1 : ∀ q, hx (hx h [] ts) bs q = hx h bs (ts ++ q) := fun q => by simp
  have e2 : ∀ es, gL .nsl (hx h [] ts).toks.length 0 es = gL .nsl h.toks.length ts.length es := fun es => by
    unfold gL; split
    · rfl
    · rw [hx_toks, gA_up]; rfl
  have := appK_nV L (hx h [] ts) bs sz c es ys (by simp only [Bool.and_eq_true, decide_eq_true_eq, hx_toks]; exact ⟨⟨⟨hc.1.1.1, hc.1.1.2⟩, by omega⟩, hc.2⟩)
  rw [e1, e1, e2, e2] at this
  exact this
end Go.Av

namespace Go.Av
set_option linter.unusedVariables false
set_option linter.unusedSimpArgs false
theorem ext_plain {C : Ctx} {P : Program} {L : Lim} {f : FuncId} {fn : Func} {e : Array Value → Sem Value} (hf : P.funcs[f]? = some fn) (hname : (fn.name == "runtime.NumGoroutine") = false)
    (hb : fn.body.isNone = true) (hn : Extern.findNext fn = none) (he : Extern.find fn = some e) {args : List AVal} {h : AHeap} {v : AVal}
    (hr : ∀ (s : St) (cargs : Array Value), RepL s args cargs.toList → ∃ cv, (e cargs).run P s.w = .ok cv s.w ∧ Rep s v cv) : CallOk C P L f args h v h := by
  refine ⟨AInv.refl L h, fun s cargs hh hs hL hrep => ?_⟩
  subst hh
  obtain ⟨cv, h1, h2⟩ := hr s cargs hrep
  refine ⟨.value cv, s.w, ?_, .inl ⟨cv, .inl rfl, Good.same hs h2⟩⟩
  rw [run_callFunc_extern hf hname hb hn he, h1]
  rfl
def carX (g : Nat → Nat → Nat → Nat × Nat) : ExtF := ⟨fun _ args h => match args with
  | [.int .u64 x, .int .u64 y, .int .u64 c] => if (decide (0 ≤ x) && decide (0 ≤ y) && decide (0 ≤ c) && decide (c ≤ 1)) = true then some (.inl (.tup [.int .u64 (g x.toNat y.toNat c.toNat).1, .int .u64 (g x.toNat y.toNat c.toNat).2], h)) else none
  | _ => none, fun _ _ _ => none⟩
def addG (x y c : Nat) : Nat × Nat := ((x + y + c) % 18446744073709551616, (x + y + c) / 18446744073709551616)
def subG (x y b : Nat) : Nat × Nat := ((x + 18446744073709551616 - y - b) % 18446744073709551616, if x < y + b then 1 else 0)
def addX : ExtF := carX addG
def subX : ExtF := carX subG
def subEntry : Array Value → Sem Value := fun args => do
  let (x, y, b) ← Extern.MathBitsCarry.three "Sub64" args
  pure (Extern.MathBitsCarry.pair ((x + Extern.MathBitsCarry.m64 - y - b) % Extern.MathBitsCarry.m64) (if x < y + b then 1 else 0))
theorem run_addE {P : Program} (x y c : Nat) (hc : c ≤ 1) (w : World) :
    (add64Entry #[.int .u64 x, .int .u64 y, .int .u64 c]).run P w = .ok (.tuple #[.int .u64 (addG x y c).1, .int .u64 (addG x y c).2]) w := by
  have : c = 0 ∨ c = 1 := by omega
  rcases this with rfl | rfl <;> rfl
theorem run_subE {P : Program} (x y b : Nat) (hb : b ≤ 1) (w : World) :
    (subEntry #[.int .u64 x, .int .u64 y, .int .u64 b]).run P w = .ok (.tuple #[.int .u64 (subG x y b).1, .int .u64 (subG x y b).2]) w := by
  have : b = 0 ∨ b = 1 := by omega
  rcases this with rfl | rfl <;> rfl
theorem repL_3 {s : St} {a b c : AVal} {vs : Array Value} (h : RepL s [a, b, c] vs.toList) : ∃ x y z, vs = #[x, y, z] ∧ Rep s a x ∧ Rep s b y ∧ Rep s c z := by
  obtain ⟨l⟩ := vs
  simp only at h
  cases h with
  | cons _ x _ l1 h1 h =>
    cases h with
    | cons _ y _ l2 h2 h =>
      cases h with
      | cons _ z _ l3 h3 h =>
        cases h
        exact ⟨x, y, z, rfl, h1, h2, h3⟩
theorem rep_int {s : St} {k : IntKind} {n : Int} {v : Value} (h : Rep s (.int k n) v) : v = .int k n := by cases h; rfl
theorem carX_ok {C : Ctx} {P : Program} {f : FuncId} {fn : Func} {e : Array Value → Sem Value} {g : Nat → Nat → Nat → Nat × Nat} (hf : P.funcs[f]? = some fn) (hname : (fn.name == "runtime.NumGoroutine") = false)
    (hb : fn.body.isNone = true) (hn : Extern.findNext fn = none) (he : Extern.find fn = some e)
    (hr : ∀ (x y c : Nat), c ≤ 1 → ∀ w, (e #[.int .u64 x, .int .u64 y, .int .u64 c]).run P w = .ok (.tuple #[.int .u64 (g x y c).1, .int .u64 (g x y c).2]) w)
    {L : Lim} {args : List AVal} {h : AHeap} {v : AVal} {h' : AHeap} (hp : (carX g).pre L args h = some (.inl (v, h'))) : CallOk C P L f args h v h' := by
  unfold carX at hp
  simp only at hp
  split at hp
  · rename_i x y c
    split at hp
    · rename_i hc
      simp only [Bool.and_eq_true, decide_eq_true_eq] at hc
      simp only [Option.some.injEq, Sum.inl.injEq, Prod.mk.injEq] at hp
      obtain ⟨rfl, rfl⟩ := hp
      refine ext_plain hf hname hb hn he fun s cargs hrep => ?_
      obtain ⟨a, b, d, rfl, h1, h2, h3⟩ := repL_3 hrep
      obtain rfl := rep_int h1
      obtain rfl := rep_int h2
      obtain rfl := rep_int h3
      refine ⟨_, ?_, .tup _ #[.int .u64 (g x.toNat y.toNat c.toNat).1, .int .u64 (g x.toNat y.toNat c.toNat).2] (.cons _ _ _ _ (.int ..) (.cons _ _ _ _ (.int ..) .nil))⟩
      have := hr x.toNat y.toNat c.toNat (by omega) s.w
      rw [show ((x.toNat : Nat) : Int) = x by omega, show ((y.toNat : Nat) : Int) = y by omega, show ((c.toNat : Nat) : Int) = c by omega] at this
      exact this
    · cases hp
  · cases hp
theorem carX_inr {g : Nat → Nat → Nat → Nat × Nat} {L : Lim} {args : List AVal} {h : AHeap} {q : FuncId × List AVal × AHeap} : (carX g).pre L args h ≠ some (.inr q) := by
  unfold carX
  simp only
  split
  · split <;> simp
  · simp
/-- A sum with a carry; a difference with one. -/
theorem call_addX {C : Ctx} {L : Lim} {f : FuncId} {h : AHeap} (hx : C.ext f = some addX) (x y : W64) (c : Nat) (hc : c ≤ 1) :
    acall C L f [wd x, wd y, .int .u64 (c : Int)] h = some (.tup [wd (BitVec.ofNat 64 (x.toNat + y.toNat + c)), .int .u64 (((x.toNat + y.toNat + c) / 18446744073709551616 : Nat) : Int)], h) := by
  rw [acall_ext C L h hx]
  have : (decide (0 ≤ (x.toNat : Int)) && decide (0 ≤ (y.toNat : Int)) && decide (0 ≤ (c : Int)) && decide ((c : Int) ≤ 1)) = true := by simp; omega
  simp only [addX, carX, wd, if_pos this, Option.bind_some, addG, Int.toNat_natCast, BitVec.toNat_ofNat]
theorem call_subX {C : Ctx} {L : Lim} {f : FuncId} {h : AHeap} (hx : C.ext f = some subX) (x y : W64) (c : Nat) (hc : c ≤ 1) :
    acall C L f [wd x, wd y, .int .u64 (c : Int)] h = some (.tup [wd (BitVec.ofNat 64 (x.toNat + 18446744073709551616 - y.toNat - c)), .int .u64 ((if x.toNat < y.toNat + c then 1 else 0 : Nat) : Int)], h) := by
  rw [acall_ext C L h hx]
  have : (decide (0 ≤ (x.toNat : Int)) && decide (0 ≤ (y.toNat : Int)) && decide (0 ≤ (c : Int)) && decide ((c : Int) ≤ 1)) = true := by simp; omega
  simp only [subX, carX, wd, if_pos this, Option.bind_some, subG, Int.toNat_natCast, BitVec.toNat_ofNat]
end Go.Av

namespace Go.Av
set_option linter.unusedVariables false
set_option linter.unusedSimpArgs false
theorem frz_sA (h : AHeap) (bs : List (List AVal)) (ts : List Nat) (nt n i m : Nat) (cap : Option Nat) (k : IntKind) (l : List Int) (hb : bs[i]? = some (cI k l)) (hl : m ≤ l.length) :
    frz (hx h bs ts) h.blks.length nt (n + 1) (sA h.blks.length i 0 1 m cap) = some (.vsl false (eI k (l.take m))) := by
  have e1 : (hx h bs ts).blks[h.blks.length + i]? = some (cI k l) := hx_blk ts hb
  have e2 : chunks 1 m (cI k l) = eI k (l.take m) := by
    have key : ∀ (m : Nat) (l : List Int), m ≤ l.length → chunks 1 m (cI k l) = eI k (l.take m) := by
      intro m
      induction m with
      | zero => intro l _; simp [chunks]
      | succ m ih =>
        intro l hl
        cases l with
        | nil => simp at hl
        | cons x l =>
          have := ih l (by simpa using hl)
          simp only [chunks, cI, List.map_cons, List.take_succ_cons, List.take_zero, List.drop_succ_cons, List.drop_zero] at this ⊢
          rw [this]; rfl
    exact key m l hl
  simp only [sA, frz]
  rw [if_neg (by omega)]
  simp only [elemsA, ne_eq, not_true, if_false, e1, Option.bind_some, List.drop_zero]
  rw [if_pos (by simpa using hl), e2]
  simp [frzE]
def nats (l : List W64) : List Int := l.map fun w => (w.toNat : Int)
theorem cW_nats (l : List W64) : cW l = cI .u64 (nats l) := by simp [cW, cI, nats, wd]
theorem eW_nats (l : List W64) : eW l = eI .u64 (nats l) := by simp [eW, eI, nats, wd]
@[simp] theorem nats_len (l : List W64) : (nats l).length = l.length := by simp [nats]
@[simp] theorem nats_take (l : List W64) (n : Nat) : (nats l).take n = nats (l.take n) := by simp [nats]
@[simp] theorem eW_szOk (l : List W64) : szOk 1 (eW l) = true := by rw [eW_nats]; simp
@[simp] theorem eW_under (nb nt : Nat) (l : List W64) : underLL nb nt (eW l) = true := by rw [eW_nats]; simp
@[simp] theorem eW_nil : eW [] = [] := rfl
theorem frz_sW (h : AHeap) (bs : List (List AVal)) (ts : List Nat) (nt n i m : Nat) (cap : Option Nat) (l : List W64) (hb : bs[i]? = some (cW l)) (hl : l.length = m) :
    frz (hx h bs ts) h.blks.length nt (n + 1) (sA h.blks.length i 0 1 m cap) = some (.vsl false (eW l)) := by
  rw [cW_nats] at hb
  rw [frz_sA h bs ts nt n i m cap .u64 (nats l) hb (by simp; omega), eW_nats, List.take_of_length_le (by simp; omega)]
@[simp] theorem frz_eWv (h : AHeap) (nb nt n : Nat) (c : Bool) (l : List W64) : frz h nb nt (n + 1) (.vsl c (eW l)) = some (.vsl false (eW l)) := frz_vsl h nb nt n c (by simp)
@[simp] theorem frz_eWg (h : AHeap) (nb nt n i : Nat) (l : List W64) : frz h nb nt (n + 1) (gA nt i (eW l)) = some (.vsl false (eW l)) := frz_gAB h nb nt n i _ (by simp)
theorem frz_sOld (h : AHeap) (nb nt n b off sz m : Nat) (cap : Option Nat) (hb : decide (b < nb) = true) : frz h nb nt (n + 1) (.sl b off sz m cap) = some (.sl b off sz m cap) := by
  simp only [frz]
  rw [if_pos (by simpa using hb)]
theorem elems_sW (h : AHeap) (bs : List (List AVal)) (ts : List Nat) (i n : Nat) (cap : Option Nat) (l : List W64) (hb : bs[i]? = some (cW l)) (hl : l.length = n) : elemsA (hx h bs ts) 1 (sA h.blks.length i 0 1 n cap) = some (eW l) := by
  rw [cW_nats] at hb
  have := elems_sA h bs ts i n (cI .u64 (nats l)) cap hb (by simpa using hl)
  rw [this, eI_cells, eW_nats]
@[simp] theorem elems_vsl (h : AHeap) (sz : Nat) (c : Bool) (es : List (List AVal)) : elemsA h sz (.vsl c es) = some es := by simp only [elemsA]
/-- Words that may be read, one by one or at once. -/
def LsW (h : AHeap) (x : AVal) (l : List W64) : Prop := RdW h x l ∧ ∀ bs ts, elemsA (hx h bs ts) 1 x = some (eW l)
theorem LsW.ext {h : AHeap} {x : AVal} {l : List W64} (hr : LsW h x l) (bs : List (List AVal)) (ts : List Nat) : LsW (hx h bs ts) x l :=
  ⟨hr.1.ext bs ts, fun bs' ts' => by rw [hx_hx]; exact hr.2 _ _⟩
theorem LsW.vsl (h : AHeap) (c : Bool) (l : List W64) : LsW h (.vsl c (eW l)) l := ⟨RdW.vsl h c l, fun bs ts => by simp only [elemsA]⟩
theorem LsW.sA {h : AHeap} {bs : List (List AVal)} (ts : List Nat) (i n : Nat) (cap : Option Nat) (l : List W64) (hl : l.length = n) (hb : bs[i]? = some (cW l)) : LsW (hx h bs ts) (sA h.blks.length i 0 1 n cap) l := by
  refine ⟨RdW.sA ts i n cap l hl hb, fun bs' ts' => ?_⟩
  rw [hx_hx]
  exact elems_sW h (bs ++ bs') (ts ++ ts') i n cap l (by rw [List.getElem?_append_left (List.getElem?_eq_some_iff.1 hb).1]; exact hb) hl
/-- What is handed to a call is a value that the call may hand back. -/
def Old (nb nt : Nat) (x : AVal) : Prop := ∀ (h : AHeap) (n : Nat), frz h nb nt (n + 1) x = some x
theorem Old.sl (nb nt b off sz m : Nat) (cap : Option Nat) (hb : b < nb) : Old nb nt (.sl b off sz m cap) := fun h n => frz_sOld h nb nt n b off sz m cap (by simpa using hb)
theorem extK0 (a : AVal) (l : List AVal) : extK 0 (.tup (a :: l)) = some a := rfl
theorem extK1 (a b : AVal) (l : List AVal) : extK 1 (.tup (a :: b :: l)) = some b := rfl
theorem mx_int (k : IntKind) (a b : Nat) : foldA true (.int k (a : Int)) [.int k (b : Int)] = some (.int k ((max a b : Nat) : Int)) := by
  simp only [foldA, maxA, bind, Option.bind_some]
  by_cases hab : a < b
  · have h1 : ((b : Int) > (a : Int)) := by omega
    simp only [if_true, if_pos h1, show max a b = b by omega]
  · have h1 : ¬ ((b : Int) > (a : Int)) := by omega
    simp only [if_true, if_neg h1, show max a b = a by omega]
theorem iadr_wr (n i off len k : Nat) (cap : Option Nat) (h : decide (k < len) = true) : iadrA none 1 (sA n i off 1 len cap) (.int .i64 (k : Int)) = some (pA n i (off + k)) := by
  have := iadr_sA n i off 1 len k cap .i64 h
  rwa [Nat.mul_one] at this
theorem fzA_sA (h : AHeap) (bs : List (List AVal)) (ts : List Nat) (i n : Nat) (cap : Option Nat) (k : IntKind) (l : List Int) (hb : bs[i]? = some (cI k l)) (hl : l.length = n) :
    fzA (hx h bs ts) (sA h.blks.length i 0 1 n cap) = some (.vsl false (eI k l), true) := by
  have he := elems_sA h bs ts i n (cI k l) cap hb (by simpa using hl)
  rw [eI_cells] at he
  simp only [sA] at he ⊢
  simp only [fzA, he, bind, Option.bind_some]
@[simp] theorem endU_cW (h : AHeap) (l : List W64) : endU true (some (.agg (cW l), h)) = some (.agg (cW l), h) := endU_true h _ (cW_flat l)
theorem endR_flat {m : Mode} {h : AHeap} {n : Nat} {res : List ARes} {as : List AVal} {r : Option (AEx × Fr × AHeap)} {v : AVal} {h' : AHeap} (h1 : endR m h n res as false r = some (v, h')) (hv : v.flat = true) : endR m h n res as true r = some (v, h') := by
  unfold endR endG endT at h1 ⊢
  cases r with
  | none => exact h1
  | some r =>
    simp only [Option.bind_some] at h1 ⊢
    split at h1
    · rename_i hc
      rw [if_pos hc]
      cases hr : resA r.2.1 r.2.2 res with
      | none => rw [hr] at h1; exact h1
      | some vs =>
        rw [hr] at h1
        simp only [Option.bind_some] at h1 ⊢
        rw [endU_false] at h1
        rw [h1, endU_true _ _ hv]
    · cases h1
end Go.Av

namespace Go.Av
set_option linter.unusedVariables false
set_option linter.unusedSimpArgs false
def onceX : ExtF := ⟨fun L args h => match args with
  | [.ptr b off, .fn (.func f) first cap] => (h.blks[b]?).bind fun cs => match cs[off]?, cs[off + 1]? with
    | some (.int .u32 d), some (.int .i32 m) => if d ≠ 0 then some (.inl (.tup [], h)) else if m = 0 ∧ L.rob ≤ b then some (.inr (f, first ++ cap, { h with blks := h.blks.set b (setAt cs (off + 1) [.int .i32 1]) })) else none
    | _, _ => none
  | _ => none,
  fun args _ h => match args with
  | [.ptr b off, .fn _ _ _] => (h.blks[b]?).bind fun cs => match cs[off]?, cs[off + 1]? with
    | some (.int .u32 d), some (.int .i32 m) => if d = 0 ∧ m = 1 then some (.tup [], { h with blks := h.blks.set b (setAt (setAt cs off [.int .u32 1]) (off + 1) [.int .i32 0]) }) else none
    | _, _ => none
  | _ => none⟩
/-- What is asked of the program. -/
structure OnceOk (P : Program) (D : FuncId) : Prop where
  enter : ∀ (args : Array Value) (w : World), (callFunc D args).run P w = .ok (.enter D args) w
  first : ∀ (b off : Nat) (fi : FuncId) (first cap : Array Value) (w : World) (Q : World → Prop), w.cell? ⟨b, off, none⟩ = some (.int .u32 0) → w.cell? ⟨b, off + 1, none⟩ = some (.int .i32 0) →
    w.frozen? ⟨b, off, none⟩ = false → w.frozen? ⟨b, off + 1, none⟩ = false →
    (∀ (o : Oper) (a : Act) (K : Act → World → Prop) (R : Exit → Act → World → Prop), (∀ cv w2, Q w2 → K (a.put o.dst cv) w2) →
      Oper.upon P o a K R (Sem.run P (callFunc fi (first ++ cap)) (w.setCell ⟨b, off + 1, none⟩ (.int .i32 1)))) →
    (∀ w2, Q w2 → w2.cell? ⟨b, off, none⟩ = some (.int .u32 0) ∧ w2.cell? ⟨b, off + 1, none⟩ = some (.int .i32 1) ∧ w2.frozen? ⟨b, off, none⟩ = false ∧ w2.frozen? ⟨b, off + 1, none⟩ = false) →
    Calls P D #[.pointer (some ⟨b, off, none⟩), .func (.func fi) first cap] w fun e w' => e = .returned (.tuple #[]) ∧
      ∃ w2, Q w2 ∧ w' = (w2.drew.setCell ⟨b, off, none⟩ (.int .u32 1)).setCell ⟨b, off + 1, none⟩ (.int .i32 0)
  done : ∀ (a : Addr) (d : Int), ¬ d = 0 → ∀ (fv : Value) (w : World), w.cell? a = some (.int .u32 d) → Calls P D #[.pointer (some a), fv] w fun e w' => e = .returned (.tuple #[]) ∧ w' = w
section
variable {C : Ctx} {P : Program} {D : FuncId}
theorem cell_of {s : St} (hs : Sim C s) {b X o : Nat} {cs : List AVal} {k : IntKind} {n : Int} (hb : s.mb[b]? = some X) (hc : s.h.blks[b]? = some cs) (ho : cs[o]? = some (.int k n)) :
    s.w.cell? ⟨X, o, none⟩ = some (.int k n) ∧ s.w.frozen? ⟨X, o, none⟩ = false := by
  obtain ⟨vs, e, fz, q1, q2, q3, q4⟩ := hs.blk b X cs hb hc
  obtain ⟨_, v, h1, h2⟩ := q4 o _ ho
  obtain rfl := rep_int h2
  have hlt : o < vs.size := (Array.getElem?_eq_some_iff.1 h1).1
  refine ⟨by simp [World.cell?, q1, h1], ?_⟩
  have := q3.un hlt
  simp only [World.frozen?, q1]
  simp only [Bool.and_eq_false_iff, decide_eq_false_iff_not]
  omega
theorem repL_2 {s : St} {a b : AVal} {vs : Array Value} (h : RepL s [a, b] vs.toList) : ∃ x y, vs = #[x, y] ∧ Rep s a x ∧ Rep s b y := by
  obtain ⟨l⟩ := vs
  simp only at h
  cases h with
  | cons _ x _ l1 h1 h =>
    cases h with
    | cons _ y _ l2 h2 h =>
      cases h
      exact ⟨x, y, rfl, h1, h2⟩
theorem once_inl (hO : OnceOk P D) {L : Lim} {args : List AVal} {h : AHeap} {v : AVal} {h' : AHeap} (hp : onceX.pre L args h = some (.inl (v, h'))) : CallOk C P L D args h v h' := by
  unfold onceX at hp
  simp only at hp
  split at hp
  · rename_i b off f first cap
    obtain ⟨cs, hcs, hp⟩ := Option.bind_eq_some_iff.1 hp
    split at hp
    · rename_i d m hd hm
      split at hp
      · rename_i hnz
        simp only [Option.some.injEq, Sum.inl.injEq, Prod.mk.injEq] at hp
        obtain ⟨rfl, rfl⟩ := hp
        refine ⟨AInv.refl L h, fun s cargs hh hs hL hrep => ?_⟩
        subst hh
        obtain ⟨x, y, rfl, h1, h2⟩ := repL_2 hrep
        cases h1 with
        | ptr _ _ X hX =>
          obtain ⟨c1, c2⟩ := cell_of hs hX hcs hd
          refine ⟨.enter D _, s.w, hO.enter _ _, .inr ⟨D, _, rfl, ?_⟩⟩
          refine (hO.done _ d hnz y s.w c1).mono fun e w' he => ?_
          obtain ⟨rfl, rfl⟩ := he
          exact Good.same hs (.tup [] #[] .nil)
      · split at hp <;> simp at hp
    · simp at hp
  · simp at hp
theorem setCells_one (w : World) (X o : Nat) (v : Value) : w.setCells X o [v] = w.setCell ⟨X, o, none⟩ v := rfl
theorem once_inr (hO : OnceOk P D) {L : Lim} {args : List AVal} {h : AHeap} {f1 : FuncId} {bs : List AVal} {h1 : AHeap} (hp : onceX.pre L args h = some (.inr (f1, bs, h1)))
    {v1 : AVal} {h2 : AHeap} {v : AVal} {h' : AHeap} (hk : CallOk C P L f1 bs h1 v1 h2) (hq : onceX.post args v1 h2 = some (v, h')) : CallOk C P L D args h v h' := by
  unfold onceX at hp hq
  simp only at hp hq
  split at hp
  · rename_i b off f first cap
    obtain ⟨cs, hcs, hp⟩ := Option.bind_eq_some_iff.1 hp
    split at hp
    · rename_i d m hd hm
      split at hp
      · simp at hp
      · rename_i hz
        have hd0 : d = 0 := by omega
        subst hd0
        split at hp
        · rename_i hmr
          obtain ⟨hm0, hrob⟩ := hmr
          subst hm0
          simp only [Option.some.injEq, Sum.inr.injEq, Prod.mk.injEq] at hp
          obtain ⟨rfl, rfl, rfl⟩ := hp
          simp only at hq
          obtain ⟨cs2, hcs2, hq⟩ := Option.bind_eq_some_iff.1 hq
          split at hq
          · rename_i d2 m2 hd2 hm2
            split at hq
            · rename_i hc2
              obtain ⟨hd2z, hm2z⟩ := hc2
              subst hd2z hm2z
              obtain ⟨rfl, rfl⟩ : AVal.tup [] = v ∧ _ = h' := by simpa using hq
              have hof1 : off + 1 < cs.length := (List.getElem?_eq_some_iff.1 hm).1
              have hof2 : off + 1 < cs2.length := (List.getElem?_eq_some_iff.1 hm2).1
              have st1 : storeA L h (.ptr b (off + 1)) [.int .i32 1] = some { h with blks := h.blks.set b (setAt cs (off + 1) [.int .i32 1]) } := by
                simp only [storeA, hcs, Option.bind_some]
                rw [if_pos ⟨hrob, by simp; omega, .inr rfl⟩]
              have st2 : storeA L h2 (.ptr b off) [.int .u32 1] = some { h2 with blks := h2.blks.set b (setAt cs2 off [.int .u32 1]) } := by
                simp only [storeA, hcs2, Option.bind_some]
                rw [if_pos ⟨hrob, by simp; omega, .inr rfl⟩]
              have hblt : b < h2.blks.length := (List.getElem?_eq_some_iff.1 hcs2).1
              have st3 : storeA L { h2 with blks := h2.blks.set b (setAt cs2 off [.int .u32 1]) } (.ptr b (off + 1)) [.int .i32 0] = some { h2 with blks := h2.blks.set b (setAt (setAt cs2 off [.int .u32 1]) (off + 1) [.int .i32 0]) } := by
                simp only [storeA]
                rw [List.getElem?_set_self hblt]
                simp only [Option.bind_some]
                rw [if_pos ⟨hrob, by simp; omega, .inr rfl⟩]
                simp
              refine ⟨((storeA_inv st1).trans hk.1).trans ((storeA_inv st2).trans (storeA_inv st3)), fun s cargs hh hs hL hrep => ?_⟩
              subst hh
              obtain ⟨x, y, rfl, hx, hy⟩ := repL_2 hrep
              cases hx with
              | ptr _ _ X hX =>
                cases hy with
                | fn _ _ _ fa ca hfa hca =>
                  obtain ⟨c1, z1⟩ := cell_of hs hX hcs hd
                  obtain ⟨c2, z2⟩ := cell_of hs hX hcs hm
                  have hqb : s.qb ≤ b := Nat.le_trans hL.b hrob
                  have g1 := store_good (P := P) hs (off := off + 1) (cs := [.int .i32 1]) (vs := [.int .i32 1]) hqb hX hcs (by simp; omega) (.cons _ _ _ _ (.int ..) .nil) (by simp [AVal.isCell])
                  obtain ⟨_, hs1, hl1⟩ := g1
                  rw [setCells_one] at hs1 hl1
                  refine ⟨.enter D _, s.w, hO.enter _ _, .inr ⟨D, _, rfl, ?_⟩⟩
                  let s1 : St := { s with w := s.w.setCell ⟨X, off + 1, none⟩ (.int .i32 1), h := { s.h with blks := s.h.blks.set b (setAt cs (off + 1) [.int .i32 1]) } }
                  have hs1' : Sim C s1 := hs1
                  have hl1' : Le s s1 := hl1
                  have hcell : ∀ s2 : St, s2.h = h2 → Sim C s2 → Le s1 s2 → s2.w.cell? ⟨X, off, none⟩ = some (.int .u32 0) ∧ s2.w.cell? ⟨X, off + 1, none⟩ = some (.int .i32 1) ∧ s2.w.frozen? ⟨X, off, none⟩ = false ∧ s2.w.frozen? ⟨X, off + 1, none⟩ = false := by
                    intro s2 e2 hs2 hl2
                    have hX2 : s2.mb[b]? = some X := hl2.mb b X (hl1'.mb b X hX)
                    have hb2 : s2.h.blks[b]? = some cs2 := by rw [e2]; exact hcs2
                    obtain ⟨a1, a2⟩ := cell_of hs2 hX2 hb2 hd2
                    obtain ⟨a3, a4⟩ := cell_of hs2 hX2 hb2 hm2
                    exact ⟨a1, a3, a2, a4⟩
                  refine (hO.first X off f fa ca s.w (fun w2 => ∃ s2 : St, s2.w = w2 ∧ s2.h = h2 ∧ Sim C s2 ∧ Le s1 s2) c1 c2 z1 z2 ?_ ?_).mono fun e w' he => ?_
                  · intro o a K R hK
                    obtain ⟨nx, w1, hrun, hcase⟩ := hk.2 s1 (fa ++ ca) rfl hs1' (hL.le hl1' hs hs1') (by rw [Array.toList_append]; exact (hfa.le hl1').append (hca.le hl1'))
                    have hrun' : (callFunc f (fa ++ ca)).run P (s.w.setCell ⟨X, off + 1, none⟩ (.int .i32 1)) = .ok nx w1 := hrun
                    rw [hrun']
                    rcases hcase with ⟨cv, h3, h4⟩ | ⟨f', args', rfl, h3⟩
                    · obtain ⟨s2, e1, e2, e3, e4, e5⟩ := h4
                      rcases h3 with rfl | ⟨rfl, rfl⟩
                      · exact hK _ _ ⟨s2, e1, e2, e3, e4⟩
                      · exact hK _ _ ⟨s2, e1, e2, e3, e4⟩
                    · rw [Oper.upon_enter]
                      refine Calls.mono h3 fun e w'' he => ?_
                      cases e with
                      | returned cv =>
                        obtain ⟨s2, e1, e2, e3, e4, e5⟩ := he
                        exact hK _ _ ⟨s2, e1, e2, e3, e4⟩
                      | panicked _ => exact he.elim
                      | outgrown => exact he.elim
                  · rintro w2 ⟨s2, rfl, e2, e3, e4⟩
                    exact hcell s2 e2 e3 e4
                  · obtain ⟨rfl, w2, ⟨s2, rfl, e2, e3, e4⟩, rfl⟩ := he
                    have hX2 : s2.mb[b]? = some X := e4.mb b X (hl1'.mb b X hX)
                    have hqb2 : s2.qb ≤ b := by rw [e4.qb, hl1'.qb]; exact hqb
                    have hy : Ext s2.w s2.w.drew := ⟨rfl, rfl, rfl, Nat.le_refl _, fun _ _ => rfl⟩
                    have hs3 := ext_sim e3 s2.w.drew hy
                    have hl3 := ext_le s2 s2.w.drew hy
                    have hb2 : s2.h.blks[b]? = some cs2 := by rw [e2]; exact hcs2
                    have g2 := store_good (P := P) hs3 (off := off) (cs := [.int .u32 1]) (vs := [.int .u32 1]) hqb2 hX2 hb2 (by simp; omega) (.cons _ _ _ _ (.int ..) .nil) (by simp [AVal.isCell])
                    obtain ⟨_, hs4, hl4⟩ := g2
                    rw [setCells_one] at hs4 hl4
                    have hblt2 : b < s2.h.blks.length := (List.getElem?_eq_some_iff.1 hb2).1
                    have g3 := store_good (P := P) hs4 (off := off + 1) (cs := [.int .i32 0]) (vs := [.int .i32 0]) hqb2 hX2 (List.getElem?_set_self hblt2) (by simp; omega) (.cons _ _ _ _ (.int ..) .nil) (by simp [AVal.isCell])
                    obtain ⟨_, hs5, hl5⟩ := g3
                    rw [setCells_one] at hs5 hl5
                    refine ⟨_, rfl, ?_, hs5, hl1'.trans (e4.trans (hl3.trans (hl4.trans hl5))), .tup [] #[] .nil⟩
                    simp only [List.set_set, e2, setAt_one]
            · simp at hq
          · simp at hq
        · simp at hp
    · simp at hp
  · simp at hp
end
end Go.Av

namespace Go.Av
set_option linter.unusedVariables false
set_option linter.unusedSimpArgs false
noncomputable section
variable (C : Ctx) (L : Lim) (fr : Fr) (h : AHeap)
def methQ (m : Option (List (Nat × Nat × Bool) × FuncId)) (v : AVal) (as : List AVal) : Option AVal := match m with
  | some (path, f) => match methFollow path v with
    | some r => fstR (quietMode C f) (acall C L f (r :: as) h)
    | none => none
  | none => none
@[simp] theorem methQ_own (f : FuncId) (v : AVal) (as : List AVal) : methQ C L h (some ([], f)) v as = fstR (quietMode C f) (acall C L f (v :: as) h) := rfl
def rinvR (x : AVal) (name : String) (as : List AVal) : Option AVal := match x with
  | .iface t v => methQ C L h (C.meth t name) v as
  | _ => none
@[simp] theorem rinvR_iface (t : TypeId) (v : AVal) (name : String) (as : List AVal) : rinvR C L h (.iface t v) name as = methQ C L h (C.meth t name) v as := rfl
@[simp] theorem stepR_inv (x : AO) (name : String) (as : List AO) : stepR C L (.inv x name as) fr h = rinvR C L h (C.ev fr x) name (as.map (C.ev fr)) := by
  rw [stepR.eq_def]
  simp only [rinvR, methQ, fstR]
  generalize C.ev fr x = v
  cases v <;> try rfl
  rename_i t v
  simp only
  cases C.meth t name with
  | none => rfl
  | some q =>
    simp only
    cases methFollow q.1 v with
    | none => rfl
    | some r =>
      simp only
      split
      · cases acall C L q.2 (r :: as.map (C.ev fr)) h <;> rfl
      · rfl
end
def mkcK (h : AHeap) (sz : Nat) (zero : List AVal) : AVal → AVal → Option (AVal × AHeap)
  | .int _ n, .int _ m => if 0 ≤ n ∧ n ≤ m ∧ m < maxRoom then some (.sl h.blks.length 0 sz n.toNat (some m.toNat), push h (rep zero m.toNat)) else none
  | _, _ => none
@[simp] theorem copA_mkc (C : Ctx) (L : Lim) (fr : Fr) (h : AHeap) (sz : Nat) (z : List AVal) (x y : AO) : copA C L fr h (.mkc sz z x y) = mkcK h sz z (C.ev fr x) (C.ev fr y) := by
  simp only [copA]
  cases C.ev fr x <;> cases C.ev fr y <;> rfl
theorem mkcK_zero (h : AHeap) (bs : List (List AVal)) (ts : List Nat) (sz : Nat) (z : List AVal) (k k' : IntKind) (m : Int) (hc : (decide (0 ≤ m) && decide (m < maxRoom)) = true) :
    mkcK (hx h bs ts) sz z (.int k 0) (.int k' m) = some (sA h.blks.length bs.length 0 sz 0 (some m.toNat), hx h (bs ++ [rep z m.toNat]) ts) := by
  simp only [Bool.and_eq_true, decide_eq_true_eq] at hc
  unfold mkcK
  simp only [if_pos (show (0 : Int) ≤ 0 ∧ 0 ≤ m ∧ m < maxRoom from ⟨Int.le_refl _, hc.1, hc.2⟩)]
  simp [sA, hx, push]
/-- Where there is room, a list grows in place. -/
theorem appK_room (L : Lim) (h : AHeap) (bs : List (List AVal)) (ts : List Nat) (i off n c : Nat) (k : IntKind) (l m : List Int) (cl : Bool) (hb : bs[i]? = some (cI k l))
    (hm : 0 < m.length) (hc : n + m.length ≤ c) (hl : off + n + m.length ≤ l.length) (hL : L.rob ≤ h.blks.length) :
    appK L (hx h bs ts) 1 false (sA h.blks.length i off 1 n (some c)) (.vsl cl (eI k m)) = some (sA h.blks.length i off 1 (n + m.length) (some c), hx h (bs.set i (cI k (putAt l (off + n) m))) ts) := by
  have hs := storeA_fl h bs ts L i (off + n) (cI k m) (by simp [hL])
  rw [hb] at hs
  simp only [stO_some, cI_len] at hs
  rw [decide_eq_true (by omega), stI_true, setAt_cI _ _ _ _ (by omega)] at hs
  have hne : ¬ (c = n ∧ True) := fun q => by omega
  simp only [appK, elems_vsl, Option.bind_some, strOk_one, if_true, appA, eI_szOk, sA]
  rw [if_neg hne, if_pos ⟨trivial, by simpa using hc⟩, eI_flat, Nat.mul_one]
  simp only [pA] at hs
  rw [hs]
  simp
theorem appK_roomW (L : Lim) (h : AHeap) (bs : List (List AVal)) (ts : List Nat) (i off n c : Nat) (l m : List W64) (cl : Bool) (hb : bs[i]? = some (cW l))
    (hm : 0 < m.length) (hc : n + m.length ≤ c) (hl : off + n + m.length ≤ l.length) (hL : L.rob ≤ h.blks.length) :
    appK L (hx h bs ts) 1 false (sA h.blks.length i off 1 n (some c)) (.vsl cl (eW m)) = some (sA h.blks.length i off 1 (n + m.length) (some c), hx h (bs.set i (cW (putAt l (off + n) m))) ts) := by
  rw [cW_nats] at hb
  have := appK_room L h bs ts i off n c .u64 (nats l) (nats m) cl hb (by simpa using hm) (by simpa using hc) (by simpa using hl) hL
  rw [eW_nats, this]
  have e : nats (putAt l (off + n) m) = putAt (nats l) (off + n) (nats m) := by simp [putAt, nats]
  rw [cW_nats, e]
  simp
theorem call_once_done {C : Ctx} {L : Lim} {f g : FuncId} {h : AHeap} {bs : List (List AVal)} {ts : List Nat} {i off : Nat} {cs first cap : List AVal} {d m : Int} (hx' : C.ext f = some onceX) (hb : bs[i]? = some cs)
    (h1 : cs[off]? = some (.int .u32 d)) (h2 : cs[off + 1]? = some (.int .i32 m)) (hd : d ≠ 0) :
    acall C L f [pA h.blks.length i off, .fn (.func g) first cap] (hx h bs ts) = some (.tup [], hx h bs ts) := by
  rw [acall_ext C L _ hx']
  simp only [onceX, pA, hx_blk ts hb, Option.bind_some, h1, h2]
  rw [if_pos hd]
  rfl
theorem call_once_first {C : Ctx} {L : Lim} {f g : FuncId} {h : AHeap} {bs bs2 : List (List AVal)} {ts ts2 : List Nat} {i off : Nat} {cs cs2 first cap : List AVal} {v : AVal} (hx' : C.ext f = some onceX) (hb : bs[i]? = some cs)
    (h1 : cs[off]? = some (.int .u32 0)) (h2 : cs[off + 1]? = some (.int .i32 0)) (hL : L.rob ≤ h.blks.length)
    (hg : acall C L g (first ++ cap) (hx h (bs.set i (cs.set (off + 1) (.int .i32 1))) ts) = some (v, hx h bs2 ts2)) (hb2 : bs2[i]? = some cs2)
    (h3 : cs2[off]? = some (.int .u32 0)) (h4 : cs2[off + 1]? = some (.int .i32 1)) :
    acall C L f [pA h.blks.length i off, .fn (.func g) first cap] (hx h bs ts) = some (.tup [], hx h (bs2.set i ((cs2.set off (.int .u32 1)).set (off + 1) (.int .i32 0))) ts2) := by
  rw [acall_ext C L _ hx']
  have hs : ∀ (bs : List (List AVal)) (ts : List Nat) (x : List AVal), ({ hx h bs ts with blks := (hx h bs ts).blks.set (h.blks.length + i) x } : AHeap) = hx h (bs.set i x) ts := fun bs ts x => by
    simp only [hx]
    rw [List.set_append_right _ _ (Nat.le_add_right _ _), Nat.add_sub_cancel_left]
  simp only [onceX, pA, hx_blk ts hb, Option.bind_some, h1, h2]
  rw [if_neg (by decide), if_pos ⟨trivial, by omega⟩]
  simp only [Option.bind_some, setAt_one]
  rw [hs, hg]
  simp only [Option.bind_some, hx_blk ts2 hb2, h3, h4, setAt_one]
  rw [if_pos ⟨trivial, trivial⟩, hs]
end Go.Av

namespace Go.Av
set_option maxHeartbeats 1000000
set_option linter.unusedVariables false
set_option linter.unusedSimpArgs false
def cloC0 : AC := .reg [iv 2 (.mv (.k (.nsl)))]
def cloC1 : AC := .cond (.t 4) (.seq (.reg [iv 2 (.mv (.k (.nsl)))]) (.ret)) (.skip)
def cloC (sz : Nat) (z : List AVal) : AC := .seq (.reg [iv 5 (.slit sz 0 z []), iv 6 (.mv (.t 0)), ic 7 (.app sz false (.t 5) (.t 6)), iv 2 (.mv (.t 7))]) (.ret)
def cloF (sz : Nat) (z : List AVal) : AFn := ⟨8, cloC sz z, [.tmp 2], some (cloC0, 3, 4, cloC1)⟩
theorem appK_c2 {L : Lim} {h : AHeap} {sz : Nat} {y : AVal} {ys : List (List AVal)} (hy : elemsA h sz y = some ys) (hstr : strOk sz y = true) (hsz : szOk sz ys = true) (hr : L.rot ≤ h.toks.length) (hroom : ys.length < maxRoom) :
    appK L h sz false (.vsl true []) y = some (gL (.vsl true []) h.toks.length 0 ys, hx h [] (gT ys)) := by
  have := appK_gL (L := L) (h := h) (bs := []) (sz := sz) (s := .vsl true []) (y := y) (es := []) (ys := ys) (.inr rfl) (by rw [show gT [] = [] from rfl, hx_nil]; exact hy) hstr hsz rfl hr (by simpa using hroom)
  rw [show gL (.vsl true []) h.toks.length 0 [] = .vsl true [] from rfl, show gT [] = [] from rfl, List.nil_append, hx_nil] at this
  exact this
theorem slit0 (sz : Nat) (z : List AVal) : fillA (rep z 0) [] = some [] := rfl
theorem frz_gL0 (hh : AHeap) (nb nt m : Nat) (es : List (List AVal)) (hu : underLL nb nt es = true) : frz hh nb nt (m + 1) (gL (.vsl true []) nt 0 es) = some (.vsl false es) := frz_gL (.inr rfl) hu
theorem clone_ok {C : Ctx} {L : Lim} {h : AHeap} {f : FuncId} {sz : Nat} {z : List AVal} (hx1 : C.ext f = none) (hm : C.mode f = roM) (hf : C.fns f = some (cloF sz z)) (x : AVal) (es : List (List AVal)) (he : elemsA h sz x = some es) (hs : strOk sz x = true)
    (hn : ∃ nb, isNilA x = some nb) (hz : szOk sz es = true) (hu : underLL h.blks.length h.toks.length es = true) (hroom : es.length < maxRoom) : acall C L f [x] h = some (.vsl false es, h) := by
  obtain ⟨nb, hn⟩ := hn
  have hap := appK_c2 (L := limP h) he hs hz (Nat.le_refl _) hroom
  have hg := fun hh m => frz_gL0 hh h.blks.length h.toks.length m es hu
  have hch : chunks sz 0 [] = [] := rfl
  have hfl := slit0 sz z
  have hlast : ∀ fr : Fr, fr 0 = x → ∃ fr', run C (limP h) (cloC sz z) fr h = some (.ret, fr', hx h [] (gT es)) ∧ fr' 2 = gL (.vsl true []) h.toks.length 0 es := fun fr h0 => by
    simp -implicitDefEqProofs [cloC, h0, hfl, hch, hap]
  have hfin : ∀ (fr' : Fr), fr' 2 = gL (.vsl true []) h.toks.length 0 es → finA roM (cloF sz z) ([x], false) h (.ret, fr', hx h [] (gT es)) = some (.vsl false es, h) := fun fr' h2 => by
    simp -implicitDefEqProofs [finA, cloF, resA, h2, hg, tupA, pairM]
  rw [acall.eq_def]
  simp only [hx1, hf, hm, bind, Option.bind_some, argsA_ro, limOf_ro]
  have hq : (cloF sz z).pre = some (cloC0, 3, 4, cloC1) := rfl
  have hc : (cloF sz z).code = cloC sz z := rfl
  simp only [hq, hc]
  have r0 : run C (limP h) cloC0 (fun i => [x].getD i undefA) h = some (.normal, upd (fun i => [x].getD i undefA) 2 .nsl, h) := by simp [cloC0]
  rw [r0]
  simp only [Option.bind_some, if_true]
  have hx0 : upd (fun i => [x].getD i undefA) 2 .nsl 0 = x := rfl
  rw [hx0, hn]
  simp only [Option.bind_some]
  have rF : run C (limP h) cloC1 (preF (cloC0, 3, 4, cloC1) (upd (fun i => [x].getD i undefA) 2 .nsl) false) h = some (.normal, preF (cloC0, 3, 4, cloC1) (upd (fun i => [x].getD i undefA) 2 .nsl) false, h) := by
    simp [cloC1, preF, upd]
  have rT : run C (limP h) cloC1 (preF (cloC0, 3, 4, cloC1) (upd (fun i => [x].getD i undefA) 2 .nsl) true) h = some (.ret, upd (preF (cloC0, 3, 4, cloC1) (upd (fun i => [x].getD i undefA) 2 .nsl) true) 2 .nsl, h) := by
    simp [cloC1, preF, upd]
  obtain ⟨fr', hl1, hl2⟩ := hlast (preF (cloC0, 3, 4, cloC1) (upd (fun i => [x].getD i undefA) 2 .nsl) false) rfl
  have hnilfin : ∀ fr : Fr, fr 2 = .nsl → finA roM (cloF sz z) ([x], false) h (.ret, fr, h) = some (.vsl false [], h) := fun fr h2 => by
    have hfz : ∀ (hh : AHeap) nb nt m, frz hh nb nt (m + 1) .nsl = some (.vsl false []) := fun hh nb nt m => by simp [frz]
    simp -implicitDefEqProofs [finA, cloF, resA, h2, tupA, pairM, hfz]
  cases nb with
  | some b =>
    cases b with
    | true =>
      have hxn : x = .nsl := by
        unfold isNilA at hn
        split at hn
        · rename_i b hb
          obtain rfl := Option.some.inj (Option.some.inj hn)
          unfold eqA at hb
          split at hb <;> first | rfl | simp_all
        · split at hn <;> simp at hn
      subst hxn
      have hes : es = [] := by simpa [elemsA] using he.symm
      subst hes
      simp only [rT, Option.bind_some]
      exact hnilfin _ (by simp [upd])
    | false =>
      simp only [rF, Option.bind_some, hl1]
      exact hfin _ hl2
  | none =>
    have hxn : ∃ c, x = .vsl c [] := by
      unfold isNilA at hn
      split at hn
      · simp at hn
      · split at hn
        · exact ⟨_, rfl⟩
        · simp at hn
    obtain ⟨c, rfl⟩ := hxn
    have hes : es = [] := by simpa [elemsA] using he.symm
    subst hes
    simp only [rT, rF, Option.bind_some, and_self, if_true, hl1]
    have e1 := hnilfin (upd (preF (cloC0, 3, 4, cloC1) (upd (fun i => [AVal.vsl c []].getD i undefA) 2 .nsl) true) 2 .nsl) (by simp [upd])
    have e2 := hfin _ hl2
    rw [if_pos (by rw [hm]; exact e1.trans e2.symm)]
    exact e2
theorem nil_vsl (c : Bool) (es : List (List AVal)) : ∃ nb, isNilA (.vsl c es) = some nb := by cases es <;> exact ⟨_, rfl⟩
theorem nil_sl (b off sz n : Nat) (cap : Option Nat) : ∃ nb, isNilA (.sl b off sz n cap) = some nb := ⟨_, rfl⟩
end Go.Av

namespace Go.Av
open Go.RowKit
set_option linter.unusedVariables false
set_option linter.unusedSimpArgs false
def hexT : List UInt8 := [48, 49, 50, 51, 52, 53, 54, 55, 56, 57, 97, 98, 99, 100, 101, 102]
def hexB (x : Nat) : List UInt8 := [hexT.getD (x / 16) 0, hexT.getD (x % 16) 0]
def ansT (a : Int × List Nat) : List UInt8 := Lib.itoa a.1 ++ (if a.2 = [] then [] else [32]) ++ a.2.flatMap hexB ++ [10]
def textT (l : List (Int × List Nat)) : List UInt8 := l.flatMap ansT
def BytesAt (w : World) (v : Value) (l : List Nat) : Prop :=
  ∃ a c, v = .slice a l.length c ∧ l.length ≤ c ∧ ∀ (i x : Nat), l[i]? = some x → x < 256 ∧ ∃ X o, a = some ⟨X, o, none⟩ ∧ w.cell? ⟨X, o + i, none⟩ = some (.int .u8 x)
def AnsAt (w : World) (v : Value) (l : List (Int × List Nat)) : Prop :=
  ∃ a c, v = .slice a l.length c ∧ l.length ≤ c ∧ ∀ (i : Nat) (x : Int × List Nat), l[i]? = some x → -9223372036854775808 ≤ x.1 ∧ x.1 ≤ 9223372036854775807 ∧
    ∃ X o v, a = some ⟨X, o, none⟩ ∧ w.cell? ⟨X, o + i * 2, none⟩ = some (.int .i64 x.1) ∧ w.cell? ⟨X, o + i * 2 + 1, none⟩ = some v ∧ BytesAt w v x.2
def natA : List AVal → Option Nat
  | [.int .u8 n] => if 0 ≤ n ∧ n < 256 then some n.toNat else none
  | _ => none
def ansA (h : AHeap) : List AVal → Option (Int × List Nat)
  | [.int .i64 n, d] => if -9223372036854775808 ≤ n ∧ n ≤ 9223372036854775807 ∧ strOk 2 d = true then (elemsA h 1 d).bind fun ds => if szOk 1 ds = true then (ds.mapM natA).map fun l => (n, l) else none else none
  | _ => none
def textX : ExtF := ⟨fun _ args h => match args with
  | [x] => if strOk 2 x = true then (elemsA h 2 x).bind fun es => if szOk 2 es = true then (es.mapM (ansA h)).bind fun l => if l.length ≤ 1000 ∧ (∀ a ∈ l, a.2.length ≤ 1000) then some (.inl (.str ⟨(textT l).toArray⟩, h)) else none else none else none
  | _ => none, fun _ _ _ => none⟩
theorem mapM_at {α β : Type} {f : α → Option β} {l : List α} {m : List β} (h : l.mapM f = some m) : l.length = m.length ∧ ∀ (i : Nat) (y : β), m[i]? = some y → ∃ x, l[i]? = some x ∧ f x = some y := by
  induction l generalizing m with
  | nil =>
    simp at h; subst h; simp
  | cons a l ih =>
    simp only [List.mapM_cons, Option.bind_eq_bind, Option.bind_eq_some_iff, Option.pure_def, Option.some.injEq] at h
    obtain ⟨y, hy, m', hm, rfl⟩ := h
    obtain ⟨h1, h2⟩ := ih hm
    refine ⟨by simp [h1], fun i z hz => ?_⟩
    cases i with
    | zero => simp at hz; subst hz; exact ⟨a, rfl, hy⟩
    | succ i => simpa using h2 i z (by simpa using hz)
theorem flat_get {sz : Nat} : ∀ {es : List (List AVal)}, (∀ e ∈ es, e.length = sz) → ∀ {i : Nat} {e : List AVal}, es[i]? = some e → ∀ {j : Nat} {x : AVal}, e[j]? = some x → es.flatten[i * sz + j]? = some x
  | [], _, i, e, h, j, x, _ => by simp at h
  | e0 :: es, hl, 0, e, h, j, x, hj => by
    obtain rfl : e0 = e := by simpa using h
    have := (List.getElem?_eq_some_iff.1 hj).1
    rw [List.flatten_cons, Nat.zero_mul, Nat.zero_add, List.getElem?_append_left this]
    exact hj
  | e0 :: es, hl, i + 1, e, h, j, x, hj => by
    have ih := flat_get (es := es) (fun e' he' => hl e' (List.mem_cons_of_mem _ he')) (i := i) (by simpa using h) hj
    have h0 := hl e0 (by simp)
    rw [List.flatten_cons, List.getElem?_append_right (by rw [h0, Nat.succ_mul]; omega)]
    rw [show (i + 1) * sz + j - e0.length = i * sz + j by rw [h0, Nat.succ_mul]; omega]
    exact ih
section
variable {C : Ctx} {s : St}
theorem bytes_at (hs : Sim C s) {d : AVal} {cd : Value} {ds : List (List AVal)} {l : List Nat} (hd : Rep s d cd) (he : elemsA s.h 1 d = some ds) (hz : szOk 1 ds = true) (hst : strOk 2 d = true) (hm : ds.mapM natA = some l) : BytesAt s.w cd l := by
  obtain ⟨hl, hg⟩ := mapM_at hm
  rcases elems_row hs hd he hz with ⟨str, rfl, _, _⟩ | ⟨ad, c, rfl, hc, h⟩
  · simp [strOk] at hst
  · refine ⟨ad, c, by rw [hl], by omega, fun i x hx => ?_⟩
    obtain ⟨e, he1, he2⟩ := hg i x hx
    rcases h with ⟨X, o, rfl, hrow, hlen⟩ | rfl
    · unfold natA at he2
      split at he2
      · rename_i n
        split at he2
        · rename_i hn
          obtain rfl := Option.some.inj he2
          have hfl : ds.flatten[i]? = some (.int .u8 n) := by
            have := flat_get hlen (i := i) (e := [.int .u8 n]) he1 (j := 0) (x := .int .u8 n) rfl
            simpa using this
          obtain ⟨_, v, h1, h2⟩ := hrow i _ hfl
          obtain rfl := rep_int h2
          refine ⟨by omega, X, o, rfl, ?_⟩
          rw [Int.toNat_of_nonneg hn.1]
          exact h1
        · simp at he2
      · simp at he2
    · simp at he1
theorem ans_at (hs : Sim C s) {x : AVal} {cx : Value} {es : List (List AVal)} {l : List (Int × List Nat)} (hx : Rep s x cx) (he : elemsA s.h 2 x = some es) (hz : szOk 2 es = true) (hst : strOk 2 x = true) (hm : es.mapM (ansA s.h) = some l) : AnsAt s.w cx l := by
  obtain ⟨hl, hg⟩ := mapM_at hm
  rcases elems_row hs hx he hz with ⟨str, rfl, _, _⟩ | ⟨ad, c, rfl, hc, h⟩
  · simp [strOk] at hst
  · refine ⟨ad, c, by rw [hl], by omega, fun i y hy => ?_⟩
    obtain ⟨e, he1, he2⟩ := hg i y hy
    rcases h with ⟨X, o, rfl, hrow, hlen⟩ | rfl
    · unfold ansA at he2
      split at he2
      · rename_i n d
        split at he2
        · rename_i hn
          obtain ⟨ds, hd1, he2⟩ := Option.bind_eq_some_iff.1 he2
          split at he2
          · rename_i hzd
            obtain ⟨m, hm2, rfl⟩ := Option.map_eq_some_iff.1 he2
            have f0 := flat_get hlen (i := i) he1 (j := 0) (x := .int .i64 n) rfl
            have f1 := flat_get hlen (i := i) he1 (j := 1) (x := d) rfl
            obtain ⟨_, v0, h1, h2⟩ := hrow _ _ f0
            obtain ⟨_, v1, h3, h4⟩ := hrow _ _ f1
            obtain rfl := rep_int h2
            exact ⟨hn.1, hn.2.1, X, o, v1, rfl, by simpa [World.at] using h1, by simpa [World.at, Nat.add_assoc] using h3, bytes_at hs h4 hd1 hzd hn.2.2 hm2⟩
          · simp at he2
        · simp at he2
      · simp at he2
    · simp at he1
end
theorem tab_is {C : Ctx} {P : Program} {s : St} (hs : Sim C s) {name : String} {g : Nat} {k : IntKind} {zs : List Int} (hg : P.globalNamed name = some g) (hc : C.glob g = some (zs.map fun z => .int k z)) : Lib.TabIs P s.w name k zs := by
  obtain ⟨hr, vs, e, fz, hh, hsz⟩ := hs.glob g _ hc
  unfold Lib.TabIs World.var?
  rw [hg]
  simp only [Option.bind_some, hh, Option.some.injEq]
  apply Array.ext_getElem?
  intro i
  by_cases hi : i < zs.length
  · obtain ⟨v, h1, _, _, h2⟩ := hr.get i (.int k zs[i]) (by simp [hi])
    obtain rfl := rep_int h2
    have : vs[i]? = some (Value.int k zs[i]) := by
      have h1' : s.w.cell? ⟨g, 0 + i, none⟩ = some (Value.int k zs[i]) := h1
      simpa [World.cell?, hh] using h1'
    rw [this]; simp [hi]
  · rw [Array.getElem?_eq_none (by rw [hsz]; simp; omega), Array.getElem?_eq_none (by simp; omega)]
theorem textX_inr {L : Lim} {args : List AVal} {h : AHeap} {q : FuncId × List AVal × AHeap} : textX.pre L args h ≠ some (.inr q) := by
  unfold textX
  simp only
  split
  · split
    · intro e
      obtain ⟨es, _, e⟩ := Option.bind_eq_some_iff.1 e
      split at e
      · obtain ⟨l, _, e⟩ := Option.bind_eq_some_iff.1 e
        split at e <;> simp at e
      · simp at e
    · simp
  · simp
theorem textX_ok {C : Ctx} {P : Program} {f : FuncId} {fn : Func} {g : Nat} (hf : P.funcs[f]? = some fn) (hb : fn.body.isSome = true) (hn : fn.name ≠ "runtime.NumGoroutine")
    (hg : P.globalNamed "internal/strconv.uint64pow10" = some g) (hc : C.glob g = some (Lib.pow10Tab.map fun z => .int .u64 z))
    (hw : ∀ (l : List (Int × List Nat)) (v : Value) (w : World), AnsAt w v l → l.length ≤ 1000 → (∀ x ∈ l, x.2.length ≤ 1000) → Lib.TabIs P w "internal/strconv.uint64pow10" .u64 Lib.pow10Tab → Calls P f #[v] w fun e w' => e = .returned (.string ⟨(textT l).toArray⟩) ∧ Below w.heap.size w w')
    {L : Lim} {args : List AVal} {h : AHeap} {v : AVal} {h' : AHeap} (hp : textX.pre L args h = some (.inl (v, h'))) : CallOk C P L f args h v h' := by
  obtain ⟨x, hb⟩ := Option.isSome_iff_exists.1 hb
  unfold textX at hp
  simp only at hp
  split at hp
  · rename_i a
    split at hp
    · rename_i hst
      obtain ⟨es, he, hp⟩ := Option.bind_eq_some_iff.1 hp
      split at hp
      · rename_i hz
        obtain ⟨l, hm, hp⟩ := Option.bind_eq_some_iff.1 hp
        split at hp
        · rename_i hlim
          simp only [Option.some.injEq, Sum.inl.injEq, Prod.mk.injEq] at hp
          obtain ⟨rfl, rfl⟩ := hp
          refine ⟨AInv.refl L h, fun s cargs hh hs hL hrep => ?_⟩
          subst hh
          obtain ⟨cx, rfl, hx⟩ : ∃ cx, cargs = #[cx] ∧ Rep s a cx := by
            obtain ⟨c⟩ := cargs
            simp only at hrep
            cases hrep with
            | cons _ y _ ys h1 h2 => cases h2; exact ⟨y, rfl, h1⟩
          refine ⟨.enter f _, s.w, enter_run hf hb hn _ _, .inr ⟨f, _, rfl, ?_⟩⟩
          refine (hw l cx s.w (ans_at hs hx he hz hst hm) hlim.1 hlim.2 (tab_is hs hg hc)).mono fun e w' hq => ?_
          obtain ⟨rfl, hb⟩ := hq
          exact Good.ext hs ⟨hb.os, hb.tape, hb.output, hb.size, hb.block⟩ (.str _)
        · simp at hp
      · simp at hp
    · simp at hp
  · simp at hp
end Go.Av

namespace Go.Av
/-- A call of a script: what is done, a type, a number, bytes. -/
structure Cl where
  d : Nat
  t : Nat
  n : Nat
  b : List Nat
inductive StS where
  | done
  | err (c : Nat)
  | call (x : Cl) (r : List Nat)
/-- The first call of bytes, behind n others. -/
def stepS (l : List Nat) (n : Nat) : StS := match l with
  | [] => .done
  | d :: r => if n = 200 then .err 9 else
    if d = 0 then match r with
      | t :: lo :: hi :: q => if q.length < lo + 256 * hi then .err 2 else .call ⟨0, t, 0, q.take (lo + 256 * hi)⟩ (q.drop (lo + 256 * hi))
      | _ => .err 2
    else if d = 1 ∨ d = 2 then match r with
      | lo :: hi :: q => .call ⟨d, 0, lo + 256 * hi, []⟩ q
      | _ => .err 2
    else if d = 3 ∨ d = 4 then .call ⟨d, 0, 0, []⟩ r
    else .err 5
def runS : Nat → List Nat → List Cl → Nat ⊕ List Cl
  | 0, _, acc => .inr acc
  | f + 1, l, acc => match stepS l acc.length with
    | .done => .inr acc
    | .err c => .inl c
    | .call x r => runS f r (acc ++ [x])
/-- The script of bytes, or what is wrong. -/
def decS (l : List Nat) : Nat ⊕ (Nat × List Nat × List Cl) := match l with
  | b :: lo :: hi :: q => if q.length < lo + 256 * hi then .inl 2 else
    match runS (q.length + 1) (q.drop (lo + 256 * hi)) [] with
    | .inl c => .inl c
    | .inr cs => .inr (b, q.take (lo + 256 * hi), cs)
  | _ => .inl 2
end Go.Av

namespace Go.Av
open Go.RowKit
set_option linter.unusedVariables false
set_option linter.unusedSimpArgs false
def nI (l : List Nat) : List Int := l.map fun x : Nat => (x : Int)
def clA (x : Cl) : List AVal := [.int .i64 (x.d : Int), .int .i64 (x.t : Int), .int .i64 (x.n : Int), .vsl false (eI .u8 (nI x.b))]
def decV : Nat ⊕ (Nat × List Nat × List Cl) → AVal
  | .inl c => .tup [.agg [.int .i64 0, .vsl false [], .vsl false []], .int .i64 (c : Int)]
  | .inr (b, p, cs) => .tup [.agg [.int .i64 (b : Int), .vsl false (eI .u8 (nI p)), .vsl false (cs.map clA)], .int .i64 0]
def decX : ExtF := ⟨fun _ args h => match args with
  | [x] => if strOk 2 x = true then (elemsA h 1 x).bind fun es => if szOk 1 es = true then (es.mapM natA).bind fun l => if l.length ≤ 100000 then some (.inl (decV (decS l), h)) else none else none else none
  | _ => none, fun _ _ _ => none⟩
theorem decX_inr {L : Lim} {args : List AVal} {h : AHeap} {q : FuncId × List AVal × AHeap} : decX.pre L args h ≠ some (.inr q) := by
  unfold decX
  simp only
  split
  · split
    · intro e
      obtain ⟨es, _, e⟩ := Option.bind_eq_some_iff.1 e
      split at e
      · obtain ⟨l, _, e⟩ := Option.bind_eq_some_iff.1 e
        split at e <;> simp at e
      · simp at e
    · simp
  · simp
def OBx (B : Nat) (w : World) (a : Option Addr) (c : Nat) (l : List Nat) : Prop :=
  l.length ≤ c ∧ (a = none → c = 0) ∧ ∀ (i x : Nat), l[i]? = some x → x < 256 ∧ ∃ X o, a = some ⟨X, o, none⟩ ∧ X < B ∧ w.cell? ⟨X, o + i, none⟩ = some (.int .u8 x)
def NBx (T : TypeId) (B : Nat) (w : World) (v : Value) (l : List Nat) : Prop :=
  ∃ a c, v = .slice a l.length c ∧ l.length ≤ c ∧ (a = none → c = 0) ∧ ∀ (i x : Nat), l[i]? = some x → x < 256 ∧ ∃ X o, a = some ⟨X, o, none⟩ ∧ B ≤ X ∧ ∃ (cs : Array Value) (fz : Nat × Nat), w.heap[X]? = some (Obj.cells cs T fz) ∧ cs[o + i]? = some (.int .u8 x)
def clVx (p : Cl × Value) : List Value := [.int .i64 (p.1.d : Int), .int .i64 (p.1.t : Int), .int .i64 (p.1.n : Int), p.2]
def decEndx (T TC : TypeId) (w : World) (r : Nat ⊕ (Nat × List Nat × List Cl)) (e : Ending) (w' : World) : Prop := Below w.heap.size w w' ∧ match r with
  | .inl c => e = .returned (.tuple #[.agg #[.int .i64 0, .slice none 0 0, .slice none 0 0], .int .i64 (c : Int)])
  | .inr (bk, pat, cl) => ∃ (pv cv : Value) (cs : List (Cl × Value)), e = .returned (.tuple #[.agg #[.int .i64 (bk : Int), pv, cv], .int .i64 0]) ∧ NBx T w.heap.size w' pv pat ∧ cs.map (·.1) = cl ∧ w'.ownsRow w.heap.size TC 4 cv cs.length (cs.flatMap clVx) ∧ ∀ p ∈ cs, NBx T w.heap.size w' p.2 p.1.b
section
variable {C : Ctx} {s : St}
theorem ob_at (hs : Sim C s) {d : AVal} {cd : Value} {ds : List (List AVal)} {l : List Nat} (hd : Rep s d cd) (he : elemsA s.h 1 d = some ds) (hz : szOk 1 ds = true) (hst : strOk 2 d = true) (hm : ds.mapM natA = some l) :
    ∃ a c, cd = .slice a l.length c ∧ OBx s.w.heap.size s.w a c l := by
  obtain ⟨a, c, rfl, h1, h2⟩ := bytes_at hs hd he hz hst hm
  refine ⟨a, c, rfl, h1, fun e => ?_, fun i x hx => ?_⟩
  · subst e
    have hk : ∀ n c, Rep s d (.slice none n c) → c = 0 := fun n c hd => by
      cases hd with
      | vsl0 _ _ _ _ h => exact h rfl
      | nsl => rfl
    exact hk _ _ hd
  · obtain ⟨k1, X, o, rfl, k2⟩ := h2 i x hx
    exact ⟨k1, X, o, rfl, at_lt (o := o + i) k2, k2⟩
theorem imm_far (hs : Sim C s) {w' : World} {X : Nat} (hX : s.w.heap.size ≤ X) (o : Nat) : Imm { s with w := w' } X o := by
  refine ⟨fun b _ hb => ?_, fun t sz n _ ht _ => ?_⟩
  · have := hs.blt hb; omega
  · have := hs.old t _ _ ht; omega
theorem rep_nbx (hs : Sim C s) {w' : World} {T : TypeId} {v : Value} {l : List Nat} (h : NBx T s.w.heap.size w' v l) : Rep { s with w := w' } (.vsl false (eI .u8 (nI l))) v := by
  obtain ⟨a, c, rfl, h1, h2, h3⟩ := h
  cases l with
  | nil => exact .vsl0 false a c (by simp) h2
  | cons x l =>
    obtain ⟨_, X, o, rfl, hX, cs, fz, hc, _⟩ := h3 0 x rfl
    refine .vsl false _ X o 1 c _ (RepE.of_get fun i e he => ?_) (by simp [eI, nI]) h1 (by simp)
    simp only [eI, nI, List.getElem?_map, Option.map_eq_some_iff] at he
    obtain ⟨_, ⟨y, hy, rfl⟩, rfl⟩ := he
    obtain ⟨_, X', o', e, _, cs', fz', hc', hy'⟩ := h3 i y hy
    obtain ⟨rfl, rfl⟩ : X' = X ∧ o' = o := by simpa using e.symm
    refine ⟨rfl, .cons _ _ _ _ (.int .u8 y) ?_ (imm_far hs hX _) rfl (.int _ _) (.nil _ _)⟩
    simp only [World.at, World.cell?, hc', Option.bind_some, Nat.mul_one]
    exact hy'
theorem rep_calls (hs : Sim C s) {w' : World} {T TC : TypeId} {v : Value} {cs : List (Cl × Value)} (h : w'.ownsRow s.w.heap.size TC 4 v cs.length (cs.flatMap clVx)) (hd : ∀ p ∈ cs, NBx T s.w.heap.size w' p.2 p.1.b) :
    Rep { s with w := w' } (.vsl false ((cs.map (·.1)).map clA)) v := by
  obtain ⟨_, ⟨rfl, h0⟩ | ⟨g, cap, cur, rfl, hg, hb, hc, hm, hsz, ht⟩⟩ := h
  · obtain rfl := List.length_eq_zero_iff.1 h0
    exact .vsl0 false none 0 (by simp) (fun _ => rfl)
  · refine .vsl false _ g 0 4 cap _ (RepE.of_get fun i e he => ?_) (by simp) hc (by simp)
    simp only [List.getElem?_map, Option.map_eq_some_iff] at he
    obtain ⟨_, ⟨p, hp, rfl⟩, rfl⟩ := he
    have hil := (List.getElem?_eq_some_iff.1 hp).1
    have hfl : ∀ (j : Nat) (x : Value), (clVx p)[j]? = some x → (cs.flatMap clVx)[i * 4 + j]? = some x := by
      intro j x hj
      have hj4 : j < 4 := (List.getElem?_eq_some_iff.1 hj).1
      clear ht hd hc hsz hil
      rename_i h0
      clear h0
      induction cs generalizing i with
      | nil => simp at hp
      | cons q cs ih =>
        cases i with
        | zero =>
          obtain rfl : q = p := by simpa using hp
          rw [List.flatMap_cons, Nat.zero_mul, Nat.zero_add, List.getElem?_append_left (by simpa [clVx] using hj4)]
          exact hj
        | succ i =>
          have hq : (clVx q).length = 4 := rfl
          rw [List.flatMap_cons, List.getElem?_append_right (by rw [hq]; omega)]
          rw [show (i + 1) * 4 + j - (clVx q).length = i * 4 + j by rw [hq]; omega]
          exact ih i (by simpa using hp)
    have hcell : ∀ (j : Nat) (x : Value), (clVx p)[j]? = some x → World.at w' g (0 + i * 4 + j) = some x := by
      intro j x hj
      have hj4 : j < 4 := (List.getElem?_eq_some_iff.1 hj).1
      have h1 := hfl j x hj
      rw [← ht, List.getElem?_take_of_lt (by omega)] at h1
      simp only [World.at, World.cell?, hb, Option.bind_some]
      rw [Nat.zero_add]
      simpa using h1
    refine ⟨rfl, RepR.of_get fun j c hj => ?_⟩
    have hr := rep_nbx hs (hd p (List.mem_of_getElem? hp))
    match j, hj with
    | 0, hj => obtain rfl := Option.some.inj hj; exact ⟨_, hcell 0 _ rfl, imm_far hs hg _, rfl, .int _ _⟩
    | 1, hj => obtain rfl := Option.some.inj hj; exact ⟨_, hcell 1 _ rfl, imm_far hs hg _, rfl, .int _ _⟩
    | 2, hj => obtain rfl := Option.some.inj hj; exact ⟨_, hcell 2 _ rfl, imm_far hs hg _, rfl, .int _ _⟩
    | 3, hj => obtain rfl := Option.some.inj hj; exact ⟨_, hcell 3 _ rfl, imm_far hs hg _, rfl, hr⟩
    | j + 4, hj => simp [clA] at hj
end
theorem decX_ok {C : Ctx} {P : Program} {f : FuncId} {fn : Func} {T TC : TypeId} (hf : P.funcs[f]? = some fn) (hb : fn.body.isSome = true) (hn : fn.name ≠ "runtime.NumGoroutine")
    (hw : ∀ (a : Option Addr) (c n : Nat) (l : List Nat) (w : World), n = l.length → OBx w.heap.size w a c l → l.length ≤ 100000 → Calls P f #[.slice a n c] w (decEndx T TC w (decS l)))
    {L : Lim} {args : List AVal} {h : AHeap} {v : AVal} {h' : AHeap} (hp : decX.pre L args h = some (.inl (v, h'))) : CallOk C P L f args h v h' := by
  obtain ⟨x, hb⟩ := Option.isSome_iff_exists.1 hb
  unfold decX at hp
  simp only at hp
  split at hp
  · rename_i a
    split at hp
    · rename_i hst
      obtain ⟨es, he, hp⟩ := Option.bind_eq_some_iff.1 hp
      split at hp
      · rename_i hz
        obtain ⟨l, hm, hp⟩ := Option.bind_eq_some_iff.1 hp
        split at hp
        · rename_i hlim
          simp only [Option.some.injEq, Sum.inl.injEq, Prod.mk.injEq] at hp
          obtain ⟨rfl, rfl⟩ := hp
          refine ⟨AInv.refl L h, fun s cargs hh hs hL hrep => ?_⟩
          subst hh
          obtain ⟨cx, rfl, hx⟩ : ∃ cx, cargs = #[cx] ∧ Rep s a cx := by
            obtain ⟨c⟩ := cargs
            simp only at hrep
            cases hrep with
            | cons _ y _ ys h1 h2 => cases h2; exact ⟨y, rfl, h1⟩
          obtain ⟨ad, c, rfl, hob⟩ := ob_at hs hx he hz hst hm
          refine ⟨.enter f _, s.w, enter_run hf hb hn _ _, .inr ⟨f, _, rfl, ?_⟩⟩
          refine (hw ad c l.length l s.w rfl hob hlim).mono fun e w' hq => ?_
          generalize decS l = r at hq
          obtain ⟨hb, hq⟩ := hq
          rcases r with c | ⟨bk, pat, cl⟩
          · obtain rfl := hq
            have hnil : Rep { s with w := w' } (.vsl false []) (.slice none 0 0) := .vsl0 false none 0 (by simp) (fun _ => rfl)
            exact Good.ext hs ⟨hb.os, hb.tape, hb.output, hb.size, hb.block⟩ (.tup _ _ (.cons _ _ _ _ (.agg _ _ (.cons _ _ _ _ (.int _ _) (.cons _ _ _ _ hnil (.cons _ _ _ _ hnil .nil))) (by simp [AVal.isCell])) (.cons _ _ _ _ (.int _ _) .nil)))
          · obtain ⟨pv, cv, cs, rfl, h1, rfl, h2, h3⟩ := hq
            exact Good.ext hs ⟨hb.os, hb.tape, hb.output, hb.size, hb.block⟩ (.tup _ _ (.cons _ _ _ _ (.agg _ _ (.cons _ _ _ _ (.int _ _) (.cons _ _ _ _ (rep_nbx hs h1) (.cons _ _ _ _ (rep_calls hs h2 h3) .nil))) (by simp [AVal.isCell])) (.cons _ _ _ _ (.int _ _) .nil)))
        · simp at hp
      · simp at hp
    · simp at hp
  · simp at hp
end Go.Av

namespace Go.Av
set_option linter.unusedVariables false
set_option linter.unusedSimpArgs false
def le2 (n : Nat) : List Nat := [n % 256, n / 256 % 256]
def encC (x : Cl) : List Nat := x.d :: (if x.d = 0 then x.t :: (le2 x.b.length ++ x.b) else if x.d = 1 ∨ x.d = 2 then le2 x.n else [])
def encS (bk : Nat) (pat : List Nat) (cs : List Cl) : List Nat := bk :: (le2 pat.length ++ (pat ++ cs.flatMap encC))
def RightC (x : Cl) : Prop := (∀ y ∈ x.b, y < 256) ∧ (x.d = 0 ∧ x.t < 256 ∧ x.n = 0 ∧ x.b.length < 65536 ∨ (x.d = 1 ∨ x.d = 2) ∧ x.t = 0 ∧ x.n < 65536 ∧ x.b = [] ∨ (x.d = 3 ∨ x.d = 4) ∧ x.t = 0 ∧ x.n = 0 ∧ x.b = [])
theorem le2_val (n : Nat) (h : n < 65536) : n % 256 + 256 * (n / 256 % 256) = n := by omega
theorem stepS_enc (x : Cl) (h : RightC x) (r : List Nat) (n : Nat) (hn : ¬ n = 200) : stepS (encC x ++ r) n = .call x r := by
  obtain ⟨d, t, m, b⟩ := x
  obtain ⟨_, ⟨h1, h2, h3, h4⟩ | ⟨h1, h2, h3, h4⟩ | ⟨h1, h2, h3, h4⟩⟩ := h
  · simp only at h1 h2 h3 h4
    subst h1 h3
    simp only [encC, le2, stepS, List.cons_append, List.append_assoc, List.nil_append, if_neg hn, if_pos]
    rw [if_neg (by simp; omega), le2_val _ h4]
    simp
  · simp only at h1 h2 h3 h4
    subst h2 h4
    have h0 : ¬ d = 0 := by omega
    simp only [encC, le2, stepS, List.cons_append, List.nil_append, if_neg hn, if_neg h0, if_pos h1, le2_val _ h3]
  · simp only at h1 h2 h3 h4
    subst h2 h3 h4
    have h0 : ¬ d = 0 := by omega
    have h2 : ¬ (d = 1 ∨ d = 2) := by omega
    simp only [encC, stepS, List.cons_append, List.nil_append, if_neg hn, if_neg h0, if_neg h2, if_pos h1]
theorem encC_pos (x : Cl) : 0 < (encC x).length := by simp [encC]
theorem encC_long (cs : List Cl) : cs.length ≤ (cs.flatMap encC).length := by
  induction cs with
  | nil => simp
  | cons x cs ih =>
    have := encC_pos x
    simp only [List.flatMap_cons, List.length_append, List.length_cons]; omega
theorem runS_enc : ∀ (cs acc : List Cl) (f : Nat), (∀ x ∈ cs, RightC x) → acc.length + cs.length ≤ 200 → cs.length < f → runS f (cs.flatMap encC) acc = .inr (acc ++ cs)
  | [], acc, f, _, _, hf => by
    obtain ⟨f, rfl⟩ : ∃ g, f = g + 1 := ⟨f - 1, by simp at hf; omega⟩
    simp [runS, stepS]
  | x :: cs, acc, f, hr, hl, hf => by
    obtain ⟨f, rfl⟩ : ∃ g, f = g + 1 := ⟨f - 1, by simp at hf; omega⟩
    simp only [List.length_cons] at hl hf
    rw [List.flatMap_cons]
    simp only [runS, stepS_enc x (hr x (by simp)) _ _ (show ¬ acc.length = 200 by omega)]
    rw [runS_enc cs (acc ++ [x]) f (fun y hy => hr y (by simp [hy])) (by simp; omega) (by omega)]
    simp
theorem decS_enc (b : Nat) (pat : List Nat) (cs : List Cl) (hp : pat.length < 65536) (hr : ∀ x ∈ cs, RightC x) (hl : cs.length ≤ 200) : decS (encS b pat cs) = .inr (b, pat, cs) := by
  have hlen := encC_long cs
  simp only [decS, encS, le2, List.cons_append, List.nil_append, le2_val _ hp]
  rw [if_neg (by simp)]
  rw [List.drop_left, List.take_left, runS_enc cs [] _ hr (by simpa using hl) (by rw [List.length_append]; omega)]
  simp
theorem stepS_back {l : List Nat} {n : Nat} {x : Cl} {r : List Nat} (hb : ∀ y ∈ l, y < 256) (h : stepS l n = .call x r) : l = encC x ++ r ∧ RightC x ∧ ¬ n = 200 := by
  cases l with
  | nil => simp [stepS] at h
  | cons d l =>
    simp only [stepS] at h
    split at h
    · simp at h
    · rename_i hn
      split at h
      · rename_i hd
        subst hd
        rcases l with _ | ⟨t, _ | ⟨lo, _ | ⟨hi, q⟩⟩⟩
        · simp at h
        · simp at h
        · simp at h
        · simp only at h
          split at h
          · simp at h
          · rename_i hq
            simp only [StS.call.injEq] at h
            obtain ⟨rfl, rfl⟩ := h
            have h1 := hb t (by simp)
            have h2 := hb lo (by simp)
            have h3 := hb hi (by simp)
            have hm : (q.take (lo + 256 * hi)).length = lo + 256 * hi := by simp; omega
            refine ⟨?_, ⟨fun y hy => hb y (by simp [List.mem_of_mem_take hy]), .inl ⟨rfl, h1, rfl, by rw [hm]; omega⟩⟩, hn⟩
            simp only [encC, le2, if_true, hm, List.cons_append, List.nil_append, List.take_append_drop]
            rw [show (lo + 256 * hi) % 256 = lo by omega, show (lo + 256 * hi) / 256 % 256 = hi by omega]
      · rename_i hd
        split at h
        · rename_i hd2
          rcases l with _ | ⟨lo, _ | ⟨hi, q⟩⟩
          · simp at h
          · simp at h
          · simp only [StS.call.injEq] at h
            obtain ⟨rfl, rfl⟩ := h
            have h2 := hb lo (by simp)
            have h3 := hb hi (by simp)
            refine ⟨?_, ⟨by simp, .inr (.inl ⟨hd2, rfl, by simp only; omega, rfl⟩)⟩, hn⟩
            simp only [encC, le2, if_neg hd, if_pos hd2, List.cons_append, List.nil_append]
            rw [show (lo + 256 * hi) % 256 = lo by omega, show (lo + 256 * hi) / 256 % 256 = hi by omega]
        · rename_i hd2
          split at h
          · rename_i hd3
            simp only [StS.call.injEq] at h
            obtain ⟨rfl, rfl⟩ := h
            refine ⟨by simp [encC, hd, hd2], ⟨by simp, .inr (.inr ⟨hd3, rfl, rfl, rfl⟩)⟩, hn⟩
          · simp at h
theorem runS_back : ∀ (f : Nat) (l : List Nat) (acc cs : List Cl), (∀ y ∈ l, y < 256) → l.length < f → acc.length ≤ 200 → runS f l acc = .inr cs → ∃ ds, cs = acc ++ ds ∧ l = ds.flatMap encC ∧ (∀ x ∈ ds, RightC x) ∧ cs.length ≤ 200
  | 0, l, acc, cs, _, hf, _, _ => by omega
  | f + 1, l, acc, cs, hb, hf, ha, h => by
    simp only [runS] at h
    split at h
    · rename_i he
      obtain rfl : l = [] := by
        cases l with
        | nil => rfl
        | cons d l =>
          simp only [stepS] at he
          repeat' (split at he)
          all_goals simp at he
      have h := Sum.inr.inj h
      subst h
      exact ⟨[], by simp, by simp, by simp, ha⟩
    · simp at h
    · rename_i x r he
      obtain ⟨rfl, h2, h3⟩ := stepS_back hb he
      have := encC_pos x
      obtain ⟨ds, rfl, rfl, h5, h6⟩ := runS_back f r (acc ++ [x]) cs (fun y hy => hb y (by simp [hy])) (by simp at hf; omega) (by simp; omega) h
      exact ⟨x :: ds, by simp, by simp, fun y hy => by
        rcases List.mem_cons.1 hy with rfl | hy
        · exact h2
        · exact h5 y hy, h6⟩
theorem decS_back {l : List Nat} {b : Nat} {pat : List Nat} {cs : List Cl} (hb : ∀ y ∈ l, y < 256) (h : decS l = .inr (b, pat, cs)) : l = encS b pat cs ∧ b < 256 ∧ pat.length < 65536 ∧ (∀ y ∈ pat, y < 256) ∧ (∀ x ∈ cs, RightC x) ∧ cs.length ≤ 200 := by
  rcases l with _ | ⟨b0, _ | ⟨lo, _ | ⟨hi, q⟩⟩⟩
  · simp [decS] at h
  · simp [decS] at h
  · simp [decS] at h
  · simp only [decS] at h
    split at h
    · simp at h
    · rename_i hq
      split at h
      · simp at h
      · rename_i cs' hr
        simp only [Sum.inr.injEq, Prod.mk.injEq] at h
        obtain ⟨rfl, rfl, rfl⟩ := h
        have h1 := hb b0 (by simp)
        have h2 := hb lo (by simp)
        have h3 := hb hi (by simp)
        obtain ⟨ds, rfl, h4, h5, h6⟩ := runS_back _ _ [] cs' (fun y hy => hb y (by simp [List.mem_of_mem_drop hy])) (by simp; omega) (by simp) hr
        have hm : (q.take (lo + 256 * hi)).length = lo + 256 * hi := by simp; omega
        refine ⟨?_, h1, by rw [hm]; omega, fun y hy => hb y (by simp [List.mem_of_mem_take hy]), by simpa using h5, by simpa using h6⟩
        simp only [encS, le2, hm, List.nil_append, List.cons_append, ← h4, List.take_append_drop]
        rw [show (lo + 256 * hi) % 256 = lo by omega, show (lo + 256 * hi) / 256 % 256 = hi by omega]
end Go.Av
