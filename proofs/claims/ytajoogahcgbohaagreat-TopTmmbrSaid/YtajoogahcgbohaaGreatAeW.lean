/- An abstract evaluator, part W: a region whose order is drawn, whichever order is drawn. -/
import Derived.Test.YtajoogahcgbohaaGreatAeV
set_option linter.unusedVariables false
set_option linter.unusedSimpArgs false
namespace Go.Proofs.YtajoogahcgbohaaGreatA
open Go.RowKit

/-! ### What is looked at ahead of any run -/
def memN (t : Nat) (l : List Nat) : Bool := l.any fun x => Nat.beq x t
/-- The destination of the one is a temporary that the other names. -/
def hits (x y : AOper) : Bool :=
  match x.dst with
  | none => false
  | some d => memN d y.tmps || (match y.dst with | some e => Nat.beq e d | none => false)
def mask (acc : List Nat) : List Edge → Nat
  | [] => 0
  | e :: r => bif Region.binds .any e then (2 ^ e.on ||| acc.getD e.on 0) ||| mask acc r else mask acc r
def masks : List Oper → List Nat → List Nat
  | [], acc => acc
  | o :: r, acc => masks r (acc ++ [mask acc o.after.toList])
def lows : List Oper → Nat → Bool
  | [], _ => true
  | o :: r, j => (o.after.toList.all fun e => !Region.binds .any e || Nat.blt e.on j) && lows r (j + 1)
def okPair (bs : List Nat) (i j : Nat) (y x : AOper) : Bool := !(hits x y || hits y x || (x.op.heavy && y.op.heavy)) || (bs.getD i 0).testBit j
def okAll (bs : List Nat) (l : List AOper) : Bool :=
  (List.range l.length).all fun i => (List.range i).all fun j => match l[i]?, l[j]? with | some y, some x => okPair bs i j y x | _, _ => false
def plan1 (bs : List Nat) (l : List AOper) (i j : Nat) : Option (Nat × Nat) :=
  match l[j]? with
  | some y => bif y.op.heavy then bif Nat.blt j i then bif (bs.getD i 0).testBit j then none else some (i, j) else bif (bs.getD j 0).testBit i then none else some (i, j + 1) else none
  | none => none
def plan (bs : List Nat) (l : List AOper) : List (Nat × Nat) :=
  (List.range l.length).flatMap fun i => match l[i]? with
    | some x => bif x.op.reads then (List.range l.length).filterMap (plan1 bs l i) else []
    | none => []
def cDraw0 (ops : List Oper) (l : List AOper) : Option Plan :=
  bif lows ops 0 && okAll (masks ops []) l then some (plan (masks ops []) l) else none

theorem memN_of {t : Nat} {l : List Nat} (h : t ∈ l) : memN t l = true := by simp [memN]; exact h
theorem mask_spec {acc : List Nat} {i : Nat} : ∀ {l : List Edge}, (mask acc l).testBit i = true → ∃ e ∈ l, Region.binds .any e = true ∧ (e.on = i ∨ (acc.getD e.on 0).testBit i = true)
  | [], h => by simp [mask] at h
  | e :: r, h => by
    unfold mask at h
    cases hb : Region.binds .any e with
    | false =>
      rw [hb, cond_false] at h
      obtain ⟨x, hx, h1⟩ := mask_spec h
      exact ⟨x, List.mem_cons_of_mem _ hx, h1⟩
    | true =>
      rw [hb, cond_true, Nat.testBit_or, Nat.testBit_or, Nat.testBit_two_pow] at h
      simp only [Bool.or_eq_true, decide_eq_true_eq] at h
      rcases h with (h | h) | h
      · exact ⟨e, List.mem_cons_self .., hb, .inl h⟩
      · exact ⟨e, List.mem_cons_self .., hb, .inr h⟩
      · obtain ⟨x, hx, h1⟩ := mask_spec h
        exact ⟨x, List.mem_cons_of_mem _ hx, h1⟩
theorem masks_spec : ∀ (l : List Oper) (acc : List Nat), (∀ j, j < acc.length → (masks l acc).getD j 0 = acc.getD j 0) ∧
    ∀ k o, l[k]? = some o → ∀ i, ((masks l acc).getD (acc.length + k) 0).testBit i = true → ∃ e ∈ o.after.toList, Region.binds .any e = true ∧ (e.on = i ∨ (e.on < acc.length + k ∧ ((masks l acc).getD e.on 0).testBit i = true)) := by
  intro l
  induction l with
  | nil => intro acc; exact ⟨fun _ _ => rfl, fun k o h => by simp at h⟩
  | cons o r ih =>
    intro acc
    obtain ⟨h1, h2⟩ := ih (acc ++ [mask acc o.after.toList])
    have hlen : (acc ++ [mask acc o.after.toList]).length = acc.length + 1 := by simp
    rw [hlen] at h1 h2
    have hold : ∀ j, j < acc.length → (masks (o :: r) acc).getD j 0 = acc.getD j 0 := by
      intro j hj
      simp only [masks]
      rw [h1 j (by omega)]
      simp [List.getElem?_append_left hj]
    refine ⟨hold, ?_⟩
    intro k o' hk i hi
    cases k with
    | zero =>
      simp only [List.getElem?_cons_zero, Option.some.injEq] at hk
      subst hk
      simp only [Nat.add_zero, masks] at hi ⊢
      rw [h1 acc.length (by omega)] at hi
      have : (acc ++ [mask acc o.after.toList]).getD acc.length 0 = mask acc o.after.toList := by simp
      rw [this] at hi
      obtain ⟨e, he, hb, h⟩ := mask_spec hi
      refine ⟨e, he, hb, h.imp id fun h => ?_⟩
      have hlt : e.on < acc.length := by
        rcases Nat.lt_or_ge e.on acc.length with h' | h'
        · exact h'
        · simp [List.getD, List.getElem?_eq_none h'] at h
      exact ⟨hlt, by have := hold e.on hlt; simp only [masks] at this; rw [this]; exact h⟩
    | succ k =>
      simp only [List.getElem?_cons_succ] at hk
      have e1 : acc.length + (k + 1) = acc.length + 1 + k := by omega
      rw [e1] at hi ⊢
      exact h2 k o' hk i hi
theorem lows_spec : ∀ {l : List Oper} {j : Nat}, lows l j = true → ∀ k o, l[k]? = some o → ∀ e ∈ o.after, Region.binds .any e = true → e.on < j + k
  | [], _, _, k, o, hk, _, _, _ => by simp at hk
  | o :: r, j, h, k, o', hk, e, he, hb => by
    simp only [lows, Bool.and_eq_true, List.all_eq_true] at h
    cases k with
    | zero =>
      simp only [List.getElem?_cons_zero, Option.some.injEq] at hk
      subst hk
      have := h.1 e (Array.mem_toList_iff.2 he)
      rw [hb] at this
      simpa [Nat.blt_eq] using this
    | succ k =>
      simp only [List.getElem?_cons_succ] at hk
      have := lows_spec h.2 k o' hk e he hb
      omega
theorem okAll_spec {bs : List Nat} {l : List AOper} (h : okAll bs l = true) {i j : Nat} {y x : AOper} (hij : j < i) (hi : l[i]? = some y) (hj : l[j]? = some x) : okPair bs i j y x = true := by
  have hlt : i < l.length := (List.getElem?_eq_some_iff.1 hi).1
  simp only [okAll, List.all_eq_true, List.mem_range] at h
  have := h i hlt j hij
  rw [hi, hj] at this
  exact this
theorem plan_spec {bs : List Nat} {l : List AOper} {i j : Nat} {x : AOper} {p : Nat × Nat} (hi : l[i]? = some x) (hr : x.op.reads = true) (hj : j < l.length) (hp : plan1 bs l i j = some p) : p ∈ plan bs l := by
  have hlt : i < l.length := (List.getElem?_eq_some_iff.1 hi).1
  simp only [plan, List.mem_flatMap, List.mem_range]
  refine ⟨i, hlt, ?_⟩
  rw [hi]
  simp only [hr, cond_true, List.mem_filterMap, List.mem_range]
  exact ⟨j, hj, hp⟩
theorem reads_birth {op : AOp} (h : op.reads = true) : op.birth = false := by
  cases op <;> first | rfl | (simp [AOp.reads] at h; done)
theorem reads_light {op : AOp} (h : op.reads = true) : op.heavy = false := by
  cases op <;> first | rfl | (simp [AOp.reads] at h; done) | skip
  case conv c x => cases c <;> first | rfl | (simp [AOp.reads] at h; done)

/-! ### The text's order -/
abbrev Tr4 := List (AOper × Tm × St × AV)
def tmAt (l : Tr4) (T : Tm) (j : Nat) : Tm := match l[j]? with | some e => e.2.1 | none => T
def vAt (l : Tr4) (j : Nat) : AV := match l[j]? with | some e => e.2.2.2 | none => AV.undef
theorem trace_spec {call : Nat → List AV → St → Option (AV × St)} : ∀ {l : List AOper} {T T' : Tm} {S S' : St} {tr : Tr4}, trace call l T S = some (tr, T', S') →
    tr.length = l.length ∧ tmAt tr T' 0 = T ∧ stAt tr S' 0 = S ∧
    ∀ i o, l[i]? = some o → evOper call o (tmAt tr T' i) (stAt tr S' i) = some (vAt tr i, stAt tr S' (i + 1)) ∧ tmAt tr T' (i + 1) = putD (tmAt tr T' i) o.dst (vAt tr i) ∧
      tr[i]? = some (o, tmAt tr T' i, stAt tr S' i, vAt tr i)
  | [], T, T', S, S', tr, h => by cases h; exact ⟨rfl, rfl, rfl, fun i o hi => by simp at hi⟩
  | o :: r, T, T', S, S', tr, h => by
    simp only [trace, Option.bind_eq_some_iff, Option.map_eq_some_iff] at h
    obtain ⟨⟨v, S1⟩, hv, ⟨tr', T1, S2⟩, ht, he⟩ := h
    cases he
    obtain ⟨h1, h2, h3, h4⟩ := trace_spec ht
    refine ⟨by simp [h1], rfl, rfl, fun i o' hi => ?_⟩
    cases i with
    | zero =>
      simp only [List.getElem?_cons_zero, Option.some.injEq] at hi
      subst hi
      have e1 : stAt ((o, T, S, v) :: tr') S' 1 = stAt tr' S' 0 := rfl
      have e2 : tmAt ((o, T, S, v) :: tr') T' 1 = tmAt tr' T' 0 := rfl
      refine ⟨?_, ?_, rfl⟩
      · rw [show stAt ((o, T, S, v) :: tr') S' (0 + 1) = stAt tr' S' 0 from rfl, h3]; exact hv
      · rw [show tmAt ((o, T, S, v) :: tr') T' (0 + 1) = tmAt tr' T' 0 from rfl, h2]; rfl
    | succ i =>
      simp only [List.getElem?_cons_succ] at hi
      exact h4 i o' hi
def TL (l : List AOper) (vs : Nat → AV) (L : Nat → Bool) (T : Tm) : Nat → Tm
  | 0 => T
  | k + 1 => bif L k then putD (TL l vs L T k) ((l[k]?).bind (·.dst)) (vs k) else TL l vs L T k
theorem putD_get {T : Tm} {d : Option Nat} {v : AV} {t : Nat} (h : d ≠ some t) : (putD T d v).get t = T.get t := by
  cases d with
  | none => rfl
  | some d => simp only [putD, Tr.get_set]; rw [if_neg (fun e => h (by rw [e]))]
theorem TL_congr {l : List AOper} {vs : Nat → AV} {L L' : Nat → Bool} {T : Tm} {t : Nat} : ∀ {k : Nat}, (∀ i, i < k → (l[i]?).bind (·.dst) = some t → L i = L' i) → (TL l vs L T k).get t = (TL l vs L' T k).get t
  | 0, _ => rfl
  | k + 1, h => by
    have ih := TL_congr (l := l) (vs := vs) (T := T) (k := k) fun i hi => h i (by omega)
    simp only [TL]
    by_cases hd : (l[k]?).bind (·.dst) = some t
    · rw [h k (by omega) hd]
      cases L' k with
      | false => exact ih
      | true =>
        simp only [cond_true, hd, putD, Tr.get_set, if_true]
    · cases L k <;> cases L' k <;> simp only [cond_true, cond_false, putD_get hd] <;> exact ih
theorem TL_prefix {call : Nat → List AV → St → Option (AV × St)} {l : List AOper} {T T' : Tm} {S S' : St} {tr : Tr4} (h : trace call l T S = some (tr, T', S')) (j : Nat) :
    ∀ k, k ≤ l.length → TL l (vAt tr) (fun x => Nat.blt x j) T k = tmAt tr T' (min k j) := by
  obtain ⟨h1, h2, h3, h4⟩ := trace_spec h
  intro k
  induction k with
  | zero => intro _; simp only [TL, Nat.zero_min]; exact h2.symm
  | succ k ih =>
    intro hk
    simp only [TL, ih (by omega)]
    by_cases hkj : k < j
    · rw [show Nat.blt k j = true from by simpa [Nat.blt_eq] using hkj, cond_true, show min k j = k by omega, show min (k + 1) j = k + 1 by omega]
      have hg : l[k]? = some l[k] := List.getElem?_eq_getElem (by omega)
      rw [(h4 k _ hg).2.1, hg]
      rfl
    · rw [show Nat.blt k j = false from by (cases hb : Nat.blt k j with | false => rfl | true => exact absurd (by simpa [Nat.blt_eq] using hb) hkj), cond_false, show min k j = j by omega, show min (k + 1) j = j by omega]
end Go.Proofs.YtajoogahcgbohaaGreatA
