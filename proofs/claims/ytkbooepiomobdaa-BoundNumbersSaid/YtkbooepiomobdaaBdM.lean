/- Chapter 13: lines that bound, without any program. -/
import Derived.Test.YtkbooepiomobdaaBdD
set_option linter.unusedVariables false
set_option linter.unusedSimpArgs false
namespace Go.Proofs.YtkbooepiomobdaaA
open Go.RowKit

theorem cmp_neg {a b : Int} : cmpI a b < 0 ↔ a < b := by unfold cmpI; split <;> (try split) <;> omega
theorem cmp_zero {a b : Int} : cmpI a b = 0 ↔ a = b := by unfold cmpI; split <;> (try split) <;> omega
theorem or_neg {a b : Int} : orI a b < 0 ↔ a < 0 ∨ a = 0 ∧ b < 0 := by unfold orI; split <;> omega
def tieL (a b : Tp) : Prop := b.v < a.v ∨ a.v = b.v ∧ a.o < b.o
theorem ties_neg {a b : Tp} : tiesI a b < 0 ↔ tieL a b := by
  unfold tiesI tieL
  rw [or_neg, cmp_neg, cmp_zero, cmp_neg]
  omega
theorem least_lt {a b : Tp} : ltI leastI a b = true ↔ a.r < b.r ∨ a.r = b.r ∧ tieL a b := by
  unfold ltI leastI
  rw [decide_eq_true_eq, or_neg, cmp_neg, cmp_zero, ties_neg]
theorem slope_lt {s a b : Tp} : ltI (slopeI s) a b = true ↔ (a.r - s.r) * (b.v - s.v) < (b.r - s.r) * (a.v - s.v) ∨ (a.r - s.r) * (b.v - s.v) = (b.r - s.r) * (a.v - s.v) ∧ tieL a b := by
  unfold ltI slopeI
  rw [decide_eq_true_eq, or_neg, cmp_neg, cmp_zero, ties_neg]
theorem tp_ext {a b : Tp} (h1 : a.o = b.o) (h2 : a.r = b.r) (h3 : a.v = b.v) : a = b := by
  cases a; cases b; simp_all
/-- A strict order of all that P tells. -/
structure Ord (lt : Tp → Tp → Bool) (P : Tp → Prop) : Prop where
  tr : ∀ a b c, P a → P b → P c → lt a b = true → lt b c = true → lt a c = true
  tri : ∀ a b, P a → P b → lt a b = false → lt b a = false → a = b
  ir : ∀ a, lt a a = false
theorem ord_least : Ord (ltI leastI) (fun _ => True) := by
  refine ⟨fun a b c _ _ _ h h' => ?_, fun a b _ _ h h' => ?_, fun a => ?_⟩
  · rw [least_lt] at *
    unfold tieL at *
    omega
  · rw [← Bool.not_eq_true, least_lt] at *
    unfold tieL at *
    exact tp_ext (by omega) (by omega) (by omega)
  · rw [← Bool.not_eq_true, least_lt]
    unfold tieL
    omega
theorem ord_slope (s : Tp) : Ord (ltI (slopeI s)) (fun t => s.v < t.v) := by
  refine ⟨fun a b c pa pb pc h h' => ?_, fun a b pa pb h h' => ?_, fun a => ?_⟩
  · rw [slope_lt] at *
    have pa : 0 < a.v - s.v := by omega
    have pb : 0 < b.v - s.v := by omega
    have pc : 0 < c.v - s.v := by omega
    unfold tieL at *
    generalize hx : a.r - s.r = x at *
    generalize hy : b.r - s.r = y at *
    generalize hz : c.r - s.r = z at *
    generalize hu : a.v - s.v = u at *
    generalize hv : b.v - s.v = v at *
    generalize hw : c.v - s.v = w at *
    have e1 : x * w * v = x * v * w := Int.mul_right_comm _ _ _
    have e2 : y * u * w = y * w * u := Int.mul_right_comm _ _ _
    have e3 : z * v * u = z * u * v := Int.mul_right_comm _ _ _
    rcases h with h | ⟨h, ht⟩
    · have h1 : x * v * w < y * u * w := Int.mul_lt_mul_of_pos_right h pc
      have h2 : y * w * u ≤ z * v * u := Int.mul_le_mul_of_nonneg_right (by omega) (Int.le_of_lt pa)
      exact .inl (Int.lt_of_mul_lt_mul_right (a := v) (by omega) (Int.le_of_lt pb))
    · rcases h' with h' | ⟨h', ht'⟩
      · have h1 : x * v * w ≤ y * u * w := Int.mul_le_mul_of_nonneg_right (by omega) (Int.le_of_lt pc)
        have h2 : y * w * u < z * v * u := Int.mul_lt_mul_of_pos_right h' pa
        exact .inl (Int.lt_of_mul_lt_mul_right (a := v) (by omega) (Int.le_of_lt pb))
      · refine .inr ⟨Int.eq_of_mul_eq_mul_right (a := v) (by omega) ?_, by omega⟩
        rw [e1, h, e2, h', e3]
  · rw [← Bool.not_eq_true, slope_lt] at *
    have pa : 0 < a.v - s.v := by omega
    have pb : 0 < b.v - s.v := by omega
    unfold tieL at *
    have hv : a.v = b.v := by omega
    have ho : a.o = b.o := by omega
    refine tp_ext ho ?_ hv
    have he : (a.r - s.r) * (b.v - s.v) = (b.r - s.r) * (a.v - s.v) := by omega
    rw [hv] at he
    have := Int.eq_of_mul_eq_mul_right (a := b.v - s.v) (by omega) he
    omega
  · rw [← Bool.not_eq_true, slope_lt]
    unfold tieL
    omega
theorem minF_le {lt : Tp → Tp → Bool} {P : Tp → Prop} (o : Ord lt P) : ∀ (l : List Tp) (m : Tp), P m → (∀ t ∈ l, P t) → lt m (minF lt m l) = false ∧ ∀ t ∈ l, lt t (minF lt m l) = false
  | [], m, _, _ => ⟨o.ir m, fun _ h => by cases h⟩
  | t :: l, m, pm, pl => by
    have pt := pl t List.mem_cons_self
    have pl' := fun x hx => pl x (List.mem_cons_of_mem t hx)
    have hs : minF lt m (t :: l) = minF lt (if lt t m = true then t else m) l := rfl
    rw [hs]
    by_cases c : lt t m = true
    · rw [if_pos c]
      obtain ⟨h1, h2⟩ := minF_le o l t pt pl'
      have pz : P (minF lt t l) := by
        rcases minF_mem lt l t with h | h
        · rw [h]; exact pt
        · exact pl' _ h
      refine ⟨?_, fun x hx => ?_⟩
      · cases hm : lt m (minF lt t l) with
        | false => rfl
        | true => rw [o.tr t m _ pt pm pz c hm] at h1; cases h1
      · rcases List.mem_cons.1 hx with rfl | hx
        · exact h1
        · exact h2 x hx
    · rw [if_neg c]
      obtain ⟨h1, h2⟩ := minF_le o l m pm pl'
      have pz : P (minF lt m l) := by
        rcases minF_mem lt l m with h | h
        · rw [h]; exact pm
        · exact pl' _ h
      refine ⟨h1, fun x hx => ?_⟩
      rcases List.mem_cons.1 hx with rfl | hx
      · cases ht : lt x (minF lt m l) with
        | false => rfl
        | true =>
          cases hz : lt (minF lt m l) m with
          | true => exact absurd (o.tr x _ m pt pz pm ht hz) c
          | false =>
            have := o.tri m _ pm pz h1 hz
            rw [← this] at ht
            exact absurd ht c
      · exact h2 x hx
theorem minL_le {lt : Tp → Tp → Bool} {P : Tp → Prop} (o : Ord lt P) {l : List Tp} (pl : ∀ t ∈ l, P t) : ∀ t ∈ l, lt t (minL lt l) = false := by
  cases l with
  | nil => exact fun _ h => by cases h
  | cons a l =>
    obtain ⟨h1, h2⟩ := minF_le o l a (pl a List.mem_cons_self) fun x hx => pl x (List.mem_cons_of_mem _ hx)
    intro t ht
    rcases List.mem_cons.1 ht with rfl | ht
    · exact h1
    · exact h2 t ht
theorem minL_eq {lt : Tp → Tp → Bool} {P : Tp → Prop} (o : Ord lt P) {l : List Tp} (pl : ∀ t ∈ l, P t) {m : Tp} (hm : m ∈ l) (hl : ∀ t ∈ l, lt t m = false) : minL lt l = m := by
  have hne : l ≠ [] := fun h => by rw [h] at hm; cases hm
  have hz := minL_mem lt hne
  exact o.tri _ _ (pl _ hz) (pl _ hm) (hl _ hz) (minL_le o pl m hm)
/-! ### What bounds -/
def restP (l : List Tp) (s : Tp) : List Tp := l.filter fun t => decide (s.v < t.v)
def bestP (l : List Tp) (s : Tp) : Tp := minL (ltI (slopeI s)) (restP l s)
def meets (l : List Tp) (s : Tp) : Prop := s.v * ((bestP l s).r - s.r) < s.r * ((bestP l s).v - s.v)
theorem mem_rest {l : List Tp} {s t : Tp} : t ∈ restP l s ↔ t ∈ l ∧ s.v < t.v := by unfold restP; rw [List.mem_filter, decide_eq_true_eq]
inductive Chain (l : List Tp) : Tp → List Tp → Prop
  | stop (s : Tp) (h : restP l s = [] ∨ ¬ meets l s) : Chain l s [s]
  | step (s : Tp) (t : List Tp) (h0 : restP l s ≠ []) (h1 : meets l s) (h2 : Chain l (bestP l s) t) : Chain l s (s :: t)
theorem Chain.det {l : List Tp} {s : Tp} {a b : List Tp} (h : Chain l s a) (h' : Chain l s b) : a = b := by
  induction h generalizing b with
  | stop s h =>
    cases h' with
    | stop => rfl
    | step _ t h0 h1 => exact (h.elim (fun e => h0 e) fun e => e h1).elim
  | step s t h0 h1 h2 ih =>
    cases h' with
    | stop _ h => exact (h.elim (fun e => h0 e) fun e => e h1).elim
    | step _ t' _ _ h2' => rw [ih h2']
def InvL (l : List Tp) (s : Tp) : Prop := ∀ t ∈ l, s.v < t.v → s.r ≤ t.r
theorem best_mem {l : List Tp} {s : Tp} (h : restP l s ≠ []) : bestP l s ∈ l ∧ s.v < (bestP l s).v := mem_rest.1 (minL_mem _ h)
theorem best_le {l : List Tp} {s t : Tp} (h : t ∈ l) (hv : s.v < t.v) : ltI (slopeI s) t (bestP l s) = false :=
  minL_le (ord_slope s) (fun x hx => (mem_rest.1 hx).2) t (mem_rest.2 ⟨h, hv⟩)
theorem best_slope {l : List Tp} {s t : Tp} (h : t ∈ l) (hv : s.v < t.v) : ((bestP l s).r - s.r) * (t.v - s.v) ≤ (t.r - s.r) * ((bestP l s).v - s.v) := by
  have := best_le h hv
  rw [← Bool.not_eq_true, slope_lt] at this
  omega
theorem best_inv {l : List Tp} {s : Tp} (h : restP l s ≠ []) (hi : InvL l s) : InvL l (bestP l s) := by
  obtain ⟨h1, h2⟩ := best_mem h
  intro t ht hv
  have hs := best_slope ht (s := s) (by omega)
  have hb := hi _ h1 h2
  generalize bestP l s = b at *
  have hm : (b.r - s.r) * (b.v - s.v) ≤ (b.r - s.r) * (t.v - s.v) := Int.mul_le_mul_of_nonneg_left (by omega) (by omega)
  have := Int.le_of_mul_le_mul_right (a := b.v - s.v) (Int.le_trans hm hs) (by omega)
  omega
theorem least_inv {l : List Tp} : InvL l (minL (ltI leastI) l) := by
  intro t ht _
  have := minL_le ord_least (fun _ _ => trivial) t ht
  rw [← Bool.not_eq_true, least_lt] at this
  omega
/-! ### What is let -/
def cutT (y : Int) (t : Tp) : Int := t.r - mn t.r (t.v * y)
theorem cutT_nn (y : Int) (t : Tp) : 0 ≤ cutT y t := by unfold cutT mn; split <;> omega
theorem cutT_le {y : Int} {s t : Tp} (h : s.r - s.v * y ≤ t.r - t.v * y) : cutT y s ≤ cutT y t := by unfold cutT mn; split <;> split <;> omega
theorem cutT_zero {y : Int} {s : Tp} (h : s.r ≤ s.v * y) : cutT y s ≤ 0 := by unfold cutT mn; split <;> omega
/-- Ahead of the place where the next line meets, no line above lets less. -/
theorem ahead {y : Int} {l : List Tp} {s t : Tp} (ht : t ∈ l) (hv : s.v < t.v) (hb : s.v < (bestP l s).v) (hy : y * ((bestP l s).v - s.v) ≤ (bestP l s).r - s.r) : s.r - s.v * y ≤ t.r - t.v * y := by
  have hs := best_slope ht hv
  generalize bestP l s = b at *
  have h1 : y * (b.v - s.v) * (t.v - s.v) ≤ (b.r - s.r) * (t.v - s.v) := Int.mul_le_mul_of_nonneg_right hy (by omega)
  have h2 : y * (t.v - s.v) * (b.v - s.v) ≤ (t.r - s.r) * (b.v - s.v) := by rw [Int.mul_right_comm]; omega
  have h3 := Int.le_of_mul_le_mul_right h2 (by omega)
  rw [Int.mul_sub, Int.mul_comm y, Int.mul_comm y] at h3
  omega
theorem Chain.covers {l : List Tp} {s : Tp} {c : List Tp} (h : Chain l s c) {y : Int} (hy : 0 ≤ y) (hs : s ∈ l) (s0 : 0 ≤ s.v) (hB : ∀ t ∈ l, t.v ≤ s.v → s.r - s.v * y ≤ t.r - t.v * y) : ∀ t ∈ l, ∃ u ∈ c, cutT y u ≤ cutT y t := by
  induction h with
  | stop s h =>
    intro t ht
    refine ⟨s, List.mem_cons_self, ?_⟩
    by_cases hv : t.v ≤ s.v
    · exact cutT_le (hB t ht hv)
    · have hne : restP l s ≠ [] := fun e => by have := mem_rest.2 ⟨ht, show s.v < t.v by omega⟩; rw [e] at this; cases this
      have hm : ¬ meets l s := h.resolve_left hne
      have hb := (best_mem hne).2
      by_cases hc : y * ((bestP l s).v - s.v) ≤ (bestP l s).r - s.r
      · exact cutT_le (ahead ht (by omega) hb hc)
      · unfold meets at hm
        generalize bestP l s = b at *
        have h1 : s.v * (b.r - s.r) ≤ s.v * (y * (b.v - s.v)) := Int.mul_le_mul_of_nonneg_left (by omega) s0
        rw [← Int.mul_assoc] at h1
        have h2 := Int.le_of_mul_le_mul_right (a := b.v - s.v) (b := s.r) (c := s.v * y) (by omega) (by omega)
        exact Int.le_trans (cutT_zero h2) (cutT_nn y t)
  | step s c h0 h1 h2 ih =>
    obtain ⟨hb1, hb2⟩ := best_mem h0
    by_cases hc : y * ((bestP l s).v - s.v) ≤ (bestP l s).r - s.r
    · intro t ht
      refine ⟨s, List.mem_cons_self, ?_⟩
      by_cases hv : t.v ≤ s.v
      · exact cutT_le (hB t ht hv)
      · exact cutT_le (ahead ht (by omega) hb2 hc)
    · have hx : (bestP l s).r - (bestP l s).v * y ≤ s.r - s.v * y := by
        rw [Int.mul_sub, Int.mul_comm y, Int.mul_comm y] at hc
        omega
      have := ih hb1 (by omega) fun t ht hv => by
        by_cases hv' : t.v ≤ s.v
        · exact Int.le_trans hx (hB t ht hv')
        · have hs := best_slope ht (s := s) (by omega)
          generalize bestP l s = b at *
          have hD : 0 < b.v - s.v := by omega
          have k1 : (b.v - s.v) * ((b.r - s.r) - y * (b.v - s.v)) ≤ (t.v - s.v) * ((b.r - s.r) - y * (b.v - s.v)) := by
            have := Int.mul_le_mul_of_nonneg_right (show t.v - s.v ≤ b.v - s.v by omega) (show 0 ≤ -((b.r - s.r) - y * (b.v - s.v)) by omega)
            rw [Int.mul_neg, Int.mul_neg] at this
            omega
          have k2 : ((b.r - s.r) - y * (b.v - s.v)) * (b.v - s.v) ≤ ((t.r - s.r) - y * (t.v - s.v)) * (b.v - s.v) := by
            rw [Int.sub_mul (t.r - s.r), Int.mul_right_comm y (t.v - s.v)]
            rw [Int.mul_sub (t.v - s.v), Int.mul_comm (t.v - s.v) (b.r - s.r), Int.mul_comm (t.v - s.v) (y * (b.v - s.v))] at k1
            rw [Int.mul_comm]
            omega
          have k3 := Int.le_of_mul_le_mul_right k2 hD
          rw [Int.mul_sub, Int.mul_sub, Int.mul_comm y, Int.mul_comm y, Int.mul_comm y] at k3
          omega
      intro t ht
      obtain ⟨u, hu, h⟩ := this t ht
      exact ⟨u, List.mem_cons_of_mem _ hu, h⟩
theorem Chain.sub {l : List Tp} {s : Tp} {c : List Tp} (h : Chain l s c) (hs : s ∈ l) : ∀ t ∈ c, t ∈ l := by
  induction h with
  | stop s h => intro t ht; rw [List.mem_singleton.1 ht]; exact hs
  | step s c h0 h1 h2 ih =>
    intro t ht
    rcases List.mem_cons.1 ht with rfl | ht
    · exact hs
    · exact ih (best_mem h0).1 t ht
theorem Chain.head {l : List Tp} {s : Tp} {c : List Tp} (h : Chain l s c) : ∃ d, c = s :: d := by
  cases h with
  | stop => exact ⟨[], rfl⟩
  | step _ t => exact ⟨t, rfl⟩
/-- Overheads rise, rates do not fall. -/
theorem Chain.rises {l : List Tp} {s : Tp} {c : List Tp} (h : Chain l s c) (hi : InvL l s) : ∀ j, j + 1 < c.length → ∃ a b, c[j]? = some a ∧ c[j + 1]? = some b ∧ a.v < b.v ∧ a.r ≤ b.r := by
  induction h with
  | stop s h => intro j hj; simp at hj
  | step s c h0 h1 h2 ih =>
    intro j hj
    obtain ⟨hb1, hb2⟩ := best_mem h0
    cases j with
    | zero =>
      obtain ⟨d, rfl⟩ := h2.head
      exact ⟨s, bestP l s, rfl, rfl, hb2, hi _ hb1 hb2⟩
    | succ j =>
      obtain ⟨a, b, h3, h4, h5⟩ := ih (best_inv h0 hi) j (by simpa using hj)
      exact ⟨a, b, by simpa using h3, by simpa using h4, h5⟩
theorem Chain.above {l : List Tp} {s : Tp} {c : List Tp} (h : Chain l s c) : ∀ t ∈ c, t = s ∨ s.v < t.v := by
  induction h with
  | stop s h => intro t ht; exact .inl (List.mem_singleton.1 ht)
  | step s c h0 h1 h2 ih =>
    intro t ht
    rcases List.mem_cons.1 ht with rfl | ht
    · exact .inl rfl
    · have := (best_mem h0).2
      rcases ih t ht with rfl | h
      · exact .inr this
      · exact .inr (by omega)
/-- What bounds hangs on the tuples that bound alone. -/
theorem Chain.part {l : List Tp} {s : Tp} {c : List Tp} (h : Chain l s c) {L : List Tp} (hc : ∀ t ∈ c, t ∈ L) (hL : ∀ t ∈ L, s.v < t.v → t ∈ l) (hx : restP l s = [] ∨ meets l s ∨ restP L s = [] ∨ bestP L s = bestP l s) (hy : ∀ t ∈ c, restP l t ≠ [] → ¬ meets l t → restP L t = [] ∨ bestP L t = bestP l t) : Chain L s c := by
  have key : ∀ s : Tp, restP l s ≠ [] → (∀ t ∈ L, s.v < t.v → t ∈ l) → bestP l s ∈ L → restP L s ≠ [] ∧ bestP L s = bestP l s := by
    intro s h0 hL hb
    have hb' := best_mem h0
    have hr : restP L s ≠ [] := fun e => by have := mem_rest.2 ⟨hb, hb'.2⟩; rw [e] at this; cases this
    exact ⟨hr, minL_eq (ord_slope s) (fun x hx => (mem_rest.1 hx).2) (mem_rest.2 ⟨hb, hb'.2⟩) fun t ht => best_le (hL t (mem_rest.1 ht).1 (mem_rest.1 ht).2) (mem_rest.1 ht).2⟩
  induction h with
  | stop s h =>
    by_cases h0 : restP l s = []
    · refine .stop s (.inl ?_)
      cases hr : restP L s with
      | nil => rfl
      | cons a r =>
        have ha := mem_rest.1 (show a ∈ restP L s by rw [hr]; exact List.mem_cons_self)
        have := mem_rest.2 ⟨hL a ha.1 ha.2, ha.2⟩
        rw [h0] at this; cases this
    · have hm := h.resolve_left h0
      rcases hy s List.mem_cons_self h0 hm with h1 | h1
      · exact .stop s (.inl h1)
      · refine .stop s (.inr ?_)
        unfold meets at hm ⊢
        rw [h1]; exact hm
  | step s c h0 h1 h2 ih =>
    obtain ⟨d, rfl⟩ := h2.head
    obtain ⟨hr, hb⟩ := key s h0 hL (hc _ (List.mem_cons_of_mem _ List.mem_cons_self))
    have hb' := (best_mem h0).2
    refine .step s _ hr (by unfold meets at h1 ⊢; rw [hb]; exact h1) ?_
    rw [hb]
    refine ih (fun t ht => hc t (List.mem_cons_of_mem _ ht)) (fun t ht hv => hL t ht (by omega)) ?_ fun t ht => hy t (List.mem_cons_of_mem _ ht)
    by_cases e1 : restP l (bestP l s) = []
    · exact .inl e1
    · by_cases e2 : meets l (bestP l s)
      · exact .inr (.inl e2)
      · exact .inr (.inr (hy _ (List.mem_cons_of_mem _ List.mem_cons_self) e1 e2))
end Go.Proofs.YtkbooepiomobdaaA
