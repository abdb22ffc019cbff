/- Chapter 16: what came of late, as a row of slots and bytes (mathematics alone). -/
import Derived.Test.YtinnclcheekhpaaMtB
set_option linter.unusedVariables false
set_option linter.unusedSimpArgs false
set_option maxRecDepth 10000
namespace Go.Proofs.YtinnclcheekhpaaA
open Go.RowKit

def wS : List (Int × Int) → Int → Int
  | [], _ => 0
  | e :: r, a => (if e.1 = a then e.2 else 0) + wS r a
def inS : List (Int × Int) → Int → Int
  | [], _ => 0
  | e :: r, b => (if b < e.1 then e.2 else 0) + inS r b
def toS : List (Int × Int) → Int
  | [] => 0
  | e :: r => e.2 + toS r
theorem wS_append (a : Int) (M : List (Int × Int)) : ∀ L, wS (L ++ M) a = wS L a + wS M a
  | [] => by simp [wS]
  | e :: r => by simp only [List.cons_append, wS, wS_append a M r]; omega
theorem inS_append (b : Int) (M : List (Int × Int)) : ∀ L, inS (L ++ M) b = inS L b + inS M b
  | [] => by simp [inS]
  | e :: r => by simp only [List.cons_append, inS, inS_append b M r]; omega
theorem toS_append (M : List (Int × Int)) : ∀ L, toS (L ++ M) = toS L + toS M
  | [] => by simp [toS]
  | e :: r => by simp only [List.cons_append, toS, toS_append M r]; omega
theorem inS_take {L : List (Int × Int)} {k : Nat} {e : Int × Int} (h : L[k]? = some e) (b : Int) : inS (L.take (k + 1)) b = inS (L.take k) b + if b < e.1 then e.2 else 0 := by
  rw [List.take_add_one, h, inS_append]
  simp [inS]
theorem wS_none {a : Int} : ∀ {L : List (Int × Int)}, (∀ e ∈ L, e.1 ≠ a) → wS L a = 0
  | [], _ => rfl
  | e :: r, h => by
    have ih := wS_none (L := r) fun x hx => h x (List.mem_cons_of_mem _ hx)
    simp only [wS, ih, if_neg (h e List.mem_cons_self)]
    rfl
theorem wS_bd (a : Int) : ∀ {L : List (Int × Int)}, (∀ e ∈ L, 0 ≤ e.2 ∧ e.2 ≤ 2047) → 0 ≤ wS L a ∧ wS L a ≤ 2047 * (L.length : Int)
  | [], _ => by simp [wS]
  | e :: r, h => by
    have ih := wS_bd a (L := r) fun x hx => h x (List.mem_cons_of_mem _ hx)
    have he := h e List.mem_cons_self
    simp only [wS, List.length_cons]
    split <;> omega
theorem inS_bd (b : Int) : ∀ {L : List (Int × Int)}, (∀ e ∈ L, 0 ≤ e.2 ∧ e.2 ≤ 2047) → 0 ≤ inS L b ∧ inS L b ≤ 2047 * (L.length : Int)
  | [], _ => by simp [inS]
  | e :: r, h => by
    have ih := inS_bd b (L := r) fun x hx => h x (List.mem_cons_of_mem _ hx)
    have he := h e List.mem_cons_self
    simp only [inS, List.length_cons]
    split <;> omega
theorem toS_bd : ∀ {L : List (Int × Int)}, (∀ e ∈ L, 0 ≤ e.2 ∧ e.2 ≤ 2047) → 0 ≤ toS L ∧ toS L ≤ 2047 * (L.length : Int)
  | [], _ => by simp [toS]
  | e :: r, h => by
    have ih := toS_bd (L := r) fun x hx => h x (List.mem_cons_of_mem _ hx)
    have he := h e List.mem_cons_self
    simp only [toS, List.length_cons]
    omega
theorem inS_sum {l : Int} : ∀ {L : List (Int × Int)}, (∀ e ∈ L, e.1 ≤ l) → inS L (l - 5) = wS L (l - 4) + wS L (l - 4 + 1) + wS L (l - 4 + 1 + 1) + wS L (l - 4 + 1 + 1 + 1) + wS L (l - 4 + 1 + 1 + 1 + 1)
  | [], _ => rfl
  | e :: r, h => by
    have ih := inS_sum (L := r) fun x hx => h x (List.mem_cons_of_mem _ hx)
    have he := h e List.mem_cons_self
    simp only [inS, wS, ih]
    by_cases c : l - 5 < e.1
    · rw [if_pos c]
      by_cases c0 : e.1 = l - 4
      · rw [if_pos c0, if_neg (by omega), if_neg (by omega), if_neg (by omega), if_neg (by omega)]; omega
      · by_cases c1 : e.1 = l - 4 + 1
        · rw [if_neg c0, if_pos c1, if_neg (by omega), if_neg (by omega), if_neg (by omega)]; omega
        · by_cases c2 : e.1 = l - 4 + 1 + 1
          · rw [if_neg c0, if_neg c1, if_pos c2, if_neg (by omega), if_neg (by omega)]; omega
          · by_cases c3 : e.1 = l - 4 + 1 + 1 + 1
            · rw [if_neg c0, if_neg c1, if_neg c2, if_pos c3, if_neg (by omega)]; omega
            · rw [if_neg c0, if_neg c1, if_neg c2, if_neg c3, if_pos (by omega)]; omega
    · rw [if_neg c, if_neg (by omega), if_neg (by omega), if_neg (by omega), if_neg (by omega), if_neg (by omega)]; omega
theorem clr_at (f : Nat → Int) (a : Int) : ∀ (n : Nat), n ≤ 5 → ∀ b : Int, 0 ≤ b → a - 5 < b → b ≤ a → clr f a n (b % 5).toNat = if a - n < b then 0 else f (b % 5).toNat
  | 0, _, b, h0, h1, h2 => by rw [if_neg (by simpa using h2)]; rfl
  | n + 1, hn, b, h0, h1, h2 => by
    have ih := clr_at f a n (by omega) b h0 h1 h2
    simp only [clr, fu]
    by_cases e : b = a - n
    · subst e
      rw [if_pos rfl, if_pos (by omega)]
    · rw [if_neg (by omega), ih]
      have : (a - (n : Int) < b) ↔ (a - ((n + 1 : Nat) : Int) < b) := by omega
      simp only [this]
/-- The meter holds what came in the last slots. -/
structure Ms (f : Nat → Int) (l t : Int) (L : List (Int × Int)) : Prop where
  l0 : 0 ≤ l
  le : ∀ e ∈ L, 0 ≤ e.1 ∧ e.1 ≤ l
  nn : ∀ e ∈ L, 0 ≤ e.2 ∧ e.2 ≤ 2047
  w : ∀ a, 0 ≤ a → l - 5 < a → a ≤ l → f (a % 5).toNat = wS L a
  tot : t = toS L
theorem Ms.zero : Ms zf 0 0 [] := ⟨by decide, fun e h => by simp at h, fun e h => by simp at h, fun _ _ _ _ => rfl, rfl⟩
theorem Ms.add {f : Nat → Int} {l t : Int} {L : List (Int × Int)} (h : Ms f l t L) (hL : L.length ≤ 60) {a n : Int} (ha : l ≤ a) (n0 : 0 ≤ n) (n1 : n ≤ 2047) :
    Ms (fu (clr f a (if 5 < a - l then 5 else a - l).toNat) (a % 5).toNat (sat (clr f a (if 5 < a - l then 5 else a - l).toNat (a % 5).toNat) n)) a (sat t n) (L ++ [(a, n)]) := by
  have l0 := h.l0
  obtain ⟨w, hw⟩ : ∃ w, (if 5 < a - l then 5 else a - l).toNat = w := ⟨_, rfl⟩
  rw [hw]
  have hw5 : w ≤ 5 ∧ (5 < a - l ∧ w = 5 ∨ a - l ≤ 5 ∧ (w : Int) = a - l) := by rw [← hw]; split <;> omega
  have hc : ∀ b, 0 ≤ b → a - 5 < b → b ≤ a → clr f a w (b % 5).toNat = wS L b := by
    intro b b0 b1 b2
    rw [clr_at f a w hw5.1 b b0 b1 b2]
    by_cases c : a - w < b
    · rw [if_pos c, wS_none]
      intro e he
      have := (h.le e he).2
      omega
    · rw [if_neg c]
      exact h.w b b0 (by omega) (by omega)
  have ht := toS_bd h.nn
  refine ⟨by omega, fun e he => ?_, fun e he => ?_, fun b b0 b1 b2 => ?_, ?_⟩
  · rcases List.mem_append.1 he with he | he
    · have := h.le e he; omega
    · simp only [List.mem_singleton] at he; subst he; dsimp only; omega
  · rcases List.mem_append.1 he with he | he
    · exact h.nn e he
    · simp only [List.mem_singleton] at he; subst he; dsimp only; omega
  · rw [wS_append]
    have hb := wS_bd b h.nn
    simp only [wS, fu]
    by_cases e : b = a
    · subst e
      rw [if_pos rfl, if_pos rfl, hc b b0 b1 b2, sat_ok hb.1 n0 (by omega)]
      omega
    · rw [if_neg (by omega), if_neg (Ne.symm e), hc b b0 b1 b2]
      omega
  · rw [toS_append, h.tot, sat_ok ht.1 n0 (by omega)]
    simp [toS]
theorem Ms.rs1 {f : Nat → Int} {l t : Int} {L : List (Int × Int)} (h : Ms f l t L) (hL : L.length ≤ 60) {i s : Int} (h0 : l - 5 < i) (h1 : i ≤ l) (s0 : 0 ≤ s) (s1 : s ≤ 1000000000) : (if 0 ≤ i ∧ l - 5 < i then sat s (f (i % 5).toNat) else s) = s + wS L i := by
  have hb := wS_bd i h.nn
  by_cases c : 0 ≤ i
  · rw [if_pos ⟨c, h0⟩, h.w i c h0 h1, sat_ok s0 hb.1 (by omega)]
  · rw [if_neg (fun k => c k.1), wS_none fun e he => by have := (h.le e he).1; omega]
    omega
theorem Ms.rate {f : Nat → Int} {l t : Int} {L : List (Int × Int)} (h : Ms f l t L) (hL : L.length ≤ 60) {now : Int} (hn : slot now = l) : rate f l now = upq (up (inS L (l - 5) * 1000000)) (up 500000) := by
  unfold Go.Proofs.YtinnclcheekhpaaA.rate
  dsimp only
  rw [hn, if_neg (by omega)]
  have hi := inS_bd (l - 5) h.nn
  have e1 : (l + 1 - (l - 5 + 1)).toNat = 5 := by omega
  have e2 : l - 5 + 1 = l - 4 := by omega
  have w0 := wS_bd (l - 4) h.nn
  have w1 := wS_bd (l - 4 + 1) h.nn
  have w2 := wS_bd (l - 4 + 1 + 1) h.nn
  have w3 := wS_bd (l - 4 + 1 + 1 + 1) h.nn
  have w4 := wS_bd (l - 4 + 1 + 1 + 1 + 1) h.nn
  have hr : rs f l 5 (l - 4) 0 = inS L (l - 5) := by
    rw [inS_sum fun e he => (h.le e he).2]
    simp only [rs]
    rw [h.rs1 hL (i := l - 4) (by omega) (by omega) (by omega) (by omega), h.rs1 hL (i := l - 4 + 1) (by omega) (by omega) (by omega) (by omega), h.rs1 hL (i := l - 4 + 1 + 1) (by omega) (by omega) (by omega) (by omega), h.rs1 hL (i := l - 4 + 1 + 1 + 1) (by omega) (by omega) (by omega) (by omega), h.rs1 hL (i := l - 4 + 1 + 1 + 1 + 1) (by omega) (by omega) (by omega) (by omega)]
    omega
  rw [e1, e2, hr, up_pos (a := inS L (l - 5)) hi.1, up_pos (a := 1000000) (by decide), up_pos (a := inS L (l - 5) * 1000000) (by omega)]
  have : mn (inS L (l - 5) * 1000000) M63 = inS L (l - 5) * 1000000 := by
    unfold mn M63
    split <;> omega
  rw [this, up_pos (by omega)]
end Go.Proofs.YtinnclcheekhpaaA
