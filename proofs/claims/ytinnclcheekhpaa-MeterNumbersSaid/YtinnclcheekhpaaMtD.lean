/- Chapter 16: both meters tell the same. -/
import Derived.Test.YtinnclcheekhpaaMtC
set_option linter.unusedVariables false
set_option linter.unusedSimpArgs false
set_option maxRecDepth 10000
namespace Go.Proofs.YtinnclcheekhpaaA
open Go.RowKit

structure Gd (f : Nat → Int) (l : Int) : Prop where
  l0 : 0 ≤ l
  l1 : l ≤ 92233720368547
  f0 : ∀ j, 0 ≤ f j
  f1 : ∀ j, f j ≤ 9223372036854775807
  z : ∀ j : Nat, j < 5 → l < j → f j = 0
theorem sat_mn {S x : Int} (h0 : 0 ≤ S) (h1 : 0 ≤ x) : sat (mn S M63) x = mn (S + x) M63 := by
  have : 0 ≤ mn S M63 := by unfold mn M63; split <;> omega
  unfold sat
  rw [up_pos this, up_pos h1]
  unfold mn M63
  (repeat' split) <;> omega
def sm (f : Nat → Int) : Nat → Int → Int
  | 0, _ => 0
  | n + 1, i => (if 0 ≤ i then f (i % 5).toNat else 0) + sm f n (i + 1)
theorem sm_nn {f : Nat → Int} (hf : ∀ j, 0 ≤ f j) : ∀ n i, 0 ≤ sm f n i
  | 0, _ => Int.le_refl _
  | n + 1, i => by
    have := sm_nn hf n (i + 1)
    have := hf (i % 5).toNat
    simp only [sm]
    split <;> omega
theorem rs_sum {f : Nat → Int} {l : Int} (hf : ∀ j, 0 ≤ f j) : ∀ (n : Nat) (i S : Int), l - 5 < i → 0 ≤ S → rs f l n i (mn S M63) = mn (S + sm f n i) M63
  | 0, i, S, _, _ => by simp only [rs, sm, Int.add_zero]
  | n + 1, i, S, hi, hS => by
    have hx := hf (i % 5).toNat
    simp only [rs, sm]
    by_cases c : 0 ≤ i
    · rw [if_pos ⟨c, hi⟩, if_pos c, sat_mn hS hx, rs_sum hf n (i + 1) _ (by omega) (by omega)]
      congr 1; omega
    · rw [if_neg (fun h => c h.1), if_neg c, rs_sum hf n (i + 1) _ (by omega) hS]
      congr 1; omega
theorem mn0 : mn 0 M63 = 0 := by decide
theorem ssum5 {g : Nat → Int} (hg : ∀ j, 0 ≤ g j) : ssum g 5 = mn (g 0 + g 1 + g 2 + g 3 + g 4) M63 := by
  have h0 := hg 0; have h1 := hg 1; have h2 := hg 2; have h3 := hg 3; have h4 := hg 4
  simp only [ssum]
  rw [← mn0, sat_mn (by decide) h0, sat_mn (by omega) h1, sat_mn (by omega) h2, sat_mn (by omega) h3, sat_mn (by omega) h4]
  congr 1; omega
theorem clr_zero (f : Nat → Int) (a : Int) : ∀ (n i : Nat), i < n → clr f a n ((a - (i : Int)) % 5).toNat = 0
  | 0, i, h => absurd h (Nat.not_lt_zero _)
  | n + 1, i, h => by
    simp only [clr, fu]
    split
    · rfl
    · by_cases e : i = n
      · subst e; rename_i hne; exact absurd rfl hne
      · exact clr_zero f a n i (by omega)
theorem clr_keep (f : Nat → Int) (a : Int) (j : Nat) : ∀ (n : Nat), (∀ i : Nat, i < n → j ≠ ((a - (i : Int)) % 5).toNat) → clr f a n j = f j
  | 0, _ => rfl
  | n + 1, h => by
    simp only [clr, fu]
    rw [if_neg (h n (Nat.lt_succ_self _))]
    exact clr_keep f a j n fun i hi => h i (by omega)
theorem clr_nn {f : Nat → Int} (hf : ∀ j, 0 ≤ f j) (a : Int) : ∀ n j, 0 ≤ clr f a n j
  | 0, j => hf j
  | n + 1, j => by
    simp only [clr, fu]
    split
    · exact Int.le_refl _
    · exact clr_nn hf a n j
theorem clr_le {f : Nat → Int} (hf : ∀ j, f j ≤ 9223372036854775807) (a : Int) : ∀ n j, clr f a n j ≤ 9223372036854775807
  | 0, j => hf j
  | n + 1, j => by
    simp only [clr, fu]
    split
    · decide
    · exact clr_le hf a n j
theorem perm5 (g : Nat → Int) (a : Int) : g ((a - 5 + 1) % 5).toNat + g ((a - 5 + 1 + 1) % 5).toNat + g ((a - 5 + 1 + 1 + 1) % 5).toNat + g ((a - 5 + 1 + 1 + 1 + 1) % 5).toNat + g ((a - 5 + 1 + 1 + 1 + 1 + 1) % 5).toNat = g 0 + g 1 + g 2 + g 3 + g 4 := by
  have h : a % 5 = 0 ∨ a % 5 = 1 ∨ a % 5 = 2 ∨ a % 5 = 3 ∨ a % 5 = 4 := by omega
  rcases h with h | h | h | h | h
  · rw [show ((a - 5 + 1) % 5).toNat = 1 by omega, show ((a - 5 + 1 + 1) % 5).toNat = 2 by omega, show ((a - 5 + 1 + 1 + 1) % 5).toNat = 3 by omega, show ((a - 5 + 1 + 1 + 1 + 1) % 5).toNat = 4 by omega, show ((a - 5 + 1 + 1 + 1 + 1 + 1) % 5).toNat = 0 by omega]; omega
  · rw [show ((a - 5 + 1) % 5).toNat = 2 by omega, show ((a - 5 + 1 + 1) % 5).toNat = 3 by omega, show ((a - 5 + 1 + 1 + 1) % 5).toNat = 4 by omega, show ((a - 5 + 1 + 1 + 1 + 1) % 5).toNat = 0 by omega, show ((a - 5 + 1 + 1 + 1 + 1 + 1) % 5).toNat = 1 by omega]; omega
  · rw [show ((a - 5 + 1) % 5).toNat = 3 by omega, show ((a - 5 + 1 + 1) % 5).toNat = 4 by omega, show ((a - 5 + 1 + 1 + 1) % 5).toNat = 0 by omega, show ((a - 5 + 1 + 1 + 1 + 1) % 5).toNat = 1 by omega, show ((a - 5 + 1 + 1 + 1 + 1 + 1) % 5).toNat = 2 by omega]; omega
  · rw [show ((a - 5 + 1) % 5).toNat = 4 by omega, show ((a - 5 + 1 + 1) % 5).toNat = 0 by omega, show ((a - 5 + 1 + 1 + 1) % 5).toNat = 1 by omega, show ((a - 5 + 1 + 1 + 1 + 1) % 5).toNat = 2 by omega, show ((a - 5 + 1 + 1 + 1 + 1 + 1) % 5).toNat = 3 by omega]; omega
  · rw [show ((a - 5 + 1) % 5).toNat = 0 by omega, show ((a - 5 + 1 + 1) % 5).toNat = 1 by omega, show ((a - 5 + 1 + 1 + 1) % 5).toNat = 2 by omega, show ((a - 5 + 1 + 1 + 1 + 1) % 5).toNat = 3 by omega, show ((a - 5 + 1 + 1 + 1 + 1 + 1) % 5).toNat = 4 by omega]
theorem sums {f : Nat → Int} {l a : Int} (g : Gd f l) (h : l ≤ a) (n : Nat) (hn : n ≤ 5) (hw : (n : Int) = if 5 < a - l then 5 else a - l) : sm f (5 - n) (a - 5 + 1) = clr f a n 0 + clr f a n 1 + clr f a n 2 + clr f a n 3 + clr f a n 4 := by
  have hl0 := g.l0
  rw [← perm5 (clr f a n) a]
  have hz : ∀ (t : Nat) (x : Int), x = a - 5 + 1 + t → t < 5 → 5 - n ≤ t → clr f a n (x % 5).toNat = 0 := by
    intro t x hx ht hnt
    have := clr_zero f a n (4 - t) (by omega)
    rw [show x = a - ((4 - t : Nat) : Int) by omega]
    exact this
  have hk : ∀ (t : Nat) (x : Int), x = a - 5 + 1 + t → t < 5 - n → clr f a n (x % 5).toNat = (if 0 ≤ x then f (x % 5).toNat else 0) := by
    intro t x hx hnt
    rw [clr_keep f a (x % 5).toNat n (fun i hi => by omega)]
    split
    · rfl
    · refine g.z (x % 5).toNat (by omega) ?_
      have hl : a - (n : Int) ≥ l := by split at hw <;> omega
      have hl2 : l ≤ a - n := hl
      by_cases c5 : 5 < a - l
      · rw [if_pos c5] at hw; omega
      · rw [if_neg c5] at hw
        have : (x % 5).toNat = x + 5 := by omega
        omega
  match n, hn with
  | 0, _ =>
    rw [hk 0 (a - 5 + 1) (by omega) (by omega), hk 1 (a - 5 + 1 + 1) (by omega) (by omega), hk 2 (a - 5 + 1 + 1 + 1) (by omega) (by omega), hk 3 (a - 5 + 1 + 1 + 1 + 1) (by omega) (by omega), hk 4 (a - 5 + 1 + 1 + 1 + 1 + 1) (by omega) (by omega)]
    simp only [Nat.reduceSub, Nat.sub_self, Nat.sub_zero, sm]; omega
  | 1, _ =>
    rw [hk 0 (a - 5 + 1) (by omega) (by omega), hk 1 (a - 5 + 1 + 1) (by omega) (by omega), hk 2 (a - 5 + 1 + 1 + 1) (by omega) (by omega), hk 3 (a - 5 + 1 + 1 + 1 + 1) (by omega) (by omega), hz 4 (a - 5 + 1 + 1 + 1 + 1 + 1) (by omega) (by omega) (by omega)]
    simp only [Nat.reduceSub, Nat.sub_self, Nat.sub_zero, sm]; omega
  | 2, _ =>
    rw [hk 0 (a - 5 + 1) (by omega) (by omega), hk 1 (a - 5 + 1 + 1) (by omega) (by omega), hk 2 (a - 5 + 1 + 1 + 1) (by omega) (by omega), hz 3 (a - 5 + 1 + 1 + 1 + 1) (by omega) (by omega) (by omega), hz 4 (a - 5 + 1 + 1 + 1 + 1 + 1) (by omega) (by omega) (by omega)]
    simp only [Nat.reduceSub, Nat.sub_self, Nat.sub_zero, sm]; omega
  | 3, _ =>
    rw [hk 0 (a - 5 + 1) (by omega) (by omega), hk 1 (a - 5 + 1 + 1) (by omega) (by omega), hz 2 (a - 5 + 1 + 1 + 1) (by omega) (by omega) (by omega), hz 3 (a - 5 + 1 + 1 + 1 + 1) (by omega) (by omega) (by omega), hz 4 (a - 5 + 1 + 1 + 1 + 1 + 1) (by omega) (by omega) (by omega)]
    simp only [Nat.reduceSub, Nat.sub_self, Nat.sub_zero, sm]; omega
  | 4, _ =>
    rw [hk 0 (a - 5 + 1) (by omega) (by omega), hz 1 (a - 5 + 1 + 1) (by omega) (by omega) (by omega), hz 2 (a - 5 + 1 + 1 + 1) (by omega) (by omega) (by omega), hz 3 (a - 5 + 1 + 1 + 1 + 1) (by omega) (by omega) (by omega), hz 4 (a - 5 + 1 + 1 + 1 + 1 + 1) (by omega) (by omega) (by omega)]
    simp only [Nat.reduceSub, Nat.sub_self, Nat.sub_zero, sm]; omega
  | 5, _ =>
    rw [hz 0 (a - 5 + 1) (by omega) (by omega) (by omega), hz 1 (a - 5 + 1 + 1) (by omega) (by omega) (by omega), hz 2 (a - 5 + 1 + 1 + 1) (by omega) (by omega) (by omega), hz 3 (a - 5 + 1 + 1 + 1 + 1) (by omega) (by omega) (by omega), hz 4 (a - 5 + 1 + 1 + 1 + 1 + 1) (by omega) (by omega) (by omega)]
    simp only [Nat.reduceSub, Nat.sub_self, sm]; omega
theorem rate_eq {f : Nat → Int} {l : Int} (g : Gd f l) (now : Int) : rate2 f l now = rate f l now := by
  unfold rate rate2
  dsimp only
  obtain ⟨a, ha⟩ : ∃ a, (if l < slot now then slot now else l) = a := ⟨_, rfl⟩
  have hl : l ≤ a := by rw [← ha]; split <;> omega
  rw [ha]
  obtain ⟨n, hn⟩ : ∃ n : Nat, (if 5 < a - l then 5 else a - l).toNat = n := ⟨_, rfl⟩
  have hw : (n : Int) = if 5 < a - l then 5 else a - l := by rw [← hn]; split <;> omega
  have hn5 : n ≤ 5 := by rw [← hn]; split <;> omega
  have hN : (l + 1 - (a - 5 + 1)).toNat = 5 - n := by split at hw <;> omega
  rw [hn, hN, ssum5 (clr_nn g.f0 a n)]
  have h := rs_sum (l := l) g.f0 (5 - n) (a - 5 + 1) 0 (by omega) (Int.le_refl _)
  rw [mn0, Int.zero_add] at h
  rw [h, sums g hl n hn5 hw]
/-- What an Add leaves is good. -/
theorem add_gd {f : Nat → Int} {l : Int} (g : Gd f l) (a n : Int) (h : l ≤ a) (h1 : a ≤ 92233720368547) (hn : 0 ≤ n) (m : Nat) :
    Gd (fu (clr f a m) (a % 5).toNat (sat (clr f a m (a % 5).toNat) n)) a := by
  have l0 := g.l0
  have hs : ∀ x y : Int, 0 ≤ sat x y ∧ sat x y ≤ 9223372036854775807 := by
    intro x y
    have := up_nn x; have := up_nn y
    unfold sat mn M63
    split <;> omega
  refine ⟨by omega, h1, fun j => ?_, fun j => ?_, fun j hj hl => ?_⟩
  · unfold fu; split
    · exact (hs _ _).1
    · exact clr_nn g.f0 a m j
  · unfold fu; split
    · exact (hs _ _).2
    · exact clr_le g.f1 a m j
  · unfold fu
    rw [if_neg (by omega)]
    have hz := g.z j hj (by omega)
    have : ∀ q, clr f a q j = 0 := by
      intro q
      induction q with
      | zero => exact hz
      | succ q ih =>
        simp only [clr, fu]
        split
        · rfl
        · exact ih
    exact this m
theorem zf_gd : Gd zf 0 := ⟨by decide, by decide, fun _ => Int.le_refl _, fun _ => by show (0:Int) ≤ 9223372036854775807; decide, fun _ _ _ => rfl⟩
end Go.Proofs.YtinnclcheekhpaaA
