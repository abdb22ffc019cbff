/- Chapter 2: runes, written and read again. -/
import Derived.Test.YtihddjacbalekaaRdC
set_option linter.unusedVariables false
set_option linter.unusedSimpArgs false
set_option maxRecDepth 10000
namespace Go.Proofs.YtihddjacbalekaaA
open Go.RowKit

/-! ### Decoding, on lists of numbers -/
def bt (l : List Nat) (k : Nat) : Nat := (l[k]?).getD 0 % 256
def ct (l : List Nat) (k : Nat) : Bool := decide (k < l.length) && bt l k / 64 == 2
def decB (b0 b1 b2 b3 : Nat) (c1 c2 c3 : Bool) : Nat × Nat :=
  if b0 < 0x80 then (b0, 1)
  else if b0 / 32 == 6 && c1 then
    if (b0 % 32) * 64 + b1 % 64 ≥ 0x80 then ((b0 % 32) * 64 + b1 % 64, 2) else (65533, 1)
  else if b0 / 16 == 14 && c1 && c2 then
    if (b0 % 16) * 4096 + (b1 % 64) * 64 + b2 % 64 ≥ 0x800 && Utf8.valid ((b0 % 16) * 4096 + (b1 % 64) * 64 + b2 % 64 : Nat) then ((b0 % 16) * 4096 + (b1 % 64) * 64 + b2 % 64, 3) else (65533, 1)
  else if b0 / 8 == 30 && c1 && c2 && c3 then
    if (b0 % 8) * 262144 + (b1 % 64) * 4096 + (b2 % 64) * 64 + b3 % 64 ≥ 0x10000 && Utf8.valid ((b0 % 8) * 262144 + (b1 % 64) * 4096 + (b2 % 64) * 64 + b3 % 64 : Nat) then ((b0 % 8) * 262144 + (b1 % 64) * 4096 + (b2 % 64) * 64 + b3 % 64, 4) else (65533, 1)
  else (65533, 1)
def decN (l : List Nat) : Nat × Nat := decB (bt l 0) (bt l 1) (bt l 2) (bt l 3) (ct l 1) (ct l 2) (ct l 3)
theorem dec_N (l : List Nat) : decR l = decN l := by
  have hg : ∀ k, k < 4 → ((ByteArray.mk ((l.take 4).map UInt8.ofNat).toArray).get! (0 + k)).toNat = bt l k := by
    intro k hk
    rw [get_bang, Nat.zero_add]
    simp only [List.getElem?_map, List.getElem?_take_of_lt hk]
    unfold bt
    cases l[k]? with
    | none => rfl
    | some b => simp
  have hs : ∀ k, k < 4 → (0 + k < (ByteArray.mk ((l.take 4).map UInt8.ofNat).toArray).size ↔ k < l.length) := by
    intro k hk
    show 0 + k < ((l.take 4).map UInt8.ofNat).toArray.size ↔ _
    simp; omega
  unfold decR Utf8.decode decN decB
  simp only [hg 0 (by decide), hg 1 (by decide), hg 2 (by decide), hg 3 (by decide), hs 1 (by decide), hs 2 (by decide), hs 3 (by decide), Utf8.runeError, ct]
  rfl
theorem valid_iff (r : Int) : Utf8.valid r = true ↔ (0 ≤ r ∧ r < 0xD800) ∨ (0xE000 ≤ r ∧ r ≤ 0x10FFFF) := by
  unfold Utf8.valid
  simp only [Bool.or_eq_true, Bool.and_eq_true, decide_eq_true_eq]
/-- What is read is a rune. -/
theorem dec_valid (l : List Nat) : Utf8.valid ((decR l).1 : Int) = true := by
  rw [dec_N]
  unfold decN decB
  split
  · rw [valid_iff]; left; dsimp only; omega
  · split
    · split
      · rw [valid_iff]; left; dsimp only; omega
      · rfl
    · split
      · split
        · rename_i h; simp only [Bool.and_eq_true] at h; exact h.2
        · rfl
      · split
        · split
          · rename_i h; simp only [Bool.and_eq_true] at h; exact h.2
          · rfl
        · rfl
theorem enc_N {r : Int} (h : Utf8.valid r = true) : encR r = (let c := r.toNat
    if c < 0x80 then [c % 256] else if c < 0x800 then [(0xC0 + c / 64) % 256, (0x80 + c % 64) % 256]
    else if c < 0x10000 then [(0xE0 + c / 4096) % 256, (0x80 + c / 64 % 64) % 256, (0x80 + c % 64) % 256]
    else [(0xF0 + c / 262144) % 256, (0x80 + c / 4096 % 64) % 256, (0x80 + c / 64 % 64) % 256, (0x80 + c % 64) % 256]) := by
  unfold encR Utf8.encode
  simp only [h, if_true]
  split
  · simp
  · split
    · simp
    · split
      · simp
      · simp
/-- A rune that is written is read again. -/
theorem dec_enc {r : Int} (h : Utf8.valid r = true) (t : List Nat) : decR (encR r ++ t) = (r.toNat, (encR r).length) := by
  rw [dec_N, enc_N h]
  have hv := (valid_iff r).1 h
  obtain ⟨c, rfl⟩ := Int.eq_ofNat_of_zero_le (show 0 ≤ r by omega)
  simp only [Int.toNat_natCast]
  have hv2 : Utf8.valid (c : Int) = true := h
  by_cases c1 : c < 0x80
  · simp only [if_pos c1]
    unfold decN decB
    have e0 : bt ([c % 256] ++ t) 0 = c := by simp [bt]; omega
    rw [e0, if_pos c1]
    rfl
  · by_cases c2 : c < 0x800
    · simp only [if_neg c1, if_pos c2]
      have e0 : bt ([(0xC0 + c / 64) % 256, (0x80 + c % 64) % 256] ++ t) 0 = 0xC0 + c / 64 := by simp [bt]; omega
      have e1 : bt ([(0xC0 + c / 64) % 256, (0x80 + c % 64) % 256] ++ t) 1 = 0x80 + c % 64 := by simp [bt]; omega
      have k1 : ct ([(0xC0 + c / 64) % 256, (0x80 + c % 64) % 256] ++ t) 1 = true := by
        unfold ct; rw [e1]; simp; omega
      unfold decN decB
      rw [e0, e1, k1]
      rw [if_neg (by omega), if_pos (by simp; omega), if_pos (by omega)]
      simp; omega
    · by_cases c3 : c < 0x10000
      · simp only [if_neg c1, if_neg c2, if_pos c3]
        obtain ⟨l, hl⟩ : ∃ l, [(0xE0 + c / 4096) % 256, (0x80 + c / 64 % 64) % 256, (0x80 + c % 64) % 256] ++ t = l := ⟨_, rfl⟩
        have e0 : bt l 0 = 0xE0 + c / 4096 := by rw [← hl]; simp [bt]; omega
        have e1 : bt l 1 = 0x80 + c / 64 % 64 := by rw [← hl]; simp [bt]; omega
        have e2 : bt l 2 = 0x80 + c % 64 := by rw [← hl]; simp [bt]; omega
        have k1 : ct l 1 = true := by unfold ct; rw [e1, ← hl]; simp; omega
        have k2 : ct l 2 = true := by unfold ct; rw [e2, ← hl]; simp; omega
        rw [hl]
        have ev : (0xE0 + c / 4096) % 16 * 4096 + (0x80 + c / 64 % 64) % 64 * 64 + (0x80 + c % 64) % 64 = c := by omega
        unfold decN decB
        rw [e0, e1, e2, k1, k2, ev]
        rw [if_neg (by omega), if_neg (by simp; omega), if_pos (by simp; omega), if_pos (by simp only [Bool.and_eq_true, decide_eq_true_eq]; exact ⟨by omega, hv2⟩)]
        simp
      · simp only [if_neg c1, if_neg c2, if_neg c3]
        obtain ⟨l, hl⟩ : ∃ l, [(0xF0 + c / 262144) % 256, (0x80 + c / 4096 % 64) % 256, (0x80 + c / 64 % 64) % 256, (0x80 + c % 64) % 256] ++ t = l := ⟨_, rfl⟩
        have e0 : bt l 0 = 0xF0 + c / 262144 := by rw [← hl]; simp [bt]; omega
        have e1 : bt l 1 = 0x80 + c / 4096 % 64 := by rw [← hl]; simp [bt]; omega
        have e2 : bt l 2 = 0x80 + c / 64 % 64 := by rw [← hl]; simp [bt]; omega
        have e3 : bt l 3 = 0x80 + c % 64 := by rw [← hl]; simp [bt]; omega
        have k1 : ct l 1 = true := by unfold ct; rw [e1, ← hl]; simp; omega
        have k2 : ct l 2 = true := by unfold ct; rw [e2, ← hl]; simp; omega
        have k3 : ct l 3 = true := by unfold ct; rw [e3, ← hl]; simp; omega
        rw [hl]
        have ev : (0xF0 + c / 262144) % 8 * 262144 + (0x80 + c / 4096 % 64) % 64 * 4096 + (0x80 + c / 64 % 64) % 64 * 64 + (0x80 + c % 64) % 64 = c := by omega
        unfold decN decB
        rw [e0, e1, e2, e3, k1, k2, k3, ev]
        rw [if_neg (by omega), if_neg (by simp; omega), if_neg (by simp; omega), if_pos (by simp; omega), if_pos (by simp only [Bool.and_eq_true, decide_eq_true_eq]; exact ⟨by omega, hv2⟩)]
        simp
/-- A text cut behind a rune is read as it was. -/
theorem dec_take (l : List Nat) (m : Nat) (hm : (decR l).2 ≤ m) : decR (l.take m) = decR l := by
  have hp := (decR_bound l).2.1
  rw [dec_N] at hm hp
  rw [dec_N, dec_N]
  have hb : ∀ k, k < m → bt (l.take m) k = bt l k := by
    intro k hk
    unfold bt
    rw [List.getElem?_take_of_lt hk]
  have hc : ∀ k, k < m → ct (l.take m) k = ct l k := by
    intro k hk
    unfold ct
    rw [hb k hk, List.length_take]
    congr 1
    exact decide_eq_decide.2 (by omega)
  have hn : ∀ k, m ≤ k → ct (l.take m) k = false := by
    intro k hk
    unfold ct
    rw [List.length_take, decide_eq_false (by omega)]
    rfl
  unfold decN at hm hp ⊢
  rw [hb 0 (by omega)]
  obtain ⟨b0, h0⟩ : ∃ b, bt l 0 = b := ⟨_, rfl⟩
  rw [h0] at hm hp ⊢
  by_cases m1 : 1 < m
  · rw [hb 1 m1, hc 1 m1]
    by_cases m2 : 2 < m
    · rw [hb 2 m2, hc 2 m2]
      by_cases m3 : 3 < m
      · rw [hb 3 m3, hc 3 m3]
      · rw [hn 3 (by omega)]
        unfold decB at hm ⊢
        by_cases a1 : b0 < 0x80
        · rw [if_pos a1, if_pos a1]
        · rw [if_neg a1] at hm ⊢
          rw [if_neg a1]
          by_cases a2 : (b0 / 32 == 6 && ct l 1) = true
          · rw [if_pos a2, if_pos a2]
          · rw [if_neg a2] at hm ⊢
            rw [if_neg a2]
            by_cases a3 : (b0 / 16 == 14 && ct l 1 && ct l 2) = true
            · rw [if_pos a3, if_pos a3]
            · rw [if_neg a3] at hm ⊢
              rw [if_neg a3]
              rw [if_neg (by simp)]
              by_cases a4 : (b0 / 8 == 30 && ct l 1 && ct l 2 && ct l 3) = true
              · rw [if_pos a4] at hm ⊢
                split at hm
                · dsimp only at hm; omega
                · rename_i h; rw [if_neg h]
              · rw [if_neg a4]
    · rw [hn 2 (by omega), hn 3 (by omega)]
      unfold decB at hm ⊢
      by_cases a1 : b0 < 0x80
      · rw [if_pos a1, if_pos a1]
      · rw [if_neg a1] at hm ⊢
        rw [if_neg a1]
        by_cases a2 : (b0 / 32 == 6 && ct l 1) = true
        · rw [if_pos a2, if_pos a2]
        · rw [if_neg a2] at hm ⊢
          rw [if_neg a2]
          rw [if_neg (by simp), if_neg (by simp)]
          split at hm
          · split at hm
            · dsimp only at hm; omega
            · rename_i h h'; rw [if_pos h, if_neg h']
          · rename_i h
            rw [if_neg h]
            split at hm
            · split at hm
              · dsimp only at hm; omega
              · rename_i h h'; rw [if_pos h, if_neg h']
            · rename_i h; rw [if_neg h]
  · rw [hn 1 (by omega), hn 2 (by omega), hn 3 (by omega)]
    unfold decB at hm ⊢
    by_cases a1 : b0 < 0x80
    · rw [if_pos a1, if_pos a1]
    · rw [if_neg a1] at hm ⊢
      rw [if_neg a1]
      rw [if_neg (by simp), if_neg (by simp), if_neg (by simp)]
      split at hm
      · split at hm
        · dsimp only at hm; omega
        · rename_i h h'; rw [if_pos h, if_neg h']
      · rename_i h
        rw [if_neg h]
        split at hm
        · split at hm
          · dsimp only at hm; omega
          · rename_i h h'; rw [if_pos h, if_neg h']
        · rename_i h
          rw [if_neg h]
          split at hm
          · split at hm
            · dsimp only at hm; omega
            · rename_i h h'; rw [if_pos h, if_neg h']
          · rename_i h; rw [if_neg h]
theorem Rr_len0 {pos : Nat} {l : List Nat} (h : l ≠ []) : Rr pos l = (pos, (decR l).1) :: Rr (pos + (decR l).2) (l.drop (decR l).2) := by
  cases l with
  | nil => exact absurd rfl h
  | cons b l => exact Rr_cons pos b l
/-- Runes do not hang on where a text lies. -/
theorem Rr_snd : ∀ (n : Nat) (l : List Nat) (p q : Nat), l.length ≤ n → (Rr p l).map (·.2) = (Rr q l).map (·.2) := by
  intro n
  induction n with
  | zero =>
    intro l p q h
    obtain rfl : l = [] := List.length_eq_zero_iff.1 (by omega)
    rfl
  | succ n ih =>
    intro l p q h
    cases l with
    | nil => rfl
    | cons b l =>
      have hb := decR_bound (b :: l)
      rw [Rr_cons, Rr_cons, List.map_cons, List.map_cons, ih _ _ _ (by rw [List.length_drop]; omega)]
/-- Runes that are written are read again. -/
theorem Rr_enc : ∀ (rs : List Int) (p : Nat), (∀ r ∈ rs, Utf8.valid r = true) → (Rr p (rs.flatMap encR)).map (·.2) = rs.map Int.toNat := by
  intro rs
  induction rs with
  | nil => intro p _; rfl
  | cons r rs ih =>
    intro p hv
    have hr := hv r (List.mem_cons_self ..)
    have hd := dec_enc hr (rs.flatMap encR)
    rw [List.flatMap_cons]
    have hw := (decR_bound (encR r ++ rs.flatMap encR)).2.1
    rw [hd] at hw
    dsimp only at hw
    have hne : encR r ++ rs.flatMap encR ≠ [] := by
      intro h
      have := congrArg List.length h
      rw [List.length_append, List.length_nil] at this
      omega
    rw [Rr_len0 hne, hd, List.map_cons, List.map_cons]
    dsimp only
    rw [List.drop_left, ih _ fun x hx => hv x (List.mem_cons_of_mem _ hx)]
theorem Rr_valid : ∀ (n : Nat) (l : List Nat) (p : Nat), l.length ≤ n → ∀ x ∈ Rr p l, Utf8.valid (x.2 : Int) = true := by
  intro n
  induction n with
  | zero =>
    intro l p h
    obtain rfl : l = [] := List.length_eq_zero_iff.1 (by omega)
    intro x hx; cases hx
  | succ n ih =>
    intro l p h x hx
    cases l with
    | nil => cases hx
    | cons b l =>
      have hb := decR_bound (b :: l)
      rw [Rr_cons] at hx
      rcases List.mem_cons.1 hx with rfl | hx
      · exact dec_valid (b :: l)
      · exact ih _ _ (by rw [List.length_drop]; omega) x hx
/-- What is ahead of a rune is read as it was. -/
theorem Rr_take : ∀ (k : Nat) (l : List Nat) (p : Nat) (x : Nat × Nat), (Rr p l)[k]? = some x → p ≤ x.1 ∧ Rr p (l.take (x.1 - p)) = (Rr p l).take k ∧ Rr x.1 (l.drop (x.1 - p)) = (Rr p l).drop k := by
  intro k
  induction k with
  | zero =>
    intro l p x h
    cases l with
    | nil => cases h
    | cons b l =>
      rw [Rr_cons] at h
      simp only [List.getElem?_cons_zero, Option.some.injEq] at h
      subst h
      dsimp only
      refine ⟨Nat.le_refl _, ?_, ?_⟩
      · rw [Nat.sub_self]; rfl
      · rw [Nat.sub_self]; rfl
  | succ k ih =>
    intro l p x h
    cases l with
    | nil => cases h
    | cons b l =>
      have hb := decR_bound (b :: l)
      rw [Rr_cons] at h ⊢
      simp only [List.getElem?_cons_succ] at h
      obtain ⟨h1, h2, h3⟩ := ih _ _ _ h
      obtain ⟨w, hw⟩ : ∃ w, (decR (b :: l)).2 = w := ⟨_, rfl⟩
      rw [hw] at h h1 h2 h3 hb ⊢
      have hdt := dec_take (b :: l) (x.1 - p) (by rw [hw]; omega)
      have hne : (b :: l).take (x.1 - p) ≠ [] := by
        intro h0
        have := congrArg List.length h0
        rw [List.length_take, List.length_nil, List.length_cons] at this
        omega
      have e1 : ((b :: l).take (x.1 - p)).drop w = ((b :: l).drop w).take (x.1 - (p + w)) := by
        rw [List.drop_take]
        congr 1
        omega
      refine ⟨by omega, ?_, ?_⟩
      · rw [Rr_len0 hne, hdt, hw, e1, h2]
        rfl
      · rw [List.drop_succ_cons, ← h3, List.drop_drop]
        congr 2
        omega
end Go.Proofs.YtihddjacbalekaaA
