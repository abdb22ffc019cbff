/- Chapter 15: what was seen, as a row of numbers (mathematics alone); maps of counts. -/
import Derived.Test.YtanloaedpalblaaSeqH
set_option linter.unusedVariables false
set_option linter.unusedSimpArgs false
set_option maxRecDepth 10000
namespace Go.Proofs.YtanloaedpalblaaA
open Go.RowKit

theorem shl_nat' (A d : Nat) : (IntKind.u64.wrap ((A : Int) * 2 ^ d)).toNat = A * 2 ^ d % 2 ^ 64 := by
  rw [wrap_u64]
  have : ((A : Int) * 2 ^ d) = ((A * 2 ^ d : Nat) : Int) := by push_cast; rfl
  rw [this]
  omega
theorem orb_bit {M d : Int} (h0 : 0 ≤ M) (h1 : M < 18446744073709551616) (hd : 1 ≤ d) (i : Nat) (hi : i ≤ 63) : (orb M d).toNat.testBit i = true ↔ i = 0 ∨ (d.toNat ≤ i ∧ M.toNat.testBit (i - d.toNat) = true) := by
  obtain ⟨a, b, c⟩ := or_bound (wrap_bd (M * 2 ^ min d.toNat 64)).1 (wrap_bd _).2 (b := 1) (by decide) (by decide)
  unfold orb
  rw [c, Nat.testBit_or]
  obtain ⟨A, rfl⟩ := Int.eq_ofNat_of_zero_le h0
  obtain ⟨D, rfl⟩ := Int.eq_ofNat_of_zero_le (show 0 ≤ d by omega)
  rw [shl_nat' A, Nat.testBit_mod_two_pow, Nat.mul_comm, Nat.testBit_two_pow_mul]
  have e1 : (1 : Int).toNat.testBit i = decide (i = 0) := by
    show Nat.testBit 1 i = _
    cases i with
    | zero => rfl
    | succ i => simp [Nat.testBit_succ]
  rw [e1]
  simp only [Int.toNat_natCast, Bool.or_eq_true, Bool.and_eq_true, decide_eq_true_eq]
  by_cases hD : D ≤ i
  · have e : min D 64 = D := by omega
    rw [e]
    constructor
    · rintro (⟨_, h2, h3⟩ | h)
      · exact .inr ⟨h2, h3⟩
      · exact .inl h
    · rintro (h | ⟨h2, h3⟩)
      · exact .inr h
      · exact .inl ⟨by omega, h2, h3⟩
  · constructor
    · rintro (⟨_, h2, h3⟩ | h)
      · omega
      · exact .inl h
    · rintro (h | ⟨h2, h3⟩)
      · exact .inr h
      · omega
theorem ors_bit {M d : Int} (h0 : 0 ≤ M) (h1 : M < 18446744073709551616) (hd : 0 ≤ d) (hd' : d ≤ 63) (i : Nat) (hi : i ≤ 63) : (ors M d).toNat.testBit i = true ↔ M.toNat.testBit i = true ∨ (i : Int) = d := by
  obtain ⟨a, b, c⟩ := or_bound h0 h1 (wrap_bd (1 * 2 ^ min d.toNat 64)).1 (wrap_bd _).2
  unfold ors
  rw [c, Nat.testBit_or]
  obtain ⟨D, rfl⟩ := Int.eq_ofNat_of_zero_le hd
  have := shl_nat' 1 (min (D : Int).toNat 64)
  rw [show ((1 : Nat) : Int) = 1 from rfl] at this
  rw [this, Nat.testBit_mod_two_pow, Nat.one_mul, Nat.testBit_two_pow]
  simp only [Int.toNat_natCast, Bool.or_eq_true, Bool.and_eq_true, decide_eq_true_eq]
  constructor
  · rintro (h | ⟨_, h⟩)
    · exact .inl h
    · exact .inr (by omega)
  · rintro (h | h)
    · exact .inl h
    · exact .inr ⟨by omega, by omega⟩
theorem seen_iff {M d : Int} (h0 : 0 ≤ M) (h1 : M < 18446744073709551616) (hd : 0 ≤ d) (hd' : d ≤ 63) : seen M d = 1 ↔ M.toNat.testBit d.toNat = true := by
  refine ⟨fun h => ?_, seen_bit h0 h1 hd hd'⟩
  obtain ⟨A, rfl⟩ := Int.eq_ofNat_of_zero_le h0
  obtain ⟨D, rfl⟩ := Int.eq_ofNat_of_zero_le hd
  unfold seen at h
  have e : min (D : Int).toNat 64 = D := by omega
  have := and_u64 1 (by decide) ((A : Int) / 2 ^ D)
  rw [e] at h
  have h' := this.symm.trans h
  simp only [Int.toNat_natCast, Nat.testBit_eq_decide_div_mod_eq, decide_eq_true_eq]
  have e2 : ((A : Int) / 2 ^ D) = ((A / 2 ^ D : Nat) : Int) := by push_cast; rfl
  rw [e2] at h'
  omega
/-- How many of a row lie from a up to b. -/
def cnt (K : List Int) (a b : Int) : Nat :=
  match K with
  | [] => 0
  | k :: r => (if a ≤ k ∧ k < b then 1 else 0) + cnt r a b
theorem cnt_top {a b c : Int} : ∀ {K : List Int}, (∀ k ∈ K, k < b) → b ≤ c → cnt K a c = cnt K a b
  | [], _, _ => rfl
  | k :: r, h, hc => by
    have := h k List.mem_cons_self
    have ih := cnt_top (a := a) (fun x hx => h x (List.mem_cons_of_mem _ hx)) hc
    simp only [cnt, ih]
    have e : (a ≤ k ∧ k < c) ↔ (a ≤ k ∧ k < b) := by omega
    simp only [e]
theorem cnt_self (a : Int) : ∀ K : List Int, cnt K a a = 0
  | [] => rfl
  | k :: r => by simp only [cnt, cnt_self a r]; rw [if_neg (by omega)]
theorem cnt_succ {a n : Int} (h : a ≤ n) : ∀ {K : List Int}, K.Nodup → cnt K a (n + 1) = cnt K a n + if n ∈ K then 1 else 0
  | [], _ => rfl
  | k :: r, hn => by
    have ih := cnt_succ h (List.nodup_cons.1 hn).2
    have hk := (List.nodup_cons.1 hn).1
    simp only [cnt, ih]
    by_cases e : n = k
    · subst e
      rw [if_pos (show a ≤ n ∧ n < n + 1 by omega), if_neg (show ¬ (a ≤ n ∧ n < n) by omega), if_neg hk, if_pos List.mem_cons_self]
      omega
    · have e1 : (a ≤ k ∧ k < n + 1) ↔ (a ≤ k ∧ k < n) := by omega
      have e2 : n ∈ k :: r ↔ n ∈ r := by rw [List.mem_cons]; exact ⟨fun h => h.resolve_left e, .inr⟩
      simp only [e1, e2]
      omega
theorem cnt_le (a b : Int) : ∀ K : List Int, cnt K a b ≤ K.length
  | [] => Nat.le_refl _
  | k :: r => by
    have := cnt_le a b r
    simp only [cnt, List.length_cons]
    split <;> omega
/-- What was seen are the numbers of a row. -/
structure Kn (s : Sn) (K : List Int) : Prop where
  none_ : s.l < 0 → K = []
  nodup : K.Nodup
  le : ∀ k ∈ K, k ≤ s.l
  bit : 0 ≤ s.l → ∀ d : Nat, d ≤ 63 → (s.M.toNat.testBit d = true ↔ s.l - d ∈ K)
  cnt : s.c = cnt K s.f (s.l + 1)
theorem kn0 : Kn s0 [] := ⟨fun _ => rfl, List.nodup_nil, fun k h => by simp at h, fun h => absurd h (by decide), rfl⟩
theorem Kn.isDup {s : Sn} {K : List Int} {r : Nat} (h : Kn s K) (g : Good r s) {x : Int} (c0 : ¬ s.l < 0) (c1 : ¬ s.l < x) : dup s x ↔ (x ∈ K ∨ ¬ s.l - 64 < x) := by
  unfold Go.Proofs.YtanloaedpalblaaA.dup
  by_cases c : 63 < s.l - x
  · exact ⟨fun _ => .inr (by omega), fun _ => .inl c⟩
  · have hb := h.bit (by omega) (s.l - x).toNat (by omega)
    have hs := seen_iff g.m0 g.m1 (d := s.l - x) (by omega) (by omega)
    rw [show s.l - ((s.l - x).toNat : Int) = x by omega] at hb
    constructor
    · rintro (h | h)
      · omega
      · exact .inl (hb.1 (hs.1 h))
    · rintro (h | h)
      · exact .inr (hs.2 (hb.2 h))
      · omega
theorem Kn.ok {s : Sn} {K : List Int} {r : Nat} (h : Kn s K) (g : Good r s) {x : Int} (hx : 0 ≤ x) : addB s x = true ↔ (¬ x ∈ K ∧ s.l - 64 < x) := by
  unfold addB
  by_cases c0 : s.l < 0
  · rw [if_pos c0, h.none_ c0]
    exact ⟨fun _ => ⟨by simp, by omega⟩, fun _ => rfl⟩
  · rw [if_neg c0]
    by_cases c1 : s.l < x
    · rw [if_pos c1]
      exact ⟨fun _ => ⟨fun hk => by have := h.le x hk; omega, by omega⟩, fun _ => rfl⟩
    · rw [if_neg c1]
      have hd := h.isDup g c0 c1
      by_cases c2 : dup s x
      · rw [if_pos c2]
        have := hd.1 c2
        exact ⟨fun h => absurd h (by decide), fun h => by
          rcases this with k | k
          · exact absurd k h.1
          · exact absurd h.2 k⟩
      · rw [if_neg c2]
        have h3 : ¬ (x ∈ K ∨ ¬ s.l - 64 < x) := fun h => c2 (hd.2 h)
        exact ⟨fun _ => ⟨fun hk => h3 (.inl hk), Decidable.byContradiction fun c => h3 (.inr c)⟩, fun _ => rfl⟩
theorem add_no {s : Sn} {x : Int} (h : ¬ addB s x = true) : addS s x = s := by
  unfold addB at h
  unfold addS
  by_cases c0 : s.l < 0
  · rw [if_pos c0] at h; exact absurd rfl h
  · rw [if_neg c0] at h ⊢
    by_cases c1 : s.l < x
    · rw [if_pos c1] at h; exact absurd rfl h
    · rw [if_neg c1] at h ⊢
      by_cases c2 : dup s x
      · rw [if_pos c2]
      · rw [if_neg c2] at h; exact absurd rfl h
theorem Kn.add {s : Sn} {K : List Int} {r : Nat} (h : Kn s K) (g : Good r s) {x : Int} (hx : 0 ≤ x) (hb : addB s x = true) : Kn (addS s x) (x :: K) ∧ (addS s x).l = (if s.l < x then x else s.l) ∧ (addS s x).f = (if s.l < 0 then x else s.f) := by
  have hok := (h.ok g hx).1 hb
  unfold addS
  by_cases c0 : s.l < 0
  · rw [if_pos c0, if_pos c0, if_pos (by omega)]
    obtain rfl := h.none_ c0
    refine ⟨⟨fun h => by dsimp only at h; omega, by simp, fun k hk => by simp at hk; subst hk; exact Int.le_refl _, fun _ d hd => ?_, ?_⟩, rfl, rfl⟩
    · show (1 : Int).toNat.testBit d = true ↔ _
      have e1 : (1 : Int).toNat.testBit d = decide (d = 0) := by
        show Nat.testBit 1 d = _
        cases d with
        | zero => rfl
        | succ i => simp [Nat.testBit_succ]
      rw [e1, decide_eq_true_eq, List.mem_singleton]
      dsimp only
      omega
    · show (1 : Int) = _
      simp only [Go.Proofs.YtanloaedpalblaaA.cnt]
      rw [if_pos (by omega)]
      rfl
  · rw [if_neg c0, if_neg c0]
    have fl := g.fl
    by_cases c1 : s.l < x
    · rw [if_pos c1, if_pos c1]
      refine ⟨⟨fun h => by dsimp only at h; omega, List.nodup_cons.2 ⟨hok.1, h.nodup⟩, fun k hk => ?_, fun _ d hd => ?_, ?_⟩, rfl, rfl⟩
      · rcases List.mem_cons.1 hk with rfl | hk
        · exact Int.le_refl _
        · have := h.le k hk; dsimp only; omega
      · dsimp only
        rw [orb_bit g.m0 g.m1 (by omega) d hd, List.mem_cons]
        have hdx : d = 0 ↔ x - (d : Int) = x := by omega
        rw [hdx]
        constructor
        · rintro (h1 | ⟨h1, h2⟩)
          · exact .inl h1
          · have := (h.bit (by omega) (d - (x - s.l).toNat) (by omega)).1 h2
            rw [show s.l - ((d - (x - s.l).toNat : Nat) : Int) = x - d by omega] at this
            exact .inr this
        · rintro (h1 | h1)
          · exact .inl h1
          · have hle := h.le _ h1
            refine .inr ⟨by omega, (h.bit (by omega) (d - (x - s.l).toNat) (by omega)).2 ?_⟩
            rw [show s.l - ((d - (x - s.l).toNat : Nat) : Int) = x - d by omega]
            exact h1
      · dsimp only
        simp only [Go.Proofs.YtanloaedpalblaaA.cnt]
        rw [if_pos (by omega), cnt_top (b := s.l + 1) (fun k hk => by have := h.le k hk; omega) (by omega), h.cnt]
        omega
    · rw [if_neg c1, if_neg c1]
      have c2 : ¬ Go.Proofs.YtanloaedpalblaaA.dup s x := fun c => by
        rcases (h.isDup g c0 c1).1 c with k | k
        · exact hok.1 k
        · exact k hok.2
      rw [if_neg c2]
      refine ⟨⟨fun h => by dsimp only at h; omega, List.nodup_cons.2 ⟨hok.1, h.nodup⟩, fun k hk => ?_, fun _ d hd => ?_, ?_⟩, rfl, rfl⟩
      · rcases List.mem_cons.1 hk with rfl | hk
        · dsimp only; omega
        · exact h.le k hk
      · dsimp only
        rw [ors_bit g.m0 g.m1 (by omega) (by omega) d hd, List.mem_cons, h.bit (by omega) d hd]
        constructor
        · rintro (h1 | h1)
          · exact .inr h1
          · exact .inl (by omega)
        · rintro (h1 | h1)
          · exact .inr (by omega)
          · exact .inl h1
      · dsimp only
        simp only [Go.Proofs.YtanloaedpalblaaA.cnt]
        have := h.cnt
        by_cases c4 : s.f ≤ x
        · rw [if_pos c4, if_pos (by omega), this]; omega
        · rw [if_neg c4, if_neg (by omega), this]; omega
/-- A map that holds a one at each number of a row, and no others. -/
structure Mp (K : List Int) (l : List (Int × Int × Nat)) : Prop where
  in_ : ∀ k ∈ K, ∃ i b, findM k l 0 = some (i, 1, b)
  out : ∀ k, ¬ k ∈ K → findM k l 0 = none
theorem mp0 : Mp [] [] := ⟨fun k h => by simp at h, fun _ _ => rfl⟩
theorem findM_append (k : Int) (r : List (Int × Int × Nat)) : ∀ (l : List (Int × Int × Nat)) (i : Nat), findM k (l ++ r) i = match findM k l i with | some e => some e | none => findM k r (i + l.length)
  | [], i => rfl
  | e :: l, i => by
    have ih := findM_append k r l (i + 1)
    simp only [List.cons_append, findM]
    by_cases h : k = e.1
    · simp [h]
    · simp only [h, if_false, ih, List.length_cons]
      rw [show i + 1 + l.length = i + (l.length + 1) by omega]
theorem Mp.look {K : List Int} {l : List (Int × Int × Nat)} (h : Mp K l) (x : Int) : aLook false .i64 x l = .int .i64 (if x ∈ K then 1 else 0) := by
  unfold aLook
  by_cases c : x ∈ K
  · obtain ⟨i, b, e⟩ := h.in_ x c
    rw [e, if_pos c]; rfl
  · rw [h.out x c, if_neg c]; rfl
theorem Mp.add {K : List Int} {l : List (Int × Int × Nat)} (h : Mp K l) {x : Int} (hx : ¬ x ∈ K) (c : Nat) : putM .i64 .i64 x 1 l c = .map .i64 .i64 (l ++ [(x, 1, c)]) (c + 1) ∧ Mp (x :: K) (l ++ [(x, 1, c)]) := by
  refine ⟨by unfold putM; rw [h.out x hx], fun k hk => ?_, fun k hk => ?_⟩
  · rw [findM_append]
    by_cases e : k = x
    · subst e
      rw [h.out k hx]
      exact ⟨l.length, c, by simp [findM]⟩
    · obtain ⟨i, b, e2⟩ := h.in_ k ((List.mem_cons.1 hk).resolve_left e)
      rw [e2]
      exact ⟨i, b, rfl⟩
  · have h1 : ¬ k = x := fun e => hk (e ▸ List.mem_cons_self)
    rw [findM_append, h.out k fun h => hk (List.mem_cons_of_mem _ h)]
    simp [findM, h1]
end Go.Proofs.YtanloaedpalblaaA
