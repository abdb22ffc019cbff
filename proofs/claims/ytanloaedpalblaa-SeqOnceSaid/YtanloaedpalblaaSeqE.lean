/- Chapter 15: what was seen: both come to the same. -/
import Derived.Test.YtanloaedpalblaaSeqD
set_option linter.unusedVariables false
set_option linter.unusedSimpArgs false
set_option maxRecDepth 10000
namespace Go.Proofs.YtanloaedpalblaaA
open Go.RowKit
attribute [local congr] bind_congr1 map_congr1 cond_congr1 withX_congr after_congr br_congr

structure Sn where
  f : Int
  l : Int
  c : Int
  M : Int
abbrev pt (o : Nat) : AV := .ptr (some ⟨o, 0, 0, 4⟩)
def sn (s : Sn) : AO := .cells [.int .i64 s.f, .int .i64 s.l, .int .i64 s.c, .int .u64 s.M] 0 0 true
def sr (s : Sn) : AO := .cells [.int .i64 s.f, .int .i64 s.l, .int .u64 s.M, .int .i64 s.c] 0 0 true
def orb (M d : Int) : Int := Go.bits .or .u64 (IntKind.u64.wrap (M * 2 ^ min d.toNat 64)) 1
def ors (M d : Int) : Int := Go.bits .or .u64 M (IntKind.u64.wrap (1 * 2 ^ min d.toNat 64))
def seen (M d : Int) : Int := Go.bits .and .u64 (M / 2 ^ min d.toNat 64) 1
structure Good (r : Nat) (s : Sn) : Prop where
  few : r ≤ 1000
  none_ : s.l < 0 → s.l = -1 ∧ s.f = -1 ∧ s.c = 0
  f0 : 0 ≤ s.l → 0 ≤ s.f
  fl : s.f ≤ s.l
  ll : s.l ≤ 65536 * (r : Int)
  c0 : 0 ≤ s.c
  cr : s.c ≤ r
  m0 : 0 ≤ s.M
  m1 : s.M < 18446744073709551616
  first : 0 ≤ s.l → s.l - s.f ≤ 63 → s.M.toNat.testBit (s.l - s.f).toNat = true
theorem b64 : IntKind.u64.bits = 64 := rfl
theorem or_nat (a b : Nat) (ha : a < 18446744073709551616) (hb : b < 18446744073709551616) : Go.bits .or .u64 (a : Int) (b : Int) = ((a ||| b : Nat) : Int) := by
  have hx : a ||| b < 2 ^ 64 := Nat.or_lt_two_pow (by omega) (by omega)
  have e1 : (BitVec.ofInt 64 (a : Int)).toNat = a := by rw [BitVec.ofInt_natCast, BitVec.toNat_ofNat]; exact Nat.mod_eq_of_lt (by omega)
  have e2 : (BitVec.ofInt 64 (b : Int)).toNat = b := by rw [BitVec.ofInt_natCast, BitVec.toNat_ofNat]; exact Nat.mod_eq_of_lt (by omega)
  show IntKind.u64.wrap ((BitVec.ofInt 64 (a : Int) ||| BitVec.ofInt 64 (b : Int)).toNat : Int) = _
  rw [BitVec.toNat_or, e1, e2, wrap_u64]
  omega
theorem or_bound {a b : Int} (ha : 0 ≤ a) (ha' : a < 18446744073709551616) (hb : 0 ≤ b) (hb' : b < 18446744073709551616) :
    0 ≤ Go.bits .or .u64 a b ∧ Go.bits .or .u64 a b < 18446744073709551616 ∧ (Go.bits .or .u64 a b).toNat = a.toNat ||| b.toNat := by
  obtain ⟨A, rfl⟩ := Int.eq_ofNat_of_zero_le ha
  obtain ⟨B, rfl⟩ := Int.eq_ofNat_of_zero_le hb
  have hx : A ||| B < 2 ^ 64 := Nat.or_lt_two_pow (by omega) (by omega)
  rw [or_nat A B (by omega) (by omega)]
  refine ⟨by omega, by omega, by simp⟩
theorem shl_nat (A d : Nat) (hd : d < 64) : (IntKind.u64.wrap ((A : Int) * 2 ^ d)).toNat = A * 2 ^ d % 2 ^ 64 := by
  rw [wrap_u64]
  have : ((A : Int) * 2 ^ d) = ((A * 2 ^ d : Nat) : Int) := by push_cast; rfl
  rw [this]
  omega
theorem wrap_bd (x : Int) : 0 ≤ IntKind.u64.wrap x ∧ IntKind.u64.wrap x < 18446744073709551616 := by rw [wrap_u64]; omega
theorem orb_ok {M d : Int} (h0 : 0 ≤ M) (h1 : M < 18446744073709551616) : 0 ≤ orb M d ∧ orb M d < 18446744073709551616 ∧
    ∀ i : Int, 0 ≤ i → 0 ≤ d → i + d ≤ 63 → M.toNat.testBit i.toNat = true → (orb M d).toNat.testBit (i + d).toNat = true := by
  obtain ⟨a, b, c⟩ := or_bound (wrap_bd (M * 2 ^ min d.toNat 64)).1 (wrap_bd _).2 (b := 1) (by decide) (by decide)
  refine ⟨a, b, fun i hi hd hs hb => ?_⟩
  unfold orb
  rw [c, Nat.testBit_or]
  obtain ⟨A, rfl⟩ := Int.eq_ofNat_of_zero_le h0
  obtain ⟨D, rfl⟩ := Int.eq_ofNat_of_zero_le hd
  obtain ⟨I, rfl⟩ := Int.eq_ofNat_of_zero_le hi
  have e : min (D : Int).toNat 64 = D := by omega
  rw [e, shl_nat A D (by omega), Nat.testBit_mod_two_pow]
  have e2 : ((I : Int) + (D : Int)).toNat = I + D := by omega
  rw [e2, Nat.mul_comm, Nat.testBit_two_pow_mul]
  have e3 : I + D - D = I := by omega
  rw [e3]
  simp only [Int.toNat_natCast] at hb
  simp [hb]
  omega
theorem ors_ok {M d : Int} (h0 : 0 ≤ M) (h1 : M < 18446744073709551616) : 0 ≤ ors M d ∧ ors M d < 18446744073709551616 ∧ ∀ i : Int, M.toNat.testBit i.toNat = true → (ors M d).toNat.testBit i.toNat = true := by
  obtain ⟨a, b, c⟩ := or_bound h0 h1 (wrap_bd (1 * 2 ^ min d.toNat 64)).1 (wrap_bd _).2
  refine ⟨a, b, fun i hb => ?_⟩
  unfold ors
  rw [c, Nat.testBit_or, hb]
  rfl
theorem seen_bit {M d : Int} (h0 : 0 ≤ M) (h1 : M < 18446744073709551616) (hd : 0 ≤ d) (hd' : d ≤ 63) (h : M.toNat.testBit d.toNat = true) : seen M d = 1 := by
  obtain ⟨A, rfl⟩ := Int.eq_ofNat_of_zero_le h0
  obtain ⟨D, rfl⟩ := Int.eq_ofNat_of_zero_le hd
  unfold seen
  have e : min (D : Int).toNat 64 = D := by omega
  have := and_u64 1 (by decide) ((A : Int) / 2 ^ D)
  rw [e]
  refine this.trans ?_
  simp only [Int.toNat_natCast, Nat.testBit_eq_decide_div_mod_eq, decide_eq_true_eq] at h
  have e2 : ((A : Int) / 2 ^ D) = ((A / 2 ^ D : Nat) : Int) := by push_cast; rfl
  rw [e2]
  omega
theorem ext_bd {l n : Int} (h0 : 0 ≤ n) (h1 : n < 65536) (hl : l ≤ 65536000) (hl' : -1 ≤ l) : 0 ≤ ext 65536 l n ∧ (ext 65536 l n ≤ l + 65535 ∧ (0 ≤ l → ext 65536 l n ≤ l + 32768) ∨ ext 65536 l n = n) ∧ ext 65536 l n ≤ l + 65536 ∧ l - ext 65536 l n ≤ 65536 := by
  unfold ext
  by_cases c : l < 0
  · rw [if_pos c]; omega
  · rw [if_neg c]
    dsimp only
    split <;> split <;> omega
end Go.Proofs.YtanloaedpalblaaA
