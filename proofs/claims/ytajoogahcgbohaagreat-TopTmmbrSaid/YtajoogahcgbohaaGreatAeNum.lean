/- General facts about Go's whole numbers: what their bounds are, what a wrap, a mask or a shift is. -/
import Derived.Test.YtajoogahcgbohaaGreatAeS1
import Derived.Laws.BitsLemmas
set_option linter.unusedVariables false
set_option linter.unusedSimpArgs false
namespace Go.Proofs.YtajoogahcgbohaaGreatA
open Go.RowKit

theorem wf_i64 {a : Int} (h : (Lit.int .i64 a).wf = true) : -9223372036854775808 ≤ a ∧ a ≤ 9223372036854775807 := by
  simpa [Lit.wf, IntKind.min, IntKind.max, IntKind.signed, IntKind.bits] using h
theorem wf_i32 {a : Int} (h : (Lit.int .i32 a).wf = true) : -2147483648 ≤ a ∧ a ≤ 2147483647 := by
  simpa [Lit.wf, IntKind.min, IntKind.max, IntKind.signed, IntKind.bits] using h
theorem wf_u64 {a : Int} (h : (Lit.int .u64 a).wf = true) : 0 ≤ a ∧ a ≤ 18446744073709551615 := by
  simpa [Lit.wf, IntKind.min, IntKind.max, IntKind.signed, IntKind.bits] using h
theorem wf_u32 {a : Int} (h : (Lit.int .u32 a).wf = true) : 0 ≤ a ∧ a ≤ 4294967295 := by
  simpa [Lit.wf, IntKind.min, IntKind.max, IntKind.signed, IntKind.bits] using h
theorem wf_u16 {a : Int} (h : (Lit.int .u16 a).wf = true) : 0 ≤ a ∧ a ≤ 65535 := by
  simpa [Lit.wf, IntKind.min, IntKind.max, IntKind.signed, IntKind.bits] using h
theorem wf_u8 {a : Int} (h : (Lit.int .u8 a).wf = true) : 0 ≤ a ∧ a ≤ 255 := by
  simpa [Lit.wf, IntKind.min, IntKind.max, IntKind.signed, IntKind.bits] using h

theorem mk_i64 {a : Int} (h0 : -9223372036854775808 ≤ a) (h1 : a ≤ 9223372036854775807) : (Lit.int .i64 a).wf = true := by
  simp [Lit.wf, IntKind.min, IntKind.max, IntKind.signed, IntKind.bits]; omega
theorem mk_i32 {a : Int} (h0 : -2147483648 ≤ a) (h1 : a ≤ 2147483647) : (Lit.int .i32 a).wf = true := by
  simp [Lit.wf, IntKind.min, IntKind.max, IntKind.signed, IntKind.bits]; omega
theorem mk_u64 {a : Int} (h0 : 0 ≤ a) (h1 : a ≤ 18446744073709551615) : (Lit.int .u64 a).wf = true := by
  simp [Lit.wf, IntKind.min, IntKind.max, IntKind.signed, IntKind.bits]; omega
theorem mk_u32 {a : Int} (h0 : 0 ≤ a) (h1 : a ≤ 4294967295) : (Lit.int .u32 a).wf = true := by
  simp [Lit.wf, IntKind.min, IntKind.max, IntKind.signed, IntKind.bits]; omega
theorem mk_u16 {a : Int} (h0 : 0 ≤ a) (h1 : a ≤ 65535) : (Lit.int .u16 a).wf = true := by
  simp [Lit.wf, IntKind.min, IntKind.max, IntKind.signed, IntKind.bits]; omega
theorem mk_u8 {a : Int} (h0 : 0 ≤ a) (h1 : a ≤ 255) : (Lit.int .u8 a).wf = true := by
  simp [Lit.wf, IntKind.min, IntKind.max, IntKind.signed, IntKind.bits]; omega
theorem wrap_u64 (n : Int) : IntKind.u64.wrap n = n % 18446744073709551616 := by simp [IntKind.wrap, IntKind.bits, IntKind.signed]
theorem wrap_u16 (n : Int) : IntKind.u16.wrap n = n % 65536 := by simp [IntKind.wrap, IntKind.bits, IntKind.signed]
theorem u64_id {n : Int} (h0 : 0 ≤ n) (h1 : n < 18446744073709551616) : IntKind.u64.wrap n = n := by rw [wrap_u64]; omega
theorem u32_id {n : Int} (h0 : 0 ≤ n) (h1 : n < 4294967296) : IntKind.u32.wrap n = n := by rw [IntKind.wrap_u32]; omega
theorem u16_id {n : Int} (h0 : 0 ≤ n) (h1 : n < 65536) : IntKind.u16.wrap n = n := by rw [wrap_u16]; omega
theorem u8_id {n : Int} (h0 : 0 ≤ n) (h1 : n < 256) : IntKind.u8.wrap n = n := by rw [IntKind.wrap_u8]; omega
theorem w64_id {n : Int} (h0 : -9223372036854775808 ≤ n) (h1 : n ≤ 9223372036854775807) : IntKind.i64.wrap n = n := by rw [IntKind.wrap_i64]; omega

/-- A mask by a power of two less one is the remainder, of negative numbers too. -/
theorem and_mask (k : IntKind) (i : Nat) (hi : i ≤ k.bits) (x : Int) (hk : k.wrap (x % 2 ^ i) = x % 2 ^ i) : Go.bits .and k x (2 ^ i - 1) = x % 2 ^ i := by
  have hp : (0 : Int) < 2 ^ i := Int.pow_pos (by decide)
  have hd : ((2 : Int) ^ i) ∣ 2 ^ k.bits := by
    have h := Int.natCast_dvd_natCast.2 (Nat.pow_dvd_pow 2 hi)
    simpa using h
  have hn : 2 ^ i ≤ 2 ^ k.bits := Nat.pow_le_pow_right (by decide) hi
  have hc : ((2 : Int) ^ i - 1) = ((2 ^ i - 1 : Nat) : Int) := by
    rw [Int.natCast_sub (Nat.two_pow_pos i)]; simp
  have hm : (BitVec.ofInt k.bits ((2 : Int) ^ i - 1)).toNat = 2 ^ i - 1 := by
    rw [hc, BitVec.ofInt_natCast, BitVec.toNat_ofNat]
    exact Nat.mod_eq_of_lt (by have := Nat.two_pow_pos i; omega)
  have hx : ((BitVec.ofInt k.bits x).toNat : Int) = x % 2 ^ k.bits := by
    rw [BitVec.toNat_ofInt]
    have : (0 : Int) ≤ x % ((2 ^ k.bits : Nat) : Int) := Int.emod_nonneg _ (by have := Nat.two_pow_pos k.bits; omega)
    rw [Int.toNat_of_nonneg this]; simp
  unfold Go.bits
  simp only [BitVec.toNat_and, hm, Nat.and_two_pow_sub_one_eq_mod]
  rw [show (((BitVec.ofInt k.bits x).toNat % 2 ^ i : Nat) : Int) = x % 2 ^ i from by
    rw [Int.natCast_emod, hx]
    have : ((2 ^ i : Nat) : Int) = 2 ^ i := by simp
    rw [this, Int.emod_emod_of_dvd x hd]]
  exact hk

theorem and_i64 (i : Nat) (hi : i ≤ 63) (x : Int) : Go.bits .and .i64 x (2 ^ i - 1) = x % 2 ^ i := by
  refine and_mask .i64 i (by simp [IntKind.bits]; omega) x ?_
  have hp : (0 : Int) < 2 ^ i := Int.pow_pos (by decide)
  have h1 := Int.emod_nonneg x (Int.ne_of_gt hp)
  have h2 := Int.emod_lt_of_pos x hp
  have h3 : (2 : Int) ^ i ≤ 2 ^ 63 := by exact_mod_cast Nat.pow_le_pow_right (n := 2) (by decide) hi
  rw [IntKind.wrap_i64]; omega
theorem and_u64 (i : Nat) (hi : i ≤ 64) (x : Int) : Go.bits .and .u64 x (2 ^ i - 1) = x % 2 ^ i := by
  refine and_mask .u64 i (by simpa [IntKind.bits] using hi) x ?_
  have hp : (0 : Int) < 2 ^ i := Int.pow_pos (by decide)
  have h1 := Int.emod_nonneg x (Int.ne_of_gt hp)
  have h2 := Int.emod_lt_of_pos x hp
  have h3 : (2 : Int) ^ i ≤ 2 ^ 64 := by exact_mod_cast Nat.pow_le_pow_right (n := 2) (by decide) hi
  rw [wrap_u64]; omega
theorem and_u32 (i : Nat) (hi : i ≤ 32) (x : Int) : Go.bits .and .u32 x (2 ^ i - 1) = x % 2 ^ i := by
  refine and_mask .u32 i (by simpa [IntKind.bits] using hi) x ?_
  have hp : (0 : Int) < 2 ^ i := Int.pow_pos (by decide)
  have h1 := Int.emod_nonneg x (Int.ne_of_gt hp)
  have h2 := Int.emod_lt_of_pos x hp
  have h3 : (2 : Int) ^ i ≤ 2 ^ 32 := by exact_mod_cast Nat.pow_le_pow_right (n := 2) (by decide) hi
  rw [IntKind.wrap_u32]; omega
theorem and_u16 (i : Nat) (hi : i ≤ 16) (x : Int) : Go.bits .and .u16 x (2 ^ i - 1) = x % 2 ^ i := by
  refine and_mask .u16 i (by simpa [IntKind.bits] using hi) x ?_
  have hp : (0 : Int) < 2 ^ i := Int.pow_pos (by decide)
  have h1 := Int.emod_nonneg x (Int.ne_of_gt hp)
  have h2 := Int.emod_lt_of_pos x hp
  have h3 : (2 : Int) ^ i ≤ 2 ^ 16 := by exact_mod_cast Nat.pow_le_pow_right (n := 2) (by decide) hi
  rw [wrap_u16]; omega


/-- A number of 64 bits. -/
def I64 (a : Int) : Prop := -9223372036854775808 ≤ a ∧ a ≤ 9223372036854775807
def up (a : Int) : Int := if 0 < a then a else 0
def mn (a b : Int) : Int := if b < a then b else a
theorem up_l (a : Int) : (if 0 < a then a else 0) = up a := rfl
theorem up_r (a : Int) : (if a < 0 then 0 else a) = up a := by unfold up; split <;> split <;> omega
theorem mn_l (a b : Int) : (if b < a then b else a) = mn a b := rfl
theorem up_nn (a : Int) : 0 ≤ up a := by unfold up; split <;> omega
theorem up_le {a : Int} (h : I64 a) : up a ≤ 9223372036854775807 := by have := h.2; unfold up; split <;> omega
theorem up_pos {a : Int} (h : 0 ≤ a) : up a = a := by unfold up; split <;> omega
end Go.Proofs.YtajoogahcgbohaaGreatA
