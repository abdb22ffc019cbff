/- Numbers that are not known: what an operation on forms comes to. -/
import Derived.Test.YtajoogahcgbohaaGreatSmC
import Derived.Test.YtajoogahcgbohaaGreatAeNum
import Derived.Test.YtajoogahcgbohaaGreatAeK2
set_option linter.unusedVariables false
set_option linter.unusedSimpArgs false
namespace Go.Proofs.YtajoogahcgbohaaGreatA
open Go.RowKit

/-- Which power of two a number is. -/
def p2 (n : Int) : Option Nat := if ((2 ^ Nat.log2 n.toNat : Nat) : Int) = n then some (Nat.log2 n.toNat) else none
theorem p2_eq {n : Int} {i : Nat} (h : p2 n = some i) : n = ((2 ^ i : Nat) : Int) := by
  unfold p2 at h
  split at h
  · rename_i hc; cases h; exact hc.symm
  · cases h
theorem pow_cast (i : Nat) : ((2 ^ i : Nat) : Int) = (2 : Int) ^ i := by simp
theorem max_lt (k : IntKind) : k.max < ((2 ^ k.bits : Nat) : Int) := by cases k <;> decide
theorem min_le (k : IntKind) {n : Int} (h : 0 ≤ n) : k.min ≤ n := by
  have : k.min ≤ 0 := by cases k <;> decide
  omega
theorem or_comm' (k : IntKind) (a b : Int) : Go.bits .or k a b = Go.bits .or k b a := by
  unfold Go.bits
  simp only [BitVec.or_comm]
theorem or_add (k : IntKind) (i : Nat) {X Y : Int} (hX : 0 ≤ X) (hY : 0 ≤ Y) (hd : X % ((2 ^ i : Nat) : Int) = 0) (hl : Y < ((2 ^ i : Nat) : Int)) (hm : X + Y ≤ k.max) : Go.bits .or k X Y = X + Y := by
  have hmx := max_lt k
  have tn : ∀ {Z : Int}, 0 ≤ Z → Z < ((2 ^ k.bits : Nat) : Int) → (BitVec.ofInt k.bits Z).toNat = Z.toNat := by
    intro Z h0 h1
    rw [BitVec.toNat_ofInt, Int.emod_eq_of_lt h0 h1]
  obtain ⟨x, rfl⟩ := Int.eq_ofNat_of_zero_le hX
  obtain ⟨y, rfl⟩ := Int.eq_ofNat_of_zero_le hY
  have h1 : 2 ^ i ∣ x := by
    have h := Int.dvd_of_emod_eq_zero hd
    exact Int.natCast_dvd_natCast.1 h
  obtain ⟨a, rfl⟩ := h1
  have h2 : y < 2 ^ i := by omega
  have e := Nat.two_pow_add_eq_or_of_lt h2 a
  unfold Go.bits
  simp only [BitVec.toNat_or]
  rw [tn hX (by omega), tn hY (by omega), Int.toNat_natCast, Int.toNat_natCast, ← e]
  have hs : ((2 ^ i * a + y : Nat) : Int) = ((2 ^ i * a : Nat) : Int) + (y : Int) := by omega
  rw [hs]
  exact wrap_in (min_le k (by omega)) hm
def orL (s : Sp) (x y : Ln) : Option AV :=
  let i := Nat.log2 (y.hi s).toNat + 1
  match qrL s x ((2 ^ i : Nat) : Int) with
  | some (_, r) => if r.lo s = 0 ∧ r.hi s = 0 ∧ 0 ≤ x.lo s ∧ 0 ≤ y.lo s ∧ y.hi s < ((2 ^ i : Nat) : Int) then mkL s (addL x y) else none
  | none => none
def binL (s : Sp) (op : BinOp) (x y : Ln) : Option AV :=
  match op with
  | .add => if x.k = y.k then mkL s (addL x y) else none
  | .sub => if x.k = y.k then mkL s (subL x y) else none
  | .mul => if x.k = y.k then (bif y.c.isEmpty then mkL s (mulL x y.a) else bif x.c.isEmpty then mkL s (mulL y x.a) else none) else none
  | .quo => if x.k = y.k ∧ y.c.isEmpty = true ∧ 0 ≤ x.lo s then (qrL s x y.a).bind fun p => mkL s p.1 else none
  | .rem => if x.k = y.k ∧ y.c.isEmpty = true ∧ 0 ≤ x.lo s then (qrL s x y.a).bind fun p => mkL s p.2 else none
  | .shr => if y.c.isEmpty = true ∧ 0 ≤ y.a ∧ y.a.toNat ≤ x.k.bits then (qrL s x ((2 ^ y.a.toNat : Nat) : Int)).bind fun p => mkL s p.1 else none
  | .shl => if y.c.isEmpty = true ∧ 0 ≤ y.a ∧ y.a.toNat ≤ x.k.bits then mkL s (mulL x ((2 ^ y.a.toNat : Nat) : Int)) else none
  | .and => if x.k = y.k ∧ y.c.isEmpty = true then (p2 (y.a + 1)).bind fun i => if i ≤ x.k.bits then (qrL s x ((2 ^ i : Nat) : Int)).bind fun p => mkL s p.2 else none else none
  | .or => if x.k = y.k then (match orL s x y with
    | some v => some v
    | none => orL s y x) else none
  | .eql => if x.k = y.k then (eqL s x y).map .bool else none
  | .neq => if x.k = y.k then (eqL s x y).map fun b => .bool (!b) else none
  | .lss => if x.k = y.k then (ltL s x y).map .bool else none
  | .leq => if x.k = y.k then (ltL s y x).map fun b => .bool (!b) else none
  | .gtr => if x.k = y.k then (ltL s y x).map .bool else none
  | .geq => if x.k = y.k then (ltL s x y).map fun b => .bool (!b) else none
  | _ => none
section
variable {u : Asg} {T : Tm} {S S' : St}
theorem at_c {y : Ln} (h : y.c.isEmpty = true) : y.at u = y.a := by
  have : y.c = [] := List.isEmpty_iff.1 h
  unfold Ln.at; rw [this]; simp [dot]
theorem orL_g {s : Sp} (hu : s.has u) {x y : Ln} {v : AV} (hk : x.k = y.k) (h : orL s x y = some v) : Go.bits .or x.k (x.at u) (y.at u) = x.at u + y.at u ∧ gV u v = .int x.k (x.at u + y.at u) := by
  unfold orL at h
  dsimp only at h
  split at h
  · rename_i q r hq
    split at h
    · rename_i hc
      obtain ⟨q1, q2, q3, q4, q5⟩ := qrL_g hu hq
      obtain ⟨h1, h2, h3⟩ := mkL_g hu h
      rw [addL_at] at h1 h2 h3
      have a1 := r.lo_le hu
      have a2 := r.le_hi hu
      have b1 := x.lo_le hu
      have b2 := y.lo_le hu
      have b3 := y.le_hi hu
      refine ⟨or_add x.k _ (by omega) (by omega) (by rw [← q3]; omega) (by omega) h3, h1⟩
    · cases h
  · cases h
theorem binL_g {s : Sp} (hu : s.has u) {o : BinOp} {et : ET} {lit : Bool} {x y : Ln} {v : AV} (h : binL s o x y = some v) : aBin o et lit (.int x.k (x.at u)) (.int y.k (y.at u)) = some (gV u v) := by
  cases o <;> simp only [binL] at h <;> try (cases h; done)
  case add =>
    split at h
    · rename_i hk
      obtain ⟨h1, h2, h3⟩ := mkL_g hu h
      rw [addL_at] at h1 h2 h3
      have hk' : (addL x y).k = x.k := rfl
      rw [hk'] at h1 h2 h3
      simp only [aBin, if_pos hk, aInt, wrap_in h2 h3, h1]
    · cases h
  case sub =>
    split at h
    · rename_i hk
      obtain ⟨h1, h2, h3⟩ := mkL_g hu h
      rw [subL_at] at h1 h2 h3
      have hk' : (subL x y).k = x.k := rfl
      rw [hk'] at h1 h2 h3
      simp only [aBin, if_pos hk, aInt, wrap_in h2 h3, h1]
    · cases h
  case mul =>
    split at h
    · rename_i hk
      cases hy : y.c.isEmpty with
      | true =>
        rw [hy] at h
        simp only [cond_true] at h
        obtain ⟨h1, h2, h3⟩ := mkL_g hu h
        rw [mulL_at] at h1 h2 h3
        have hk' : (mulL x y.a).k = x.k := rfl
        rw [hk'] at h1 h2 h3
        simp only [aBin, if_pos hk, aInt, at_c hy, wrap_in h2 h3, h1]
      | false =>
        rw [hy] at h
        simp only [cond_false] at h
        cases hx : x.c.isEmpty with
        | false => rw [hx] at h; cases h
        | true =>
          rw [hx] at h
          simp only [cond_true] at h
          obtain ⟨h1, h2, h3⟩ := mkL_g hu h
          rw [mulL_at] at h1 h2 h3
          have hk' : (mulL y x.a).k = x.k := hk.symm
          rw [hk'] at h1 h2 h3
          rw [Int.mul_comm] at h1 h2 h3
          simp only [aBin, if_pos hk, aInt, at_c hx, wrap_in h2 h3, h1]
    · cases h
  case quo =>
    split at h
    · rename_i hk
      obtain ⟨p, hq, h⟩ := Option.bind_eq_some_iff.1 h
      obtain ⟨q, r⟩ := p
      obtain ⟨q1, q2, q3, q4, q5⟩ := qrL_g hu hq
      obtain ⟨h1, h2, h3⟩ := mkL_g hu h
      have a1 := x.lo_le hu
      have eq : (x.at u).tdiv y.a = q.at u := by rw [Int.tdiv_eq_ediv_of_nonneg (by omega), q2]
      have hne : ¬ y.a = 0 := by omega
      rw [q4] at h1 h2 h3
      simp only [aBin, if_pos hk.1, aInt, at_c hk.2.1, if_neg hne, eq, wrap_in h2 h3, h1]
    · cases h
  case rem =>
    split at h
    · rename_i hk
      obtain ⟨p, hq, h⟩ := Option.bind_eq_some_iff.1 h
      obtain ⟨q, r⟩ := p
      obtain ⟨q1, q2, q3, q4, q5⟩ := qrL_g hu hq
      obtain ⟨h1, h2, h3⟩ := mkL_g hu h
      have a1 := x.lo_le hu
      have eq : (x.at u).tmod y.a = r.at u := by rw [Int.tmod_eq_emod_of_nonneg (by omega), q3]
      have hne : ¬ y.a = 0 := by omega
      rw [q5] at h1 h2 h3
      simp only [aBin, if_pos hk.1, aInt, at_c hk.2.1, if_neg hne, eq, h1]
    · cases h
  case shr =>
    split at h
    · rename_i hk
      obtain ⟨p, hq, h⟩ := Option.bind_eq_some_iff.1 h
      obtain ⟨q, r⟩ := p
      obtain ⟨q1, q2, q3, q4, q5⟩ := qrL_g hu hq
      obtain ⟨h1, h2, h3⟩ := mkL_g hu h
      have hne : ¬ y.a < 0 := by omega
      rw [q4] at h1
      simp only [aBin, at_c hk.1, if_neg hne, Nat.min_eq_left hk.2.2, h1, q2, pow_cast]
    · cases h
  case shl =>
    split at h
    · rename_i hk
      obtain ⟨h1, h2, h3⟩ := mkL_g hu h
      have hne : ¬ y.a < 0 := by omega
      have hk' : (mulL x ((2 ^ y.a.toNat : Nat) : Int)).k = x.k := rfl
      rw [hk'] at h1 h2 h3
      rw [mulL_at, pow_cast] at h1 h2 h3
      simp only [aBin, at_c hk.1, if_neg hne, Nat.min_eq_left hk.2.2, wrap_in h2 h3, h1]
    · cases h
  case and =>
    split at h
    · rename_i hk
      obtain ⟨i, hi, h⟩ := Option.bind_eq_some_iff.1 h
      split at h
      · rename_i hb
        obtain ⟨p, hq, h⟩ := Option.bind_eq_some_iff.1 h
        obtain ⟨q, r⟩ := p
        obtain ⟨q1, q2, q3, q4, q5⟩ := qrL_g hu hq
        obtain ⟨h1, h2, h3⟩ := mkL_g hu h
        rw [q5, q3, pow_cast] at h1 h2 h3
        have hy : y.a = 2 ^ i - 1 := by have := p2_eq hi; rw [pow_cast] at this; omega
        simp only [aBin, if_pos hk.1, aInt, at_c hk.2, hy, and_mask x.k i hb (x.at u) (wrap_in h2 h3), h1]
      · cases h
    · cases h
  case or =>
    split at h
    · rename_i hk
      cases ho : orL s x y with
      | some w =>
        rw [ho] at h
        cases h
        obtain ⟨h1, h2⟩ := orL_g hu hk ho
        simp only [aBin, if_pos hk, aInt, h1, h2]
      | none =>
        rw [ho] at h
        obtain ⟨h1, h2⟩ := orL_g hu hk.symm h
        rw [← hk] at h1 h2
        simp only [aBin, if_pos hk, aInt, or_comm' x.k (x.at u), h1, h2]
    · cases h
  case eql =>
    split at h
    · rename_i hk
      obtain ⟨b, hb, h⟩ := Option.map_eq_some_iff.1 h
      cases h
      simp only [aBin, if_pos hk, aInt, eqL_g hu hb, g_bool]
    · cases h
  case neq =>
    split at h
    · rename_i hk
      obtain ⟨b, hb, h⟩ := Option.map_eq_some_iff.1 h
      cases h
      have := eqL_g hu hb
      simp only [aBin, if_pos hk, aInt, ne_eq, decide_not, this, g_bool]
    · cases h
  case lss =>
    split at h
    · rename_i hk
      obtain ⟨b, hb, h⟩ := Option.map_eq_some_iff.1 h
      cases h
      simp only [aBin, if_pos hk, aInt, ltL_g hu hb, g_bool]
    · cases h
  case leq =>
    split at h
    · rename_i hk
      obtain ⟨b, hb, h⟩ := Option.map_eq_some_iff.1 h
      cases h
      have e : decide (x.at u ≤ y.at u) = !b := by
        rw [← ltL_g hu hb]
        by_cases hh : y.at u < x.at u
        · simp [hh]
        · simp [hh]; omega
      simp only [aBin, if_pos hk, aInt, e, g_bool]
    · cases h
  case gtr =>
    split at h
    · rename_i hk
      obtain ⟨b, hb, h⟩ := Option.map_eq_some_iff.1 h
      cases h
      simp only [aBin, if_pos hk, aInt, ltL_g hu hb, g_bool]
    · cases h
  case geq =>
    split at h
    · rename_i hk
      obtain ⟨b, hb, h⟩ := Option.map_eq_some_iff.1 h
      cases h
      have e : decide (y.at u ≤ x.at u) = !b := by
        rw [← ltL_g hu hb]
        by_cases hh : x.at u < y.at u
        · simp [hh]
        · simp [hh]; omega
      simp only [aBin, if_pos hk, aInt, e, g_bool]
    · cases h
/-! ### Structs -/
def eqSL (s : Sp) (e : ET) (x y : AV) : Option Bool :=
  match e with
  | .num => (lnOf x).bind fun a => (lnOf y).bind fun b => if a.k = b.k then eqL s a b else none
  | e => eqScal e x y
def eqFL (s : Sp) (xs ys : List AV) : List (Nat × ET) → Option Bool
  | [] => some true
  | (o, e) :: r => match xs[o]?, ys[o]? with
    | some x, some y => (eqSL s e x y).bind fun b => bif b then eqFL s xs ys r else some false
    | _, _ => none
theorem eqSL_g {s : Sp} (hu : s.has u) {e : ET} {x y : AV} {b : Bool} (h : eqSL s e x y = some b) : eqScal e (gV u x) (gV u y) = some b := by
  cases e with
  | num =>
    obtain ⟨a, ha, h⟩ := Option.bind_eq_some_iff.1 h
    obtain ⟨c, hc, h⟩ := Option.bind_eq_some_iff.1 h
    split at h
    · rename_i hk
      rw [lnOf_g ha, lnOf_g hc]
      simp only [eqScal, if_pos hk, eqL_g hu h]
    · cases h
  | _ => exact scal_g h
theorem eqFL_g {s : Sp} (hu : s.has u) {xs ys : List AV} : ∀ {fs : List (Nat × ET)} {b : Bool}, eqFL s xs ys fs = some b → eqFields (xs.map (gV u)) (ys.map (gV u)) fs = some b
  | [], b, h => h
  | (o, e) :: r, b, h => by
    simp only [eqFL] at h
    simp only [eqFields, List.getElem?_map]
    cases hx : xs[o]? with
    | none => rw [hx] at h; cases h
    | some x =>
      cases hy : ys[o]? with
      | none => rw [hx, hy] at h; cases h
      | some y =>
        rw [hx, hy] at h
        simp only [Option.map_some, Option.bind_eq_some_iff] at h ⊢
        obtain ⟨b1, h1, h2⟩ := h
        refine ⟨b1, eqSL_g hu h1, ?_⟩
        cases b1 with
        | false => exact h2
        | true => exact eqFL_g hu h2
end
end Go.Proofs.YtajoogahcgbohaaGreatA
