/- An abstract evaluator, part M: appends. -/
import Derived.Test.YtajoogahcgbohaaGreatAeL
set_option linter.unusedVariables false
set_option linter.unusedSimpArgs false
namespace Go.Proofs.YtajoogahcgbohaaGreatA
open Go.RowKit
section
variable {P : Program} {B : Nat} {w0 : Base} {w : World} {ρ : Rho} {S S' : St}
/-- What is appended: so many elements, their cells; which form of append it is. -/
structure Src (P : Program) (w : World) (e : TypeId) (esz : Nat) (u : TypeId) (x : Value) (n : Nat) (vs : List Value) : Prop where
  len : vs.length = n * esz
  und : ∃ d, P.underlying u = some d ∧
    ((∃ k, d = .int k ∧ ∃ m : Int, x = .int .i64 m ∧ 0 ≤ m ∧ m ≤ 9223372036854775807 ∧ n = m.toNat ∧ ∃ i zv, P.info? e = some i ∧ i.zero = some zv ∧ zv.cells.size = esz ∧ vs.toArray = Builtin.zeroCells zv.cells n) ∨
     ((∀ k, d ≠ .int k) ∧ (∀ w', (Builtin.lenOf x).run P w' = .ok n w') ∧ (Builtin.firstCells esz n x).run P w = .ok vs.toArray w))
theorem app_room {t u ty e : TypeId} {x : Value} {esz n : Nat} {vs : List Value} {i : TypeInfo} (ht : P.underlying t = some (.slice e)) (hi : P.info? e = some i) (hs : i.size = esz) (hz : i.zero.isSome = true)
    (hb : n * i.bytes ≤ 281474976710656) (src : Src P w e esz u x n vs) {base : Option Addr} {sLen sCap : Nat} (hroom : sLen + n ≤ sCap) {w' : World}
    (hst : ∀ a, base = some a → (storeCells (a.add (sLen * esz)) vs).run P w = .ok () w') (hno : base = none → w' = w) :
    (Builtin.append_ #[t, u] ty #[.slice base sLen sCap, x]).run P w = .ok (.slice base (sLen + n) sCap) w' := by
  obtain ⟨zv, hzv⟩ := Option.isSome_iff_exists.1 hz
  obtain ⟨d, hd, hcase⟩ := src.und
  have hsz : ∀ w, (sizeOf e).run P w = .ok esz w := fun w => by simp [sizeOf, typeInfo, hi, hs]
  rcases hcase with ⟨k, rfl, m, rfl, hm0, hm1, rfl, i', zv', hi', hz', hzs, hvs⟩ | ⟨hk, hlen, hfc⟩
  · rw [hi] at hi'; cases hi'
    rw [hzv] at hz'; cases hz'
    have hw : IntKind.i64.wrap m = m := by rw [IntKind.wrap_i64]; omega
    have hbig : ¬ (m * i.bytes > 2 ^ 48) := by
      have h48 : (2 : Int) ^ 48 = 281474976710656 := by decide
      have : ((m.toNat * i.bytes : Nat) : Int) ≤ 281474976710656 := by omega
      rw [Int.natCast_mul, Int.toNat_of_nonneg hm0] at this
      omega
    have hap : ((if m.toNat * esz = 0 then pure #[] else do pure (Builtin.zeroCells (← zeroValue e).cells m.toNat) : Sem (Array Value))).run P w = .ok vs.toArray w := by
      by_cases h0 : m.toNat * esz = 0
      · have : vs = [] := List.length_eq_zero_iff.1 (by rw [src.len, h0])
        subst this
        rw [if_pos h0]; rfl
      · rw [if_neg h0]
        simp [run_zero hi hzv, hvs]
    simp only [Builtin.append_, run_und ht, run_und hd, hsz, typeInfo, hi, Sem.run_bind, Result.andThen_ok, Sem.run_pure, List.getElem?_toArray, List.getElem?_cons_zero, List.getElem?_cons_succ, asInt, asIntOf, hw, run_program,
      if_true, if_neg (show ¬ m < 0 by omega), hbig, if_false]
    simp only [hroom, if_true, Sem.run_bind, Bool.not_true, Bool.false_eq_true, if_false, hap, Result.andThen_ok]
    cases base with
    | none => simp [hno rfl]
    | some a => simp [hst a rfl]
  · have hnz : (match d with | .int _ => true | _ => false) = false := by cases d <;> first | rfl | exact absurd rfl (hk _)
    simp only [Builtin.append_, run_und ht, run_und hd, hsz, typeInfo, hi, Sem.run_bind, Result.andThen_ok, Sem.run_pure, List.getElem?_toArray, List.getElem?_cons_zero, List.getElem?_cons_succ, hnz, Bool.false_eq_true, if_false, hlen, hroom, if_true, Bool.not_false, hfc]
    cases base with
    | none => simp [hno rfl]
    | some a => simp [hst a rfl]
theorem app_grow {t u ty e : TypeId} {x : Value} {esz n : Nat} {vs old : List Value} {i : TypeInfo} {zv : Value} (ht : P.underlying t = some (.slice e)) (hi : P.info? e = some i) (hs : i.size = esz) (hzv : i.zero = some zv) (hzs : zv.cells.size = esz)
    {base : Option Addr} {sLen sCap : Nat} (hroom : ¬ sLen + n ≤ sCap) (hb : ((sLen + n) + (sLen + n) / 4 + 256) * i.bytes ≤ 281474976710656) (hmax : 0 < i.bytes ∨ sLen + n ≤ 9223372036854775807) (src : Src P w e esz u x n vs)
    (hsrc : ∀ d, Src P { w with drawn := d } e esz u x n vs)
    (hold : ∀ d, (Builtin.firstCells esz sLen (.slice base sLen sCap)).run P { w with drawn := d } = .ok old.toArray { w with drawn := d }) (hol : old.length = sLen * esz) :
    ∃ newCap rest, sLen + n ≤ newCap ∧ rest.length = (newCap - (sLen + n)) * esz ∧ (Builtin.append_ #[t, u] ty #[.slice base sLen sCap, x]).run P w =
      .ok (.slice (some ⟨w.heap.size, 0, none⟩) (sLen + n) newCap) { w with heap := w.heap.push (.cells ((old ++ vs ++ rest).toArray) e), drawn := w.drawn + 1 } := by
  obtain ⟨d, hd, hcase⟩ := src.und
  obtain ⟨d', hd', hcase'⟩ := (hsrc (w.drawn + 1)).und
  rw [hd] at hd'; cases hd'
  have hsz : ∀ w, (sizeOf e).run P w = .ok esz w := fun w => by simp [sizeOf, typeInfo, hi, hs]
  obtain ⟨cap, hcap, hle⟩ : ∃ cap, (Question.appendCap (sLen + n) sCap e).cut (w.tape w.drawn (.appendCap (sLen + n) sCap e)) = cap ∧ sLen + n ≤ cap := ⟨_, rfl, by simp [Question.cut]⟩
  have hforced : (Question.appendCap (sLen + n) sCap e).forced = false := rfl
  have hnext : ¬ (Builtin.nextslicecap (sLen + n) sCap * i.bytes > 2 ^ 48) := by
    have h1 := nextslicecap_le_wide (show sCap < sLen + n by omega)
    have h2 : Builtin.nextslicecap (sLen + n) sCap * i.bytes ≤ ((sLen + n) + (sLen + n) / 4 + 256) * i.bytes := Nat.mul_le_mul_right _ (by omega)
    have h3 : (2 : Nat) ^ 48 = 281474976710656 := by decide
    omega
  have hrest : (Builtin.zeroCells zv.cells (cap - (sLen + n))).size = (cap - (sLen + n)) * esz := by simp [Builtin.zeroCells, hzs]
  have hov : ∀ (b : Bool), ¬ (((sLen + n : Nat) : Int) > IntKind.i64.max ∧ (b = true ∨ i.bytes = 0)) := by
    intro b hc
    have : IntKind.i64.max = 9223372036854775807 := by decide
    rcases hmax with h | h
    · have hbb : (sLen + n) * 1 ≤ ((sLen + n) + (sLen + n) / 4 + 256) * i.bytes := Nat.mul_le_mul (by omega) h
      omega
    · omega
  refine ⟨cap, (Builtin.zeroCells zv.cells (cap - (sLen + n))).toList, hle, by simp [hrest], ?_⟩
  have hfin : (old.toArray ++ vs.toArray ++ Builtin.zeroCells zv.cells (cap - (sLen + n))) = (old ++ vs ++ (Builtin.zeroCells zv.cells (cap - (sLen + n))).toList).toArray := by
    apply Array.ext'; simp
  rcases hcase with ⟨k, rfl, m, rfl, hm0, hm1, rfl, i', zv', hi', hz', hzs', hvs⟩ | ⟨hk, hlen, hfc⟩
  · rw [hi] at hi'; cases hi'
    rw [hzv] at hz'; cases hz'
    have hw : IntKind.i64.wrap m = m := by rw [IntKind.wrap_i64]; omega
    have hbig : ¬ (m * i.bytes > 2 ^ 48) := by
      have h48 : (2 : Int) ^ 48 = 281474976710656 := by decide
      have h1 : m.toNat * i.bytes ≤ ((sLen + m.toNat) + (sLen + m.toNat) / 4 + 256) * i.bytes := Nat.mul_le_mul_right _ (by omega)
      have : ((m.toNat * i.bytes : Nat) : Int) ≤ 281474976710656 := by have := Nat.le_trans h1 hb; omega
      rw [Int.natCast_mul, Int.toNat_of_nonneg hm0] at this
      omega
    have hap : ((if m.toNat * esz = 0 then pure #[] else do pure (Builtin.zeroCells (← zeroValue e).cells m.toNat) : Sem (Array Value))).run P { w with drawn := w.drawn + 1 } = .ok vs.toArray { w with drawn := w.drawn + 1 } := by
      by_cases h0 : m.toNat * esz = 0
      · have : vs = [] := List.length_eq_zero_iff.1 (by rw [src.len, h0])
        subst this
        rw [if_pos h0]; rfl
      · rw [if_neg h0]
        simp [run_zero hi hzv, hvs]
    have ho := hov true
    simp only [Builtin.append_, run_und ht, run_und hd, hsz, typeInfo, hi, Sem.run_bind, Result.andThen_ok, Sem.run_pure, List.getElem?_toArray, List.getElem?_cons_zero, List.getElem?_cons_succ, asInt, asIntOf, hw, run_program,
      if_true, if_neg (show ¬ m < 0 by omega), hbig, if_false]
    simp only [hroom, if_false, Sem.run_bind, Bool.not_true, Bool.false_eq_true, Result.andThen_ok, run_program, hi, Sem.run_pure]
    rw [if_neg (by simpa using ho)]
    simp only [Sem.run_bind, Sem.run_pure, Result.andThen_ok, run_program, hi, if_neg hnext, run_choose, hforced, Bool.false_eq_true, if_false, hcap, run_askRoom, hold, hap, run_zero hi hzv, newRow, run_newObj, hfin]
  · rcases hcase' with ⟨k, rfl, _⟩ | ⟨_, _, hfc'⟩
    · exact absurd rfl (hk k)
    have hnz : (match d with | .int _ => true | _ => false) = false := by cases d <;> first | rfl | exact absurd rfl (hk _)
    have ho := hov false
    simp only [Builtin.append_, run_und ht, run_und hd, hsz, typeInfo, hi, Sem.run_bind, Result.andThen_ok, Sem.run_pure, List.getElem?_toArray, List.getElem?_cons_zero, List.getElem?_cons_succ, hnz, Bool.false_eq_true, if_false, hlen, hroom, run_program, false_or]
    rw [if_neg (by simpa using ho)]
    simp only [Sem.run_bind, Sem.run_pure, Result.andThen_ok, run_program, hi, if_neg hnext, run_choose, hforced, Bool.false_eq_true, if_false, hcap, run_askRoom, hold, hfc', run_zero hi hzv, newRow, run_newObj, hfin, Bool.not_false, if_true]
end
end Go.Proofs.YtajoogahcgbohaaGreatA
