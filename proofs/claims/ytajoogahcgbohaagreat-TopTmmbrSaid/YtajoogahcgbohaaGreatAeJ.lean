/- An abstract evaluator, part J: runes, values built of parts, slices made. -/
import Derived.Test.YtajoogahcgbohaaGreatAeI
set_option linter.unusedVariables false
set_option linter.unusedSimpArgs false
namespace Go.Proofs.YtajoogahcgbohaaGreatA
open Go.RowKit
theorem get_bang (d : Array UInt8) (i : Nat) : (ByteArray.mk d).get! i = (d.toList[i]?).getD default := by
  simp only [ByteArray.get!]
  by_cases h : i < d.size
  · rw [getElem!_pos d i h]; simp [h]
  · rw [getElem!_neg d i h]; simp [List.getElem?_eq_none (show d.toList.length ≤ i by simp; omega)]
theorem dec_eq (s : ByteArray) (i : Nat) (h : i < s.size) : Utf8.decode s i = decR ((bytesN s).drop i) := by
  obtain ⟨d⟩ := s
  have hd : (ByteArray.mk d).size = d.size := rfl
  have hl : ((((bytesN ⟨d⟩).drop i).take 4).map UInt8.ofNat) = (d.toList.drop i).take 4 := by
    simp only [bytesN, ← List.map_drop, ← List.map_take, List.map_map]
    conv => rhs; rw [← List.map_id ((d.toList.drop i).take 4)]
    refine List.map_congr_left fun x _ => ?_
    simp
  have hget : ∀ k, k < 4 → (ByteArray.mk ((d.toList.drop i).take 4).toArray).get! (0 + k) = (ByteArray.mk d).get! (i + k) := by
    intro k hk
    rw [get_bang, get_bang, Nat.zero_add, List.getElem?_take_of_lt hk, List.getElem?_drop]
  have hsz : ∀ k, k < 4 → ((0 + k < (ByteArray.mk ((d.toList.drop i).take 4).toArray).size) ↔ (i + k < (ByteArray.mk d).size)) := by
    intro k hk
    show (0 + k < ((d.toList.drop i).take 4).toArray.size) ↔ _
    simp [hd]; omega
  unfold decR
  rw [hl]
  unfold Utf8.decode
  simp only [hget 0 (by omega), hget 1 (by omega), hget 2 (by omega), hget 3 (by omega), hsz 1 (by omega), hsz 2 (by omega), hsz 3 (by omega)]
section
variable {P : Program} {B : Nat} {w0 : Base} {w : World} {ρ : Rho} {S S' : St}
theorem wf_rune {n : Nat} (h : n ≤ 2147483647) : (Lit.int .i32 (n : Int)).wf = true := by
  rw [wf_bounds]; simp [IntKind.min, IntKind.max, IntKind.signed, IntKind.bits]; omega
theorem dec_bound (s : ByteArray) (i : Nat) : (Utf8.decode s i).1 ≤ 2147483647 ∧ 1 ≤ (Utf8.decode s i).2 ∧ (Utf8.decode s i).2 ≤ 4 := by
  have hb : ∀ k, (s.get! k).toNat < 256 := fun k => UInt8.toNat_lt _
  have h0 := hb i
  have h1 := hb (i + 1)
  have h2 := hb (i + 2)
  have h3 := hb (i + 3)
  unfold Utf8.decode
  simp only [Nat.add_zero, Utf8.runeError]
  repeat' split
  all_goals (simp only; omega)
theorem decR_bound (l : List Nat) : (decR l).1 ≤ 2147483647 ∧ 1 ≤ (decR l).2 ∧ (decR l).2 ≤ 4 := dec_bound _ _
theorem runes_eq (s : ByteArray) : ∀ (f i : Nat) (acc : Array Value), s.size - i ≤ f → (∃ vs : List Value, (Conv.runesFrom s f i acc).toList = acc.toList ++ vs ∧ VRs ρ (runesOf f ((bytesN s).drop i)) vs) := by
  intro f
  induction f with
  | zero =>
    intro i acc h
    exact ⟨[], by simp [Conv.runesFrom], .nil⟩
  | succ f ih =>
    intro i acc h
    by_cases hi : i < s.size
    · have hne : (bytesN s).drop i ≠ [] := by
        intro k
        have := congrArg List.length k
        simp [bytesN_length] at this
        omega
      have hw := decR_bound ((bytesN s).drop i)
      have hd := dec_eq s i hi
      obtain ⟨vs, h1, h2⟩ := ih (i + (decR ((bytesN s).drop i)).2) (acc.push (.int .i32 (Int.ofNat (decR ((bytesN s).drop i)).1))) (by omega)
      refine ⟨.int .i32 (Int.ofNat (decR ((bytesN s).drop i)).1) :: vs, ?_, ?_⟩
      · simp only [Conv.runesFrom, if_pos hi, hd]
        rw [h1]; simp
      · have e : runesOf (f + 1) ((bytesN s).drop i) = .int .i32 (decR ((bytesN s).drop i)).1 :: runesOf f (((bytesN s).drop i).drop (decR ((bytesN s).drop i)).2) := by
          cases hc : (bytesN s).drop i with
          | nil => exact absurd hc hne
          | cons x l => rfl
        rw [e, List.drop_drop]
        exact .cons (.int (wf_rune hw.1)) h2
    · refine ⟨[], by simp [Conv.runesFrom, hi], ?_⟩
      rw [List.drop_eq_nil_of_le (by rw [bytesN_length]; omega)]
      exact .nil
theorem runes_atoms (f : Nat) (l : List Nat) : (runesOf f l).all AV.atom = true := by
  induction f generalizing l with
  | zero => rfl
  | succ f ih => cases l with
    | nil => rfl
    | cons x l => simp [runesOf, AV.atom, ih]
/-- A text's runes in a new block. -/
theorem out_strRunes (h : Sim B w0 ρ S w) (b : ByteArray) (e : TypeId) :
    Out B w0 ρ (newSl S (runesOf (bytesN b).length (bytesN b)) (runesOf (bytesN b).length (bytesN b)).length 1).2 (newSl S (runesOf (bytesN b).length (bytesN b)) (runesOf (bytesN b).length (bytesN b)).length 1).1
      ((do pure (Next.value (← Conv.stringToRunes e b)) : Sem Next).run P w) := by
  obtain ⟨vs, h1, h2⟩ := runes_eq (ρ := ρ) b b.size 0 #[] (by omega)
  rw [List.drop_zero] at h2
  have hl := h2.length
  rw [bytesN_length]
  have hel : (Conv.runesFrom b b.size 0 #[]).toList = vs := by simpa using h1
  have hes : (Conv.runesFrom b b.size 0 #[]).size = vs.length := by rw [← hel]; simp
  obtain ⟨cap, hcap, hle⟩ : ∃ cap, (Question.appendCap (Conv.runesFrom b b.size 0 #[]).size 0 e).cut (w.tape w.drawn (.appendCap (Conv.runesFrom b b.size 0 #[]).size 0 e)) = cap ∧ (Conv.runesFrom b b.size 0 #[]).size ≤ cap := ⟨_, rfl, by simp [Question.cut]⟩
  have hforced : (Question.appendCap (Conv.runesFrom b b.size 0 #[]).size 0 e).forced = false := rfl
  refine out_newSlR (cs := Conv.runesFrom b b.size 0 #[] ++ Array.replicate (cap - (Conv.runesFrom b b.size 0 #[]).size) (.int .i32 0)) h e (0, 0) _ 1 cap (by simp) (by omega) (by simp; omega) ?_ (runes_atoms _ _) (.inl rfl) (d := w.drawn + 1) ?_
  · rw [Array.toList_append, hel, ← hl, List.take_append_of_le_length (Nat.le_refl _), List.take_length]
    exact h2
  · simp only [Conv.stringToRunes, Sem.run_bind, run_choose, hforced, hcap, Result.andThen_ok, newRow, run_newObj, Bool.false_eq_true, if_false, Sem.run_pure]
    rw [← hl, hes]
end
end Go.Proofs.YtajoogahcgbohaaGreatA
