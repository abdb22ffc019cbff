/- An abstract evaluator, part I: conversions between texts and slices, built values. -/
import Derived.Test.YtajoogahcgbohaaGreatAeH
set_option linter.unusedVariables false
set_option linter.unusedSimpArgs false
namespace Go.Proofs.YtajoogahcgbohaaGreatA
open Go.RowKit
section
variable {P : Program} {B : Nat} {w0 : Base} {w : World} {ρ : Rho} {S S' : St}
/-- The cells of a slice. -/
theorem slice_cells (h : Sim B w0 ρ S w) {o v i len esz cap : Nat} {clip : Option Nat} {a : Addr} (hv : VR ρ (.slice (some (o, v, i)) len esz clip) (.slice (some a) len cap)) {m : Nat} (hm : m ≤ len) {l : List AV}
    (hr : S.rd o v i (m * esz) = some l) : ∃ vs : List Value, vs.length = m * esz ∧ VRs ρ l vs ∧ l.all AV.atom = true ∧ (loadCells a (m * esz)).run P w = .ok vs.toArray w := by
  cases hv with
  | slice hL h0 h1 h2 h3 h4 ha =>
    rcases ha with rfl | rfl
    · have : m = 0 := by omega
      subst this
      have hl := rd_length hr
      simp only [Nat.zero_mul] at hl
      have : l = [] := List.length_eq_zero_iff.1 hl
      subst this
      exact ⟨[], by simp, .nil, rfl, by simp [loadCells, loadCellsFrom]⟩
    · have : m * esz ≤ len * esz := Nat.mul_le_mul_right _ hm
      exact rd_run h hr hL h0 (by omega)
theorem forIn_arr {β : Type} (cs : Array Value) (b : β) (f : Value → β → Sem (ForInStep β)) : forIn cs b f = forIn cs.toList b f := (Array.forIn_toList).symm
theorem sl1_cells (h : Sim B w0 ρ S w) {o v i len cap : Nat} {clip : Option Nat} {a : Addr} (hv : VR ρ (.slice (some (o, v, i)) len 1 clip) (.slice (some a) len cap)) {l : List AV}
    (hr : S.rd o v i len = some l) : ∃ vs : List Value, VRs ρ l vs ∧ (loadCells a len).run P w = .ok vs.toArray w := by
  obtain ⟨vs, _, h2, _, h4⟩ := slice_cells (P := P) h hv (Nat.le_refl len) (by simpa using hr)
  exact ⟨vs, h2, by simpa using h4⟩
theorem conv_bytes (h : Sim B w0 ρ S w) {x r : AV} {cx : Value} (hv : VR ρ x cx) (hx : aConv .bytesStr x S = some (r, S')) : S' = S ∧ ∃ c, (Conv.bytesToString cx).run P w = .ok c w ∧ VR ρ r c := by
  cases hv with
  | sliceNil => cases hx; exact ⟨rfl, _, rfl, .str rfl⟩
  | @slice o v i len esz cap clip L a hL h0 h1 h2 h3 h4 ha =>
    by_cases he : esz = 1
    · subst he
      simp only [aConv, Option.bind_eq_some_iff, Option.map_eq_some_iff] at hx
      obtain ⟨l, hr, s', hs', hxe⟩ := hx
      simp only [Prod.mk.injEq] at hxe
      obtain ⟨rfl, rfl⟩ := hxe
      obtain ⟨vs, hvs, hrun⟩ := sl1_cells (P := P) h (.slice hL h0 h1 h2 h3 h4 ha) hr
      obtain ⟨b, hb, hbr⟩ := str_bytes (P := P) l vs _ hvs hs' ByteArray.empty
      refine ⟨rfl, .string b, ?_, .str (by simpa [bytesN] using hb)⟩
      simp only [Conv.bytesToString, Sem.run_bind, hrun, Result.andThen_ok, forIn_arr]
      rw [hbr _ (fun _ _ => rfl)]
      rfl
    · exfalso
      unfold aConv at hx
      split at hx <;> simp_all
  | _ => simp [aConv] at hx
theorem conv_runes (h : Sim B w0 ρ S w) {x r : AV} {cx : Value} (hv : VR ρ x cx) (hx : aConv .runesStr x S = some (r, S')) : S' = S ∧ ∃ c, (Conv.runesToString cx).run P w = .ok c w ∧ VR ρ r c := by
  cases hv with
  | sliceNil => cases hx; exact ⟨rfl, _, rfl, .str rfl⟩
  | @slice o v i len esz cap clip L a hL h0 h1 h2 h3 h4 ha =>
    by_cases he : esz = 1
    · subst he
      simp only [aConv, Option.bind_eq_some_iff, Option.map_eq_some_iff] at hx
      obtain ⟨l, hr, s', hs', hxe⟩ := hx
      simp only [Prod.mk.injEq] at hxe
      obtain ⟨rfl, rfl⟩ := hxe
      obtain ⟨vs, hvs, hrun⟩ := sl1_cells (P := P) h (.slice hL h0 h1 h2 h3 h4 ha) hr
      obtain ⟨b, hb, hbr⟩ := str_runes (P := P) l vs _ hvs hs' ByteArray.empty
      refine ⟨rfl, .string b, ?_, .str (by simpa [bytesN] using hb)⟩
      simp only [Conv.runesToString, Sem.run_bind, hrun, Result.andThen_ok, forIn_arr]
      rw [hbr _ (fun _ _ => rfl)]
      rfl
    · exfalso
      unfold aConv at hx
      split at hx <;> simp_all
  | _ => simp [aConv] at hx
/-- A text's bytes in a new block. -/
theorem out_strBytes (h : Sim B w0 ρ S w) (b : ByteArray) (e : TypeId) :
    Out B w0 ρ (newSl S ((bytesN b).map fun b : Nat => .int .u8 (b : Int)) (bytesN b).length 1).2 (newSl S ((bytesN b).map fun b : Nat => .int .u8 (b : Int)) (bytesN b).length 1).1
      ((do pure (Next.value (← Conv.stringToBytes e b)) : Sem Next).run P w) := by
  obtain ⟨cap, hcap, hle⟩ : ∃ cap, (Question.appendCap b.size 0 e).cut (w.tape w.drawn (.appendCap b.size 0 e)) = cap ∧ b.size ≤ cap := ⟨_, rfl, by simp [Question.cut]⟩
  have hforced : (Question.appendCap b.size 0 e).forced = false := rfl
  have hbl := bytesN_length b
  let cs : Array Value := (b.data.map fun x => Value.int .u8 x.toNat) ++ Array.replicate (cap - b.size) (.int .u8 0)
  have hcs : cs.size = cap := by
    have : b.data.size = b.size := rfl
    simp [cs]; omega
  refine out_newSlR (cs := cs) h e (cap, cap + 1) _ 1 cap (by simp) (by omega) (by omega) ?_ (by simp [AV.atom]) (.inr (by simp [hcs])) (d := w.drawn + 1) ?_
  · refine VRs.of_get (by simp; omega) ?_
    intro i a v h1 h2
    have hi : i < b.size := by have := (List.getElem?_eq_some_iff.1 h1).1; simp at this; omega
    rw [List.getElem?_take_of_lt (by simp; omega)] at h2
    have hd : i < b.data.size := hi
    simp only [bytesN, List.map_map, List.getElem?_map, Array.getElem?_toList, Array.getElem?_eq_getElem hd, Option.map_some, Option.some.injEq] at h1
    subst h1
    simp only [cs, Array.getElem?_toList] at h2
    rw [Array.getElem?_append_left (by simpa using hd)] at h2
    simp only [Array.getElem?_map, Array.getElem?_eq_getElem hd, Option.map_some, Option.some.injEq] at h2
    subst h2
    refine .int ?_
    rw [wf_bounds]
    have := b.data[i].toNat_lt
    simp [IntKind.min, IntKind.max, IntKind.signed, IntKind.bits]
    omega
  · simp only [Conv.stringToBytes, Sem.run_bind, run_choose, hforced, hcap, Result.andThen_ok, newRow, run_newObj, Bool.false_eq_true, if_false, Sem.run_pure, markStringish, run_shape, World.shape?, Array.getElem?_push_size, run_freeze]
    simp only [Result.andThen_ok, Sem.run_pure, World.freeze, cs, hbl]
    congr 1
    simp only [World.mk.injEq, and_true, true_and, Nat.one_ne_zero, if_false]
    apply Array.ext_getElem?
    intro k
    rw [Array.getElem?_modify]
    have hs : ((b.data.map fun x => Value.int .u8 (x.toNat : Int)) ++ Array.replicate (cap - b.size) (Value.int .u8 0)).size = cap := hcs
    by_cases hk : w.heap.size = k
    · subst hk; simp [hs]
    · rw [if_neg hk, Array.getElem?_push, Array.getElem?_push]
      simp [Ne.symm hk]
end
end Go.Proofs.YtajoogahcgbohaaGreatA
