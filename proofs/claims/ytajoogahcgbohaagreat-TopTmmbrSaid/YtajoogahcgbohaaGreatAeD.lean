/- An abstract evaluator, part D: cells read and written in worlds. -/
import Derived.Test.YtajoogahcgbohaaGreatAeC
set_option linter.unusedVariables false
set_option linter.unusedSimpArgs false
namespace Go.Proofs.YtajoogahcgbohaaGreatA
open Go.RowKit

theorem add_at (b x j : Nat) : (⟨b, x, none⟩ : Addr).add j = ⟨b, x + j, none⟩ := by unfold Addr.add; split <;> simp_all
theorem cell_at {w : World} {g : Nat} {cs : Array Value} {e : TypeId} {fz : Nat × Nat} (h : w.heap[g]? = some (.cells cs e fz)) (i : Nat) : w.cell? ⟨g, i, none⟩ = cs[i]? := by
  simp [World.cell?, h]
theorem frozen_at {w : World} {g : Nat} {cs : Array Value} {e : TypeId} {fz : Nat × Nat} (h : w.heap[g]? = some (.cells cs e fz)) (i : Nat) : w.frozen? ⟨g, i, none⟩ = (decide (fz.1 ≤ i) && decide (i < fz.2)) := by
  simp [World.frozen?, h]
theorem Below.set_ {B : Nat} {w0 w : World} (h : Below B w0 w) {g : Nat} (hg : B ≤ g) (o : Obj) : Below B w0 { w with heap := w.heap.setIfInBounds g o } :=
  ⟨h.os, h.tape, h.output, by simpa using h.size, fun k hk => by
    have : (w.heap.setIfInBounds g o)[k]? = w.heap[k]? := Array.getElem?_setIfInBounds_ne (by omega)
    exact this.trans (h.block k hk)⟩

/-- Cells stored one by one: the block's cells, some of them turned. -/
theorem run_stores {P : Program} (g o : Nat) (e : TypeId) (fz : Nat × Nat) : ∀ (vs : List Value) (i : Nat) (cur : Array Value) (w : World), w.heap[g]? = some (.cells cur e fz) →
    o + i + vs.length ≤ cur.size → (∀ j, o + i ≤ j → j < o + i + vs.length → ¬ (fz.1 ≤ j ∧ j < fz.2)) → (∀ v ∈ vs, v.oneCell' = true) →
    ∃ cur' : Array Value, cur'.size = cur.size ∧ (∀ j, cur'[j]? = if o + i ≤ j ∧ j < o + i + vs.length then vs[j - (o + i)]? else cur[j]?) ∧
      (storeCells ⟨g, o, none⟩ vs i).run P w = .ok () { w with heap := w.heap.setIfInBounds g (.cells cur' e fz) } := by
  intro vs
  induction vs with
  | nil =>
    intro i cur w hg hl hf h1
    refine ⟨cur, rfl, fun j => by rw [if_neg (by simp)], ?_⟩
    have hg' : g < w.heap.size := (Array.getElem?_eq_some_iff.1 hg).1
    have : w.heap.setIfInBounds g (.cells cur e fz) = w.heap := by
      apply Array.ext_getElem?
      intro k
      by_cases hk : k = g
      · subst hk; simp [hg', (Array.getElem?_eq_some_iff.1 hg).2]
      · rw [Array.getElem?_setIfInBounds_ne (Ne.symm hk)]
    rw [this]
    rfl
  | cons v rest ih =>
    intro i cur w hg hl hf h1
    simp only [List.length_cons] at hl hf
    have hi : o + i < cur.size := by omega
    have hg' : g < w.heap.size := (Array.getElem?_eq_some_iff.1 hg).1
    have hcell : w.cell? ⟨g, o + i, none⟩ = some cur[o + i] := by rw [cell_at hg]; simp [hi]
    have hfro : w.frozen? ⟨g, o + i, none⟩ = false := by
      rw [frozen_at hg]
      have := hf (o + i) (by omega) (by omega)
      simp only [Bool.and_eq_false_iff, decide_eq_false_iff_not]
      omega
    have hset : w.setCell ⟨g, o + i, none⟩ v = { w with heap := w.heap.setIfInBounds g (.cells (cur.setIfInBounds (o + i) v) e fz) } := by
      unfold World.setCell
      congr 1
      apply Array.ext_getElem?
      intro k
      rw [Array.getElem?_modify]
      by_cases hk : g = k
      · subst hk; simp [hg', (Array.getElem?_eq_some_iff.1 hg).2]
      · rw [if_neg hk, Array.getElem?_setIfInBounds_ne hk]
    have hst : (Go.store ((⟨g, o, none⟩ : Addr).add i) v).run P w = .ok () { w with heap := w.heap.setIfInBounds g (.cells (cur.setIfInBounds (o + i) v) e fz) } := by
      rw [add_at, run_store P w _ v _ (h1 v (by simp)), hcell]
      simp only [hfro, hset]
      rfl
    obtain ⟨cur', hs, hc, hr⟩ := ih (i + 1) (cur.setIfInBounds (o + i) v) { w with heap := w.heap.setIfInBounds g (.cells (cur.setIfInBounds (o + i) v) e fz) }
      (by simp [hg']) (by simp; omega) (fun j h2 h3 => hf j (by omega) (by omega)) (fun x hx => h1 x (by simp [hx]))
    refine ⟨cur', by simpa using hs, fun j => ?_, ?_⟩
    · rw [hc j]
      by_cases hj : j = o + i
      · subst hj
        rw [if_neg (by omega), if_pos (by simp)]
        simp [hi]
      · by_cases hin : o + (i + 1) ≤ j ∧ j < o + (i + 1) + rest.length
        · rw [if_pos hin, if_pos (by simp; omega), show j - (o + i) = (j - (o + (i + 1))) + 1 by omega]
          simp
        · rw [if_neg hin, if_neg (by simp; omega), Array.getElem?_setIfInBounds_ne (Ne.symm hj)]
    · simp only [storeCells, Sem.run_bind, hst, Result.andThen_ok, hr]
      congr 2
      apply Array.ext_getElem?
      intro k
      by_cases hk : g = k
      · subst hk; simp [hg']
      · rw [Array.getElem?_setIfInBounds_ne hk, Array.getElem?_setIfInBounds_ne hk, Array.getElem?_setIfInBounds_ne hk]

section
variable {P : Program} {B : Nat} {w0 : Base} {w : World} {ρ : Rho} {S S' : St}
theorem rd_inv {o v i n : Nat} {l : List AV} (h : S.rd o v i n = some l) : ∃ c, i + n ≤ c.length ∧ l = (c.drop i).take n ∧ ((∃ ver minv own, S.get o = some (.cells c ver minv own) ∧ minv ≤ v ∧ v ≤ ver) ∨ ∃ ver minv g, S.get o = some (.fork c ver minv g) ∧ minv ≤ v ∧ (v = ver ∨ i + n ≤ g)) := by
  unfold St.rd at h
  cases hg : S.get o with
  | none => rw [hg] at h; cases h
  | some x =>
    rw [hg] at h
    cases x with
    | iter => cases h
    | map => cases h
    | cells c ver minv own =>
      simp only at h
      cases hb : (Nat.ble minv v && Nat.ble v ver && Nat.ble (i + n) c.length) with
      | false => rw [hb] at h; cases h
      | true =>
        rw [hb] at h
        simp only [Bool.and_eq_true, Nat.ble_eq] at hb
        exact ⟨c, hb.2, by simpa using h.symm, .inl ⟨ver, minv, own, rfl, hb.1.1, hb.1.2⟩⟩
    | fork c ver minv g =>
      simp only at h
      cases hb : (Nat.ble minv v && Nat.ble v ver && Nat.ble (i + n) c.length && (Nat.beq v ver || Nat.ble (i + n) g)) with
      | false => rw [hb] at h; cases h
      | true =>
        rw [hb] at h
        simp only [Bool.and_eq_true, Bool.or_eq_true, Nat.ble_eq, Nat.beq_eq] at hb
        exact ⟨c, hb.1.2, by simpa using h.symm, .inr ⟨ver, minv, g, rfl, hb.1.1.1, hb.2⟩⟩
theorem rd_length {o v i n : Nat} {l : List AV} (h : S.rd o v i n = some l) : l.length = n := by
  obtain ⟨c, h4, rfl, _⟩ := rd_inv h
  simp; omega
/-- What is read abstractly is what lies in the block. -/
theorem rd_lies (h : Sim B w0 ρ S w) {o v i n : Nat} {l : List AV} (hr : S.rd o v i n = some l) {L : Loc} (hL : ρ o v = some L) (h0 : L.start ≤ i) (h1 : i + n ≤ L.ext) :
    ∃ vs : List Value, vs.length = n ∧ VRs ρ l vs ∧ l.all AV.atom = true ∧ ∃ cs e fz, w.heap[L.blk]? = some (.cells cs e fz) ∧ L.at i + n ≤ cs.size ∧ ∀ j, j < n → cs[L.at i + j]? = vs[j]? := by
  obtain ⟨c, hc, rfl, hor⟩ := rd_inv hr
  obtain ⟨hatoms, k2, cs, e, fz, k3, k4, k5⟩ : c.all AV.atom = true ∧ L.ext ≤ L.start + L.room ∧ ∃ cs e fz, w.heap[L.blk]? = some (.cells cs e fz) ∧ L.boff + L.room ≤ cs.size ∧ (∀ j, i ≤ j → j < i + n → ∃ a u, c[j]? = some a ∧ cs[L.at j]? = some u ∧ VR ρ a u) := by
    rcases hor with ⟨ver, minv, own, hg, hm, hv⟩ | ⟨ver, minv, g, hg, hm, hv⟩
    · have hc' : CellsAt B ρ w o c ver minv own := h.obj o _ hg
      obtain ⟨k1, k2, cs, e, fz, k3, k4, k5, k6⟩ := hc'.mem v L hL hm
      exact ⟨hc'.atoms, k2, cs, e, fz, k3, k4, fun j h2 h3 => k5 j (by omega) (by omega)⟩
    · have hc' : ForkAt B ρ w o c ver minv g := h.obj o _ hg
      obtain ⟨k2, cs, e, fz, k3, k4, k5, k6⟩ := hc'.mem v L hL hm
      exact ⟨hc'.atoms, k2, cs, e, fz, k3, k4, fun j h2 h3 => k5 j (by omega) (by omega) (hv.imp_right fun x => by omega)⟩
  have hat : ∀ j, L.at i + j = L.at (i + j) := fun j => by unfold Loc.at; omega
  have hlen : L.at i + n ≤ cs.size := by unfold Loc.at; omega
  refine ⟨(cs.toList.drop (L.at i)).take n, by simp; omega, VRs.of_get (by simp; omega) ?_, ?_, cs, e, fz, k3, hlen, fun j hj => ?_⟩
  · intro j a v' ha hv'
    have hj : j < n := by
      have := (List.getElem?_eq_some_iff.1 ha).1
      simp at this; omega
    obtain ⟨a2, v2, ha2, hv2, hvr⟩ := k5 (i + j) (by omega) (by omega)
    rw [List.getElem?_take_of_lt hj, List.getElem?_drop] at ha hv'
    rw [ha2] at ha; cases ha
    rw [← hat j] at hv2
    rw [Array.getElem?_toList, hv2] at hv'; cases hv'
    exact hvr
  · have ha := hatoms
    simp only [List.all_eq_true] at ha ⊢
    exact fun x hx => ha x (List.mem_of_mem_drop (List.mem_of_mem_take hx))
  · rw [List.getElem?_take_of_lt hj, List.getElem?_drop, Array.getElem?_toList]
theorem rd_run (h : Sim B w0 ρ S w) {o v i n : Nat} {l : List AV} (hr : S.rd o v i n = some l) {L : Loc} (hL : ρ o v = some L) (h0 : L.start ≤ i) (h1 : i + n ≤ L.ext) :
    ∃ vs : List Value, vs.length = n ∧ VRs ρ l vs ∧ l.all AV.atom = true ∧ (loadCells ⟨L.blk, L.at i, none⟩ n).run P w = .ok vs.toArray w := by
  obtain ⟨vs, hl, hv, ha, cs, e, fz, k3, k4, k5⟩ := rd_lies h hr hL h0 h1
  refine ⟨vs, hl, hv, ha, ?_⟩
  have := run_loadCells_list (P := P) w ⟨L.blk, L.at i, none⟩ vs (fun j x hx => by
    have hj : j < n := by have := (List.getElem?_eq_some_iff.1 hx).1; omega
    rw [add_at, cell_at k3, k5 j hj, hx])
  rwa [hl] at this
theorem rd_run1 (h : Sim B w0 ρ S w) {o v i : Nat} {a : AV} (hr : S.rd o v i 1 = some [a]) {L : Loc} (hL : ρ o v = some L) (h0 : L.start ≤ i) (h1 : i + 1 ≤ L.ext) :
    ∃ x : Value, VR ρ a x ∧ (Go.load ⟨L.blk, L.at i, none⟩).run P w = .ok x w := by
  obtain ⟨vs, hl, hv, ha, cs, e, fz, k3, k4, k5⟩ := rd_lies h hr hL h0 h1
  cases hv with
  | cons hx ht =>
    rename_i x cs'
    refine ⟨x, hx, ?_⟩
    have := k5 0 (by omega)
    simp only [Nat.add_zero, List.getElem?_cons_zero] at this
    rw [run_load, cell_at k3, this]
theorem wr_inv {o v i : Nat} {xs : List AV} (h : S.wr o v i xs = some S') : ∃ c minv, S.get o = some (.cells c v minv true) ∧ minv ≤ v ∧ i + xs.length ≤ c.length ∧
    S' = S.put o (.cells (c.take i ++ xs ++ c.drop (i + xs.length)) v v true) := by
  unfold St.wr at h
  cases hg : S.get o with
  | none => rw [hg] at h; cases h
  | some x =>
    rw [hg] at h
    cases x with
    | iter => cases h
    | map => cases h
    | fork => cases h
    | cells c ver minv own =>
      cases own with
      | false => cases h
      | true =>
        simp only at h
        cases hb : (Nat.beq v ver && Nat.ble minv v && Nat.ble (i + xs.length) c.length) with
        | false => rw [hb] at h; cases h
        | true =>
          rw [hb] at h
          simp only [Bool.and_eq_true, Nat.ble_eq] at hb
          obtain ⟨⟨hv, hm⟩, hb⟩ := hb
          obtain rfl := Nat.eq_of_beq_eq_true hv
          exact ⟨c, minv, rfl, hm, hb, by simpa using h.symm⟩
/-- What is written abstractly is written in the block. -/
theorem wr_run (h : Sim B w0 ρ S w) {o v i : Nat} {xs : List AV} {vs : List Value} (hw : S.wr o v i xs = some S') (hv : VRs ρ xs vs) (ha : xs.all AV.atom = true)
    {L : Loc} (hL : ρ o v = some L) (h0 : L.start ≤ i) (h1 : i + xs.length ≤ L.ext) :
    ∃ w', (storeCells ⟨L.blk, L.at i, none⟩ vs).run P w = .ok () w' ∧ Sim B w0 ρ S' w' := by
  obtain ⟨c, minv, hg, hm, hl, rfl⟩ := wr_inv hw
  have hc : CellsAt B ρ w o c v minv true := h.obj o _ hg
  obtain ⟨k1, k2, cs, e, fz, k3, k4, k5, k6⟩ := hc.mem v L hL hm
  have hlen := hv.length
  have hext := hc.last L hL
  have hB : B ≤ L.blk := by have := hc.side v L hL; simpa using this
  obtain ⟨cur', s1, s2, s3⟩ := run_stores (P := P) L.blk (L.at i) e fz vs 0 cs w k3 (by unfold Loc.at; omega)
    (fun j j1 j2 => (k6 rfl).not (by unfold Loc.at at j2; omega)) (hv.atoms ha)
  refine ⟨_, s3, ?_⟩
  have hblk := h.heap o v L hL
  refine h.upd o _ (fun j => St.get_put _ _ _ _) (Nat.le_refl _) (h.dom o _ hg) (fun _ _ _ => rfl) (Rho.le_refl _) (Below.set_ h.below hB _) (by simp) ?_ ?_ (fun u L' e' => .inr ⟨u, L', e', rfl⟩) ?_
  · intro b hb
    by_cases hbl : b = L.blk
    · subst hbl; exact .inr ⟨hB, v, L, hL, rfl⟩
    · left; simp [Array.getElem?_setIfInBounds_ne (Ne.symm hbl)]
  · intro u L' e'; simpa using h.heap o u L' e'
  · refine (show CellsAt _ _ _ _ _ _ _ _ from ⟨hc.vers, ?_, ?_, hc.side, hc.align, ?_⟩)
    · intro L' e'; rw [hL] at e'; cases e'; simp; omega
    · intro u L' e' hu
      have : u = v := Nat.le_antisymm (hc.vers u L' e') hu
      subst this
      rw [hL] at e'; cases e'
      refine ⟨by simp; omega, k2, cur', e, fz, by simp [hblk], by omega, ?_, fun _ => by rw [s1]; exact k6 rfl⟩
      intro j hj hj'
      have hat : L.at j = L.at i + j - i ∨ j < i := by unfold Loc.at; omega
      by_cases hin : i ≤ j ∧ j < i + xs.length
      · have hx : xs[j - i]? = some xs[j - i] := List.getElem?_eq_getElem (by omega)
        obtain ⟨x, hx1, hx2⟩ := hv.get hx
        refine ⟨xs[j - i], x, ?_, ?_, hx2⟩
        · rw [List.append_assoc, List.getElem?_append_right (by simp; omega), List.getElem?_append_left (by simp; omega)]
          simp only [List.length_take]
          rw [show min i c.length = i by omega]; exact hx
        · rw [s2, if_pos (by unfold Loc.at; omega), show L.at j - (L.at i + 0) = j - i by unfold Loc.at; omega]; exact hx1
      · obtain ⟨a, x, ha1, ha2, ha3⟩ := k5 j hj hj'
        refine ⟨a, x, ?_, ?_, ha3⟩
        · by_cases hlt : j < i
          · rw [List.append_assoc, List.getElem?_append_left (by simp; omega), List.getElem?_take_of_lt hlt]; exact ha1
          · rw [List.getElem?_append_right (by simp; omega)]
            simp only [List.length_append, List.length_take, List.getElem?_drop]
            rw [show i + xs.length + (j - (min i c.length + xs.length)) = j by omega]; exact ha1
        · rw [s2, if_neg (by unfold Loc.at; omega)]; exact ha2
    · have h2 := hc.atoms
      simp only [List.all_append, Bool.and_eq_true]
      simp only [List.all_eq_true] at h2 ha ⊢
      exact ⟨⟨fun x hx => h2 x (List.mem_of_mem_take hx), ha⟩, fun x hx => h2 x (List.mem_of_mem_drop hx)⟩
end
end Go.Proofs.YtajoogahcgbohaaGreatA
