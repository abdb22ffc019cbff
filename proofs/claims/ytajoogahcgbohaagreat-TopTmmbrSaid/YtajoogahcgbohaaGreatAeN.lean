/- An abstract evaluator, part N: an append as the states see it. -/
import Derived.Test.YtajoogahcgbohaaGreatAeM
set_option linter.unusedVariables false
set_option linter.unusedSimpArgs false
namespace Go.Proofs.YtajoogahcgbohaaGreatA
open Go.RowKit
section
variable {P : Program} {B : Nat} {w0 : Base} {w : World} {ρ : Rho} {S S' : St}
/-- An object's next version: where it lies, and the world behind. -/
theorem Sim.bump (h : Sim B w0 ρ S w) {o ver minv e : Nat} {c xs : List AV} (hg : S.get o = some (.cells c ver minv true)) (hm : minv ≤ ver) (he : e ≤ c.length) (hxa : xs.all AV.atom = true)
    {L N : Loc} (hL : ρ o ver = some L) {w' : World} (hb : Below B w0 w') (hsz : w.heap.size ≤ w'.heap.size) (hN : N.ext = e + xs.length) (hNr : N.ext ≤ N.start + N.room) (hNb : B ≤ N.blk) (hNw : N.blk < w'.heap.size)
    (hcase : (N.blk = L.blk ∧ N.boff = L.boff ∧ N.start = L.start) ∨ w.heap.size ≤ N.blk)
    (hk : ∀ b, b < w.heap.size → w'.heap[b]? = w.heap[b]? ∨ b = L.blk)
    (hlies : ∃ cs e' fz, w'.heap[N.blk]? = some (.cells cs e' fz) ∧ N.boff + N.room ≤ cs.size ∧ (∀ i, N.start ≤ i → i < N.ext → ∃ a v, (c.take e ++ xs)[i]? = some a ∧ cs[N.at i]? = some v ∧ VR ρ a v) ∧ Fz fz cs.size)
    (hold : e = c.length → w'.heap[L.blk]? = w.heap[L.blk]? ∨ ∃ cs cs' e' fz, w.heap[L.blk]? = some (.cells cs e' fz) ∧ w'.heap[L.blk]? = some (.cells cs' e' fz) ∧ cs'.size = cs.size ∧ ∀ i, L.start ≤ i → i < e → cs'[L.at i]? = cs[L.at i]?) :
    ∃ ρ', ρ.le ρ' ∧ ρ' o (ver + 1) = some N ∧ Sim B w0 ρ' (S.put o (.cells (c.take e ++ xs) (ver + 1) (if e = c.length then minv else ver + 1) true)) w' := by
  have hc : CellsAt B ρ w o c ver minv true := h.obj o _ hg
  have hnone : ρ o (ver + 1) = none := by
    cases hq : ρ o (ver + 1) with
    | none => rfl
    | some M => have := hc.vers _ _ hq; omega
  have hle : ρ.le (fun o' u => if o' = o ∧ u = ver + 1 then some N else ρ o' u) := by
    intro o' u M e'
    by_cases ho : o' = o ∧ u = ver + 1
    · rw [ho.1, ho.2, hnone] at e'; cases e'
    · simp only [if_neg ho]; exact e'
  have hLB : B ≤ L.blk := by have := hc.side ver L hL; simpa using this
  have hLw := h.heap o ver L hL
  have cls : ∀ u M, (if o = o ∧ u = ver + 1 then some N else ρ o u) = some M → (u = ver + 1 ∧ M = N) ∨ (u ≤ ver ∧ ρ o u = some M) := by
    intro u M e'
    by_cases hu : u = ver + 1
    · simp [hu] at e'; exact .inl ⟨hu, e'.symm⟩
    · rw [if_neg (fun k => hu k.2)] at e'; exact .inr ⟨hc.vers u M e', e'⟩
  refine ⟨_, hle, by simp, ?_⟩
  refine h.upd o _ (fun j => St.get_put _ _ _ _) (Nat.le_refl _) (h.dom o _ hg) (fun o' u ho => if_neg fun k => ho k.1) hle hb hsz ?_ ?_ ?_ ?_
  · intro b hb'
    rcases hk b hb' with h1 | rfl
    · exact .inl h1
    · exact .inr ⟨hLB, ver, L, hL, rfl⟩
  · intro u M e'
    rcases cls u M e' with ⟨_, rfl⟩ | ⟨_, e''⟩
    · exact hNw
    · exact Nat.lt_of_lt_of_le (h.heap o u M e'') hsz
  · intro u M e'
    rcases cls u M e' with ⟨_, rfl⟩ | ⟨_, e''⟩
    · rcases hcase with ⟨h1, _, _⟩ | h1
      · exact .inr ⟨ver, L, hL, h1.symm⟩
      · exact .inl h1
    · exact .inr ⟨u, M, e'', rfl⟩
  · obtain ⟨ncs, ne, nfz, n1, n2, n3, n4⟩ := hlies
    refine (show CellsAt _ _ _ _ _ _ _ _ from ⟨?_, ?_, ?_, ?_, ?_, ?_⟩)
    · intro u M e'
      rcases cls u M e' with ⟨rfl, _⟩ | ⟨h1, _⟩ <;> omega
    · intro M e'
      rcases cls _ M e' with ⟨_, rfl⟩ | ⟨h1, _⟩
      · rw [hN]; simp; omega
      · omega
    · intro u M e' hu
      rcases cls u M e' with ⟨rfl, rfl⟩ | ⟨h1, e''⟩
      · refine ⟨by rw [hN]; simp; omega, hNr, ncs, ne, nfz, n1, n2, fun i hi hi' => ?_, fun _ => n4⟩
        obtain ⟨a, v, k1, k2, k3⟩ := n3 i hi hi'
        exact ⟨a, v, k1, k2, VR.mono hle k3⟩
      · by_cases hec : e = c.length
        · rw [if_pos hec] at hu
          obtain ⟨k1, k2, cs, e1, fz, k3, k4, k5, k6⟩ := hc.mem u M e'' hu
          have hpre : ∀ i, i < M.ext → (c.take e ++ xs)[i]? = c[i]? := by
            intro i hi
            rw [hec, List.take_length, List.getElem?_append_left (by omega)]
          by_cases hbl : M.blk = L.blk
          · obtain ⟨a1, a2⟩ := hc.align u M ver L e'' hL hbl
            have hat : ∀ i, M.at i = L.at i := fun i => by unfold Loc.at; rw [a1, a2]
            rcases hold hec with hsame | ⟨cs1, cs2, e2, fz2, g1, g2, g3, g4⟩
            · refine ⟨by simp; omega, k2, cs, e1, fz, by rw [hbl, hsame, ← hbl]; exact k3, k4, fun i hi hi' => ?_, k6⟩
              obtain ⟨a, v, q1, q2, q3⟩ := k5 i hi hi'
              exact ⟨a, v, by rw [hpre i hi']; exact q1, q2, VR.mono hle q3⟩
            · rw [hbl, g1] at k3; cases k3
              refine ⟨by simp; omega, k2, cs2, e1, fz, by rw [hbl]; exact g2, by omega, fun i hi hi' => ?_, fun ho => by rw [g3]; exact k6 ho⟩
              obtain ⟨a, v, q1, q2, q3⟩ := k5 i hi hi'
              refine ⟨a, v, by rw [hpre i hi']; exact q1, ?_, VR.mono hle q3⟩
              rw [hat, g4 i (by omega) (by omega), ← hat]; exact q2
          · have hsame : w'.heap[M.blk]? = w.heap[M.blk]? := by
              rcases hk M.blk (h.heap o u M e'') with h1 | h1
              · exact h1
              · exact absurd h1 hbl
            refine ⟨by simp; omega, k2, cs, e1, fz, hsame.trans k3, k4, fun i hi hi' => ?_, k6⟩
            obtain ⟨a, v, q1, q2, q3⟩ := k5 i hi hi'
            exact ⟨a, v, by rw [hpre i hi']; exact q1, q2, VR.mono hle q3⟩
        · rw [if_neg hec] at hu; omega
    · intro u M e'
      rcases cls u M e' with ⟨_, rfl⟩ | ⟨_, e''⟩
      · simpa using hNb
      · exact hc.side u M e''
    · intro u M u' M' e1 e2 hbl
      have self : ∀ u M, ρ o u = some M → N.blk = M.blk → N.boff = M.boff ∧ N.start = M.start := by
        intro u M e'' hb2
        rcases hcase with ⟨h1, h2, h3⟩ | h1
        · obtain ⟨a1, a2⟩ := hc.align ver L u M hL e'' (by omega)
          exact ⟨by omega, by omega⟩
        · have := h.heap o u M e''; omega
      rcases cls u M e1 with ⟨_, rfl⟩ | ⟨_, e1'⟩
      · rcases cls u' M' e2 with ⟨_, rfl⟩ | ⟨_, e2'⟩
        · exact ⟨rfl, rfl⟩
        · exact self u' M' e2' hbl
      · rcases cls u' M' e2 with ⟨_, rfl⟩ | ⟨_, e2'⟩
        · obtain ⟨a1, a2⟩ := self u M e1' hbl.symm; exact ⟨a1.symm, a2.symm⟩
        · exact hc.align u M u' M' e1' e2' hbl
    · have ha := hc.atoms
      simp only [List.all_append, Bool.and_eq_true]
      simp only [List.all_eq_true] at ha hxa ⊢
      exact ⟨fun x hx => ha x (List.mem_of_mem_take hx), hxa⟩
/-- An older version's next one: the versions up to now stand up to there alone. -/
theorem Sim.bumpF (h : Sim B w0 ρ S w) {o ver minv g e v : Nat} {c xs : List AV} {x : AO} (hg : S.get o = some x) (hc : ForkAt B ρ w o c ver minv g) (he : e ≤ g) (hgc : g ≤ c.length) (hxa : xs.all AV.atom = true)
    {L N : Loc} (hL : ρ o v = some L) {w' : World} (hb : Below B w0 w') (hsz : w.heap.size ≤ w'.heap.size) (hN : N.ext = e + xs.length) (hNr : N.ext ≤ N.start + N.room) (hNb : B ≤ N.blk) (hNw : N.blk < w'.heap.size)
    (hcase : (N.blk = L.blk ∧ N.boff = L.boff ∧ N.start = L.start) ∨ w.heap.size ≤ N.blk)
    (hk : ∀ b, b < w.heap.size → w'.heap[b]? = w.heap[b]? ∨ b = L.blk)
    (hlies : ∃ cs e' fz, w'.heap[N.blk]? = some (.cells cs e' fz) ∧ N.boff + N.room ≤ cs.size ∧ (∀ i, N.start ≤ i → i < N.ext → ∃ a v, (c.take e ++ xs)[i]? = some a ∧ cs[N.at i]? = some v ∧ VR ρ a v) ∧ Fz fz cs.size)
    (hold : w'.heap[L.blk]? = w.heap[L.blk]? ∨ ∃ cs cs' e' fz, w.heap[L.blk]? = some (.cells cs e' fz) ∧ w'.heap[L.blk]? = some (.cells cs' e' fz) ∧ cs'.size = cs.size ∧ ∀ i, L.start ≤ i → i < e → cs'[L.at i]? = cs[L.at i]?) :
    ∃ ρ', ρ.le ρ' ∧ ρ' o (ver + 1) = some N ∧ Sim B w0 ρ' (S.put o (.fork (c.take e ++ xs) (ver + 1) minv e)) w' := by
  have hnone : ρ o (ver + 1) = none := by
    cases hq : ρ o (ver + 1) with
    | none => rfl
    | some M => have := hc.vers _ _ hq; omega
  have hle : ρ.le (fun o' u => if o' = o ∧ u = ver + 1 then some N else ρ o' u) := by
    intro o' u M e'
    by_cases ho : o' = o ∧ u = ver + 1
    · rw [ho.1, ho.2, hnone] at e'; cases e'
    · simp only [if_neg ho]; exact e'
  have hLB : B ≤ L.blk := hc.side v L hL
  have hLw := h.heap o v L hL
  have cls : ∀ u M, (if o = o ∧ u = ver + 1 then some N else ρ o u) = some M → (u = ver + 1 ∧ M = N) ∨ (u ≤ ver ∧ ρ o u = some M) := by
    intro u M e'
    by_cases hu : u = ver + 1
    · simp [hu] at e'; exact .inl ⟨hu, e'.symm⟩
    · rw [if_neg (fun k => hu k.2)] at e'; exact .inr ⟨hc.vers u M e', e'⟩
  refine ⟨_, hle, by simp, ?_⟩
  refine h.upd o _ (fun j => St.get_put _ _ _ _) (Nat.le_refl _) (h.dom o _ hg) (fun o' u ho => if_neg fun k => ho k.1) hle hb hsz ?_ ?_ ?_ ?_
  · intro b hb'
    rcases hk b hb' with h1 | rfl
    · exact .inl h1
    · exact .inr ⟨hLB, v, L, hL, rfl⟩
  · intro u M e'
    rcases cls u M e' with ⟨_, rfl⟩ | ⟨_, e''⟩
    · exact hNw
    · exact Nat.lt_of_lt_of_le (h.heap o u M e'') hsz
  · intro u M e'
    rcases cls u M e' with ⟨_, rfl⟩ | ⟨_, e''⟩
    · rcases hcase with ⟨h1, _, _⟩ | h1
      · exact .inr ⟨v, L, hL, h1.symm⟩
      · exact .inl h1
    · exact .inr ⟨u, M, e'', rfl⟩
  · obtain ⟨ncs, ne, nfz, n1, n2, n3, n4⟩ := hlies
    refine (show ForkAt _ _ _ _ _ _ _ _ from ⟨?_, ?_, ?_, ?_, ?_, ?_⟩)
    · intro u M e'
      rcases cls u M e' with ⟨rfl, _⟩ | ⟨h1, _⟩ <;> omega
    · intro M e'
      rcases cls _ M e' with ⟨_, rfl⟩ | ⟨h1, _⟩
      · rw [hN]; simp; omega
      · omega
    · intro u M e' hu
      rcases cls u M e' with ⟨rfl, rfl⟩ | ⟨h1, e''⟩
      · refine ⟨hNr, ncs, ne, nfz, n1, n2, fun i hi hi' _ => ?_, n4⟩
        obtain ⟨a, v, k1, k2, k3⟩ := n3 i hi hi'
        exact ⟨a, v, k1, k2, VR.mono hle k3⟩
      · obtain ⟨k2, cs, e1, fz, k3, k4, k5, k6⟩ := hc.mem u M e'' hu
        have hpre : ∀ i, i < e → (c.take e ++ xs)[i]? = c[i]? := by
          intro i hi
          rw [List.getElem?_append_left (by simp; omega), List.getElem?_take_of_lt hi]
        by_cases hbl : M.blk = L.blk
        · obtain ⟨a1, a2⟩ := hc.align u M v L e'' hL hbl
          have hat : ∀ i, M.at i = L.at i := fun i => by unfold Loc.at; rw [a1, a2]
          rcases hold with hsame | ⟨cs1, cs2, e2, fz2, g1, g2, g3, g4⟩
          · refine ⟨k2, cs, e1, fz, by rw [hbl, hsame, ← hbl]; exact k3, k4, fun i hi hi' hie => ?_, k6⟩
            have hie : i < e := hie.resolve_left (by omega)
            obtain ⟨a, v, q1, q2, q3⟩ := k5 i hi hi' (.inr (by omega))
            exact ⟨a, v, by rw [hpre i hie]; exact q1, q2, VR.mono hle q3⟩
          · rw [hbl, g1] at k3; cases k3
            refine ⟨k2, cs2, e1, fz, by rw [hbl]; exact g2, by omega, fun i hi hi' hie => ?_, by rw [g3]; exact k6⟩
            have hie : i < e := hie.resolve_left (by omega)
            obtain ⟨a, v, q1, q2, q3⟩ := k5 i hi hi' (.inr (by omega))
            refine ⟨a, v, by rw [hpre i hie]; exact q1, ?_, VR.mono hle q3⟩
            rw [hat, g4 i (by omega) hie, ← hat]; exact q2
        · have hsame : w'.heap[M.blk]? = w.heap[M.blk]? := by
            rcases hk M.blk (h.heap o u M e'') with h1 | h1
            · exact h1
            · exact absurd h1 hbl
          refine ⟨k2, cs, e1, fz, hsame.trans k3, k4, fun i hi hi' hie => ?_, k6⟩
          have hie : i < e := hie.resolve_left (by omega)
          obtain ⟨a, v, q1, q2, q3⟩ := k5 i hi hi' (.inr (by omega))
          exact ⟨a, v, by rw [hpre i hie]; exact q1, q2, VR.mono hle q3⟩
    · intro u M e'
      rcases cls u M e' with ⟨_, rfl⟩ | ⟨_, e''⟩
      · exact hNb
      · exact hc.side u M e''
    · intro u M u' M' e1 e2 hbl
      have self : ∀ u M, ρ o u = some M → N.blk = M.blk → N.boff = M.boff ∧ N.start = M.start := by
        intro u M e'' hb2
        rcases hcase with ⟨h1, h2, h3⟩ | h1
        · obtain ⟨a1, a2⟩ := hc.align v L u M hL e'' (by omega)
          exact ⟨by omega, by omega⟩
        · have := h.heap o u M e''; omega
      rcases cls u M e1 with ⟨_, rfl⟩ | ⟨_, e1'⟩
      · rcases cls u' M' e2 with ⟨_, rfl⟩ | ⟨_, e2'⟩
        · exact ⟨rfl, rfl⟩
        · exact self u' M' e2' hbl
      · rcases cls u' M' e2 with ⟨_, rfl⟩ | ⟨_, e2'⟩
        · obtain ⟨a1, a2⟩ := self u M e1' hbl.symm; exact ⟨a1.symm, a2.symm⟩
        · exact hc.align u M u' M' e1' e2' hbl
    · have ha := hc.atoms
      simp only [List.all_append, Bool.and_eq_true]
      simp only [List.all_eq_true] at ha hxa ⊢
      exact ⟨fun x hx => ha x (List.mem_of_mem_take hx), hxa⟩
end
end Go.Proofs.YtajoogahcgbohaaGreatA
