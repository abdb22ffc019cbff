/- An abstract evaluator, part O: appends and copies are what the model says. An abstract evaluator, part P: operations that read and write memory, one by one. An abstract evaluator, part Q: every operation that calls nothing. An abstract evaluator, part R: an operation that calls nothing, whichever. An abstract evaluator, part S: every operation that calls nothing is what the evaluator says. An abstract evaluator, part T: every operation that calls nothing is what the evaluator says. An abstract evaluator, part U: operations of a region, calls among them. An abstract evaluator, part V: a region whose order is drawn. An abstract evaluator, part W: a region whose order is drawn, whichever order is drawn. An abstract evaluator, part Gh: blocks that are made ahead of their place in the text. An abstract evaluator, part X: a region whose order is drawn comes to what the text's order comes to. -/
import Derived.Test.YtidhpcjbllnjgaaGreatJoA
set_option linter.unusedVariables false
set_option linter.unusedSimpArgs false
namespace Go.Proofs.YtidhpcjbllnjgaaGreatA
open Go.RowKit
section
variable {P : Program} {B : Nat} {w0 : Base} {w : World} {ρ : Rho} {S S' : St}
theorem append_sound (h : Sim B w0 ρ S w) {s r : AV} {cs : Value} (hv : VR ρ s cs) {t u ty e : TypeId} {x : Value} {esz by_ n : Nat} {xs : List AV} {vs : List Value} {i : TypeInfo} {zv : Value}
    (ht : P.underlying t = some (.slice e)) (hi : P.info? e = some i) (hs : i.size = esz) (hby : i.bytes = by_) (hzv : i.zero = some zv) (hzs : zv.cells.size = esz) (hpos : 0 < esz) (hbp : 0 < by_)
    (src : ∀ d, Src P { w with drawn := d } e esz u x n vs) (hx : VRs ρ xs vs) (hxa : xs.all AV.atom = true) (ha : aAppend esz by_ S s n xs = some (r, S')) :
    Out B w0 ρ S' r ((do pure (Next.value (← Builtin.append_ #[t, u] ty #[cs, x])) : Sem Next).run P w) := by
  have hvl : vs.length = n * esz := (src 0).len
  have hxl : xs.length = n * esz := by rw [← hx.length]; exact hvl
  have srcw : Src P w e esz u x n vs := src w.drawn
  have hzi : i.zero.isSome = true := by rw [hzv]; rfl
  have fin0 : ∀ {A : Option Addr} {len cap : Nat}, cs = .slice A len cap → n = 0 → len ≤ cap → Out B w0 ρ S s ((do pure (Next.value (← Builtin.append_ #[t, u] ty #[cs, x])) : Sem Next).run P w) := by
    intro A len cap hcs hn hlc
    subst hn
    have hve : vs = [] := List.length_eq_zero_iff.1 (by omega)
    subst hve
    refine Out.val h hv ?_
    rw [hcs]
    have := app_room (P := P) (ty := ty) (base := A) (sLen := len) (sCap := cap) ht hi hs hzi (by omega) srcw (by omega) (w' := w) (fun a _ => rfl) (fun _ => rfl)
    simpa using this
  cases hv with
  | sliceNil =>
    simp only [aAppend] at ha
    split at ha
    · rename_i hn; cases ha; exact fin0 rfl hn (Nat.le_refl _)
    · rename_i hn
      split at ha
      · rename_i hb
        cases ha
        obtain ⟨cap, rest, g1, g2, g3⟩ := app_grow (P := P) (ty := ty) (old := []) (base := none) (sLen := 0) (sCap := 0) ht hi hs hzv hzs (by omega) (by simpa [hby] using hb) (.inl (by omega)) srcw src (fun d => by simp [Builtin.firstCells]) (by simp)
        refine out_newSlR h e (0, 0) n esz cap hxl (by omega) (cs := ([] ++ vs ++ rest).toArray) ?_ ?_ hxa (.inl rfl) (d := w.drawn + 1) (by simpa using g3)
        · simp only [List.nil_append, List.size_toArray, List.length_append, hvl, g2, Nat.zero_add]
          rw [← Nat.add_mul]; congr 1; omega
        · rw [hxl, ← hvl]
          simpa using hx
      · cases ha
  | @slice o v j len e' cap clip L a hL h0 h1 h2 h3 h4 haddr =>
    simp only [aAppend] at ha
    split at ha
    · cases ha
    rename_i hee
    have hee : e' = esz := by omega
    subst hee
    split at ha
    · rename_i hn; cases ha; exact fin0 rfl hn h3
    rename_i hn
    split at ha
    · cases ha
    rename_i hb
    have hb : ((len + n) + (len + n) / 4 + 256) * by_ ≤ 281474976710656 := by omega
    have hlm : len * e' + n * e' = (len + n) * e' := (Nat.add_mul _ _ _).symm
    -- growing: the old cells, and a new block
    have grow : ∀ (l : List AV), S.rd o v j (len * e') = some l → ¬ len + n ≤ cap → ∃ old newCap rest, VRs ρ l old ∧ l.all AV.atom = true ∧ old.length = len * e' ∧ len + n ≤ newCap ∧ rest.length = (newCap - (len + n)) * e' ∧
        (Builtin.append_ #[t, u] ty #[.slice (some a) len cap, x]).run P w = .ok (.slice (some ⟨w.heap.size, 0, none⟩) (len + n) newCap) { w with heap := w.heap.push (.cells ((old ++ vs ++ rest).toArray) e), drawn := w.drawn + 1 } := by
      intro l hr hroom
      obtain ⟨old, k1, k2, k3, k4⟩ := slice_cells (P := P) h (.slice hL h0 h1 h2 h3 h4 haddr) (Nat.le_refl len) hr
      have hold : ∀ d, (Builtin.firstCells e' len (.slice (some a) len cap)).run P { w with drawn := d } = .ok old.toArray { w with drawn := d } := by
        intro d
        obtain ⟨old', q1, q2, q3, q4⟩ := slice_cells (P := P) (h.drawn d) (.slice hL h0 h1 h2 h3 h4 haddr) (Nat.le_refl len) hr
        have : old' = old := by
          have e1 := run_loadCells_list (P := P)
          rcases haddr with hz | rfl
          · have : len = 0 := by omega
            subst this
            rw [List.length_eq_zero_iff.1 (show old.length = 0 by omega), List.length_eq_zero_iff.1 (show old'.length = 0 by omega)]
          · obtain ⟨vs1, p1, p2, p3, cs1, e1, fz1, p4, p5, p6⟩ := rd_lies h hr hL h0 h1
            have hrun : ∀ d, (loadCells ⟨L.blk, L.at j, none⟩ (len * e')).run P { w with drawn := d } = .ok vs1.toArray { w with drawn := d } := by
              intro d
              have := run_loadCells_list (P := P) { w with drawn := d } ⟨L.blk, L.at j, none⟩ vs1 (fun q y hy => by
                have hq : q < len * e' := by have := (List.getElem?_eq_some_iff.1 hy).1; omega
                rw [add_at, cell_at (w := { w with drawn := d }) p4, p6 q hq, hy])
              rwa [p1] at this
            have r1 := hrun w.drawn
            have r2 := hrun d
            have k4' : (loadCells ⟨L.blk, L.at j, none⟩ (len * e')).run P w = .ok vs1.toArray w := r1
            rw [k4'] at k4
            rw [r2] at q4
            have a1 : vs1 = old := by simpa using k4
            have a2 : vs1 = old' := by simpa using q4
            rw [← a1, ← a2]
        rw [← this]
        exact q4
      obtain ⟨newCap, rest, g1, g2, g3⟩ := app_grow (P := P) (ty := ty) ht hi hs hzv hzs hroom (by rw [hby]; exact hb) (.inl (by omega)) srcw src hold k1
      exact ⟨old, newCap, rest, k2, k3, k1, g1, g2, g3⟩
    cases clip with
    | some c =>
      dsimp only at ha
      split at ha
      · rename_i hlt
        have hcap := h4 c rfl
        simp only [Option.map_eq_some_iff] at ha
        obtain ⟨l, hr, hre⟩ := ha
        cases hre
        have hl := rd_length hr
        obtain ⟨old, newCap, rest, k1, k2, k3, k4, k5, k6⟩ := grow l hr (by omega)
        refine out_newSlR h e (0, 0) (len + n) e' newCap (by simp; omega) k4 (cs := (old ++ vs ++ rest).toArray) ?_ ?_ ?_ (.inl rfl) (d := w.drawn + 1) k6
        · simp only [List.size_toArray, List.length_append, hvl, k3, k5]
          rw [← Nat.add_mul, ← Nat.add_mul]; congr 1; omega
        · have hap := k1.append hx
          have : (l ++ xs).length = (old ++ vs).length := hap.length.symm
          rw [this]
          have e2 : (old ++ vs ++ rest).toArray.toList.take (old ++ vs).length = old ++ vs := List.take_left
          rw [e2]
          exact hap
        · simp only [List.all_append, Bool.and_eq_true]; exact ⟨k2, hxa⟩
      · cases ha
    | none =>
      dsimp only at ha
      have forked : ∀ (c : List AV) (ver minv g : Nat) (x0 : AO), S.get o = some x0 → ForkAt B ρ w o c ver minv g → minv ≤ v → j + len * e' ≤ g → g ≤ c.length → S.rd o v j (len * e') = some ((c.drop j).take (len * e')) →
          some (.slice (some (o, ver + 1, j)) (len + n) e' none, S.put o (.fork (c.take (j + len * e') ++ xs) (ver + 1) minv (j + len * e'))) = some (r, S') → Out B w0 ρ S' r ((do pure (Next.value (← Builtin.append_ #[t, u] ty #[.slice (some a) len cap, x])) : Sem Next).run P w) := by
        intro c ver minv g x0 hg hcl hm hend hgc hr ha
        cases ha
        obtain ⟨m2, ccs, ce, cfz, m3, m4, m5, m6⟩ := hcl.mem v L hL hm
        have hLB : B ≤ L.blk := hcl.side v L hL
        have hLw := h.heap o v L hL
        by_cases hroom : len + n ≤ cap
        · -- in place
          have hcapm : (len + n) * e' ≤ cap * e' := Nat.mul_le_mul_right _ hroom
          have haddr' : a = ⟨L.blk, L.at j, none⟩ := by
            rcases haddr with hz | hz
            · omega
            · exact hz
          subst haddr'
          obtain ⟨cur', s1, s2, s3⟩ := run_stores (P := P) L.blk (L.at j + len * e') ce cfz vs 0 ccs w m3 (by unfold Loc.at; omega)
            (fun q q1 q2 => m6.not (by unfold Loc.at at q2; omega)) (hx.atoms hxa)
          have hrun := app_room (P := P) (ty := ty) (base := some ⟨L.blk, L.at j, none⟩) ht hi hs hzi (by rw [hby]; have : n * by_ ≤ ((len + n) + (len + n) / 4 + 256) * by_ := Nat.mul_le_mul_right _ (by omega); omega) srcw hroom
            (w' := { w with heap := w.heap.setIfInBounds L.blk (.cells cur' ce cfz) }) (fun a' ha' => by cases ha'; rw [add_at]; exact s3) (fun hno => by cases hno)
          obtain ⟨ρ', hle, hρ, hS⟩ := h.bumpF (xs := xs) (e := j + len * e') hg hcl hend hgc hxa hL (N := ⟨L.blk, L.boff, L.start, j + len * e' + xs.length, L.room⟩)
            (w' := { w with heap := w.heap.setIfInBounds L.blk (.cells cur' ce cfz) }) (Below.set_ h.below hLB _) (by simp) rfl (by simp only; omega) hLB (by simpa using hLw) (.inl ⟨rfl, rfl, rfl⟩)
            (fun b hb' => by
              by_cases hbl : b = L.blk
              · exact .inr hbl
              · left; simp [Array.getElem?_setIfInBounds_ne (Ne.symm hbl)])
            (by
              refine ⟨cur', ce, cfz, by simp [hLw], by simp only; omega, fun q q1 q2 => ?_, by rw [s1]; exact m6⟩
              simp only at q1 q2
              by_cases hq : q < j + len * e'
              · obtain ⟨aa, vv, z1, z2, z3⟩ := m5 q q1 (by omega) (.inr (by omega))
                refine ⟨aa, vv, ?_, ?_, z3⟩
                · rw [List.getElem?_append_left (by simp; omega), List.getElem?_take_of_lt hq]; exact z1
                · show cur'[L.at q]? = _
                  rw [s2, if_neg (by unfold Loc.at; omega)]; exact z2
              · have hxq : xs[q - (j + len * e')]? = some xs[q - (j + len * e')] := List.getElem?_eq_getElem (by omega)
                obtain ⟨vv, z1, z2⟩ := hx.get hxq
                refine ⟨_, vv, ?_, ?_, z2⟩
                · rw [List.getElem?_append_right (by simp; omega)]
                  simp only [List.length_take]
                  rw [show min (j + len * e') c.length = j + len * e' by omega]; exact hxq
                · show cur'[L.at q]? = _
                  rw [s2, if_pos (by unfold Loc.at; omega), show L.at q - (L.at j + len * e' + 0) = q - (j + len * e') by unfold Loc.at; omega]; exact z1)
            (.inr ⟨ccs, cur', ce, cfz, m3, by simp [hLw], s1, fun q q1 q2 => by rw [s2, if_neg (by unfold Loc.at; omega)]⟩)
          refine Out.of hle (.slice hρ (by simp only; omega) (by simp only; omega) (by simp only; omega) hroom (by simp) (.inr rfl)) hS hrun
        · -- a new block
          obtain ⟨old, newCap, rest, k1, k2, k3, k4, k5, k6⟩ := grow _ hr hroom
          have hcm : (len + n) * e' ≤ newCap * e' := Nat.mul_le_mul_right _ k4
          have hsz : (old ++ vs ++ rest).length = newCap * e' := by
            simp only [List.length_append, hvl, k3, k5]
            rw [← Nat.add_mul, ← Nat.add_mul]; congr 1; omega
          obtain ⟨ρ', hle, hρ, hS⟩ := h.bumpF (xs := xs) (e := j + len * e') hg hcl hend hgc hxa hL (N := ⟨w.heap.size, 0, j, j + len * e' + xs.length, newCap * e'⟩)
            (w' := { w with heap := w.heap.push (.cells ((old ++ vs ++ rest).toArray) e), drawn := w.drawn + 1 })
            ⟨h.below.os, h.below.tape, h.below.output, Nat.le_trans h.below.size (by simp), fun k hk => by
              rw [← h.below.block k hk]
              simp [Array.getElem?_push, Nat.ne_of_lt (Nat.lt_of_lt_of_le hk h.base)]⟩
            (by simp) rfl (by simp only; omega) h.base (by simp) (.inr (Nat.le_refl _))
            (fun b hb' => .inl (by simp [Array.getElem?_push, Nat.ne_of_lt hb']))
            (by
              refine ⟨(old ++ vs ++ rest).toArray, e, (0, 0), by simp, by simp only [List.size_toArray, hsz]; omega, fun q q1 q2 => ?_, .inl rfl⟩
              simp only at q1 q2
              have hat : (⟨w.heap.size, 0, j, j + len * e' + xs.length, newCap * e'⟩ : Loc).at q = q - j := by simp [Loc.at]
              rw [hat]
              have hap := k1.append hx
              by_cases hq : q < j + len * e'
              · have hcq : c[q]? = some c[q] := List.getElem?_eq_getElem (by omega)
                have hlq : ((c.drop j).take (len * e') ++ xs)[q - j]? = some c[q] := by
                  rw [List.getElem?_append_left (by simp; omega), List.getElem?_take_of_lt (by omega), List.getElem?_drop, show j + (q - j) = q by omega]; exact hcq
                obtain ⟨vv, z1, z2⟩ := hap.get hlq
                refine ⟨_, vv, ?_, ?_, z2⟩
                · rw [List.getElem?_append_left (by simp; omega), List.getElem?_take_of_lt hq]; exact hcq
                · have : q - j < (old ++ vs).length := (List.getElem?_eq_some_iff.1 z1).1
                  rw [List.getElem?_toArray, List.getElem?_append_left this]; exact z1
              · have hxq : xs[q - (j + len * e')]? = some xs[q - (j + len * e')] := List.getElem?_eq_getElem (by omega)
                have hlq : ((c.drop j).take (len * e') ++ xs)[q - j]? = some xs[q - (j + len * e')] := by
                  rw [List.getElem?_append_right (by simp; omega)]
                  simp only [List.length_take, List.length_drop]
                  rw [show q - j - min (len * e') (c.length - j) = q - (j + len * e') by omega]; exact hxq
                obtain ⟨vv, z1, z2⟩ := hap.get hlq
                refine ⟨_, vv, ?_, ?_, z2⟩
                · rw [List.getElem?_append_right (by simp; omega)]
                  simp only [List.length_take]
                  rw [show min (j + len * e') c.length = j + len * e' by omega]; exact hxq
                · have : q - j < (old ++ vs).length := (List.getElem?_eq_some_iff.1 z1).1
                  rw [List.getElem?_toArray, List.getElem?_append_left this]; exact z1)
            (.inl (by simp [Array.getElem?_push, Nat.ne_of_lt hLw]))
          refine Out.of hle (.slice hρ (Nat.le_refl _) (by simp only; omega) (by simp only; omega) k4 (by simp) (.inr ?_)) hS k6
          simp [Loc.at]
      split at ha
      · rename_i c ver minv hg
        split at ha
        · rename_i hc
          obtain ⟨rfl, hend, hm⟩ := hc
          cases ha
          have hcl : CellsAt B ρ w o c v minv true := h.obj o _ hg
          obtain ⟨m1, m2, ccs, ce, cfz, m3, m4, m5, m6⟩ := hcl.mem v L hL hm
          have hLB : B ≤ L.blk := by have := hcl.side v L hL; simpa using this
          have hLw := h.heap o v L hL
          have hext := hcl.last L hL
          by_cases hroom : len + n ≤ cap
          · -- in place
            have hcapm : (len + n) * e' ≤ cap * e' := Nat.mul_le_mul_right _ hroom
            have haddr' : a = ⟨L.blk, L.at j, none⟩ := by
              rcases haddr with hz | hz
              · omega
              · exact hz
            subst haddr'
            obtain ⟨cur', s1, s2, s3⟩ := run_stores (P := P) L.blk (L.at j + len * e') ce cfz vs 0 ccs w m3 (by unfold Loc.at; omega)
              (fun q q1 q2 => (m6 rfl).not (by unfold Loc.at at q2; omega)) (hx.atoms hxa)
            have hrun := app_room (P := P) (ty := ty) (base := some ⟨L.blk, L.at j, none⟩) ht hi hs hzi (by rw [hby]; have : n * by_ ≤ ((len + n) + (len + n) / 4 + 256) * by_ := Nat.mul_le_mul_right _ (by omega); omega) srcw hroom
              (w' := { w with heap := w.heap.setIfInBounds L.blk (.cells cur' ce cfz) }) (fun a' ha' => by cases ha'; rw [add_at]; exact s3) (fun hno => by cases hno)
            obtain ⟨ρ', hle, hρ, hS⟩ := h.bump (xs := xs) (e := j + len * e') hg hm hend hxa hL (N := ⟨L.blk, L.boff, L.start, j + len * e' + xs.length, L.room⟩)
              (w' := { w with heap := w.heap.setIfInBounds L.blk (.cells cur' ce cfz) }) (Below.set_ h.below hLB _) (by simp) rfl (by simp only; omega) hLB (by simpa using hLw) (.inl ⟨rfl, rfl, rfl⟩)
              (fun b hb' => by
                by_cases hbl : b = L.blk
                · exact .inr hbl
                · left; simp [Array.getElem?_setIfInBounds_ne (Ne.symm hbl)])
              (by
                refine ⟨cur', ce, cfz, by simp [hLw], by simp only; omega, fun q q1 q2 => ?_, by rw [s1]; exact m6 rfl⟩
                simp only at q1 q2
                by_cases hq : q < j + len * e'
                · obtain ⟨aa, vv, z1, z2, z3⟩ := m5 q q1 (by omega)
                  refine ⟨aa, vv, ?_, ?_, z3⟩
                  · rw [List.getElem?_append_left (by simp; omega), List.getElem?_take_of_lt hq]; exact z1
                  · show cur'[L.at q]? = _
                    rw [s2, if_neg (by unfold Loc.at; omega)]; exact z2
                · have hxq : xs[q - (j + len * e')]? = some xs[q - (j + len * e')] := List.getElem?_eq_getElem (by omega)
                  obtain ⟨vv, z1, z2⟩ := hx.get hxq
                  refine ⟨_, vv, ?_, ?_, z2⟩
                  · rw [List.getElem?_append_right (by simp; omega)]
                    simp only [List.length_take]
                    rw [show min (j + len * e') c.length = j + len * e' by omega]; exact hxq
                  · show cur'[L.at q]? = _
                    rw [s2, if_pos (by unfold Loc.at; omega), show L.at q - (L.at j + len * e' + 0) = q - (j + len * e') by unfold Loc.at; omega]; exact z1)
              (fun _ => .inr ⟨ccs, cur', ce, cfz, m3, by simp [hLw], s1, fun q q1 q2 => by rw [s2, if_neg (by unfold Loc.at; omega)]⟩)
            refine Out.of hle (.slice hρ (by simp only; omega) (by simp only; omega) (by simp only; omega) hroom (by simp) (.inr rfl)) hS hrun
          · -- a new block
            have hr : S.rd o v j (len * e') = some ((c.drop j).take (len * e')) := by
              unfold St.rd
              rw [hg]
              have : (Nat.ble minv v && Nat.ble v v && Nat.ble (j + len * e') c.length) = true := by simp [hm, hend]
              simp only [this, cond_true]
            obtain ⟨old, newCap, rest, k1, k2, k3, k4, k5, k6⟩ := grow _ hr hroom
            have hcm : (len + n) * e' ≤ newCap * e' := Nat.mul_le_mul_right _ k4
            have hsz : (old ++ vs ++ rest).length = newCap * e' := by
              simp only [List.length_append, hvl, k3, k5]
              rw [← Nat.add_mul, ← Nat.add_mul]; congr 1; omega
            obtain ⟨ρ', hle, hρ, hS⟩ := h.bump (xs := xs) (e := j + len * e') hg hm hend hxa hL (N := ⟨w.heap.size, 0, j, j + len * e' + xs.length, newCap * e'⟩)
              (w' := { w with heap := w.heap.push (.cells ((old ++ vs ++ rest).toArray) e), drawn := w.drawn + 1 })
              ⟨h.below.os, h.below.tape, h.below.output, Nat.le_trans h.below.size (by simp), fun k hk => by
                rw [← h.below.block k hk]
                simp [Array.getElem?_push, Nat.ne_of_lt (Nat.lt_of_lt_of_le hk h.base)]⟩
              (by simp) rfl (by simp only; omega) h.base (by simp) (.inr (Nat.le_refl _))
              (fun b hb' => .inl (by simp [Array.getElem?_push, Nat.ne_of_lt hb']))
              (by
                refine ⟨(old ++ vs ++ rest).toArray, e, (0, 0), by simp, by simp only [List.size_toArray, hsz]; omega, fun q q1 q2 => ?_, .inl rfl⟩
                simp only at q1 q2
                have hat : (⟨w.heap.size, 0, j, j + len * e' + xs.length, newCap * e'⟩ : Loc).at q = q - j := by simp [Loc.at]
                rw [hat]
                have hap := k1.append hx
                by_cases hq : q < j + len * e'
                · have hcq : c[q]? = some c[q] := List.getElem?_eq_getElem (by omega)
                  have hlq : ((c.drop j).take (len * e') ++ xs)[q - j]? = some c[q] := by
                    rw [List.getElem?_append_left (by simp; omega), List.getElem?_take_of_lt (by omega), List.getElem?_drop, show j + (q - j) = q by omega]; exact hcq
                  obtain ⟨vv, z1, z2⟩ := hap.get hlq
                  refine ⟨_, vv, ?_, ?_, z2⟩
                  · rw [List.getElem?_append_left (by simp; omega), List.getElem?_take_of_lt hq]; exact hcq
                  · have : q - j < (old ++ vs).length := (List.getElem?_eq_some_iff.1 z1).1
                    rw [List.getElem?_toArray, List.getElem?_append_left this]; exact z1
                · have hxq : xs[q - (j + len * e')]? = some xs[q - (j + len * e')] := List.getElem?_eq_getElem (by omega)
                  have hlq : ((c.drop j).take (len * e') ++ xs)[q - j]? = some xs[q - (j + len * e')] := by
                    rw [List.getElem?_append_right (by simp; omega)]
                    simp only [List.length_take, List.length_drop]
                    rw [show q - j - min (len * e') (c.length - j) = q - (j + len * e') by omega]; exact hxq
                  obtain ⟨vv, z1, z2⟩ := hap.get hlq
                  refine ⟨_, vv, ?_, ?_, z2⟩
                  · rw [List.getElem?_append_right (by simp; omega)]
                    simp only [List.length_take]
                    rw [show min (j + len * e') c.length = j + len * e' by omega]; exact hxq
                  · have : q - j < (old ++ vs).length := (List.getElem?_eq_some_iff.1 z1).1
                    rw [List.getElem?_toArray, List.getElem?_append_left this]; exact z1)
              (fun _ => .inl (by simp [Array.getElem?_push, Nat.ne_of_lt hLw]))
            refine Out.of hle (.slice hρ (Nat.le_refl _) (by simp only; omega) (by simp only; omega) k4 (by simp) (.inr ?_)) hS k6
            simp [Loc.at]
        · split at ha
          · rename_i hc
            exact forked c ver minv c.length _ hg (CellsAt.fork (h.obj o _ hg)) hc.1 hc.2.2 (Nat.le_refl _) (by
              unfold St.rd
              rw [hg]
              have : (Nat.ble minv v && Nat.ble v ver && Nat.ble (j + len * e') c.length) = true := by simp [hc.1, Nat.le_of_lt hc.2.1, hc.2.2]
              simp only [this, cond_true]) ha
          · cases ha
      · rename_i c ver minv g hg
        split at ha
        · rename_i hc
          exact forked c ver minv g _ hg (h.obj o _ hg) hc.1 hc.2.2.1 hc.2.2.2 (by
            unfold St.rd
            rw [hg]
            have : (Nat.ble minv v && Nat.ble v ver && Nat.ble (j + len * e') c.length && (Nat.beq v ver || Nat.ble (j + len * e') g)) = true := by
              have := hc.2.2.1; have := hc.2.2.2
              simp [hc.1, Nat.le_of_lt hc.2.1, hc.2.2.1]; omega
            simp only [this, cond_true]) ha
        · cases ha
      · cases ha
  | _ => simp [aAppend] at ha
end
section
variable {P : Program} {B : Nat} {w0 : Base} {w : World} {ρ : Rho} {S S' : St}
theorem wf_nat {n : Nat} (h : n ≤ 9223372036854775807) : (Lit.int .i64 (n : Int)).wf = true := by
  rw [wf_bounds]; simp [IntKind.min, IntKind.max, IntKind.signed, IntKind.bits]; omega
theorem wf_byte {n : Nat} (h : n < 256) : (Lit.int .u8 (n : Int)).wf = true := by
  rw [wf_bounds]; simp [IntKind.min, IntKind.max, IntKind.signed, IntKind.bits]; omega
theorem load1_sound (h : Sim B w0 ρ S w) {t : TypeId} (hg : isAggT P t = some false) {p : Pl} {c : Value} (hv : VR ρ (.ptr (some p)) c) {a : AV} (hr : S.rd p.o p.v p.i 1 = some [a]) (hn : 1 ≤ p.n) :
    ∃ x, (Instr.loadAt t c).run P w = .ok x w ∧ VR ρ a x := by
  cases hv with
  | ptr hL h0 h1 ha =>
    subst ha
    obtain ⟨x, hx, hrun⟩ := rd_run1 (P := P) h hr hL h0 (by omega)
    exact ⟨x, by simp only [Instr.loadAt, Instr.sureAddr, Sem.run_bind, Sem.run_pure, Result.andThen_ok, loadVar, run_agg hg, Bool.false_eq_true, if_false, hrun], hx⟩
theorem loadN_sound (h : Sim B w0 ρ S w) {t : TypeId} {n : Nat} (hg : isAggT P t = some true) (hs : szOf P t = some n) {p : Pl} {c : Value} (hv : VR ρ (.ptr (some p)) c) {l : List AV} (hr : S.rd p.o p.v p.i n = some l) (hn : n ≤ p.n) :
    ∃ x, (Instr.loadAt t c).run P w = .ok x w ∧ VR ρ (.agg l) x := by
  cases hv with
  | ptr hL h0 h1 ha =>
    subst ha
    obtain ⟨vs, k1, k2, k3, hrun⟩ := rd_run (P := P) h hr hL h0 (by omega)
    refine ⟨.agg vs.toArray, ?_, .agg (by simpa using k2) k3⟩
    simp only [Instr.loadAt, Instr.sureAddr, Sem.run_bind, Sem.run_pure, Result.andThen_ok, loadVar, run_agg hg, if_true, run_size hs, hrun]
theorem store_sound (h : Sim B w0 ρ S w) {t : TypeId} {n : Nat} (hs : szOf P t = some n) {p : Pl} {c cx : Value} {x : AV} (hv : VR ρ (.ptr (some p)) c) (hx : VR ρ x cx) (hl : x.cells.length = n) (hn : n ≤ p.n) (ht : x.tup = false) (hw : S.wr p.o p.v p.i x.cells = some S') :
    ∃ w', (Instr.storeAt t c cx).run P w = .ok () w' ∧ Sim B w0 ρ S' w' := by
  cases hv with
  | ptr hL h0 h1 ha =>
    subst ha
    obtain ⟨w', hrun, hS⟩ := wr_run (P := P) h hw hx.cells (hx.cells_atoms ht) hL h0 (by omega)
    refine ⟨w', ?_, hS⟩
    have hcl := hx.cells.length
    simp only [Array.length_toList] at hcl
    simp only [Instr.storeAt, Instr.sureAddr, Sem.run_bind, Sem.run_pure, Result.andThen_ok, storeVar, run_size hs]
    rw [if_neg (by omega)]
    simpa using hrun
theorem ix_run {x : AV} {c : Value} (hv : VR ρ x c) {n k : Nat} (h : ixOf x n = some k) : ∃ kd i, c = .int kd i ∧ 0 ≤ i ∧ i < (n : Int) ∧ i.toNat = k ∧ k < n := by
  cases hv <;> simp only [ixOf] at h <;> try cases h
  split at h
  · rename_i hb; cases h; exact ⟨_, _, rfl, hb.1, hb.2, rfl, by omega⟩
  · cases h
theorem ixSlice_sound {t e : TypeId} {esz : Nat} (ht : P.underlying t = some (.slice e)) (hs : szOf P e = some esz) {o v j len : Nat} {clip : Option Nat} {cx ci : Value} {i : AV} (hx : VR ρ (.slice (some (o, v, j)) len esz clip) cx) (hi : VR ρ i ci) {k : Nat} (hk : ixOf i len = some k) (w : World) :
    ∃ c, (Instr.indexAt t cx ci).run P w = .ok c w ∧ VR ρ (.ptr (some ⟨o, v, j + k * esz, esz⟩)) c := by
  cases hx with
  | @slice _ _ _ _ _ cap _ L a hL h0 h1 h2 h3 h4 ha =>
    obtain ⟨kd, n, rfl, g0, g1, g2, g3⟩ := ix_run hi hk
    have hcap : cap ≠ 0 := by omega
    have haddr : a = ⟨L.blk, L.at j, none⟩ := by rcases ha with hz | hz; exact absurd hz hcap; exact hz
    subst haddr
    have hm : k * esz + esz ≤ len * esz := by rw [← Nat.succ_mul]; exact Nat.mul_le_mul_right _ g3
    refine ⟨.pointer (some ⟨L.blk, L.at (j + k * esz), none⟩), ?_, .ptr hL (by simp only; omega) (by simp only; omega) rfl⟩
    simp only [Instr.indexAt, asIntOf, Sem.run_bind, Sem.run_pure, Result.andThen_ok, run_und ht]
    simp only [Sem.run_ite, if_pos (And.intro g0 g1), Sem.run_bind, run_size hs, Result.andThen_ok, Sem.run_pure, add_at, g2]
    congr 4
    unfold Loc.at; omega
theorem ixArr_sound {t e : TypeId} {n esz : Nat} (ht : P.underlying t = some (.array n e)) (hs : szOf P e = some esz) {p : Pl} {cx ci : Value} {i : AV} (hx : VR ρ (.ptr (some p)) cx) (hi : VR ρ i ci) {k : Nat} (hk : ixOf i n = some k) (hn : n * esz ≤ p.n) (w : World) :
    ∃ c, (Instr.indexAt t cx ci).run P w = .ok c w ∧ VR ρ (.ptr (some ⟨p.o, p.v, p.i + k * esz, esz⟩)) c := by
  cases hx with
  | @ptr _ L _ hL h0 h1 ha =>
    subst ha
    obtain ⟨kd, m, rfl, g0, g1, g2, g3⟩ := ix_run hi hk
    have hm : k * esz + esz ≤ n * esz := by rw [← Nat.succ_mul]; exact Nat.mul_le_mul_right _ g3
    refine ⟨.pointer (some ⟨L.blk, L.at (p.i + k * esz), none⟩), ?_, .ptr hL (by simp only; omega) (by simp only; omega) rfl⟩
    simp only [Instr.indexAt, asIntOf, Instr.sureAddr, Sem.run_bind, Sem.run_pure, Result.andThen_ok, run_und ht]
    simp only [Sem.run_ite, if_pos (And.intro g0 g1), Sem.run_bind, run_size hs, Result.andThen_ok, Sem.run_pure, add_at, g2]
    congr 4
    unfold Loc.at; omega
theorem fieldAddr_sound {s : TypeId} {fs : Array Field} {f n : Nat} {fd : Field} (ht : P.underlying s = some (.struct fs)) (hf : fs[f]? = some fd) (hs : szOf P fd.type = some n) (hn : 0 < n) {p : Pl} {cx : Value} (hx : VR ρ (.ptr (some p)) cx) (hle : fd.offset + n ≤ p.n) (w : World) :
    ∃ c, (Instr.fieldAt s cx f).run P w = .ok c w ∧ VR ρ (.ptr (some ⟨p.o, p.v, p.i + fd.offset, n⟩)) c := by
  cases hx with
  | @ptr _ L _ hL h0 h1 ha =>
    subst ha
    refine ⟨.pointer (some ⟨L.blk, L.at (p.i + fd.offset), none⟩), ?_, .ptr hL (by simp only; omega) (by simp only; omega) rfl⟩
    simp only [Instr.fieldAt, Sem.run_bind, run_und ht, Result.andThen_ok, hf, Instr.sureAddr, Sem.run_pure, fieldPlace, run_size hs]
    rw [if_neg (by omega)]
    simp only [Sem.run_pure, Result.andThen_ok, add_at]
    congr 4
    unfold Loc.at; omega
theorem part1_sound {t : TypeId} (hg : isAggT P t = some false) {l : List AV} {cs : Array Value} (hv : VRs ρ l cs.toList) {off : Nat} {a : AV} (ha : l[off]? = some a) (w : World) : ∃ c, (part t cs off).run P w = .ok c w ∧ VR ρ a c := by
  obtain ⟨v, h1, h2⟩ := hv.get ha
  simp only [Array.getElem?_toList] at h1
  exact ⟨v, by simp only [part, Sem.run_bind, run_agg hg, Result.andThen_ok, Bool.false_eq_true, if_false, h1, Sem.run_pure], h2⟩
theorem partN_sound {t : TypeId} {n : Nat} (hg : isAggT P t = some true) (hs : szOf P t = some n) {l : List AV} {cs : Array Value} (hv : VRs ρ l cs.toList) (hat : l.all AV.atom = true) {off : Nat} (hl : off + n ≤ l.length) (w : World) :
    ∃ c, (part t cs off).run P w = .ok c w ∧ VR ρ (.agg ((l.drop off).take n)) c := by
  have hlen := hv.length
  refine ⟨.agg (cs.extract off (off + n)), ?_, .agg ?_ ?_⟩
  · simp only [part, Sem.run_bind, run_agg hg, Result.andThen_ok, if_true, run_size hs, Sem.run_pure]
  · have : (cs.extract off (off + n)).toList = (cs.toList.drop off).take n := by
      rw [Array.toList_extract, List.extract_eq_take_drop]; congr 1; omega
    rw [this]
    exact (hv.drop off).take n
  · simp only [List.all_eq_true] at hat ⊢
    exact fun x hx => hat x (List.mem_of_mem_drop (List.mem_of_mem_take hx))
theorem range_sound (h : Sim B w0 ρ S w) (b : ByteArray) : ∃ ρ', ρ.le ρ' ∧ ρ' S.next 0 = some ⟨w.heap.size, 0, 0, 1, 1⟩ ∧ Sim B w0 ρ' (S.alloc (.iter (bytesN b) 0)) { w with heap := w.heap.push (.stringIter b 0) } := by
  have hnone : ∀ u, ρ S.next u = none := fun u => by
    cases hq : ρ S.next u with
    | none => rfl
    | some L => exact absurd (h.fresh _ _ _ hq) (Nat.lt_irrefl _)
  have hle : ρ.le (fun o u => if o = S.next ∧ u = 0 then some ⟨w.heap.size, 0, 0, 1, 1⟩ else ρ o u) := by
    intro o u L e'
    by_cases ho : o = S.next ∧ u = 0
    · rw [ho.1, hnone] at e'; cases e'
    · simp only [if_neg ho]; exact e'
  have only : ∀ u L, (if S.next = S.next ∧ u = 0 then some (⟨w.heap.size, 0, 0, 1, 1⟩ : Loc) else ρ S.next u) = some L → u = 0 ∧ L = ⟨w.heap.size, 0, 0, 1, 1⟩ := by
    intro u L e'
    by_cases hu : u = 0
    · simp [hu] at e'; exact ⟨hu, e'.symm⟩
    · rw [if_neg (fun k => hu k.2), hnone] at e'; cases e'
  refine ⟨_, hle, by simp, ?_⟩
  refine h.upd S.next (.iter (bytesN b) 0) (fun o => St.get_alloc _ _ _) (by simp [St.alloc]) (by simp [St.alloc]) (fun o u ho => if_neg fun k => ho k.1) hle ?_ (by simp) ?_ ?_ ?_ ?_
  · exact ⟨h.below.os, h.below.tape, h.below.output, Nat.le_trans h.below.size (by simp), fun k hk => by
      rw [← h.below.block k hk]
      simp [Array.getElem?_push, Nat.ne_of_lt (Nat.lt_of_lt_of_le hk h.base)]⟩
  · intro b' hb; left; simp [Array.getElem?_push, Nat.ne_of_lt hb]
  · intro u L e'; obtain ⟨_, rfl⟩ := only u L e'; simp
  · intro u L e'; obtain ⟨_, rfl⟩ := only u L e'; exact .inl (Nat.le_refl _)
  · refine (show IterAt _ _ _ _ _ _ from ⟨?_, ?_, fun u L u' L' e1 e2 => by obtain ⟨_, rfl⟩ := only u L e1; obtain ⟨_, rfl⟩ := only u' L' e2; rfl⟩)
    · intro u L e'; obtain ⟨_, rfl⟩ := only u L e'; exact h.base
    · intro u L e'; obtain ⟨_, rfl⟩ := only u L e'; exact ⟨rfl, rfl, rfl, b, by simp, rfl⟩
theorem next_sound (h : Sim B w0 ρ S w) {p : Pl} {c : Value} (hv : VR ρ (.ptr (some p)) c) (hp : p.i = 0) {s : List Nat} {pos : Nat} (hg : S.get p.o = some (.iter s pos)) (ty : TypeId) :
    (s.drop pos = [] → (Instr.next c true ty).run P w = .ok (.tuple #[.bool false]) w) ∧
    (∀ b l, s.drop pos = b :: l → pos ≤ 9223372036854775807 → ∃ w', (Instr.next c true ty).run P w = .ok (.tuple #[.bool true, .int .i64 pos, .int .i32 (decR (b :: l)).1]) w' ∧ Sim B w0 ρ (S.put p.o (.iter s (pos + (decR (b :: l)).2))) w') := by
  cases hv with
  | @ptr _ L _ hL h0 h1 ha =>
    have hi : IterAt B ρ w p.o s pos := h.obj _ _ hg
    obtain ⟨k1, k2, k3, bs, k4, k5⟩ := hi.mem p.v L hL
    have haddr : L.at p.i = 0 := by unfold Loc.at; omega
    rw [haddr] at ha
    subst ha
    have hlen := bytesN_length bs
    rw [k5] at hlen
    refine ⟨fun hd => ?_, fun b l hd hpos => ?_⟩
    · have hge : bs.size ≤ pos := by
        have := congrArg List.length hd
        simp at this; omega
      simp only [Instr.next, Sem.run_bind, getObj, Sem.run, k4, Result.andThen_ok]
      simp only [Sem.run_ite, if_neg (show ¬ pos < bs.size by omega), Sem.run_pure]
    · have hlt : pos < bs.size := by
        have := congrArg List.length hd
        simp at this; omega
      have hdec := dec_eq bs pos hlt
      rw [k5, hd] at hdec
      refine ⟨{ w with heap := w.heap.setIfInBounds L.blk (.stringIter bs (pos + (decR (b :: l)).2)) }, ?_, ?_⟩
      · simp only [Instr.next, Sem.run_bind, getObj, setObj, Sem.run, k4, Result.andThen_ok]
        simp only [Sem.run_ite, if_pos hlt, Sem.run_bind, setObj, Sem.run, k4, Result.andThen_ok, hdec, goInt]
        rfl
      · have hB := hi.side p.v L hL
        have hLw := h.heap _ _ _ hL
        refine h.upd p.o _ (fun j => St.get_put _ _ _ _) (Nat.le_refl _) (h.dom _ _ hg) (fun _ _ _ => rfl) (Rho.le_refl _) (Below.set_ h.below hB _) (by simp) ?_ ?_ (fun u L' e' => .inr ⟨u, L', e', rfl⟩) ?_
        · intro b' hb
          by_cases hbl : b' = L.blk
          · subst hbl; exact .inr ⟨hB, p.v, L, hL, rfl⟩
          · left; simp [Array.getElem?_setIfInBounds_ne (Ne.symm hbl)]
        · intro u L' e'; simpa using h.heap _ u L' e'
        · refine (show IterAt _ _ _ _ _ _ from ⟨hi.side, ?_, hi.uniq⟩)
          intro u L' e'
          obtain ⟨q1, q2, q3, bs', q4, q5⟩ := hi.mem u L' e'
          have hbl : L'.blk = L.blk := hi.uniq u L' p.v L e' hL
          exact ⟨q1, q2, q3, bs, by rw [hbl]; simp [hLw], k5⟩
end
section
variable {P : Program} {B : Nat} {w0 : Base} {w : World} {ρ : Rho} {S S' : St}
theorem op_alloc (h : Sim B w0 ρ S w) {t : TypeId} {z : List AV} (hz : zeroOf P t = some z) (ha : z.all AV.atom = true) :
    Out B w0 ρ (newVar S z).2 (newVar S z).1 ((do pure (Next.value (← Instr.alloc t true (.tuple #[]))) : Sem Next).run P w) := by
  obtain ⟨i, zv, av, hi, hzv, hvr, rfl⟩ := zero_inv hz
  obtain ⟨ρ', h1, h2, h3, h4⟩ := new_row (P := P) h t (hvr ρ).cells ha
  refine Out.of (c := .pointer (some ⟨w.heap.size, 0, none⟩)) h1 (.ptr h2 (Nat.zero_le _) (by simp) rfl) h3 ?_
  simp only [Instr.alloc, Sem.run_bind, run_zero hi hzv, Result.andThen_ok, Go.newVar, h4, Sem.run_pure]
theorem op_buildSlice {T : Tm} {a : Act} (hT : TR ρ T a.tmps) (h : Sim B w0 ρ S w) {t e : TypeId} {len n : Nat} {parts : Array (Nat × Operand)} {z : List AV} {ys : List (Nat × Nat × XO)} (ht : P.underlying t = some (.slice e)) (hn : szOf P e = some n) (hz : zeroOf P e = some z)
    (hl : z.length = n) (hpos : 0 < n) (hmax : len * n ≤ 16777216) (ha : z.all AV.atom = true) (hp : cPartsA n parts.toList = some ys) {ps : List (Nat × Nat × AV)} (hps : evParts T ys = some ps) {cs : List AV} (hf : aFill (rep len z) ps = some cs) :
    Out B w0 ρ (newSl S cs len n).2 (newSl S cs len n).1 ((do pure (Next.value (← Instr.buildSlice t len (parts.map fun (i, x) => (i, a.eval x)))) : Sem Next).run P w) := by
  obtain ⟨i, zv, av, hi, hzv, hvr, rfl⟩ := zero_inv hz
  have hzc := (hvr ρ).cells
  have hzl := hzc.length
  simp only [Array.length_toList] at hzl
  have hpr := parts_A (ρ := ρ) hT n hp hps
  have hmx : ¬ (len * n > 2 ^ 24) := by have : (2 : Nat) ^ 24 = 16777216 := by decide
                                        omega
  have hcells := zeros_VRs (ρ := ρ) hzc (by omega) len
  rw [hl] at hcells
  obtain ⟨co, g1, g2, g3, g4⟩ := fill_sound _ hpr hcells (rep_atoms ha) hf
  refine out_newSl h e len n (by rw [g4, rep_length, hl]) g2 g3 ?_
  have hrow : ((Array.range (len * n)).map fun i => (if len * n = 0 then #[] else zv.cells)[i % (if len * n = 0 then #[] else zv.cells).size]!) = (Array.range (len * n)).map fun i => zv.cells[i % zv.cells.size]! := by
    by_cases h0 : len * n = 0
    · rw [h0]; simp
    · simp only [if_neg h0]
  simp only [Instr.buildSlice, Sem.run_bind, run_und ht, Result.andThen_ok, run_size hn, if_neg hmx, map_parts, Sem.run_pure, newRow, run_newObj]
  by_cases h0 : len * n = 0
  · rw [if_pos h0] at hrow
    rw [if_pos h0]
    simp only [Sem.run_bind, Sem.run_pure, Result.andThen_ok, hrow, g1, run_newObj]
  · rw [if_neg h0]
    simp only [Sem.run_bind, Sem.run_pure, Result.andThen_ok, run_zero hi hzv, g1, run_newObj]
theorem op_makeSlice (h : Sim B w0 ρ S w) {t e : TypeId} {n by_ : Nat} {z : List AV} (ht : P.underlying t = some (.slice e)) (hn : szOf P e = some n) (hby : byOf P e = some by_) (hz : zeroOf P e = some z)
    (hl : z.length = n) (hpos : 0 < n) (ha : z.all AV.atom = true) {l c : Int} (hwl : (Lit.int .i64 l).wf = true) (hwc : (Lit.int .i64 c).wf = true) (h0 : 0 ≤ l) (h1 : l ≤ c) (h2 : c * by_ ≤ 281474976710656) :
    Out B w0 ρ (newSl S (rep l.toNat z) l.toNat n).2 (newSl S (rep l.toNat z) l.toNat n).1 ((do pure (Next.value (← Instr.makeSlice t (.int .i64 l) (.int .i64 c))) : Sem Next).run P w) := by
  obtain ⟨i, zv, av, hi, hzv, hvr, rfl⟩ := zero_inv hz
  have hzc := (hvr ρ).cells
  have hzl := hzc.length
  simp only [Array.length_toList] at hzl
  obtain ⟨i', hi', rfl⟩ := sz_inv hn
  rw [hi] at hi'; cases hi'
  have hby' : i.bytes = by_ := by simp only [byOf, hi, Option.map_some, Option.some.injEq] at hby; exact hby
  subst hby'
  rw [wf_bounds] at hwl hwc
  have m1 : IntKind.i64.min = -9223372036854775808 := by decide
  have m2 : IntKind.i64.max = 9223372036854775807 := by decide
  have wl : IntKind.i64.wrap l = l := by rw [IntKind.wrap_i64]; omega
  have wc : IntKind.i64.wrap c = c := by rw [IntKind.wrap_i64]; omega
  have hb : ¬ ((i.bytes : Int) * c > 2 ^ 48) := by
    have : (2 : Int) ^ 48 = 281474976710656 := by decide
    rw [Int.mul_comm] at h2
    omega
  have hc0 : ¬ c < 0 := by omega
  have hcells := zeros_VRs (ρ := ρ) hzc (by omega) c.toNat
  rw [hl] at hcells
  have hrow : ((Array.range (c.toNat * i.size)).map fun j => (if c.toNat * i.size = 0 then #[] else zv.cells)[j % (if c.toNat * i.size = 0 then #[] else zv.cells).size]!) = (Array.range (c.toNat * i.size)).map fun j => zv.cells[j % zv.cells.size]! := by
    by_cases h0 : c.toNat * i.size = 0
    · rw [h0]; simp
    · simp only [if_neg h0]
  have hlen : (rep l.toNat av.cells).length = l.toNat * i.size := by rw [rep_length, hl]
  have hcm : l.toNat * i.size ≤ c.toNat * i.size := Nat.mul_le_mul_right _ (by omega)
  refine out_newSlR (cs := (Array.range (c.toNat * i.size)).map fun j => zv.cells[j % zv.cells.size]!) h e (0, 0) l.toNat i.size c.toNat hlen (by omega) (by simp) ?_ (rep_atoms ha) (.inl rfl) (d := w.drawn) ?_
  · have := hcells.take (l.toNat * i.size)
    have e1 : (rep c.toNat av.cells).take (l.toNat * i.size) = rep l.toNat av.cells := by
      have hsplit : c.toNat = l.toNat + (c.toNat - l.toNat) := by omega
      have : rep c.toNat av.cells = rep l.toNat av.cells ++ rep (c.toNat - l.toNat) av.cells := by
        rw [hsplit]
        simp only [rep, List.replicate_append_replicate.symm, List.flatten_append]
        congr 3; omega
      rw [this, ← hlen, List.take_left]
    rw [e1] at this
    rw [hlen]
    exact this
  · have tl : (decide (c < 0) || decide ((i.bytes : Int) * c > 2 ^ 48)) = false := by simp only [Bool.or_eq_false_iff, decide_eq_false_iff_not]; exact ⟨hc0, hb⟩
    have cond : ((decide (c < 0) || decide ((i.bytes : Int) * c > 2 ^ 48)) || decide (l < 0) || decide (l > c)) = false := by
      rw [tl]; simp only [Bool.false_or, Bool.or_eq_false_iff, decide_eq_false_iff_not]; omega
    simp only [Instr.makeSlice, Sem.run_bind, run_und ht, Result.andThen_ok, asInt, asIntOf, Sem.run_pure, run_info hi, wl, wc]
    simp only [cond, Bool.false_eq_true, if_false, Sem.run_bind, run_askRoom, Result.andThen_ok, run_size hn, newRow, run_newObj, Sem.run_pure]
    by_cases h0 : c.toNat * i.size = 0
    · rw [if_pos h0] at hrow
      rw [if_pos h0]
      simp only [Sem.run_bind, Sem.run_pure, Result.andThen_ok, hrow, run_newObj]
    · rw [if_neg h0]
      simp only [Sem.run_bind, Sem.run_pure, Result.andThen_ok, run_zero hi hzv, run_newObj]
theorem max_run : ∀ {l : List AV} {cs : List Value}, VRs ρ l cs → ∀ {k : IntKind} {a : Int} {r : AV}, (Lit.int k a).wf = true → maxFrom k a l = some r → ∃ c, (cs.foldlM Builtin.max2 (.int k a)).run P w = .ok c w ∧ VR ρ r c := by
  intro l
  induction l with
  | nil => intro cs h k a r hw hm; cases h; cases hm; exact ⟨_, rfl, .int hw⟩
  | cons x l ih =>
    intro cs h k a r hw hm
    cases h with
    | cons hv ht =>
      cases hv <;> simp only [maxFrom] at hm <;> try cases hm
      rename_i k' b hw'
      split at hm
      · rename_i hk
        subst hk
        have hw2 : (Lit.int k (if a < b then b else a)).wf = true := by split <;> assumption
        obtain ⟨c, h1, h2⟩ := ih ht hw2 hm
        refine ⟨c, ?_, h2⟩
        simp only [List.foldlM_cons, Sem.run_bind, Builtin.max2, Sem.run_pure, Result.andThen_ok]
        exact h1
      · cases hm
theorem min_run : ∀ {l : List AV} {cs : List Value}, VRs ρ l cs → ∀ {k : IntKind} {a : Int} {r : AV}, (Lit.int k a).wf = true → minFrom k a l = some r → ∃ c, (cs.foldlM Builtin.min2 (.int k a)).run P w = .ok c w ∧ VR ρ r c := by
  intro l
  induction l with
  | nil => intro cs h k a r hw hm; cases h; cases hm; exact ⟨_, rfl, .int hw⟩
  | cons x l ih =>
    intro cs h k a r hw hm
    cases h with
    | cons hv ht =>
      cases hv <;> simp only [minFrom] at hm <;> try cases hm
      rename_i k' b hw'
      split at hm
      · rename_i hk
        subst hk
        have hw2 : (Lit.int k (if b < a then b else a)).wf = true := by split <;> assumption
        obtain ⟨c, h1, h2⟩ := ih ht hw2 hm
        refine ⟨c, ?_, h2⟩
        simp only [List.foldlM_cons, Sem.run_bind, Builtin.min2, Sem.run_pure, Result.andThen_ok]
        exact h1
      · cases hm
theorem maxI_run {l : List AV} {cs : List Value} (h : VRs ρ l cs) {r : AV} (hm : maxI l = some r) (ats : Array TypeId) (ty : TypeId) : ∃ c, (Builtin.max_ ats ty cs.toArray).run P w = .ok c w ∧ VR ρ r c := by
  cases h with
  | nil => cases hm
  | cons hv ht =>
    cases hv <;> simp only [maxI] at hm <;> try cases hm
    rename_i hw
    obtain ⟨c, h1, h2⟩ := max_run (P := P) (w := w) ht hw hm
    exact ⟨c, by simpa only [Builtin.max_] using h1, h2⟩
theorem minI_run {l : List AV} {cs : List Value} (h : VRs ρ l cs) {r : AV} (hm : minI l = some r) (ats : Array TypeId) (ty : TypeId) : ∃ c, (Builtin.min_ ats ty cs.toArray).run P w = .ok c w ∧ VR ρ r c := by
  cases h with
  | nil => cases hm
  | cons hv ht =>
    cases hv <;> simp only [minI] at hm <;> try cases hm
    rename_i hw
    obtain ⟨c, h1, h2⟩ := min_run (P := P) (w := w) ht hw hm
    exact ⟨c, by simpa only [Builtin.min_] using h1, h2⟩
/-- The cells that an append of a slice or a text appends. -/
theorem src_slice (h : Sim B w0 ρ S w) {u e : TypeId} {esz : Nat} {d : TypeDesc} (hu : P.underlying u = some d) (hd : ∀ k, d ≠ .int k) {x : Value} {n : Nat} {vs : List Value} (hl : vs.length = n * esz) (hlen : ∀ w', (Builtin.lenOf x).run P w' = .ok n w') (hfc : ∀ dr, (Builtin.firstCells esz n x).run P { w with drawn := dr } = .ok vs.toArray { w with drawn := dr }) :
    ∀ dr, Src P { w with drawn := dr } e esz u x n vs := fun dr => ⟨hl, d, hu, .inr ⟨hd, hlen, hfc dr⟩⟩
theorem cells_any (h : Sim B w0 ρ S w) {o v i len esz cap : Nat} {clip : Option Nat} {a : Addr} (hv : VR ρ (.slice (some (o, v, i)) len esz clip) (.slice (some a) len cap)) {m : Nat} (hm : m ≤ len) {l : List AV}
    (hr : S.rd o v i (m * esz) = some l) : ∃ vs : List Value, vs.length = m * esz ∧ VRs ρ l vs ∧ l.all AV.atom = true ∧ ∀ dr, (loadCells a (m * esz)).run P { w with drawn := dr } = .ok vs.toArray { w with drawn := dr } := by
  cases hv with
  | slice hL h0 h1 h2 h3 h4 ha =>
    rcases ha with rfl | rfl
    · have : m = 0 := by omega
      subst this
      have hl := rd_length hr
      simp only [Nat.zero_mul] at hl
      have : l = [] := List.length_eq_zero_iff.1 hl
      subst this
      exact ⟨[], by simp, .nil, rfl, fun dr => by simp [loadCells, loadCellsFrom]⟩
    · have : m * esz ≤ len * esz := Nat.mul_le_mul_right _ hm
      obtain ⟨vs, k1, k2, k3, cs, e, fz, k4, k5, k6⟩ := rd_lies h hr hL h0 (by omega)
      refine ⟨vs, k1, k2, k3, fun dr => ?_⟩
      have := run_loadCells_list (P := P) { w with drawn := dr } ⟨_, Loc.at _ i, none⟩ vs (fun j x hx => by
        have hj : j < m * esz := by have := (List.getElem?_eq_some_iff.1 hx).1; omega
        rw [add_at, cell_at (w := { w with drawn := dr }) k4, k6 j hj, hx])
      rwa [k1] at this
end
section
variable {P : Program} {B : Nat} {w0 : Base} {w : World} {ρ : Rho} {S S' : St}
theorem evo_sound {T : Tm} {a : Act} (hT : TR ρ T a.tmps) {x : Option Operand} {y : Option XO} (hc : cXo x = some y) {v : Option AV} (he : evOpt T y = some v) : VRo ρ v (x.map a.eval) := by
  cases x with
  | none => cases hc; cases he; exact trivial
  | some x =>
    simp only [cXo, Option.map_eq_some_iff] at hc
    obtain ⟨y, hy, rfl⟩ := hc
    simp only [evOpt, Option.map_eq_some_iff] at he
    obtain ⟨v, hv, rfl⟩ := he
    exact cX_sound hT hy hv
theorem und_iface {t : TypeId} (h : (match P.underlying t with | some (.interface _) | none => none | _ => some ()) = some ()) : ∃ d, P.underlying t = some d ∧ ∀ m, d ≠ .interface m := by
  cases hu : P.underlying t with
  | none => rw [hu] at h; cases h
  | some d => exact ⟨d, rfl, fun m hm => by rw [hu, hm] at h; cases h⟩
theorem zeroV_inv {t : TypeId} {z : AV} (h : zeroV P t = some z) : ∃ zv, (∀ w, (zeroValue t).run P w = .ok zv w) ∧ ∀ ρ, VR ρ z zv := by
  simp only [zeroV, Option.bind_eq_some_iff] at h
  obtain ⟨zv, ⟨i, hi, hz⟩, hav⟩ := h
  exact ⟨zv, fun w => run_zero hi hz w, fun ρ => ofV_sound _ _ _ hav⟩
theorem assert_sound {t xt : TypeId} {z x r : AV} {ok : Bool} {d : TypeDesc} (hd : P.underlying t = some d) (hni : ∀ m, d ≠ .interface m) (hz : zeroV P t = some z) {cx : Value} (hx : VR ρ x cx)
    (h : aAssert t z ok x = some r) (w : World) : ∃ c, (Instr.typeAssert cx xt t ok).run P w = .ok c w ∧ VR ρ r c := by
  unfold aAssert at h
  obtain ⟨zv, hzr, hzv⟩ := zeroV_inv hz
  cases hx with
  | @iface u v c hv =>
    dsimp only at h
    by_cases hut : u = t
    · rw [if_pos hut] at h
      cases ok
      · cases h
        refine ⟨c, ?_, hv⟩
        simp only [Instr.typeAssert, Sem.run_bind, run_und hd, Result.andThen_ok]
        cases d <;> first | exact absurd rfl (hni _) | simp [hut]
      · cases h
        refine ⟨.tuple #[c, .bool true], ?_, .tuple (.cons hv (.cons .bool .nil))⟩
        simp only [Instr.typeAssert, Sem.run_bind, run_und hd, Result.andThen_ok]
        cases d <;> first | exact absurd rfl (hni _) | simp [hut]
    · rw [if_neg hut] at h
      cases ok
      · cases h
      · cases h
        refine ⟨.tuple #[zv, .bool false], ?_, .tuple (.cons (hzv ρ) (.cons .bool .nil))⟩
        simp only [Instr.typeAssert, Sem.run_bind, run_und hd, Result.andThen_ok]
        cases d <;> first | exact absurd rfl (hni _) | simp [hut, hzr]
  | nilIface =>
    dsimp only at h
    cases ok
    · cases h
    · cases h
      refine ⟨.tuple #[zv, .bool false], ?_, .tuple (.cons (hzv ρ) (.cons .bool .nil))⟩
      simp only [Instr.typeAssert, Sem.run_bind, run_und hd, Result.andThen_ok]
      cases d <;> first | exact absurd rfl (hni _) | simp [hzr]
  | _ => cases h
theorem assertI_sound {t xt : TypeId} {x r : AV} {ok : Bool} {want : Array (String × TypeId)} {yes no : List Nat} (hd : P.underlying t = some (.interface want)) (hz : zeroV P t = some .nilIface)
    (hy : ∀ u ∈ yes, ∃ i, P.info? u = some i ∧ Instr.missingMethod want i.methods = none) (hn : ∀ u ∈ no, ∃ i m, P.info? u = some i ∧ Instr.missingMethod want i.methods = some m) {cx : Value} (hx : VR ρ x cx)
    (h : aAssertI yes no ok x = some r) (w : World) : ∃ c, (Instr.typeAssert cx xt t ok).run P w = .ok c w ∧ VR ρ r c := by
  unfold aAssertI at h
  obtain ⟨zv, hzr, hzv⟩ := zeroV_inv hz
  cases hx with
  | @iface u v c hv =>
    dsimp only at h
    by_cases hut : u ∈ yes
    · rw [if_pos hut] at h
      obtain ⟨i, hi, hm⟩ := hy u hut
      cases ok
      · cases h
        refine ⟨.iface u c, ?_, .iface hv⟩
        simp only [Instr.typeAssert, Sem.run_bind, run_und hd, Result.andThen_ok, run_info hi, hm]
        rfl
      · cases h
        refine ⟨.tuple #[.iface u c, .bool true], ?_, .tuple (.cons (.iface hv) (.cons .bool .nil))⟩
        simp only [Instr.typeAssert, Sem.run_bind, run_und hd, Result.andThen_ok, run_info hi, hm]
        rfl
    · rw [if_neg hut] at h
      split at h
      · rename_i hc
        obtain ⟨hno, rfl⟩ := hc
        obtain ⟨i, m, hi, hm⟩ := hn u hno
        cases h
        refine ⟨.tuple #[zv, .bool false], ?_, .tuple (.cons (hzv ρ) (.cons .bool .nil))⟩
        simp only [Instr.typeAssert, Sem.run_bind, run_und hd, Result.andThen_ok, run_info hi, hm]
        simp [hzr]
      · cases h
  | nilIface =>
    dsimp only at h
    cases ok
    · cases h
    · cases h
      refine ⟨.tuple #[zv, .bool false], ?_, .tuple (.cons (hzv ρ) (.cons .bool .nil))⟩
      simp only [Instr.typeAssert, Sem.run_bind, run_und hd, Result.andThen_ok]
      simp [hzr]
  | _ => cases h
theorem copy_sound (h : Sim B w0 ρ S w) {t u e : TypeId} {esz : Nat} {ty : TypeId} (ht : P.underlying t = some (.slice e)) (hs : szOf P e = some esz) {d s r : AV} {cd cs : Value} (hd : VR ρ d cd) (hss : VR ρ s cs)
    (he : aCopy esz S d s = some (r, S')) :
    Out B w0 ρ S' r ((do pure (Next.value (← Builtin.copy_ #[t, u] ty #[cd, cs])) : Sem Next).run P w) := by
  have run0 : ∀ {base : Option Addr} {dl dc : Nat} {sn : Nat}, cd = .slice base dl dc → (Builtin.lenOf cs).run P w = .ok sn w → Nat.min sn dl = 0 → (Builtin.firstCells esz 0 cs).run P w = .ok #[] w → (Builtin.copy_ #[t, u] ty #[cd, cs]).run P w = .ok (.int .i64 0) w := by
    intro base dl dc sn hcd hl hm hf
    subst hcd
    simp only [Builtin.copy_, List.getElem?_toArray, List.getElem?_cons_zero, List.getElem?_cons_succ, Sem.run_bind, run_und ht, Result.andThen_ok, hl, hm, run_size hs, hf]
    cases base <;> simp [storeCells, goInt]
  unfold aCopy at he
  cases hd with
  | @sliceNil esz' clip =>
    dsimp only at he
    cases hss with
    | sliceNil => cases he; exact Out.val h (.int (by decide)) (run0 rfl (sn := 0) rfl (by simp) (by simp [Builtin.firstCells]))
    | @slice o v i len e' cap clip L a hL h0 h1 h2 h3 h4 ha => cases he; exact Out.val h (.int (by decide)) (run0 rfl (sn := len) rfl (by simp) (by simp [Builtin.firstCells, loadCells, loadCellsFrom]))
    | _ => cases he
  | @slice o v i dl e' cap clip L a hL h0 h1 h2 h3 h4 ha =>
    dsimp only at he
    cases hss with
    | sliceNil => cases he; exact Out.val h (.int (by decide)) (run0 rfl (sn := 0) rfl (by simp) (by simp [Builtin.firstCells]))
    | @slice o' v' i' sl e2 cap' clip' L' a' hL' h0' h1' h2' h3' h4' ha' =>
      dsimp only at he
      split at he
      · cases he
      · rename_i hc
        have hc1 : e' = esz := by omega
        have hc2 : e2 = esz := by omega
        subst hc1
        subst hc2
        simp only [Option.bind_eq_some_iff, Option.map_eq_some_iff] at he
        obtain ⟨l, hr, S2, hw, hre⟩ := he
        cases hre
        have hl := rd_length hr
        obtain ⟨vs, k1, k2, k3, k4⟩ := slice_cells (P := P) h (.slice hL' h0' h1' h2' h3' h4' ha') (m := min sl dl) (by omega) hr
        have hmm : min sl dl * e2 ≤ dl * e2 := Nat.mul_le_mul_right _ (by omega)
        have hst : ∃ w', (storeCells a vs).run P w = .ok () w' ∧ Sim B w0 ρ S' w' := by
          rcases ha with hz | rfl
          · have hdl : dl = 0 := by omega
            have hl0 : l = [] := List.length_eq_zero_iff.1 (by rw [hl, hdl]; simp)
            have hv0 : vs = [] := List.length_eq_zero_iff.1 (by rw [k1, hdl]; simp)
            subst hl0 hv0
            obtain ⟨w', q1, q2⟩ := wr_run (P := P) h hw (vs := []) .nil rfl hL h0 (by simp; omega)
            refine ⟨w, rfl, ?_⟩
            have : w' = w := by simpa [storeCells] using q1.symm
            rw [← this]
            exact q2
          · exact wr_run (P := P) h hw k2 k3 hL h0 (by omega)
        obtain ⟨w', q1, q2⟩ := hst
        refine Out.of (Rho.le_refl ρ) (.int (wf_nat (by omega))) q2 ?_
        have hmin : Nat.min sl dl = min sl dl := rfl
        simp only [Builtin.copy_, List.getElem?_toArray, List.getElem?_cons_zero, List.getElem?_cons_succ, Sem.run_bind, run_und ht, Result.andThen_ok, Builtin.lenOf, Sem.run_pure, run_size hs, Builtin.firstCells, hmin, k4, q1, goInt]
    | _ => cases he
  | _ => cases he
theorem clear_sound (h : Sim B w0 ρ S w) {t e : TypeId} {esz : Nat} {ty : TypeId} (ht : P.underlying t = some (.slice e)) {z : List AV} (hz : zeroOf P e = some z) (hl : z.length = esz) (hpos : 0 < esz) (hza : z.all AV.atom = true) {x r : AV} {cx : Value} (hx : VR ρ x cx)
    (he : aClear esz z S x = some (r, S')) :
    Out B w0 ρ S' r ((do pure (Next.value (← Builtin.clear_ #[t] ty #[cx])) : Sem Next).run P w) := by
  unfold aClear at he
  cases hx with
  | sliceNil => cases he; exact Out.val h (.tuple .nil) (by simp [Builtin.clear_, run_und ht])
  | @slice o v i dl e' cap clip L a hL h0 h1 h2 h3 h4 ha =>
    dsimp only at he
    split at he
    · rename_i hc1
      subst hc1
      simp only [Option.map_eq_some_iff] at he
      obtain ⟨S2, hw, hre⟩ := he
      cases hre
      obtain ⟨i', zv, av, hi, hzv, hvr, rfl⟩ := zero_inv hz
      have hzc := (hvr ρ).cells
      have hzcl := hzc.length
      simp only [Array.length_toList] at hzcl
      by_cases hd0 : dl = 0
      · subst hd0
        obtain ⟨w', q1, q2⟩ := wr_run (P := P) h hw (vs := []) .nil rfl hL h0 (by simp [rep]; omega)
        have : w' = w := by simpa [storeCells] using q1.symm
        rw [this] at q2
        exact Out.of (Rho.le_refl ρ) (.tuple .nil) q2 (by simp [Builtin.clear_, run_und ht])
      · obtain ⟨m, rfl⟩ := Nat.exists_eq_succ_of_ne_zero hd0
        have ha' : a = ⟨L.blk, L.at i, none⟩ := by
          rcases ha with h5 | h5
          · omega
          · exact h5
        subst ha'
        have hvs := zeros_VRs hzc (by omega) (m + 1)
        obtain ⟨w', q1, q2⟩ := wr_run (P := P) h hw hvs (rep_atoms hza) hL h0 (by rw [rep_length, hl]; omega)
        refine Out.of (Rho.le_refl ρ) (.tuple .nil) q2 ?_
        have hq : (Builtin.zeroCells zv.cells (m + 1)).toList = ((Array.range ((m + 1) * av.cells.length)).map fun j => zv.cells[j % zv.cells.size]!).toList := by
          simp [Builtin.zeroCells, hzcl]
        simp only [Builtin.clear_, List.getElem?_toArray, List.getElem?_cons_zero, Sem.run_bind, run_und ht, Result.andThen_ok, run_zero hi hzv, Nat.succ_eq_add_one, hq, q1, Sem.run_pure]
    · cases he
  | _ => cases he
/-! ### Maps of whole numbers -/
theorem mapT_inv {t : TypeId} {p : IntKind × IntKind} (h : mapT P t = some p) : ∃ kt et, P.underlying t = some (.map kt et) ∧ P.underlying kt = some (.int p.1) ∧ ∀ w, (zeroValue et).run P w = .ok (.int p.2 0) w := by
  unfold mapT at h
  split at h
  · rename_i k e hu
    split at h
    · rename_i kk kv z hk hz
      split at h
      · rename_i h0
        cases h
        subst h0
        obtain ⟨zv, h1, h2⟩ := zeroV_inv hz
        cases h2 (fun _ _ => none)
        exact ⟨k, e, hu, hk, h1⟩
      · cases h
    · cases h
  · cases h
theorem findNow_eq (kd kk kv : IntKind) (k : Int) : ∀ (l : List (Int × Int × Nat)) (i : Nat), Instr.findNow (.int kd) (.int kk k) (toEs kk kv l) i = some ((findM k l i).map fun e => (e.1, .int kv e.2.1))
  | [], _ => rfl
  | e :: r, i => by
    have ih := findNow_eq kd kk kv k r (i + 1)
    simp only [toEs, List.map_cons, Instr.findNow, Instr.sameNow, if_true, findM] at ih ⊢
    by_cases h : k = e.1
    · simp [h]
    · simp only [h, if_false]
      rw [show (k == e.1) = false by simpa using h]
      exact ih
theorem run_findKey {kt : TypeId} {kd : IntKind} (hk : P.underlying kt = some (.int kd)) (kk kv : IntKind) (k : Int) (l : List (Int × Int × Nat)) (w : World) :
    (Instr.findKey kt (.int kk k) (toEs kk kv l)).run P w = .ok ((findM k l 0).map fun e => (e.1, .int kv e.2.1)) w := by
  simp only [Instr.findKey, Sem.run_bind, run_und hk, Result.andThen_ok, findNow_eq, Sem.run_pure]
theorem run_checkKey {kt : TypeId} {kd : IntKind} (hk : P.underlying kt = some (.int kd)) (e : Bool) (n : Nat) (v : Value) (w : World) : (Instr.checkKey e (n + 1) kt v).run P w = .ok () w := by
  simp only [Instr.checkKey, Sem.run_bind, run_und hk, Result.andThen_ok]
  cases v <;> rfl
theorem toEs_setM (kk kv : IntKind) (l : List (Int × Int × Nat)) (i : Nat) (v : Int) : toEs kk kv (setM l i v) = (toEs kk kv l).modify i fun e => { e with val := .int kv v } := by
  apply List.ext_getElem?
  intro j
  simp only [toEs, setM, List.getElem?_map, List.getElem?_modify]
  cases l[j]? with
  | none => rfl
  | some e => by_cases h : i = j <;> simp [h]
theorem mem_setM {l : List (Int × Int × Nat)} {i : Nat} {v : Int} {e : Int × Int × Nat} (h : e ∈ setM l i v) : e.2.1 = v ∨ e ∈ l := by
  obtain ⟨j, hj⟩ := List.mem_iff_getElem?.1 h
  simp only [setM, List.getElem?_modify] at hj
  cases hl : l[j]? with
  | none => rw [hl] at hj; cases hj
  | some x =>
    rw [hl] at hj
    by_cases he : i = j
    · simp [he] at hj; subst hj; exact .inl rfl
    · simp [he] at hj; subst hj; exact .inr (List.mem_of_getElem? hl)
theorem wf_zero (k : IntKind) : (Lit.int k 0).wf = true := by cases k <;> rfl
/-- A map is turned. -/
theorem Sim.setMap (h : Sim B w0 ρ S w) {o : Nat} {kk kv : IntKind} {l l' : List (Int × Int × Nat)} {c c' : Nat} (hg : S.get o = some (.map kk kv l c)) {L : Loc} (hL : ρ o 0 = some L) {es : Array MapEntry} (hes : es.toList = toEs kk kv l') (hwf : ∀ e ∈ l', (Lit.int kv e.2.1).wf = true) :
    Sim B w0 ρ (S.put o (.map kk kv l' c')) { w with heap := w.heap.setIfInBounds L.blk (.map es c') } := by
  have hi : MapAt B ρ w o kk kv l c := h.obj _ _ hg
  have hB := hi.side 0 L hL
  have hLw := h.heap _ _ _ hL
  refine h.upd o _ (fun j => St.get_put _ _ _ _) (Nat.le_refl _) (h.dom _ _ hg) (fun _ _ _ => rfl) (Rho.le_refl _) (Below.set_ h.below hB _) (by simp) ?_ ?_ (fun u L' e' => .inr ⟨u, L', e', rfl⟩) ?_
  · intro b' hb
    by_cases hbl : b' = L.blk
    · subst hbl; exact .inr ⟨hB, 0, L, hL, rfl⟩
    · left; simp [Array.getElem?_setIfInBounds_ne (Ne.symm hbl)]
  · intro u L' e'; simpa using h.heap _ u L' e'
  · refine (show MapAt _ _ _ _ _ _ _ _ from ⟨hi.side, ?_, hi.uniq, hwf⟩)
    intro u L' e'
    have hbl : L'.blk = L.blk := hi.uniq u L' 0 L e' hL
    exact ⟨es, by rw [hbl]; simp [hLw], hes⟩
theorem mkMap_sound (h : Sim B w0 ρ S w) (kk kv : IntKind) : ∃ ρ', ρ.le ρ' ∧ VR ρ' (.map (some S.next)) (.map (some w.heap.size)) ∧ Sim B w0 ρ' (S.alloc (.map kk kv [] 0)) { w with heap := w.heap.push (.map #[] 0) } := by
  have hnone : ∀ u, ρ S.next u = none := fun u => by
    cases hq : ρ S.next u with
    | none => rfl
    | some L => exact absurd (h.fresh _ _ _ hq) (Nat.lt_irrefl _)
  have hle : ρ.le (fun o u => if o = S.next ∧ u = 0 then some ⟨w.heap.size, 0, 0, 1, 1⟩ else ρ o u) := by
    intro o u L e'
    by_cases ho : o = S.next ∧ u = 0
    · rw [ho.1, hnone] at e'; cases e'
    · simp only [if_neg ho]; exact e'
  have only : ∀ u L, (if S.next = S.next ∧ u = 0 then some (⟨w.heap.size, 0, 0, 1, 1⟩ : Loc) else ρ S.next u) = some L → u = 0 ∧ L = ⟨w.heap.size, 0, 0, 1, 1⟩ := by
    intro u L e'
    by_cases hu : u = 0
    · simp [hu] at e'; exact ⟨hu, e'.symm⟩
    · rw [if_neg (fun k => hu k.2), hnone] at e'; cases e'
  refine ⟨_, hle, VR.map (L := ⟨w.heap.size, 0, 0, 1, 1⟩) (by simp), ?_⟩
  refine h.upd S.next (.map kk kv [] 0) (fun o => St.get_alloc _ _ _) (by simp [St.alloc]) (by simp [St.alloc]) (fun o u ho => if_neg fun k => ho k.1) hle ?_ (by simp) ?_ ?_ ?_ ?_
  · exact ⟨h.below.os, h.below.tape, h.below.output, Nat.le_trans h.below.size (by simp), fun k hk => by
      rw [← h.below.block k hk]
      simp [Array.getElem?_push, Nat.ne_of_lt (Nat.lt_of_lt_of_le hk h.base)]⟩
  · intro b' hb; left; simp [Array.getElem?_push, Nat.ne_of_lt hb]
  · intro u L e'; obtain ⟨_, rfl⟩ := only u L e'; simp
  · intro u L e'; obtain ⟨_, rfl⟩ := only u L e'; exact .inl (Nat.le_refl _)
  · refine (show MapAt _ _ _ _ _ _ _ _ from ⟨?_, ?_, fun u L u' L' e1 e2 => by obtain ⟨_, rfl⟩ := only u L e1; obtain ⟨_, rfl⟩ := only u' L' e2; rfl, by simp⟩)
    · intro u L e'; obtain ⟨_, rfl⟩ := only u L e'; exact h.base
    · intro u L e'; obtain ⟨_, rfl⟩ := only u L e'; exact ⟨#[], by simp, rfl⟩
theorem map_run {o : Nat} {c : Value} (hv : VR ρ (.map (some o)) c) : ∃ L, ρ o 0 = some L ∧ c = .map (some L.blk) := by
  cases hv with | map hL => exact ⟨_, hL, rfl⟩
theorem lookup_sound (h : Sim B w0 ρ S w) {t : TypeId} {p : IntKind × IntKind} (ht : mapT P t = some p) {o : Nat} {cm : Value} (hm : VR ρ (.map (some o)) cm) {l : List (Int × Int × Nat)} {c : Nat} (hg : S.get o = some (.map p.1 p.2 l c)) (k : Int) (ok : Bool) :
    ∃ x, (Instr.lookup t cm (.int p.1 k) ok).run P w = .ok x w ∧ VR ρ (aLook ok p.2 k l) x := by
  obtain ⟨kt, et, h1, h2, h3⟩ := mapT_inv ht
  obtain ⟨L, hL, rfl⟩ := map_run hm
  have hi : MapAt B ρ w o p.1 p.2 l c := h.obj _ _ hg
  obtain ⟨es, k1, k2⟩ := hi.mem 0 L hL
  have hw : ∀ e, findM k l 0 = some e → (Lit.int p.2 e.2.1).wf = true := by
    have : ∀ (l : List (Int × Int × Nat)) (i : Nat) e, findM k l i = some e → ∃ x ∈ l, x.2.1 = e.2.1 := by
      intro l
      induction l with
      | nil => intro i e he; cases he
      | cons a r ih =>
        intro i e he
        simp only [findM] at he
        split at he
        · cases he; exact ⟨a, List.mem_cons_self, rfl⟩
        · obtain ⟨x, hx, hxe⟩ := ih _ _ he; exact ⟨x, List.mem_cons_of_mem _ hx, hxe⟩
    intro e he
    obtain ⟨x, hx, hxe⟩ := this l 0 e he
    rw [← hxe]; exact hi.wf x hx
  unfold aLook
  simp only [Instr.lookup, Sem.run_bind, run_und h1, Result.andThen_ok, getObj, Sem.run, k1, run_checkKey h2, k2, run_findKey h2, Sem.run_pure]
  cases hf : findM k l 0 with
  | none =>
    simp only [Option.map_none, Sem.run_bind, h3, Result.andThen_ok, Sem.run_pure]
    cases ok with
    | true => exact ⟨_, rfl, .tuple (.cons (.int (wf_zero _)) (.cons .bool .nil))⟩
    | false => exact ⟨_, rfl, .int (wf_zero _)⟩
  | some e =>
    simp only [Option.map_some, Sem.run_bind, Result.andThen_ok, Sem.run_pure]
    cases ok with
    | true => exact ⟨_, rfl, .tuple (.cons (.int (hw e hf)) (.cons .bool .nil))⟩
    | false => exact ⟨_, rfl, .int (hw e hf)⟩
theorem findM_at (k : Int) : ∀ (l : List (Int × Int × Nat)) (i : Nat) {e : Nat × Int × Nat}, findM k l i = some e → ∃ j x, e.1 = i + j ∧ l[j]? = some x ∧ x.1 = k
  | [], _, _, h => by cases h
  | a :: r, i, e, h => by
    simp only [findM] at h
    split at h
    · rename_i hk; cases h; exact ⟨0, a, rfl, rfl, hk.symm⟩
    · obtain ⟨j, x, h1, h2, h3⟩ := findM_at k r (i + 1) h
      exact ⟨j + 1, x, by omega, by simpa using h2, h3⟩
theorem mapSet_sound (h : Sim B w0 ρ S w) {t : TypeId} {p : IntKind × IntKind} (ht : mapT P t = some p) {o : Nat} {cm : Value} (hm : VR ρ (.map (some o)) cm) {l : List (Int × Int × Nat)} {c : Nat} (hg : S.get o = some (.map p.1 p.2 l c)) (k : Int) {v : Int} (hv : (Lit.int p.2 v).wf = true) :
    ∃ w', (Instr.mapUpdate t cm (.int p.1 k) (.int p.2 v)).run P w = .ok () w' ∧ Sim B w0 ρ (S.put o (putM p.1 p.2 k v l c)) w' := by
  obtain ⟨kt, et, h1, h2, h3⟩ := mapT_inv ht
  obtain ⟨L, hL, rfl⟩ := map_run hm
  have hi : MapAt B ρ w o p.1 p.2 l c := h.obj _ _ hg
  obtain ⟨es, k1, k2⟩ := hi.mem 0 L hL
  unfold putM
  cases hf : findM k l 0 with
  | none =>
    refine ⟨_, ?_, h.setMap (l' := l ++ [(k, v, c)]) (c' := c + 1) (es := es.push { key := .int p.1 k, val := .int p.2 v, born := c }) hg hL (by simp [toEs, k2]) fun e he => ?_⟩
    · simp only [Instr.mapUpdate, Sem.run_bind, run_und h1, Result.andThen_ok, getObj, setObj, Sem.run, k1, run_checkKey h2, k2, run_findKey h2, hf, Option.map_none, Sem.run_pure]
    · rcases List.mem_append.1 he with he | he
      · exact hi.wf e he
      · simp only [List.mem_singleton] at he; subst he; exact hv
  | some e =>
    obtain ⟨j, x, e1, e2, e3⟩ := findM_at k l 0 hf
    rw [Nat.zero_add] at e1
    have hx : (toEs p.1 p.2 l)[e.1]? = some { key := .int p.1 k, val := .int p.2 x.2.1, born := x.2.2 } := by
      rw [e1]; simp [toEs, e2, e3]
    have hes : es[e.1]? = some { key := .int p.1 k, val := .int p.2 x.2.1, born := x.2.2 } := by rw [← Array.getElem?_toList, k2]; exact hx
    have hkey : (Instr.keyThatStays (((es[e.1]?).map (·.key)).getD (.int p.1 k)) (.int p.1 k)).run P w = .ok (.int p.1 k) w := by
      rw [hes]
      simp only [Instr.keyThatStays, Option.map_some, Option.getD_some, Instr.sameBits, beq_self_eq_true, Bool.and_self, if_true, Sem.run_pure]
    refine ⟨_, ?_, h.setMap (l' := setM l e.1 v) (c' := c) (es := es.modify e.1 fun e => { e with key := .int p.1 k, val := .int p.2 v }) hg hL ?_ fun y he => ?_⟩
    · simp only [Instr.mapUpdate, Sem.run_bind, run_und h1, Result.andThen_ok, getObj, setObj, Sem.run, k1, run_checkKey h2, k2, run_findKey h2, hf, Option.map_some, hkey, Sem.run_pure]
    · rw [toEs_setM, Array.toList_modify, k2]
      apply List.ext_getElem?
      intro q
      simp only [List.getElem?_modify]
      by_cases hq : e.1 = q
      · subst hq; rw [hx]; rfl
      · cases (toEs p.1 p.2 l)[q]? <;> simp [hq]
    · rcases mem_setM he with he | he
      · rw [he]; exact hv
      · exact hi.wf y he
end
section
variable {P : Program} {B : Nat} {w0 : Base} {w : World} {ρ : Rho} {S S' : St}
set_option maxHeartbeats 4000000 in
theorem builtin_sound {T : Tm} {a : Act} (hT : TR ρ T a.tmps) (h : Sim B w0 ρ S w) {b : Builtin} {ats : List TypeId} {args : List Operand} {ao : AOp} (hc : cBuiltin P b ats args = some ao) {v : AV} (he : evOp ao T S = some (v, S')) (ty : TypeId) (cst : Array Bool) :
    Out B w0 ρ S' v ((builtin b ats.toArray ty cst (args.map a.eval).toArray).run P w) := by
  unfold cBuiltin at hc
  split at hc
  · -- append
    rename_i t u s x
    split at hc
    · rename_i e ht
      simp only [Option.bind_eq_some_iff] at hc
      obtain ⟨n, hn, by_, hby, z, hz, s', hs', x', hx', hc⟩ := hc
      split at hc
      · rename_i hcond
        obtain ⟨hzl, hnp, hbp, hza⟩ := hcond
        obtain ⟨i, zv, av, hi, hzv, hvr, rfl⟩ := zero_inv hz
        obtain ⟨i', hi', hisz⟩ := sz_inv hn
        rw [hi] at hi'; cases hi'
        have hib : i.bytes = by_ := by simp only [byOf, hi, Option.map_some, Option.some.injEq] at hby; exact hby
        have hzc := (hvr ρ).cells
        have hzcl := hzc.length
        simp only [Array.length_toList] at hzcl
        have main : ∀ (sa : AV), s'.ev T = some sa → ∀ (m : Nat) (xs : List AV) (vs : List Value), VRs ρ xs vs → xs.all AV.atom = true → (∀ d, Src P { w with drawn := d } e n u (a.eval x) m vs) → aAppend n by_ S sa m xs = some (v, S') →
            Out B w0 ρ S' v ((builtin .append #[t, u] ty cst #[a.eval s, a.eval x]).run P w) := by
          intro sa hsa m xs vs hx hxa src hap
          exact append_sound (P := P) (ty := ty) h (cX_sound hT hs' hsa) ht hi hisz hib hzv (by omega) hnp hbp src hx hxa hap
        split at hc
        · -- zeros
          rename_i k hu
          cases hc
          simp only [evOp, Option.bind_eq_some_iff] at he
          obtain ⟨sa, hsa, xa, hxa, he⟩ := he
          have hxv := cX_sound hT hx' hxa
          generalize hgx : a.eval x = cx at hxv
          cases hxv with
          | @int kk m hw =>
            cases kk <;> simp only at he <;> try cases he
            split at he
            · rename_i hm0
              have hm1 : m ≤ 9223372036854775807 := by
                rw [wf_bounds] at hw
                have : IntKind.i64.max = 9223372036854775807 := by decide
                omega
              refine main sa hsa m.toNat _ _ (zeros_VRs hzc (by omega) m.toNat) (rep_atoms hza) (fun d => ?_) he
              refine ⟨by simp [hzl], _, hu, .inl ⟨k, rfl, m, hgx, hm0, hm1, rfl, i, zv, hi, hzv, by omega, ?_⟩⟩
              simp [Builtin.zeroCells, hzcl]
              apply Array.ext'
              simp
            · cases he
          | _ => cases he
        · -- slice
          rename_i e2 hu
          cases hc
          simp only [evOp, Option.bind_eq_some_iff] at he
          obtain ⟨sa, hsa, xa, hxa, he⟩ := he
          have hxv := cX_sound hT hx' hxa
          generalize hgx : a.eval x = cx at hxv
          cases hxv with
          | sliceNil =>
            refine main sa hsa 0 [] [] .nil rfl ?_ he
            refine src_slice h hu (fun k hk => by cases hk) (by simp) (fun w' => by rw [hgx]; rfl) (fun dr => by rw [hgx]; rfl)
          | @slice o vv j len e' cap clip L aa hL h0 h1 h2 h3 h4 ha =>
            dsimp only at he
            split at he
            · rename_i hee
              subst hee
              simp only [Option.bind_eq_some_iff] at he
              obtain ⟨l, hr, he⟩ := he
              obtain ⟨vs, k1, k2, k3, k4⟩ := cells_any (P := P) h (.slice hL h0 h1 h2 h3 h4 ha) (Nat.le_refl len) hr
              refine main sa hsa len l vs k2 k3 ?_ he
              refine src_slice h hu (fun k hk => by cases hk) k1 (fun w' => by rw [hgx]; rfl) (fun dr => by rw [hgx]; exact k4 dr)
            · cases he
          | _ => cases he
        · -- text
          rename_i hu
          split at hc
          · rename_i hn1
            subst hn1
            cases hc
            simp only [evOp, Option.bind_eq_some_iff] at he
            obtain ⟨sa, hsa, xa, hxa, he⟩ := he
            have hxv := cX_sound hT hx' hxa
            generalize hgx : a.eval x = cx at hxv
            cases hxv with
            | @str l bs hb =>
              subst hb
              dsimp only at he
              have hbl := bytesN_length bs
              refine main sa hsa (bytesN bs).length _ (bs.data.toList.map fun b => .int .u8 b.toNat) ?_ (by simp [AV.atom]) ?_ he
              · refine VRs.of_get (by simp [bytesN]) ?_
                intro i a v h1 h2
                simp only [List.getElem?_map, Option.map_eq_some_iff, bytesN] at h1 h2
                obtain ⟨b1, hb1, rfl⟩ := h1
                obtain ⟨b0, hb0, rfl⟩ := hb1
                obtain ⟨b2, hb2, rfl⟩ := h2
                rw [hb0] at hb2
                cases hb2
                exact .int (wf_byte b0.toNat_lt)
              · refine src_slice h hu (fun k hk => by cases hk) (by simp [bytesN]) (fun w' => by rw [hgx, hbl]; rfl) (fun dr => ?_)
                rw [hgx, hbl]
                simp only [Builtin.firstCells, Sem.run_pure]
                congr 1
                apply Array.ext'
                have : (bs.extract 0 bs.size).data = bs.data := by
                  rw [ByteArray.data_extract]
                  exact Array.extract_size
                rw [this]
                simp
            | _ => cases he
          · cases hc
        · cases hc
      · cases hc
    · cases hc
  · -- len
    rename_i t x
    simp only [Option.bind_eq_some_iff] at hc
    obtain ⟨x', hx', hc⟩ := hc
    have hfin : ∀ (n : Nat), n ≤ 9223372036854775807 → (Builtin.len_ #[t] ty #[a.eval x]).run P w = .ok (goInt n) w → Out B w0 ρ S (.int .i64 n) ((builtin .len #[t] ty cst #[a.eval x]).run P w) := fun n hn hr =>
      Out.val h (.int (wf_nat hn)) hr
    split at hc
    · rename_i ht
      cases hc
      simp only [evOp, Option.bind_eq_some_iff] at he
      obtain ⟨xa, hxa, he⟩ := he
      have hxv := cX_sound hT hx' hxa
      generalize hgx : a.eval x = cx at hxv
      cases hxv with
      | @str l bs hb =>
        subst hb
        dsimp only at he
        split at he
        · rename_i hn; cases he
          refine hfin _ hn ?_
          rw [hgx, bytesN_length]
          simp [Builtin.len_, run_und ht]
        · cases he
      | _ => cases he
    · rename_i ht
      cases hc
      simp only [evOp, Option.bind_eq_some_iff] at he
      obtain ⟨xa, hxa, he⟩ := he
      have hxv := cX_sound hT hx' hxa
      generalize hgx : a.eval x = cx at hxv
      cases hxv with
      | sliceNil =>
        dsimp only at he
        split at he
        · rename_i hn; cases he
          refine hfin _ hn ?_
          rw [hgx]
          simp [Builtin.len_, run_und ht]
        · cases he
      | slice =>
        dsimp only at he
        split at he
        · rename_i hn; cases he
          refine hfin _ hn ?_
          rw [hgx]
          simp [Builtin.len_, run_und ht]
        · cases he
      | _ => cases he
    · rename_i n e ht
      split at hc
      · rename_i hn
        cases hc
        cases he
        refine hfin _ hn ?_
        simp only [Builtin.len_, List.getElem?_toArray, List.getElem?_cons_zero, Sem.run_bind, run_und ht, Result.andThen_ok]
        rfl
      · cases hc
    · cases hc
  · -- cap
    rename_i t x
    simp only [Option.bind_eq_some_iff] at hc
    obtain ⟨x', hx', hc⟩ := hc
    split at hc
    · rename_i ht
      cases hc
      simp only [evOp, Option.bind_eq_some_iff] at he
      obtain ⟨xa, hxa, he⟩ := he
      have hxv := cX_sound hT hx' hxa
      generalize hgx : a.eval x = cx at hxv
      have hfin : ∀ (n : Nat), n ≤ 9223372036854775807 → (Builtin.cap_ #[t] ty #[a.eval x]).run P w = .ok (goInt n) w → Out B w0 ρ S (.int .i64 n) ((builtin .cap #[t] ty cst #[a.eval x]).run P w) := fun n hn hr =>
        Out.val h (.int (wf_nat hn)) hr
      cases hxv with
      | sliceNil =>
        dsimp only at he
        cases he
        refine hfin 0 (by omega) ?_
        rw [hgx]
        simp [Builtin.cap_, run_und ht]
      | @slice o v j len e' cap clip L aa hL h0 h1 h2 h3 h4 ha =>
        cases clip with
        | none => cases he
        | some c =>
          dsimp only at he
          split at he
          · rename_i hn; cases he
            refine hfin c hn ?_
            rw [hgx, ← h4 c rfl]
            simp [Builtin.cap_, run_und ht]
          · cases he
      | _ => cases he
    · cases hc
  · -- max
    rename_i xs
    simp only [Option.map_eq_some_iff] at hc
    obtain ⟨ys, hys, rfl⟩ := hc
    simp only [evOp, Option.bind_eq_some_iff, Option.map_eq_some_iff] at he
    obtain ⟨l, hl, r, hr, he⟩ := he
    cases he
    obtain ⟨c, h1, h2⟩ := maxI_run (P := P) (w := w) (cXs_sound hT hys hl) hr _ ty
    exact Out.val h h2 h1
  · -- min
    rename_i xs
    simp only [Option.map_eq_some_iff] at hc
    obtain ⟨ys, hys, rfl⟩ := hc
    simp only [evOp, Option.bind_eq_some_iff, Option.map_eq_some_iff] at he
    obtain ⟨l, hl, r, hr, he⟩ := he
    cases he
    obtain ⟨c, h1, h2⟩ := minI_run (P := P) (w := w) (cXs_sound hT hys hl) hr _ ty
    exact Out.val h h2 h1
  · -- copy
    rename_i t u d s
    split at hc
    · rename_i e ht
      simp only [Option.bind_eq_some_iff, Option.map_eq_some_iff] at hc
      obtain ⟨n, hn, d', hd', s', hs', rfl⟩ := hc
      simp only [evOp, Option.bind_eq_some_iff] at he
      obtain ⟨da, hda, sa, hsa, he⟩ := he
      exact copy_sound (P := P) (ty := ty) (u := u) h ht hn (cX_sound hT hd' hda) (cX_sound hT hs' hsa) he
    · cases hc
  · -- clear
    rename_i t x
    split at hc
    · rename_i e ht
      simp only [Option.bind_eq_some_iff] at hc
      obtain ⟨n, hn, z, hz, hc⟩ := hc
      split at hc
      · rename_i hcond
        obtain ⟨hzl, hnp, hza⟩ := hcond
        simp only [Option.map_eq_some_iff] at hc
        obtain ⟨x', hx', rfl⟩ := hc
        simp only [evOp, Option.bind_eq_some_iff] at he
        obtain ⟨xa, hxa, he⟩ := he
        exact clear_sound (P := P) (ty := ty) h ht hz hzl hnp hza (cX_sound hT hx' hxa) he
      · cases hc
    · cases hc
  · cases hc
end
section
variable {P : Program} {B : Nat} {w0 : Base} {w : World} {ρ : Rho} {S S' : St}
theorem mark_run (h : Sim B w0 ρ S w) {o v i ver minv : Nat} {c : List AV} (hg : S.get o = some (.cells c ver minv true)) {L : Loc} (hL : ρ o v = some L) (hm : minv ≤ v) :
    ∃ w', (markStringish ⟨L.blk, L.at i, none⟩).run P w = .ok () w' ∧ Sim B w0 ρ S w' := by
  have hc : CellsAt B ρ w o c ver minv true := h.obj o _ hg
  obtain ⟨k1, k2, cs, e, fz, k3, k4, k5, k6⟩ := hc.mem v L hL hm
  have hB : B ≤ L.blk := by have := hc.side v L hL; simpa using this
  have hblk := h.heap o v L hL
  have hfz := k6 rfl
  let fz' : Nat × Nat := if fz.1 == fz.2 then (cs.size, cs.size + 1) else (min fz.1 cs.size, max fz.2 (cs.size + 1))
  have hfz' : Fz fz' cs.size := by
    refine .inr ?_
    show cs.size ≤ (if fz.1 == fz.2 then (cs.size, cs.size + 1) else (min fz.1 cs.size, max fz.2 (cs.size + 1))).1
    by_cases hq : fz.1 = fz.2
    · simp [hq]
    · have : (fz.1 == fz.2) = false := by simpa using hq
      rw [this]
      have := hfz.resolve_left hq
      simp; omega
  refine ⟨{ w with heap := w.heap.setIfInBounds L.blk (.cells cs e fz') }, ?_, ?_⟩
  · simp only [markStringish, Sem.run_bind, run_shape, World.shape?, k3, Result.andThen_ok, run_freeze, World.freeze, Nat.one_ne_zero, if_false]
    congr 1
    simp only [World.mk.injEq, and_true, true_and]
    apply Array.ext_getElem?
    intro k
    rw [Array.getElem?_modify, Array.getElem?_setIfInBounds]
    by_cases hk : L.blk = k
    · subst hk
      have k3' : w.heap[L.blk] = Obj.cells cs e fz := by rw [Array.getElem?_eq_getElem hblk] at k3; exact Option.some.inj k3
      obtain ⟨lo, hi⟩ := fz
      simp [k3', hblk, fz']
    · simp [hk]
  · refine h.upd o (.cells c ver minv true) (fun j => by by_cases e : j = o <;> simp [e, hg]) (Nat.le_refl _) (h.dom o _ hg) (fun _ _ _ => rfl) (Rho.le_refl _) (Below.set_ h.below hB _) (by simp) ?_ ?_ (fun u L' e' => .inr ⟨u, L', e', rfl⟩) ?_
    · intro b hb
      by_cases hbl : b = L.blk
      · subst hbl; exact .inr ⟨hB, v, L, hL, rfl⟩
      · left; simp [Array.getElem?_setIfInBounds_ne (Ne.symm hbl)]
    · intro u L' e'; simpa using h.heap o u L' e'
    · refine (show CellsAt _ _ _ _ _ _ _ _ from ⟨hc.vers, hc.last, ?_, hc.side, hc.align, hc.atoms⟩)
      intro u L' e' hu
      obtain ⟨q1, q2, cs', e1, fz1, q3, q4, q5, q6⟩ := hc.mem u L' e' hu
      by_cases hbl : L'.blk = L.blk
      · rw [hbl, k3] at q3
        cases q3
        exact ⟨q1, q2, cs, e, fz', by rw [hbl]; simp [hblk], q4, q5, fun _ => hfz'⟩
      · exact ⟨q1, q2, cs', e1, fz1, by simpa [Array.getElem?_setIfInBounds_ne (Ne.symm hbl)] using q3, q4, q5, q6⟩
theorem conv_sound {T : Tm} {a : Act} (hT : TR ρ T a.tmps) (h : Sim B w0 ρ S w) {s d : TypeId} {x : Operand} {ao : AOp} (hc : cOp P (.convert s d x) = some ao) {v : AV} (he : evOp ao T S = some (v, S')) :
    Out B w0 ρ S' v ((do pure (Next.value (← convert s d (a.eval x))) : Sem Next).run P w) := by
  simp only [cOp, Option.bind_eq_some_iff] at hc
  obtain ⟨x', hx', hc⟩ := hc
  split at hc
  · rename_i k k' hs hd
    cases hc
    simp only [evOp, Option.bind_eq_some_iff] at he
    obtain ⟨xa, hxa, he⟩ := he
    have hxv := cX_sound hT hx' hxa
    generalize hgx : a.eval x = cx at hxv
    cases hxv with
    | @int kk n hw =>
      cases he
      exact Out.val h (.int (wf_wrap _ _)) (by simp [convert, run_und hs, run_und hd, Conv.intToInt])
    | _ => simp [aConv] at he
  · rename_i k hs hd
    cases hc
    simp only [evOp, Option.bind_eq_some_iff] at he
    obtain ⟨xa, hxa, he⟩ := he
    have hxv := cX_sound hT hx' hxa
    generalize hgx : a.eval x = cx at hxv
    cases hxv with
    | @int kk n hw =>
      cases he
      exact Out.val h (.str rfl) (by simp [convert, run_und hs, run_und hd, Conv.intToString])
    | _ => simp [aConv] at he
  · rename_i hs hd
    cases hc
    simp only [evOp, Option.bind_eq_some_iff] at he
    obtain ⟨xa, hxa, he⟩ := he
    have hxv := cX_sound hT hx' hxa
    generalize hgx : a.eval x = cx at hxv
    cases hxv with
    | @str l bs hb =>
      cases he
      exact Out.val h (.str hb) (by simp [convert, run_und hs, run_und hd])
    | _ => simp [aConv] at he
  · rename_i e hs hd
    split at hc
    · rename_i hu
      cases hc
      simp only [evOp, Option.bind_eq_some_iff] at he
      obtain ⟨xa, hxa, he⟩ := he
      have hxv := cX_sound hT hx' hxa
      generalize hgx : a.eval x = cx at hxv
      cases hxv with
      | @str l bs hb =>
        subst hb
        cases he
        have := out_strBytes (P := P) h bs e
        obtain ⟨ρ', c, w', k1, k2, k3, k4⟩ := this
        refine ⟨ρ', c, w', k1, k2, k3, ?_⟩
        have e1 : (convert s d (.string bs)).run P w = (Conv.stringToBytes e bs).run P w := by simp [convert, run_und hs, run_und hd, run_und hu]
        simpa only [Sem.run_bind, e1] using k4
      | _ => simp [aConv] at he
    · rename_i hu
      cases hc
      simp only [evOp, Option.bind_eq_some_iff] at he
      obtain ⟨xa, hxa, he⟩ := he
      have hxv := cX_sound hT hx' hxa
      generalize hgx : a.eval x = cx at hxv
      cases hxv with
      | @str l bs hb =>
        subst hb
        cases he
        have := out_strRunes (P := P) h bs e
        obtain ⟨ρ', c, w', k1, k2, k3, k4⟩ := this
        refine ⟨ρ', c, w', k1, k2, k3, ?_⟩
        have e1 : (convert s d (.string bs)).run P w = (Conv.stringToRunes e bs).run P w := by simp [convert, run_und hs, run_und hd, run_und hu]
        simpa only [Sem.run_bind, e1] using k4
      | _ => simp [aConv] at he
    · cases hc
  · rename_i e hs hd
    split at hc
    · rename_i hu
      cases hc
      simp only [evOp, Option.bind_eq_some_iff] at he
      obtain ⟨xa, hxa, he⟩ := he
      obtain ⟨rfl, c, h1, h2⟩ := conv_bytes (P := P) h (cX_sound hT hx' hxa) he
      refine Out.val h h2 ?_
      rw [← h1]
      have hv := cX_sound hT hx' hxa
      generalize hgx : a.eval x = cx at hv
      cases hv <;> first | (simp [aConv] at he; done) | simp [convert, run_und hs, run_und hd, run_und hu]
    · rename_i hu
      cases hc
      simp only [evOp, Option.bind_eq_some_iff] at he
      obtain ⟨xa, hxa, he⟩ := he
      obtain ⟨rfl, c, h1, h2⟩ := conv_runes (P := P) h (cX_sound hT hx' hxa) he
      refine Out.val h h2 ?_
      rw [← h1]
      have hv := cX_sound hT hx' hxa
      generalize hgx : a.eval x = cx at hv
      cases hv <;> first | (simp [aConv] at he; done) | simp [convert, run_und hs, run_und hd, run_und hu]
    · cases hc
  · rename_i e0 e hs hd
    split at hc
    · rename_i hsd hu
      cases hc
      simp only [evOp, Option.bind_eq_some_iff] at he
      obtain ⟨xa, hxa, he⟩ := he
      have hxv := cX_sound hT hx' hxa
      generalize hgx : a.eval x = cx at hxv
      cases hxv with
      | @slice o v0 i len esz cap clip L ad hL h0 h1 h2 h3 h4 ha =>
        simp only [aConv] at he
        split at he
        · rename_i c ver minv hg
          cases hb : Nat.ble minv v0 && !Nat.beq len 0 with
          | false => rw [hb] at he; cases he
          | true =>
            rw [hb, cond_true] at he
            simp only [Option.some.injEq, Prod.mk.injEq] at he
            obtain ⟨rfl, rfl⟩ := he
            simp only [Bool.and_eq_true, Bool.not_eq_true', Nat.ble_eq] at hb
            have hlen : len ≠ 0 := fun e => by rw [e] at hb; simp at hb
            have had : ad = ⟨L.blk, L.at i, none⟩ := ha.resolve_left (by omega)
            obtain ⟨w', m1, m2⟩ := mark_run (P := P) (i := i) h hg hL hb.1
            refine Out.of (c := .slice (some ad) len cap) (Rho.le_refl ρ) (.slice hL h0 h1 h2 h3 h4 ha) m2 ?_
            rw [had]
            simp [convert, run_und hs, run_und hd, run_und hu, hsd, m1]
        · cases he
      | _ => simp [aConv] at he
    · cases hc
  · cases hc
/-- 'op' calls no function of the program's. -/
def plainOp (op : Op) : Bool :=
  match op with
  | .call c => match c.callee with | .builtin _ => true | _ => false
  | _ => true
set_option maxHeartbeats 4000000 in
theorem op_sound {o : Oper} {ao : AOp} (hc : cOp P o.op = some ao) (hp : plainOp o.op = true) {T : Tm} {a : Act} (hT : TR ρ T a.tmps) (h : Sim B w0 ρ S w) {v : AV} (he : evOp ao T S = some (v, S')) :
    Out B w0 ρ S' v ((execOp a.eval o).run P w) := by
  obtain ⟨dst, op, type, pos, after, guard⟩ := o
  dsimp only at hc hp
  have mv : ∀ x, (cX x).map AOp.mv = some ao → Out B w0 ρ S' v ((pure (Next.value (a.eval x)) : Sem Next).run P w) := by
    intro x hc
    simp only [Option.map_eq_some_iff] at hc
    obtain ⟨x', hx', rfl⟩ := hc
    simp only [evOp, Option.map_eq_some_iff] at he
    obtain ⟨xa, hxa, he⟩ := he
    cases he
    exact ⟨ρ, a.eval x, w, Rho.le_refl ρ, cX_sound hT hx' hxa, h, .inl rfl⟩
  cases op with
  | move x => exact mv x hc
  | assign x => exact mv x hc
  | pick c x y =>
    simp only [cOp, Option.bind_eq_some_iff, Option.map_eq_some_iff] at hc
    obtain ⟨c', hc', x', hx', y', hy', rfl⟩ := hc
    simp only [evOp, Option.bind_eq_some_iff] at he
    obtain ⟨ca, hca, he⟩ := he
    have hcv := cX_sound hT hc' hca
    generalize hgc : a.eval c = cc at hcv
    cases hcv with
    | @bool b =>
      simp only [Option.map_eq_some_iff] at he
      obtain ⟨r, hr, he⟩ := he
      cases he
      cases b
      · exact ⟨ρ, a.eval y, w, Rho.le_refl ρ, cX_sound hT hy' (by simpa using hr), h, .inl (by simp [execOp, hgc, asBool])⟩
      · exact ⟨ρ, a.eval x, w, Rho.le_refl ρ, cX_sound hT hx' (by simpa using hr), h, .inl (by simp [execOp, hgc, asBool])⟩
    | _ => cases he
  | alloc t =>
    simp only [cOp, Option.bind_eq_some_iff] at hc
    obtain ⟨z, hz, hc⟩ := hc
    split at hc
    · rename_i ha
      cases hc
      cases he
      exact op_alloc h hz ha
    · cases hc
  | box t x =>
    simp only [cOp, Option.map_eq_some_iff] at hc
    obtain ⟨x', hx', rfl⟩ := hc
    simp only [evOp, Option.bind_eq_some_iff] at he
    obtain ⟨xa, hxa, he⟩ := he
    cases ht : xa.tup with
    | true => rw [ht] at he; cases he
    | false =>
      rw [ht] at he
      cases he
      exact out_newVar h t (cX_sound hT hx' hxa) ht
  | build t parts =>
    simp only [cOp, Option.bind_eq_some_iff] at hc
    obtain ⟨z, hz, hc⟩ := hc
    split at hc
    · rename_i ha
      have fin : ∀ ys, ((∃ fs, P.underlying t = some (.struct fs) ∧ (fs.toList.all fun f => (szOf P f.type).isSome) = true ∧ cPartsS P fs parts.toList = some ys) ∨ (∃ m e n, P.underlying t = some (.array m e) ∧ szOf P e = some n ∧ cPartsA n parts.toList = some ys)) → ao = .build z ys → Out B w0 ρ S' v ((execOp a.eval ⟨dst, .build t parts, type, pos, after, guard⟩).run P w) := by
        intro ys hcase hao
        subst hao
        simp only [evOp, Option.bind_eq_some_iff, Option.map_eq_some_iff] at he
        obtain ⟨ps, hps, cs, hcs, he⟩ := he
        cases he
        obtain ⟨co, h1, h2, h3⟩ := build_sound (P := P) (ρ := ρ) hT t parts hz ha hcase hps hcs w
        exact Out.val h (.agg h2 h3) h1
      split at hc
      · rename_i fs hu
        split at hc
        · rename_i hall
          simp only [Option.map_eq_some_iff] at hc
          obtain ⟨ys, hys, rfl⟩ := hc
          exact fin ys (.inl ⟨fs, hu, hall, hys⟩) rfl
        · cases hc
      · rename_i m e hu
        simp only [Option.bind_eq_some_iff, Option.map_eq_some_iff] at hc
        obtain ⟨n, hn, ys, hys, rfl⟩ := hc
        exact fin ys (.inr ⟨m, e, n, hu, hn, hys⟩) rfl
      · cases hc
    · cases hc
  | buildSlice t len parts =>
    simp only [cOp] at hc
    split at hc
    · rename_i e hu
      simp only [Option.bind_eq_some_iff] at hc
      obtain ⟨n, hn, z, hz, hc⟩ := hc
      split at hc
      · rename_i hcond
        obtain ⟨k1, k2, k3, k4⟩ := hcond
        simp only [Option.map_eq_some_iff] at hc
        obtain ⟨ys, hys, rfl⟩ := hc
        simp only [evOp, Option.bind_eq_some_iff, Option.map_eq_some_iff] at he
        obtain ⟨ps, hps, cs, hcs, he⟩ := he
        cases he
        exact op_buildSlice hT h hu hn hz k1 k2 k3 k4 hys hps hcs
      · cases hc
    · cases hc
  | load t x =>
    simp only [cOp, Option.bind_eq_some_iff, Option.map_eq_some_iff] at hc
    obtain ⟨g, hg, n, hn, x', hx', hc⟩ := hc
    cases g with
    | true =>
      cases hc
      simp only [cond_true, evOp, Option.bind_eq_some_iff] at he
      obtain ⟨xa, hxa, he⟩ := he
      have hxv := cX_sound hT hx' hxa
      cases xa with
      | ptr p =>
        cases p with
        | none => cases he
        | some p =>
          dsimp only at he
          cases hb : Nat.ble n p.n with
          | false => rw [hb] at he; cases he
          | true =>
            rw [hb] at he
            simp only [cond_true, Option.map_eq_some_iff] at he
            obtain ⟨l, hl, he⟩ := he
            cases he
            obtain ⟨c, h1, h2⟩ := loadN_sound (P := P) h hg hn hxv hl (Nat.le_of_ble_eq_true hb)
            exact Out.val h h2 h1
      | _ => cases he
    | false =>
      cases hc
      simp only [cond_false, evOp, Option.bind_eq_some_iff] at he
      obtain ⟨xa, hxa, he⟩ := he
      have hxv := cX_sound hT hx' hxa
      cases xa with
      | ptr p =>
        cases p with
        | none => cases he
        | some p =>
          simp only [Option.bind_eq_some_iff] at he
          obtain ⟨l, hl, he⟩ := he
          cases hb : Nat.ble 1 p.n with
          | false => rw [hb] at he; cases he
          | true =>
            rw [hb] at he
            simp only [cond_true, Option.map_eq_some_iff] at he
            obtain ⟨y, hy, he⟩ := he
            cases he
            have hll := rd_length hl
            have : l = [v] := by
              cases l with
              | nil => cases hy
              | cons q l => cases hy; cases l with | nil => rfl | cons => simp at hll
            subst this
            obtain ⟨c, h1, h2⟩ := load1_sound (P := P) h hg hxv hl (Nat.le_of_ble_eq_true hb)
            exact Out.val h h2 h1
      | _ => cases he
  | store t x y =>
    simp only [cOp, Option.bind_eq_some_iff, Option.map_eq_some_iff] at hc
    obtain ⟨n, hn, x', hx', y', hy', rfl⟩ := hc
    simp only [evOp, Option.bind_eq_some_iff] at he
    obtain ⟨xa, hxa, he⟩ := he
    have hxv := cX_sound hT hx' hxa
    cases xa with
    | ptr p =>
      cases p with
      | none => cases he
      | some p =>
        simp only [Option.bind_eq_some_iff] at he
        obtain ⟨ya, hya, he⟩ := he
        split at he
        · rename_i hcond
          obtain ⟨k1, k2, k3⟩ := hcond
          simp only [Option.map_eq_some_iff] at he
          obtain ⟨S2, hS2, he⟩ := he
          cases he
          obtain ⟨w', h1, h2⟩ := store_sound (P := P) h hn hxv (cX_sound hT hy' hya) k1 k2 k3 hS2
          exact ⟨ρ, undef, w', Rho.le_refl ρ, .undef, h2, .inr ⟨by simp [execOp, h1], rfl⟩⟩
        · cases he
    | _ => cases he
  | nilCheck x =>
    simp only [cOp, Option.map_eq_some_iff] at hc
    obtain ⟨x', hx', rfl⟩ := hc
    simp only [evOp, Option.bind_eq_some_iff] at he
    obtain ⟨xa, hxa, he⟩ := he
    have hxv := cX_sound hT hx' hxa
    generalize hgx : a.eval x = cx at hxv
    cases hxv with
    | ptr hL h0 h1 ha =>
      cases he
      exact ⟨ρ, _, w, Rho.le_refl ρ, .ptr hL h0 h1 ha, h, .inl (by simp [execOp, hgx])⟩
    | func hh =>
      cases he
      exact ⟨ρ, _, w, Rho.le_refl ρ, .func hh, h, .inl (by simp [execOp, hgx])⟩
    | iface hh =>
      cases he
      exact ⟨ρ, _, w, Rho.le_refl ρ, .iface hh, h, .inl (by simp [execOp, hgx])⟩
    | _ => cases he
  | binOp op t x y yt =>
    simp only [cOp, Option.bind_eq_some_iff] at hc
    obtain ⟨x', hx', y', hy', hc⟩ := hc
    obtain ⟨et, hao, het⟩ : ∃ et, ao = .bin op et x' y' ∧ (op = .eql ∨ op = .neq → etOf P t = some et) := by
      cases op <;> first
        | (simp only [Option.map_eq_some_iff] at hc; obtain ⟨et, h1, h2⟩ := hc; exact ⟨et, h2.symm, fun _ => h1⟩)
        | (cases hc; exact ⟨_, rfl, fun k => by rcases k with k | k <;> cases k⟩)
    subst hao
    simp only [evOp, Option.bind_eq_some_iff, Option.map_eq_some_iff] at he
    obtain ⟨xa, hxa, ya, hya, r, hr, he⟩ := he
    cases he
    have hxv := cX_sound hT hx' hxa
    have hyv := cX_sound hT hy' hya
    obtain ⟨c, h1, h2⟩ := bin_sound (P := P) (ox := x) (oy := y) hxv hyv het (fun hl e1 e2 => by
      rw [e1] at hxv; rw [e2] at hyv
      simp only [Bool.or_eq_true] at hl ⊢
      rcases hl with hl | hl
      · left
        cases hxv
        have := lit_const hx' hl hxa
        cases x <;> first | rfl | cases this
      · right
        cases hyv
        have := lit_const hy' hl hya
        cases y <;> first | rfl | cases this) hr w
    exact Out.val h h2 h1
  | unOp op t x =>
    simp only [cOp, Option.map_eq_some_iff] at hc
    obtain ⟨x', hx', rfl⟩ := hc
    simp only [evOp, Option.bind_eq_some_iff, Option.map_eq_some_iff] at he
    obtain ⟨xa, hxa, r, hr, he⟩ := he
    cases he
    obtain ⟨c, h1, h2⟩ := un_sound (P := P) (cX_sound hT hx' hxa) hr w
    exact Out.val h h2 h1
  | convert s d x => exact conv_sound hT h hc he
  | makeInterface t x =>
    simp only [cOp] at hc
    split at hc
    · cases hc
    · cases hc
    · rename_i hn1 hn2
      simp only [Option.map_eq_some_iff] at hc
      obtain ⟨x', hx', rfl⟩ := hc
      simp only [evOp, Option.map_eq_some_iff] at he
      obtain ⟨xa, hxa, he⟩ := he
      cases he
      refine Out.val h (.iface (cX_sound hT hx' hxa)) ?_
      cases hu : P.underlying t with
      | none => exact absurd hu hn2
      | some d =>
        simp only [Instr.makeInterface, Sem.run_bind, run_und hu, Result.andThen_ok]
        cases d <;> first | exact absurd hu (hn1 _) | rfl
  | makeFunc fn first caps =>
    cases fn with
    | func f =>
      simp only [cOp] at hc
      split at hc
      · rename_i hf
        simp only [Option.map_eq_some_iff] at hc
        obtain ⟨ys, hys, rfl⟩ := hc
        simp only [evOp, Option.map_eq_some_iff] at he
        obtain ⟨l, hl, he⟩ := he
        cases he
        have hfe : first = #[] := by simpa using hf
        subst hfe
        refine Out.val (c := .func (.func f) #[] (caps.map a.eval)) h (.func ?_) (by simp [Instr.makeFunc])
        have := cXs_sound hT hys hl
        simpa using this
      · cases hc
    | _ => cases hc
  | makeSlice t l c =>
    simp only [cOp] at hc
    split at hc
    · rename_i e hu
      simp only [Option.bind_eq_some_iff] at hc
      obtain ⟨n, hn, by_, hby, z, hz, l', hl', c', hc', hc⟩ := hc
      split at hc
      · rename_i hcond
        obtain ⟨k1, k2, k3⟩ := hcond
        cases hc
        simp only [evOp, Option.bind_eq_some_iff] at he
        obtain ⟨la, hla, he⟩ := he
        have hlv := cX_sound hT hl' hla
        generalize hgl : a.eval l = cl at hlv
        cases hlv with
        | @int kk li hw =>
          cases kk <;> simp only at he <;> try cases he
          simp only [Option.bind_eq_some_iff] at he
          obtain ⟨ca, hca, he⟩ := he
          have hcv := cX_sound hT hc' hca
          generalize hgc : a.eval c = cc at hcv
          cases hcv with
          | @int kk2 ci hw2 =>
            cases kk2 <;> simp only at he <;> try cases he
            split at he
            · rename_i hb
              obtain ⟨b1, b2, b3⟩ := hb
              cases he
              have := op_makeSlice (P := P) h hu hn hby hz k1 k2 k3 hw hw2 b1 b2 b3
              simp only [execOp, hgl, hgc]
              exact this
            · cases he
          | _ => cases he
        | _ => cases he
      · cases hc
    · cases hc
  | slice t x lo hi mx =>
    simp only [cOp, Option.bind_eq_some_iff] at hc
    obtain ⟨x', hx', lo', hlo', hi', hhi', mx', hmx', hc⟩ := hc
    split at hc
    · rename_i hu
      split at hc
      · rename_i hm
        cases hc
        simp only [evOp, Option.bind_eq_some_iff, Option.map_eq_some_iff] at he
        obtain ⟨xa, hxa, l, hl, h', hh', r, hr, he⟩ := he
        cases he
        have hmn : mx = none := by
          cases mx with
          | none => rfl
          | some y =>
            simp only [cXo, Option.map_eq_some_iff] at hmx'
            obtain ⟨y', _, rfl⟩ := hmx'
            simp at hm
        subst hmn
        obtain ⟨c, h1, h2⟩ := cutStr_sound (P := P) (cX_sound hT hx' hxa) hu (evo_sound hT hlo' hl) (evo_sound hT hhi' hh') hr w
        exact Out.val h h2 h1
      · cases hc
    · rename_i e hu
      simp only [Option.map_eq_some_iff] at hc
      obtain ⟨n, hn, rfl⟩ := hc
      simp only [evOp, Option.bind_eq_some_iff, Option.map_eq_some_iff] at he
      obtain ⟨xa, hxa, l, hl, h', hh', m, hm, r, hr, he⟩ := he
      cases he
      obtain ⟨c, h1, h2⟩ := cut_sound (P := P) (cX_sound hT hx' hxa) hu hn (evo_sound hT hlo' hl) (evo_sound hT hhi' hh') (evo_sound hT hmx' hm) hr w
      exact Out.val h h2 h1
    · rename_i n e hu
      split at hc
      · rename_i hm
        simp only [Option.map_eq_some_iff] at hc
        obtain ⟨s, hs, rfl⟩ := hc
        have hmn : mx = none := by
          cases mx with
          | none => rfl
          | some y =>
            simp only [cXo, Option.map_eq_some_iff] at hmx'
            obtain ⟨y', _, rfl⟩ := hmx'
            simp at hm
        subst hmn
        simp only [evOp, Option.bind_eq_some_iff] at he
        obtain ⟨xa, hxa, he⟩ := he
        have hxv := cX_sound hT hx' hxa
        cases xa with
        | ptr p =>
          cases p with
          | none => cases he
          | some p =>
            dsimp only at he
            cases hb : Nat.ble (n * s) p.n with
            | false => rw [hb] at he; cases he
            | true =>
              rw [hb] at he
              simp only [cond_true, Option.bind_eq_some_iff, Option.map_eq_some_iff] at he
              obtain ⟨l0, hl0, lv, hlv, hv, hhv, hh, hhh, l, hl, he⟩ := he
              cases he
              obtain ⟨c, h1, h2⟩ := cutArr_sound (P := P) h hxv hu hs (Nat.le_of_ble_eq_true hb) hl0 (evo_sound hT hlo' hlv) (evo_sound hT hhi' hhv) hhh hl
              exact Out.val h h2 h1
        | _ => cases he
      · cases hc
    · cases hc
  | fieldAddr s x f =>
    simp only [cOp, Option.bind_eq_some_iff] at hc
    obtain ⟨x', hx', hc⟩ := hc
    split at hc
    · rename_i fs hu
      split at hc
      · rename_i fd hfd
        simp only [Option.bind_eq_some_iff] at hc
        obtain ⟨n, hn, hc⟩ := hc
        split at hc
        · rename_i hpos
          cases hc
          simp only [evOp, Option.bind_eq_some_iff] at he
          obtain ⟨xa, hxa, he⟩ := he
          have hxv := cX_sound hT hx' hxa
          cases xa with
          | ptr p =>
            cases p with
            | none => cases he
            | some p =>
              dsimp only at he
              cases hb : (Nat.ble (fd.offset + n) p.n && Nat.ble 1 n) with
              | false => rw [hb] at he; cases he
              | true =>
                rw [hb] at he
                cases he
                simp only [Bool.and_eq_true, Nat.ble_eq] at hb
                obtain ⟨c, h1, h2⟩ := fieldAddr_sound (P := P) hu hfd hn hpos hxv hb.1 w
                exact Out.val h h2 h1
          | _ => cases he
        · cases hc
      · cases hc
    · cases hc
  | field s x f =>
    simp only [cOp, Option.bind_eq_some_iff] at hc
    obtain ⟨x', hx', hc⟩ := hc
    split at hc
    · rename_i fs hu
      split at hc
      · rename_i fd hfd
        simp only [Option.bind_eq_some_iff, Option.map_eq_some_iff] at hc
        obtain ⟨g, hg, n, hn, hc⟩ := hc
        have run : ∀ cs, a.eval x = .agg cs → (Instr.field s (a.eval x) f).run P w = (part fd.type cs fd.offset).run P w := by
          intro cs hcs
          simp only [Instr.field, Sem.run_bind, run_und hu, Result.andThen_ok, hfd, hcs, asAgg, Sem.run_pure]
        cases g with
        | true =>
          cases hc
          simp only [cond_true, evOp, Option.bind_eq_some_iff] at he
          obtain ⟨xa, hxa, he⟩ := he
          have hxv := cX_sound hT hx' hxa
          generalize hgx : a.eval x = cx at hxv
          cases hxv with
          | @agg l cs hv hat =>
            dsimp only at he
            split at he
            · rename_i hle
              cases he
              obtain ⟨c, h1, h2⟩ := partN_sound (P := P) hg hn hv hat hle w
              exact Out.val h h2 ((run cs hgx).trans h1)
            · cases he
          | _ => cases he
        | false =>
          cases hc
          simp only [cond_false, evOp, Option.bind_eq_some_iff] at he
          obtain ⟨xa, hxa, he⟩ := he
          have hxv := cX_sound hT hx' hxa
          generalize hgx : a.eval x = cx at hxv
          cases hxv with
          | @agg l cs hv hat =>
            simp only [Option.map_eq_some_iff] at he
            obtain ⟨y, hy, he⟩ := he
            cases he
            obtain ⟨c, h1, h2⟩ := part1_sound (P := P) hg hv hy w
            exact Out.val h h2 ((run cs hgx).trans h1)
          | _ => cases he
      · cases hc
    · cases hc
  | indexAddr t x i =>
    simp only [cOp, Option.bind_eq_some_iff] at hc
    obtain ⟨x', hx', i', hi', hc⟩ := hc
    split at hc
    · rename_i n e hu
      simp only [Option.map_eq_some_iff] at hc
      obtain ⟨s, hs, rfl⟩ := hc
      simp only [evOp, Option.bind_eq_some_iff] at he
      obtain ⟨xa, hxa, he⟩ := he
      have hxv := cX_sound hT hx' hxa
      cases xa with
      | ptr p =>
        cases p with
        | none => cases he
        | some p =>
          simp only [Option.bind_eq_some_iff] at he
          obtain ⟨ia, hia, k, hk, he⟩ := he
          cases hb : Nat.ble (n * s) p.n with
          | false => rw [hb] at he; cases he
          | true =>
            rw [hb] at he
            cases he
            obtain ⟨c, h1, h2⟩ := ixArr_sound (P := P) hu hs hxv (cX_sound hT hi' hia) hk (Nat.le_of_ble_eq_true hb) w
            exact Out.val h h2 h1
      | _ => cases he
    · rename_i e hu
      simp only [Option.map_eq_some_iff] at hc
      obtain ⟨s, hs, rfl⟩ := hc
      simp only [evOp, Option.bind_eq_some_iff] at he
      obtain ⟨xa, hxa, he⟩ := he
      have hxv := cX_sound hT hx' hxa
      cases xa with
      | slice p len e' clip =>
        cases p with
        | none => cases he
        | some p =>
          obtain ⟨o, vv, j⟩ := p
          dsimp only at he
          split at he
          · rename_i hee
            subst hee
            simp only [Option.bind_eq_some_iff, Option.map_eq_some_iff] at he
            obtain ⟨ia, hia, k, hk, he⟩ := he
            cases he
            obtain ⟨c, h1, h2⟩ := ixSlice_sound (P := P) hu hs hxv (cX_sound hT hi' hia) hk w
            exact Out.val h h2 h1
          · cases he
      | _ => cases he
    · cases hc
  | index t x i =>
    simp only [cOp, Option.bind_eq_some_iff] at hc
    obtain ⟨x', hx', i', hi', hc⟩ := hc
    split at hc
    · rename_i n e hu
      simp only [Option.bind_eq_some_iff] at hc
      obtain ⟨g, hg, s, hs, hc⟩ := hc
      cases g with
      | true =>
        cases hc
        simp only [evOp, Option.bind_eq_some_iff] at he
        obtain ⟨xa, hxa, he⟩ := he
        have hxv := cX_sound hT hx' hxa
        generalize hgx : a.eval x = cx at hxv
        cases hxv with
        | @agg l cs hv hat =>
          simp only [Option.bind_eq_some_iff] at he
          obtain ⟨ia, hia, k, hk, he⟩ := he
          split at he
          · rename_i hle
            cases he
            obtain ⟨kd, m, hci, g0, g1, g2, g3⟩ := ix_run (cX_sound hT hi' hia) hk
            obtain ⟨c, h1, h2⟩ := partN_sound (P := P) hg hs hv hat hle w
            refine Out.val h h2 ?_
            simp only [Instr.index, hgx, hci, asIntOf, Sem.run_bind, Sem.run_pure, Result.andThen_ok, run_und hu]
            simp only [Sem.run_ite, if_pos (And.intro g0 g1), Sem.run_bind, run_size hs, Result.andThen_ok, g2, h1]
          · cases he
        | _ => cases he
      | false =>
        simp only [cond_false] at hc
        split at hc
        · rename_i hs1
          subst hs1
          cases hc
          simp only [evOp, Option.bind_eq_some_iff] at he
          obtain ⟨xa, hxa, he⟩ := he
          have hxv := cX_sound hT hx' hxa
          generalize hgx : a.eval x = cx at hxv
          cases hxv with
          | @agg l cs hv hat =>
            simp only [Option.bind_eq_some_iff, Option.map_eq_some_iff] at he
            obtain ⟨ia, hia, k, hk, y, hy, he⟩ := he
            cases he
            obtain ⟨kd, m, hci, g0, g1, g2, g3⟩ := ix_run (cX_sound hT hi' hia) hk
            obtain ⟨c, h1, h2⟩ := part1_sound (P := P) hg hv hy w
            refine Out.val h h2 ?_
            simp only [Instr.index, hgx, hci, asIntOf, Sem.run_bind, Sem.run_pure, Result.andThen_ok, run_und hu]
            simp only [Sem.run_ite, if_pos (And.intro g0 g1), Sem.run_bind, run_size hs, Result.andThen_ok, g2, Nat.mul_one, h1]
          | _ => cases he
        · cases hc
    · rename_i hu
      cases hc
      simp only [evOp, Option.bind_eq_some_iff] at he
      obtain ⟨xa, hxa, he⟩ := he
      have hxv := cX_sound hT hx' hxa
      generalize hgx : a.eval x = cx at hxv
      cases hxv with
      | @str l bs hb =>
        subst hb
        simp only [Option.bind_eq_some_iff, Option.map_eq_some_iff] at he
        obtain ⟨ia, hia, k, hk, y, hy, he⟩ := he
        cases he
        obtain ⟨kd, m, hci, g0, g1, g2, g3⟩ := ix_run (cX_sound hT hi' hia) hk
        have hlt : k < bs.size := by rw [bytesN_length] at g3; exact g3
        have hyv : (bs[k]'hlt).toNat = y := by
          simp only [bytesN, List.getElem?_map, Option.map_eq_some_iff, Array.getElem?_toList] at hy
          obtain ⟨b, hb, rfl⟩ := hy
          have hd : k < bs.data.size := hlt
          rw [Array.getElem?_eq_getElem hd] at hb
          cases hb
          rfl
        refine Out.val (c := .int .u8 y) h (.int (wf_byte (bytesN_lt (List.mem_of_getElem? hy)))) ?_
        have hg : (if 0 ≤ m then bs[m.toNat]? else none) = some (bs[k]'hlt) := by
          rw [if_pos g0, g2]; exact getElem?_pos bs k hlt
        simp only [Instr.index, hgx, hci, asIntOf, Sem.run_bind, Sem.run_pure, Result.andThen_ok, run_und hu, hg, hyv]
      | _ => cases he
    · cases hc
  | range t x =>
    simp only [cOp] at hc
    split at hc
    · rename_i hu
      simp only [Option.map_eq_some_iff] at hc
      obtain ⟨x', hx', rfl⟩ := hc
      simp only [evOp, Option.bind_eq_some_iff] at he
      obtain ⟨xa, hxa, he⟩ := he
      have hxv := cX_sound hT hx' hxa
      generalize hgx : a.eval x = cx at hxv
      cases hxv with
      | @str l bs hb =>
        subst hb
        cases he
        obtain ⟨ρ', h1, h2, h3⟩ := range_sound h bs
        refine Out.of (c := .pointer (some ⟨w.heap.size, 0, none⟩)) h1 (.ptr h2 (Nat.le_refl _) (Nat.le_refl _) (by simp [Loc.at])) h3 ?_
        simp only [Instr.range, hgx, Sem.run_bind, run_und hu, Result.andThen_ok, Sem.run_pure, run_newObj]
      | _ => cases he
    · cases hc
  | next x isS =>
    cases isS with
    | false => cases hc
    | true =>
      simp only [cOp, Option.map_eq_some_iff] at hc
      obtain ⟨x', hx', rfl⟩ := hc
      simp only [evOp, Option.bind_eq_some_iff] at he
      obtain ⟨xa, hxa, he⟩ := he
      have hxv := cX_sound hT hx' hxa
      cases xa with
      | ptr p =>
        cases p with
        | none => cases he
        | some p =>
          dsimp only at he
          cases hb : Nat.beq p.i 0 with
          | false => rw [hb] at he; cases he
          | true =>
            rw [hb] at he
            have hp0 := Nat.eq_of_beq_eq_true hb
            simp only [cond_true] at he
            split at he
            · rename_i s pos hg
              obtain ⟨n1, n2⟩ := next_sound (P := P) h hxv hp0 hg type
              split at he
              · rename_i hd
                cases he
                exact Out.val h (.tuple (.cons .bool .nil)) (n1 hd)
              · rename_i b l hd
                split at he
                · cases he
                · rename_i hpos
                  cases he
                  obtain ⟨w', h1, h2⟩ := n2 b l hd (by omega)
                  exact Out.of (Rho.le_refl ρ) (.tuple (.cons .bool (.cons (.int (wf_nat (by omega))) (.cons (.int (wf_rune (decR_bound _).1)) .nil)))) h2 h1
            · cases he
      | _ => cases he
  | makeMap t r =>
    cases r with
    | some r => cases hc
    | none =>
      simp only [cOp, Option.map_eq_some_iff] at hc
      obtain ⟨p, hp, rfl⟩ := hc
      cases he
      obtain ⟨ρ', h1, h2, h3⟩ := mkMap_sound h p.1 p.2
      refine Out.of h1 h2 h3 ?_
      simp only [Instr.makeMap, Option.map_none, Sem.run_bind, Sem.run_pure, Result.andThen_ok, run_newObj]
  | lookup t m k ok =>
    simp only [cOp, Option.bind_eq_some_iff, Option.map_eq_some_iff] at hc
    obtain ⟨p, hp, m', hm', k', hk', rfl⟩ := hc
    simp only [evOp, Option.bind_eq_some_iff] at he
    obtain ⟨ma, hma, he⟩ := he
    have hmv := cX_sound hT hm' hma
    split at he
    · rename_i o
      simp only [Option.bind_eq_some_iff] at he
      obtain ⟨ka, hka, he⟩ := he
      have hkv := cX_sound hT hk' hka
      split at he
      · rename_i k1 kn
        split at he
        · rename_i k2 v2 l c hg
          split at he
          · rename_i hc
            obtain ⟨rfl, rfl, rfl⟩ := hc
            cases he
            generalize hgk : a.eval k = ck at hkv
            cases hkv with
            | int hw =>
              obtain ⟨x, h1, h2⟩ := lookup_sound (P := P) h hp hmv hg kn ok
              exact Out.val h h2 (by rw [hgk]; exact h1)
          · cases he
        · cases he
      · cases he
    · cases he
  | mapUpdate t m k x =>
    simp only [cOp, Option.bind_eq_some_iff, Option.map_eq_some_iff] at hc
    obtain ⟨p, hp, m', hm', k', hk', x', hx', rfl⟩ := hc
    simp only [evOp, Option.bind_eq_some_iff] at he
    obtain ⟨ma, hma, he⟩ := he
    have hmv := cX_sound hT hm' hma
    split at he
    · rename_i o
      simp only [Option.bind_eq_some_iff] at he
      obtain ⟨ka, hka, he⟩ := he
      have hkv := cX_sound hT hk' hka
      split at he
      · rename_i k1 kn
        simp only [Option.bind_eq_some_iff] at he
        obtain ⟨xa, hxa, he⟩ := he
        have hxv := cX_sound hT hx' hxa
        split at he
        · rename_i x1 xn
          split at he
          · rename_i k2 v2 l c hg
            split at he
            · rename_i hc
              obtain ⟨rfl, rfl, rfl, rfl⟩ := hc
              cases he
              generalize hgk : a.eval k = ck at hkv
              generalize hgx : a.eval x = cx at hxv
              cases hkv with
              | int hw =>
                cases hxv with
                | int hw2 =>
                  obtain ⟨w', h1, h2⟩ := mapSet_sound (P := P) h hp hmv hg kn hw2
                  exact ⟨ρ, undef, w', Rho.le_refl ρ, VR.undef, h2, .inr ⟨by simp [execOp, hgk, hgx, h1], rfl⟩⟩
            · cases he
          · cases he
        · cases he
      · cases he
    · cases he
  | typeAssert x xt t ok =>
    simp only [cOp, Option.bind_eq_some_iff] at hc
    obtain ⟨x', hx', hc⟩ := hc
    split at hc
    · rename_i want hu
      split at hc
      · rename_i hz
        cases hc
        simp only [evOp, Option.bind_eq_some_iff, Option.map_eq_some_iff] at he
        obtain ⟨xa, hxa, r, hr, he⟩ := he
        cases he
        obtain ⟨c, h1, h2⟩ := assertI_sound (P := P) (xt := xt) hu hz
          (fun u hmem => by
            have := (List.mem_filter.1 hmem).2
            cases hi : P.info? u with
            | none => rw [hi] at this; cases this
            | some i => rw [hi] at this; exact ⟨i, rfl, hasAll_none this⟩)
          (fun u hmem => by
            have := (List.mem_filter.1 hmem).2
            cases hi : P.info? u with
            | none => rw [hi] at this; cases this
            | some i => rw [hi] at this; obtain ⟨m, hm⟩ := hasAll_some (by simpa using this); exact ⟨i, m, rfl, hm⟩)
          (cX_sound hT hx' hxa) hr w
        exact Out.val h h2 h1
      · cases hc
    · rename_i d hni hu
      simp only [Option.map_eq_some_iff] at hc
      obtain ⟨z, hz, rfl⟩ := hc
      simp only [evOp, Option.bind_eq_some_iff, Option.map_eq_some_iff] at he
      obtain ⟨xa, hxa, r, hr, he⟩ := he
      cases he
      obtain ⟨c, h1, h2⟩ := assert_sound (P := P) (xt := xt) hu (fun m hm => hni m (by rw [hm])) hz (cX_sound hT hx' hxa) hr w
      exact Out.val h h2 h1
    · cases hc
  | extract x i =>
    simp only [cOp, Option.map_eq_some_iff] at hc
    obtain ⟨x', hx', rfl⟩ := hc
    simp only [evOp, Option.bind_eq_some_iff] at he
    obtain ⟨xa, hxa, he⟩ := he
    have hxv := cX_sound hT hx' hxa
    generalize hgx : a.eval x = cx at hxv
    cases hxv with
    | @tuple l cs hv =>
      simp only [Option.map_eq_some_iff] at he
      obtain ⟨y, hy, he⟩ := he
      cases he
      obtain ⟨c, h1, h2⟩ := hv.get hy
      simp only [Array.getElem?_toList] at h1
      exact Out.val h h2 (by simp [Instr.extract, hgx, h1])
    | _ => cases he
  | call c =>
    obtain ⟨cal, args, ats⟩ := c
    cases cal with
    | builtin b =>
      have := fun cst => builtin_sound hT h hc he type cst
      have e1 : (args.toList.map a.eval).toArray = args.map a.eval := by apply Array.ext'; simp
      simp only [e1] at this
      simp only [execOp, resolve, pure_bind, invoke]
      exact this _
    | _ => cases hp
  | panic x => cases hc; cases he
  | _ => cases hc
end
/-! ### Operations, their types resolved -/
def cGuard (ops : Array Oper) : Option (Nat × Bool) → Option (Option (Nat × Bool))
  | none => some none
  | some (j, b) => ((ops[j]?).bind (·.dst)).map fun g => some (g, b)
def cDst (n : Nat) : Option Tmp → Bool
  | none => true
  | some d => Nat.blt d n
def cOper (P : Program) (n : Nat) (ops : Array Oper) (o : Oper) : Option AOper :=
  (cOp P o.op).bind fun op => bif (op.calls == !plainOp o.op) && cDst n o.dst then (cGuard ops o.guard).map fun g => ⟨o.dst, g, op⟩ else none
def cOps (P : Program) (n : Nat) (ops : Array Oper) : List Oper → Option (List AOper)
  | [] => some []
  | o :: r => (cOper P n ops o).bind fun x => (cOps P n ops r).map (x :: ·)
structure EntryOk (P : Program) (f : Nat) : Prop where
  out : ∃ fn, P.funcs[f]? = some fn ∧ fn.body.isNone = false ∧ (fn.name == "runtime.NumGoroutine") = false
/-- What a call comes to, in every world that the state stands for. -/
def Con (P : Program) (f : Nat) (args : List AV) (S : St) (v : AV) (S' : St) : Prop :=
  ∀ (B : Nat) (w0 : Base) (ρ : Rho) (w : World) (cs : List Value), Sim B w0 ρ S w → VRs ρ args cs →
    Calls P f cs.toArray w fun e w' => ∃ ρ' c, ρ.le ρ' ∧ e = .returned c ∧ VR ρ' v c ∧ Sim B w0 ρ' S' w'
def CallOk (P : Program) (call : Nat → List AV → St → Option (AV × St)) : Prop :=
  ∀ f args S v S', call f args S = some (v, S') → EntryOk P f ∧ Con P f args S v S'

section
variable {P : Program} {B : Nat} {w0 : Base} {w : World} {ρ : Rho} {S S' : St}
theorem guard_sound {T : Tm} {a : Act} (hT : TR ρ T a.tmps) {ops : Array Oper} {o : Oper} {g : Option (Nat × Bool)} (hg : cGuard ops o.guard = some g) {b : Bool} (hw : wanted g T = some b) :
    Region.wanted o (yielded ops a.tmps) = b := by
  unfold Region.wanted
  cases ho : o.guard with
  | none => rw [ho] at hg; cases hg; cases hw; rfl
  | some p =>
    obtain ⟨j, b'⟩ := p
    rw [ho] at hg
    simp only [cGuard, Option.map_eq_some_iff] at hg
    obtain ⟨d, hd, rfl⟩ := hg
    simp only [wanted] at hw
    split at hw
    · rename_i c hc
      cases hw
      obtain ⟨v, h1, h2⟩ := hT d _ hc
      cases h2
      simp only [yielded, hd, Option.bind_some, h1]
      cases c <;> cases b' <;> rfl
    · rename_i v hne hc
      cases hw
      obtain ⟨u, h1, h2⟩ := hT d _ hc
      simp only [yielded, hd, Option.bind_some, h1]
      cases h2 <;> first | (exact absurd rfl (hne _)) | (cases b' <;> rfl)
    · cases hw
theorem run_callFunc {f : Nat} (h : EntryOk P f) (args : Array Value) (w : World) : (callFunc f args).run P w = .ok (.enter f args) w := by
  obtain ⟨fn, h1, h2, h3⟩ := h.out
  simp only [callFunc, Sem.run_bind, run_program, Result.andThen_ok, h1, h3, h2, Bool.false_eq_true, if_false, Sem.run_pure]
theorem run_method {name : String} {t f : Nat} (hm : (t, f) ∈ cTab P name) (v : Value) (w : World) :
    (Go.method (P.types.size + Made.depth) t v name).run P w = .ok (f, v) w := by
  simp only [cTab, List.mem_filterMap] at hm
  obtain ⟨t', ht', hm⟩ := hm
  split at hm
  · rename_i i hi
    split at hm
    · rename_i m hf
      split at hm
      · rename_i hp
        split at hm
        · rename_i g pr hfn
          simp only [Option.ite_none_right_eq_some, Option.some.injEq, Prod.mk.injEq] at hm
          obtain ⟨hpr, rfl, rfl⟩ := hm
          have hp' : m.path.toList = [] := by simpa using hp
          have hdp : P.types.size + Made.depth = (P.types.size + 99) + 1 := rfl
          rw [hdp]
          generalize P.types.size + 99 = fuel
          simp only [Go.method, Sem.run_bind, run_info hi, Result.andThen_ok, hf, hp', Go.follow, Sem.run_pure, hfn, Go.receiverAt]
          cases hu : P.underlying t' with
          | none => rw [hu] at hpr; cases pr <;> cases hpr
          | some d =>
            simp only [run_und hu, Result.andThen_ok]
            rw [hu] at hpr
            cases d <;> cases pr <;> first | (cases hpr; done) | simp [Go.Place.get]
        · cases hm
      · cases hm
    · cases hm
  · cases hm
theorem callee_sound {o : Oper} {ao : AOp} (hc : cOp P o.op = some ao) {T : Tm} {a : Act} (hT : TR ρ T a.tmps) {f : Nat} {args : List AV} (he : callee ao T = some (f, args)) (hp : plainOp o.op = false) (hf : EntryOk P f) (w : World) :
    ∃ cs : List Value, VRs ρ args cs ∧ (execOp a.eval o).run P w = .ok (.enter f cs.toArray) w := by
  obtain ⟨dst, op, type, pos, after, guard⟩ := o
  dsimp only at hc hp
  cases op with
  | call c =>
    obtain ⟨cal, args', ats⟩ := c
    have e1 : args'.map a.eval = (args'.toList.map a.eval).toArray := by apply Array.ext'; simp
    cases cal with
    | builtin b => cases hp
    | value x =>
      have main : ∀ (caps : List AV) (l : List AV), args = l ++ caps → VRs ρ l (args'.toList.map a.eval) → ∀ cs : Array Value, VRs ρ caps cs.toList → a.eval x = .func (.func f) #[] cs →
          ∃ cs : List Value, VRs ρ args cs ∧ (execOp a.eval ⟨dst, .call ⟨.value x, args', ats⟩, type, pos, after, guard⟩).run P w = .ok (.enter f cs.toArray) w := by
        intro caps l hl hv cs hcs hx
        subst hl
        refine ⟨args'.toList.map a.eval ++ cs.toList, hv.append hcs, ?_⟩
        simp only [execOp, resolve, hx, Deferred.ofValue, pure_bind, invoke, run_callFunc hf]
        congr 2
        apply Array.ext'; simp
      have gen : ∀ x', cX x = some x' → (∃ ys, cXs args'.toList = some ys ∧ callee (.callV x' ys) T = some (f, args)) → 
          ∃ cs : List Value, VRs ρ args cs ∧ (execOp a.eval ⟨dst, .call ⟨.value x, args', ats⟩, type, pos, after, guard⟩).run P w = .ok (.enter f cs.toArray) w := by
        rintro x' hx' ⟨ys, hys, he⟩
        simp only [callee, Option.bind_eq_some_iff] at he
        obtain ⟨fv, hfv, he⟩ := he
        have hxv := cX_sound hT hx' hfv
        cases fv with
        | func g caps =>
          simp only [Option.map_eq_some_iff, Prod.mk.injEq] at he
          obtain ⟨l, hl, rfl, rfl⟩ := he
          generalize hgx : a.eval x = cx at hxv
          cases hxv with
          | @func _ _ cs hcs => exact main caps l rfl (cXs_sound hT hys hl) cs hcs hgx
        | _ => cases he
      cases x with
      | func g =>
        simp only [cOp, Option.map_eq_some_iff] at hc
        obtain ⟨ys, hys, rfl⟩ := hc
        simp only [callee, Option.map_eq_some_iff, Prod.mk.injEq] at he
        obtain ⟨l, hl, rfl, rfl⟩ := he
        exact main [] l (by simp) (cXs_sound hT hys hl) #[] .nil rfl
      | _ =>
        simp only [cOp, Option.bind_eq_some_iff, Option.map_eq_some_iff] at hc
        obtain ⟨x', hx', ys, hys, rfl⟩ := hc
        exact gen x' hx' ⟨ys, hys, he⟩
    | invoke x name =>
      simp only [cOp, Option.bind_eq_some_iff, Option.map_eq_some_iff] at hc
      obtain ⟨x', hx', ys, hys, rfl⟩ := hc
      simp only [callee, Option.bind_eq_some_iff] at he
      obtain ⟨fv, hfv, he⟩ := he
      have hxv := cX_sound hT hx' hfv
      cases fv with
      | iface t v =>
        simp only [Option.bind_eq_some_iff, Option.map_eq_some_iff, Prod.mk.injEq] at he
        obtain ⟨⟨t', f'⟩, hfi, l, hl, hf1, rfl⟩ := he
        dsimp only at hf1
        subst hf1
        have ht : t' = t := by have := List.find?_some hfi; simpa using this
        subst ht
        have hmem := List.mem_of_find?_eq_some hfi
        generalize hgx : a.eval x = cx at hxv
        cases hxv with
        | @iface _ _ c hv =>
          refine ⟨c :: args'.toList.map a.eval, .cons hv (cXs_sound hT hys hl), ?_⟩
          simp only [execOp, resolve, hgx, pure_bind, invoke]
          have e0 : (#[Value.iface t' c] ++ args'.map a.eval)[0]? = some (.iface t' c) := by rw [Array.getElem?_append_left (by simp)]; rfl
          simp only [e0, callMethod, Sem.run_bind, run_program, Result.andThen_ok, run_method hmem, run_callFunc hf]
          congr 2
          apply Array.ext'
          simp [List.take_of_length_le]
      | _ => cases he
  | _ => cases hp
theorem oper_sound {call : Nat → List AV → St → Option (AV × St)} (hcall : CallOk P call) {ops : Array Oper} {i n : Nat} {o : Oper} {ao : AOper} (ho : ops[i]? = some o) (hc : cOper P n ops o = some ao)
    {T : Tm} {a : Act} (hT : TR ρ T a.tmps) (h : Sim B w0 ρ S w) {v : AV} (he : evOper call ao T S = some (v, S')) {Q : Exit → Act → World → Prop} {K : Act → World → Prop}
    (hK : ∀ ρ' c w', ρ.le ρ' → VR ρ' v c → Sim B w0 ρ' S' w' → K (a.put o.dst c) w') : wpOp P ops Q i K a w := by
  simp only [cOper, Option.bind_eq_some_iff] at hc
  obtain ⟨op, hop, hc⟩ := hc
  cases hb : (op.calls == !plainOp o.op) && cDst n o.dst with
  | false => rw [hb] at hc; cases hc
  | true =>
    rw [hb] at hc
    simp only [cond_true, Option.map_eq_some_iff] at hc
    obtain ⟨g, hg, rfl⟩ := hc
    simp only [Bool.and_eq_true, beq_iff_eq] at hb
    simp only [evOper, Option.bind_eq_some_iff] at he
    obtain ⟨wb, hwb, he⟩ := he
    have hw := guard_sound hT hg hwb
    unfold wpOp
    simp only [ho, hw]
    cases wb with
    | false =>
      cases he
      simp only [Bool.false_eq_true, if_false]
      exact hK ρ undef w (Rho.le_refl ρ) VR.undef h
    | true =>
      simp only [cond_true] at he
      simp only [if_true]
      refine .inl ?_
      unfold Oper.wp
      cases hcs : op.calls with
      | false =>
        simp only [evAny, hcs, cond_false] at he
        obtain ⟨ρ', c, w', h1, h2, h3, h4⟩ := op_sound hop (by cases hp : plainOp o.op with | true => rfl | false => rw [hp, hcs] at hb; simp at hb) hT h he
        rcases h4 with h4 | ⟨h4, rfl⟩
        · rw [h4]; exact hK ρ' c w' h1 h2 h3
        · rw [h4]; exact hK ρ' _ w' h1 h2 h3
      | true =>
        simp only [evAny, hcs, cond_true, Option.bind_eq_some_iff] at he
        obtain ⟨⟨f, args⟩, hf, he⟩ := he
        obtain ⟨hen, hcon⟩ := hcall f args S v S' he
        obtain ⟨cs, hcs', hrun⟩ := callee_sound hop hT hf (by cases hp : plainOp o.op with | false => rfl | true => rw [hp, hcs] at hb; simp at hb) hen w
        rw [hrun, Oper.upon_enter]
        refine Calls.mono (hcon B w0 ρ w cs h hcs') ?_
        rintro e w' ⟨ρ', c, h1, rfl, h2, h3⟩
        exact hK ρ' c w' h1 h2 h3
theorem cOper_dst {n : Nat} {ops : Array Oper} {o : Oper} {ao : AOper} (hc : cOper P n ops o = some ao) : ao.dst = o.dst ∧ (∀ d, o.dst = some d → d < n) := by
  simp only [cOper, Option.bind_eq_some_iff] at hc
  obtain ⟨op, hop, hc⟩ := hc
  cases hb : (op.calls == !plainOp o.op) && cDst n o.dst with
  | false => rw [hb] at hc; cases hc
  | true =>
    rw [hb] at hc
    simp only [cond_true, Option.map_eq_some_iff] at hc
    obtain ⟨g, hg, rfl⟩ := hc
    simp only [Bool.and_eq_true] at hb
    refine ⟨rfl, fun d hd => ?_⟩
    have := hb.2
    rw [hd] at this
    exact of_decide_eq_true (by simpa [cDst, Nat.blt_eq] using this)
theorem TR.putD {T : Tm} {a : Act} (h : TR ρ T a.tmps) {d : Option Nat} (hd : ∀ x, d = some x → x < a.tmps.size) {v : AV} {c : Value} (hv : VR ρ v c) : TR ρ (putD T d v) (a.put d c).tmps := by
  cases d with
  | none => exact h
  | some d => exact TR.put h (hd d rfl) hv
theorem put_size (a : Act) (d : Option Nat) (c : Value) : (a.put d c).tmps.size = a.tmps.size := by cases d <;> simp [Act.put]
theorem put_defers (a : Act) (d : Option Nat) (c : Value) : (a.put d c).defers = a.defers := by cases d <;> rfl
end
/-! ### What an operation looks at -/
theorem XO.congr {T T' : Tm} {x : XO} (h : ∀ t ∈ x.tmps, T.get t = T'.get t) : x.ev T = x.ev T' := by
  cases x with
  | t i => exact h i (by simp [XO.tmps])
  | c v => rfl
theorem args_congr {T T' : Tm} : ∀ {l : List XO}, (∀ t ∈ tmpsL l, T.get t = T'.get t) → evArgs T l = evArgs T' l
  | [], _ => rfl
  | x :: r, h => by
    simp only [evArgs, XO.congr (x := x) (fun t ht => h t (List.mem_append_left _ ht)), args_congr (l := r) (fun t ht => h t (List.mem_append_right _ ht))]
theorem parts_congr {T T' : Tm} : ∀ {l : List (Nat × Nat × XO)}, (∀ t ∈ tmpsP l, T.get t = T'.get t) → evParts T l = evParts T' l
  | [], _ => rfl
  | x :: r, h => by
    simp only [evParts, XO.congr (x := x.2.2) (fun t ht => h t (List.mem_append_left _ ht)), parts_congr (l := r) (fun t ht => h t (List.mem_append_right _ ht))]
theorem opt_congr {T T' : Tm} {x : Option XO} (h : ∀ t ∈ tmpsO x, T.get t = T'.get t) : evOpt T x = evOpt T' x := by
  cases x with
  | none => rfl
  | some x => simp only [evOpt, XO.congr (x := x) h]
theorem evOp_congr {T T' : Tm} {op : AOp} (S : St) (h : ∀ t ∈ op.tmps, T.get t = T'.get t) : evOp op T S = evOp op T' S := by
  cases op <;> simp only [AOp.tmps, List.mem_append, or_imp, forall_and] at h <;> simp only [evOp] <;>
    first
      | rfl
      | rw [XO.congr h]
      | rw [args_congr h]
      | rw [parts_congr h]
      | rw [XO.congr h.1, XO.congr h.2]
      | simp only [XO.congr h.1, XO.congr h.2]
      | simp only [XO.congr h.1.1, XO.congr h.1.2, XO.congr h.2]
      | simp only [XO.congr h.1.1, opt_congr h.1.2, opt_congr h.2]
      | simp only [XO.congr h.1.1.1, opt_congr h.1.1.2, opt_congr h.1.2, opt_congr h.2]
theorem callee_congr {T T' : Tm} {op : AOp} (h : ∀ t ∈ op.tmps, T.get t = T'.get t) : callee op T = callee op T' := by
  cases op <;> simp only [AOp.tmps, List.mem_append, or_imp, forall_and] at h <;> simp only [callee] <;>
    first
      | rfl
      | rw [args_congr h]
      | simp only [XO.congr h.1, args_congr h.2]
theorem oper_congr {call : Nat → List AV → St → Option (AV × St)} {T T' : Tm} {o : AOper} (S : St) (h : ∀ t ∈ o.tmps, T.get t = T'.get t) : evOper call o T S = evOper call o T' S := by
  obtain ⟨dst, guard, op⟩ := o
  have hop : ∀ t ∈ op.tmps, T.get t = T'.get t := fun t ht => h t (by cases guard with | none => exact ht | some g => exact List.mem_cons_of_mem _ ht)
  have hw : wanted guard T = wanted guard T' := by
    cases guard with
    | none => rfl
    | some g => simp only [wanted, h g.1 (List.mem_cons_self ..)]
  simp only [evOper, evAny, hw, callee_congr hop, evOp_congr S hop]

/-! ### What turns memory -/
/-- An operation that neither reads memory nor turns it. -/
theorem evOp_light {op : AOp} {T : Tm} (hh : op.heavy = false) (hr : op.reads = false) : ∃ r : Option AV, ∀ S, evOp op T S = r.map fun v => (v, S) := by
  cases op
  case mv x => exact ⟨x.ev T, fun S => rfl⟩
  case pick c a b =>
    simp only [evOp]
    rcases c.ev T with _ | v
    · exact ⟨none, fun _ => rfl⟩
    · cases v with
      | bool t => cases t with | false => exact ⟨b.ev T, fun _ => rfl⟩ | true => exact ⟨a.ev T, fun _ => rfl⟩
      | _ => exact ⟨none, fun _ => rfl⟩
  case build z ps =>
    simp only [evOp]
    refine ⟨(evParts T ps).bind fun ps => (aFill z ps).map .agg, fun S => ?_⟩
    rcases evParts T ps with _ | p
    · rfl
    · simp [Function.comp_def]
  case nilCheck x =>
    simp only [evOp]
    rcases x.ev T with _ | v
    · exact ⟨none, fun _ => rfl⟩
    · cases v with
      | ptr a => cases a with | none => exact ⟨none, fun _ => rfl⟩ | some a => exact ⟨some _, fun _ => rfl⟩
      | iface t v => exact ⟨some _, fun _ => rfl⟩
      | func t v => exact ⟨some _, fun _ => rfl⟩
      | _ => exact ⟨none, fun _ => rfl⟩
  case bin op et x y =>
    simp only [evOp]
    rcases x.ev T with _ | v
    · exact ⟨none, fun _ => rfl⟩
    · rcases y.ev T with _ | u
      · exact ⟨none, fun _ => rfl⟩
      · exact ⟨_, fun _ => rfl⟩
  case un op x =>
    simp only [evOp]
    rcases x.ev T with _ | v
    · exact ⟨none, fun _ => rfl⟩
    · exact ⟨_, fun _ => rfl⟩
  case conv c x =>
    simp only [evOp]
    rcases x.ev T with _ | v
    · exact ⟨none, fun _ => rfl⟩
    · cases c <;> first | (simp [AOp.heavy, AOp.reads] at hh hr; done) | (cases v <;> first | exact ⟨none, fun _ => rfl⟩ | exact ⟨some _, fun _ => rfl⟩ | skip)
  case mkIface t x => 
    simp only [evOp]
    rcases x.ev T with _ | v
    · exact ⟨none, fun _ => rfl⟩
    · exact ⟨some _, fun _ => rfl⟩
  case mkFunc f xs =>
    simp only [evOp]
    rcases evArgs T xs with _ | v
    · exact ⟨none, fun _ => rfl⟩
    · exact ⟨some _, fun _ => rfl⟩
  case cutStr x lo hi =>
    simp only [evOp]
    rcases x.ev T with _ | v
    · exact ⟨none, fun _ => rfl⟩
    · rcases evOpt T lo with _ | l
      · exact ⟨none, fun _ => rfl⟩
      · rcases evOpt T hi with _ | h
        · exact ⟨none, fun _ => rfl⟩
        · exact ⟨_, fun _ => rfl⟩
  case cut e x lo hi m =>
    simp only [evOp]
    rcases x.ev T with _ | v
    · exact ⟨none, fun _ => rfl⟩
    · rcases evOpt T lo with _ | l
      · exact ⟨none, fun _ => rfl⟩
      · rcases evOpt T hi with _ | h
        · exact ⟨none, fun _ => rfl⟩
        · rcases evOpt T m with _ | m
          · exact ⟨none, fun _ => rfl⟩
          · exact ⟨_, fun _ => rfl⟩
  case fieldAddr o n x =>
    simp only [evOp]
    rcases x.ev T with _ | v
    · exact ⟨none, fun _ => rfl⟩
    · cases v with
      | ptr a => cases a with
        | none => exact ⟨none, fun _ => rfl⟩
        | some p =>
          dsimp only [Option.bind_some]
          cases Nat.ble (o + n) p.n && Nat.ble 1 n
          · exact ⟨none, fun _ => rfl⟩
          · exact ⟨some _, fun _ => rfl⟩
      | _ => exact ⟨none, fun _ => rfl⟩
  case field1 o x =>
    simp only [evOp]
    rcases x.ev T with _ | v
    · exact ⟨none, fun _ => rfl⟩
    · cases v with
      | agg cs => exact ⟨_, fun _ => rfl⟩
      | _ => exact ⟨none, fun _ => rfl⟩
  case fieldN o n x =>
    simp only [evOp]
    rcases x.ev T with _ | v
    · exact ⟨none, fun _ => rfl⟩
    · cases v with
      | agg cs => 
        dsimp only [Option.bind_some]
        by_cases h : o + n ≤ cs.length
        · simp only [h, if_true]; exact ⟨some _, fun _ => rfl⟩
        · simp only [h, if_false]; exact ⟨none, fun _ => rfl⟩
      | _ => exact ⟨none, fun _ => rfl⟩
  case ixSlice e x i =>
    simp only [evOp]
    rcases x.ev T with _ | v
    · exact ⟨none, fun _ => rfl⟩
    · cases v with
      | slice p len e' cl =>
        cases p with
        | none => exact ⟨none, fun _ => rfl⟩
        | some p =>
          dsimp only [Option.bind_some]
          by_cases h : e' = e
          · simp only [h, if_true]
            rcases i.ev T with _ | k
            · exact ⟨none, fun _ => rfl⟩
            · dsimp only [Option.bind_some]
              rcases ixOf k len with _ | k
              · exact ⟨none, fun _ => rfl⟩
              · exact ⟨some _, fun _ => rfl⟩
          · simp only [h, if_false]; exact ⟨none, fun _ => rfl⟩
      | _ => exact ⟨none, fun _ => rfl⟩
  case ixArr len e x i =>
    simp only [evOp]
    rcases x.ev T with _ | v
    · exact ⟨none, fun _ => rfl⟩
    · cases v with
      | ptr p =>
        cases p with
        | none => exact ⟨none, fun _ => rfl⟩
        | some p =>
          dsimp only [Option.bind_some]
          rcases i.ev T with _ | k
          · exact ⟨none, fun _ => rfl⟩
          · dsimp only [Option.bind_some]
            rcases ixOf k len with _ | k
            · exact ⟨none, fun _ => rfl⟩
            · dsimp only [Option.bind_some]
              cases Nat.ble (len * e) p.n
              · exact ⟨none, fun _ => rfl⟩
              · exact ⟨some _, fun _ => rfl⟩
      | _ => exact ⟨none, fun _ => rfl⟩
  case ixStr x i =>
    simp only [evOp]
    rcases x.ev T with _ | v
    · exact ⟨none, fun _ => rfl⟩
    · cases v with
      | str s =>
        dsimp only [Option.bind_some]
        rcases i.ev T with _ | k
        · exact ⟨none, fun _ => rfl⟩
        · dsimp only [Option.bind_some]
          rcases ixOf k s.length with _ | k
          · exact ⟨none, fun _ => rfl⟩
          · dsimp only [Option.bind_some]
            rcases s[k]? with _ | b
            · exact ⟨none, fun _ => rfl⟩
            · exact ⟨some _, fun _ => rfl⟩
      | _ => exact ⟨none, fun _ => rfl⟩
  case ixAgg1 len x i =>
    simp only [evOp]
    rcases x.ev T with _ | v
    · exact ⟨none, fun _ => rfl⟩
    · cases v with
      | agg s =>
        dsimp only [Option.bind_some]
        rcases i.ev T with _ | k
        · exact ⟨none, fun _ => rfl⟩
        · dsimp only [Option.bind_some]
          rcases ixOf k len with _ | k
          · exact ⟨none, fun _ => rfl⟩
          · exact ⟨_, fun _ => rfl⟩
      | _ => exact ⟨none, fun _ => rfl⟩
  case ixAggN len e x i =>
    simp only [evOp]
    rcases x.ev T with _ | v
    · exact ⟨none, fun _ => rfl⟩
    · cases v with
      | agg s =>
        dsimp only [Option.bind_some]
        rcases i.ev T with _ | k
        · exact ⟨none, fun _ => rfl⟩
        · dsimp only [Option.bind_some]
          rcases ixOf k len with _ | k
          · exact ⟨none, fun _ => rfl⟩
          · dsimp only [Option.bind_some]
            by_cases h : k * e + e ≤ s.length
            · simp only [h, if_true]; exact ⟨some _, fun _ => rfl⟩
            · simp only [h, if_false]; exact ⟨none, fun _ => rfl⟩
      | _ => exact ⟨none, fun _ => rfl⟩
  case assert t z ok x =>
    simp only [evOp]
    rcases x.ev T with _ | v
    · exact ⟨none, fun _ => rfl⟩
    · exact ⟨_, fun _ => rfl⟩
  case assertI y n ok x =>
    simp only [evOp]
    rcases x.ev T with _ | v
    · exact ⟨none, fun _ => rfl⟩
    · exact ⟨_, fun _ => rfl⟩
  case extract i x =>
    simp only [evOp]
    rcases x.ev T with _ | v
    · exact ⟨none, fun _ => rfl⟩
    · cases v with
      | tuple vs => exact ⟨_, fun _ => rfl⟩
      | _ => exact ⟨none, fun _ => rfl⟩
  case len x =>
    simp only [evOp]
    rcases x.ev T with _ | v
    · exact ⟨none, fun _ => rfl⟩
    · cases v with
      | slice a n e c =>
        dsimp only [Option.bind_some]
        by_cases h : n ≤ 9223372036854775807
        · simp only [h, if_true]; exact ⟨some _, fun _ => rfl⟩
        · simp only [h, if_false]; exact ⟨none, fun _ => rfl⟩
      | _ => exact ⟨none, fun _ => rfl⟩
  case lenS x =>
    simp only [evOp]
    rcases x.ev T with _ | v
    · exact ⟨none, fun _ => rfl⟩
    · cases v with
      | str s =>
        dsimp only [Option.bind_some]
        by_cases h : s.length ≤ 9223372036854775807
        · simp only [h, if_true]; exact ⟨some _, fun _ => rfl⟩
        · simp only [h, if_false]; exact ⟨none, fun _ => rfl⟩
      | _ => exact ⟨none, fun _ => rfl⟩
  case lenArr n => exact ⟨some _, fun _ => rfl⟩
  case mx xs =>
    simp only [evOp]
    rcases evArgs T xs with _ | v
    · exact ⟨none, fun _ => rfl⟩
    · exact ⟨_, fun _ => rfl⟩
  case mn xs =>
    simp only [evOp]
    rcases evArgs T xs with _ | v
    · exact ⟨none, fun _ => rfl⟩
    · exact ⟨_, fun _ => rfl⟩
  case cap x =>
    simp only [evOp]
    rcases x.ev T with _ | v
    · exact ⟨none, fun _ => rfl⟩
    · cases v with
      | slice a n e c =>
        dsimp only [Option.bind_some]
        cases a with
        | none => exact ⟨some _, fun _ => rfl⟩
        | some a => cases c with
          | none => exact ⟨none, fun _ => rfl⟩
          | some c =>
            dsimp only
            by_cases h : c ≤ 9223372036854775807
            · simp only [h, if_true]; exact ⟨some _, fun _ => rfl⟩
            · simp only [h, if_false]; exact ⟨none, fun _ => rfl⟩
      | _ => exact ⟨none, fun _ => rfl⟩
  case stop => exact ⟨none, fun _ => rfl⟩
  all_goals simp [AOp.heavy, AOp.reads] at hh hr
theorem evOp_keeps {op : AOp} {T : Tm} {S S' : St} {v : AV} (hh : op.heavy = false) (he : evOp op T S = some (v, S')) : S' = S := by
  cases hr : op.reads with
  | false =>
    obtain ⟨r, h⟩ := evOp_light (T := T) hh hr
    rw [h] at he
    cases r with
    | none => cases he
    | some r => cases he; rfl
  | true =>
    cases op <;> first
      | (simp [AOp.reads] at hr; done)
      | (simp only [evOp, Option.bind_eq_some_iff] at he; obtain ⟨u, hu, he⟩ := he)
    case load1 x =>
      cases u with
      | ptr p =>
        cases p with
        | none => cases he
        | some p =>
          simp only [Option.bind_eq_some_iff] at he
          obtain ⟨l, hl, he⟩ := he
          cases hb : Nat.ble 1 p.n
          · rw [hb] at he; cases he
          · rw [hb] at he
            simp only [cond_true, Option.map_eq_some_iff, Prod.mk.injEq] at he
            obtain ⟨_, _, _, rfl⟩ := he
            rfl
      | _ => cases he
    case loadN n x =>
      cases u with
      | ptr p =>
        cases p with
        | none => cases he
        | some p =>
          dsimp only at he
          cases hb : Nat.ble n p.n
          · rw [hb] at he; cases he
          · rw [hb] at he
            simp only [cond_true, Option.map_eq_some_iff, Prod.mk.injEq] at he
            obtain ⟨_, _, _, rfl⟩ := he
            rfl
      | _ => cases he
    case cutArr n esz x lo hi =>
      cases u with
      | ptr p =>
        cases p with
        | none => cases he
        | some p =>
          dsimp only at he
          cases hb : Nat.ble (n * esz) p.n
          · rw [hb] at he; cases he
          · rw [hb] at he
            simp only [cond_true, Option.bind_eq_some_iff, Option.map_eq_some_iff, Prod.mk.injEq] at he
            obtain ⟨_, _, _, _, _, _, _, _, _, _, _, rfl⟩ := he
            rfl
      | _ => cases he
    case conv c x =>
      unfold aConv at he
      split at he
      · cases he; rfl
      · cases he; rfl
      · cases he; rfl
      · simp [AOp.heavy] at hh
      · simp [AOp.heavy] at hh
      · cases he; rfl
      · simp only [Option.bind_eq_some_iff, Option.map_eq_some_iff, Prod.mk.injEq] at he
        obtain ⟨_, _, _, _, _, rfl⟩ := he
        rfl
      · cases he; rfl
      · simp only [Option.bind_eq_some_iff, Option.map_eq_some_iff, Prod.mk.injEq] at he
        obtain ⟨_, _, _, _, _, rfl⟩ := he
        rfl
      · simp [AOp.heavy] at hh
      · cases he
theorem calls_heavy {op : AOp} (h : op.heavy = false) : op.calls = false := by cases op <;> first | rfl | (simp [AOp.heavy] at h)
theorem oper_keeps {call : Nat → List AV → St → Option (AV × St)} {o : AOper} {T : Tm} {S S' : St} {v : AV} (hh : o.op.heavy = false) (he : evOper call o T S = some (v, S')) : S' = S := by
  simp only [evOper, Option.bind_eq_some_iff] at he
  obtain ⟨w, hw, he⟩ := he
  cases w with
  | false => cases he; rfl
  | true =>
    simp only [cond_true, evAny, calls_heavy hh, cond_false] at he
    exact evOp_keeps hh he
theorem oper_light {call : Nat → List AV → St → Option (AV × St)} {o : AOper} {T : Tm} {S S' : St} {v : AV} (hh : o.op.heavy = false) (hr : o.op.reads = false) (he : evOper call o T S = some (v, S')) (S2 : St) :
    evOper call o T S2 = some (v, S2) := by
  simp only [evOper, Option.bind_eq_some_iff] at he ⊢
  obtain ⟨w, hw, he⟩ := he
  refine ⟨w, hw, ?_⟩
  cases w with
  | false => cases he; rfl
  | true =>
    simp only [cond_true, evAny, calls_heavy hh, cond_false] at he ⊢
    obtain ⟨r, h⟩ := evOp_light (T := T) hh hr
    rw [h] at he ⊢
    cases r with
    | none => cases he
    | some r => cases he; rfl
theorem eqStr_eq : ∀ {a b : List Nat}, eqStr a b = true → a = b
  | [], [], _ => rfl
  | [], _ :: _, h => by simp [eqStr] at h
  | _ :: _, [], h => by simp [eqStr] at h
  | a :: x, b :: y, h => by
    simp only [eqStr, Bool.and_eq_true, Nat.beq_eq] at h
    rw [h.1, eqStr_eq h.2]
theorem sameA_eq {a b : AV} (h : sameA a b = true) : a = b := by
  unfold sameA at h
  split at h
  · simp only [Bool.and_eq_true, decide_eq_true_eq] at h; rw [h.1, h.2]
  · simp only [beq_iff_eq] at h; rw [h]
  · rw [eqStr_eq h]
  · simp only [decide_eq_true_eq] at h; rw [h]
  · simp only [Bool.and_eq_true, decide_eq_true_eq, Nat.beq_eq] at h; rw [h.1.1.1, h.1.1.2, h.1.2, h.2]
  · rfl
  · rfl
  · rfl
  · cases h
theorem sameL_eq : ∀ {a b : List AV}, sameL a b = true → a = b
  | [], [], _ => rfl
  | [], _ :: _, h => by simp [sameL] at h
  | _ :: _, [], h => by simp [sameL] at h
  | a :: x, b :: y, h => by
    simp only [sameL, Bool.and_eq_true] at h
    rw [sameA_eq h.1, sameL_eq h.2]
theorem sameV_eq {a b : AV} (h : sameV a b = true) : a = b := by
  unfold sameV at h
  split at h
  · rw [sameL_eq h]
  · exact sameA_eq h
theorem again_eq {call : Nat → List AV → St → Option (AV × St)} {o : AOper} {T : Tm} {S : St} {v : AV} (hr : o.op.heavy = false) (h : again o T v S = true) : evOper call o T S = some (v, S) := by
  unfold again at h
  split at h
  · rename_i u S' he
    cases sameV_eq h
    have := oper_keeps hr he
    subst this
    rw [← he]
    simp only [evOper, evAny, calls_heavy hr, cond_false]
  · cases h
/-! ### What is looked at ahead of any run -/
def memN (t : Nat) (l : List Nat) : Bool := l.any fun x => Nat.beq x t
/-- The destination of the one is a temporary that the other names. -/
def hits (x y : AOper) : Bool :=
  match x.dst with
  | none => false
  | some d => memN d y.tmps || (match y.dst with | some e => Nat.beq e d | none => false)
def mask (acc : List Nat) : List Edge → Nat
  | [] => 0
  | e :: r => bif Region.binds .any e then (2 ^ e.on ||| acc.getD e.on 0) ||| mask acc r else mask acc r
def masks : List Oper → List Nat → List Nat
  | [], acc => acc
  | o :: r, acc => masks r (acc ++ [mask acc o.after.toList])
def lows : List Oper → Nat → Bool
  | [], _ => true
  | o :: r, j => (o.after.toList.all fun e => !Region.binds .any e || Nat.blt e.on j) && lows r (j + 1)
def okPair (bs : List Nat) (i j : Nat) (y x : AOper) : Bool := !(hits x y || hits y x || (x.op.heavy && y.op.heavy)) || (bs.getD i 0).testBit j
def okAll (bs : List Nat) (l : List AOper) : Bool :=
  (List.range l.length).all fun i => (List.range i).all fun j => match l[i]?, l[j]? with | some y, some x => okPair bs i j y x | _, _ => false
def plan1 (bs : List Nat) (l : List AOper) (i j : Nat) : Option (Nat × Nat) :=
  match l[j]? with
  | some y => bif y.op.heavy then bif Nat.blt j i then bif (bs.getD i 0).testBit j then none else some (i, j) else bif (bs.getD j 0).testBit i then none else some (i, j + 1) else none
  | none => none
def plan (bs : List Nat) (l : List AOper) : List (Nat × Nat) :=
  (List.range l.length).flatMap fun i => match l[i]? with
    | some x => bif x.op.reads then (List.range l.length).filterMap (plan1 bs l i) else []
    | none => []
def cDraw0 (ops : List Oper) (l : List AOper) : Option Plan :=
  bif lows ops 0 && okAll (masks ops []) l then some (plan (masks ops []) l) else none

theorem memN_of {t : Nat} {l : List Nat} (h : t ∈ l) : memN t l = true := by simp [memN]; exact h
theorem mask_spec {acc : List Nat} {i : Nat} : ∀ {l : List Edge}, (mask acc l).testBit i = true → ∃ e ∈ l, Region.binds .any e = true ∧ (e.on = i ∨ (acc.getD e.on 0).testBit i = true)
  | [], h => by simp [mask] at h
  | e :: r, h => by
    unfold mask at h
    cases hb : Region.binds .any e with
    | false =>
      rw [hb, cond_false] at h
      obtain ⟨x, hx, h1⟩ := mask_spec h
      exact ⟨x, List.mem_cons_of_mem _ hx, h1⟩
    | true =>
      rw [hb, cond_true, Nat.testBit_or, Nat.testBit_or, Nat.testBit_two_pow] at h
      simp only [Bool.or_eq_true, decide_eq_true_eq] at h
      rcases h with (h | h) | h
      · exact ⟨e, List.mem_cons_self .., hb, .inl h⟩
      · exact ⟨e, List.mem_cons_self .., hb, .inr h⟩
      · obtain ⟨x, hx, h1⟩ := mask_spec h
        exact ⟨x, List.mem_cons_of_mem _ hx, h1⟩
theorem masks_spec : ∀ (l : List Oper) (acc : List Nat), (∀ j, j < acc.length → (masks l acc).getD j 0 = acc.getD j 0) ∧
    ∀ k o, l[k]? = some o → ∀ i, ((masks l acc).getD (acc.length + k) 0).testBit i = true → ∃ e ∈ o.after.toList, Region.binds .any e = true ∧ (e.on = i ∨ (e.on < acc.length + k ∧ ((masks l acc).getD e.on 0).testBit i = true)) := by
  intro l
  induction l with
  | nil => intro acc; exact ⟨fun _ _ => rfl, fun k o h => by simp at h⟩
  | cons o r ih =>
    intro acc
    obtain ⟨h1, h2⟩ := ih (acc ++ [mask acc o.after.toList])
    have hlen : (acc ++ [mask acc o.after.toList]).length = acc.length + 1 := by simp
    rw [hlen] at h1 h2
    have hold : ∀ j, j < acc.length → (masks (o :: r) acc).getD j 0 = acc.getD j 0 := by
      intro j hj
      simp only [masks]
      rw [h1 j (by omega)]
      simp [List.getElem?_append_left hj]
    refine ⟨hold, ?_⟩
    intro k o' hk i hi
    cases k with
    | zero =>
      simp only [List.getElem?_cons_zero, Option.some.injEq] at hk
      subst hk
      simp only [Nat.add_zero, masks] at hi ⊢
      rw [h1 acc.length (by omega)] at hi
      have : (acc ++ [mask acc o.after.toList]).getD acc.length 0 = mask acc o.after.toList := by simp
      rw [this] at hi
      obtain ⟨e, he, hb, h⟩ := mask_spec hi
      refine ⟨e, he, hb, h.imp id fun h => ?_⟩
      have hlt : e.on < acc.length := by
        rcases Nat.lt_or_ge e.on acc.length with h' | h'
        · exact h'
        · simp [List.getD, List.getElem?_eq_none h'] at h
      exact ⟨hlt, by have := hold e.on hlt; simp only [masks] at this; rw [this]; exact h⟩
    | succ k =>
      simp only [List.getElem?_cons_succ] at hk
      have e1 : acc.length + (k + 1) = acc.length + 1 + k := by omega
      rw [e1] at hi ⊢
      exact h2 k o' hk i hi
theorem lows_spec : ∀ {l : List Oper} {j : Nat}, lows l j = true → ∀ k o, l[k]? = some o → ∀ e ∈ o.after, Region.binds .any e = true → e.on < j + k
  | [], _, _, k, o, hk, _, _, _ => by simp at hk
  | o :: r, j, h, k, o', hk, e, he, hb => by
    simp only [lows, Bool.and_eq_true, List.all_eq_true] at h
    cases k with
    | zero =>
      simp only [List.getElem?_cons_zero, Option.some.injEq] at hk
      subst hk
      have := h.1 e (Array.mem_toList_iff.2 he)
      rw [hb] at this
      simpa [Nat.blt_eq] using this
    | succ k =>
      simp only [List.getElem?_cons_succ] at hk
      have := lows_spec h.2 k o' hk e he hb
      omega
theorem okAll_spec {bs : List Nat} {l : List AOper} (h : okAll bs l = true) {i j : Nat} {y x : AOper} (hij : j < i) (hi : l[i]? = some y) (hj : l[j]? = some x) : okPair bs i j y x = true := by
  have hlt : i < l.length := (List.getElem?_eq_some_iff.1 hi).1
  simp only [okAll, List.all_eq_true, List.mem_range] at h
  have := h i hlt j hij
  rw [hi, hj] at this
  exact this
theorem plan_spec {bs : List Nat} {l : List AOper} {i j : Nat} {x : AOper} {p : Nat × Nat} (hi : l[i]? = some x) (hr : x.op.reads = true) (hj : j < l.length) (hp : plan1 bs l i j = some p) : p ∈ plan bs l := by
  have hlt : i < l.length := (List.getElem?_eq_some_iff.1 hi).1
  simp only [plan, List.mem_flatMap, List.mem_range]
  refine ⟨i, hlt, ?_⟩
  rw [hi]
  simp only [hr, cond_true, List.mem_filterMap, List.mem_range]
  exact ⟨j, hj, hp⟩
theorem reads_birth {op : AOp} (h : op.reads = true) : op.birth = false := by
  cases op <;> first | rfl | (simp [AOp.reads] at h; done)
theorem reads_light {op : AOp} (h : op.reads = true) : op.heavy = false := by
  cases op <;> first | rfl | (simp [AOp.reads] at h; done) | skip
  case conv c x => cases c <;> first | rfl | (simp [AOp.reads] at h; done)

/-! ### The text's order -/
abbrev Tr4 := List (AOper × Tm × St × AV)
def tmAt (l : Tr4) (T : Tm) (j : Nat) : Tm := match l[j]? with | some e => e.2.1 | none => T
def vAt (l : Tr4) (j : Nat) : AV := match l[j]? with | some e => e.2.2.2 | none => AV.undef
theorem trace_spec {call : Nat → List AV → St → Option (AV × St)} : ∀ {l : List AOper} {T T' : Tm} {S S' : St} {tr : Tr4}, trace call l T S = some (tr, T', S') →
    tr.length = l.length ∧ tmAt tr T' 0 = T ∧ stAt tr S' 0 = S ∧
    ∀ i o, l[i]? = some o → evOper call o (tmAt tr T' i) (stAt tr S' i) = some (vAt tr i, stAt tr S' (i + 1)) ∧ tmAt tr T' (i + 1) = putD (tmAt tr T' i) o.dst (vAt tr i) ∧
      tr[i]? = some (o, tmAt tr T' i, stAt tr S' i, vAt tr i)
  | [], T, T', S, S', tr, h => by cases h; exact ⟨rfl, rfl, rfl, fun i o hi => by simp at hi⟩
  | o :: r, T, T', S, S', tr, h => by
    simp only [trace, Option.bind_eq_some_iff, Option.map_eq_some_iff] at h
    obtain ⟨⟨v, S1⟩, hv, ⟨tr', T1, S2⟩, ht, he⟩ := h
    cases he
    obtain ⟨h1, h2, h3, h4⟩ := trace_spec ht
    refine ⟨by simp [h1], rfl, rfl, fun i o' hi => ?_⟩
    cases i with
    | zero =>
      simp only [List.getElem?_cons_zero, Option.some.injEq] at hi
      subst hi
      have e1 : stAt ((o, T, S, v) :: tr') S' 1 = stAt tr' S' 0 := rfl
      have e2 : tmAt ((o, T, S, v) :: tr') T' 1 = tmAt tr' T' 0 := rfl
      refine ⟨?_, ?_, rfl⟩
      · rw [show stAt ((o, T, S, v) :: tr') S' (0 + 1) = stAt tr' S' 0 from rfl, h3]; exact hv
      · rw [show tmAt ((o, T, S, v) :: tr') T' (0 + 1) = tmAt tr' T' 0 from rfl, h2]; rfl
    | succ i =>
      simp only [List.getElem?_cons_succ] at hi
      exact h4 i o' hi
def TL (l : List AOper) (vs : Nat → AV) (L : Nat → Bool) (T : Tm) : Nat → Tm
  | 0 => T
  | k + 1 => bif L k then putD (TL l vs L T k) ((l[k]?).bind (·.dst)) (vs k) else TL l vs L T k
theorem putD_get {T : Tm} {d : Option Nat} {v : AV} {t : Nat} (h : d ≠ some t) : (putD T d v).get t = T.get t := by
  cases d with
  | none => rfl
  | some d => simp only [putD, Tr.get_set]; rw [if_neg (fun e => h (by rw [e]))]
theorem TL_congr {l : List AOper} {vs : Nat → AV} {L L' : Nat → Bool} {T : Tm} {t : Nat} : ∀ {k : Nat}, (∀ i, i < k → (l[i]?).bind (·.dst) = some t → L i = L' i) → (TL l vs L T k).get t = (TL l vs L' T k).get t
  | 0, _ => rfl
  | k + 1, h => by
    have ih := TL_congr (l := l) (vs := vs) (T := T) (k := k) fun i hi => h i (by omega)
    simp only [TL]
    by_cases hd : (l[k]?).bind (·.dst) = some t
    · rw [h k (by omega) hd]
      cases L' k with
      | false => exact ih
      | true =>
        simp only [cond_true, hd, putD, Tr.get_set, if_true]
    · cases L k <;> cases L' k <;> simp only [cond_true, cond_false, putD_get hd] <;> exact ih
theorem TL_prefix {call : Nat → List AV → St → Option (AV × St)} {l : List AOper} {T T' : Tm} {S S' : St} {tr : Tr4} (h : trace call l T S = some (tr, T', S')) (j : Nat) :
    ∀ k, k ≤ l.length → TL l (vAt tr) (fun x => Nat.blt x j) T k = tmAt tr T' (min k j) := by
  obtain ⟨h1, h2, h3, h4⟩ := trace_spec h
  intro k
  induction k with
  | zero => intro _; simp only [TL, Nat.zero_min]; exact h2.symm
  | succ k ih =>
    intro hk
    simp only [TL, ih (by omega)]
    by_cases hkj : k < j
    · rw [show Nat.blt k j = true from by simpa [Nat.blt_eq] using hkj, cond_true, show min k j = k by omega, show min (k + 1) j = k + 1 by omega]
      have hg : l[k]? = some l[k] := List.getElem?_eq_getElem (by omega)
      rw [(h4 k _ hg).2.1, hg]
      rfl
    · rw [show Nat.blt k j = false from by (cases hb : Nat.blt k j with | false => rfl | true => exact absurd (by simpa [Nat.blt_eq] using hb) hkj), cond_false, show min k j = j by omega, show min (k + 1) j = j by omega]
/-- The state of no object. -/
def S0 : St := ⟨0, .lf⟩
def ρ0 : Rho := fun _ _ => none
theorem sim0 (w : World) : Sim w.heap.size w ρ0 S0 w where
  below := ⟨rfl, rfl, rfl, Nat.le_refl _, fun _ _ => rfl⟩
  base := Nat.le_refl _
  fresh o u L e := by cases e
  dom o x e := by cases e
  heap o u L e := by cases e
  obj o x e := by cases e
  apart o u L o' u' L' e := by cases e
  gh g x e := by cases e
mutual
theorem VR.any {ρ ρ' : Rho} : ∀ {a : AV} {v : Value}, a.pure = true → VR ρ a v → VR ρ' a v
  | _, _, _, .int h => .int h
  | _, _, _, .bool => .bool
  | _, _, _, .float => .float
  | _, _, _, .str h => .str h
  | _, _, _, .ptrNil => .ptrNil
  | _, _, hp, .ptr hL h0 h1 ha => by simp [AV.pure] at hp
  | _, _, _, .sliceNil => .sliceNil
  | _, _, hp, .slice hL h0 h1 h2 h3 h4 ha => by simp [AV.pure] at hp
  | _, _, hp, .func h => .func (VRs.any (by simpa [AV.pure] using hp) h)
  | _, _, _, .nilFunc => .nilFunc
  | _, _, hp, .iface h => .iface (VR.any (by simpa [AV.pure] using hp) h)
  | _, _, _, .nilIface => .nilIface
  | _, _, hp, .agg h h' => .agg (VRs.any (by simpa [AV.pure] using hp) h) h'
  | _, _, hp, .tuple h => .tuple (VRs.any (by simpa [AV.pure] using hp) h)
theorem VRs.any {ρ ρ' : Rho} : ∀ {l : List AV} {cs : List Value}, AV.pures l = true → VRs ρ l cs → VRs ρ' l cs
  | _, _, _, .nil => .nil
  | _, _, hp, .cons h t => by
    simp only [AV.pures, Bool.and_eq_true] at hp
    exact .cons (VR.any hp.1 h) (VRs.any hp.2 t)
end
/-- The same new place, of another number. -/
def reN (n : Nat) : AV → AV
  | .ptr (some p) => .ptr (some ⟨n, p.v, p.i, p.n⟩)
  | .slice (some (_, v, i)) len e c => .slice (some (n, v, i)) len e c
  | v => v
theorem birth_heavy {op : AOp} (h : op.birth = true) : op.heavy = true := by cases op <;> first | rfl | (simp [AOp.birth] at h)
theorem birth_ev {call : Nat → List AV → St → Option (AV × St)} {o : AOper} (hb : o.op.birth = true) (hg : o.guard = none) {T : Tm} {S S' : St} {v : AV} (he : evOper call o T S = some (v, S')) :
    ∃ x, S' = S.alloc (.cells x 0 0 true) ∧ (v = .ptr (some ⟨S.next, 0, 0, x.length⟩) ∨ ∃ len e, v = .slice (some (S.next, 0, 0)) len e none) ∧
      ∀ (call' : Nat → List AV → St → Option (AV × St)) (S2 : St), evOper call' o T S2 = some (reN S2.next v, S2.alloc (.cells x 0 0 true)) := by
  obtain ⟨dst, guard, op⟩ := o
  simp only at hg hb
  subst hg
  cases op <;> simp only [AOp.birth, Bool.false_eq_true] at hb
  case alloc z =>
    simp only [evOper, wanted, Option.bind_some, cond_true, evAny, AOp.calls, cond_false, evOp, Option.some.injEq, Prod.mk.injEq, newVar] at he ⊢
    obtain ⟨rfl, rfl⟩ := he
    exact ⟨z, rfl, .inl rfl, fun _ _ => ⟨rfl, rfl⟩⟩
  case buildSlice esz z len parts =>
    simp only [evOper, wanted, Option.bind_some, cond_true, evAny, AOp.calls, cond_false, evOp, Option.bind_eq_some_iff, Option.map_eq_some_iff] at he ⊢
    obtain ⟨ps, h1, cs, h2, h3⟩ := he
    simp only [newSl, Prod.mk.injEq] at h3
    obtain ⟨rfl, rfl⟩ := h3
    exact ⟨cs, rfl, .inr ⟨_, _, rfl⟩, fun _ _ => ⟨ps, h1, cs, h2, rfl⟩⟩
  case mkSlice esz bytes z len cap =>
    simp only [evOper, wanted, Option.bind_some, cond_true, evAny, AOp.calls, cond_false, evOp, Option.bind_eq_some_iff] at he ⊢
    obtain ⟨lv, h1, h2⟩ := he
    split at h2
    · rename_i l
      simp only [Option.bind_eq_some_iff] at h2
      obtain ⟨cv, h3, h4⟩ := h2
      split at h4
      · rename_i c
        split at h4
        · rename_i hc
          simp only [Option.some.injEq, newSl, Prod.mk.injEq] at h4
          obtain ⟨rfl, rfl⟩ := h4
          refine ⟨_, rfl, .inr ⟨_, _, rfl⟩, fun _ S2 => ⟨_, h1, ?_⟩⟩
          simp only [Option.bind_eq_some_iff]
          refine ⟨_, h3, ?_⟩
          simp only [if_pos hc, newSl]
          rfl
        · cases h4
      · cases h4
    · cases h2
/-- A block that lies ready for an object of cells x; c is what stands for it. -/
structure Gho (x : List AV) (L : Loc) (ob : Obj) (v : AV) (c : Value) : Prop where
  ext : L.ext = x.length
  room : L.ext ≤ L.start + L.room
  mem : ∃ cs e fz, ob = .cells cs e fz ∧ L.boff + L.room ≤ cs.size ∧ (∀ i, L.start ≤ i → i < L.ext → ∃ a u, x[i]? = some a ∧ cs[L.at i]? = some u ∧ ∀ ρ : Rho, VR ρ a u) ∧ Fz fz cs.size
  atoms : x.all AV.atom = true
  val : ∀ (ρ : Rho) (N : Nat), ρ N 0 = some L → VR ρ (reN N v) c
theorem pures_get : ∀ {l : List AV} {i : Nat} {a : AV}, AV.pures l = true → l[i]? = some a → a.pure = true
  | [], _, _, _, h => by simp at h
  | v :: r, 0, a, hp, h => by
    simp only [AV.pures, Bool.and_eq_true] at hp
    simp only [List.getElem?_cons_zero, Option.some.injEq] at h
    subst h; exact hp.1
  | v :: r, i + 1, a, hp, h => by
    simp only [AV.pures, Bool.and_eq_true] at hp
    simp only [List.getElem?_cons_succ] at h
    exact pures_get hp.2 h
theorem Gho.of_sim {B : Nat} {b0 : Base} {ρ : Rho} {w2 : World} {x : List AV} {v : AV} {c : Value} (hp : AV.pures x = true) (hS : Sim B b0 ρ (S0.alloc (.cells x 0 0 true)) w2)
    (hv : v = .ptr (some ⟨0, 0, 0, x.length⟩) ∨ ∃ len e, v = .slice (some (0, 0, 0)) len e none) (hc : VR ρ v c) : ∃ L ob, w2.heap[L.blk]? = some ob ∧ B ≤ L.blk ∧ Gho x L ob v c := by
  have hobj : CellsAt B ρ w2 0 x 0 0 true := hS.obj 0 (.cells x 0 0 true) (by rw [St.get_alloc]; rfl)
  have key : ∀ L, ρ 0 0 = some L → (∀ (ρ' : Rho) (N : Nat), ρ' N 0 = some L → VR ρ' (reN N v) c) → ∃ L ob, w2.heap[L.blk]? = some ob ∧ B ≤ L.blk ∧ Gho x L ob v c := by
    intro L hL hval
    obtain ⟨h1, h2, cs, e, fz, h3, h4, h5, h6⟩ := hobj.mem 0 L hL (Nat.le_refl _)
    refine ⟨L, _, h3, by have := hobj.side 0 L hL; simpa using this, hobj.last L hL, h2, ⟨cs, e, fz, rfl, h4, fun i hi hi' => ?_, h6 rfl⟩, hobj.atoms, hval⟩
    obtain ⟨a, u, ha, hu, hvr⟩ := h5 i hi hi'
    exact ⟨a, u, ha, hu, fun ρ' => VR.any (pures_get hp ha) hvr⟩
  rcases hv with rfl | ⟨len, e, rfl⟩
  · cases hc with
    | ptr hL h0 h1 ha => exact key _ hL fun ρ' N hN => .ptr (p := ⟨N, 0, 0, x.length⟩) hN h0 h1 ha
  · cases hc with
    | slice hL h0 h1 h2 h3 h4 ha => exact key _ hL fun ρ' N hN => .slice hN h0 h1 h2 h3 h4 ha
section
variable {B : Nat} {b0 : Base} {ρ : Rho} {S : St} {w w2 : World}
def Base.lay (b0 : Base) (g : Nat) (ob : Obj) : Base := ⟨b0.w, fun b => if b = g then some ob else b0.G b⟩
theorem Sim.lay (h : Sim B b0 ρ S w) (hb : Below w.heap.size w w2) {g : Nat} {ob : Obj} (hg : w.heap.size ≤ g) (ho : w2.heap[g]? = some ob) : Sim B (b0.lay g ob) ρ S w2 ∧ b0.G g = none := by
  have h2 := h.world hb
  refine ⟨⟨h2.below, h2.base, h2.fresh, h2.dom, h2.heap, h2.obj, h2.apart, fun b y hy => ?_⟩, ?_⟩
  · by_cases hbg : b = g
    · subst hbg
      have hy' : ob = y := by simpa [Base.lay] using hy
      subst hy'
      exact ⟨ho, Nat.le_trans h.base hg, fun o u L e => by have := h.heap o u L e; omega⟩
    · have hy' : b0.G b = some y := by simpa [Base.lay, hbg] using hy
      exact h2.gh b y hy'
  · cases hq : b0.G g with
    | none => rfl
    | some y =>
      have := (h.gh g y hq).1
      rw [Array.getElem?_eq_none hg] at this
      cases this
theorem Sim.adopt {x : List AV} {L : Loc} {ob : Obj} {v : AV} {c : Value} (h : Sim B (b0.lay L.blk ob) ρ S w) (hfree : b0.G L.blk = none) (G : Gho x L ob v c) :
    ∃ ρ', ρ.le ρ' ∧ ρ' S.next 0 = some L ∧ Sim B b0 ρ' (S.alloc (.cells x 0 0 true)) w := by
  have hnone : ∀ u, ρ S.next u = none := fun u => by
    cases hq : ρ S.next u with
    | none => rfl
    | some L => exact absurd (h.fresh _ _ _ hq) (Nat.lt_irrefl _)
  obtain ⟨g1, g2, g3⟩ := h.gh L.blk ob (by simp [Base.lay])
  have hlt : L.blk < w.heap.size := by
    rcases Nat.lt_or_ge L.blk w.heap.size with h' | h'
    · exact h'
    · rw [Array.getElem?_eq_none h'] at g1; cases g1
  have hle : ρ.le (fun o u => if o = S.next ∧ u = 0 then some L else ρ o u) := by
    intro o u L' e'
    by_cases ho : o = S.next ∧ u = 0
    · rw [ho.1, hnone] at e'; cases e'
    · simp only [if_neg ho]; exact e'
  have only : ∀ u L', (if S.next = S.next ∧ u = 0 then some L else ρ S.next u) = some L' → u = 0 ∧ L' = L := by
    intro u L' e'
    by_cases hu : u = 0
    · simp [hu] at e'; exact ⟨hu, e'.symm⟩
    · rw [if_neg (fun k => hu k.2), hnone] at e'; cases e'
  refine ⟨fun o u => if o = S.next ∧ u = 0 then some L else ρ o u, hle, by simp, ?_⟩
  refine ⟨h.below, h.base, ?_, ?_, ?_, ?_, ?_, ?_⟩
  · intro o u L' eL
    by_cases ho : o = S.next
    · subst ho; simp [St.alloc]
    · have eL' : ρ o u = some L' := by simpa [ho] using eL
      exact Nat.lt_of_lt_of_le (h.fresh o u L' eL') (by simp [St.alloc])
  · intro o y eo
    rw [St.get_alloc] at eo
    by_cases ho : o = S.next
    · subst ho; simp [St.alloc]
    · rw [if_neg ho] at eo; exact Nat.lt_of_lt_of_le (h.dom o y eo) (by simp [St.alloc])
  · intro o u L' eL
    by_cases ho : o = S.next
    · subst ho; obtain ⟨_, rfl⟩ := only u L' eL; exact hlt
    · have eL' : ρ o u = some L' := by simpa [ho] using eL
      exact h.heap o u L' eL'
  · intro o y eo
    rw [St.get_alloc] at eo
    by_cases ho : o = S.next
    · rw [if_pos ho] at eo
      cases eo
      subst ho
      obtain ⟨cs, e, fz, hob, hm1, hm2, hm3⟩ := G.mem
      refine (show CellsAt B _ w S.next x 0 0 true from ⟨?_, ?_, ?_, ?_, ?_, G.atoms⟩)
      · intro u L' eL; obtain ⟨rfl, _⟩ := only u L' eL; exact Nat.le_refl _
      · intro L' eL; obtain ⟨_, rfl⟩ := only 0 L' eL; exact G.ext
      · intro u L' eL _
        obtain ⟨_, rfl⟩ := only u L' eL
        refine ⟨by rw [G.ext]; exact Nat.le_refl _, G.room, cs, e, fz, by rw [g1, hob], hm1, fun i hi hi' => ?_, fun _ => hm3⟩
        obtain ⟨a, u', ha, hu, hvr⟩ := hm2 i hi hi'
        exact ⟨a, u', ha, hu, hvr _⟩
      · intro u L' eL; obtain ⟨_, rfl⟩ := only u L' eL; simpa using g2
      · intro u L1 u' L2 eL eL'; obtain ⟨_, rfl⟩ := only u L1 eL; obtain ⟨_, rfl⟩ := only u' L2 eL'; exact fun _ => ⟨rfl, rfl⟩
    · rw [if_neg ho] at eo
      have hobj := h.obj o y eo
      have hρ : ∀ u, (if o = S.next ∧ u = 0 then some L else ρ o u) = ρ o u := fun u => if_neg fun k => ho k.1
      cases y with
      | cells c ver minv own =>
        have hc : CellsAt B ρ w o c ver minv own := hobj
        refine (show CellsAt B _ w o c ver minv own from ⟨?_, ?_, ?_, ?_, ?_, hc.atoms⟩)
        · intro u L eL; rw [hρ u] at eL; exact hc.vers u L eL
        · intro L eL; rw [hρ ver] at eL; exact hc.last L eL
        · intro u L eL hm
          rw [hρ u] at eL
          obtain ⟨h1, h2, cs', e', fz', h3, h4, h5, h6⟩ := hc.mem u L eL hm
          refine ⟨h1, h2, cs', e', fz', h3, h4, fun i hi hi' => ?_, h6⟩
          obtain ⟨a, v, ha', hv', hvr⟩ := h5 i hi hi'
          exact ⟨a, v, ha', hv', VR.mono hle hvr⟩
        · intro u L eL; rw [hρ u] at eL; exact hc.side u L eL
        · intro u L u' L' eL eL'; rw [hρ u] at eL; rw [hρ u'] at eL'; exact hc.align u L u' L' eL eL'
      | fork c ver minv g => exact (show ForkAt B _ w o c ver minv g from ForkAt.mono hobj hρ hle (fun _ _ _ => rfl))
      | map kk kv l c => exact (show MapAt B _ w o kk kv l c from MapAt.mono hobj hρ (fun _ _ _ => rfl))
      | iter s pos =>
        have hc : IterAt B ρ w o s pos := hobj
        refine (show IterAt B _ w o s pos from ⟨?_, ?_, ?_⟩)
        · intro u L eL; rw [hρ u] at eL; exact hc.side u L eL
        · intro u L eL; rw [hρ u] at eL; exact hc.mem u L eL
        · intro u L u' L' eL eL'; rw [hρ u] at eL; rw [hρ u'] at eL'; exact hc.uniq u L u' L' eL eL'
  · intro o u L1 o' u' L2 eL eL' hne hB heq
    by_cases ho : o = S.next
    · subst ho
      obtain ⟨_, rfl⟩ := only u L1 eL
      have e2 : ρ o' u' = some L2 := by simpa [Ne.symm hne] using eL'
      exact g3 o' u' L2 e2 heq.symm
    · have e1 : ρ o u = some L1 := by simpa [ho] using eL
      by_cases ho' : o' = S.next
      · subst ho'
        obtain ⟨_, rfl⟩ := only u' L2 eL'
        exact g3 o u L1 e1 heq
      · have e2 : ρ o' u' = some L2 := by simpa [ho'] using eL'
        exact h.apart o u L1 o' u' L2 e1 e2 hne hB heq
  · intro g y hg
    have hne : g ≠ L.blk := fun e => by rw [e, hfree] at hg; cases hg
    obtain ⟨k1, k2, k3⟩ := h.gh g y (by simpa [Base.lay, hne] using hg)
    refine ⟨k1, k2, fun o u L' e => ?_⟩
    by_cases ho : o = S.next
    · subst ho
      obtain ⟨_, rfl⟩ := only u L' e
      exact Ne.symm hne
    · have eL' : ρ o u = some L' := by simpa [ho] using e
      exact k3 o u L' eL'
end
/-- How a frame and a world stand to temporaries and a state. -/
structure Rel (B : Nat) (w0 : Base) (n : Nat) (ρ : Rho) (T : Tm) (S : St) (a : Act) (w : World) : Prop where
  tr : TR ρ T a.tmps
  sz : n ≤ a.tmps.size
  df : a.defers = []
  sim : Sim B w0 ρ S w
theorem cOps_spec {P : Program} {n : Nat} {ops : Array Oper} : ∀ {l : List Oper} {al : List AOper}, cOps P n ops l = some al → al.length = l.length ∧ ∀ (i : Nat) o, l[i]? = some o → ∃ ao, al[i]? = some ao ∧ cOper P n ops o = some ao
  | [], al, h => by cases h; exact ⟨rfl, fun i o h => by simp at h⟩
  | o :: r, al, h => by
    simp only [cOps, Option.bind_eq_some_iff, Option.map_eq_some_iff] at h
    obtain ⟨x, hx, r', hr, rfl⟩ := h
    obtain ⟨h1, h2⟩ := cOps_spec hr
    refine ⟨by simp [h1], fun i o' hi => ?_⟩
    cases i with
    | zero => simp only [List.getElem?_cons_zero, Option.some.injEq] at hi; subst hi; exact ⟨x, rfl, hx⟩
    | succ i => exact h2 i o' (by simpa using hi)
section
variable {P : Program} {B : Nat} {w0 : Base} {n : Nat} {T T' : Tm} {S S' : St} {call : Nat → List AV → St → Option (AV × St)} {ops : Array Oper} {al : List AOper} {pl : Plan}
theorem draw_sound0 (hcall : CallOk P call) (hm : P.follows .mixedOrders = true) (hc : cOps P n ops ops.toList = some al) (hd : cDraw0 ops.toList al = some pl) (he : evDraw call al pl T S = some (T', S'))
    {ρ : Rho} {a : Act} {w : World} (h : Rel B w0 n ρ T S a w) {Q : Exit → Act → World → Prop} (hQ : ∀ ρ' a' w', ρ.le ρ' → Rel B w0 n ρ' T' S' a' w' → Q .normal a' w') (id : Nat) : (Code.region id ops true).wp P Q a w := by
  -- what is known ahead
  obtain ⟨hlen, hops⟩ := cOps_spec hc
  have hN : al.length = ops.size := by rw [hlen]; simp
  simp only [cDraw0] at hd
  cases hck : lows ops.toList 0 && okAll (masks ops.toList []) al with
  | false => rw [hck] at hd; cases hd
  | true =>
  rw [hck, cond_true] at hd
  cases hd
  simp only [Bool.and_eq_true] at hck
  obtain ⟨hlow, hok⟩ := hck
  generalize hbs : masks ops.toList [] = bs at *
  have hmask := (masks_spec ops.toList []).2
  rw [hbs] at hmask
  simp only [List.length_nil, Nat.zero_add] at hmask
  have hlow' : ∀ (k : Nat) o, ops[k]? = some o → ∀ e ∈ o.after, Region.binds .any e = true → e.on < k := fun k o hk e he hb => by
    have := lows_spec hlow k o (by simpa using hk) e he hb; omega
  simp only [evDraw, Option.bind_eq_some_iff] at he
  obtain ⟨⟨tr, Tn, Sn⟩, htr, he⟩ := he
  dsimp only at he
  cases hall : (plan bs al).all (chk tr Sn) with
  | false => rw [hall] at he; cases he
  | true =>
  rw [hall, cond_true] at he
  cases he
  obtain ⟨t1, t2, t3, t4⟩ := trace_spec htr
  simp only [List.all_eq_true] at hall
  have hag : ∀ (i j : Nat) x p, al[i]? = some x → x.op.reads = true → j < al.length → plan1 bs al i j = some p → p.1 = i → evOper call x (tmAt tr T' i) (stAt tr S' p.2) = some (vAt tr i, stAt tr S' p.2) := by
    intro i j x p hi hr hj hp hpi
    have := hall p (plan_spec hi hr hj hp)
    simp only [chk] at this
    rw [hpi, (t4 i x hi).2.2] at this
    simp only [reads_birth hr, cond_false] at this
    exact again_eq (reads_light hr) this
  have hsat : ∀ i x, al[i]? = some x → x.op.heavy = false → stAt tr S' (i + 1) = stAt tr S' i := fun i x hi hh => oper_keeps hh (t4 i x hi).1
  -- an order
  refine wp_region_any hm ?_
  have key : ∀ (fuel : Nat) (listed : Array Bool) (ρ1 : Rho) (a1 : Act) (w1 : World) (p : Nat), ρ.le ρ1 → listed.size = ops.size → listed.toList.count false ≤ fuel →
      (∀ j o, listed.getD j false = true → ops[j]? = some o → ∀ e ∈ o.after, Region.binds .any e = true → listed.getD e.on false = true) →
      TR ρ1 (TL al (vAt tr) (fun i => listed.getD i false) T ops.size) a1.tmps → n ≤ a1.tmps.size → a1.defers = [] → Sim B w0 ρ1 (stAt tr S' p) w1 → p ≤ ops.size →
      (∀ i x, al[i]? = some x → x.op.heavy = true → (listed.getD i false = true ↔ i < p)) → wpAny P .any ops Q fuel listed a1 w1 := by
    -- what is known of a set of listed operations
    have bef : ∀ (listed : Array Bool), (∀ j o, listed.getD j false = true → ops[j]? = some o → ∀ e ∈ o.after, Region.binds .any e = true → listed.getD e.on false = true) →
        ∀ j o i, ops[j]? = some o → (∀ e ∈ o.after, Region.binds .any e = true → listed.getD e.on false = true) → (bs.getD j 0).testBit i = true → listed.getD i false = true := by
      intro listed hcl j
      induction j using Nat.strongRecOn with
      | ind j ih =>
        intro o i hj hready hbit
        obtain ⟨e, he, hb, hor⟩ := hmask j o (by simpa using hj) i hbit
        have he' : e ∈ o.after := Array.mem_toList_iff.1 he
        rcases hor with rfl | ⟨hlt, hbit'⟩
        · exact hready e he' hb
        · have hsz : e.on < ops.size := by have := (Array.getElem?_eq_some_iff.1 hj).1; omega
          exact ih e.on hlt _ i (Array.getElem?_eq_getElem hsz) (hcl e.on _ (hready e he' hb) (Array.getElem?_eq_getElem hsz)) hbit'
    have full : ∀ (listed : Array Bool), listed.size = ops.size → Region.ready .any ops listed = [] → ∀ i, i < ops.size → listed.getD i false = true := by
      intro listed hsz hr i
      induction i using Nat.strongRecOn with
      | ind i ih =>
        intro hi
        cases hl : listed.getD i false with
        | true => rfl
        | false =>
          exfalso
          have : i ∈ Region.ready .any ops listed := mem_ready.2 ⟨by
            have hlt : i < listed.size := by omega
            simpa [hlt] using hl, ops[i], Array.getElem?_eq_getElem hi, fun e he hb => by
              have hlt := hlow' i _ (Array.getElem?_eq_getElem hi) e he hb
              exact ih e.on hlt (by omega)⟩
          rw [hr] at this
          cases this
    have done : ∀ (listed : Array Bool) (ρ1 : Rho) (a1 : Act) (w1 : World) (p : Nat), ρ.le ρ1 → listed.size = ops.size → Region.ready .any ops listed = [] →
        TR ρ1 (TL al (vAt tr) (fun i => listed.getD i false) T ops.size) a1.tmps → n ≤ a1.tmps.size → a1.defers = [] → Sim B w0 ρ1 (stAt tr S' p) w1 → p ≤ ops.size →
        (∀ i x, al[i]? = some x → x.op.heavy = true → (listed.getD i false = true ↔ i < p)) → Q .normal a1 w1 := by
      intro listed ρ1 a1 w1 p hle hsz hr hT hn hdf hS hp hheavy
      have hf := full listed hsz hr
      refine hQ ρ1 a1 w1 hle ⟨?_, hn, hdf, ?_⟩
      · intro t v hv
        refine hT t v ?_
        rw [← hv, TL_congr (L' := fun x => Nat.blt x ops.size) (fun i hi _ => by
          show listed.getD i false = Nat.blt i ops.size
          rw [hf i hi]; exact (by simpa [Nat.blt_eq] using hi : Nat.blt i ops.size = true).symm), TL_prefix htr ops.size ops.size (by omega)]
        have : tmAt tr T' (min ops.size ops.size) = T' := by
          unfold tmAt
          rw [List.getElem?_eq_none (by omega)]
        rw [this]
      · have hend : ∀ d, p + d ≤ ops.size → stAt tr S' (p + d) = stAt tr S' p := by
          intro d
          induction d with
          | zero => intro _; rfl
          | succ d ih =>
            intro hd
            rw [← ih (by omega), ← Nat.add_assoc]
            have hg : al[p + d]? = some al[p + d] := List.getElem?_eq_getElem (by omega)
            refine hsat (p + d) _ hg ?_
            cases hh : (al[p + d]).op.heavy with
            | false => rfl
            | true => have := (hheavy (p + d) _ hg hh).1 (hf (p + d) (by omega)); omega
        have h1 := hend (ops.size - p) (by omega)
        have h2 : stAt tr S' (p + (ops.size - p)) = S' := by
          unfold stAt
          rw [List.getElem?_eq_none (by omega)]
        rw [← h1, h2] at hS
        exact hS
    intro fuel
    induction fuel with
    | zero =>
      intro listed ρ1 a1 w1 p hle hsz hcnt hcl hT hn hdf hS hp hheavy
      have hr : Region.ready .any ops listed = [] := by
        apply List.eq_nil_iff_forall_not_mem.2
        intro i hi
        obtain ⟨h0, _⟩ := mem_ready.1 hi
        have hlt : i < listed.size := by
          rcases Nat.lt_or_ge i listed.size with h' | h'
          · exact h'
          · simp [Array.getElem?_eq_none h'] at h0
        have : false ∈ listed.toList := by
          have : listed[i] = false := by simpa [hlt] using h0
          rw [← this]; exact Array.mem_toList_iff.2 (Array.getElem_mem hlt)
        have := List.count_pos_iff.2 this
        omega
      exact ⟨hr, done listed ρ1 a1 w1 p hle hsz hr hT hn hdf hS hp hheavy⟩
    | succ fuel ih =>
      intro listed ρ1 a1 w1 p hle hsz hcnt hcl hT hn hdf hS hp hheavy
      refine ⟨fun hr => done listed ρ1 a1 w1 p hle hsz hr hT hn hdf hS hp hheavy, fun i hi => ?_⟩
      obtain ⟨h0, o, ho, hready⟩ := mem_ready.1 hi
      have hi' : i < ops.size := (Array.getElem?_eq_some_iff.1 ho).1
      have hil : i < listed.size := by omega
      have hun : listed.getD i false = false := by simpa [hil] using h0
      obtain ⟨ao, hao, hcao⟩ := hops i o (by simpa using ho)
      obtain ⟨hdst, hdn⟩ := cOper_dst hcao
      have hbef : ∀ j, (bs.getD i 0).testBit j = true → listed.getD j false = true := fun j hj => bef listed hcl i o j ho hready hj
      have haft : ∀ j, (bs.getD j 0).testBit i = true → j < ops.size → listed.getD j false = false := by
        intro j hj hjs
        cases hl : listed.getD j false with
        | false => rfl
        | true =>
          have := bef listed hcl j _ i (Array.getElem?_eq_getElem hjs) (hcl j _ hl (Array.getElem?_eq_getElem hjs)) hj
          rw [hun] at this; cases this
      -- writers of what it names
      have writers : ∀ t, (t ∈ ao.tmps ∨ ao.dst = some t) → ∀ j, j < ops.size → j ≠ i → (al[j]?).bind (·.dst) = some t → listed.getD j false = Nat.blt j i := by
        intro t ht j hj hne hw
        have hjl : j < al.length := by omega
        have hgj : al[j]? = some al[j] := List.getElem?_eq_getElem hjl
        rw [hgj, Option.bind_some] at hw
        have hhit : hits al[j] ao = true := by
          unfold hits
          rw [hw]
          dsimp only
          rcases ht with ht | ht
          · rw [memN_of ht]; rfl
          · rw [ht]; simp
        rcases Nat.lt_or_gt_of_ne hne with hji | hij
        · have := okAll_spec hok hji hao hgj
          simp only [okPair, hhit, Bool.true_or, Bool.not_true, Bool.false_or] at this
          rw [hbef j this]; exact (by simpa [Nat.blt_eq] using hji : Nat.blt j i = true).symm
        · have := okAll_spec hok hij hgj hao
          simp only [okPair, hhit, Bool.or_true, Bool.true_or, Bool.not_true, Bool.false_or] at this
          rw [haft j this hj]
          cases hb : Nat.blt j i with
          | false => rfl
          | true => have : j < i := by simpa [Nat.blt_eq] using hb
                    omega
      have heavies : ao.op.heavy = true → ∀ j x, al[j]? = some x → x.op.heavy = true → j ≠ i → listed.getD j false = Nat.blt j i := by
        intro hh j x hgj hx hne
        have hj : j < ops.size := by have := (List.getElem?_eq_some_iff.1 hgj).1; omega
        rcases Nat.lt_or_gt_of_ne hne with hji | hij
        · have := okAll_spec hok hji hao hgj
          simp only [okPair, hh, hx, Bool.and_self, Bool.or_true, Bool.not_true, Bool.false_or] at this
          rw [hbef j this]; exact (by simpa [Nat.blt_eq] using hji : Nat.blt j i = true).symm
        · have := okAll_spec hok hij hgj hao
          simp only [okPair, hh, hx, Bool.and_self, Bool.or_true, Bool.not_true, Bool.false_or] at this
          rw [haft j this hj]
          cases hb : Nat.blt j i with
          | false => rfl
          | true => have : j < i := by simpa [Nat.blt_eq] using hb
                    omega
      -- its operands
      have hopnd : ∀ t ∈ ao.tmps, (TL al (vAt tr) (fun i => listed.getD i false) T ops.size).get t = (tmAt tr T' i).get t := by
        intro t ht
        rw [TL_congr (L' := fun x => Nat.blt x i) (fun j hj hw => by
          show listed.getD j false = Nat.blt j i
          by_cases hne : j = i
          · subst hne; rw [hun]; cases hb : Nat.blt j j with
            | false => rfl
            | true => simp [Nat.blt_eq] at hb
          · exact writers t (.inl ht) j hj hne hw), TL_prefix htr i ops.size (by omega), show min ops.size i = i by omega]
      obtain ⟨ev1, ev2, ev3⟩ := t4 i ao hao
      -- states
      have hev : ∃ p', p' ≤ ops.size ∧ evOper call ao (tmAt tr T' i) (stAt tr S' p) = some (vAt tr i, stAt tr S' p') ∧
          (∀ j x, al[j]? = some x → x.op.heavy = true → ((listed.setIfInBounds i true).getD j false = true ↔ j < p')) := by
        have old : ao.op.heavy = false → (∀ j x, al[j]? = some x → x.op.heavy = true → ((listed.setIfInBounds i true).getD j false = true ↔ j < p)) := by
          intro hh j x hgj hx
          have hne : i ≠ j := fun e => by subst e; rw [hgj] at hao; cases hao; rw [hh] at hx; cases hx
          rw [getD_set_ne false hne]
          exact hheavy j x hgj hx
        have up : ∀ (d : Nat), i + d ≤ ops.size → (∀ j x, i ≤ j → j < i + d → al[j]? = some x → x.op.heavy = true → (∃ y, evOper call ao (tmAt tr T' i) (stAt tr S' (j + 1)) = some (vAt tr i, y) ∧ y = stAt tr S' (j + 1))) → ao.op.heavy = false →
            evOper call ao (tmAt tr T' i) (stAt tr S' (i + d)) = some (vAt tr i, stAt tr S' (i + d)) := by
          intro d
          induction d with
          | zero => intro _ _ hh; rw [Nat.add_zero]; rw [ev1, hsat i ao hao hh]
          | succ d ihd =>
            intro hd hy hh
            have hg : al[i + d]? = some al[i + d] := List.getElem?_eq_getElem (by omega)
            cases hx : (al[i + d]).op.heavy with
            | true =>
              obtain ⟨y, h1, rfl⟩ := hy (i + d) _ (by omega) (by omega) hg hx
              exact h1
            | false =>
              have := ihd (by omega) (fun j x h1 h2 => hy j x h1 (by omega)) hh
              rw [← Nat.add_assoc, hsat (i + d) _ hg hx]
              exact this
        have dn : ∀ (d : Nat), d ≤ i → (∀ j x, i - d ≤ j → j < i → al[j]? = some x → x.op.heavy = true → evOper call ao (tmAt tr T' i) (stAt tr S' j) = some (vAt tr i, stAt tr S' j)) → ao.op.heavy = false →
            evOper call ao (tmAt tr T' i) (stAt tr S' (i - d)) = some (vAt tr i, stAt tr S' (i - d)) := by
          intro d
          induction d with
          | zero => intro _ _ hh; rw [Nat.sub_zero]; rw [ev1, hsat i ao hao hh]
          | succ d ihd =>
            intro hd hy hh
            have hg : al[i - (d + 1)]? = some al[i - (d + 1)] := List.getElem?_eq_getElem (by omega)
            cases hx : (al[i - (d + 1)]).op.heavy with
            | true => exact hy _ _ (Nat.le_refl _) (by omega) hg hx
            | false =>
              have := ihd (by omega) (fun j x h1 h2 => hy j x (by omega) h2) hh
              have e1 := hsat (i - (d + 1)) _ hg hx
              rw [show i - (d + 1) + 1 = i - d by omega] at e1
              rw [← e1]
              exact this
        cases hh : ao.op.heavy with
        | false =>
          refine ⟨p, hp, ?_, old hh⟩
          cases hr : ao.op.reads with
          | false => exact oper_light hh hr ev1 _
          | true =>
            rcases Nat.le_total i p with hip | hip
            · have := up (p - i) (by omega) (fun j x h1 h2 hgj hx => by
                have hne : j ≠ i := fun e => by subst e; rw [hgj] at hao; cases hao; rw [hh] at hx; cases hx
                have hl := (hheavy j x hgj hx).2 (by omega)
                have hj : j < ops.size := by have := (List.getElem?_eq_some_iff.1 hgj).1; omega
                refine ⟨_, hag i j ao (i, j + 1) hao hr (by omega) ?_ rfl, rfl⟩
                have hb : (bs.getD j 0).testBit i = false := by
                  cases hb : (bs.getD j 0).testBit i with
                  | false => rfl
                  | true => rw [haft j hb hj] at hl; cases hl
                have hb2 : Nat.blt j i = false := by
                  cases hb2 : Nat.blt j i with
                  | false => rfl
                  | true => have : j < i := by simpa [Nat.blt_eq] using hb2
                            omega
                simp only [plan1, hgj, hx, hb, hb2, cond_true, cond_false]) hh
              rw [show i + (p - i) = p by omega] at this
              exact this
            · have := dn (i - p) (by omega) (fun j x h1 h2 hgj hx => by
                have hl : listed.getD j false ≠ true := fun e => by have := (hheavy j x hgj hx).1 e; omega
                have hj : j < ops.size := by have := (List.getElem?_eq_some_iff.1 hgj).1; omega
                refine hag i j ao (i, j) hao hr (by omega) ?_ rfl
                have hb : (bs.getD i 0).testBit j = false := by
                  cases hb : (bs.getD i 0).testBit j with
                  | false => rfl
                  | true => exact absurd (hbef j hb) hl
                have hb2 : Nat.blt j i = true := by simpa [Nat.blt_eq] using h2
                simp only [plan1, hgj, hx, hb, hb2, cond_true, cond_false]) hh
              rw [show i - (i - p) = p by omega] at this
              exact this
        | true =>
          have hpi : stAt tr S' p = stAt tr S' i := by
            have nohv : ∀ j x, al[j]? = some x → x.op.heavy = true → j ≠ i → (j < i ↔ j < p) := by
              intro j x hgj hx hne
              rw [← hheavy j x hgj hx, heavies hh j x hgj hx hne]
              simp [Nat.blt_eq]
            have hip : ¬ i < p := fun e => by have := (hheavy i ao hao hh).2 e; rw [hun] at this; cases this
            have : ∀ d, p + d ≤ i → stAt tr S' (p + d) = stAt tr S' p := by
              intro d
              induction d with
              | zero => intro _; rfl
              | succ d ihd =>
                intro hd
                rw [← ihd (by omega), ← Nat.add_assoc]
                have hg : al[p + d]? = some al[p + d] := List.getElem?_eq_getElem (by omega)
                refine hsat (p + d) _ hg ?_
                cases hx : (al[p + d]).op.heavy with
                | false => rfl
                | true => have := (nohv (p + d) _ hg hx (by omega)).1 (by omega); omega
            have := this (i - p) (by omega)
            rw [show p + (i - p) = i by omega] at this
            exact this.symm
          refine ⟨i + 1, by omega, by rw [hpi]; exact ev1, fun j x hgj hx => ?_⟩
          by_cases hne : j = i
          · subst hne
            simp [hil]
          · rw [getD_set_ne false (Ne.symm hne), heavies hh j x hgj hx hne]
            simp only [Nat.blt_eq]
            omega
      obtain ⟨p', hp', hev, hheavy'⟩ := hev
      rw [← oper_congr (stAt tr S' p) hopnd] at hev
      refine oper_sound hcall ho hcao hT hS hev fun ρ2 c w2 hle2 hvc hS2 => ?_
      refine ih (listed.setIfInBounds i true) ρ2 (a1.put o.dst c) w2 p' (Rho.le_trans hle hle2) (by simpa using hsz) ?_ ?_ ?_ (by rw [put_size]; exact hn) (by rw [put_defers]; exact hdf) hS2 hp' hheavy'
      · have hlf : listed.toList[i]'(by simpa using hil) = false := by simpa [hil] using h0
        have := List.count_set (l := listed.toList) (i := i) (a := true) (b := false) (by simpa using hil)
        rw [hlf] at this
        simp only [Array.toList_setIfInBounds]
        have hpos : 0 < listed.toList.count false := List.count_pos_iff.2 (by rw [← hlf]; exact List.getElem_mem _)
        simp only [beq_self_eq_true, if_true, show (true == false) = false from rfl, Bool.false_eq_true, if_false] at this
        omega
      · intro j o' hl hj e he hb
        by_cases hne : j = i
        · subst hne
          rw [ho] at hj
          cases hj
          exact getD_set_true (hready e he hb)
        · rw [getD_set_ne false (Ne.symm hne)] at hl
          exact getD_set_true (hcl j o' hl hj e he hb)
      · intro t v hv
        by_cases hd : o.dst = some t
        · have hd' : ao.dst = some t := by rw [hdst]; exact hd
          have : (TL al (vAt tr) (fun j => (listed.setIfInBounds i true).getD j false) T ops.size).get t = some (vAt tr i) := by
            rw [TL_congr (L' := fun x => Nat.blt x (i + 1)) (fun j hj hw => by
              show (listed.setIfInBounds i true).getD j false = Nat.blt j (i + 1)
              by_cases hne : j = i
              · subst hne
                rw [show Nat.blt j (j + 1) = true by simp [Nat.blt_eq]]
                simp [hil]
              · rw [getD_set_ne false (Ne.symm hne), writers t (.inr hd') j hj hne hw]
                rw [Bool.eq_iff_iff]
                simp only [Nat.blt_eq]
                omega), TL_prefix htr (i + 1) ops.size (by omega), show min ops.size (i + 1) = i + 1 by omega, ev2, hd']
            simp [putD, Tr.get_set]
          rw [this] at hv
          cases hv
          have := hdn t hd
          exact ⟨c, by simp [hd, Act.put, show t < a1.tmps.size from Nat.lt_of_lt_of_le this hn], hvc⟩
        · have hd' : ao.dst ≠ some t := by rw [hdst]; exact hd
          have : (TL al (vAt tr) (fun j => (listed.setIfInBounds i true).getD j false) T ops.size).get t = (TL al (vAt tr) (fun j => listed.getD j false) T ops.size).get t :=
            TL_congr fun j hj hw => by
              have hne : i ≠ j := fun e => by subst e; rw [hao] at hw; exact hd' hw
              exact getD_set_ne false hne
          rw [this] at hv
          obtain ⟨c', h1, h2⟩ := hT t v hv
          refine ⟨c', ?_, VR.mono hle2 h2⟩
          cases ho2 : o.dst with
          | none => simpa [Act.put] using h1
          | some d =>
            have hne : d ≠ t := fun e => hd (by rw [ho2, e])
            simp only [Act.put]
            rw [Array.getElem?_setIfInBounds_ne hne]; exact h1
  refine key ops.size (Array.replicate ops.size false) ρ a _ 0 (Rho.le_refl ρ) (by simp) ?_ ?_ ?_ h.sz h.df ?_ (Nat.zero_le _) ?_
  · exact Nat.le_trans List.count_le_length (by simp)
  · intro j o hl
    exfalso
    rcases Nat.lt_or_ge j ops.size with hlt | hge <;> simp_all
  · intro t v hv
    refine h.tr t v ?_
    rw [← hv, TL_congr (L' := fun x => Nat.blt x 0) (fun i hi _ => by simp [hi]; rfl), TL_prefix htr 0 ops.size (by omega), show min ops.size 0 = 0 by omega, t2]
  · rw [t3]
    exact h.sim.drawn _
  · intro i x hi hx
    have : i < ops.size := by have := (List.getElem?_eq_some_iff.1 hi).1; omega
    simp [this]
end
end Go.Proofs.YtidhpcjbllnjgaaGreatA
