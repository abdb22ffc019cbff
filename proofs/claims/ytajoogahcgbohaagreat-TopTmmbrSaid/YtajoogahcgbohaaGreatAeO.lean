/- An abstract evaluator, part O: appends and copies are what the model says. -/
import Derived.Test.YtajoogahcgbohaaGreatAeN
set_option linter.unusedVariables false
set_option linter.unusedSimpArgs false
namespace Go.Proofs.YtajoogahcgbohaaGreatA
open Go.RowKit
section
variable {P : Program} {B : Nat} {w0 : Base} {w : World} {ρ : Rho} {S S' : St}
theorem append_sound (h : Sim B w0 ρ S w) {s r : AV} {cs : Value} (hv : VR ρ s cs) {t u ty e : TypeId} {x : Value} {esz by_ n : Nat} {xs : List AV} {vs : List Value} {i : TypeInfo} {zv : Value}
    (ht : P.underlying t = some (.slice e)) (hi : P.info? e = some i) (hs : i.size = esz) (hby : i.bytes = by_) (hzv : i.zero = some zv) (hzs : zv.cells.size = esz) (hpos : 0 < esz) (hbp : 0 < by_)
    (src : ∀ d, Src P { w with drawn := d } e esz u x n vs) (hx : VRs ρ xs vs) (hxa : xs.all AV.atom = true) (ha : aAppend esz by_ S s n xs = some (r, S')) :
    Out B w0 ρ S' r ((do pure (Next.value (← Builtin.append_ #[t, u] ty #[cs, x])) : Sem Next).run P w) := by
  have hvl : vs.length = n * esz := (src 0).len
  have hxl : xs.length = n * esz := by rw [← hx.length]; exact hvl
  have srcw : Src P w e esz u x n vs := src w.drawn
  have hzi : i.zero.isSome = true := by rw [hzv]; rfl
  have fin0 : ∀ {A : Option Addr} {len cap : Nat}, cs = .slice A len cap → n = 0 → len ≤ cap → Out B w0 ρ S s ((do pure (Next.value (← Builtin.append_ #[t, u] ty #[cs, x])) : Sem Next).run P w) := by
    intro A len cap hcs hn hlc
    subst hn
    have hve : vs = [] := List.length_eq_zero_iff.1 (by omega)
    subst hve
    refine Out.val h hv ?_
    rw [hcs]
    have := app_room (P := P) (ty := ty) (base := A) (sLen := len) (sCap := cap) ht hi hs hzi (by omega) srcw (by omega) (w' := w) (fun a _ => rfl) (fun _ => rfl)
    simpa using this
  cases hv with
  | sliceNil =>
    simp only [aAppend] at ha
    split at ha
    · rename_i hn; cases ha; exact fin0 rfl hn (Nat.le_refl _)
    · rename_i hn
      split at ha
      · rename_i hb
        cases ha
        obtain ⟨cap, rest, g1, g2, g3⟩ := app_grow (P := P) (ty := ty) (old := []) (base := none) (sLen := 0) (sCap := 0) ht hi hs hzv hzs (by omega) (by simpa [hby] using hb) (.inl (by omega)) srcw src (fun d => by simp [Builtin.firstCells]) (by simp)
        refine out_newSlR h e (0, 0) n esz cap hxl (by omega) (cs := ([] ++ vs ++ rest).toArray) ?_ ?_ hxa (.inl rfl) (d := w.drawn + 1) (by simpa using g3)
        · simp only [List.nil_append, List.size_toArray, List.length_append, hvl, g2, Nat.zero_add]
          rw [← Nat.add_mul]; congr 1; omega
        · rw [hxl, ← hvl]
          simpa using hx
      · cases ha
  | @slice o v j len e' cap clip L a hL h0 h1 h2 h3 h4 haddr =>
    simp only [aAppend] at ha
    split at ha
    · cases ha
    rename_i hee
    have hee : e' = esz := by omega
    subst hee
    split at ha
    · rename_i hn; cases ha; exact fin0 rfl hn h3
    rename_i hn
    split at ha
    · cases ha
    rename_i hb
    have hb : ((len + n) + (len + n) / 4 + 256) * by_ ≤ 281474976710656 := by omega
    have hlm : len * e' + n * e' = (len + n) * e' := (Nat.add_mul _ _ _).symm
    -- growing: the old cells, and a new block
    have grow : ∀ (l : List AV), S.rd o v j (len * e') = some l → ¬ len + n ≤ cap → ∃ old newCap rest, VRs ρ l old ∧ l.all AV.atom = true ∧ old.length = len * e' ∧ len + n ≤ newCap ∧ rest.length = (newCap - (len + n)) * e' ∧
        (Builtin.append_ #[t, u] ty #[.slice (some a) len cap, x]).run P w = .ok (.slice (some ⟨w.heap.size, 0, none⟩) (len + n) newCap) { w with heap := w.heap.push (.cells ((old ++ vs ++ rest).toArray) e), drawn := w.drawn + 1 } := by
      intro l hr hroom
      obtain ⟨old, k1, k2, k3, k4⟩ := slice_cells (P := P) h (.slice hL h0 h1 h2 h3 h4 haddr) (Nat.le_refl len) hr
      have hold : ∀ d, (Builtin.firstCells e' len (.slice (some a) len cap)).run P { w with drawn := d } = .ok old.toArray { w with drawn := d } := by
        intro d
        obtain ⟨old', q1, q2, q3, q4⟩ := slice_cells (P := P) (h.drawn d) (.slice hL h0 h1 h2 h3 h4 haddr) (Nat.le_refl len) hr
        have : old' = old := by
          have e1 := run_loadCells_list (P := P)
          rcases haddr with hz | rfl
          · have : len = 0 := by omega
            subst this
            rw [List.length_eq_zero_iff.1 (show old.length = 0 by omega), List.length_eq_zero_iff.1 (show old'.length = 0 by omega)]
          · obtain ⟨vs1, p1, p2, p3, cs1, e1, fz1, p4, p5, p6⟩ := rd_lies h hr hL h0 h1
            have hrun : ∀ d, (loadCells ⟨L.blk, L.at j, none⟩ (len * e')).run P { w with drawn := d } = .ok vs1.toArray { w with drawn := d } := by
              intro d
              have := run_loadCells_list (P := P) { w with drawn := d } ⟨L.blk, L.at j, none⟩ vs1 (fun q y hy => by
                have hq : q < len * e' := by have := (List.getElem?_eq_some_iff.1 hy).1; omega
                rw [add_at, cell_at (w := { w with drawn := d }) p4, p6 q hq, hy])
              rwa [p1] at this
            have r1 := hrun w.drawn
            have r2 := hrun d
            have k4' : (loadCells ⟨L.blk, L.at j, none⟩ (len * e')).run P w = .ok vs1.toArray w := r1
            rw [k4'] at k4
            rw [r2] at q4
            have a1 : vs1 = old := by simpa using k4
            have a2 : vs1 = old' := by simpa using q4
            rw [← a1, ← a2]
        rw [← this]
        exact q4
      obtain ⟨newCap, rest, g1, g2, g3⟩ := app_grow (P := P) (ty := ty) ht hi hs hzv hzs hroom (by rw [hby]; exact hb) (.inl (by omega)) srcw src hold k1
      exact ⟨old, newCap, rest, k2, k3, k1, g1, g2, g3⟩
    cases clip with
    | some c =>
      dsimp only at ha
      split at ha
      · rename_i hlt
        have hcap := h4 c rfl
        simp only [Option.map_eq_some_iff] at ha
        obtain ⟨l, hr, hre⟩ := ha
        cases hre
        have hl := rd_length hr
        obtain ⟨old, newCap, rest, k1, k2, k3, k4, k5, k6⟩ := grow l hr (by omega)
        refine out_newSlR h e (0, 0) (len + n) e' newCap (by simp; omega) k4 (cs := (old ++ vs ++ rest).toArray) ?_ ?_ ?_ (.inl rfl) (d := w.drawn + 1) k6
        · simp only [List.size_toArray, List.length_append, hvl, k3, k5]
          rw [← Nat.add_mul, ← Nat.add_mul]; congr 1; omega
        · have hap := k1.append hx
          have : (l ++ xs).length = (old ++ vs).length := hap.length.symm
          rw [this]
          have e2 : (old ++ vs ++ rest).toArray.toList.take (old ++ vs).length = old ++ vs := List.take_left
          rw [e2]
          exact hap
        · simp only [List.all_append, Bool.and_eq_true]; exact ⟨k2, hxa⟩
      · cases ha
    | none =>
      dsimp only at ha
      have forked : ∀ (c : List AV) (ver minv g : Nat) (x0 : AO), S.get o = some x0 → ForkAt B ρ w o c ver minv g → minv ≤ v → j + len * e' ≤ g → g ≤ c.length → S.rd o v j (len * e') = some ((c.drop j).take (len * e')) →
          some (.slice (some (o, ver + 1, j)) (len + n) e' none, S.put o (.fork (c.take (j + len * e') ++ xs) (ver + 1) minv (j + len * e'))) = some (r, S') → Out B w0 ρ S' r ((do pure (Next.value (← Builtin.append_ #[t, u] ty #[.slice (some a) len cap, x])) : Sem Next).run P w) := by
        intro c ver minv g x0 hg hcl hm hend hgc hr ha
        cases ha
        obtain ⟨m2, ccs, ce, cfz, m3, m4, m5, m6⟩ := hcl.mem v L hL hm
        have hLB : B ≤ L.blk := hcl.side v L hL
        have hLw := h.heap o v L hL
        by_cases hroom : len + n ≤ cap
        · -- in place
          have hcapm : (len + n) * e' ≤ cap * e' := Nat.mul_le_mul_right _ hroom
          have haddr' : a = ⟨L.blk, L.at j, none⟩ := by
            rcases haddr with hz | hz
            · omega
            · exact hz
          subst haddr'
          obtain ⟨cur', s1, s2, s3⟩ := run_stores (P := P) L.blk (L.at j + len * e') ce cfz vs 0 ccs w m3 (by unfold Loc.at; omega)
            (fun q q1 q2 => m6.not (by unfold Loc.at at q2; omega)) (hx.atoms hxa)
          have hrun := app_room (P := P) (ty := ty) (base := some ⟨L.blk, L.at j, none⟩) ht hi hs hzi (by rw [hby]; have : n * by_ ≤ ((len + n) + (len + n) / 4 + 256) * by_ := Nat.mul_le_mul_right _ (by omega); omega) srcw hroom
            (w' := { w with heap := w.heap.setIfInBounds L.blk (.cells cur' ce cfz) }) (fun a' ha' => by cases ha'; rw [add_at]; exact s3) (fun hno => by cases hno)
          obtain ⟨ρ', hle, hρ, hS⟩ := h.bumpF (xs := xs) (e := j + len * e') hg hcl hend hgc hxa hL (N := ⟨L.blk, L.boff, L.start, j + len * e' + xs.length, L.room⟩)
            (w' := { w with heap := w.heap.setIfInBounds L.blk (.cells cur' ce cfz) }) (Below.set_ h.below hLB _) (by simp) rfl (by simp only; omega) hLB (by simpa using hLw) (.inl ⟨rfl, rfl, rfl⟩)
            (fun b hb' => by
              by_cases hbl : b = L.blk
              · exact .inr hbl
              · left; simp [Array.getElem?_setIfInBounds_ne (Ne.symm hbl)])
            (by
              refine ⟨cur', ce, cfz, by simp [hLw], by simp only; omega, fun q q1 q2 => ?_, by rw [s1]; exact m6⟩
              simp only at q1 q2
              by_cases hq : q < j + len * e'
              · obtain ⟨aa, vv, z1, z2, z3⟩ := m5 q q1 (by omega) (.inr (by omega))
                refine ⟨aa, vv, ?_, ?_, z3⟩
                · rw [List.getElem?_append_left (by simp; omega), List.getElem?_take_of_lt hq]; exact z1
                · show cur'[L.at q]? = _
                  rw [s2, if_neg (by unfold Loc.at; omega)]; exact z2
              · have hxq : xs[q - (j + len * e')]? = some xs[q - (j + len * e')] := List.getElem?_eq_getElem (by omega)
                obtain ⟨vv, z1, z2⟩ := hx.get hxq
                refine ⟨_, vv, ?_, ?_, z2⟩
                · rw [List.getElem?_append_right (by simp; omega)]
                  simp only [List.length_take]
                  rw [show min (j + len * e') c.length = j + len * e' by omega]; exact hxq
                · show cur'[L.at q]? = _
                  rw [s2, if_pos (by unfold Loc.at; omega), show L.at q - (L.at j + len * e' + 0) = q - (j + len * e') by unfold Loc.at; omega]; exact z1)
            (.inr ⟨ccs, cur', ce, cfz, m3, by simp [hLw], s1, fun q q1 q2 => by rw [s2, if_neg (by unfold Loc.at; omega)]⟩)
          refine Out.of hle (.slice hρ (by simp only; omega) (by simp only; omega) (by simp only; omega) hroom (by simp) (.inr rfl)) hS hrun
        · -- a new block
          obtain ⟨old, newCap, rest, k1, k2, k3, k4, k5, k6⟩ := grow _ hr hroom
          have hcm : (len + n) * e' ≤ newCap * e' := Nat.mul_le_mul_right _ k4
          have hsz : (old ++ vs ++ rest).length = newCap * e' := by
            simp only [List.length_append, hvl, k3, k5]
            rw [← Nat.add_mul, ← Nat.add_mul]; congr 1; omega
          obtain ⟨ρ', hle, hρ, hS⟩ := h.bumpF (xs := xs) (e := j + len * e') hg hcl hend hgc hxa hL (N := ⟨w.heap.size, 0, j, j + len * e' + xs.length, newCap * e'⟩)
            (w' := { w with heap := w.heap.push (.cells ((old ++ vs ++ rest).toArray) e), drawn := w.drawn + 1 })
            ⟨h.below.os, h.below.tape, h.below.output, Nat.le_trans h.below.size (by simp), fun k hk => by
              rw [← h.below.block k hk]
              simp [Array.getElem?_push, Nat.ne_of_lt (Nat.lt_of_lt_of_le hk h.base)]⟩
            (by simp) rfl (by simp only; omega) h.base (by simp) (.inr (Nat.le_refl _))
            (fun b hb' => .inl (by simp [Array.getElem?_push, Nat.ne_of_lt hb']))
            (by
              refine ⟨(old ++ vs ++ rest).toArray, e, (0, 0), by simp, by simp only [List.size_toArray, hsz]; omega, fun q q1 q2 => ?_, .inl rfl⟩
              simp only at q1 q2
              have hat : (⟨w.heap.size, 0, j, j + len * e' + xs.length, newCap * e'⟩ : Loc).at q = q - j := by simp [Loc.at]
              rw [hat]
              have hap := k1.append hx
              by_cases hq : q < j + len * e'
              · have hcq : c[q]? = some c[q] := List.getElem?_eq_getElem (by omega)
                have hlq : ((c.drop j).take (len * e') ++ xs)[q - j]? = some c[q] := by
                  rw [List.getElem?_append_left (by simp; omega), List.getElem?_take_of_lt (by omega), List.getElem?_drop, show j + (q - j) = q by omega]; exact hcq
                obtain ⟨vv, z1, z2⟩ := hap.get hlq
                refine ⟨_, vv, ?_, ?_, z2⟩
                · rw [List.getElem?_append_left (by simp; omega), List.getElem?_take_of_lt hq]; exact hcq
                · have : q - j < (old ++ vs).length := (List.getElem?_eq_some_iff.1 z1).1
                  rw [List.getElem?_toArray, List.getElem?_append_left this]; exact z1
              · have hxq : xs[q - (j + len * e')]? = some xs[q - (j + len * e')] := List.getElem?_eq_getElem (by omega)
                have hlq : ((c.drop j).take (len * e') ++ xs)[q - j]? = some xs[q - (j + len * e')] := by
                  rw [List.getElem?_append_right (by simp; omega)]
                  simp only [List.length_take, List.length_drop]
                  rw [show q - j - min (len * e') (c.length - j) = q - (j + len * e') by omega]; exact hxq
                obtain ⟨vv, z1, z2⟩ := hap.get hlq
                refine ⟨_, vv, ?_, ?_, z2⟩
                · rw [List.getElem?_append_right (by simp; omega)]
                  simp only [List.length_take]
                  rw [show min (j + len * e') c.length = j + len * e' by omega]; exact hxq
                · have : q - j < (old ++ vs).length := (List.getElem?_eq_some_iff.1 z1).1
                  rw [List.getElem?_toArray, List.getElem?_append_left this]; exact z1)
            (.inl (by simp [Array.getElem?_push, Nat.ne_of_lt hLw]))
          refine Out.of hle (.slice hρ (Nat.le_refl _) (by simp only; omega) (by simp only; omega) k4 (by simp) (.inr ?_)) hS k6
          simp [Loc.at]
      split at ha
      · rename_i c ver minv hg
        split at ha
        · rename_i hc
          obtain ⟨rfl, hend, hm⟩ := hc
          cases ha
          have hcl : CellsAt B ρ w o c v minv true := h.obj o _ hg
          obtain ⟨m1, m2, ccs, ce, cfz, m3, m4, m5, m6⟩ := hcl.mem v L hL hm
          have hLB : B ≤ L.blk := by have := hcl.side v L hL; simpa using this
          have hLw := h.heap o v L hL
          have hext := hcl.last L hL
          by_cases hroom : len + n ≤ cap
          · -- in place
            have hcapm : (len + n) * e' ≤ cap * e' := Nat.mul_le_mul_right _ hroom
            have haddr' : a = ⟨L.blk, L.at j, none⟩ := by
              rcases haddr with hz | hz
              · omega
              · exact hz
            subst haddr'
            obtain ⟨cur', s1, s2, s3⟩ := run_stores (P := P) L.blk (L.at j + len * e') ce cfz vs 0 ccs w m3 (by unfold Loc.at; omega)
              (fun q q1 q2 => (m6 rfl).not (by unfold Loc.at at q2; omega)) (hx.atoms hxa)
            have hrun := app_room (P := P) (ty := ty) (base := some ⟨L.blk, L.at j, none⟩) ht hi hs hzi (by rw [hby]; have : n * by_ ≤ ((len + n) + (len + n) / 4 + 256) * by_ := Nat.mul_le_mul_right _ (by omega); omega) srcw hroom
              (w' := { w with heap := w.heap.setIfInBounds L.blk (.cells cur' ce cfz) }) (fun a' ha' => by cases ha'; rw [add_at]; exact s3) (fun hno => by cases hno)
            obtain ⟨ρ', hle, hρ, hS⟩ := h.bump (xs := xs) (e := j + len * e') hg hm hend hxa hL (N := ⟨L.blk, L.boff, L.start, j + len * e' + xs.length, L.room⟩)
              (w' := { w with heap := w.heap.setIfInBounds L.blk (.cells cur' ce cfz) }) (Below.set_ h.below hLB _) (by simp) rfl (by simp only; omega) hLB (by simpa using hLw) (.inl ⟨rfl, rfl, rfl⟩)
              (fun b hb' => by
                by_cases hbl : b = L.blk
                · exact .inr hbl
                · left; simp [Array.getElem?_setIfInBounds_ne (Ne.symm hbl)])
              (by
                refine ⟨cur', ce, cfz, by simp [hLw], by simp only; omega, fun q q1 q2 => ?_, by rw [s1]; exact m6 rfl⟩
                simp only at q1 q2
                by_cases hq : q < j + len * e'
                · obtain ⟨aa, vv, z1, z2, z3⟩ := m5 q q1 (by omega)
                  refine ⟨aa, vv, ?_, ?_, z3⟩
                  · rw [List.getElem?_append_left (by simp; omega), List.getElem?_take_of_lt hq]; exact z1
                  · show cur'[L.at q]? = _
                    rw [s2, if_neg (by unfold Loc.at; omega)]; exact z2
                · have hxq : xs[q - (j + len * e')]? = some xs[q - (j + len * e')] := List.getElem?_eq_getElem (by omega)
                  obtain ⟨vv, z1, z2⟩ := hx.get hxq
                  refine ⟨_, vv, ?_, ?_, z2⟩
                  · rw [List.getElem?_append_right (by simp; omega)]
                    simp only [List.length_take]
                    rw [show min (j + len * e') c.length = j + len * e' by omega]; exact hxq
                  · show cur'[L.at q]? = _
                    rw [s2, if_pos (by unfold Loc.at; omega), show L.at q - (L.at j + len * e' + 0) = q - (j + len * e') by unfold Loc.at; omega]; exact z1)
              (fun _ => .inr ⟨ccs, cur', ce, cfz, m3, by simp [hLw], s1, fun q q1 q2 => by rw [s2, if_neg (by unfold Loc.at; omega)]⟩)
            refine Out.of hle (.slice hρ (by simp only; omega) (by simp only; omega) (by simp only; omega) hroom (by simp) (.inr rfl)) hS hrun
          · -- a new block
            have hr : S.rd o v j (len * e') = some ((c.drop j).take (len * e')) := by
              unfold St.rd
              rw [hg]
              have : (Nat.ble minv v && Nat.ble v v && Nat.ble (j + len * e') c.length) = true := by simp [hm, hend]
              simp only [this, cond_true]
            obtain ⟨old, newCap, rest, k1, k2, k3, k4, k5, k6⟩ := grow _ hr hroom
            have hcm : (len + n) * e' ≤ newCap * e' := Nat.mul_le_mul_right _ k4
            have hsz : (old ++ vs ++ rest).length = newCap * e' := by
              simp only [List.length_append, hvl, k3, k5]
              rw [← Nat.add_mul, ← Nat.add_mul]; congr 1; omega
            obtain ⟨ρ', hle, hρ, hS⟩ := h.bump (xs := xs) (e := j + len * e') hg hm hend hxa hL (N := ⟨w.heap.size, 0, j, j + len * e' + xs.length, newCap * e'⟩)
              (w' := { w with heap := w.heap.push (.cells ((old ++ vs ++ rest).toArray) e), drawn := w.drawn + 1 })
              ⟨h.below.os, h.below.tape, h.below.output, Nat.le_trans h.below.size (by simp), fun k hk => by
                rw [← h.below.block k hk]
                simp [Array.getElem?_push, Nat.ne_of_lt (Nat.lt_of_lt_of_le hk h.base)]⟩
              (by simp) rfl (by simp only; omega) h.base (by simp) (.inr (Nat.le_refl _))
              (fun b hb' => .inl (by simp [Array.getElem?_push, Nat.ne_of_lt hb']))
              (by
                refine ⟨(old ++ vs ++ rest).toArray, e, (0, 0), by simp, by simp only [List.size_toArray, hsz]; omega, fun q q1 q2 => ?_, .inl rfl⟩
                simp only at q1 q2
                have hat : (⟨w.heap.size, 0, j, j + len * e' + xs.length, newCap * e'⟩ : Loc).at q = q - j := by simp [Loc.at]
                rw [hat]
                have hap := k1.append hx
                by_cases hq : q < j + len * e'
                · have hcq : c[q]? = some c[q] := List.getElem?_eq_getElem (by omega)
                  have hlq : ((c.drop j).take (len * e') ++ xs)[q - j]? = some c[q] := by
                    rw [List.getElem?_append_left (by simp; omega), List.getElem?_take_of_lt (by omega), List.getElem?_drop, show j + (q - j) = q by omega]; exact hcq
                  obtain ⟨vv, z1, z2⟩ := hap.get hlq
                  refine ⟨_, vv, ?_, ?_, z2⟩
                  · rw [List.getElem?_append_left (by simp; omega), List.getElem?_take_of_lt hq]; exact hcq
                  · have : q - j < (old ++ vs).length := (List.getElem?_eq_some_iff.1 z1).1
                    rw [List.getElem?_toArray, List.getElem?_append_left this]; exact z1
                · have hxq : xs[q - (j + len * e')]? = some xs[q - (j + len * e')] := List.getElem?_eq_getElem (by omega)
                  have hlq : ((c.drop j).take (len * e') ++ xs)[q - j]? = some xs[q - (j + len * e')] := by
                    rw [List.getElem?_append_right (by simp; omega)]
                    simp only [List.length_take, List.length_drop]
                    rw [show q - j - min (len * e') (c.length - j) = q - (j + len * e') by omega]; exact hxq
                  obtain ⟨vv, z1, z2⟩ := hap.get hlq
                  refine ⟨_, vv, ?_, ?_, z2⟩
                  · rw [List.getElem?_append_right (by simp; omega)]
                    simp only [List.length_take]
                    rw [show min (j + len * e') c.length = j + len * e' by omega]; exact hxq
                  · have : q - j < (old ++ vs).length := (List.getElem?_eq_some_iff.1 z1).1
                    rw [List.getElem?_toArray, List.getElem?_append_left this]; exact z1)
              (fun _ => .inl (by simp [Array.getElem?_push, Nat.ne_of_lt hLw]))
            refine Out.of hle (.slice hρ (Nat.le_refl _) (by simp only; omega) (by simp only; omega) k4 (by simp) (.inr ?_)) hS k6
            simp [Loc.at]
        · split at ha
          · rename_i hc
            exact forked c ver minv c.length _ hg (CellsAt.fork (h.obj o _ hg)) hc.1 hc.2.2 (Nat.le_refl _) (by
              unfold St.rd
              rw [hg]
              have : (Nat.ble minv v && Nat.ble v ver && Nat.ble (j + len * e') c.length) = true := by simp [hc.1, Nat.le_of_lt hc.2.1, hc.2.2]
              simp only [this, cond_true]) ha
          · cases ha
      · rename_i c ver minv g hg
        split at ha
        · rename_i hc
          exact forked c ver minv g _ hg (h.obj o _ hg) hc.1 hc.2.2.1 hc.2.2.2 (by
            unfold St.rd
            rw [hg]
            have : (Nat.ble minv v && Nat.ble v ver && Nat.ble (j + len * e') c.length && (Nat.beq v ver || Nat.ble (j + len * e') g)) = true := by
              have := hc.2.2.1; have := hc.2.2.2
              simp [hc.1, Nat.le_of_lt hc.2.1, hc.2.2.1]; omega
            simp only [this, cond_true]) ha
        · cases ha
      · cases ha
  | _ => simp [aAppend] at ha
end
end Go.Proofs.YtajoogahcgbohaaGreatA
