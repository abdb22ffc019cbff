/- An abstract evaluator, part S: every operation that calls nothing is what the evaluator says. -/
import Derived.Test.YtajoogahcgbohaaGreatAeR
set_option linter.unusedVariables false
set_option linter.unusedSimpArgs false
namespace Go.Proofs.YtajoogahcgbohaaGreatA
open Go.RowKit
section
variable {P : Program} {B : Nat} {w0 : Base} {w : World} {ρ : Rho} {S S' : St}
set_option maxHeartbeats 4000000 in
theorem builtin_sound {T : Tm} {a : Act} (hT : TR ρ T a.tmps) (h : Sim B w0 ρ S w) {b : Builtin} {ats : List TypeId} {args : List Operand} {ao : AOp} (hc : cBuiltin P b ats args = some ao) {v : AV} (he : evOp ao T S = some (v, S')) (ty : TypeId) (cst : Array Bool) :
    Out B w0 ρ S' v ((builtin b ats.toArray ty cst (args.map a.eval).toArray).run P w) := by
  unfold cBuiltin at hc
  split at hc
  · -- append
    rename_i t u s x
    split at hc
    · rename_i e ht
      simp only [Option.bind_eq_some_iff] at hc
      obtain ⟨n, hn, by_, hby, z, hz, s', hs', x', hx', hc⟩ := hc
      split at hc
      · rename_i hcond
        obtain ⟨hzl, hnp, hbp, hza⟩ := hcond
        obtain ⟨i, zv, av, hi, hzv, hvr, rfl⟩ := zero_inv hz
        obtain ⟨i', hi', hisz⟩ := sz_inv hn
        rw [hi] at hi'; cases hi'
        have hib : i.bytes = by_ := by simp only [byOf, hi, Option.map_some, Option.some.injEq] at hby; exact hby
        have hzc := (hvr ρ).cells
        have hzcl := hzc.length
        simp only [Array.length_toList] at hzcl
        have main : ∀ (sa : AV), s'.ev T = some sa → ∀ (m : Nat) (xs : List AV) (vs : List Value), VRs ρ xs vs → xs.all AV.atom = true → (∀ d, Src P { w with drawn := d } e n u (a.eval x) m vs) → aAppend n by_ S sa m xs = some (v, S') →
            Out B w0 ρ S' v ((builtin .append #[t, u] ty cst #[a.eval s, a.eval x]).run P w) := by
          intro sa hsa m xs vs hx hxa src hap
          exact append_sound (P := P) (ty := ty) h (cX_sound hT hs' hsa) ht hi hisz hib hzv (by omega) hnp hbp src hx hxa hap
        split at hc
        · -- zeros
          rename_i k hu
          cases hc
          simp only [evOp, Option.bind_eq_some_iff] at he
          obtain ⟨sa, hsa, xa, hxa, he⟩ := he
          have hxv := cX_sound hT hx' hxa
          generalize hgx : a.eval x = cx at hxv
          cases hxv with
          | @int kk m hw =>
            cases kk <;> simp only at he <;> try cases he
            split at he
            · rename_i hm0
              have hm1 : m ≤ 9223372036854775807 := by
                rw [wf_bounds] at hw
                have : IntKind.i64.max = 9223372036854775807 := by decide
                omega
              refine main sa hsa m.toNat _ _ (zeros_VRs hzc (by omega) m.toNat) (rep_atoms hza) (fun d => ?_) he
              refine ⟨by simp [hzl], _, hu, .inl ⟨k, rfl, m, hgx, hm0, hm1, rfl, i, zv, hi, hzv, by omega, ?_⟩⟩
              simp [Builtin.zeroCells, hzcl]
              apply Array.ext'
              simp
            · cases he
          | _ => cases he
        · -- slice
          rename_i e2 hu
          cases hc
          simp only [evOp, Option.bind_eq_some_iff] at he
          obtain ⟨sa, hsa, xa, hxa, he⟩ := he
          have hxv := cX_sound hT hx' hxa
          generalize hgx : a.eval x = cx at hxv
          cases hxv with
          | sliceNil =>
            refine main sa hsa 0 [] [] .nil rfl ?_ he
            refine src_slice h hu (fun k hk => by cases hk) (by simp) (fun w' => by rw [hgx]; rfl) (fun dr => by rw [hgx]; rfl)
          | @slice o vv j len e' cap clip L aa hL h0 h1 h2 h3 h4 ha =>
            dsimp only at he
            split at he
            · rename_i hee
              subst hee
              simp only [Option.bind_eq_some_iff] at he
              obtain ⟨l, hr, he⟩ := he
              obtain ⟨vs, k1, k2, k3, k4⟩ := cells_any (P := P) h (.slice hL h0 h1 h2 h3 h4 ha) (Nat.le_refl len) hr
              refine main sa hsa len l vs k2 k3 ?_ he
              refine src_slice h hu (fun k hk => by cases hk) k1 (fun w' => by rw [hgx]; rfl) (fun dr => by rw [hgx]; exact k4 dr)
            · cases he
          | _ => cases he
        · -- text
          rename_i hu
          split at hc
          · rename_i hn1
            subst hn1
            cases hc
            simp only [evOp, Option.bind_eq_some_iff] at he
            obtain ⟨sa, hsa, xa, hxa, he⟩ := he
            have hxv := cX_sound hT hx' hxa
            generalize hgx : a.eval x = cx at hxv
            cases hxv with
            | @str l bs hb =>
              subst hb
              dsimp only at he
              have hbl := bytesN_length bs
              refine main sa hsa (bytesN bs).length _ (bs.data.toList.map fun b => .int .u8 b.toNat) ?_ (by simp [AV.atom]) ?_ he
              · refine VRs.of_get (by simp [bytesN]) ?_
                intro i a v h1 h2
                simp only [List.getElem?_map, Option.map_eq_some_iff, bytesN] at h1 h2
                obtain ⟨b1, hb1, rfl⟩ := h1
                obtain ⟨b0, hb0, rfl⟩ := hb1
                obtain ⟨b2, hb2, rfl⟩ := h2
                rw [hb0] at hb2
                cases hb2
                exact .int (wf_byte b0.toNat_lt)
              · refine src_slice h hu (fun k hk => by cases hk) (by simp [bytesN]) (fun w' => by rw [hgx, hbl]; rfl) (fun dr => ?_)
                rw [hgx, hbl]
                simp only [Builtin.firstCells, Sem.run_pure]
                congr 1
                apply Array.ext'
                have : (bs.extract 0 bs.size).data = bs.data := by
                  rw [ByteArray.data_extract]
                  exact Array.extract_size
                rw [this]
                simp
            | _ => cases he
          · cases hc
        · cases hc
      · cases hc
    · cases hc
  · -- len
    rename_i t x
    simp only [Option.bind_eq_some_iff] at hc
    obtain ⟨x', hx', hc⟩ := hc
    have hfin : ∀ (n : Nat), n ≤ 9223372036854775807 → (Builtin.len_ #[t] ty #[a.eval x]).run P w = .ok (goInt n) w → Out B w0 ρ S (.int .i64 n) ((builtin .len #[t] ty cst #[a.eval x]).run P w) := fun n hn hr =>
      Out.val h (.int (wf_nat hn)) hr
    split at hc
    · rename_i ht
      cases hc
      simp only [evOp, Option.bind_eq_some_iff] at he
      obtain ⟨xa, hxa, he⟩ := he
      have hxv := cX_sound hT hx' hxa
      generalize hgx : a.eval x = cx at hxv
      cases hxv with
      | @str l bs hb =>
        subst hb
        dsimp only at he
        split at he
        · rename_i hn; cases he
          refine hfin _ hn ?_
          rw [hgx, bytesN_length]
          simp [Builtin.len_, run_und ht]
        · cases he
      | _ => cases he
    · rename_i ht
      cases hc
      simp only [evOp, Option.bind_eq_some_iff] at he
      obtain ⟨xa, hxa, he⟩ := he
      have hxv := cX_sound hT hx' hxa
      generalize hgx : a.eval x = cx at hxv
      cases hxv with
      | sliceNil =>
        dsimp only at he
        split at he
        · rename_i hn; cases he
          refine hfin _ hn ?_
          rw [hgx]
          simp [Builtin.len_, run_und ht]
        · cases he
      | slice =>
        dsimp only at he
        split at he
        · rename_i hn; cases he
          refine hfin _ hn ?_
          rw [hgx]
          simp [Builtin.len_, run_und ht]
        · cases he
      | _ => cases he
    · rename_i n e ht
      split at hc
      · rename_i hn
        cases hc
        cases he
        refine hfin _ hn ?_
        simp only [Builtin.len_, List.getElem?_toArray, List.getElem?_cons_zero, Sem.run_bind, run_und ht, Result.andThen_ok]
        rfl
      · cases hc
    · cases hc
  · -- cap
    rename_i t x
    simp only [Option.bind_eq_some_iff] at hc
    obtain ⟨x', hx', hc⟩ := hc
    split at hc
    · rename_i ht
      cases hc
      simp only [evOp, Option.bind_eq_some_iff] at he
      obtain ⟨xa, hxa, he⟩ := he
      have hxv := cX_sound hT hx' hxa
      generalize hgx : a.eval x = cx at hxv
      have hfin : ∀ (n : Nat), n ≤ 9223372036854775807 → (Builtin.cap_ #[t] ty #[a.eval x]).run P w = .ok (goInt n) w → Out B w0 ρ S (.int .i64 n) ((builtin .cap #[t] ty cst #[a.eval x]).run P w) := fun n hn hr =>
        Out.val h (.int (wf_nat hn)) hr
      cases hxv with
      | sliceNil =>
        dsimp only at he
        cases he
        refine hfin 0 (by omega) ?_
        rw [hgx]
        simp [Builtin.cap_, run_und ht]
      | @slice o v j len e' cap clip L aa hL h0 h1 h2 h3 h4 ha =>
        cases clip with
        | none => cases he
        | some c =>
          dsimp only at he
          split at he
          · rename_i hn; cases he
            refine hfin c hn ?_
            rw [hgx, ← h4 c rfl]
            simp [Builtin.cap_, run_und ht]
          · cases he
      | _ => cases he
    · cases hc
  · -- max
    rename_i xs
    simp only [Option.map_eq_some_iff] at hc
    obtain ⟨ys, hys, rfl⟩ := hc
    simp only [evOp, Option.bind_eq_some_iff, Option.map_eq_some_iff] at he
    obtain ⟨l, hl, r, hr, he⟩ := he
    cases he
    obtain ⟨c, h1, h2⟩ := maxI_run (P := P) (w := w) (cXs_sound hT hys hl) hr _ ty
    exact Out.val h h2 h1
  · -- min
    rename_i xs
    simp only [Option.map_eq_some_iff] at hc
    obtain ⟨ys, hys, rfl⟩ := hc
    simp only [evOp, Option.bind_eq_some_iff, Option.map_eq_some_iff] at he
    obtain ⟨l, hl, r, hr, he⟩ := he
    cases he
    obtain ⟨c, h1, h2⟩ := minI_run (P := P) (w := w) (cXs_sound hT hys hl) hr _ ty
    exact Out.val h h2 h1
  · -- copy
    rename_i t u d s
    split at hc
    · rename_i e ht
      simp only [Option.bind_eq_some_iff, Option.map_eq_some_iff] at hc
      obtain ⟨n, hn, d', hd', s', hs', rfl⟩ := hc
      simp only [evOp, Option.bind_eq_some_iff] at he
      obtain ⟨da, hda, sa, hsa, he⟩ := he
      exact copy_sound (P := P) (ty := ty) (u := u) h ht hn (cX_sound hT hd' hda) (cX_sound hT hs' hsa) he
    · cases hc
  · -- clear
    rename_i t x
    split at hc
    · rename_i e ht
      simp only [Option.bind_eq_some_iff] at hc
      obtain ⟨n, hn, z, hz, hc⟩ := hc
      split at hc
      · rename_i hcond
        obtain ⟨hzl, hnp, hza⟩ := hcond
        simp only [Option.map_eq_some_iff] at hc
        obtain ⟨x', hx', rfl⟩ := hc
        simp only [evOp, Option.bind_eq_some_iff] at he
        obtain ⟨xa, hxa, he⟩ := he
        exact clear_sound (P := P) (ty := ty) h ht hz hzl hnp hza (cX_sound hT hx' hxa) he
      · cases hc
    · cases hc
  · cases hc
end
end Go.Proofs.YtajoogahcgbohaaGreatA
