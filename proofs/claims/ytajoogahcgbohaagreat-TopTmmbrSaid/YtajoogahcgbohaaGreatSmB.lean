/- Numbers that are not known, part B: operations. -/
import Derived.Test.YtajoogahcgbohaaGreatSmA
set_option linter.unusedVariables false
set_option linter.unusedSimpArgs false
namespace Go.Proofs.YtajoogahcgbohaaGreatA
open Go.RowKit

mutual
/-- A value in which no line stands. -/
def AV.nf : AV → Bool
  | .float .f64 _ => false
  | .func _ l | .agg l | .tuple l => AV.nfs l
  | .iface _ v => v.nf
  | _ => true
def AV.nfs : List AV → Bool
  | [] => true
  | v :: r => v.nf && AV.nfs r
end
mutual
theorem nf_g (u : Asg) : ∀ (v : AV), v.nf = true → gV u v = v
  | .float .f32 n, _ => rfl
  | .float .f64 n, h => by simp [AV.nf] at h
  | .func f l, h => by simp only [AV.nf] at h; simp only [gV]; rw [nfs_g u l h]
  | .agg l, h => by simp only [AV.nf] at h; simp only [gV]; rw [nfs_g u l h]
  | .tuple l, h => by simp only [AV.nf] at h; simp only [gV]; rw [nfs_g u l h]
  | .iface t v, h => by simp only [AV.nf] at h; simp only [gV]; rw [nf_g u v h]
  | .int k n, _ => rfl
  | .bool b, _ => rfl
  | .str s, _ => rfl
  | .ptr a, _ => rfl
  | .slice a l e c, _ => rfl
  | .nilFunc, _ => rfl
  | .nilIface, _ => rfl
  | .map r, _ => rfl
theorem nfs_g (u : Asg) : ∀ (l : List AV), AV.nfs l = true → gVs u l = l
  | [], _ => rfl
  | v :: r, h => by
    simp only [AV.nfs, Bool.and_eq_true] at h
    simp only [gVs]; rw [nf_g u v h.1, nfs_g u r h.2]
end
theorem nfl_g (u : Asg) {l : List AV} (h : AV.nfs l = true) : l.map (gV u) = l := by rw [← gVs_eq, nfs_g u l h]
def XO.nf : XO → Bool
  | .t _ => true
  | .c v => v.nf
def nfL : List XO → Bool
  | [] => true
  | x :: r => x.nf && nfL r
def nfP : List (Nat × Nat × XO) → Bool
  | [] => true
  | x :: r => x.2.2.nf && nfP r
def nfO : Option XO → Bool
  | none => true
  | some x => x.nf
section
variable {u : Asg} {T : Tm} {S S' : St}
theorem ev_g {x : XO} (h : x.nf = true) : x.ev (gT u T) = (x.ev T).map (gV u) := by
  cases x with
  | t i => exact gT_get T i
  | c v => show some v = some (gV u v); rw [nf_g u v h]
theorem args_g : ∀ {l : List XO}, nfL l = true → evArgs (gT u T) l = (evArgs T l).map (List.map (gV u))
  | [], _ => rfl
  | x :: r, h => by
    simp only [nfL, Bool.and_eq_true] at h
    simp only [evArgs, ev_g h.1, args_g h.2]
    cases x.ev T <;> cases evArgs T r <;> rfl
def gP (u : Asg) (p : Nat × Nat × AV) : Nat × Nat × AV := (p.1, p.2.1, gV u p.2.2)
theorem parts_g : ∀ {l : List (Nat × Nat × XO)}, nfP l = true → evParts (gT u T) l = (evParts T l).map (List.map (gP u))
  | [], _ => rfl
  | (a, b, x) :: r, h => by
    simp only [nfP, Bool.and_eq_true] at h
    simp only [evParts, ev_g h.1, parts_g h.2]
    cases x.ev T <;> cases evParts T r <;> rfl
theorem opt_g {x : Option XO} (h : nfO x = true) : evOpt (gT u T) x = (evOpt T x).map (Option.map (gV u)) := by
  cases x with
  | none => rfl
  | some x => simp only [evOpt, ev_g h]; cases x.ev T <;> rfl
theorem cells_g (v : AV) : (gV u v).cells = v.cells.map (gV u) := by
  cases v <;> first | (simp [AV.cells]; done) | skip
  rename_i k n; cases k <;> simp [AV.cells]
theorem tup_g (v : AV) : (gV u v).tup = v.tup := by
  cases v <;> first | (simp [AV.tup]; done) | skip
  rename_i k n; cases k <;> simp [AV.tup]
theorem fill_g : ∀ {ps : List (Nat × Nat × AV)} {cs r : List AV}, aFill cs ps = some r → aFill (cs.map (gV u)) (ps.map (gP u)) = some (r.map (gV u))
  | [], cs, r, h => by cases h; rfl
  | (off, size, v) :: ps, cs, r, h => by
    simp only [aFill] at h
    split at h
    · rename_i hc
      have := fill_g h
      simp only [List.map_cons, gP, aFill, cells_g, tup_g, List.length_map]
      rw [if_pos hc]
      simpa [List.map_take, List.map_drop] using this
    · cases h
theorem rep_g (n : Nat) (l : List AV) : (rep n l).map (gV u) = rep n (l.map (gV u)) := by
  simp [rep, List.map_flatten, List.map_replicate]
theorem bnd_g {v : Option AV} {d y n : Nat} (h : bnd v d y = some n) : bnd (v.map (gV u)) d y = some n := by
  cases v with
  | none => exact h
  | some v => cases v <;> first | (simp [bnd] at h; done) | (simpa [bnd] using h)
theorem ix_g {v : AV} {n i : Nat} (h : ixOf v n = some i) : ixOf (gV u v) n = some i := by
  cases v <;> first | (simp [ixOf] at h; done) | (simpa [ixOf] using h)
theorem byte_g {v : AV} {n : Nat} (h : byteOf v = some n) : byteOf (gV u v) = some n := by
  cases v <;> first | (simp [byteOf] at h; done) | (simpa using h)
theorem strOf_g : ∀ {l : List AV} {s : List Nat}, strOf l = some s → strOf (l.map (gV u)) = some s
  | [], s, h => h
  | x :: r, s, h => by
    simp only [strOf, Option.bind_eq_some_iff, Option.map_eq_some_iff] at h
    obtain ⟨b, hb, s', hs, rfl⟩ := h
    simp only [List.map_cons, strOf, byte_g hb, strOf_g hs, Option.bind_some, Option.map_some]
theorem newSl_g (xs : List AV) (len esz : Nat) : gV u (newSl S xs len esz).1 = (newSl (gS u S) (xs.map (gV u)) len esz).1 ∧ gS u (newSl S xs len esz).2 = (newSl (gS u S) (xs.map (gV u)) len esz).2 := by
  simp [newSl, gS_alloc, gO, gS_next]
theorem newSl_g' (xs : List AV) (len esz : Nat) : newSl (gS u S) (xs.map (gV u)) len esz = (gV u (newSl S xs len esz).1, gS u (newSl S xs len esz).2) := by
  rw [(newSl_g xs len esz).1, (newSl_g xs len esz).2]
theorem newVar_g' (xs : List AV) : newVar (gS u S) (xs.map (gV u)) = (gV u (newVar S xs).1, gS u (newVar S xs).2) := by
  simp [newVar, gS_alloc, gO, gS_next]
theorem append_g {esz bytes n : Nat} {s v : AV} {xs : List AV} (h : aAppend esz bytes S s n xs = some (v, S')) : aAppend esz bytes (gS u S) (gV u s) n (xs.map (gV u)) = some (gV u v, gS u S') := by
  cases s <;> try (simp [aAppend] at h; done)
  rename_i a len e clip
  simp only [g_slice]
  cases a with
  | none =>
    simp only [aAppend] at h ⊢
    split at h
    · rename_i h0; rw [if_pos h0]; cases h; simp
    · rename_i h0
      rw [if_neg h0]
      split at h
      · rename_i h1; rw [if_pos h1]; cases h; simp [newSl, gS_alloc, gO, gS_next]
      · cases h
  | some a =>
    obtain ⟨o, vv, i⟩ := a
    simp only [aAppend] at h ⊢
    split at h
    · cases h
    · rename_i h0
      rw [if_neg h0]
      split at h
      · rename_i h1; rw [if_pos h1]; cases h; simp
      · rename_i h1
        rw [if_neg h1]
        split at h
        · cases h
        · rename_i h2
          rw [if_neg h2]
          cases clip with
          | some c =>
            dsimp only at h ⊢
            split at h
            · rename_i h3
              rw [if_pos h3]
              simp only [Option.map_eq_some_iff] at h
              obtain ⟨l, hl, h⟩ := h
              rw [rd_g hl, Option.map_some, ← List.map_append, newSl_g']
              rw [h]
            · cases h
          | none =>
            dsimp only at h ⊢
            rw [gS_get]
            cases hg : S.get o with
            | none => rw [hg] at h; cases h
            | some x =>
              rw [hg] at h
              cases x with
              | cells c ver minv own =>
                cases own with
                | false => cases h
                | true =>
                  simp only [Option.map_some, gO, List.length_map] at h ⊢
                  split at h
                  · rename_i h3
                    rw [if_pos h3]
                    cases h
                    simp [gS_put, gO, List.map_take]
                  · rename_i h3
                    rw [if_neg h3]
                    split at h
                    · rename_i h4
                      rw [if_pos h4]
                      cases h
                      simp [gS_put, gO, List.map_take]
                    · cases h
              | fork c ver minv g =>
                simp only [Option.map_some, gO, List.length_map] at h ⊢
                split at h
                · rename_i h3
                  rw [if_pos h3]
                  cases h
                  simp [gS_put, gO, List.map_take]
                · cases h
              | _ => cases h
theorem scal_g {e : ET} {x y : AV} {b : Bool} (h : eqScal e x y = some b) : eqScal e (gV u x) (gV u y) = some b := by
  cases e <;> cases x <;> first | (simp [eqScal] at h; done) | skip
  all_goals cases y <;> first | (simp [eqScal] at h; done) | (simpa using h)
theorem fields_g {xs ys : List AV} : ∀ {fs : List (Nat × ET)} {b : Bool}, eqFields xs ys fs = some b → eqFields (xs.map (gV u)) (ys.map (gV u)) fs = some b
  | [], b, h => h
  | (o, e) :: r, b, h => by
    simp only [eqFields, List.getElem?_map] at h ⊢
    cases hx : xs[o]? with
    | none => rw [hx] at h; cases h
    | some x =>
      cases hy : ys[o]? with
      | none => rw [hx, hy] at h; cases h
      | some y =>
        rw [hx, hy] at h
        simp only [Option.map_some, Option.bind_eq_some_iff] at h ⊢
        obtain ⟨b1, h1, h2⟩ := h
        refine ⟨b1, scal_g h1, ?_⟩
        cases b1 with
        | false => exact h2
        | true => exact fields_g h2
theorem eq_g {et : ET} {lit : Bool} {x y : AV} {b : Bool} (h : aEq et lit x y = some b) : aEq et lit (gV u x) (gV u y) = some b := by
  cases et with
  | ptr => cases x <;> first | (simp [aEq] at h; done) | skip
           cases y <;> first | (simp [aEq] at h; done) | (simpa using h) | (rename_i a _ _; cases a <;> simp [aEq] at h)
  | slc => cases x <;> first | (simp [aEq] at h; done) | skip
           cases y <;> first | (simpa using h) | (rename_i a _ _ _ _; cases a <;> simp [aEq] at h) | (rename_i a _ _ _ _ _; cases a <;> simp [aEq] at h) | (rename_i a _ _ _; cases a <;> simp [aEq] at h)
  | fn => cases x <;> first | (simp [aEq] at h; done) | skip
          all_goals cases y <;> first | (simp [aEq] at h; done) | (simpa [aEq] using h)
  | face => cases x <;> first | (simp [aEq] at h; done) | skip
            all_goals cases y <;> first | (simp [aEq] at h; done) | (simpa [aEq] using h)
  | strct fs => cases x <;> first | (simp [aEq] at h; done) | skip
                cases y <;> first | (simp [aEq] at h; done) | skip
                simp only [aEq, g_agg] at h ⊢
                exact fields_g h
  | num => simp only [aEq] at h ⊢; exact scal_g h
  | bool => simp only [aEq] at h ⊢; exact scal_g h
  | str => simp only [aEq] at h ⊢; exact scal_g h
end
end Go.Proofs.YtajoogahcgbohaaGreatA
