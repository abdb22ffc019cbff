/- Numbers that are not known, part C: what an operation comes to. -/
import Derived.Test.YtajoogahcgbohaaGreatSmB
set_option linter.unusedVariables false
set_option linter.unusedSimpArgs false
namespace Go.Proofs.YtajoogahcgbohaaGreatA
open Go.RowKit

/-- The operations that are run with lines; their own values hold none. -/
def AOp.okS : AOp → Bool
  | .mv x | .box x | .load1 x | .loadN _ x | .nilCheck x | .mkIface _ x | .fieldAddr _ _ x | .field1 _ x | .fieldN _ _ x | .extract _ x | .len x | .lenS x | .cap x | .un _ x => x.nf
  | .conv (.int _) x | .conv .same x | .conv .mark x | .conv .strBytes x | .conv .bytesStr x => x.nf
  | .pick c a b => c.nf && a.nf && b.nf
  | .alloc z => AV.nfs z
  | .lenArr _ => true
  | .build z ps | .buildSlice _ z _ ps => AV.nfs z && nfP ps
  | .store _ x y | .bin _ _ x y | .ixSlice _ x y | .ixArr _ _ x y | .ixStr x y | .ixAgg1 _ x y | .ixAggN _ _ x y | .append _ _ x y | .copy _ x y => x.nf && y.nf
  | .mkSlice _ _ z x y | .appendZ _ _ z x y => AV.nfs z && x.nf && y.nf
  | .mkFunc _ xs | .mx xs | .mn xs => nfL xs
  | .cutStr x lo hi | .cutArr _ _ x lo hi => x.nf && nfO lo && nfO hi
  | .cut _ x lo hi m => x.nf && nfO lo && nfO hi && nfO m
  | .clr _ z x => AV.nfs z && x.nf
  | _ => false
section
variable {u : Asg} {T : Tm} {S S' : St}
theorem aInt_g {op : BinOp} {k : IntKind} {a b : Int} {v : AV} (h : aInt op k a b = some v) : gV u v = v := by
  cases op <;> simp only [aInt] at h <;> first
    | (cases h; simp; done)
    | (split at h
       · cases h
       · cases h; simp)
    | (cases h; done)
theorem aStr_g {op : BinOp} {a b : List Nat} {v : AV} (h : aStr op a b = some v) : gV u v = v := by
  cases op <;> simp only [aStr] at h <;> first
    | (cases h; simp; done)
    | (split at h
       · cases h; simp
       · cases h)
    | (cases h; done)
theorem binE_g {op : BinOp} {et : ET} {lit : Bool} {x y v : AV} (h : aBinE op et lit x y = some v) : aBinE op et lit (gV u x) (gV u y) = some (gV u v) := by
  unfold aBinE at h ⊢
  cases op <;> simp only at h <;> first
    | (simp only [Option.map_eq_some_iff] at h ⊢
       obtain ⟨b, h1, rfl⟩ := h
       exact ⟨b, eq_g h1, by simp⟩)
    | (cases h; done)
theorem bin_g {op : BinOp} {et : ET} {lit : Bool} {x y v : AV} (h : aBin op et lit x y = some v) : aBin op et lit (gV u x) (gV u y) = some (gV u v) := by
  have fl : ∀ {n : Nat} {y : AV}, aBinE op et lit (.float .f64 n) y = none := by
    intro n y
    unfold aBinE
    have : aEq et lit (.float .f64 n) y = none := by cases et <;> simp [aEq, eqScal]
    cases op <;> simp [this]
  have fr : ∀ {n : Nat} {x : AV}, aBinE op et lit x (.float .f64 n) = none := by
    intro n x
    unfold aBinE
    have : aEq et lit x (.float .f64 n) = none := by cases et <;> cases x <;> simp [aEq, eqScal] <;> rename_i a <;> cases a <;> simp
    cases op <;> simp [this]
  have key : ∀ {x' y' : AV}, gV u x = x' → gV u y = y' → (aBin op et lit x y = aBinE op et lit x y) → (aBin op et lit x' y' = aBinE op et lit x' y') → aBin op et lit (gV u x) (gV u y) = some (gV u v) := by
    intro x' y' hx hy h1 h2
    rw [h1] at h
    rw [hx, hy, h2, ← hx, ← hy]
    exact binE_g h
  cases x with
  | int k a =>
    cases y with
    | int k' b =>
      simp only [g_int]
      have hv : gV u v = v := by
        simp only [aBin] at h
        cases op <;> simp only at h <;> first
          | (split at h
             · cases h
             · cases h; simp)
          | (split at h
             · exact aInt_g h
             · cases h)
      rw [hv]; exact h
    | float kd n => cases kd with
      | f64 => rw [show aBin op et lit (.int k a) (.float .f64 n) = aBinE op et lit (.int k a) (.float .f64 n) from rfl, fr] at h; cases h
      | f32 => exact key rfl rfl rfl rfl
    | _ =>
      refine key g_int rfl rfl ?_
      simp only [g_bool, g_str, g_ptr, g_slice, g_func, g_nilFunc, g_iface, g_nilIface, g_agg, g_tuple, g_map]
      rfl
  | str a =>
    cases y with
    | str b =>
      simp only [g_str]
      have hv : gV u v = v := by
        simp only [aBin] at h
        exact aStr_g h
      rw [hv]; exact h
    | float kd n => cases kd with
      | f64 => rw [show aBin op et lit (.str a) (.float .f64 n) = aBinE op et lit (.str a) (.float .f64 n) from rfl, fr] at h; cases h
      | f32 => exact key rfl rfl rfl rfl
    | _ =>
      refine key g_str rfl rfl ?_
      simp only [g_int, g_bool, g_ptr, g_slice, g_func, g_nilFunc, g_iface, g_nilIface, g_agg, g_tuple, g_map]
      rfl
  | float kd n => cases kd with
    | f64 =>
      have : aBin op et lit (.float .f64 n) y = aBinE op et lit (.float .f64 n) y := by cases y <;> rfl
      rw [this, fl] at h; cases h
    | f32 => exact key (x' := .float .f32 n) (y' := gV u y) rfl rfl (by cases y <;> rfl) (by cases gV u y <;> rfl)
  | _ =>
    refine key rfl rfl (by cases y <;> rfl) ?_
    simp only [g_bool, g_ptr, g_slice, g_func, g_nilFunc, g_iface, g_nilIface, g_agg, g_tuple, g_map]
    cases gV u y <;> rfl
theorem un_g {op : UnOp} {x v : AV} (h : aUn op x = some v) : aUn op (gV u x) = some (gV u v) := by
  cases op <;> cases x <;> first | (simp [aUn] at h; done) | (simp only [aUn, g_int, g_bool] at h ⊢; cases h; simp; done)
theorem conv_g {c : CV} {x v : AV} (hc : (AOp.conv c (.c x)).okS = true ∨ c = .int .i64 ∨ (∃ k, c = .int k) ∨ c = .same ∨ c = .mark ∨ c = .strBytes ∨ c = .bytesStr) (h : aConv c x S = some (v, S')) : aConv c (gV u x) (gS u S) = some (gV u v, gS u S') := by
  have hc' : (∃ k, c = .int k) ∨ c = .same ∨ c = .mark ∨ c = .strBytes ∨ c = .bytesStr := by
    rcases hc with hc | rfl | hc | hc | hc | hc | hc
    · cases c <;> simp [AOp.okS] at hc ⊢
    · exact .inl ⟨_, rfl⟩
    all_goals simp [hc]
  rcases hc' with ⟨k, rfl⟩ | rfl | rfl | rfl | rfl
  · cases x <;> first | (simp [aConv] at h; done) | (simp only [aConv, g_int] at h ⊢; cases h; simp)
  · cases x <;> first | (simp [aConv] at h; done) | (simp only [aConv, g_str] at h ⊢; cases h; simp)
  · cases x <;> first | (simp [aConv] at h; done) | skip
    rename_i a len e clip
    cases a with
    | none => simp [aConv] at h
    | some a =>
      obtain ⟨o, vv, i⟩ := a
      simp only [aConv, g_slice, gS_get] at h ⊢
      cases hg : S.get o with
      | none => rw [hg] at h; cases h
      | some x =>
        rw [hg] at h
        cases x with
        | cells c ver minv own =>
          cases own with
          | false => cases h
          | true =>
            simp only [Option.map_some, gO] at h ⊢
            cases hb : (Nat.ble minv vv && !Nat.beq len 0) with
            | false => rw [hb] at h; cases h
            | true => rw [hb] at h; cases h; simp
        | _ => cases h
  · cases x <;> first | (simp [aConv] at h; done) | skip
    rename_i s
    simp only [aConv, g_str, Option.some.injEq] at h ⊢
    have h1 : v = (newSl S (s.map fun b : Nat => AV.int .u8 (b : Int)) s.length 1).1 := by rw [h]
    have h2 : S' = (newSl S (s.map fun b : Nat => AV.int .u8 (b : Int)) s.length 1).2 := by rw [h]
    have := newSl_g' (u := u) (S := S) (s.map fun b : Nat => AV.int .u8 (b : Int)) s.length 1
    rw [h1, h2, ← this]
    simp [Function.comp_def]
  · cases x <;> first | (simp [aConv] at h; done) | skip
    rename_i a len e clip
    cases a with
    | none => simp only [aConv, g_slice] at h ⊢; cases h; simp
    | some a =>
      obtain ⟨o, vv, i⟩ := a
      match e, h with
      | 1, h =>
        simp only [aConv, g_slice, Option.bind_eq_some_iff, Option.map_eq_some_iff] at h ⊢
        obtain ⟨l, hl, s, hs, h⟩ := h
        cases h
        exact ⟨_, rd_g hl, s, strOf_g hs, by simp⟩
      | 0, h => simp [aConv] at h
      | e + 2, h => simp [aConv] at h
theorem minF_g {k : IntKind} : ∀ {l : List AV} {a : Int} {v : AV}, minFrom k a l = some v → minFrom k a (l.map (gV u)) = some (gV u v)
  | [], a, v, h => by cases h; simp [minFrom]
  | x :: r, a, v, h => by
    cases x <;> first | (simp [minFrom] at h; done) | skip
    simp only [List.map_cons, g_int, minFrom] at h ⊢
    split at h
    · rename_i hk; rw [if_pos hk]; exact minF_g h
    · cases h
theorem maxF_g {k : IntKind} : ∀ {l : List AV} {a : Int} {v : AV}, maxFrom k a l = some v → maxFrom k a (l.map (gV u)) = some (gV u v)
  | [], a, v, h => by cases h; simp [maxFrom]
  | x :: r, a, v, h => by
    cases x <;> first | (simp [maxFrom] at h; done) | skip
    simp only [List.map_cons, g_int, maxFrom] at h ⊢
    split at h
    · rename_i hk; rw [if_pos hk]; exact maxF_g h
    · cases h
theorem minI_g {l : List AV} {v : AV} (h : minI l = some v) : minI (l.map (gV u)) = some (gV u v) := by
  cases l with
  | nil => cases h
  | cons x r => cases x <;> first | (simp [minI] at h; done) | (simp only [List.map_cons, g_int, minI] at h ⊢; exact minF_g h)
theorem maxI_g {l : List AV} {v : AV} (h : maxI l = some v) : maxI (l.map (gV u)) = some (gV u v) := by
  cases l with
  | nil => cases h
  | cons x r => cases x <;> first | (simp [maxI] at h; done) | (simp only [List.map_cons, g_int, maxI] at h ⊢; exact maxF_g h)
theorem cutStr_g {x v : AV} {lo hi : Option AV} (h : aCutStr x lo hi = some v) : aCutStr (gV u x) (lo.map (gV u)) (hi.map (gV u)) = some (gV u v) := by
  cases x <;> first | (simp [aCutStr] at h; done) | skip
  simp only [aCutStr, g_str, Option.bind_eq_some_iff, Option.map_eq_some_iff] at h ⊢
  obtain ⟨a, ha, b, hb, rfl⟩ := h
  exact ⟨a, bnd_g ha, b, bnd_g hb, by simp⟩
theorem cut_g {esz : Nat} {x v : AV} {lo hi mx : Option AV} (h : aCut esz x lo hi mx = some v) : aCut esz (gV u x) (lo.map (gV u)) (hi.map (gV u)) (mx.map (gV u)) = some (gV u v) := by
  cases x <;> first | (simp [aCut] at h; done) | skip
  rename_i a len e clip
  cases a with
  | none =>
    simp only [aCut, g_slice, Option.isSome_map, Option.isNone_map] at h ⊢
    split at h
    · cases h
    · rename_i h0
      rw [if_neg h0]
      simp only [Option.bind_eq_some_iff, Option.map_eq_some_iff] at h ⊢
      obtain ⟨a, ha, b, hb, c, hc, rfl⟩ := h
      exact ⟨a, bnd_g ha, b, bnd_g hb, c, bnd_g hc, by simp⟩
  | some a =>
    obtain ⟨o, vv, i⟩ := a
    simp only [aCut, g_slice, Option.isSome_map] at h ⊢
    cases he : Nat.beq e esz with
    | false => rw [he] at h; cases h
    | true =>
      rw [he] at h
      simp only [cond_true] at h ⊢
      cases mx with
      | none =>
        simp only [Option.map_none, Option.bind_eq_some_iff, Option.map_eq_some_iff] at h ⊢
        obtain ⟨b, hb, c, hc, rfl⟩ := h
        exact ⟨b, bnd_g hb, c, bnd_g hc, by simp⟩
      | some m =>
        simp only [Option.map_some] at h ⊢
        split at h
        · rename_i h1
          rw [if_pos h1]
          simp only [Option.bind_eq_some_iff, Option.map_eq_some_iff] at h ⊢
          obtain ⟨a, ha, b, hb, c, hc, rfl⟩ := h
          exact ⟨a, bnd_g (v := some m) ha, b, bnd_g hb, c, bnd_g hc, by simp⟩
        · cases h
theorem copy_g {esz : Nat} {d s v : AV} (h : aCopy esz S d s = some (v, S')) : aCopy esz (gS u S) (gV u d) (gV u s) = some (gV u v, gS u S') := by
  cases d <;> first | (simp [aCopy] at h; done) | skip
  rename_i a dl e clip
  cases a with
  | none => cases s <;> first | (simp [aCopy] at h; done) | (simp only [aCopy, g_slice] at h ⊢; cases h; simp)
  | some a =>
    obtain ⟨o, vv, i⟩ := a
    cases s <;> first | (simp [aCopy] at h; done) | skip
    rename_i a' sl e' clip'
    cases a' with
    | none => simp only [aCopy, g_slice] at h ⊢; cases h; simp
    | some a' =>
      obtain ⟨o', vv', i'⟩ := a'
      simp only [aCopy, g_slice] at h ⊢
      split at h
      · cases h
      · rename_i h0
        rw [if_neg h0]
        simp only [Option.bind_eq_some_iff, Option.map_eq_some_iff] at h ⊢
        obtain ⟨l, hl, S2, hw, h⟩ := h
        cases h
        exact ⟨_, rd_g hl, _, wr_g hw, by simp⟩
theorem clear_g {esz : Nat} {z : List AV} (hz : AV.nfs z = true) {x v : AV} (h : aClear esz z S x = some (v, S')) : aClear esz z (gS u S) (gV u x) = some (gV u v, gS u S') := by
  cases x <;> first | (simp [aClear] at h; done) | skip
  rename_i a len e clip
  cases a with
  | none => simp only [aClear, g_slice] at h ⊢; cases h; simp [AV.undef]
  | some a =>
    obtain ⟨o, vv, i⟩ := a
    simp only [aClear, g_slice] at h ⊢
    split at h
    · rename_i h0
      rw [if_pos h0]
      simp only [Option.map_eq_some_iff] at h ⊢
      obtain ⟨S2, hw, h⟩ := h
      cases h
      have := wr_g (u := u) hw
      rw [rep_g, nfl_g u hz] at this
      exact ⟨_, this, by simp [AV.undef]⟩
    · cases h
end
end Go.Proofs.YtajoogahcgbohaaGreatA
