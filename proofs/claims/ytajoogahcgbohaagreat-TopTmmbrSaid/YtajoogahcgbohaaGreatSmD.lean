/- Numbers that are not known, an operation, with forms. -/
import Derived.Test.YtajoogahcgbohaaGreatSmO
set_option linter.unusedVariables false
set_option linter.unusedSimpArgs false
namespace Go.Proofs.YtajoogahcgbohaaGreatA
open Go.RowKit

section
variable {u : Asg} {T : Tm} {S S' : St}
theorem ev_s {x : XO} (h : x.nf = true) {a : AV} (e : x.ev T = some a) : x.ev (gT u T) = some (gV u a) := by rw [ev_g h, e]; rfl
theorem args_s {l : List XO} (h : nfL l = true) {a : List AV} (e : evArgs T l = some a) : evArgs (gT u T) l = some (a.map (gV u)) := by rw [args_g h, e]; rfl
theorem parts_s {l : List (Nat × Nat × XO)} (h : nfP l = true) {a : List (Nat × Nat × AV)} (e : evParts T l = some a) : evParts (gT u T) l = some (a.map (gP u)) := by rw [parts_g h, e]; rfl
theorem opt_s {x : Option XO} (h : nfO x = true) {a : Option AV} (e : evOpt T x = some a) : evOpt (gT u T) x = some (a.map (gV u)) := by rw [opt_g h, e]; rfl
theorem op_g {op : AOp} (ok : op.okS = true) {v : AV} (h : evOp op T S = some (v, S')) : evOp op (gT u T) (gS u S) = some (gV u v, gS u S') := by
  cases op <;> try (simp [AOp.okS] at ok; done)
  case mv x =>
    obtain ⟨a, ha, h⟩ := Option.map_eq_some_iff.1 h
    cases h
    simp only [evOp, ev_s ok ha, Option.map_some]
  case pick c a b =>
    simp only [AOp.okS, Bool.and_eq_true] at ok
    obtain ⟨w, hw, h⟩ := Option.bind_eq_some_iff.1 h
    cases w <;> first | (cases h; done) | skip
    rename_i t
    simp only [evOp, ev_s ok.1.1 hw, Option.bind_some, g_bool]
    obtain ⟨z, hz, h⟩ := Option.map_eq_some_iff.1 h
    cases h
    cases t with
    | true => simp only [cond_true] at hz ⊢; simp only [ev_s ok.1.2 hz, Option.map_some]
    | false => simp only [cond_false] at hz ⊢; simp only [ev_s ok.2 hz, Option.map_some]
  case alloc z =>
    cases h
    simp only [evOp]
    have := newVar_g' (u := u) (S := S) z
    rw [nfl_g u ok] at this
    rw [this]; rfl
  case box x =>
    obtain ⟨w, hw, h⟩ := Option.bind_eq_some_iff.1 h
    simp only [evOp, ev_s ok hw, Option.bind_some, tup_g, cells_g]
    cases ht : w.tup with
    | true => rw [ht] at h; cases h
    | false =>
      rw [ht] at h
      cases h
      simp only [cond_false]
      rw [newVar_g']; rfl
  case build z ps =>
    simp only [AOp.okS, Bool.and_eq_true] at ok
    obtain ⟨w, hw, h⟩ := Option.bind_eq_some_iff.1 h
    obtain ⟨cs, hc, h⟩ := Option.map_eq_some_iff.1 h
    cases h
    have := fill_g (u := u) hc
    rw [nfl_g u ok.1] at this
    simp only [evOp, parts_s ok.2 hw, Option.bind_some, this, Option.map_some, g_agg]
  case buildSlice esz z len ps =>
    simp only [AOp.okS, Bool.and_eq_true] at ok
    obtain ⟨w, hw, h⟩ := Option.bind_eq_some_iff.1 h
    obtain ⟨cs, hc, h⟩ := Option.map_eq_some_iff.1 h
    cases h
    have := fill_g (u := u) hc
    rw [rep_g, nfl_g u ok.1] at this
    simp only [evOp, parts_s ok.2 hw, Option.bind_some, this, Option.map_some]
    rw [newSl_g']; rfl
  case load1 a =>
    obtain ⟨w, hw, h⟩ := Option.bind_eq_some_iff.1 h
    cases w <;> first | (cases h; done) | skip
    rename_i p
    cases p with
    | none => cases h
    | some p =>
      simp only [evOp, ev_s ok hw, Option.bind_some, g_ptr]
      obtain ⟨l, hl, h⟩ := Option.bind_eq_some_iff.1 h
      simp only [rd_g hl, Option.bind_some]
      cases hb : Nat.ble 1 p.n with
      | false => rw [hb] at h; cases h
      | true =>
        rw [hb] at h
        simp only [cond_true] at h ⊢
        cases l with
        | nil => cases h
        | cons x r => cases h; rfl
  case loadN n a =>
    obtain ⟨w, hw, h⟩ := Option.bind_eq_some_iff.1 h
    cases w <;> first | (cases h; done) | skip
    rename_i p
    cases p with
    | none => cases h
    | some p =>
      simp only [evOp, ev_s ok hw, Option.bind_some, g_ptr]
      dsimp only at h
      cases hb : Nat.ble n p.n with
      | false => rw [hb] at h; cases h
      | true =>
        rw [hb] at h
        simp only [cond_true] at h ⊢
        obtain ⟨l, hl, h⟩ := Option.map_eq_some_iff.1 h
        cases h
        simp only [rd_g hl, Option.map_some, g_agg]
  case store n a x =>
    simp only [AOp.okS, Bool.and_eq_true] at ok
    obtain ⟨w, hw, h⟩ := Option.bind_eq_some_iff.1 h
    cases w <;> first | (cases h; done) | skip
    rename_i p
    cases p with
    | none => cases h
    | some p =>
      simp only [evOp, ev_s ok.1 hw, Option.bind_some, g_ptr]
      obtain ⟨y, hy, h⟩ := Option.bind_eq_some_iff.1 h
      simp only [ev_s ok.2 hy, Option.bind_some, cells_g, tup_g, List.length_map]
      split at h
      · rename_i hc
        rw [if_pos hc]
        obtain ⟨S2, hs, h⟩ := Option.map_eq_some_iff.1 h
        cases h
        simp only [wr_g hs, Option.map_some]
        simp [AV.undef]
      · cases h
  case nilCheck x =>
    obtain ⟨w, hw, h⟩ := Option.bind_eq_some_iff.1 h
    simp only [evOp, ev_s ok hw, Option.bind_some]
    cases w <;> first | (cases h; done) | skip
    · rename_i p; cases p <;> first | (cases h; done) | (cases h; simp)
    · cases h; simp
    · cases h; simp
  case bin op et x y =>
    simp only [AOp.okS, Bool.and_eq_true] at ok
    obtain ⟨a, ha, h⟩ := Option.bind_eq_some_iff.1 h
    obtain ⟨b, hb, h⟩ := Option.bind_eq_some_iff.1 h
    obtain ⟨c, hc, h⟩ := Option.map_eq_some_iff.1 h
    cases h
    simp only [evOp, ev_s ok.1 ha, ev_s ok.2 hb, Option.bind_some, bin_g hc, Option.map_some]
  case un op x =>
    obtain ⟨a, ha, h⟩ := Option.bind_eq_some_iff.1 h
    obtain ⟨c, hc, h⟩ := Option.map_eq_some_iff.1 h
    cases h
    simp only [evOp, ev_s ok ha, Option.bind_some, un_g hc, Option.map_some]
  case conv c x =>
    obtain ⟨a, ha, h⟩ := Option.bind_eq_some_iff.1 h
    have hx : x.nf = true := by cases c <;> first | exact ok | (simp [AOp.okS] at ok)
    simp only [evOp, ev_s hx ha, Option.bind_some]
    refine conv_g ?_ h
    cases c <;> first | (simp [AOp.okS] at ok; done) | simp
  case mkIface t x =>
    obtain ⟨a, ha, h⟩ := Option.map_eq_some_iff.1 h
    cases h
    simp only [evOp, ev_s ok ha, Option.map_some, g_iface]
  case mkFunc f xs =>
    obtain ⟨a, ha, h⟩ := Option.map_eq_some_iff.1 h
    cases h
    simp only [evOp, args_s ok ha, Option.map_some, g_func]
  case mkSlice esz bytes z l c =>
    simp only [AOp.okS, Bool.and_eq_true] at ok
    obtain ⟨a, ha, h⟩ := Option.bind_eq_some_iff.1 h
    cases a <;> first | (cases h; done) | skip
    rename_i k n
    cases k <;> first | (cases h; done) | skip
    obtain ⟨b, hb, h⟩ := Option.bind_eq_some_iff.1 h
    cases b <;> first | (cases h; done) | skip
    rename_i k m
    cases k <;> first | (cases h; done) | skip
    simp only [evOp, ev_s ok.1.2 ha, ev_s ok.2 hb, Option.bind_some, g_int]
    dsimp only at h
    split at h
    · rename_i hc
      rw [if_pos hc]
      cases h
      have := newSl_g' (u := u) (S := S) (rep n.toNat z) n.toNat esz
      rw [rep_g, nfl_g u ok.1.1] at this
      rw [this]; rfl
    · cases h
  case cutStr x lo hi =>
    simp only [AOp.okS, Bool.and_eq_true] at ok
    obtain ⟨a, ha, h⟩ := Option.bind_eq_some_iff.1 h
    obtain ⟨b, hb, h⟩ := Option.bind_eq_some_iff.1 h
    obtain ⟨c, hc, h⟩ := Option.bind_eq_some_iff.1 h
    obtain ⟨d, hd, h⟩ := Option.map_eq_some_iff.1 h
    cases h
    simp only [evOp, ev_s ok.1.1 ha, opt_s ok.1.2 hb, opt_s ok.2 hc, Option.bind_some, cutStr_g hd, Option.map_some]
  case cut esz x lo hi mx =>
    simp only [AOp.okS, Bool.and_eq_true] at ok
    obtain ⟨a, ha, h⟩ := Option.bind_eq_some_iff.1 h
    obtain ⟨b, hb, h⟩ := Option.bind_eq_some_iff.1 h
    obtain ⟨c, hc, h⟩ := Option.bind_eq_some_iff.1 h
    obtain ⟨m, hm, h⟩ := Option.bind_eq_some_iff.1 h
    obtain ⟨d, hd, h⟩ := Option.map_eq_some_iff.1 h
    cases h
    simp only [evOp, ev_s ok.1.1.1 ha, opt_s ok.1.1.2 hb, opt_s ok.1.2 hc, opt_s ok.2 hm, Option.bind_some, cut_g hd, Option.map_some]
  case fieldAddr off n x =>
    obtain ⟨w, hw, h⟩ := Option.bind_eq_some_iff.1 h
    cases w <;> first | (cases h; done) | skip
    rename_i p
    cases p with
    | none => cases h
    | some p =>
      simp only [evOp, ev_s ok hw, Option.bind_some, g_ptr]
      dsimp only at h
      cases hb : (Nat.ble (off + n) p.n && Nat.ble 1 n) with
      | false => rw [hb] at h; cases h
      | true => rw [hb] at h; cases h; simp
  case field1 off x =>
    obtain ⟨w, hw, h⟩ := Option.bind_eq_some_iff.1 h
    cases w <;> first | (cases h; done) | skip
    rename_i cs
    obtain ⟨y, hy, h⟩ := Option.map_eq_some_iff.1 h
    cases h
    simp only [evOp, ev_s ok hw, Option.bind_some, g_agg, List.getElem?_map, hy, Option.map_some]
  case fieldN off n x =>
    obtain ⟨w, hw, h⟩ := Option.bind_eq_some_iff.1 h
    cases w <;> first | (cases h; done) | skip
    rename_i cs
    simp only [evOp, ev_s ok hw, Option.bind_some, g_agg, List.length_map]
    dsimp only at h
    split at h
    · rename_i hc
      rw [if_pos hc]
      cases h
      simp [List.map_drop, List.map_take]
    · cases h
  case ixSlice esz x i =>
    simp only [AOp.okS, Bool.and_eq_true] at ok
    obtain ⟨w, hw, h⟩ := Option.bind_eq_some_iff.1 h
    cases w <;> first | (cases h; done) | skip
    rename_i a len e clip
    cases a with
    | none => cases h
    | some a =>
      obtain ⟨o, vv, j⟩ := a
      simp only [evOp, ev_s ok.1 hw, Option.bind_some, g_slice]
      dsimp only at h
      split at h
      · rename_i hc
        rw [if_pos hc]
        obtain ⟨y, hy, h⟩ := Option.bind_eq_some_iff.1 h
        obtain ⟨k, hk, h⟩ := Option.map_eq_some_iff.1 h
        cases h
        simp only [ev_s ok.2 hy, Option.bind_some, ix_g hk, Option.map_some, g_ptr]
      · cases h
  case ixArr len esz x i =>
    simp only [AOp.okS, Bool.and_eq_true] at ok
    obtain ⟨w, hw, h⟩ := Option.bind_eq_some_iff.1 h
    cases w <;> first | (cases h; done) | skip
    rename_i p
    cases p with
    | none => cases h
    | some p =>
      obtain ⟨y, hy, h⟩ := Option.bind_eq_some_iff.1 h
      obtain ⟨k, hk, h⟩ := Option.bind_eq_some_iff.1 h
      simp only [evOp, ev_s ok.1 hw, ev_s ok.2 hy, Option.bind_some, g_ptr, ix_g hk]
      cases hb : Nat.ble (len * esz) p.n with
      | false => rw [hb] at h; cases h
      | true => rw [hb] at h; cases h; simp
  case ixStr x i =>
    simp only [AOp.okS, Bool.and_eq_true] at ok
    obtain ⟨w, hw, h⟩ := Option.bind_eq_some_iff.1 h
    cases w <;> first | (cases h; done) | skip
    rename_i s
    obtain ⟨y, hy, h⟩ := Option.bind_eq_some_iff.1 h
    obtain ⟨k, hk, h⟩ := Option.bind_eq_some_iff.1 h
    obtain ⟨b, hb, h⟩ := Option.map_eq_some_iff.1 h
    cases h
    simp only [evOp, ev_s ok.1 hw, ev_s ok.2 hy, Option.bind_some, g_str, ix_g hk, hb, Option.map_some, g_int]
  case ixAgg1 len x i =>
    simp only [AOp.okS, Bool.and_eq_true] at ok
    obtain ⟨w, hw, h⟩ := Option.bind_eq_some_iff.1 h
    cases w <;> first | (cases h; done) | skip
    rename_i cs
    obtain ⟨y, hy, h⟩ := Option.bind_eq_some_iff.1 h
    obtain ⟨k, hk, h⟩ := Option.bind_eq_some_iff.1 h
    obtain ⟨b, hb, h⟩ := Option.map_eq_some_iff.1 h
    cases h
    simp only [evOp, ev_s ok.1 hw, ev_s ok.2 hy, Option.bind_some, g_agg, ix_g hk, List.getElem?_map, hb, Option.map_some]
  case ixAggN len esz x i =>
    simp only [AOp.okS, Bool.and_eq_true] at ok
    obtain ⟨w, hw, h⟩ := Option.bind_eq_some_iff.1 h
    cases w <;> first | (cases h; done) | skip
    rename_i cs
    obtain ⟨y, hy, h⟩ := Option.bind_eq_some_iff.1 h
    obtain ⟨k, hk, h⟩ := Option.bind_eq_some_iff.1 h
    simp only [evOp, ev_s ok.1 hw, ev_s ok.2 hy, Option.bind_some, g_agg, ix_g hk, List.length_map]
    split at h
    · rename_i hc
      rw [if_pos hc]
      cases h
      simp [List.map_drop, List.map_take]
    · cases h
  case extract i x =>
    obtain ⟨w, hw, h⟩ := Option.bind_eq_some_iff.1 h
    cases w <;> first | (cases h; done) | skip
    rename_i cs
    obtain ⟨y, hy, h⟩ := Option.map_eq_some_iff.1 h
    cases h
    simp only [evOp, ev_s ok hw, Option.bind_some, g_tuple, List.getElem?_map, hy, Option.map_some]
  case append esz bytes s x =>
    simp only [AOp.okS, Bool.and_eq_true] at ok
    obtain ⟨a, ha, h⟩ := Option.bind_eq_some_iff.1 h
    obtain ⟨b, hb, h⟩ := Option.bind_eq_some_iff.1 h
    cases b <;> first | (cases h; done) | skip
    rename_i p len e clip
    cases p with
    | none =>
      simp only [evOp, ev_s ok.1 ha, ev_s ok.2 hb, Option.bind_some, g_slice]
      exact append_g (u := u) (xs := []) h
    | some p =>
      obtain ⟨o, vv, i⟩ := p
      simp only [evOp, ev_s ok.1 ha, ev_s ok.2 hb, Option.bind_some, g_slice]
      dsimp only at h
      split at h
      · rename_i hc
        rw [if_pos hc]
        obtain ⟨l, hl, h⟩ := Option.bind_eq_some_iff.1 h
        simp only [rd_g hl, Option.bind_some]
        exact append_g h
      · cases h
  case len x =>
    obtain ⟨w, hw, h⟩ := Option.bind_eq_some_iff.1 h
    cases w <;> first | (cases h; done) | skip
    simp only [evOp, ev_s ok hw, Option.bind_some, g_slice]
    dsimp only at h
    split at h
    · rename_i hc; rw [if_pos hc]; cases h; simp
    · cases h
  case lenS x =>
    obtain ⟨w, hw, h⟩ := Option.bind_eq_some_iff.1 h
    cases w <;> first | (cases h; done) | skip
    simp only [evOp, ev_s ok hw, Option.bind_some, g_str]
    dsimp only at h
    split at h
    · rename_i hc; rw [if_pos hc]; cases h; simp
    · cases h
  case lenArr n => cases h; simp [evOp]
  case mx xs =>
    obtain ⟨l, hl, h⟩ := Option.bind_eq_some_iff.1 h
    obtain ⟨y, hy, h⟩ := Option.map_eq_some_iff.1 h
    cases h
    simp only [evOp, args_s ok hl, Option.bind_some, maxI_g hy, Option.map_some]
  case mn xs =>
    obtain ⟨l, hl, h⟩ := Option.bind_eq_some_iff.1 h
    obtain ⟨y, hy, h⟩ := Option.map_eq_some_iff.1 h
    cases h
    simp only [evOp, args_s ok hl, Option.bind_some, minI_g hy, Option.map_some]
  case copy esz d s =>
    simp only [AOp.okS, Bool.and_eq_true] at ok
    obtain ⟨a, ha, h⟩ := Option.bind_eq_some_iff.1 h
    obtain ⟨b, hb, h⟩ := Option.bind_eq_some_iff.1 h
    simp only [evOp, ev_s ok.1 ha, ev_s ok.2 hb, Option.bind_some]
    exact copy_g h
  case cap x =>
    obtain ⟨w, hw, h⟩ := Option.bind_eq_some_iff.1 h
    cases w <;> first | (cases h; done) | skip
    rename_i a len e clip
    simp only [evOp, ev_s ok hw, Option.bind_some, g_slice]
    cases a with
    | none => cases h; simp
    | some a =>
      cases clip with
      | none => cases h
      | some c =>
        dsimp only at h ⊢
        split at h
        · rename_i hc; rw [if_pos hc]; cases h; simp
        · cases h
  case appendZ esz bytes z s n =>
    simp only [AOp.okS, Bool.and_eq_true] at ok
    obtain ⟨a, ha, h⟩ := Option.bind_eq_some_iff.1 h
    obtain ⟨b, hb, h⟩ := Option.bind_eq_some_iff.1 h
    cases b <;> first | (cases h; done) | skip
    rename_i k m
    cases k <;> first | (cases h; done) | skip
    simp only [evOp, ev_s ok.1.2 ha, ev_s ok.2 hb, Option.bind_some, g_int]
    dsimp only at h
    split at h
    · rename_i hc
      rw [if_pos hc]
      have := append_g (u := u) h
      rw [rep_g, nfl_g u ok.1.1] at this
      exact this
    · cases h
  case cutArr n esz x lo hi =>
    simp only [AOp.okS, Bool.and_eq_true] at ok
    obtain ⟨w, hw, h⟩ := Option.bind_eq_some_iff.1 h
    cases w <;> first | (cases h; done) | skip
    rename_i p
    cases p with
    | none => cases h
    | some p =>
      simp only [evOp, ev_s ok.1.1 hw, Option.bind_some, g_ptr]
      dsimp only at h
      cases hb : Nat.ble (n * esz) p.n with
      | false => rw [hb] at h; cases h
      | true =>
        rw [hb] at h
        simp only [cond_true] at h ⊢
        obtain ⟨q, hq, h⟩ := Option.bind_eq_some_iff.1 h
        obtain ⟨l, hl, h⟩ := Option.bind_eq_some_iff.1 h
        obtain ⟨r, hr, h⟩ := Option.bind_eq_some_iff.1 h
        obtain ⟨b, hb, h⟩ := Option.bind_eq_some_iff.1 h
        obtain ⟨c, hc, h⟩ := Option.map_eq_some_iff.1 h
        cases h
        simp only [rd_g hq, opt_s ok.1.2 hl, opt_s ok.2 hr, Option.bind_some, bnd_g hb, bnd_g hc, Option.map_some, g_slice]
  case clr esz z x =>
    simp only [AOp.okS, Bool.and_eq_true] at ok
    obtain ⟨a, ha, h⟩ := Option.bind_eq_some_iff.1 h
    simp only [evOp, ev_s ok.2 ha, Option.bind_some]
    exact clear_g ok.1 h
/-! ### Lines -/
def AOp.okC : AOp → Bool
  | .call _ xs => nfL xs
  | .callV x xs | .invoke _ _ x xs => x.nf && nfL xs
  | _ => false
theorem callee_g {op : AOp} (ok : op.okC = true) {f : Nat} {l : List AV} (h : callee op T = some (f, l)) : callee op (gT u T) = some (f, l.map (gV u)) := by
  cases op <;> try (simp [AOp.okC] at ok; done)
  case call g xs =>
    obtain ⟨a, ha, h⟩ := Option.map_eq_some_iff.1 h
    cases h
    simp only [callee, args_s ok ha, Option.map_some]
  case callV x xs =>
    simp only [AOp.okC, Bool.and_eq_true] at ok
    obtain ⟨w, hw, h⟩ := Option.bind_eq_some_iff.1 h
    cases w <;> first | (cases h; done) | skip
    obtain ⟨a, ha, h⟩ := Option.map_eq_some_iff.1 h
    cases h
    simp only [callee, ev_s ok.1 hw, Option.bind_some, g_func, args_s ok.2 ha, Option.map_some, List.map_append]
  case invoke nm tab x xs =>
    simp only [AOp.okC, Bool.and_eq_true] at ok
    obtain ⟨w, hw, h⟩ := Option.bind_eq_some_iff.1 h
    cases w <;> first | (cases h; done) | skip
    obtain ⟨p, hp, h⟩ := Option.bind_eq_some_iff.1 h
    obtain ⟨a, ha, h⟩ := Option.map_eq_some_iff.1 h
    cases h
    simp only [callee, ev_s ok.1 hw, Option.bind_some, g_iface, hp, args_s ok.2 ha, Option.map_some, List.map_cons]
def mxL (s : Sp) (a : Ln) : List AV → Option AV
  | [] => mkL s a
  | v :: r => (lnOf v).bind fun b => if a.k = b.k then (if (subL a b).hi s ≤ 0 then mxL s b r else if 0 ≤ (subL a b).lo s then mxL s a r else none) else none
def mnL (s : Sp) (a : Ln) : List AV → Option AV
  | [] => mkL s a
  | v :: r => (lnOf v).bind fun b => if a.k = b.k then (if (subL a b).hi s ≤ 0 then mnL s a r else if 0 ≤ (subL a b).lo s then mnL s b r else none) else none
theorem mxL_g {s : Sp} (hu : s.has u) : ∀ {l : List AV} {a : Ln} {v : AV}, mxL s a l = some v → maxFrom a.k (a.at u) (l.map (gV u)) = some (gV u v)
  | [], a, v, h => by simp only [List.map_nil, maxFrom, (mkL_g hu h).1]
  | x :: r, a, v, h => by
    obtain ⟨b, hb, h⟩ := Option.bind_eq_some_iff.1 h
    split at h
    · rename_i hk
      simp only [List.map_cons, lnOf_g hb, maxFrom, if_pos hk]
      have h1 := (subL a b).lo_le hu
      have h2 := (subL a b).le_hi hu
      have h3 := subL_at (u := u) a b
      split at h
      · have := mxL_g hu h
        rw [← hk] at this
        have e : (if a.at u < b.at u then b.at u else a.at u) = b.at u := by split <;> omega
        rw [e]; exact this
      · split at h
        · have := mxL_g hu h
          have e : (if a.at u < b.at u then b.at u else a.at u) = a.at u := by split <;> omega
          rw [e]; exact this
        · cases h
    · cases h
theorem mnL_g {s : Sp} (hu : s.has u) : ∀ {l : List AV} {a : Ln} {v : AV}, mnL s a l = some v → minFrom a.k (a.at u) (l.map (gV u)) = some (gV u v)
  | [], a, v, h => by simp only [List.map_nil, minFrom, (mkL_g hu h).1]
  | x :: r, a, v, h => by
    obtain ⟨b, hb, h⟩ := Option.bind_eq_some_iff.1 h
    split at h
    · rename_i hk
      simp only [List.map_cons, lnOf_g hb, minFrom, if_pos hk]
      have h1 := (subL a b).lo_le hu
      have h2 := (subL a b).le_hi hu
      have h3 := subL_at (u := u) a b
      split at h
      · have := mnL_g hu h
        have e : (if b.at u < a.at u then b.at u else a.at u) = a.at u := by split <;> omega
        rw [e]; exact this
      · split at h
        · have := mnL_g hu h
          rw [← hk] at this
          have e : (if b.at u < a.at u then b.at u else a.at u) = b.at u := by split <;> omega
          rw [e]; exact this
        · cases h
    · cases h
def anyF : List AV → Bool
  | [] => false
  | v :: r => v.isF || anyF r
theorem wrap_mod {k : IntKind} (h : k.signed = false) (n : Int) : k.wrap n = n % ((2 ^ k.bits : Nat) : Int) := by
  cases k <;> first | (cases h; done) | (simp [IntKind.wrap, IntKind.signed, IntKind.bits])
def convL (s : Sp) (k : IntKind) (l : Ln) : Option AV :=
  match mkL s ⟨k, l.a, l.c⟩ with
  | some v => some v
  | none => bif k.signed then none else (qrL s l ((2 ^ k.bits : Nat) : Int)).bind fun p => mkL s ⟨k, p.2.a, p.2.c⟩
theorem convL_g {s : Sp} (hu : s.has u) {k : IntKind} {l : Ln} {v : AV} (h : convL s k l = some v) : gV u v = .int k (k.wrap (l.at u)) := by
  unfold convL at h
  cases hm : mkL s ⟨k, l.a, l.c⟩ with
  | some w =>
    rw [hm] at h
    cases h
    obtain ⟨h1, h2, h3⟩ := mkL_g hu hm
    have e : (⟨k, l.a, l.c⟩ : Ln).at u = l.at u := rfl
    rw [e] at h1 h2 h3
    rw [wrap_in h2 h3, h1]
  | none =>
    rw [hm] at h
    cases hs : k.signed with
    | true => rw [hs] at h; cases h
    | false =>
      rw [hs] at h
      simp only [cond_false] at h
      obtain ⟨p, hq, h⟩ := Option.bind_eq_some_iff.1 h
      obtain ⟨q, r⟩ := p
      obtain ⟨q1, q2, q3, q4, q5⟩ := qrL_g hu hq
      obtain ⟨h1, h2, h3⟩ := mkL_g hu h
      have e : (⟨k, r.a, r.c⟩ : Ln).at u = r.at u := rfl
      rw [e, q3] at h1
      rw [wrap_mod hs, h1]
/-- Structs, held against each other. -/
def strL (s : Sp) (o : BinOp) (et : ET) (a b : AV) (x y : XO) : Option AV :=
  match et, a, b with
  | .strct fs, .agg xs, .agg ys => bif x.nf && y.nf then (match o with
    | .eql => (eqFL s xs ys fs).map .bool
    | .neq => (eqFL s xs ys fs).map fun b => .bool (!b)
    | _ => none) else none
  | _, _, _ => none
/-- An operation that meets a line. -/
noncomputable def symOp (s : Sp) (op : AOp) (T : Tm) : Option AV :=
  match op with
  | .bin o et x y => Option.casesOn (motive := fun _ => Option AV) (evXK T x) none fun a => Option.casesOn (motive := fun _ => Option AV) (evXK T y) none fun b =>
    Bool.casesOn (motive := fun _ => Option AV) (a.isF || b.isF) (strL s o et a b x y) (Bool.casesOn (motive := fun _ => Option AV) (x.nf && y.nf) none ((lnOf a).bind fun a => (lnOf b).bind fun b => binL s o a b))
  | .conv (.int k) x => Option.casesOn (motive := fun _ => Option AV) (evXK T x) none fun a => Bool.casesOn (motive := fun _ => Option AV) (a.isF && x.nf) none ((lnOf a).bind fun l => convL s k l)
  | .mx xs => (evArgs T xs).bind fun l => bif anyF l && nfL xs then (match l with
    | [] => none
    | v :: r => (lnOf v).bind fun a => mxL s a r) else none
  | .mn xs => (evArgs T xs).bind fun l => bif anyF l && nfL xs then (match l with
    | [] => none
    | v :: r => (lnOf v).bind fun a => mnL s a r) else none
  | _ => none
theorem sym_g {s : Sp} (hu : s.has u) {op : AOp} {v : AV} (h : symOp s op T = some v) : evOp op (gT u T) (gS u S) = some (gV u v, gS u S) := by
  cases op <;> simp only [symOp] at h <;> try (cases h; done)
  case bin o et x y =>
    simp only [ob, bc, evXK_eq] at h
    obtain ⟨a, ha, h⟩ := Option.bind_eq_some_iff.1 h
    obtain ⟨b, hb, h⟩ := Option.bind_eq_some_iff.1 h
    cases hf : (a.isF || b.isF) with
    | false =>
      rw [hf] at h
      replace h : strL s o et a b x y = some v := h
      cases et <;> try (cases h; done)
      rename_i fs
      cases a <;> try (cases h; done)
      rename_i xs
      cases b <;> try (cases h; done)
      rename_i ys
      unfold strL at h
      cases hc : (x.nf && y.nf) with
      | false => rw [hc] at h; cases h
      | true =>
        rw [hc] at h
        simp only [Bool.and_eq_true] at hc
        simp only [evOp, ev_s hc.1 ha, ev_s hc.2 hb, Option.bind_some, g_agg]
        cases o <;> try (cases h; done)
        · obtain ⟨t, ht, h⟩ := Option.map_eq_some_iff.1 h
          cases h
          simp only [aBin, aBinE, aEq, eqFL_g hu ht, Option.map_some, g_bool]
        · obtain ⟨t, ht, h⟩ := Option.map_eq_some_iff.1 h
          cases h
          simp only [aBin, aBinE, aEq, eqFL_g hu ht, Option.map_some, g_bool]
    | true =>
      rw [hf] at h
      cases hc : (x.nf && y.nf) with
      | false => rw [hc] at h; cases h
      | true =>
        rw [hc] at h
        simp only [Bool.and_eq_true] at hc
        obtain ⟨la, hla, h⟩ := Option.bind_eq_some_iff.1 h
        obtain ⟨lb, hlb, h⟩ := Option.bind_eq_some_iff.1 h
        simp only [evOp, ev_s hc.1 ha, ev_s hc.2 hb, Option.bind_some, lnOf_g hla, lnOf_g hlb, binL_g hu h, Option.map_some]
  case conv c x =>
    cases c <;> try (cases h; done)
    rename_i k
    simp only [ob, bc, evXK_eq] at h
    obtain ⟨a, ha, h⟩ := Option.bind_eq_some_iff.1 h
    cases hc : (a.isF && x.nf) with
    | false => rw [hc] at h; cases h
    | true =>
      rw [hc] at h
      simp only [Bool.and_eq_true] at hc
      obtain ⟨l, hl, h⟩ := Option.bind_eq_some_iff.1 h
      simp only [evOp, ev_s hc.2 ha, Option.bind_some, lnOf_g hl, aConv, convL_g hu h]
  case mx xs =>
    obtain ⟨l, hl, h⟩ := Option.bind_eq_some_iff.1 h
    cases hc : (anyF l && nfL xs) with
    | false => rw [hc] at h; cases h
    | true =>
      rw [hc] at h
      simp only [Bool.and_eq_true] at hc
      cases l with
      | nil => cases h
      | cons a r =>
        obtain ⟨la, hla, h⟩ := Option.bind_eq_some_iff.1 h
        simp only [evOp, args_s hc.2 hl, Option.bind_some, List.map_cons, lnOf_g hla, maxI, mxL_g hu h, Option.map_some]
  case mn xs =>
    obtain ⟨l, hl, h⟩ := Option.bind_eq_some_iff.1 h
    cases hc : (anyF l && nfL xs) with
    | false => rw [hc] at h; cases h
    | true =>
      rw [hc] at h
      simp only [Bool.and_eq_true] at hc
      cases l with
      | nil => cases h
      | cons a r =>
        obtain ⟨la, hla, h⟩ := Option.bind_eq_some_iff.1 h
        simp only [evOp, args_s hc.2 hl, Option.bind_some, List.map_cons, lnOf_g hla, minI, mnL_g hu h, Option.map_some]
theorem sym_calls {s : Sp} {op : AOp} {v : AV} (h : symOp s op T = some v) : op.calls = false := by
  cases op <;> first | rfl | (simp only [symOp] at h; cases h)
theorem okS_calls {op : AOp} (h : op.okS = true) : op.calls = false := by
  cases op <;> first | rfl | (simp [AOp.okS] at h)
theorem okC_calls {op : AOp} (h : op.okC = true) : op.calls = true := by
  cases op <;> first | rfl | (simp [AOp.okC] at h)
/-- An operation. -/
noncomputable def evAnyS (s : Sp) (op : AOp) (call : Cal) (T : Tm) (S : St) : Res :=
  Option.casesOn (motive := fun _ => Res) (symOp s op T) (Bool.casesOn (motive := fun _ => Res) (op.okS || op.okC) none (evAnyK op call T S)) (fun v => some (v, S))
/-- What a call tells for lines is what it tells for each u. -/
def CalG (u : Asg) (cS c : Cal) : Prop := ∀ f l S v S', cS f l S = some (v, S') → c f (l.map (gV u)) (gS u S) = some (gV u v, gS u S')
theorem any_g {s : Sp} (hu : s.has u) {cS c : Cal} (hc : CalG u cS c) {op : AOp} {v : AV} (h : evAnyS s op cS T S = some (v, S')) : evAny c op (gT u T) (gS u S) = some (gV u v, gS u S') := by
  unfold evAnyS at h
  cases hs : symOp s op T with
  | some w =>
    rw [hs] at h; cases h
    simp only [evAny, sym_calls hs, cond_false]
    exact sym_g hu hs
  | none =>
    rw [hs] at h
    cases ho : op.okS with
    | true =>
      rw [ho] at h
      replace h : evAnyK op cS T S = some (v, S') := h
      rw [evAnyK_eq] at h
      simp only [evAny, okS_calls ho, cond_false] at h ⊢
      exact op_g ho h
    | false =>
      rw [ho] at h
      cases hq : op.okC with
      | false => rw [hq] at h; cases h
      | true =>
        rw [hq] at h
        replace h : evAnyK op cS T S = some (v, S') := h
        rw [evAnyK_eq] at h
        simp only [evAny, okC_calls hq, cond_true] at h ⊢
        obtain ⟨p, hp, h⟩ := Option.bind_eq_some_iff.1 h
        obtain ⟨f, l⟩ := p
        rw [callee_g hq hp, Option.bind_some]
        exact hc f l S v S' h
end
end Go.Proofs.YtajoogahcgbohaaGreatA
