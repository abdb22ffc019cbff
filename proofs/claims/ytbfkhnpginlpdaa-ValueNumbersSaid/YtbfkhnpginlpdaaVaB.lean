/- Chapter 7: Layers of lists; ValueParts. -/
import Derived.Test.YtbfkhnpginlpdaaVaA
set_option linter.unusedVariables false
set_option linter.unusedSimpArgs false
set_option maxRecDepth 10000
namespace Go.Proofs.YtbfkhnpginlpdaaA
open Go.RowKit
attribute [local congr] bind_congr1 map_congr1 cond_congr1 withX_congr after_congr br_congr gd_congr

theorem bnd_some {k : IntKind} {n : Int} {d y : Nat} (h0 : 0 ≤ n) (h1 : n ≤ y) : bnd (some (.int k n)) d y = some n.toNat := by simp only [bnd]; rw [if_pos ⟨h0, h1⟩]
theorem bnd_none (d y : Nat) : bnd none d y = some d := rfl
/-- A row of layers that grows, made since S0. -/
structure Lg (S0 S : St) (p : Option (Nat × Nat × Nat)) (e : Nat) (L : List Ly) : Prop where
  vec : Vec S p L.length 3 e (lcs L)
  ext : Ext S0 S
  new : ∀ o v i, p = some (o, v, i) → S0.next ≤ o
theorem Lg.more {S0 S S' : St} {p : Option (Nat × Nat × Nat)} {e : Nat} {L : List Ly} (h : Lg S0 S p e L) (x : Ext S S') : Lg S0 S' p e L := ⟨h.vec.ext x, h.ext.trans x, h.new⟩
theorem Lg.app {S0 S : St} {p : Option (Nat × Nat × Nat)} {e : Nat} {L : List Ly} (h : Lg S0 S p e L) {M : List Ly} (hr : L.length + M.length ≤ 1000000) :
    ∃ p' e' S', aAppend 3 32 S (.slice p L.length e none) M.length (lcs M) = some (.slice p' (L ++ M).length e' none, S') ∧ Lg S0 S' p' e' (L ++ M) := by
  by_cases h0 : M.length = 0
  · have : M = [] := List.length_eq_zero_iff.1 h0
    subst this
    refine ⟨p, e, S, ?_, by rw [List.append_nil]; exact h⟩
    rw [List.append_nil]
    rcases p with _ | ⟨o, v, i⟩
    · simp [aAppend]
    · obtain rfl := h.vec.ez.resolve_left (by simp)
      simp [aAppend]
  · obtain ⟨p', S', h1, h2, h3, h4⟩ := h.vec.append (bytes := 32) (xs := lcs M) (n := M.length) (lcs_len M) h0 (by omega)
    refine ⟨p', 3, S', by rw [h1, List.length_append], ⟨by rw [List.length_append, lcs_app]; exact h2, ⟨Nat.le_trans h.ext.next h3.next, fun o ho => ?_⟩, fun o v i hp => ?_⟩⟩
    · rw [h3.old o (Nat.lt_of_lt_of_le ho h.ext.next) (fun v i hp => by have := h.new o v i hp; omega)]
      exact h.ext.old o ho
    · rcases h4 o v i hp with h5 | ⟨v', i', h5⟩
      · exact Nat.le_trans h.ext.next h5
      · exact h.new _ _ _ h5
/-- slices.Clip -/
theorem T18 (k : Nat) {S : St} {p : Option (Nat × Nat × Nat)} {e : Nat} {L : List Ly} (h : Lr S p e L) : ∃ p' e' c', evF Y AP (k + 2) 18 [.slice p L.length e none] S = some (.slice p' L.length e' c', S) ∧ Lr S p' e' L := by
  have hm := h.mx
  rcases p with _ | ⟨o, v, i⟩
  · obtain rfl := h.nil rfl
    refine ⟨none, 3, none, ?_, ⟨.inl rfl, fun _ => rfl, fun _ _ _ hp => (by cases hp), by simp, fun _ hx => (by cases hx)⟩⟩
    rw [evF_body (af := af18) rfl rfl rfl]
    simp -implicitDefEqProofs -dsimp (maxSteps := 10000000) only [af18, kC, ↓kQ, ↓Option.bind_some, ↓Option.map_some, ↓cond_true, ↓cond_false, evC, evOp, XO.lit, setArgs, Tr.tabG, Tr.tabS, Tr.tabL, Tr.get_lf, Option.bind_some, Option.map_some, cond_true, cond_false, maxI, maxFrom, minI, minFrom, aConv, aBinE, aEq, eqScal, aUn, evRes, fin, oneOf, if_true, if_false, callee, reduceCtorEq, Nat.reduceEqDiff, List.getElem?_cons_zero, List.getElem?_cons_succ, beq_self_eq_true, gt_iff_lt, List.head?_cons, AV.undef, eq_self, ne_eq, Int.reduceLT, Int.reduceLE, Int.reduceToNat, Int.reduceEq, Int.reduceNeg, Nat.reduceAdd, Nat.reduceLT, Nat.reduceLeDiff, Nat.reduceMul, Nat.reduceSub, ↓evDraw_nil, bir, putD, evDraw, trace, List.all_cons, List.all_nil, chk, stAt, again, sameV, sameL, sameA, AV.undef, Bool.and_self, Bool.and_true, decide_eq_true_eq, List.getElem?_nil, aFill, evParts, rep, List.replicate_succ, List.replicate_zero, List.flatten_cons, List.flatten_nil, List.append_nil, newSl, newVar, evOpt, List.length_nil]
    rfl
  · obtain rfl := h.ez.resolve_left (by simp)
    refine ⟨some (o, v, i), 3, some L.length, ?_, h⟩
    have b1 : bnd (some (.int .i64 (L.length : Int))) 0 L.length = some L.length := by simp [bnd]
    have b2 : bnd none 0 L.length = some 0 := rfl
    rw [evF_body (af := af18) rfl rfl rfl]
    simp -implicitDefEqProofs -dsimp (maxSteps := 10000000) only [af18, kC, ↓kQ, ↓Option.bind_some, ↓Option.map_some, ↓cond_true, ↓cond_false, evC, evOp, XO.lit, setArgs, Tr.tabG, Tr.tabS, Tr.tabL, Tr.get_lf, Option.bind_some, Option.map_some, cond_true, cond_false, maxI, maxFrom, minI, minFrom, aConv, aBinE, aEq, eqScal, aUn, evRes, fin, oneOf, if_true, if_false, callee, reduceCtorEq, Nat.reduceEqDiff, List.getElem?_cons_zero, List.getElem?_cons_succ, beq_self_eq_true, gt_iff_lt, List.head?_cons, AV.undef, eq_self, ne_eq, Int.reduceLT, Int.reduceLE, Int.reduceToNat, Int.reduceEq, Int.reduceNeg, Nat.reduceAdd, Nat.reduceLT, Nat.reduceLeDiff, Nat.reduceMul, Nat.reduceSub, ↓evDraw_nil, bir, putD, evDraw, trace, List.all_cons, List.all_nil, chk, stAt, again, sameV, sameL, sameA, AV.undef, Bool.and_self, Bool.and_true, decide_eq_true_eq, List.getElem?_nil, aFill, evParts, rep, List.replicate_succ, List.replicate_zero, List.flatten_cons, List.flatten_nil, List.append_nil, newSl, newVar, evOpt, aCut, hm, b1, b2, Option.isSome_some, Nat.zero_mul, Nat.add_zero, Nat.sub_zero]
/-- next, of a list -/
theorem T17l (k : Nat) {S : St} {o v i n : Nat} {c c' : Option Nat} {p : Option (Nat × Nat × Nat)} {e : Nat} {L : List Ly} (hn : 1 ≤ n) (hr : S.rd o v i 1 = some [.iface 29 (.slice p L.length e c')]) (hL : Lr S p e L) (hk : L.all okL = true) :
    ∃ S', evF Y AP (k + L.length + 7) 17 [.slice (some (o, v, i)) n 1 c] S = some (.tuple [.slice p L.length e c', .int .i64 1, .int .i64 0], S') ∧ Ext S S' := by
  obtain ⟨S', q, x⟩ := T23 k (c := c') hL
  rw [hk] at q
  have hix : ixOf (.int .i64 0) n = some 0 := by rw [ix_ok (by omega) (by omega)]; rfl
  refine ⟨S', ?_, x⟩
  rw [evF_body (af := af17) rfl rfl rfl]
  simp -implicitDefEqProofs -dsimp (maxSteps := 10000000) only [af17, kC, ↓kQ, ↓Option.bind_some, ↓Option.map_some, ↓cond_true, ↓cond_false, evC, evOp, XO.lit, setArgs, Tr.tabG, Tr.tabS, Tr.tabL, Tr.get_lf, Option.bind_some, Option.map_some, cond_true, cond_false, maxI, maxFrom, minI, minFrom, aConv, aBinE, aEq, eqScal, aUn, evRes, fin, oneOf, if_true, if_false, callee, reduceCtorEq, Nat.reduceEqDiff, List.getElem?_cons_zero, List.getElem?_cons_succ, beq_self_eq_true, gt_iff_lt, List.head?_cons, AV.undef, eq_self, ne_eq, Int.reduceLT, Int.reduceLE, Int.reduceToNat, Int.reduceEq, Int.reduceNeg, Nat.reduceAdd, Nat.reduceLT, Nat.reduceLeDiff, Nat.reduceMul, Nat.reduceSub, ↓evDraw_nil, bir, putD, evDraw, trace, List.all_cons, List.all_nil, chk, stAt, again, sameV, sameL, sameA, AV.undef, Bool.and_self, Bool.and_true, decide_eq_true_eq, List.getElem?_nil, kM, AV.cells, AV.tup, List.drop_nil, List.append_nil, rdO, St.wr, List.length_cons, List.length_nil, List.take_succ_cons, List.take_zero, List.drop_succ_cons, List.drop_zero, List.cons_append, List.nil_append, Nat.reduceMul, aFill, evParts, rep, List.replicate_succ, List.replicate_zero, List.flatten_cons, List.flatten_nil, List.append_nil, newSl, newVar, hix, Nat.mul_one, Nat.zero_mul, Nat.add_zero, hr, aAssert, q, Bool.not_true]
structure Lv where
  p : Option (Nat × Nat × Nat)
  e : Nat
  L : List Ly
def lvs (l : List Lv) : List AV := l.map fun x => .iface 29 (.slice x.p x.L.length x.e none)
structure I8 (Sb : St) (all : List Ly) (m : Nat) (T : Tm) (S : St) : Prop where
  more : ∃ (o v j : Nat) (rest : List Lv) (p : Option (Nat × Nat × Nat)) (e : Nat) (out : List Ly), T.get 0 = some (.slice (some (o, v, j)) rest.length 1 none) ∧ o < Sb.next ∧ Sb.rd o v j rest.length = some (lvs rest) ∧ (∀ x ∈ rest, Lr Sb x.p x.e x.L ∧ x.L.all okL = true) ∧
    T.get 4 = some (.slice p out.length e none) ∧ Lg Sb S p e out ∧ out ++ (rest.map (·.L)).flatten = all ∧ rest.length = m ∧ m ≤ 1000
set_option maxHeartbeats 4000000 in
theorem round8 (k : Nat) {Sb : St} {all : List Ly} (ha : all.length ≤ 900000) (m : Nat) (T : Tm) (S : St) (hI : I8 Sb all m T S) :
    Goes (evF Y AP (k + all.length + 7)) (k + all.length + 7) af8_l0 T S (Then (fun T' S' => ∃ m', I8 Sb all m' T' S' ∧ id m' < id m) fun r T' S' => r = .exit 0 ∧ ∃ p e, T'.get 4 = some (.slice p all.length e none) ∧ Lg Sb S' p e all) := by
  obtain ⟨o, v, j, rest, p, e, out, t0, ho, hr, hL, t4, G, hall, hm, hm2⟩ := hI
  rcases rest with _ | ⟨x, rest⟩
  · have : out = all := by rw [← hall]; simp
    subst this
    have c0 : ¬ (0 : Int) < ((0 : Nat) : Int) := by decide
    have m0 : (0 : Nat) ≤ 9223372036854775807 := by decide
    simp -implicitDefEqProofs -dsimp (maxSteps := 10000000) only [af8_l0, ↓kS, after_some, br_true, br_false, kC, ↓kQ, ↓Option.bind_some, ↓Option.map_some, ↓cond_true, ↓cond_false, evC, evOp, XO.lit, setArgs, Tr.get_set, Option.bind_some, Option.map_some, cond_true, cond_false, maxI, maxFrom, minI, minFrom, aConv, aBinE, aEq, eqScal, aUn, evRes, fin, oneOf, if_true, if_false, callee, reduceCtorEq, Nat.reduceEqDiff, List.getElem?_cons_zero, List.getElem?_cons_succ, beq_self_eq_true, gt_iff_lt, List.head?_cons, AV.undef, eq_self, ne_eq, Int.reduceLT, Int.reduceLE, Int.reduceToNat, Int.reduceEq, Int.reduceNeg, Nat.reduceAdd, Nat.reduceLT, Nat.reduceLeDiff, Nat.reduceMul, Nat.reduceSub, kM, AV.cells, AV.tup, List.drop_nil, List.append_nil, rdO, St.wr, List.length_cons, List.length_nil, List.take_succ_cons, List.take_zero, List.drop_succ_cons, List.drop_zero, List.cons_append, List.nil_append, Nat.reduceMul, t0, List.length_nil, c0, m0]
    refine ⟨p, e, ?_, G⟩
    simp only [Tr.get_set, Nat.reduceEqDiff, if_false, if_true, t4]
  · obtain ⟨hx, hk⟩ := hL x List.mem_cons_self
    have hlen : out.length + x.L.length + ((rest.map (·.L)).flatten).length = all.length := by rw [← hall]; simp only [List.map_cons, List.flatten_cons, List.length_append]; omega
    have hrl := hm
    simp only [List.length_cons] at hrl
    -- rows of values are short
    have hr1 : Sb.rd o v j 1 = some [.iface 29 (.slice x.p x.L.length x.e none)] := by
      have h := rd_sub (m := 0) (l := 1) hr (by simp only [List.length_cons]; omega)
      rw [Nat.add_zero] at h
      rw [h]; rfl
    have hr2 : Sb.rd o v (j + 1) rest.length = some (lvs rest) := by
      have h := rd_sub (m := 1) (l := rest.length) hr (by simp only [List.length_cons]; omega)
      rw [h]
      show some ((lvs rest).take rest.length) = _
      rw [List.take_of_length_le (by unfold lvs; rw [List.length_map]; exact Nat.le_refl _)]
    have hxS := hx.ext G.ext
    have hrS : S.rd o v j 1 = some [.iface 29 (.slice x.p x.L.length x.e none)] := by rw [G.ext.rd ho]; exact hr1
    obtain ⟨S1, q17, x1⟩ := T17l (k + all.length - x.L.length) (n := rest.length + 1) (c := none) (by omega) hrS hxS hk
    rw [show k + all.length - x.L.length + x.L.length + 7 = k + all.length + 7 by omega] at q17
    obtain ⟨p', e', S2, qa, G2⟩ := (G.more x1).app (M := x.L) (by omega)
    have hxS1 := hxS.ext x1
    have hml : rest.length + 1 ≤ 9223372036854775807 := by omega
    have c1 : (0 : Int) < ((rest.length + 1 : Nat) : Int) := by omega
    have b1 : bnd (some (.int .i64 1)) 0 (rest.length + 1) = some 1 := by rw [bnd_some (by omega) (by omega)]; rfl
    have b0 : bnd none (rest.length + 1) (rest.length + 1) = some (rest.length + 1) := rfl
    have hcut : aCut 1 (.slice (some (o, v, j)) (rest.length + 1) 1 none) (some (.int .i64 1)) none none = some (.slice (some (o, v, j + 1)) rest.length 1 none) := by
      simp [aCut, b1, b0, beq_dec]
    obtain ⟨xp, xe, xL⟩ := x
    have qa' : ∀ n, n = xL.length → aAppend 3 32 S1 (.slice p out.length e none) n (lcs xL) = some (.slice p' (out ++ xL).length e' none, S2) := fun n hn => by rw [hn]; exact qa
    rcases xp with _ | ⟨ox, vx, ix⟩
    · have hz := hxS1.nil rfl
      have hzl : xL.length = 0 := by rw [show xL = [] from hz]; rfl
      have q0 : aAppend 3 32 S1 (.slice p out.length e none) 0 [] = some (.slice p' (out ++ xL).length e' none, S2) := by
        have := qa' 0 hzl.symm; rw [show lcs xL = [] by rw [show xL = [] from hz]; rfl] at this; exact this
      simp -implicitDefEqProofs -dsimp (maxSteps := 10000000) only [af8_l0, ↓kS, after_some, br_true, br_false, kC, ↓kQ, ↓Option.bind_some, ↓Option.map_some, ↓cond_true, ↓cond_false, evC, evOp, XO.lit, setArgs, Tr.get_set, Option.bind_some, Option.map_some, cond_true, cond_false, maxI, maxFrom, minI, minFrom, aConv, aBinE, aEq, eqScal, aUn, evRes, fin, oneOf, if_true, if_false, callee, reduceCtorEq, Nat.reduceEqDiff, List.getElem?_cons_zero, List.getElem?_cons_succ, beq_self_eq_true, gt_iff_lt, List.head?_cons, AV.undef, eq_self, ne_eq, Int.reduceLT, Int.reduceLE, Int.reduceToNat, Int.reduceEq, Int.reduceNeg, Nat.reduceAdd, Nat.reduceLT, Nat.reduceLeDiff, Nat.reduceMul, Nat.reduceSub, ↓evDraw_nil, bir, putD, evDraw, trace, List.all_cons, List.all_nil, chk, stAt, again, sameV, sameL, sameA, AV.undef, Bool.and_self, Bool.and_true, decide_eq_true_eq, List.getElem?_nil, kM, AV.cells, AV.tup, List.drop_nil, List.append_nil, rdO, St.wr, List.length_cons, List.length_nil, List.take_succ_cons, List.take_zero, List.drop_succ_cons, List.drop_zero, List.cons_append, List.nil_append, Nat.reduceMul, aFill, evParts, rep, List.replicate_succ, List.replicate_zero, List.flatten_cons, List.flatten_nil, List.append_nil, newSl, newVar, evOpt, t0, t4, hml, c1, q17, q0, hcut]
      refine ⟨rest.length, ⟨o, v, j + 1, rest, p', e', out ++ xL, ?_, ho, hr2, fun y hy => hL y (List.mem_cons_of_mem _ hy), ?_, G2, by rw [List.append_assoc, ← hall]; simp, rfl, by omega⟩, by show rest.length < m; omega⟩ <;> simp only [Tr.get_set, Nat.reduceEqDiff, if_false, if_true]
    · have hez := hxS1.ez.resolve_left (by simp)
      have hez : xe = 3 := hez
      subst hez
      have hrx : S1.rd ox vx ix (xL.length * 3) = some (lcs xL) := (hxS1.at_ ox vx ix rfl).2
      have q0 := qa' xL.length rfl
      simp -implicitDefEqProofs -dsimp (maxSteps := 10000000) only [af8_l0, ↓kS, after_some, br_true, br_false, kC, ↓kQ, ↓Option.bind_some, ↓Option.map_some, ↓cond_true, ↓cond_false, evC, evOp, XO.lit, setArgs, Tr.get_set, Option.bind_some, Option.map_some, cond_true, cond_false, maxI, maxFrom, minI, minFrom, aConv, aBinE, aEq, eqScal, aUn, evRes, fin, oneOf, if_true, if_false, callee, reduceCtorEq, Nat.reduceEqDiff, List.getElem?_cons_zero, List.getElem?_cons_succ, beq_self_eq_true, gt_iff_lt, List.head?_cons, AV.undef, eq_self, ne_eq, Int.reduceLT, Int.reduceLE, Int.reduceToNat, Int.reduceEq, Int.reduceNeg, Nat.reduceAdd, Nat.reduceLT, Nat.reduceLeDiff, Nat.reduceMul, Nat.reduceSub, ↓evDraw_nil, bir, putD, evDraw, trace, List.all_cons, List.all_nil, chk, stAt, again, sameV, sameL, sameA, AV.undef, Bool.and_self, Bool.and_true, decide_eq_true_eq, List.getElem?_nil, kM, AV.cells, AV.tup, List.drop_nil, List.append_nil, rdO, St.wr, List.length_cons, List.length_nil, List.take_succ_cons, List.take_zero, List.drop_succ_cons, List.drop_zero, List.cons_append, List.nil_append, Nat.reduceMul, aFill, evParts, rep, List.replicate_succ, List.replicate_zero, List.flatten_cons, List.flatten_nil, List.append_nil, newSl, newVar, evOpt, t0, t4, hml, c1, q17, hrx, q0, hcut]
      refine ⟨rest.length, ⟨o, v, j + 1, rest, p', e', out ++ xL, ?_, ho, hr2, fun y hy => hL y (List.mem_cons_of_mem _ hy), ?_, G2, by rw [List.append_assoc, ← hall]; simp, rfl, by omega⟩, by show rest.length < m; omega⟩ <;> simp only [Tr.get_set, Nat.reduceEqDiff, if_false, if_true]
set_option maxHeartbeats 4000000 in
/-- Layers, of lists of layers that are right -/
theorem T8 (k : Nat) {S : St} {o v j : Nat} {rest : List Lv} {all : List Ly} (ho : o < S.next) (hr : S.rd o v j rest.length = some (lvs rest)) (hL : ∀ x ∈ rest, Lr S x.p x.e x.L ∧ x.L.all okL = true) (hall : (rest.map (·.L)).flatten = all) (ha : all.length ≤ 900000) (hm : rest.length ≤ 1000) (hk : rest.length ≤ k) :
    ∃ p e c S', evF Y AP (k + all.length + 8) 8 [.slice (some (o, v, j)) rest.length 1 none] S = some (if 3 < all.length then .tuple [.slice none 0 0 none, .int .i64 3] else .tuple [.slice p all.length e c, .int .i64 0], S') ∧ Ext S S' ∧ Lr S' p e all := by
  suffices hh : ∃ w S', evF Y AP (k + all.length + 8) 8 [.slice (some (o, v, j)) rest.length 1 none] S = some (w, S') ∧ ∃ p e c, w = (if 3 < all.length then .tuple [.slice none 0 0 none, .int .i64 3] else .tuple [.slice p all.length e c, .int .i64 0]) ∧ Ext S S' ∧ Lr S' p e all by
    obtain ⟨w, S', h1, p, e, c, rfl, h2⟩ := hh; exact ⟨p, e, c, S', h1, h2⟩
  have hst : ∀ x ∈ all, x.r.length ≤ 9223372036854775807 := by
    intro x hx
    rw [← hall] at hx
    obtain ⟨l, hl, hxl⟩ := List.mem_flatten.1 hx
    obtain ⟨y, hy, rfl⟩ := List.mem_map.1 hl
    exact (hL y hy).1.st x hxl
  refine evF_goes (af := af8) (k := k + all.length + 7) rfl rfl rfl ?_
  simp -implicitDefEqProofs -dsimp (maxSteps := 10000000) only [af8, ↓kS, after_some, br_true, br_false, kC, ↓kQ, ↓Option.bind_some, ↓Option.map_some, ↓cond_true, ↓cond_false, evC, evOp, XO.lit, setArgs, Tr.tabG, Tr.tabS, Tr.tabL, Tr.get_lf, Option.bind_some, Option.map_some, cond_true, cond_false, maxI, maxFrom, minI, minFrom, aConv, aBinE, aEq, eqScal, aUn, evRes, fin, oneOf, if_true, if_false, callee, reduceCtorEq, Nat.reduceEqDiff, List.getElem?_cons_zero, List.getElem?_cons_succ, beq_self_eq_true, gt_iff_lt, List.head?_cons, AV.undef, eq_self, ne_eq, Int.reduceLT, Int.reduceLE, Int.reduceToNat, Int.reduceEq, Int.reduceNeg, Nat.reduceAdd, Nat.reduceLT, Nat.reduceLeDiff, Nat.reduceMul, Nat.reduceSub, ↓evDraw_nil, bir, putD, evDraw, trace, List.all_cons, List.all_nil, chk, stAt, again, sameV, sameL, sameA, AV.undef, Bool.and_self, Bool.and_true, decide_eq_true_eq, List.getElem?_nil, kM, AV.cells, AV.tup, List.drop_nil, List.append_nil, rdO, St.wr, List.length_cons, List.length_nil, List.take_succ_cons, List.take_zero, List.drop_succ_cons, List.drop_zero, List.cons_append, List.nil_append, Nat.reduceMul, aFill, evParts, rep, List.replicate_succ, List.replicate_zero, List.flatten_cons, List.flatten_nil, List.append_nil, newSl, newVar]
  refine .while (I8 S all) id rest.length ⟨o, v, j, rest, none, 0, [], rfl, ho, hr, hL, rfl, ⟨.nil _ _ _, .refl S, fun _ _ _ hp => (by cases hp)⟩, by rw [List.nil_append]; exact hall, rfl, hm⟩ (by show rest.length < k + all.length + 7; omega) fun m2 T2 S2 h2 => (round8 k ha m2 T2 S2 h2).mono ?_
  intro r T' S' hq
  cases r with
  | normal => exact hq
  | ret => exact absurd hq.1 (by simp)
  | exit i =>
    obtain ⟨hi, p, e, t4, G⟩ := hq
    cases hi
    have hmx : all.length ≤ 9223372036854775807 := by omega
    by_cases c1 : 3 < all.length
    · have c1' : (3 : Int) < (all.length : Int) := by omega
      simp -implicitDefEqProofs -dsimp (maxSteps := 10000000) only [↓kS, after_some, br_true, br_false, kC, ↓kQ, ↓Option.bind_some, ↓Option.map_some, ↓cond_true, ↓cond_false, evC, evOp, XO.lit, setArgs, Tr.get_set, Option.bind_some, Option.map_some, cond_true, cond_false, maxI, maxFrom, minI, minFrom, aConv, aBinE, aEq, eqScal, aUn, evRes, fin, oneOf, if_true, if_false, callee, reduceCtorEq, Nat.reduceEqDiff, List.getElem?_cons_zero, List.getElem?_cons_succ, beq_self_eq_true, gt_iff_lt, List.head?_cons, AV.undef, eq_self, ne_eq, Int.reduceLT, Int.reduceLE, Int.reduceToNat, Int.reduceEq, Int.reduceNeg, Nat.reduceAdd, Nat.reduceLT, Nat.reduceLeDiff, Nat.reduceMul, Nat.reduceSub, ↓evDraw_nil, bir, putD, evDraw, trace, List.all_cons, List.all_nil, chk, stAt, again, sameV, sameL, sameA, AV.undef, Bool.and_self, Bool.and_true, decide_eq_true_eq, List.getElem?_nil, kM, AV.cells, AV.tup, List.drop_nil, List.append_nil, rdO, St.wr, List.length_cons, List.length_nil, List.take_succ_cons, List.take_zero, List.drop_succ_cons, List.drop_zero, List.cons_append, List.nil_append, Nat.reduceMul, t4, hmx, c1']
      exact ⟨_, _, rfl, p, e, none, by rw [if_pos c1], G.ext, .of_vec G.vec (by omega) hst⟩
    · have c1' : ¬ (3 : Int) < (all.length : Int) := by omega
      obtain ⟨p', e', c', q, hL'⟩ := T18 (k + all.length + 5) (Lr.of_vec G.vec (by omega) hst)
      have q : evF Y AP (k + all.length + 7) 18 [.slice p all.length e none] S' = _ := q
      simp -implicitDefEqProofs -dsimp (maxSteps := 10000000) only [↓kS, after_some, br_true, br_false, kC, ↓kQ, ↓Option.bind_some, ↓Option.map_some, ↓cond_true, ↓cond_false, evC, evOp, XO.lit, setArgs, Tr.get_set, Option.bind_some, Option.map_some, cond_true, cond_false, maxI, maxFrom, minI, minFrom, aConv, aBinE, aEq, eqScal, aUn, evRes, fin, oneOf, if_true, if_false, callee, reduceCtorEq, Nat.reduceEqDiff, List.getElem?_cons_zero, List.getElem?_cons_succ, beq_self_eq_true, gt_iff_lt, List.head?_cons, AV.undef, eq_self, ne_eq, Int.reduceLT, Int.reduceLE, Int.reduceToNat, Int.reduceEq, Int.reduceNeg, Nat.reduceAdd, Nat.reduceLT, Nat.reduceLeDiff, Nat.reduceMul, Nat.reduceSub, ↓evDraw_nil, bir, putD, evDraw, trace, List.all_cons, List.all_nil, chk, stAt, again, sameV, sameL, sameA, AV.undef, Bool.and_self, Bool.and_true, decide_eq_true_eq, List.getElem?_nil, kM, AV.cells, AV.tup, List.drop_nil, List.append_nil, rdO, St.wr, List.length_cons, List.length_nil, List.take_succ_cons, List.take_zero, List.drop_succ_cons, List.drop_zero, List.cons_append, List.nil_append, Nat.reduceMul, t4, hmx, c1', q]
      exact ⟨_, _, rfl, p', e', c', by rw [if_neg c1], G.ext, hL'⟩
end Go.Proofs.YtbfkhnpginlpdaaA
