/- Top: the choice of layers: one choice that is whole is held against the best so far. Top: the choice of layers: the search. Top: the choice of layers: the best choice, what is picked. Top: the choice of layers: what is picked. Top: the choice of layers: what is picked, twice. -/
import Derived.Test.YtajakdllbpnnpaaGreatKoA
set_option linter.unusedVariables false
set_option linter.unusedSimpArgs false
set_option maxRecDepth 10000
namespace Go.Proofs.YtajakdllbpnnpaaGreatA
open Go.RowKit
attribute [local congr] bind_congr1 map_congr1 cond_congr1 withX_congr after_congr br_congr gd_congr
def bsl (b : Bs) (m ob : Nat) : AV := if b.set = true then .slice (some (ob, 1, 0)) m 1 none else .slice none 0 0 none
def seO (slL : AV) (on m : Nat) (cN : Option Nat) (b : Bs) (ob : Nat) : AO :=
  .cells [slL, .slice (some (on, 0, 0)) m 1 cN, bsl b m ob, .int .i64 b.g.1, .int .i64 b.g.2, .int .i64 0, .int .i64 0, .int .i64 b.c] 0 0 true
/-- A search in memory. -/
structure Se (os on m : Nat) (cN : Option Nat) (slL : AV) (B : Nat) (N : Nat → Int) (b : Bs) (S : St) : Prop where
  bs : B ≤ os
  bn : B ≤ on
  ls : os < S.next
  ln : on < S.next
  ne : os ≠ on
  gn : S.get on = some (.cells (rowL N m) 0 0 true)
  ex : ∃ ob, S.get os = some (seO slL on m cN b ob) ∧ (b.set = true → ob < S.next ∧ ob ≠ os ∧ ob ≠ on ∧ S.get ob = some (.cells (rowL b.M m) 1 0 true))
theorem Se.ext {os on m : Nat} {cN : Option Nat} {slL : AV} {B : Nat} {N : Nat → Int} {b : Bs} {S S' : St} (h : Se os on m cN slL B N b S) (e : Ext S S') : Se os on m cN slL B N b S' := by
  obtain ⟨ob, h1, h2⟩ := h.ex
  refine ⟨h.bs, h.bn, Nat.lt_of_lt_of_le h.ls e.next, Nat.lt_of_lt_of_le h.ln e.next, h.ne, e.get h.ln h.gn, ob, e.get h.ls h1, fun hs => ?_⟩
  obtain ⟨a1, a2, a3, a4⟩ := h2 hs
  exact ⟨Nat.lt_of_lt_of_le a1 e.next, a2, a3, e.get a1 a4⟩
theorem chkB_al {T : Tm} : chkB ⟨some 6, none, .alloc [.int .i64 0, .int .i64 0, .int .i64 0, .int .i64 0]⟩ T = true := rfl
theorem rw_of {S : St} {o m : Nat} {N : Nat → Int} (h : S.get o = some (.cells (rowL N m) 0 0 true)) (hl : o < S.next) : Rw S o 0 m N :=
  ⟨hl, by rw [rd_of h]; simp only [rdO, ble_dec, rowL_len, Nat.zero_add, Nat.le_refl, decide_true, Bool.and_self, cond_true, List.drop_zero]; rw [List.take_of_length_le (by rw [rowL_len]; exact Nat.le_refl _)]⟩
theorem r4_eq (a b : Int × Int) : eqFields (r4 a) (r4 b) [(0, .num), (1, .num), (2, .num), (3, .num)] = some (decide (a.1 = b.1 ∧ a.2 = b.2)) := by
  unfold r4
  simp only [eqFields, eqScal, List.getElem?_cons_zero, List.getElem?_cons_succ, if_true, Option.bind_some]
  by_cases h1 : a.1 = b.1
  · by_cases h2 : a.2 = b.2 <;> simp [h1, h2]
  · simp [h1]
/-- The search, its best turned. -/
theorem seFin {os on m : Nat} {cN : Option Nat} {slL : AV} {B : Nat} {N : Nat → Int} {b : Bs} {S X S6 : St} (hS : Se os on m cN slL B N b S) (ex : Ext S X) (e6 : Ext X S6) (n6 : S6.next = X.next + 1) (g6 : S6.get X.next = some (.cells (rowL N m) 1 0 true)) (g : Int × Int) (c : Int) (x1 x2 : AO) :
    Se os on m cN slL B N ⟨true, N, g, c⟩ (((S6.put os x1).put os x2).put os (.cells [slL, .slice (some (on, 0, 0)) m 1 cN, .slice (some (X.next, 1, 0)) m 1 none, .int .i64 g.1, .int .i64 g.2, .int .i64 0, .int .i64 0, .int .i64 c] 0 0 true)) ∧
    Stay B S (((S6.put os x1).put os x2).put os (.cells [slL, .slice (some (on, 0, 0)) m 1 cN, .slice (some (X.next, 1, 0)) m 1 none, .int .i64 g.1, .int .i64 g.2, .int .i64 0, .int .i64 0, .int .i64 c] 0 0 true)) := by
  have e := ex.trans e6
  have := ex.next
  have hls := hS.ls
  have hln := hS.ln
  have hne := hS.ne
  have hbs := hS.bs
  refine ⟨⟨hS.bs, hS.bn, by show os < S6.next; omega, by show on < S6.next; omega, hS.ne, ?_, X.next, ?_, fun _ => ⟨by show X.next < S6.next; omega, by omega, by omega, ?_⟩⟩, by show S.next ≤ S6.next; omega, fun o ho => ?_⟩
  · rw [St.get_put, if_neg (Ne.symm hne), St.get_put, if_neg (Ne.symm hne), St.get_put, if_neg (Ne.symm hne)]; exact e.get hln hS.gn
  · rw [St.get_put, if_pos rfl]; rfl
  · rw [St.get_put, if_neg (by omega), St.get_put, if_neg (by omega), St.get_put, if_neg (by omega)]; exact g6
  · rw [St.get_put, if_neg (by omega), St.get_put, if_neg (by omega), St.get_put, if_neg (by omega)]; exact e.old o (by omega)
set_option maxHeartbeats 16000000 in
theorem leafT (k : Nat) {S : St} {o v m os on : Nat} {cl cN : Option Nat} {L : Nat → Ch} {C G : Nat → Nat} {N : Nat → Int} {B : Nat} {b : Bs} {left : Int} (h0 : m ≠ 0) (hm : m ≤ 8) (hL : Lay S o v m L C G B) (hp : ∀ j, j < m → Pos (N j))
    (hS : Se os on m cN (.slice (some (o, v, 0)) m 3 cl) B N b S) :
    ∃ w S', evF Y AP (k + 20) 24 [.ptr (some ⟨os, 0, 0, 8⟩), .int .i64 m, .int .i64 left] S = some (w, S') ∧ Se os on m cN (.slice (some (o, v, 0)) m 3 cl) B N (leafF L m N b) S' ∧ Stay B S S' := by
  rw [evF_body (af := af24) rfl rfl rfl]
  have hS0 := hS
  obtain ⟨hbs, hbn, hls, hln, hne, hgn, ob, hos, hset⟩ := hS
  have hB : B ≤ S.next := by omega
  have mx : m ≤ 9223372036854775807 := by omega
  have hrw := rw_of hgn hln
  obtain ⟨w1, S1, q1, rfl, x1⟩ := T8 (k + 8) (cl := cl) (cn := cN) hm hB hL hrw hp
  obtain ⟨w2, S2, q2, rfl, x2⟩ := T14 (k + 8) (cl := cl) (cn := cN) hm (Nat.le_trans hB x1.next) (hL.stay (x1.stay hB)) (hrw.ext x1) hp
  have x12 := x1.trans x2
  have n12 := x12.next
  have lf : leafF L m N b = if b.set = false ∨ bet (goodTo L N m) b.g = true ∨ (goodTo L N m = b.g ∧ costTo L N m < b.c) then ⟨true, N, goodTo L N m, costTo L N m⟩ else b := rfl
  obtain ⟨g, hg⟩ : ∃ g, goodTo L N m = g := ⟨_, rfl⟩
  obtain ⟨c, hc⟩ : ∃ c, costTo L N m = c := ⟨_, rfl⟩
  rw [hg] at q1
  rw [hc] at q2
  rw [hg, hc] at lf
  rw [lf]
  obtain ⟨A, hA⟩ : ∃ A, S2.alloc (.cells [.int .i64 0, .int .i64 0, .int .i64 0, .int .i64 0] 0 0 true) = A := ⟨_, rfl⟩
  have eA : Ext S2 A := hA ▸ .alloc _ _
  have nA : A.next = S2.next + 1 := by rw [← hA]; rfl
  have gA : A.get S2.next = some (.cells [.int .i64 0, .int .i64 0, .int .i64 0, .int .i64 0] 0 0 true) := by rw [← hA, St.get_alloc, if_pos rfl]
  obtain ⟨D, hD⟩ : ∃ D, A.put S2.next (.cells [.int .i64 g.1, .int .i64 g.2, .int .i64 0, .int .i64 0] 0 0 true) = D := ⟨_, rfl⟩
  have eD : Ext S2 D := hD ▸ eA.then_put (Nat.le_refl _) _
  have nD : D.next = S2.next + 1 := by rw [← hD]; exact nA
  have gD : D.get S2.next = some (.cells [.int .i64 g.1, .int .i64 g.2, .int .i64 0, .int .i64 0] 0 0 true) := by rw [← hD, St.get_put, if_pos rfl]
  have rD : ∀ v i n, D.rd S2.next v i n = rdO (.cells [.int .i64 g.1, .int .i64 g.2, .int .i64 0, .int .i64 0] 0 0 true) v i n := rd_of gD
  have xD : Ext S D := x12.trans eD
  unfold seO at hos
  have p0 := rd_of hos
  have p1 := rd_of (x1.get hls hos)
  have p2 := rd_of ((x12.trans eA).get hls hos)
  have p3 := rd_of (xD.get hls hos)
  unfold r4 at q1
  have nso : ¬ S2.next = os := by omega
  have nos : ¬ os = S2.next := by omega
  cases hs : b.set with
  | false =>
    have hz : bsl b m ob = .slice none 0 0 none := by unfold bsl; rw [hs]; rfl
    rw [hz] at p0 p1 p2 p3 hos
    rw [if_pos (.inl rfl)]
    obtain ⟨S6, q6, x6, n6, g6⟩ := T16 (k + 18) (cl := cN) h0 (by omega) (hrw.ext xD).rd (hrw.ext xD).lt
    have p6 := (xD.trans x6).get hls hos
    have r6 : ∀ v i n, S6.rd S2.next v i n = rdO (.cells [.int .i64 g.1, .int .i64 g.2, .int .i64 0, .int .i64 0] 0 0 true) v i n := rd_of (x6.get (by omega) gD)
    refine ⟨.tuple [], _, ?_, seFin hS0 xD x6 n6 g6 g c (.cells [.slice (some (o, v, 0)) m 3 cl, .slice (some (on, 0, 0)) m 1 cN, .slice (some (D.next, 1, 0)) m 1 none, .int .i64 b.g.1, .int .i64 b.g.2, .int .i64 0, .int .i64 0, .int .i64 b.c] 0 0 true)
      (.cells [.slice (some (o, v, 0)) m 3 cl, .slice (some (on, 0, 0)) m 1 cN, .slice (some (D.next, 1, 0)) m 1 none, .int .i64 g.1, .int .i64 g.2, .int .i64 0, .int .i64 0, .int .i64 b.c] 0 0 true)⟩
    simp -implicitDefEqProofs -dsimp (maxSteps := 10000000) only [af24, ops_nil, ops_some, ops_none, oper_none, oper_some, gd_tt, gd_ff, gd_tf, gd_ft, gd_undef, ↓any_op, ↓any_call, ↓any_callV, ↓any_invoke, xo_t, xo_c, args_nil, args_cons, bin_add, bin_sub, bin_mul, bin_quo, bin_rem, bin_and, bin_or, bin_xor, bin_andNot, bin_eql, bin_neq, bin_lss, bin_leq, bin_gtr, bin_geq, bin_shl, bin_shr, bin_bools, bin_strs, bin_ptrs, bin_slices, bin_aggs, ↓Option.bind_some, ↓Option.map_some, ↓cond_true, ↓cond_false, evC, evOp, XO.lit, setArgs, Tr.tabG, Tr.tabS, Tr.tabL, Tr.get_lf, Option.bind_some, Option.map_some, cond_true, cond_false, maxI, maxFrom, minI, minFrom, aConv, aBinE, aEq, eqScal, aUn, evRes, fin, oneOf, if_true, if_false, callee, reduceCtorEq, Nat.reduceEqDiff, and_self, decide_true, decide_false, beq_true, beq_false, Bool.not_true, Bool.not_false, List.getElem?_cons_zero, List.getElem?_cons_succ, beq_self_eq_true, gt_iff_lt, ble_dec, beq_dec, List.head?_cons, AV.undef, eq_self, ne_eq, not_true_eq_false, not_false_eq_true, Int.reduceLT, Int.reduceLE, Int.reduceToNat, Int.reduceEq, Int.reduceNeg, Nat.reduceAdd, Nat.reduceLT, Nat.reduceLeDiff, Nat.reduceMul, Nat.reduceSub, ↓evDraw_nil, bir, putD, evDraw, trace, List.all_cons, List.all_nil, chk, stAt, again, sameV, sameL, sameA, AV.undef, Bool.and_self, Bool.and_true, decide_eq_true_eq, List.getElem?_nil, AV.cells, AV.tup, Bool.true_and, true_and, and_true, List.drop_nil, List.append_nil, rd_put, rd_alloc, rdO, St.get_put, St.get_alloc, St.next_put, St.next_alloc, St.wr, Bool.and_self, Bool.and_true, List.length_cons, List.length_nil, List.take_succ_cons, List.take_zero, List.drop_succ_cons, List.drop_zero, List.cons_append, List.nil_append, Nat.zero_add, Nat.add_zero, Nat.reduceMul, aFill, evParts, rep, List.replicate_succ, List.replicate_zero, List.flatten_cons, List.flatten_nil, List.append_nil, newSl, newVar, List.all_cons, chkB_al, mx, p0, p1, p2, p3, q1, q2, hA, gA, hD, rD, q6, p6, r6, nso, nos, Option.isNone_none]
  | true =>
    obtain ⟨lob, neo, nen, gob⟩ := hset hs
    have hz : bsl b m ob = .slice (some (ob, 1, 0)) m 1 none := by unfold bsl; rw [hs]; rfl
    rw [hz] at p0 p1 p2 p3 hos
    obtain ⟨S5, q5, x5⟩ := T7 (k + 10) (S := D) (a := g) (b := b.g)
    unfold r4 at q5
    have xX : Ext S S5 := xD.trans x5
    have p5 := rd_of (xX.get hls hos)
    have r5 : ∀ v i n, S5.rd S2.next v i n = rdO (.cells [.int .i64 g.1, .int .i64 g.2, .int .i64 0, .int .i64 0] 0 0 true) v i n := rd_of (x5.get (by omega) gD)
    have e4 := r4_eq g b.g
    unfold r4 at e4
    have hg2 : (g = b.g) ↔ (g.1 = b.g.1 ∧ g.2 = b.g.2) := Prod.ext_iff
    obtain ⟨S6, q6, x6, n6, g6⟩ := T16 (k + 18) (cl := cN) h0 (by omega) (hrw.ext xX).rd (hrw.ext xX).lt
    have p6 := (xX.trans x6).get hls hos
    have n5 := x5.next
    have r6 : ∀ v i n, S6.rd S2.next v i n = rdO (.cells [.int .i64 g.1, .int .i64 g.2, .int .i64 0, .int .i64 0] 0 0 true) v i n := rd_of ((x5.trans x6).get (by omega) gD)
    have fn := seFin hS0 xX x6 n6 g6 g c (.cells [.slice (some (o, v, 0)) m 3 cl, .slice (some (on, 0, 0)) m 1 cN, .slice (some (S5.next, 1, 0)) m 1 none, .int .i64 b.g.1, .int .i64 b.g.2, .int .i64 0, .int .i64 0, .int .i64 b.c] 0 0 true)
      (.cells [.slice (some (o, v, 0)) m 3 cl, .slice (some (on, 0, 0)) m 1 cN, .slice (some (S5.next, 1, 0)) m 1 none, .int .i64 g.1, .int .i64 g.2, .int .i64 0, .int .i64 0, .int .i64 b.c] 0 0 true)
    have keep : Se os on m cN (.slice (some (o, v, 0)) m 3 cl) B N b S5 ∧ Stay B S S5 := ⟨hS0.ext xX, xX.stay hB⟩
    cases hb : bet g b.g with
    | true =>
      rw [hb] at q5
      rw [if_pos (.inr (.inl rfl))]
      refine ⟨.tuple [], _, ?_, fn⟩
      simp -implicitDefEqProofs -dsimp (maxSteps := 10000000) only [af24, ops_nil, ops_some, ops_none, oper_none, oper_some, gd_tt, gd_ff, gd_tf, gd_ft, gd_undef, ↓any_op, ↓any_call, ↓any_callV, ↓any_invoke, xo_t, xo_c, args_nil, args_cons, bin_add, bin_sub, bin_mul, bin_quo, bin_rem, bin_and, bin_or, bin_xor, bin_andNot, bin_eql, bin_neq, bin_lss, bin_leq, bin_gtr, bin_geq, bin_shl, bin_shr, bin_bools, bin_strs, bin_ptrs, bin_slices, bin_aggs, ↓Option.bind_some, ↓Option.map_some, ↓cond_true, ↓cond_false, evC, evOp, XO.lit, setArgs, Tr.tabG, Tr.tabS, Tr.tabL, Tr.get_lf, Option.bind_some, Option.map_some, cond_true, cond_false, maxI, maxFrom, minI, minFrom, aConv, aBinE, aEq, eqScal, aUn, evRes, fin, oneOf, if_true, if_false, callee, reduceCtorEq, Nat.reduceEqDiff, and_self, decide_true, decide_false, beq_true, beq_false, Bool.not_true, Bool.not_false, List.getElem?_cons_zero, List.getElem?_cons_succ, beq_self_eq_true, gt_iff_lt, ble_dec, beq_dec, List.head?_cons, AV.undef, eq_self, ne_eq, not_true_eq_false, not_false_eq_true, Int.reduceLT, Int.reduceLE, Int.reduceToNat, Int.reduceEq, Int.reduceNeg, Nat.reduceAdd, Nat.reduceLT, Nat.reduceLeDiff, Nat.reduceMul, Nat.reduceSub, ↓evDraw_nil, bir, putD, evDraw, trace, List.all_cons, List.all_nil, chk, stAt, again, sameV, sameL, sameA, AV.undef, Bool.and_self, Bool.and_true, decide_eq_true_eq, List.getElem?_nil, AV.cells, AV.tup, Bool.true_and, true_and, and_true, List.drop_nil, List.append_nil, rd_put, rd_alloc, rdO, St.get_put, St.get_alloc, St.next_put, St.next_alloc, St.wr, Bool.and_self, Bool.and_true, List.length_cons, List.length_nil, List.take_succ_cons, List.take_zero, List.drop_succ_cons, List.drop_zero, List.cons_append, List.nil_append, Nat.zero_add, Nat.add_zero, Nat.reduceMul, aFill, evParts, rep, List.replicate_succ, List.replicate_zero, List.flatten_cons, List.flatten_nil, List.append_nil, newSl, newVar, List.all_cons, chkB_al, mx, p0, p1, p2, p3, q1, q2, hA, gA, hD, rD, q5, p5, r5, q6, p6, r6, nso, nos, Option.isNone_none]
    | false =>
      rw [hb] at q5
      by_cases hd : g.1 = b.g.1 ∧ g.2 = b.g.2
      · rw [decide_eq_true hd] at e4
        by_cases hlt : c < b.c
        · rw [if_pos (.inr (.inr ⟨hg2.2 hd, hlt⟩))]
          refine ⟨.tuple [], _, ?_, fn⟩
          simp -implicitDefEqProofs -dsimp (maxSteps := 10000000) only [af24, ops_nil, ops_some, ops_none, oper_none, oper_some, gd_tt, gd_ff, gd_tf, gd_ft, gd_undef, ↓any_op, ↓any_call, ↓any_callV, ↓any_invoke, xo_t, xo_c, args_nil, args_cons, bin_add, bin_sub, bin_mul, bin_quo, bin_rem, bin_and, bin_or, bin_xor, bin_andNot, bin_eql, bin_neq, bin_lss, bin_leq, bin_gtr, bin_geq, bin_shl, bin_shr, bin_bools, bin_strs, bin_ptrs, bin_slices, bin_aggs, ↓Option.bind_some, ↓Option.map_some, ↓cond_true, ↓cond_false, evC, evOp, XO.lit, setArgs, Tr.tabG, Tr.tabS, Tr.tabL, Tr.get_lf, Option.bind_some, Option.map_some, cond_true, cond_false, maxI, maxFrom, minI, minFrom, aConv, aBinE, aEq, eqScal, aUn, evRes, fin, oneOf, if_true, if_false, callee, reduceCtorEq, Nat.reduceEqDiff, and_self, decide_true, decide_false, beq_true, beq_false, Bool.not_true, Bool.not_false, List.getElem?_cons_zero, List.getElem?_cons_succ, beq_self_eq_true, gt_iff_lt, ble_dec, beq_dec, List.head?_cons, AV.undef, eq_self, ne_eq, not_true_eq_false, not_false_eq_true, Int.reduceLT, Int.reduceLE, Int.reduceToNat, Int.reduceEq, Int.reduceNeg, Nat.reduceAdd, Nat.reduceLT, Nat.reduceLeDiff, Nat.reduceMul, Nat.reduceSub, ↓evDraw_nil, bir, putD, evDraw, trace, List.all_cons, List.all_nil, chk, stAt, again, sameV, sameL, sameA, AV.undef, Bool.and_self, Bool.and_true, decide_eq_true_eq, List.getElem?_nil, AV.cells, AV.tup, Bool.true_and, true_and, and_true, List.drop_nil, List.append_nil, rd_put, rd_alloc, rdO, St.get_put, St.get_alloc, St.next_put, St.next_alloc, St.wr, Bool.and_self, Bool.and_true, List.length_cons, List.length_nil, List.take_succ_cons, List.take_zero, List.drop_succ_cons, List.drop_zero, List.cons_append, List.nil_append, Nat.zero_add, Nat.add_zero, Nat.reduceMul, aFill, evParts, rep, List.replicate_succ, List.replicate_zero, List.flatten_cons, List.flatten_nil, List.append_nil, newSl, newVar, List.all_cons, chkB_al, mx, p0, p1, p2, p3, q1, q2, hA, gA, hD, rD, q5, p5, r5, e4, hlt, q6, p6, r6, nso, nos, Option.isNone_none]
        · rw [if_neg (by
              rintro (h | h | h)
              · cases h
              · cases h
              · exact hlt h.2)]
          refine ⟨.tuple [], S5, ?_, keep⟩
          simp -implicitDefEqProofs -dsimp (maxSteps := 10000000) only [af24, ops_nil, ops_some, ops_none, oper_none, oper_some, gd_tt, gd_ff, gd_tf, gd_ft, gd_undef, ↓any_op, ↓any_call, ↓any_callV, ↓any_invoke, xo_t, xo_c, args_nil, args_cons, bin_add, bin_sub, bin_mul, bin_quo, bin_rem, bin_and, bin_or, bin_xor, bin_andNot, bin_eql, bin_neq, bin_lss, bin_leq, bin_gtr, bin_geq, bin_shl, bin_shr, bin_bools, bin_strs, bin_ptrs, bin_slices, bin_aggs, ↓Option.bind_some, ↓Option.map_some, ↓cond_true, ↓cond_false, evC, evOp, XO.lit, setArgs, Tr.tabG, Tr.tabS, Tr.tabL, Tr.get_lf, Option.bind_some, Option.map_some, cond_true, cond_false, maxI, maxFrom, minI, minFrom, aConv, aBinE, aEq, eqScal, aUn, evRes, fin, oneOf, if_true, if_false, callee, reduceCtorEq, Nat.reduceEqDiff, and_self, decide_true, decide_false, beq_true, beq_false, Bool.not_true, Bool.not_false, List.getElem?_cons_zero, List.getElem?_cons_succ, beq_self_eq_true, gt_iff_lt, ble_dec, beq_dec, List.head?_cons, AV.undef, eq_self, ne_eq, not_true_eq_false, not_false_eq_true, Int.reduceLT, Int.reduceLE, Int.reduceToNat, Int.reduceEq, Int.reduceNeg, Nat.reduceAdd, Nat.reduceLT, Nat.reduceLeDiff, Nat.reduceMul, Nat.reduceSub, ↓evDraw_nil, bir, putD, evDraw, trace, List.all_cons, List.all_nil, chk, stAt, again, sameV, sameL, sameA, AV.undef, Bool.and_self, Bool.and_true, decide_eq_true_eq, List.getElem?_nil, AV.cells, AV.tup, Bool.true_and, true_and, and_true, List.drop_nil, List.append_nil, rd_put, rd_alloc, rdO, St.get_put, St.get_alloc, St.next_put, St.next_alloc, St.wr, Bool.and_self, Bool.and_true, List.length_cons, List.length_nil, List.take_succ_cons, List.take_zero, List.drop_succ_cons, List.drop_zero, List.cons_append, List.nil_append, Nat.zero_add, Nat.add_zero, Nat.reduceMul, aFill, evParts, rep, List.replicate_succ, List.replicate_zero, List.flatten_cons, List.flatten_nil, List.append_nil, newSl, newVar, List.all_cons, chkB_al, mx, p0, p1, p2, p3, q1, q2, hA, gA, hD, rD, q5, p5, r5, e4, hlt, nso, nos, Option.isNone_none]
      · rw [decide_eq_false hd] at e4
        rw [if_neg (by
            rintro (h | h | h)
            · cases h
            · cases h
            · exact hd (hg2.1 h.1))]
        refine ⟨.tuple [], S5, ?_, keep⟩
        simp -implicitDefEqProofs -dsimp (maxSteps := 10000000) only [af24, ops_nil, ops_some, ops_none, oper_none, oper_some, gd_tt, gd_ff, gd_tf, gd_ft, gd_undef, ↓any_op, ↓any_call, ↓any_callV, ↓any_invoke, xo_t, xo_c, args_nil, args_cons, bin_add, bin_sub, bin_mul, bin_quo, bin_rem, bin_and, bin_or, bin_xor, bin_andNot, bin_eql, bin_neq, bin_lss, bin_leq, bin_gtr, bin_geq, bin_shl, bin_shr, bin_bools, bin_strs, bin_ptrs, bin_slices, bin_aggs, ↓Option.bind_some, ↓Option.map_some, ↓cond_true, ↓cond_false, evC, evOp, XO.lit, setArgs, Tr.tabG, Tr.tabS, Tr.tabL, Tr.get_lf, Option.bind_some, Option.map_some, cond_true, cond_false, maxI, maxFrom, minI, minFrom, aConv, aBinE, aEq, eqScal, aUn, evRes, fin, oneOf, if_true, if_false, callee, reduceCtorEq, Nat.reduceEqDiff, and_self, decide_true, decide_false, beq_true, beq_false, Bool.not_true, Bool.not_false, List.getElem?_cons_zero, List.getElem?_cons_succ, beq_self_eq_true, gt_iff_lt, ble_dec, beq_dec, List.head?_cons, AV.undef, eq_self, ne_eq, not_true_eq_false, not_false_eq_true, Int.reduceLT, Int.reduceLE, Int.reduceToNat, Int.reduceEq, Int.reduceNeg, Nat.reduceAdd, Nat.reduceLT, Nat.reduceLeDiff, Nat.reduceMul, Nat.reduceSub, ↓evDraw_nil, bir, putD, evDraw, trace, List.all_cons, List.all_nil, chk, stAt, again, sameV, sameL, sameA, AV.undef, Bool.and_self, Bool.and_true, decide_eq_true_eq, List.getElem?_nil, AV.cells, AV.tup, Bool.true_and, true_and, and_true, List.drop_nil, List.append_nil, rd_put, rd_alloc, rdO, St.get_put, St.get_alloc, St.next_put, St.next_alloc, St.wr, Bool.and_self, Bool.and_true, List.length_cons, List.length_nil, List.take_succ_cons, List.take_zero, List.drop_succ_cons, List.drop_zero, List.cons_append, List.nil_append, Nat.zero_add, Nat.add_zero, Nat.reduceMul, aFill, evParts, rep, List.replicate_succ, List.replicate_zero, List.flatten_cons, List.flatten_nil, List.append_nil, newSl, newVar, List.all_cons, chkB_al, mx, p0, p1, p2, p3, q1, q2, hA, gA, hD, rD, q5, p5, r5, e4, nso, nos, Option.isNone_none]
theorem tryF_keep {L : Nat → Ch} {m : Nat} : ∀ (r i : Nat) (left : Int) (N : Nat → Int) (b : Bs) (j : Nat), j < i → (tryF L m r i left N b).1 j = N j
  | 0, i, left, N, b, j, h => rfl
  | r + 1, i, left, N, b, j, h => by
    have e1 : (tryF L m r (i + 1) left (upd N i (-1)) b).1 j = N j := by rw [tryF_keep r (i + 1) left (upd N i (-1)) b j (by omega), upd_lt h]
    simp only [tryF]
    generalize tryF L m r (i + 1) left (upd N i (-1)) b = s1 at e1
    have e2 : (if (L i).c0 ≤ left then tryF L m r (i + 1) (left - (L i).c0) (upd s1.1 i 0) s1.2 else s1).1 j = N j := by
      split
      · rw [tryF_keep r (i + 1) _ (upd s1.1 i 0) s1.2 j (by omega), upd_lt h]; exact e1
      · exact e1
    generalize (if (L i).c0 ≤ left then tryF L m r (i + 1) (left - (L i).c0) (upd s1.1 i 0) s1.2 else s1) = s2 at e2
    split
    · rw [tryF_keep r (i + 1) _ (upd s2.1 i 1) s2.2 j (by omega), upd_lt h]; exact e2
    · exact e2
theorem qF_keep {L : Nat → Ch} {m r i : Nat} {left : Int} {N : Nat → Int} {b : Bs} {j : Nat} (h : j < i) : ∀ q, (qF L m r i left N b q).1 j = N j := by
  have a : (qA L m r i left N b).1 j = N j := by unfold qA; rw [tryF_keep _ _ _ _ _ _ (by omega), upd_lt h]
  have c : (qB L m r i left N b).1 j = N j := by
    unfold qB
    split
    · rw [tryF_keep _ _ _ _ _ _ (by omega), upd_lt h]; exact a
    · exact a
  have d : (qC L m r i left N b).1 j = N j := by
    unfold qC
    split
    · rw [tryF_keep _ _ _ _ _ _ (by omega), upd_lt h]; exact c
    · exact c
  intro q
  match q with
  | 0 => rfl
  | 1 => exact a
  | 2 => exact c
  | _ + 3 => exact d
/-- A place is laid into the row. -/
theorem Se.lay {os on m : Nat} {cN : Option Nat} {slL : AV} {B : Nat} {N : Nat → Int} {b : Bs} {S : St} (h : Se os on m cN slL B N b S) {i : Nat} (hi : i < m) (p : Int) :
    S.wr on 0 (i * 1) [.int .i64 p] = some (S.put on (.cells (rowL (upd N i p) m) 0 0 true)) ∧ Se os on m cN slL B (upd N i p) b (S.put on (.cells (rowL (upd N i p) m) 0 0 true)) ∧ Stay B S (S.put on (.cells (rowL (upd N i p) m) 0 0 true)) := by
  obtain ⟨ob, h1, h2⟩ := h.ex
  have hbn := h.bn
  refine ⟨?_, ⟨h.bs, h.bn, h.ls, h.ln, h.ne, by rw [St.get_put, if_pos rfl], ob, by rw [St.get_put, if_neg h.ne]; exact h1, fun hs => ?_⟩, Nat.le_refl _, fun o ho => by rw [St.get_put, if_neg (by omega)]⟩
  · unfold St.wr
    rw [h.gn]
    simp only [Nat.beq_refl, ble_dec, Nat.le_refl, decide_true, Bool.and_self, Bool.true_and, List.length_cons, List.length_nil, Nat.zero_add, Nat.mul_one, rowL_len]
    rw [decide_eq_true (show i + 1 ≤ m by omega), cond_true, ← rowL_upd p hi]
  · obtain ⟨a1, a2, a3, a4⟩ := h2 hs
    exact ⟨a1, a2, a3, by rw [St.get_put, if_neg a3]; exact a4⟩
/-- What a search comes to, where r choices are left. -/
def TryS (K : Nat) (o v m os on : Nat) (cl cN : Option Nat) (L : Nat → Ch) (C G : Nat → Nat) (B r : Nat) : Prop :=
  ∀ (i : Nat) (left : Int) (N : Nat → Int) (b : Bs) (S : St), i + r = m → 0 ≤ left → left ≤ 5000 → (∀ j, j < i → Pos (N j)) → Lay S o v m L C G B → Se os on m cN (.slice (some (o, v, 0)) m 3 cl) B N b S →
    ∃ w S', evF Y AP K 24 [.ptr (some ⟨os, 0, 0, 8⟩), .int .i64 i, .int .i64 left] S = some (w, S') ∧ Se os on m cN (.slice (some (o, v, 0)) m 3 cl) B (tryF L m r i left N b).1 (tryF L m r i left N b).2 S' ∧ Stay B S S'
structure I226 (o v m os on : Nat) (cl cN : Option Nat) (L : Nat → Ch) (B r i : Nat) (left : Int) (N : Nat → Int) (b : Bs) (Sb : St) (n : Nat) (T : Tm) (S : St) : Prop where
  t0 : T.get 0 = some (.ptr (some ⟨os, 0, 0, 8⟩))
  t1 : T.get 1 = some (.int .i64 i)
  t2 : T.get 2 = some (.int .i64 left)
  stay : Stay B Sb S
  more : ∃ q : Nat, T.get 8 = some (.int .i64 ((q : Int) - 1)) ∧ q + n = 5 ∧ Se os on m cN (.slice (some (o, v, 0)) m 3 cl) B (qF L m r i left N b q).1 (qF L m r i left N b q).2 S
set_option maxHeartbeats 16000000 in
theorem round226 (k : Nat) {o v m os on : Nat} {cl cN : Option Nat} {L : Nat → Ch} {C G : Nat → Nat} {B r i : Nat} {left : Int} {N : Nat → Int} {b : Bs} {Sb : St} (hm : m ≤ 8) (hr : i + (r + 1) = m) (h0 : 0 ≤ left) (h1 : left ≤ 5000) (hp : ∀ j, j < i → Pos (N j)) (hL : Lay Sb o v m L C G B)
    (ih : TryS (k + 20) o v m os on cl cN L C G B r) (n : Nat) (T : Tm) (S : St) (hI : I226 o v m os on cl cN L B r i left N b Sb n T S) :
    Goes (evF Y AP (k + 20)) (k + 20) af24_l0 T S (Then (fun T' S' => ∃ n', I226 o v m os on cl cN L B r i left N b Sb n' T' S' ∧ id n' < id n) fun e T' S' => e = .exit 0 ∧ I226 o v m os on cl cN L B r i left N b Sb 0 T' S') := by
  obtain ⟨t0, t1, t2, st, q, t8, hq, hS⟩ := hI
  have hL1 := hL.stay st
  have hi : i < m := by omega
  have ok := hL.ok i hi
  have hBS : B ≤ S.next := by have := hS.bs; have := hS.ls; omega
  have hz := hL1.el i hi
  obtain ⟨z0, z1, z2⟩ := hL1.part hi
  have hc := hL1.co i hi
  have rC : ∀ v i' n, S.rd (C i) v i' n = rdO (cI (L i).c0 (L i).c1) v i' n := rd_of hc.2
  have hix : ixOf (.int .i64 (i : Int)) m = some i := by rw [ix_ok (by omega) (by omega)]; rfl
  have wi : IntKind.i64.wrap ((i : Int) + 1) = ((i + 1 : Nat) : Int) := w64_id (by omega) (by omega)
  have bc0 := ok.c0
  have bc1 := ok.c1
  obtain ⟨ob, hos, _⟩ := hS.ex
  unfold seO at hos
  have p0 := rd_of hos
  have v0 : IntKind.i64.wrap ((-1 : Int) + 1) = 0 := rfl
  have v1 : IntKind.i64.wrap ((0 : Int) + 1) = 1 := rfl
  have v2 : IntKind.i64.wrap ((1 : Int) + 1) = 2 := rfl
  have v3 : IntKind.i64.wrap ((2 : Int) + 1) = 3 := rfl
  have v4 : IntKind.i64.wrap ((3 : Int) + 1) = 4 := rfl
  have hq5 : q = 0 ∨ q = 1 ∨ q = 2 ∨ q = 3 ∨ q = 4 ∨ q = 5 := by omega
  -- the rule of a place
  have nx : ∀ (n' : Nat) (q' : Nat) (T' : Tm) (S' : St), q' = q + 1 → T'.get 0 = some (.ptr (some ⟨os, 0, 0, 8⟩)) → T'.get 1 = some (.int .i64 i) → T'.get 2 = some (.int .i64 left) → T'.get 8 = some (.int .i64 ((q' : Int) - 1)) → Stay B S S' →
      Se os on m cN (.slice (some (o, v, 0)) m 3 cl) B (qF L m r i left N b q').1 (qF L m r i left N b q').2 S' → q ≤ 4 → ∃ n', I226 o v m os on cl cN L B r i left N b Sb n' T' S' ∧ id n' < id n := by
    intro n' q' T' S' e a0 a1 a2 a8 s1 s2 hle
    exact ⟨n - 1, ⟨a0, a1, a2, st.trans s1, q', a8, by omega, s2⟩, by show n - 1 < n; omega⟩
  rcases hq5 with rfl | rfl | rfl | rfl | rfl | rfl
  · -- none
    replace t8 : T.get 8 = some (.int .i64 (-1)) := t8
    obtain ⟨S1, qf, x1⟩ := T17 (k + 18) (S := S) (og := G i) (p := -1) ok (by omega) hc.2 (by simp)
    rw [show decide ((-1 : Int) = -1 ∨ (-1 : Int) = 0 ∨ (-1 : Int) = 1) = true from rfl] at qf
    have p1 := rd_of (x1.get hS.ls hos)
    obtain ⟨hw, hS2, s2⟩ := (hS.ext x1).lay hi (-1)
    obtain ⟨A, hA⟩ : ∃ A, S1.put on (.cells (rowL (upd (qF L m r i left N b 0).1 i (-1)) m) 0 0 true) = A := ⟨_, rfl⟩
    rw [hA] at hw hS2 s2
    have s12 := (x1.stay hBS).trans s2
    obtain ⟨w, S3, q3, hS3, s3⟩ := ih (i + 1) left (upd (qF L m r i left N b 0).1 i (-1)) _ A (by omega) h0 h1 (fun j hj => by
      by_cases e : j = i
      · subst e; rw [upd_at]; exact .inl rfl
      · rw [upd_lt (by omega), qF_keep (by omega)]; exact hp j (by omega)) (hL1.stay s12) hS2
    simp -implicitDefEqProofs -dsimp (maxSteps := 10000000) only [af24_l0, ↓goes_loop, ↓goes_seq, ↓goes_reg, ↓goes_dreg, ↓goes_preg, ↓goes_cond, ↓goes_block, ↓goes_skip, ↓goes_exit, ↓goes_ret, after_some, br_true, br_false, ↓then_normal, ↓then_exit, ↓then_ret, ↓blk_normal, ↓blk_exit, ↓blk_ret, ↓blk_other, ops_nil, ops_some, ops_none, oper_none, oper_some, gd_tt, gd_ff, gd_tf, gd_ft, gd_undef, ↓any_op, ↓any_call, ↓any_callV, ↓any_invoke, xo_t, xo_c, args_nil, args_cons, bin_add, bin_sub, bin_mul, bin_quo, bin_rem, bin_and, bin_or, bin_xor, bin_andNot, bin_eql, bin_neq, bin_lss, bin_leq, bin_gtr, bin_geq, bin_shl, bin_shr, bin_bools, bin_strs, bin_ptrs, bin_slices, bin_aggs, ↓Option.bind_some, ↓Option.map_some, ↓cond_true, ↓cond_false, evC, evOp, XO.lit, setArgs, Tr.get_set, Option.bind_some, Option.map_some, cond_true, cond_false, maxI, maxFrom, minI, minFrom, aConv, aBinE, aEq, eqScal, aUn, evRes, fin, oneOf, if_true, if_false, callee, reduceCtorEq, Nat.reduceEqDiff, and_self, decide_true, decide_false, beq_true, beq_false, Bool.not_true, Bool.not_false, List.getElem?_cons_zero, List.getElem?_cons_succ, beq_self_eq_true, gt_iff_lt, ble_dec, beq_dec, List.head?_cons, AV.undef, eq_self, ne_eq, not_true_eq_false, not_false_eq_true, Int.reduceLT, Int.reduceLE, Int.reduceToNat, Int.reduceEq, Int.reduceNeg, Nat.reduceAdd, Nat.reduceLT, Nat.reduceLeDiff, Nat.reduceMul, Nat.reduceSub, AV.cells, AV.tup, Bool.true_and, true_and, and_true, List.drop_nil, List.append_nil, rd_put, rd_alloc, rdO, St.get_put, St.get_alloc, St.next_put, St.next_alloc, Bool.and_self, Bool.and_true, List.length_cons, List.length_nil, List.take_succ_cons, List.take_zero, List.drop_succ_cons, List.drop_zero, List.cons_append, List.nil_append, Nat.zero_add, Nat.add_zero, Nat.reduceMul, t0, t1, t2, t8, p0, hix, hz, qf, p1, hw, wi, q3, v0]
    refine nx 0 1 _ _ rfl ?_ ?_ ?_ ?_ (s12.trans s3) hS3 (by omega) <;> (simp only [Tr.get_set, Nat.reduceEqDiff, if_false, if_true, t0, t1, t2]; try rfl)
  · -- the first
    replace t8 : T.get 8 = some (.int .i64 0) := t8
    obtain ⟨S1, qf, x1⟩ := T17 (k + 18) (S := S) (og := G i) (p := 0) ok (by omega) hc.2 (by simp)
    rw [show decide ((0 : Int) = -1 ∨ (0 : Int) = 0 ∨ (0 : Int) = 1) = true from rfl] at qf
    have p1 := rd_of (x1.get hS.ls hos)
    have hL2 := hL1.stay (x1.stay hBS)
    have z1' := (hL2.part hi).2.1
    have rC' : ∀ v i' n, S1.rd (C i) v i' n = rdO (cI (L i).c0 (L i).c1) v i' n := rd_of (hL2.co i hi).2
    by_cases hle : (L i).c0 ≤ left
    · have hnl : ¬ left < (L i).c0 := by omega
      have wl : IntKind.i64.wrap (left - (L i).c0) = left - (L i).c0 := w64_id (by omega) (by omega)
      obtain ⟨hw, hS2, s2⟩ := (hS.ext x1).lay hi 0
      obtain ⟨A, hA⟩ : ∃ A, S1.put on (.cells (rowL (upd (qF L m r i left N b 1).1 i 0) m) 0 0 true) = A := ⟨_, rfl⟩
      rw [hA] at hw hS2 s2
      have s12 := (x1.stay hBS).trans s2
      have hL3 := hL1.stay s12
      have z1'' := (hL3.part hi).2.1
      have rC'' : ∀ v i' n, A.rd (C i) v i' n = rdO (cI (L i).c0 (L i).c1) v i' n := rd_of (hL3.co i hi).2
      have p2 : ∀ v i' n, A.rd os v i' n = rdO _ v i' n := rd_of (by rw [← hA, St.get_put, if_neg hS.ne]; exact x1.get hS.ls hos)
      obtain ⟨w, S3, q3, hS3, s3⟩ := ih (i + 1) (left - (L i).c0) (upd (qF L m r i left N b 1).1 i 0) _ A (by omega) (by omega) (by omega) (fun j hj => by
        by_cases e : j = i
        · subst e; rw [upd_at]; exact .inr (.inl rfl)
        · rw [upd_lt (by omega), qF_keep (by omega)]; exact hp j (by omega)) hL3 hS2
      have hq2 : qF L m r i left N b 2 = tryF L m r (i + 1) (left - (L i).c0) (upd (qF L m r i left N b 1).1 i 0) (qF L m r i left N b 1).2 := by show qB L m r i left N b = _; unfold qB; rw [if_pos hle]; rfl
      rw [← hq2] at hS3
      simp -implicitDefEqProofs -dsimp (maxSteps := 10000000) only [af24_l0, ↓goes_loop, ↓goes_seq, ↓goes_reg, ↓goes_dreg, ↓goes_preg, ↓goes_cond, ↓goes_block, ↓goes_skip, ↓goes_exit, ↓goes_ret, after_some, br_true, br_false, ↓then_normal, ↓then_exit, ↓then_ret, ↓blk_normal, ↓blk_exit, ↓blk_ret, ↓blk_other, ops_nil, ops_some, ops_none, oper_none, oper_some, gd_tt, gd_ff, gd_tf, gd_ft, gd_undef, ↓any_op, ↓any_call, ↓any_callV, ↓any_invoke, xo_t, xo_c, args_nil, args_cons, bin_add, bin_sub, bin_mul, bin_quo, bin_rem, bin_and, bin_or, bin_xor, bin_andNot, bin_eql, bin_neq, bin_lss, bin_leq, bin_gtr, bin_geq, bin_shl, bin_shr, bin_bools, bin_strs, bin_ptrs, bin_slices, bin_aggs, ↓Option.bind_some, ↓Option.map_some, ↓cond_true, ↓cond_false, evC, evOp, XO.lit, setArgs, Tr.get_set, Option.bind_some, Option.map_some, cond_true, cond_false, maxI, maxFrom, minI, minFrom, aConv, aBinE, aEq, eqScal, aUn, evRes, fin, oneOf, if_true, if_false, callee, reduceCtorEq, Nat.reduceEqDiff, and_self, decide_true, decide_false, beq_true, beq_false, Bool.not_true, Bool.not_false, List.getElem?_cons_zero, List.getElem?_cons_succ, beq_self_eq_true, gt_iff_lt, ble_dec, beq_dec, List.head?_cons, AV.undef, eq_self, ne_eq, not_true_eq_false, not_false_eq_true, Int.reduceLT, Int.reduceLE, Int.reduceToNat, Int.reduceEq, Int.reduceNeg, Nat.reduceAdd, Nat.reduceLT, Nat.reduceLeDiff, Nat.reduceMul, Nat.reduceSub, AV.cells, AV.tup, Bool.true_and, true_and, and_true, List.drop_nil, List.append_nil, rd_put, rd_alloc, rdO, St.get_put, St.get_alloc, St.next_put, St.next_alloc, Bool.and_self, Bool.and_true, List.length_cons, List.length_nil, List.take_succ_cons, List.take_zero, List.drop_succ_cons, List.drop_zero, List.cons_append, List.nil_append, Nat.zero_add, Nat.add_zero, Nat.reduceMul, t0, t1, t2, t8, p0, hix, hz, qf, p1, z1', rC', cI, i20, hnl, hw, z1'', rC'', p2, wl, wi, q3, v1]
      refine nx 0 2 _ _ rfl ?_ ?_ ?_ ?_ (s12.trans s3) hS3 (by omega) <;> (simp only [Tr.get_set, Nat.reduceEqDiff, if_false, if_true, t0, t1, t2]; try rfl)
    · have hnl : left < (L i).c0 := by omega
      have hq2 : qF L m r i left N b 2 = qF L m r i left N b 1 := by show qB L m r i left N b = _; unfold qB; rw [if_neg hle]; rfl
      have hS3 := hS.ext x1
      rw [← hq2] at hS3
      simp -implicitDefEqProofs -dsimp (maxSteps := 10000000) only [af24_l0, ↓goes_loop, ↓goes_seq, ↓goes_reg, ↓goes_dreg, ↓goes_preg, ↓goes_cond, ↓goes_block, ↓goes_skip, ↓goes_exit, ↓goes_ret, after_some, br_true, br_false, ↓then_normal, ↓then_exit, ↓then_ret, ↓blk_normal, ↓blk_exit, ↓blk_ret, ↓blk_other, ops_nil, ops_some, ops_none, oper_none, oper_some, gd_tt, gd_ff, gd_tf, gd_ft, gd_undef, ↓any_op, ↓any_call, ↓any_callV, ↓any_invoke, xo_t, xo_c, args_nil, args_cons, bin_add, bin_sub, bin_mul, bin_quo, bin_rem, bin_and, bin_or, bin_xor, bin_andNot, bin_eql, bin_neq, bin_lss, bin_leq, bin_gtr, bin_geq, bin_shl, bin_shr, bin_bools, bin_strs, bin_ptrs, bin_slices, bin_aggs, ↓Option.bind_some, ↓Option.map_some, ↓cond_true, ↓cond_false, evC, evOp, XO.lit, setArgs, Tr.get_set, Option.bind_some, Option.map_some, cond_true, cond_false, maxI, maxFrom, minI, minFrom, aConv, aBinE, aEq, eqScal, aUn, evRes, fin, oneOf, if_true, if_false, callee, reduceCtorEq, Nat.reduceEqDiff, and_self, decide_true, decide_false, beq_true, beq_false, Bool.not_true, Bool.not_false, List.getElem?_cons_zero, List.getElem?_cons_succ, beq_self_eq_true, gt_iff_lt, ble_dec, beq_dec, List.head?_cons, AV.undef, eq_self, ne_eq, not_true_eq_false, not_false_eq_true, Int.reduceLT, Int.reduceLE, Int.reduceToNat, Int.reduceEq, Int.reduceNeg, Nat.reduceAdd, Nat.reduceLT, Nat.reduceLeDiff, Nat.reduceMul, Nat.reduceSub, AV.cells, AV.tup, Bool.true_and, true_and, and_true, List.drop_nil, List.append_nil, rd_put, rd_alloc, rdO, St.get_put, St.get_alloc, St.next_put, St.next_alloc, Bool.and_self, Bool.and_true, List.length_cons, List.length_nil, List.take_succ_cons, List.take_zero, List.drop_succ_cons, List.drop_zero, List.cons_append, List.nil_append, Nat.zero_add, Nat.add_zero, Nat.reduceMul, t0, t1, t2, t8, p0, hix, hz, qf, p1, z1', rC', cI, i20, hnl, wi, v1]
      refine nx 0 2 _ _ rfl ?_ ?_ ?_ ?_ (x1.stay hBS) hS3 (by omega) <;> (simp only [Tr.get_set, Nat.reduceEqDiff, if_false, if_true, t0, t1, t2]; try rfl)
  · -- the second
    replace t8 : T.get 8 = some (.int .i64 1) := t8
    obtain ⟨S1, qf, x1⟩ := T17 (k + 18) (S := S) (og := G i) (p := 1) ok (by omega) hc.2 (by simp)
    rw [show decide ((1 : Int) = -1 ∨ (1 : Int) = 0 ∨ (1 : Int) = 1) = true from rfl] at qf
    have p1 := rd_of (x1.get hS.ls hos)
    have hL2 := hL1.stay (x1.stay hBS)
    have z1' := (hL2.part hi).2.1
    have rC' : ∀ v i' n, S1.rd (C i) v i' n = rdO (cI (L i).c0 (L i).c1) v i' n := rd_of (hL2.co i hi).2
    by_cases hle : (L i).c1 ≤ left
    · have hnl : ¬ left < (L i).c1 := by omega
      have wl : IntKind.i64.wrap (left - (L i).c1) = left - (L i).c1 := w64_id (by omega) (by omega)
      obtain ⟨hw, hS2, s2⟩ := (hS.ext x1).lay hi 1
      obtain ⟨A, hA⟩ : ∃ A, S1.put on (.cells (rowL (upd (qF L m r i left N b 2).1 i 1) m) 0 0 true) = A := ⟨_, rfl⟩
      rw [hA] at hw hS2 s2
      have s12 := (x1.stay hBS).trans s2
      have hL3 := hL1.stay s12
      have z1'' := (hL3.part hi).2.1
      have rC'' : ∀ v i' n, A.rd (C i) v i' n = rdO (cI (L i).c0 (L i).c1) v i' n := rd_of (hL3.co i hi).2
      have p2 : ∀ v i' n, A.rd os v i' n = rdO _ v i' n := rd_of (by rw [← hA, St.get_put, if_neg hS.ne]; exact x1.get hS.ls hos)
      obtain ⟨w, S3, q3, hS3, s3⟩ := ih (i + 1) (left - (L i).c1) (upd (qF L m r i left N b 2).1 i 1) _ A (by omega) (by omega) (by omega) (fun j hj => by
        by_cases e : j = i
        · subst e; rw [upd_at]; exact .inr (.inr rfl)
        · rw [upd_lt (by omega), qF_keep (by omega)]; exact hp j (by omega)) hL3 hS2
      have hq3 : qF L m r i left N b 3 = tryF L m r (i + 1) (left - (L i).c1) (upd (qF L m r i left N b 2).1 i 1) (qF L m r i left N b 2).2 := by show qC L m r i left N b = _; unfold qC; rw [if_pos hle]; rfl
      rw [← hq3] at hS3
      simp -implicitDefEqProofs -dsimp (maxSteps := 10000000) only [af24_l0, ↓goes_loop, ↓goes_seq, ↓goes_reg, ↓goes_dreg, ↓goes_preg, ↓goes_cond, ↓goes_block, ↓goes_skip, ↓goes_exit, ↓goes_ret, after_some, br_true, br_false, ↓then_normal, ↓then_exit, ↓then_ret, ↓blk_normal, ↓blk_exit, ↓blk_ret, ↓blk_other, ops_nil, ops_some, ops_none, oper_none, oper_some, gd_tt, gd_ff, gd_tf, gd_ft, gd_undef, ↓any_op, ↓any_call, ↓any_callV, ↓any_invoke, xo_t, xo_c, args_nil, args_cons, bin_add, bin_sub, bin_mul, bin_quo, bin_rem, bin_and, bin_or, bin_xor, bin_andNot, bin_eql, bin_neq, bin_lss, bin_leq, bin_gtr, bin_geq, bin_shl, bin_shr, bin_bools, bin_strs, bin_ptrs, bin_slices, bin_aggs, ↓Option.bind_some, ↓Option.map_some, ↓cond_true, ↓cond_false, evC, evOp, XO.lit, setArgs, Tr.get_set, Option.bind_some, Option.map_some, cond_true, cond_false, maxI, maxFrom, minI, minFrom, aConv, aBinE, aEq, eqScal, aUn, evRes, fin, oneOf, if_true, if_false, callee, reduceCtorEq, Nat.reduceEqDiff, and_self, decide_true, decide_false, beq_true, beq_false, Bool.not_true, Bool.not_false, List.getElem?_cons_zero, List.getElem?_cons_succ, beq_self_eq_true, gt_iff_lt, ble_dec, beq_dec, List.head?_cons, AV.undef, eq_self, ne_eq, not_true_eq_false, not_false_eq_true, Int.reduceLT, Int.reduceLE, Int.reduceToNat, Int.reduceEq, Int.reduceNeg, Nat.reduceAdd, Nat.reduceLT, Nat.reduceLeDiff, Nat.reduceMul, Nat.reduceSub, AV.cells, AV.tup, Bool.true_and, true_and, and_true, List.drop_nil, List.append_nil, rd_put, rd_alloc, rdO, St.get_put, St.get_alloc, St.next_put, St.next_alloc, Bool.and_self, Bool.and_true, List.length_cons, List.length_nil, List.take_succ_cons, List.take_zero, List.drop_succ_cons, List.drop_zero, List.cons_append, List.nil_append, Nat.zero_add, Nat.add_zero, Nat.reduceMul, t0, t1, t2, t8, p0, hix, hz, qf, p1, z1', rC', cI, i21, hnl, hw, z1'', rC'', p2, wl, wi, q3, v2]
      refine nx 0 3 _ _ rfl ?_ ?_ ?_ ?_ (s12.trans s3) hS3 (by omega) <;> (simp only [Tr.get_set, Nat.reduceEqDiff, if_false, if_true, t0, t1, t2]; try rfl)
    · have hnl : left < (L i).c1 := by omega
      have hq3 : qF L m r i left N b 3 = qF L m r i left N b 2 := by show qC L m r i left N b = _; unfold qC; rw [if_neg hle]; rfl
      have hS3 := hS.ext x1
      rw [← hq3] at hS3
      simp -implicitDefEqProofs -dsimp (maxSteps := 10000000) only [af24_l0, ↓goes_loop, ↓goes_seq, ↓goes_reg, ↓goes_dreg, ↓goes_preg, ↓goes_cond, ↓goes_block, ↓goes_skip, ↓goes_exit, ↓goes_ret, after_some, br_true, br_false, ↓then_normal, ↓then_exit, ↓then_ret, ↓blk_normal, ↓blk_exit, ↓blk_ret, ↓blk_other, ops_nil, ops_some, ops_none, oper_none, oper_some, gd_tt, gd_ff, gd_tf, gd_ft, gd_undef, ↓any_op, ↓any_call, ↓any_callV, ↓any_invoke, xo_t, xo_c, args_nil, args_cons, bin_add, bin_sub, bin_mul, bin_quo, bin_rem, bin_and, bin_or, bin_xor, bin_andNot, bin_eql, bin_neq, bin_lss, bin_leq, bin_gtr, bin_geq, bin_shl, bin_shr, bin_bools, bin_strs, bin_ptrs, bin_slices, bin_aggs, ↓Option.bind_some, ↓Option.map_some, ↓cond_true, ↓cond_false, evC, evOp, XO.lit, setArgs, Tr.get_set, Option.bind_some, Option.map_some, cond_true, cond_false, maxI, maxFrom, minI, minFrom, aConv, aBinE, aEq, eqScal, aUn, evRes, fin, oneOf, if_true, if_false, callee, reduceCtorEq, Nat.reduceEqDiff, and_self, decide_true, decide_false, beq_true, beq_false, Bool.not_true, Bool.not_false, List.getElem?_cons_zero, List.getElem?_cons_succ, beq_self_eq_true, gt_iff_lt, ble_dec, beq_dec, List.head?_cons, AV.undef, eq_self, ne_eq, not_true_eq_false, not_false_eq_true, Int.reduceLT, Int.reduceLE, Int.reduceToNat, Int.reduceEq, Int.reduceNeg, Nat.reduceAdd, Nat.reduceLT, Nat.reduceLeDiff, Nat.reduceMul, Nat.reduceSub, AV.cells, AV.tup, Bool.true_and, true_and, and_true, List.drop_nil, List.append_nil, rd_put, rd_alloc, rdO, St.get_put, St.get_alloc, St.next_put, St.next_alloc, Bool.and_self, Bool.and_true, List.length_cons, List.length_nil, List.take_succ_cons, List.take_zero, List.drop_succ_cons, List.drop_zero, List.cons_append, List.nil_append, Nat.zero_add, Nat.add_zero, Nat.reduceMul, t0, t1, t2, t8, p0, hix, hz, qf, p1, z1', rC', cI, i21, hnl, wi, v2]
      refine nx 0 3 _ _ rfl ?_ ?_ ?_ ?_ (x1.stay hBS) hS3 (by omega) <;> (simp only [Tr.get_set, Nat.reduceEqDiff, if_false, if_true, t0, t1, t2]; try rfl)
  · -- none of them
    replace t8 : T.get 8 = some (.int .i64 2) := t8
    obtain ⟨S1, qf, x1⟩ := T17 (k + 18) (S := S) (og := G i) (p := 2) ok (by omega) hc.2 (by simp)
    rw [show decide ((2 : Int) = -1 ∨ (2 : Int) = 0 ∨ (2 : Int) = 1) = false from rfl] at qf
    have hS3 := hS.ext x1
    simp -implicitDefEqProofs -dsimp (maxSteps := 10000000) only [af24_l0, ↓goes_loop, ↓goes_seq, ↓goes_reg, ↓goes_dreg, ↓goes_preg, ↓goes_cond, ↓goes_block, ↓goes_skip, ↓goes_exit, ↓goes_ret, after_some, br_true, br_false, ↓then_normal, ↓then_exit, ↓then_ret, ↓blk_normal, ↓blk_exit, ↓blk_ret, ↓blk_other, ops_nil, ops_some, ops_none, oper_none, oper_some, gd_tt, gd_ff, gd_tf, gd_ft, gd_undef, ↓any_op, ↓any_call, ↓any_callV, ↓any_invoke, xo_t, xo_c, args_nil, args_cons, bin_add, bin_sub, bin_mul, bin_quo, bin_rem, bin_and, bin_or, bin_xor, bin_andNot, bin_eql, bin_neq, bin_lss, bin_leq, bin_gtr, bin_geq, bin_shl, bin_shr, bin_bools, bin_strs, bin_ptrs, bin_slices, bin_aggs, ↓Option.bind_some, ↓Option.map_some, ↓cond_true, ↓cond_false, evC, evOp, XO.lit, setArgs, Tr.get_set, Option.bind_some, Option.map_some, cond_true, cond_false, maxI, maxFrom, minI, minFrom, aConv, aBinE, aEq, eqScal, aUn, evRes, fin, oneOf, if_true, if_false, callee, reduceCtorEq, Nat.reduceEqDiff, and_self, decide_true, decide_false, beq_true, beq_false, Bool.not_true, Bool.not_false, List.getElem?_cons_zero, List.getElem?_cons_succ, beq_self_eq_true, gt_iff_lt, ble_dec, beq_dec, List.head?_cons, AV.undef, eq_self, ne_eq, not_true_eq_false, not_false_eq_true, Int.reduceLT, Int.reduceLE, Int.reduceToNat, Int.reduceEq, Int.reduceNeg, Nat.reduceAdd, Nat.reduceLT, Nat.reduceLeDiff, Nat.reduceMul, Nat.reduceSub, AV.cells, AV.tup, Bool.true_and, true_and, and_true, List.drop_nil, List.append_nil, rd_put, rd_alloc, rdO, St.get_put, St.get_alloc, St.next_put, St.next_alloc, Bool.and_self, Bool.and_true, List.length_cons, List.length_nil, List.take_succ_cons, List.take_zero, List.drop_succ_cons, List.drop_zero, List.cons_append, List.nil_append, Nat.zero_add, Nat.add_zero, Nat.reduceMul, t0, t1, t2, t8, p0, hix, hz, qf, v3]
    refine nx 0 4 _ _ rfl ?_ ?_ ?_ ?_ (x1.stay hBS) hS3 (by omega) <;> (simp only [Tr.get_set, Nat.reduceEqDiff, if_false, if_true, t0, t1, t2]; try rfl)
  · replace t8 : T.get 8 = some (.int .i64 3) := t8
    obtain ⟨S1, qf, x1⟩ := T17 (k + 18) (S := S) (og := G i) (p := 3) ok (by omega) hc.2 (by simp)
    rw [show decide ((3 : Int) = -1 ∨ (3 : Int) = 0 ∨ (3 : Int) = 1) = false from rfl] at qf
    have hS3 := hS.ext x1
    simp -implicitDefEqProofs -dsimp (maxSteps := 10000000) only [af24_l0, ↓goes_loop, ↓goes_seq, ↓goes_reg, ↓goes_dreg, ↓goes_preg, ↓goes_cond, ↓goes_block, ↓goes_skip, ↓goes_exit, ↓goes_ret, after_some, br_true, br_false, ↓then_normal, ↓then_exit, ↓then_ret, ↓blk_normal, ↓blk_exit, ↓blk_ret, ↓blk_other, ops_nil, ops_some, ops_none, oper_none, oper_some, gd_tt, gd_ff, gd_tf, gd_ft, gd_undef, ↓any_op, ↓any_call, ↓any_callV, ↓any_invoke, xo_t, xo_c, args_nil, args_cons, bin_add, bin_sub, bin_mul, bin_quo, bin_rem, bin_and, bin_or, bin_xor, bin_andNot, bin_eql, bin_neq, bin_lss, bin_leq, bin_gtr, bin_geq, bin_shl, bin_shr, bin_bools, bin_strs, bin_ptrs, bin_slices, bin_aggs, ↓Option.bind_some, ↓Option.map_some, ↓cond_true, ↓cond_false, evC, evOp, XO.lit, setArgs, Tr.get_set, Option.bind_some, Option.map_some, cond_true, cond_false, maxI, maxFrom, minI, minFrom, aConv, aBinE, aEq, eqScal, aUn, evRes, fin, oneOf, if_true, if_false, callee, reduceCtorEq, Nat.reduceEqDiff, and_self, decide_true, decide_false, beq_true, beq_false, Bool.not_true, Bool.not_false, List.getElem?_cons_zero, List.getElem?_cons_succ, beq_self_eq_true, gt_iff_lt, ble_dec, beq_dec, List.head?_cons, AV.undef, eq_self, ne_eq, not_true_eq_false, not_false_eq_true, Int.reduceLT, Int.reduceLE, Int.reduceToNat, Int.reduceEq, Int.reduceNeg, Nat.reduceAdd, Nat.reduceLT, Nat.reduceLeDiff, Nat.reduceMul, Nat.reduceSub, AV.cells, AV.tup, Bool.true_and, true_and, and_true, List.drop_nil, List.append_nil, rd_put, rd_alloc, rdO, St.get_put, St.get_alloc, St.next_put, St.next_alloc, Bool.and_self, Bool.and_true, List.length_cons, List.length_nil, List.take_succ_cons, List.take_zero, List.drop_succ_cons, List.drop_zero, List.cons_append, List.nil_append, Nat.zero_add, Nat.add_zero, Nat.reduceMul, t0, t1, t2, t8, p0, hix, hz, qf, v4]
    refine nx 0 5 _ _ rfl ?_ ?_ ?_ ?_ (x1.stay hBS) hS3 (by omega) <;> (simp only [Tr.get_set, Nat.reduceEqDiff, if_false, if_true, t0, t1, t2]; try rfl)
  · replace t8 : T.get 8 = some (.int .i64 4) := t8
    obtain rfl : n = 0 := by omega
    simp -implicitDefEqProofs -dsimp (maxSteps := 10000000) only [af24_l0, ↓goes_loop, ↓goes_seq, ↓goes_reg, ↓goes_dreg, ↓goes_preg, ↓goes_cond, ↓goes_block, ↓goes_skip, ↓goes_exit, ↓goes_ret, after_some, br_true, br_false, ↓then_normal, ↓then_exit, ↓then_ret, ↓blk_normal, ↓blk_exit, ↓blk_ret, ↓blk_other, ops_nil, ops_some, ops_none, oper_none, oper_some, gd_tt, gd_ff, gd_tf, gd_ft, gd_undef, ↓any_op, ↓any_call, ↓any_callV, ↓any_invoke, xo_t, xo_c, args_nil, args_cons, bin_add, bin_sub, bin_mul, bin_quo, bin_rem, bin_and, bin_or, bin_xor, bin_andNot, bin_eql, bin_neq, bin_lss, bin_leq, bin_gtr, bin_geq, bin_shl, bin_shr, bin_bools, bin_strs, bin_ptrs, bin_slices, bin_aggs, ↓Option.bind_some, ↓Option.map_some, ↓cond_true, ↓cond_false, evC, evOp, XO.lit, setArgs, Tr.get_set, Option.bind_some, Option.map_some, cond_true, cond_false, maxI, maxFrom, minI, minFrom, aConv, aBinE, aEq, eqScal, aUn, evRes, fin, oneOf, if_true, if_false, callee, reduceCtorEq, Nat.reduceEqDiff, and_self, decide_true, decide_false, beq_true, beq_false, Bool.not_true, Bool.not_false, List.getElem?_cons_zero, List.getElem?_cons_succ, beq_self_eq_true, gt_iff_lt, ble_dec, beq_dec, List.head?_cons, AV.undef, eq_self, ne_eq, not_true_eq_false, not_false_eq_true, Int.reduceLT, Int.reduceLE, Int.reduceToNat, Int.reduceEq, Int.reduceNeg, Nat.reduceAdd, Nat.reduceLT, Nat.reduceLeDiff, Nat.reduceMul, Nat.reduceSub, AV.cells, AV.tup, Bool.true_and, true_and, and_true, List.drop_nil, List.append_nil, rd_put, rd_alloc, rdO, St.get_put, St.get_alloc, St.next_put, St.next_alloc, Bool.and_self, Bool.and_true, List.length_cons, List.length_nil, List.take_succ_cons, List.take_zero, List.drop_succ_cons, List.drop_zero, List.cons_append, List.nil_append, Nat.zero_add, Nat.add_zero, Nat.reduceMul, t8]
    refine ⟨?_, ?_, ?_, st, 5, ?_, rfl, hS⟩ <;> (simp only [Tr.get_set, Nat.reduceEqDiff, if_false, if_true, t0, t1, t2, t8]; try rfl)
theorem nat_ne {i m : Nat} (h : i < m) : ¬ ((i : Int) = (m : Int)) := by omega
set_option maxHeartbeats 4000000 in
theorem tryT {o v m os on : Nat} {cl cN : Option Nat} {L : Nat → Ch} {C G : Nat → Nat} {B : Nat} (k : Nat) (h0 : m ≠ 0) (hm : m ≤ 8) : ∀ r, TryS (k + 20 + r) o v m os on cl cN L C G B r
  | 0 => by
    intro i left N b S hi hl0 hl1 hp hL hS
    obtain rfl : i = m := by omega
    exact leafT k h0 hm hL hp hS
  | r + 1 => by
    intro i left N b S hi hl0 hl1 hp hL hS
    have ih := tryT (o := o) (v := v) (os := os) (on := on) (cl := cl) (cN := cN) (L := L) (C := C) (G := G) (B := B) k h0 hm r
    have key : ∃ w S', evF Y AP (k + 20 + r + 1) 24 [.ptr (some ⟨os, 0, 0, 8⟩), .int .i64 i, .int .i64 left] S = some (w, S') ∧ (Se os on m cN (.slice (some (o, v, 0)) m 3 cl) B (tryF L m (r + 1) i left N b).1 (tryF L m (r + 1) i left N b).2 S' ∧ Stay B S S') := by
      refine evF_goes (af := af24) (k := k + 20 + r) rfl rfl rfl ?_
      have mx : m ≤ 9223372036854775807 := by omega
      have hne := nat_ne (show i < m by omega)
      obtain ⟨ob, hos, _⟩ := hS.ex
      unfold seO at hos
      have p0 := rd_of hos
      simp -implicitDefEqProofs -dsimp (maxSteps := 10000000) only [af24, ↓goes_loop, ↓goes_seq, ↓goes_reg, ↓goes_dreg, ↓goes_preg, ↓goes_cond, ↓goes_block, ↓goes_skip, ↓goes_exit, ↓goes_ret, after_some, br_true, br_false, ↓then_normal, ↓then_exit, ↓then_ret, ↓blk_normal, ↓blk_exit, ↓blk_ret, ↓blk_other, ops_nil, ops_some, ops_none, oper_none, oper_some, gd_tt, gd_ff, gd_tf, gd_ft, gd_undef, ↓any_op, ↓any_call, ↓any_callV, ↓any_invoke, xo_t, xo_c, args_nil, args_cons, bin_add, bin_sub, bin_mul, bin_quo, bin_rem, bin_and, bin_or, bin_xor, bin_andNot, bin_eql, bin_neq, bin_lss, bin_leq, bin_gtr, bin_geq, bin_shl, bin_shr, bin_bools, bin_strs, bin_ptrs, bin_slices, bin_aggs, ↓Option.bind_some, ↓Option.map_some, ↓cond_true, ↓cond_false, evC, evOp, XO.lit, setArgs, Tr.tabG, Tr.tabS, Tr.tabL, Tr.get_lf, Option.bind_some, Option.map_some, cond_true, cond_false, maxI, maxFrom, minI, minFrom, aConv, aBinE, aEq, eqScal, aUn, evRes, fin, oneOf, if_true, if_false, callee, reduceCtorEq, Nat.reduceEqDiff, and_self, decide_true, decide_false, beq_true, beq_false, Bool.not_true, Bool.not_false, List.getElem?_cons_zero, List.getElem?_cons_succ, beq_self_eq_true, gt_iff_lt, ble_dec, beq_dec, List.head?_cons, AV.undef, eq_self, ne_eq, not_true_eq_false, not_false_eq_true, Int.reduceLT, Int.reduceLE, Int.reduceToNat, Int.reduceEq, Int.reduceNeg, Nat.reduceAdd, Nat.reduceLT, Nat.reduceLeDiff, Nat.reduceMul, Nat.reduceSub, AV.cells, AV.tup, Bool.true_and, true_and, and_true, List.drop_nil, List.append_nil, rd_put, rd_alloc, rdO, St.get_put, St.get_alloc, St.next_put, St.next_alloc, St.wr, Bool.and_self, Bool.and_true, List.length_cons, List.length_nil, List.take_succ_cons, List.take_zero, List.drop_succ_cons, List.drop_zero, List.cons_append, List.nil_append, Nat.zero_add, Nat.add_zero, Nat.reduceMul, p0, mx, hne]
      have e1 : k + 20 + r = (k + r) + 20 := by omega
      rw [e1] at ih ⊢
      refine .while (I226 o v m os on cl cN L B r i left N b S) id 5 ⟨rfl, rfl, rfl, Stay.refl B S, 0, rfl, rfl, hS⟩ (by show 5 < k + r + 20; omega) fun n2 T2 S2 h2 => (round226 (k + r) hm hi hl0 hl1 hp hL ih n2 T2 S2 h2).mono ?_
      intro e T' S' h
      cases e with
      | normal => exact h
      | ret => exact absurd h.1 (by simp)
      | exit j =>
        obtain ⟨e1, ⟨t0, t1, t2, st, q, t8, hq, hS'⟩⟩ := h
        cases e1
        obtain rfl : q = 5 := by omega
        simp -implicitDefEqProofs -dsimp (maxSteps := 10000000) only [↓goes_loop, ↓goes_seq, ↓goes_reg, ↓goes_dreg, ↓goes_preg, ↓goes_cond, ↓goes_block, ↓goes_skip, ↓goes_exit, ↓goes_ret, after_some, br_true, br_false, ↓then_normal, ↓then_exit, ↓then_ret, ↓blk_normal, ↓blk_exit, ↓blk_ret, ↓blk_other, ops_nil, ops_some, ops_none, oper_none, oper_some, gd_tt, gd_ff, gd_tf, gd_ft, gd_undef, ↓any_op, ↓any_call, ↓any_callV, ↓any_invoke, xo_t, xo_c, args_nil, args_cons, bin_add, bin_sub, bin_mul, bin_quo, bin_rem, bin_and, bin_or, bin_xor, bin_andNot, bin_eql, bin_neq, bin_lss, bin_leq, bin_gtr, bin_geq, bin_shl, bin_shr, bin_bools, bin_strs, bin_ptrs, bin_slices, bin_aggs, ↓Option.bind_some, ↓Option.map_some, ↓cond_true, ↓cond_false, evC, evOp, XO.lit, setArgs, Tr.get_set, Option.bind_some, Option.map_some, cond_true, cond_false, maxI, maxFrom, minI, minFrom, aConv, aBinE, aEq, eqScal, aUn, evRes, fin, oneOf, if_true, if_false, callee, reduceCtorEq, Nat.reduceEqDiff, and_self, decide_true, decide_false, beq_true, beq_false, Bool.not_true, Bool.not_false, List.getElem?_cons_zero, List.getElem?_cons_succ, beq_self_eq_true, gt_iff_lt, ble_dec, beq_dec, List.head?_cons, AV.undef, eq_self, ne_eq, not_true_eq_false, not_false_eq_true, Int.reduceLT, Int.reduceLE, Int.reduceToNat, Int.reduceEq, Int.reduceNeg, Nat.reduceAdd, Nat.reduceLT, Nat.reduceLeDiff, Nat.reduceMul, Nat.reduceSub]
        exact ⟨_, _, rfl, hS', st⟩
    exact key
theorem Lay.mono {S : St} {o v m : Nat} {L : Nat → Ch} {C G : Nat → Nat} {B B' : Nat} (h : Lay S o v m L C G B) (hb : B ≤ B') : Lay S o v m L C G B' :=
  ⟨Nat.lt_of_lt_of_le h.lt hb, h.el, fun j hj => ⟨Nat.lt_of_lt_of_le (h.co j hj).1 hb, (h.co j hj).2⟩, fun j hj => ⟨Nat.lt_of_lt_of_le (h.go j hj).1 hb, (h.go j hj).2⟩, h.ok⟩
theorem Stay.ext {S S' : St} (h : Stay S.next S S') : Ext S S' := ⟨h.next, h.old⟩
/-- A row of numbers, of its first version. -/
theorem rw1_of {S : St} {o m : Nat} {N : Nat → Int} (h : S.get o = some (.cells (rowL N m) 1 0 true)) (hl : o < S.next) : Rw S o 1 m N :=
  ⟨hl, by rw [rd_of h]; simp only [rdO, ble_dec, rowL_len, Nat.zero_add, Nat.le_refl, Nat.zero_le, decide_true, Bool.and_self, cond_true, List.drop_zero]; rw [List.take_of_length_le (by rw [rowL_len]; exact Nat.le_refl _)]⟩
section
variable (k : Nat)
theorem T25 {S : St} {p : Option (Nat × Nat × Nat)} {o v m : Nat} {cl : Option Nat} (hm : m ≤ 1000) : evF Y AP (k + 1) 25 [.slice (some (o, v, 0)) m 1 cl] S = some (.slice (some (o, v, 0)) m 1 (some m), S) := by
  rw [evF_body (af := af25) rfl rfl rfl]
  have mx : m ≤ 9223372036854775807 := by omega
  have h0 : 0 ≤ (m : Int) := by omega
  have hll : (m : Int) ≤ (m : Int) := Int.le_refl _
  simp -implicitDefEqProofs -dsimp (maxSteps := 10000000) only [af25, ops_nil, ops_some, ops_none, oper_none, oper_some, gd_tt, gd_ff, gd_tf, gd_ft, gd_undef, ↓any_op, ↓any_call, ↓any_callV, ↓any_invoke, xo_t, xo_c, args_nil, args_cons, bin_add, bin_sub, bin_mul, bin_quo, bin_rem, bin_and, bin_or, bin_xor, bin_andNot, bin_eql, bin_neq, bin_lss, bin_leq, bin_gtr, bin_geq, bin_shl, bin_shr, bin_bools, bin_strs, bin_ptrs, bin_slices, bin_aggs, ↓Option.bind_some, ↓Option.map_some, ↓cond_true, ↓cond_false, evC, evOp, XO.lit, setArgs, Tr.tabG, Tr.tabS, Tr.tabL, Tr.get_lf, Option.bind_some, Option.map_some, cond_true, cond_false, maxI, maxFrom, minI, minFrom, aConv, aBinE, aEq, eqScal, aUn, evRes, fin, oneOf, if_true, if_false, callee, reduceCtorEq, Nat.reduceEqDiff, and_self, decide_true, decide_false, beq_true, beq_false, Bool.not_true, Bool.not_false, List.getElem?_cons_zero, List.getElem?_cons_succ, beq_self_eq_true, gt_iff_lt, ble_dec, beq_dec, List.head?_cons, AV.undef, eq_self, ne_eq, not_true_eq_false, not_false_eq_true, Int.reduceLT, Int.reduceLE, Int.reduceToNat, Int.reduceEq, Int.reduceNeg, Nat.reduceAdd, Nat.reduceLT, Nat.reduceLeDiff, Nat.reduceMul, Nat.reduceSub, mx, aCut, bnd, evOpt, and_self, if_true, h0, hll, Int.toNat_natCast, Option.isSome_some, Nat.zero_mul, Nat.add_zero, Nat.sub_zero, Nat.beq_refl]
structure I177 (o v on vn m : Nat) (cl cn : Option Nat) (w6 : AV) (bu : Int) (Sb : St) (r : Nat) (T : Tm) (S : St) : Prop where
  t0 : T.get 0 = some (.slice (some (o, v, 0)) m 3 cl)
  t1 : T.get 1 = some (.slice (some (on, vn, 0)) m 1 cn)
  t2 : T.get 2 = some (.int .i64 bu)
  t6 : T.get 6 = some w6
  t14 : T.get 14 = some (.slice (some (on, vn, 0)) m 1 cn)
  t15 : T.get 15 = some (.int .i64 m)
  ext : Ext Sb S
  more : ∃ j : Nat, T.get 16 = some (.int .i64 j) ∧ j + r = m
set_option maxHeartbeats 4000000 in
theorem round177 {o v on vn m : Nat} {cl cn : Option Nat} {w6 : AV} {bu : Int} {L : Nat → Ch} {C G : Nat → Nat} {N : Nat → Int} {B : Nat} {Sb : St} (hm : m ≤ 8) (hB : B ≤ Sb.next) (hL : Lay Sb o v m L C G B) (hN : Rw Sb on vn m N) (hp : ∀ j, j < m → Pos (N j)) (r : Nat) (T : Tm) (S : St) (hI : I177 o v on vn m cl cn w6 bu Sb r T S) :
    Goes (evF Y AP (k + 12)) (k + 12) af6_l0 T S (Then (fun T' S' => ∃ r', I177 o v on vn m cl cn w6 bu Sb r' T' S' ∧ id r' < id r) fun e T' S' => e = .exit 0 ∧ I177 o v on vn m cl cn w6 bu Sb 0 T' S') := by
  obtain ⟨t0, t1, t2, t6, t14, t15, ex, j, t16, hr⟩ := hI
  by_cases c1 : (j : Int) < (m : Int)
  rotate_left
  · obtain rfl : r = 0 := by omega
    simp -implicitDefEqProofs -dsimp (maxSteps := 10000000) only [af6_l0, ↓goes_loop, ↓goes_seq, ↓goes_reg, ↓goes_dreg, ↓goes_preg, ↓goes_cond, ↓goes_block, ↓goes_skip, ↓goes_exit, ↓goes_ret, after_some, br_true, br_false, ↓then_normal, ↓then_exit, ↓then_ret, ↓blk_normal, ↓blk_exit, ↓blk_ret, ↓blk_other, ops_nil, ops_some, ops_none, oper_none, oper_some, gd_tt, gd_ff, gd_tf, gd_ft, gd_undef, ↓any_op, ↓any_call, ↓any_callV, ↓any_invoke, xo_t, xo_c, args_nil, args_cons, bin_add, bin_sub, bin_mul, bin_quo, bin_rem, bin_and, bin_or, bin_xor, bin_andNot, bin_eql, bin_neq, bin_lss, bin_leq, bin_gtr, bin_geq, bin_shl, bin_shr, bin_bools, bin_strs, bin_ptrs, bin_slices, bin_aggs, ↓Option.bind_some, ↓Option.map_some, ↓cond_true, ↓cond_false, evC, evOp, XO.lit, setArgs, Tr.get_set, Option.bind_some, Option.map_some, cond_true, cond_false, maxI, maxFrom, minI, minFrom, aConv, aBinE, aEq, eqScal, aUn, evRes, fin, oneOf, if_true, if_false, callee, reduceCtorEq, Nat.reduceEqDiff, and_self, decide_true, decide_false, beq_true, beq_false, Bool.not_true, Bool.not_false, List.getElem?_cons_zero, List.getElem?_cons_succ, beq_self_eq_true, gt_iff_lt, ble_dec, beq_dec, List.head?_cons, AV.undef, eq_self, ne_eq, not_true_eq_false, not_false_eq_true, Int.reduceLT, Int.reduceLE, Int.reduceToNat, Int.reduceEq, Int.reduceNeg, Nat.reduceAdd, Nat.reduceLT, Nat.reduceLeDiff, Nat.reduceMul, Nat.reduceSub, AV.cells, AV.tup, Bool.true_and, true_and, and_true, List.drop_nil, List.append_nil, rd_put, rd_alloc, rdO, St.get_put, St.get_alloc, St.next_put, St.next_alloc, St.wr, Bool.and_self, Bool.and_true, List.length_cons, List.length_nil, List.take_succ_cons, List.take_zero, List.drop_succ_cons, List.drop_zero, List.cons_append, List.nil_append, Nat.zero_add, Nat.add_zero, Nat.reduceMul, t15, t16, c1]
    refine ⟨?_, ?_, ?_, ?_, ?_, ?_, ex, j, ?_, hr⟩ <;> simp only [Tr.get_set, Nat.reduceEqDiff, if_false, if_true, t0, t1, t2, t6, t14, t15, t16]
  have hj : j < m := by omega
  have hL1 := hL.stay (ex.stay hB)
  have hz := hL1.el j hj
  have hn := (hN.ext ex).one hj
  have hix : ixOf (.int .i64 (j : Int)) m = some j := by rw [ix_ok (by omega) (by omega)]; rfl
  have wj : IntKind.i64.wrap ((j : Int) + 1) = ((j + 1 : Nat) : Int) := w64_id (by omega) (by omega)
  have hBS : B ≤ S.next := Nat.le_trans hB ex.next
  have hc := hL1.co j hj
  have hpj := hp j hj
  obtain ⟨S1, q, x1⟩ := T17 (k + 10) (S := S) (og := G j) (p := N j) (hL.ok j hj) (by omega) hc.2 (by rcases hpj with h | h | h <;> simp [h])
  rw [decide_eq_true (show N j = -1 ∨ N j = 0 ∨ N j = 1 from hpj)] at q
  simp -implicitDefEqProofs -dsimp (maxSteps := 10000000) only [af6_l0, ↓goes_loop, ↓goes_seq, ↓goes_reg, ↓goes_dreg, ↓goes_preg, ↓goes_cond, ↓goes_block, ↓goes_skip, ↓goes_exit, ↓goes_ret, after_some, br_true, br_false, ↓then_normal, ↓then_exit, ↓then_ret, ↓blk_normal, ↓blk_exit, ↓blk_ret, ↓blk_other, ops_nil, ops_some, ops_none, oper_none, oper_some, gd_tt, gd_ff, gd_tf, gd_ft, gd_undef, ↓any_op, ↓any_call, ↓any_callV, ↓any_invoke, xo_t, xo_c, args_nil, args_cons, bin_add, bin_sub, bin_mul, bin_quo, bin_rem, bin_and, bin_or, bin_xor, bin_andNot, bin_eql, bin_neq, bin_lss, bin_leq, bin_gtr, bin_geq, bin_shl, bin_shr, bin_bools, bin_strs, bin_ptrs, bin_slices, bin_aggs, ↓Option.bind_some, ↓Option.map_some, ↓cond_true, ↓cond_false, evC, evOp, XO.lit, setArgs, Tr.get_set, Option.bind_some, Option.map_some, cond_true, cond_false, maxI, maxFrom, minI, minFrom, aConv, aBinE, aEq, eqScal, aUn, evRes, fin, oneOf, if_true, if_false, callee, reduceCtorEq, Nat.reduceEqDiff, and_self, decide_true, decide_false, beq_true, beq_false, Bool.not_true, Bool.not_false, List.getElem?_cons_zero, List.getElem?_cons_succ, beq_self_eq_true, gt_iff_lt, ble_dec, beq_dec, List.head?_cons, AV.undef, eq_self, ne_eq, not_true_eq_false, not_false_eq_true, Int.reduceLT, Int.reduceLE, Int.reduceToNat, Int.reduceEq, Int.reduceNeg, Nat.reduceAdd, Nat.reduceLT, Nat.reduceLeDiff, Nat.reduceMul, Nat.reduceSub, AV.cells, AV.tup, Bool.true_and, true_and, and_true, List.drop_nil, List.append_nil, rd_put, rd_alloc, rdO, St.get_put, St.get_alloc, St.next_put, St.next_alloc, St.wr, Bool.and_self, Bool.and_true, List.length_cons, List.length_nil, List.take_succ_cons, List.take_zero, List.drop_succ_cons, List.drop_zero, List.cons_append, List.nil_append, Nat.zero_add, Nat.add_zero, Nat.reduceMul, t0, t14, t15, t16, c1, hix, hz, hn, q, wj]
  refine ⟨r - 1, ⟨?_, ?_, ?_, ?_, ?_, ?_, ex.trans x1, j + 1, ?_, by omega⟩, by show r - 1 < r; omega⟩ <;> simp only [Tr.get_set, Nat.reduceEqDiff, if_false, if_true, t0, t1, t2, t6, t14, t15]
set_option maxHeartbeats 4000000 in
theorem T6 {S : St} {o v on vn m : Nat} {cl cn : Option Nat} {bu : Int} {L : Nat → Ch} {C G : Nat → Nat} {N : Nat → Int} {B : Nat} (hm : m ≤ 8) (hB : B ≤ S.next) (hL : Lay S o v m L C G B) (hN : Rw S on vn m N) (hp : ∀ j, j < m → Pos (N j)) (hk : costTo L N m ≤ bu) :
    ∃ w S', evF Y AP (k + 13) 6 [.slice (some (o, v, 0)) m 3 cl, .slice (some (on, vn, 0)) m 1 cn, .int .i64 bu] S = some (w, S') ∧ (w = .bool true ∧ Ext S S') := by
  refine evF_goes (af := af6) (k := k + 12) rfl rfl rfl ?_
  have mx : m ≤ 9223372036854775807 := by omega
  simp -implicitDefEqProofs -dsimp (maxSteps := 10000000) only [af6, ↓goes_loop, ↓goes_seq, ↓goes_reg, ↓goes_dreg, ↓goes_preg, ↓goes_cond, ↓goes_block, ↓goes_skip, ↓goes_exit, ↓goes_ret, after_some, br_true, br_false, ↓then_normal, ↓then_exit, ↓then_ret, ↓blk_normal, ↓blk_exit, ↓blk_ret, ↓blk_other, ops_nil, ops_some, ops_none, oper_none, oper_some, gd_tt, gd_ff, gd_tf, gd_ft, gd_undef, ↓any_op, ↓any_call, ↓any_callV, ↓any_invoke, xo_t, xo_c, args_nil, args_cons, bin_add, bin_sub, bin_mul, bin_quo, bin_rem, bin_and, bin_or, bin_xor, bin_andNot, bin_eql, bin_neq, bin_lss, bin_leq, bin_gtr, bin_geq, bin_shl, bin_shr, bin_bools, bin_strs, bin_ptrs, bin_slices, bin_aggs, ↓Option.bind_some, ↓Option.map_some, ↓cond_true, ↓cond_false, evC, evOp, XO.lit, setArgs, Tr.tabG, Tr.tabS, Tr.tabL, Tr.get_lf, Option.bind_some, Option.map_some, cond_true, cond_false, maxI, maxFrom, minI, minFrom, aConv, aBinE, aEq, eqScal, aUn, evRes, fin, oneOf, if_true, if_false, callee, reduceCtorEq, Nat.reduceEqDiff, and_self, decide_true, decide_false, beq_true, beq_false, Bool.not_true, Bool.not_false, List.getElem?_cons_zero, List.getElem?_cons_succ, beq_self_eq_true, gt_iff_lt, ble_dec, beq_dec, List.head?_cons, AV.undef, eq_self, ne_eq, not_true_eq_false, not_false_eq_true, Int.reduceLT, Int.reduceLE, Int.reduceToNat, Int.reduceEq, Int.reduceNeg, Nat.reduceAdd, Nat.reduceLT, Nat.reduceLeDiff, Nat.reduceMul, Nat.reduceSub, mx]
  refine .while (I177 o v on vn m cl cn _ bu S) id m ⟨rfl, rfl, rfl, rfl, rfl, rfl, Ext.refl S, 0, rfl, by omega⟩ (by show m < k + 12; omega) fun r2 T2 S2 h2 => (round177 k hm hB hL hN hp r2 T2 S2 h2).mono ?_
  intro e T' S' h
  cases e with
  | normal => exact h
  | ret => exact absurd h.1 (by simp)
  | exit i =>
    obtain ⟨e1, ⟨t0, t1, t2, t6, t14, t15, ex, j, t16, hr⟩⟩ := h
    cases e1
    obtain ⟨w, S2, q, rfl, x2⟩ := T14 (k + 1) (cl := cl) (cn := cn) hm (Nat.le_trans hB ex.next) (hL.stay (ex.stay hB)) (hN.ext ex) hp
    simp -implicitDefEqProofs -dsimp (maxSteps := 10000000) only [↓goes_loop, ↓goes_seq, ↓goes_reg, ↓goes_dreg, ↓goes_preg, ↓goes_cond, ↓goes_block, ↓goes_skip, ↓goes_exit, ↓goes_ret, after_some, br_true, br_false, ↓then_normal, ↓then_exit, ↓then_ret, ↓blk_normal, ↓blk_exit, ↓blk_ret, ↓blk_other, ops_nil, ops_some, ops_none, oper_none, oper_some, gd_tt, gd_ff, gd_tf, gd_ft, gd_undef, ↓any_op, ↓any_call, ↓any_callV, ↓any_invoke, xo_t, xo_c, args_nil, args_cons, bin_add, bin_sub, bin_mul, bin_quo, bin_rem, bin_and, bin_or, bin_xor, bin_andNot, bin_eql, bin_neq, bin_lss, bin_leq, bin_gtr, bin_geq, bin_shl, bin_shr, bin_bools, bin_strs, bin_ptrs, bin_slices, bin_aggs, ↓Option.bind_some, ↓Option.map_some, ↓cond_true, ↓cond_false, evC, evOp, XO.lit, setArgs, Tr.get_set, Option.bind_some, Option.map_some, cond_true, cond_false, maxI, maxFrom, minI, minFrom, aConv, aBinE, aEq, eqScal, aUn, evRes, fin, oneOf, if_true, if_false, callee, reduceCtorEq, Nat.reduceEqDiff, and_self, decide_true, decide_false, beq_true, beq_false, Bool.not_true, Bool.not_false, List.getElem?_cons_zero, List.getElem?_cons_succ, beq_self_eq_true, gt_iff_lt, ble_dec, beq_dec, List.head?_cons, AV.undef, eq_self, ne_eq, not_true_eq_false, not_false_eq_true, Int.reduceLT, Int.reduceLE, Int.reduceToNat, Int.reduceEq, Int.reduceNeg, Nat.reduceAdd, Nat.reduceLT, Nat.reduceLeDiff, Nat.reduceMul, Nat.reduceSub, t0, t1, t2, q, hk]
    exact ⟨_, _, rfl, rfl, ex.trans x2⟩
theorem T6n {S : St} {o v m : Nat} {cl : Option Nat} {bu : Int} (h0 : m ≠ 0) (hm : m ≤ 8) : evF Y AP (k + 1) 6 [.slice (some (o, v, 0)) m 3 cl, .slice none 0 0 none, .int .i64 bu] S = some (.bool false, S) := by
  rw [evF_body (af := af6) rfl rfl rfl]
  have mx : m ≤ 9223372036854775807 := by omega
  have hne : ¬ (m : Int) = ((0 : Nat) : Int) := by omega
  simp -implicitDefEqProofs -dsimp (maxSteps := 10000000) only [af6, ops_nil, ops_some, ops_none, oper_none, oper_some, gd_tt, gd_ff, gd_tf, gd_ft, gd_undef, ↓any_op, ↓any_call, ↓any_callV, ↓any_invoke, xo_t, xo_c, args_nil, args_cons, bin_add, bin_sub, bin_mul, bin_quo, bin_rem, bin_and, bin_or, bin_xor, bin_andNot, bin_eql, bin_neq, bin_lss, bin_leq, bin_gtr, bin_geq, bin_shl, bin_shr, bin_bools, bin_strs, bin_ptrs, bin_slices, bin_aggs, ↓Option.bind_some, ↓Option.map_some, ↓cond_true, ↓cond_false, evC, evOp, XO.lit, setArgs, Tr.tabG, Tr.tabS, Tr.tabL, Tr.get_lf, Option.bind_some, Option.map_some, cond_true, cond_false, maxI, maxFrom, minI, minFrom, aConv, aBinE, aEq, eqScal, aUn, evRes, fin, oneOf, if_true, if_false, callee, reduceCtorEq, Nat.reduceEqDiff, and_self, decide_true, decide_false, beq_true, beq_false, Bool.not_true, Bool.not_false, List.getElem?_cons_zero, List.getElem?_cons_succ, beq_self_eq_true, gt_iff_lt, ble_dec, beq_dec, List.head?_cons, AV.undef, eq_self, ne_eq, not_true_eq_false, not_false_eq_true, Int.reduceLT, Int.reduceLE, Int.reduceToNat, Int.reduceEq, Int.reduceNeg, Nat.reduceAdd, Nat.reduceLT, Nat.reduceLeDiff, Nat.reduceMul, Nat.reduceSub, mx, hne, Nat.zero_le]
structure I178 (p q : AV) (m : Nat) (Sb : St) (r : Nat) (T : Tm) (S : St) : Prop where
  t0 : T.get 0 = some p
  t1 : T.get 1 = some q
  t12 : T.get 12 = some (.int .i64 m)
  st : S = Sb
  more : ∃ j : Nat, T.get 13 = some (.int .i64 j) ∧ j + r = m
set_option maxHeartbeats 4000000 in
theorem T13 {S : St} {o v on vn m : Nat} {c1 c2 : Option Nat} {N : Nat → Int} (hm : m ≤ 8) (hN : Rw S o v m N) (hM : Rw S on vn m N) :
    ∃ w S', evF Y AP (k + 10) 13 [.slice (some (o, v, 0)) m 1 c1, .slice (some (on, vn, 0)) m 1 c2] S = some (w, S') ∧ (w = .bool true ∧ S' = S) := by
  refine evF_goes (af := af13) (k := k + 9) rfl rfl rfl ?_
  have mx : m ≤ 9223372036854775807 := by omega
  simp -implicitDefEqProofs -dsimp (maxSteps := 10000000) only [af13, ↓goes_loop, ↓goes_seq, ↓goes_reg, ↓goes_dreg, ↓goes_preg, ↓goes_cond, ↓goes_block, ↓goes_skip, ↓goes_exit, ↓goes_ret, after_some, br_true, br_false, ↓then_normal, ↓then_exit, ↓then_ret, ↓blk_normal, ↓blk_exit, ↓blk_ret, ↓blk_other, ops_nil, ops_some, ops_none, oper_none, oper_some, gd_tt, gd_ff, gd_tf, gd_ft, gd_undef, ↓any_op, ↓any_call, ↓any_callV, ↓any_invoke, xo_t, xo_c, args_nil, args_cons, bin_add, bin_sub, bin_mul, bin_quo, bin_rem, bin_and, bin_or, bin_xor, bin_andNot, bin_eql, bin_neq, bin_lss, bin_leq, bin_gtr, bin_geq, bin_shl, bin_shr, bin_bools, bin_strs, bin_ptrs, bin_slices, bin_aggs, ↓Option.bind_some, ↓Option.map_some, ↓cond_true, ↓cond_false, evC, evOp, XO.lit, setArgs, Tr.tabG, Tr.tabS, Tr.tabL, Tr.get_lf, Option.bind_some, Option.map_some, cond_true, cond_false, maxI, maxFrom, minI, minFrom, aConv, aBinE, aEq, eqScal, aUn, evRes, fin, oneOf, if_true, if_false, callee, reduceCtorEq, Nat.reduceEqDiff, and_self, decide_true, decide_false, beq_true, beq_false, Bool.not_true, Bool.not_false, List.getElem?_cons_zero, List.getElem?_cons_succ, beq_self_eq_true, gt_iff_lt, ble_dec, beq_dec, List.head?_cons, AV.undef, eq_self, ne_eq, not_true_eq_false, not_false_eq_true, Int.reduceLT, Int.reduceLE, Int.reduceToNat, Int.reduceEq, Int.reduceNeg, Nat.reduceAdd, Nat.reduceLT, Nat.reduceLeDiff, Nat.reduceMul, Nat.reduceSub, mx]
  refine .while (I178 (.slice (some (o, v, 0)) m 1 c1) (.slice (some (on, vn, 0)) m 1 c2) m S) id m ⟨rfl, rfl, rfl, rfl, 0, rfl, by omega⟩ (by show m < k + 9; omega) fun r T S1 hI => ?_
  obtain ⟨t0, t1, t12, rfl, j, t13, hr⟩ := hI
  by_cases cj : (j : Int) < (m : Int)
  rotate_left
  · obtain rfl : r = 0 := by omega
    simp -implicitDefEqProofs -dsimp (maxSteps := 10000000) only [af13_l0, ↓goes_loop, ↓goes_seq, ↓goes_reg, ↓goes_dreg, ↓goes_preg, ↓goes_cond, ↓goes_block, ↓goes_skip, ↓goes_exit, ↓goes_ret, after_some, br_true, br_false, ↓then_normal, ↓then_exit, ↓then_ret, ↓blk_normal, ↓blk_exit, ↓blk_ret, ↓blk_other, ops_nil, ops_some, ops_none, oper_none, oper_some, gd_tt, gd_ff, gd_tf, gd_ft, gd_undef, ↓any_op, ↓any_call, ↓any_callV, ↓any_invoke, xo_t, xo_c, args_nil, args_cons, bin_add, bin_sub, bin_mul, bin_quo, bin_rem, bin_and, bin_or, bin_xor, bin_andNot, bin_eql, bin_neq, bin_lss, bin_leq, bin_gtr, bin_geq, bin_shl, bin_shr, bin_bools, bin_strs, bin_ptrs, bin_slices, bin_aggs, ↓Option.bind_some, ↓Option.map_some, ↓cond_true, ↓cond_false, evC, evOp, XO.lit, setArgs, Tr.get_set, Option.bind_some, Option.map_some, cond_true, cond_false, maxI, maxFrom, minI, minFrom, aConv, aBinE, aEq, eqScal, aUn, evRes, fin, oneOf, if_true, if_false, callee, reduceCtorEq, Nat.reduceEqDiff, and_self, decide_true, decide_false, beq_true, beq_false, Bool.not_true, Bool.not_false, List.getElem?_cons_zero, List.getElem?_cons_succ, beq_self_eq_true, gt_iff_lt, ble_dec, beq_dec, List.head?_cons, AV.undef, eq_self, ne_eq, not_true_eq_false, not_false_eq_true, Int.reduceLT, Int.reduceLE, Int.reduceToNat, Int.reduceEq, Int.reduceNeg, Nat.reduceAdd, Nat.reduceLT, Nat.reduceLeDiff, Nat.reduceMul, Nat.reduceSub, AV.cells, AV.tup, Bool.true_and, true_and, and_true, List.drop_nil, List.append_nil, rd_put, rd_alloc, rdO, St.get_put, St.get_alloc, St.next_put, St.next_alloc, St.wr, Bool.and_self, Bool.and_true, List.length_cons, List.length_nil, List.take_succ_cons, List.take_zero, List.drop_succ_cons, List.drop_zero, List.cons_append, List.nil_append, Nat.zero_add, Nat.add_zero, Nat.reduceMul, t12, t13, cj]
    exact ⟨_, _, rfl, rfl, rfl⟩
  have hj : j < m := by omega
  have hn := hN.one hj
  have hn' := hM.one hj
  have hix : ixOf (.int .i64 (j : Int)) m = some j := by rw [ix_ok (by omega) (by omega)]; rfl
  have wj : IntKind.i64.wrap ((j : Int) + 1) = ((j + 1 : Nat) : Int) := w64_id (by omega) (by omega)
  simp -implicitDefEqProofs -dsimp (maxSteps := 10000000) only [af13_l0, ↓goes_loop, ↓goes_seq, ↓goes_reg, ↓goes_dreg, ↓goes_preg, ↓goes_cond, ↓goes_block, ↓goes_skip, ↓goes_exit, ↓goes_ret, after_some, br_true, br_false, ↓then_normal, ↓then_exit, ↓then_ret, ↓blk_normal, ↓blk_exit, ↓blk_ret, ↓blk_other, ops_nil, ops_some, ops_none, oper_none, oper_some, gd_tt, gd_ff, gd_tf, gd_ft, gd_undef, ↓any_op, ↓any_call, ↓any_callV, ↓any_invoke, xo_t, xo_c, args_nil, args_cons, bin_add, bin_sub, bin_mul, bin_quo, bin_rem, bin_and, bin_or, bin_xor, bin_andNot, bin_eql, bin_neq, bin_lss, bin_leq, bin_gtr, bin_geq, bin_shl, bin_shr, bin_bools, bin_strs, bin_ptrs, bin_slices, bin_aggs, ↓Option.bind_some, ↓Option.map_some, ↓cond_true, ↓cond_false, evC, evOp, XO.lit, setArgs, Tr.get_set, Option.bind_some, Option.map_some, cond_true, cond_false, maxI, maxFrom, minI, minFrom, aConv, aBinE, aEq, eqScal, aUn, evRes, fin, oneOf, if_true, if_false, callee, reduceCtorEq, Nat.reduceEqDiff, and_self, decide_true, decide_false, beq_true, beq_false, Bool.not_true, Bool.not_false, List.getElem?_cons_zero, List.getElem?_cons_succ, beq_self_eq_true, gt_iff_lt, ble_dec, beq_dec, List.head?_cons, AV.undef, eq_self, ne_eq, not_true_eq_false, not_false_eq_true, Int.reduceLT, Int.reduceLE, Int.reduceToNat, Int.reduceEq, Int.reduceNeg, Nat.reduceAdd, Nat.reduceLT, Nat.reduceLeDiff, Nat.reduceMul, Nat.reduceSub, ↓evDraw_nil, bir, putD, evDraw, trace, List.all_cons, List.all_nil, chk, stAt, again, sameV, sameL, sameA, AV.undef, Bool.and_self, Bool.and_true, decide_eq_true_eq, List.getElem?_nil, AV.cells, AV.tup, Bool.true_and, true_and, and_true, List.drop_nil, List.append_nil, rd_put, rd_alloc, rdO, St.get_put, St.get_alloc, St.next_put, St.next_alloc, St.wr, Bool.and_self, Bool.and_true, List.length_cons, List.length_nil, List.take_succ_cons, List.take_zero, List.drop_succ_cons, List.drop_zero, List.cons_append, List.nil_append, Nat.zero_add, Nat.add_zero, Nat.reduceMul, t0, t1, t12, t13, cj, hix, hn, hn', wj]
  refine ⟨r - 1, ⟨?_, ?_, ?_, rfl, j + 1, ?_, by omega⟩, by show r - 1 < r; omega⟩ <;> simp only [Tr.get_set, Nat.reduceEqDiff, if_false, if_true, t0, t1, t12]
structure I22 (p q : AV) (m : Nat) (Sb : St) (r : Nat) (T : Tm) (S : St) : Prop where
  t0 : T.get 0 = some p
  t1 : T.get 1 = some q
  st : S = Sb
  more : ∃ j : Nat, T.get 5 = some (.int .i64 j) ∧ j + r = m
set_option maxHeartbeats 4000000 in
theorem T9 {S : St} {o v on vn m : Nat} {c1 c2 : Option Nat} {N : Nat → Int} (hm : m ≤ 8) (hN : Rw S o v m N) (hM : Rw S on vn m N) :
    ∃ w S', evF Y AP (k + 10) 9 [.slice (some (o, v, 0)) m 1 c1, .slice (some (on, vn, 0)) m 1 c2] S = some (w, S') ∧ (w = .bool true ∧ S' = S) := by
  refine evF_goes (af := af9) (k := k + 9) rfl rfl rfl ?_
  have mx : m ≤ 9223372036854775807 := by omega
  simp -implicitDefEqProofs -dsimp (maxSteps := 10000000) only [af9, ↓goes_loop, ↓goes_seq, ↓goes_reg, ↓goes_dreg, ↓goes_preg, ↓goes_cond, ↓goes_block, ↓goes_skip, ↓goes_exit, ↓goes_ret, after_some, br_true, br_false, ↓then_normal, ↓then_exit, ↓then_ret, ↓blk_normal, ↓blk_exit, ↓blk_ret, ↓blk_other, ops_nil, ops_some, ops_none, oper_none, oper_some, gd_tt, gd_ff, gd_tf, gd_ft, gd_undef, ↓any_op, ↓any_call, ↓any_callV, ↓any_invoke, xo_t, xo_c, args_nil, args_cons, bin_add, bin_sub, bin_mul, bin_quo, bin_rem, bin_and, bin_or, bin_xor, bin_andNot, bin_eql, bin_neq, bin_lss, bin_leq, bin_gtr, bin_geq, bin_shl, bin_shr, bin_bools, bin_strs, bin_ptrs, bin_slices, bin_aggs, ↓Option.bind_some, ↓Option.map_some, ↓cond_true, ↓cond_false, evC, evOp, XO.lit, setArgs, Tr.tabG, Tr.tabS, Tr.tabL, Tr.get_lf, Option.bind_some, Option.map_some, cond_true, cond_false, maxI, maxFrom, minI, minFrom, aConv, aBinE, aEq, eqScal, aUn, evRes, fin, oneOf, if_true, if_false, callee, reduceCtorEq, Nat.reduceEqDiff, and_self, decide_true, decide_false, beq_true, beq_false, Bool.not_true, Bool.not_false, List.getElem?_cons_zero, List.getElem?_cons_succ, beq_self_eq_true, gt_iff_lt, ble_dec, beq_dec, List.head?_cons, AV.undef, eq_self, ne_eq, not_true_eq_false, not_false_eq_true, Int.reduceLT, Int.reduceLE, Int.reduceToNat, Int.reduceEq, Int.reduceNeg, Nat.reduceAdd, Nat.reduceLT, Nat.reduceLeDiff, Nat.reduceMul, Nat.reduceSub, mx]
  refine .while (I22 (.slice (some (o, v, 0)) m 1 c1) (.slice (some (on, vn, 0)) m 1 c2) m S) id m ⟨rfl, rfl, rfl, 0, rfl, by omega⟩ (by show m < k + 9; omega) fun r T S1 hI => ?_
  obtain ⟨t0, t1, rfl, j, t5, hr⟩ := hI
  by_cases cj : (j : Int) < (m : Int)
  rotate_left
  · obtain rfl : r = 0 := by omega
    simp -implicitDefEqProofs -dsimp (maxSteps := 10000000) only [af9_l0, ↓goes_loop, ↓goes_seq, ↓goes_reg, ↓goes_dreg, ↓goes_preg, ↓goes_cond, ↓goes_block, ↓goes_skip, ↓goes_exit, ↓goes_ret, after_some, br_true, br_false, ↓then_normal, ↓then_exit, ↓then_ret, ↓blk_normal, ↓blk_exit, ↓blk_ret, ↓blk_other, ops_nil, ops_some, ops_none, oper_none, oper_some, gd_tt, gd_ff, gd_tf, gd_ft, gd_undef, ↓any_op, ↓any_call, ↓any_callV, ↓any_invoke, xo_t, xo_c, args_nil, args_cons, bin_add, bin_sub, bin_mul, bin_quo, bin_rem, bin_and, bin_or, bin_xor, bin_andNot, bin_eql, bin_neq, bin_lss, bin_leq, bin_gtr, bin_geq, bin_shl, bin_shr, bin_bools, bin_strs, bin_ptrs, bin_slices, bin_aggs, ↓Option.bind_some, ↓Option.map_some, ↓cond_true, ↓cond_false, evC, evOp, XO.lit, setArgs, Tr.get_set, Option.bind_some, Option.map_some, cond_true, cond_false, maxI, maxFrom, minI, minFrom, aConv, aBinE, aEq, eqScal, aUn, evRes, fin, oneOf, if_true, if_false, callee, reduceCtorEq, Nat.reduceEqDiff, and_self, decide_true, decide_false, beq_true, beq_false, Bool.not_true, Bool.not_false, List.getElem?_cons_zero, List.getElem?_cons_succ, beq_self_eq_true, gt_iff_lt, ble_dec, beq_dec, List.head?_cons, AV.undef, eq_self, ne_eq, not_true_eq_false, not_false_eq_true, Int.reduceLT, Int.reduceLE, Int.reduceToNat, Int.reduceEq, Int.reduceNeg, Nat.reduceAdd, Nat.reduceLT, Nat.reduceLeDiff, Nat.reduceMul, Nat.reduceSub, AV.cells, AV.tup, Bool.true_and, true_and, and_true, List.drop_nil, List.append_nil, rd_put, rd_alloc, rdO, St.get_put, St.get_alloc, St.next_put, St.next_alloc, St.wr, Bool.and_self, Bool.and_true, List.length_cons, List.length_nil, List.take_succ_cons, List.take_zero, List.drop_succ_cons, List.drop_zero, List.cons_append, List.nil_append, Nat.zero_add, Nat.add_zero, Nat.reduceMul, mx, t0, t5, cj]
    exact ⟨_, _, rfl, rfl, rfl⟩
  have hj : j < m := by omega
  have hn := hN.one hj
  have hn' := hM.one hj
  have hix : ixOf (.int .i64 (j : Int)) m = some j := by rw [ix_ok (by omega) (by omega)]; rfl
  have wj : IntKind.i64.wrap ((j : Int) + 1) = ((j + 1 : Nat) : Int) := w64_id (by omega) (by omega)
  simp -implicitDefEqProofs -dsimp (maxSteps := 10000000) only [af9_l0, ↓goes_loop, ↓goes_seq, ↓goes_reg, ↓goes_dreg, ↓goes_preg, ↓goes_cond, ↓goes_block, ↓goes_skip, ↓goes_exit, ↓goes_ret, after_some, br_true, br_false, ↓then_normal, ↓then_exit, ↓then_ret, ↓blk_normal, ↓blk_exit, ↓blk_ret, ↓blk_other, ops_nil, ops_some, ops_none, oper_none, oper_some, gd_tt, gd_ff, gd_tf, gd_ft, gd_undef, ↓any_op, ↓any_call, ↓any_callV, ↓any_invoke, xo_t, xo_c, args_nil, args_cons, bin_add, bin_sub, bin_mul, bin_quo, bin_rem, bin_and, bin_or, bin_xor, bin_andNot, bin_eql, bin_neq, bin_lss, bin_leq, bin_gtr, bin_geq, bin_shl, bin_shr, bin_bools, bin_strs, bin_ptrs, bin_slices, bin_aggs, ↓Option.bind_some, ↓Option.map_some, ↓cond_true, ↓cond_false, evC, evOp, XO.lit, setArgs, Tr.get_set, Option.bind_some, Option.map_some, cond_true, cond_false, maxI, maxFrom, minI, minFrom, aConv, aBinE, aEq, eqScal, aUn, evRes, fin, oneOf, if_true, if_false, callee, reduceCtorEq, Nat.reduceEqDiff, and_self, decide_true, decide_false, beq_true, beq_false, Bool.not_true, Bool.not_false, List.getElem?_cons_zero, List.getElem?_cons_succ, beq_self_eq_true, gt_iff_lt, ble_dec, beq_dec, List.head?_cons, AV.undef, eq_self, ne_eq, not_true_eq_false, not_false_eq_true, Int.reduceLT, Int.reduceLE, Int.reduceToNat, Int.reduceEq, Int.reduceNeg, Nat.reduceAdd, Nat.reduceLT, Nat.reduceLeDiff, Nat.reduceMul, Nat.reduceSub, ↓evDraw_nil, bir, putD, evDraw, trace, List.all_cons, List.all_nil, chk, stAt, again, sameV, sameL, sameA, AV.undef, Bool.and_self, Bool.and_true, decide_eq_true_eq, List.getElem?_nil, AV.cells, AV.tup, Bool.true_and, true_and, and_true, List.drop_nil, List.append_nil, rd_put, rd_alloc, rdO, St.get_put, St.get_alloc, St.next_put, St.next_alloc, St.wr, Bool.and_self, Bool.and_true, List.length_cons, List.length_nil, List.take_succ_cons, List.take_zero, List.drop_succ_cons, List.drop_zero, List.cons_append, List.nil_append, Nat.zero_add, Nat.add_zero, Nat.reduceMul, mx, t0, t1, t5, cj, hix, hn, hn', wj]
  refine ⟨r - 1, ⟨?_, ?_, rfl, j + 1, ?_, by omega⟩, by show r - 1 < r; omega⟩ <;> simp only [Tr.get_set, Nat.reduceEqDiff, if_false, if_true, t0, t1]
theorem T10 {S : St} {n : Int} (h0 : 0 ≤ n) (h1 : n ≤ 4000) : evF Y AP (k + 1) 10 [.int .i64 (n * 1000)] S = some (.int .i64 n, S) := by
  rw [evF_body (af := af10) rfl rfl rfl]
  have q : (n * 1000).tdiv 1000 = n := Int.mul_tdiv_cancel _ (by decide)
  have w : IntKind.i64.wrap n = n := w64_id (by omega) (by omega)
  have a : ¬ 4096 < n := by omega
  have b : (if 0 < n then n else 0) = n := by split <;> omega
  simp -implicitDefEqProofs -dsimp (maxSteps := 10000000) only [af10, ops_nil, ops_some, ops_none, oper_none, oper_some, gd_tt, gd_ff, gd_tf, gd_ft, gd_undef, ↓any_op, ↓any_call, ↓any_callV, ↓any_invoke, xo_t, xo_c, args_nil, args_cons, bin_add, bin_sub, bin_mul, bin_quo, bin_rem, bin_and, bin_or, bin_xor, bin_andNot, bin_eql, bin_neq, bin_lss, bin_leq, bin_gtr, bin_geq, bin_shl, bin_shr, bin_bools, bin_strs, bin_ptrs, bin_slices, bin_aggs, ↓Option.bind_some, ↓Option.map_some, ↓cond_true, ↓cond_false, evC, evOp, XO.lit, setArgs, Tr.tabG, Tr.tabS, Tr.tabL, Tr.get_lf, Option.bind_some, Option.map_some, cond_true, cond_false, maxI, maxFrom, minI, minFrom, aConv, aBinE, aEq, eqScal, aUn, evRes, fin, oneOf, if_true, if_false, callee, reduceCtorEq, Nat.reduceEqDiff, and_self, decide_true, decide_false, beq_true, beq_false, Bool.not_true, Bool.not_false, List.getElem?_cons_zero, List.getElem?_cons_succ, beq_self_eq_true, gt_iff_lt, ble_dec, beq_dec, List.head?_cons, AV.undef, eq_self, ne_eq, not_true_eq_false, not_false_eq_true, Int.reduceLT, Int.reduceLE, Int.reduceToNat, Int.reduceEq, Int.reduceNeg, Nat.reduceAdd, Nat.reduceLT, Nat.reduceLeDiff, Nat.reduceMul, Nat.reduceSub, q, w, a, b]
end
section
variable (k : Nat)
/-- A row that is a best choice. -/
structure Bst (S : St) (ob m : Nat) (L : Nat → Ch) (bu : Int) : Prop where
  lt : ob < S.next
  get : S.get ob = some (.cells (rowL (bestF L m bu).M m) 1 0 true)
theorem Bst.ext {S S' : St} {ob m : Nat} {L : Nat → Ch} {bu : Int} (h : Bst S ob m L bu) (e : Ext S S') : Bst S' ob m L bu := ⟨Nat.lt_of_lt_of_le h.lt e.next, e.get h.lt h.get⟩
def z8 : List AV := [.slice none 0 0 none, .slice none 0 0 none, .slice none 0 0 none, .int .i64 0, .int .i64 0, .int .i64 0, .int .i64 0, .int .i64 0]
set_option maxHeartbeats 8000000 in
theorem T12 {S : St} {o v m : Nat} {cl : Option Nat} {bu : Int} {L : Nat → Ch} {C G : Nat → Nat} {B : Nat} (h0 : m ≠ 0) (hm : m ≤ 8) (hb0 : 0 ≤ bu) (hb1 : bu ≤ 4000) (hB : B ≤ S.next) (hL : Lay S o v m L C G B) :
    ∃ S' ob, evF Y AP (k + 30) 12 [.slice (some (o, v, 0)) m 3 cl, .int .i64 bu] S = some (.slice (some (ob, 1, 0)) m 1 (some m), S') ∧ Bst S' ob m L bu ∧ Ext S S' := by
  rw [evF_body (af := af12) rfl rfl rfl]
  have mx : m ≤ 9223372036854775807 := by omega
  have hz : 0 ≤ (m : Int) := by omega
  have hll : (m : Int) ≤ (m : Int) := Int.le_refl _
  have hne : ¬ (m : Int) = 0 := by omega
  have mn8 : (if (m : Int) < 8 then (m : Int) else 8) = (m : Int) := by split <;> omega
  have hmk : 0 ≤ (m : Int) ∧ (m : Int) ≤ (m : Int) ∧ (m : Int) * 8 ≤ 281474976710656 := by omega
  have nb : ¬ 4096 < bu := by omega
  have pb : (if 0 < bu then bu else 0) = bu := by split <;> omega
  have ws : IntKind.i64.wrap ((m : Int) - (m : Int)) = 0 := by rw [Int.sub_self]; rfl
  obtain ⟨A, hA⟩ : ∃ A, S.alloc (.cells (rowL (fun _ => 0) m) 0 0 true) = A := ⟨_, rfl⟩
  have eA : Ext S A := hA ▸ .alloc _ _
  have nA : A.next = S.next + 1 := by rw [← hA]; rfl
  have gA : A.get S.next = some (.cells (rowL (fun _ => 0) m) 0 0 true) := by rw [← hA, St.get_alloc, if_pos rfl]
  have rz : (List.replicate m [AV.int .i64 0]).flatten = rowL (fun _ => 0) m := rowL_zero m
  have hm8 : (m : Int) * ((8 : Nat) : Int) ≤ 281474976710656 := by omega
  obtain ⟨cl', hcl⟩ : ∃ cl', cl.map (fun x => x) = cl' := ⟨_, rfl⟩
  obtain ⟨D, hD⟩ : ∃ D, A.alloc (.cells [.slice (some (o, v, 0)) m 3 cl, .slice (some (S.next, 0, 0)) m 1 none, .slice none 0 0 none, .int .i64 0, .int .i64 0, .int .i64 0, .int .i64 0, .int .i64 0] 0 0 true) = D := ⟨_, rfl⟩
  have eD : Ext A D := hD ▸ .alloc _ _
  have nD : D.next = S.next + 2 := by rw [← hD]; show A.next + 1 = _; omega
  have hlo := hL.lt
  have hse : Se A.next S.next m none (.slice (some (o, v, 0)) m 3 cl) S.next (fun _ => 0) ⟨false, fun _ => 0, (0, 0), 0⟩ D :=
    ⟨by omega, Nat.le_refl _, by omega, by omega, by omega, eD.get (by omega) gA, 0, by rw [← hD, St.get_alloc, if_pos rfl]; rfl, fun h => by cases h⟩
  have xD : Ext S D := eA.trans eD
  have hLD := (hL.mono hB).stay (xD.stay (Nat.le_refl _))
  obtain ⟨w, S3, q3, hS3, s3⟩ := tryT (k + 9 - m) h0 hm m 0 bu (fun _ => 0) ⟨false, fun _ => 0, (0, 0), 0⟩ D (by omega) hb0 (by omega) (fun j hj => absurd hj (Nat.not_lt_zero _)) hLD hse
  rw [show k + 9 - m + 20 + m = k + 29 by omega] at q3
  replace q3 : evF Y AP (k + 29) 24 [.ptr (some ⟨A.next, 0, 0, 8⟩), .int .i64 0, .int .i64 bu] D = some (w, S3) := q3
  obtain ⟨ob, hos, hset⟩ := hS3.ex
  have hbest : (tryF L m m 0 bu (fun _ => 0) ⟨false, fun _ => 0, (0, 0), 0⟩).2 = bestF L m bu := rfl
  rw [hbest] at hos hset
  have hs := (bestF_ok L m hb0).1
  obtain ⟨b1, b2, b3, b4⟩ := hset hs
  unfold seO at hos
  rw [show bsl (bestF L m bu) m ob = .slice (some (ob, 1, 0)) m 1 none from by unfold bsl; rw [hs]; rfl] at hos
  have p3 := rd_of hos
  have qc : evF Y AP (k + 29) 25 [.slice (some (ob, 1, 0)) m 1 none] S3 = some (.slice (some (ob, 1, 0)) m 1 (some m), S3) := T25 (k + 28) (p := none) (by omega)
  have x3 : Ext S S3 := (xD.stay (Nat.le_refl _)).trans s3 |>.ext
  refine ⟨S3, ob, ?_, ⟨b1, b4⟩, x3⟩
  have hcut : aCut 3 (.slice (some (o, v, 0)) m 3 cl) none (some (.int .i64 (m : Int))) none = some (.slice (some (o, v, 0)) m 3 cl) := by
    simp only [aCut, bnd, hz, hll, and_self, if_true, Int.toNat_natCast, Option.bind_some, Option.map_some, Nat.beq_refl, cond_true, Nat.zero_mul, Nat.add_zero, Nat.sub_zero]
    cases cl <;> simp
  simp -implicitDefEqProofs -dsimp (maxSteps := 10000000) only [af12, af12_l0, ops_nil, ops_some, ops_none, oper_none, oper_some, gd_tt, gd_ff, gd_tf, gd_ft, gd_undef, ↓any_op, ↓any_call, ↓any_callV, ↓any_invoke, xo_t, xo_c, args_nil, args_cons, bin_add, bin_sub, bin_mul, bin_quo, bin_rem, bin_and, bin_or, bin_xor, bin_andNot, bin_eql, bin_neq, bin_lss, bin_leq, bin_gtr, bin_geq, bin_shl, bin_shr, bin_bools, bin_strs, bin_ptrs, bin_slices, bin_aggs, ↓Option.bind_some, ↓Option.map_some, ↓cond_true, ↓cond_false, evC, evOp, XO.lit, setArgs, Tr.tabG, Tr.tabS, Tr.tabL, Tr.get_lf, Option.bind_some, Option.map_some, cond_true, cond_false, maxI, maxFrom, minI, minFrom, aConv, aBinE, aEq, eqScal, aUn, evRes, fin, oneOf, if_true, if_false, callee, reduceCtorEq, Nat.reduceEqDiff, and_self, decide_true, decide_false, beq_true, beq_false, Bool.not_true, Bool.not_false, List.getElem?_cons_zero, List.getElem?_cons_succ, beq_self_eq_true, gt_iff_lt, ble_dec, beq_dec, List.head?_cons, AV.undef, eq_self, ne_eq, not_true_eq_false, not_false_eq_true, Int.reduceLT, Int.reduceLE, Int.reduceToNat, Int.reduceEq, Int.reduceNeg, Nat.reduceAdd, Nat.reduceLT, Nat.reduceLeDiff, Nat.reduceMul, Nat.reduceSub, ↓evDraw_nil, bir, putD, evDraw, trace, List.all_cons, List.all_nil, chk, stAt, again, sameV, sameL, sameA, AV.undef, Bool.and_self, Bool.and_true, decide_eq_true_eq, List.getElem?_nil, AV.cells, AV.tup, Bool.true_and, true_and, and_true, List.drop_nil, List.append_nil, rd_put, rd_alloc, rdO, St.get_put, St.get_alloc, St.next_put, St.next_alloc, St.wr, Bool.and_self, Bool.and_true, List.length_cons, List.length_nil, List.take_succ_cons, List.take_zero, List.drop_succ_cons, List.drop_zero, List.cons_append, List.nil_append, Nat.zero_add, Nat.add_zero, Nat.reduceMul, aFill, evParts, rep, List.replicate_succ, List.replicate_zero, List.flatten_cons, List.flatten_nil, List.append_nil, newSl, newVar, iter, mx, mn8, hne, hcut, evOpt, hz, hll, hm8, Int.toNat_natCast, rz, hA, hD, nb, pb, q3, p3, ws, qc]
end
section
variable (k : Nat)
theorem Bst.rw {S : St} {ob m : Nat} {L : Nat → Ch} {bu : Int} (h : Bst S ob m L bu) : Rw S ob 1 m (bestF L m bu).M := rw1_of h.get h.lt
theorem pickN {S : St} {o v m : Nat} {cl : Option Nat} {bu : Int} {L : Nat → Ch} {C G : Nat → Nat} {B : Nat} (h0 : m ≠ 0) (hm : m ≤ 8) (hb0 : 0 ≤ bu) (hb1 : bu ≤ 4000) (hB : B ≤ S.next) (hL : Lay S o v m L C G B) :
    ∃ S' ob, evF Y AP (k + 31) 5 [.slice (some (o, v, 0)) m 3 cl, .int .i64 bu, .slice none 0 0 none] S = some (.slice (some (ob, 1, 0)) m 1 (some m), S') ∧ Bst S' ob m L bu ∧ Ext S S' := by
  rw [evF_body (af := af5) rfl rfl rfl]
  obtain ⟨S1, ob, q1, h1, x1⟩ := T12 k (cl := cl) h0 hm hb0 hb1 hB hL
  have q2 : evF Y AP (k + 30) 6 [.slice (some (o, v, 0)) m 3 cl, .slice none 0 0 none, .int .i64 bu] S1 = some (.bool false, S1) := T6n (k + 29) h0 hm
  refine ⟨S1, ob, ?_, h1, x1⟩
  simp -implicitDefEqProofs -dsimp (maxSteps := 10000000) only [af5, ops_nil, ops_some, ops_none, oper_none, oper_some, gd_tt, gd_ff, gd_tf, gd_ft, gd_undef, ↓any_op, ↓any_call, ↓any_callV, ↓any_invoke, xo_t, xo_c, args_nil, args_cons, bin_add, bin_sub, bin_mul, bin_quo, bin_rem, bin_and, bin_or, bin_xor, bin_andNot, bin_eql, bin_neq, bin_lss, bin_leq, bin_gtr, bin_geq, bin_shl, bin_shr, bin_bools, bin_strs, bin_ptrs, bin_slices, bin_aggs, ↓Option.bind_some, ↓Option.map_some, ↓cond_true, ↓cond_false, evC, evOp, XO.lit, setArgs, Tr.tabG, Tr.tabS, Tr.tabL, Tr.get_lf, Option.bind_some, Option.map_some, cond_true, cond_false, maxI, maxFrom, minI, minFrom, aConv, aBinE, aEq, eqScal, aUn, evRes, fin, oneOf, if_true, if_false, callee, reduceCtorEq, Nat.reduceEqDiff, and_self, decide_true, decide_false, beq_true, beq_false, Bool.not_true, Bool.not_false, List.getElem?_cons_zero, List.getElem?_cons_succ, beq_self_eq_true, gt_iff_lt, ble_dec, beq_dec, List.head?_cons, AV.undef, eq_self, ne_eq, not_true_eq_false, not_false_eq_true, Int.reduceLT, Int.reduceLE, Int.reduceToNat, Int.reduceEq, Int.reduceNeg, Nat.reduceAdd, Nat.reduceLT, Nat.reduceLeDiff, Nat.reduceMul, Nat.reduceSub, q1, q2]
theorem pickB {S : St} {o v m ox : Nat} {cl : Option Nat} {bu : Int} {L : Nat → Ch} {C G : Nat → Nat} {B : Nat} (h0 : m ≠ 0) (hm : m ≤ 8) (hb0 : 0 ≤ bu) (hb1 : bu ≤ 4000) (hB : B ≤ S.next) (hL : Lay S o v m L C G B) (hx : Bst S ox m L bu) :
    ∃ S' ob, evF Y AP (k + 31) 5 [.slice (some (o, v, 0)) m 3 cl, .int .i64 bu, .slice (some (ox, 1, 0)) m 1 (some m)] S = some (.slice (some (ob, 1, 0)) m 1 (some m), S') ∧ Bst S' ob m L bu ∧ Ext S S' := by
  rw [evF_body (af := af5) rfl rfl rfl]
  obtain ⟨S1, ob, q1, h1, x1⟩ := T12 k (cl := cl) h0 hm hb0 hb1 hB hL
  obtain ⟨e1, e2, e3⟩ := bestF_ok L m hb0
  obtain ⟨w2, S2, q2, rfl, x2⟩ := T6 (k + 17) (S := S1) (cl := cl) (cn := some m) hm (Nat.le_trans hB x1.next) (hL.stay (x1.stay hB)) (hx.ext x1).rw e2 e3
  obtain ⟨w3, S3, q3, rfl, rfl⟩ := T13 (k + 20) (S := S2) (c1 := some m) (c2 := some m) hm (hx.ext (x1.trans x2)).rw (h1.ext x2).rw
  refine ⟨S3, ob, ?_, h1.ext x2, x1.trans x2⟩
  simp -implicitDefEqProofs -dsimp (maxSteps := 10000000) only [af5, ops_nil, ops_some, ops_none, oper_none, oper_some, gd_tt, gd_ff, gd_tf, gd_ft, gd_undef, ↓any_op, ↓any_call, ↓any_callV, ↓any_invoke, xo_t, xo_c, args_nil, args_cons, bin_add, bin_sub, bin_mul, bin_quo, bin_rem, bin_and, bin_or, bin_xor, bin_andNot, bin_eql, bin_neq, bin_lss, bin_leq, bin_gtr, bin_geq, bin_shl, bin_shr, bin_bools, bin_strs, bin_ptrs, bin_slices, bin_aggs, ↓Option.bind_some, ↓Option.map_some, ↓cond_true, ↓cond_false, evC, evOp, XO.lit, setArgs, Tr.tabG, Tr.tabS, Tr.tabL, Tr.get_lf, Option.bind_some, Option.map_some, cond_true, cond_false, maxI, maxFrom, minI, minFrom, aConv, aBinE, aEq, eqScal, aUn, evRes, fin, oneOf, if_true, if_false, callee, reduceCtorEq, Nat.reduceEqDiff, and_self, decide_true, decide_false, beq_true, beq_false, Bool.not_true, Bool.not_false, List.getElem?_cons_zero, List.getElem?_cons_succ, beq_self_eq_true, gt_iff_lt, ble_dec, beq_dec, List.head?_cons, AV.undef, eq_self, ne_eq, not_true_eq_false, not_false_eq_true, Int.reduceLT, Int.reduceLE, Int.reduceToNat, Int.reduceEq, Int.reduceNeg, Nat.reduceAdd, Nat.reduceLT, Nat.reduceLeDiff, Nat.reduceMul, Nat.reduceSub, q1, q2, q3]
end
end Go.Proofs.YtajakdllbpnnpaaGreatA
