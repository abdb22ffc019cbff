/- Chapter 21: WriteLost. -/
import Derived.Test.YtdppaegnmdiheaaWrC
set_option linter.unusedVariables false
set_option linter.unusedSimpArgs false
set_option maxRecDepth 10000
namespace Go.Proofs.YtdppaegnmdiheaaA
open Go.RowKit
attribute [local congr] bind_congr1 map_congr1 cond_congr1 withX_congr after_congr br_congr gd_congr

def within (n lo hi : Int) : Int := if lo ≤ n ∧ n ≤ hi then n else lo + n % (hi - lo + 1)
theorem within_bd (n : Int) {lo hi : Int} (h : lo ≤ hi) : lo ≤ within n lo hi ∧ within n lo hi ≤ hi := by
  unfold within
  have h0 := Int.emod_nonneg n (show hi - lo + 1 ≠ 0 by omega)
  have h1 := Int.emod_lt_of_pos n (show 0 < hi - lo + 1 by omega)
  split <;> omega
theorem tmod_up (n m : Int) (hm : 0 < m) : (if Int.tmod n m < 0 then Int.tmod n m + m else Int.tmod n m) = n % m := by
  rw [Int.tmod_eq_emod]
  have h0 := Int.emod_nonneg n (show m ≠ 0 by omega)
  have h1 := Int.emod_lt_of_pos n hm
  split
  · rw [if_neg (by omega)]; omega
  · have hn : ((m.natAbs : Nat) : Int) = m := Int.natAbs_of_nonneg (by omega)
    by_cases hz : n % m = 0
    · rename_i hc
      exact absurd (Or.inr (Int.dvd_of_emod_eq_zero hz)) hc
    · rw [if_pos (by omega)]; omega
theorem T9 (k : Nat) (S : St) {n lo hi : Int} (h : lo ≤ hi) (h0 : -1000 ≤ lo) (h1 : hi ≤ 1000) : evF Y AP (k + 4) 9 [.int .i64 n, .int .i64 lo, .int .i64 hi] S = some (.int .i64 (within n lo hi), S) := by
  rw [evF_body (af := af9) rfl rfl rfl]
  have w1 : IntKind.i64.wrap (hi - lo) = hi - lo := w64_id (by omega) (by omega)
  have w2 : IntKind.i64.wrap (hi - lo + 1) = hi - lo + 1 := w64_id (by omega) (by omega)
  have hne : ¬ hi - lo + 1 = 0 := by omega
  have hu := tmod_up n (hi - lo + 1) (by omega)
  have h2 := Int.emod_nonneg n (show hi - lo + 1 ≠ 0 by omega)
  have h3 := Int.emod_lt_of_pos n (show 0 < hi - lo + 1 by omega)
  obtain ⟨t, ht⟩ : ∃ t, Int.tmod n (hi - lo + 1) = t := ⟨_, rfl⟩
  rw [ht] at hu
  by_cases c1 : lo ≤ n
  · by_cases c2 : n ≤ hi
    · simp -implicitDefEqProofs -dsimp (maxSteps := 10000000) only [af9, ops_nil, ops_some, ops_none, oper_none, oper_some, gd_tt, gd_ff, gd_tf, gd_ft, gd_undef, ↓any_op, ↓any_call, ↓any_callV, ↓any_invoke, xo_t, xo_c, args_nil, args_cons, bin_add, bin_sub, bin_mul, bin_quo, bin_rem, bin_and, bin_or, bin_xor, bin_andNot, bin_eql, bin_neq, bin_lss, bin_leq, bin_gtr, bin_geq, bin_shl, bin_shr, bin_bools, bin_strs, bin_ptrs, bin_slices, bin_aggs, ↓Option.bind_some, ↓Option.map_some, ↓cond_true, ↓cond_false, evC, evOp, XO.lit, setArgs, Tr.tabG, Tr.tabS, Tr.tabL, Tr.get_lf, Option.bind_some, Option.map_some, cond_true, cond_false, maxI, maxFrom, minI, minFrom, aConv, aBinE, aEq, eqScal, aUn, evRes, fin, oneOf, if_true, if_false, callee, reduceCtorEq, Nat.reduceEqDiff, and_self, decide_true, decide_false, beq_true, beq_false, Bool.not_true, Bool.not_false, List.getElem?_cons_zero, List.getElem?_cons_succ, beq_self_eq_true, gt_iff_lt, ble_dec, beq_dec, List.head?_cons, AV.undef, eq_self, ne_eq, not_true_eq_false, not_false_eq_true, Int.reduceLT, Int.reduceLE, Int.reduceToNat, Int.reduceEq, Int.reduceNeg, Nat.reduceAdd, Nat.reduceLT, Nat.reduceLeDiff, Nat.reduceMul, Nat.reduceSub, AV.cells, AV.tup, Bool.true_and, true_and, and_true, List.drop_nil, List.append_nil, rd_put, rd_alloc, rdO, St.get_put, St.get_alloc, St.next_put, St.next_alloc, St.wr, Bool.and_self, Bool.and_true, List.length_cons, List.length_nil, List.take_succ_cons, List.take_zero, List.drop_succ_cons, List.drop_zero, List.cons_append, List.nil_append, Nat.zero_add, Nat.add_zero, Nat.reduceMul, c1, c2]
      simp only [within, c1, c2, and_self, if_true]
    · by_cases c3 : t < 0
      · rw [if_pos c3] at hu
        have w3 : IntKind.i64.wrap (t + hi) = t + hi := w64_id (by omega) (by omega)
        have w4 : IntKind.i64.wrap (t + hi - lo) = t + hi - lo := w64_id (by omega) (by omega)
        have w5 : IntKind.i64.wrap (t + hi - lo + 1) = t + hi - lo + 1 := w64_id (by omega) (by omega)
        have w6 : IntKind.i64.wrap (lo + (t + hi - lo + 1)) = lo + (t + hi - lo + 1) := w64_id (by omega) (by omega)
        simp -implicitDefEqProofs -dsimp (maxSteps := 10000000) only [af9, ops_nil, ops_some, ops_none, oper_none, oper_some, gd_tt, gd_ff, gd_tf, gd_ft, gd_undef, ↓any_op, ↓any_call, ↓any_callV, ↓any_invoke, xo_t, xo_c, args_nil, args_cons, bin_add, bin_sub, bin_mul, bin_quo, bin_rem, bin_and, bin_or, bin_xor, bin_andNot, bin_eql, bin_neq, bin_lss, bin_leq, bin_gtr, bin_geq, bin_shl, bin_shr, bin_bools, bin_strs, bin_ptrs, bin_slices, bin_aggs, ↓Option.bind_some, ↓Option.map_some, ↓cond_true, ↓cond_false, evC, evOp, XO.lit, setArgs, Tr.tabG, Tr.tabS, Tr.tabL, Tr.get_lf, Option.bind_some, Option.map_some, cond_true, cond_false, maxI, maxFrom, minI, minFrom, aConv, aBinE, aEq, eqScal, aUn, evRes, fin, oneOf, if_true, if_false, callee, reduceCtorEq, Nat.reduceEqDiff, and_self, decide_true, decide_false, beq_true, beq_false, Bool.not_true, Bool.not_false, List.getElem?_cons_zero, List.getElem?_cons_succ, beq_self_eq_true, gt_iff_lt, ble_dec, beq_dec, List.head?_cons, AV.undef, eq_self, ne_eq, not_true_eq_false, not_false_eq_true, Int.reduceLT, Int.reduceLE, Int.reduceToNat, Int.reduceEq, Int.reduceNeg, Nat.reduceAdd, Nat.reduceLT, Nat.reduceLeDiff, Nat.reduceMul, Nat.reduceSub, AV.cells, AV.tup, Bool.true_and, true_and, and_true, List.drop_nil, List.append_nil, rd_put, rd_alloc, rdO, St.get_put, St.get_alloc, St.next_put, St.next_alloc, St.wr, Bool.and_self, Bool.and_true, List.length_cons, List.length_nil, List.take_succ_cons, List.take_zero, List.drop_succ_cons, List.drop_zero, List.cons_append, List.nil_append, Nat.zero_add, Nat.add_zero, Nat.reduceMul, c1, c2, c3, ht, w1, w2, w3, w4, w5, w6, hne]
        simp only [within, c2, and_false, if_false]
        congr 3; omega
      · rw [if_neg c3] at hu
        have w6 : IntKind.i64.wrap (lo + t) = lo + t := w64_id (by omega) (by omega)
        simp -implicitDefEqProofs -dsimp (maxSteps := 10000000) only [af9, ops_nil, ops_some, ops_none, oper_none, oper_some, gd_tt, gd_ff, gd_tf, gd_ft, gd_undef, ↓any_op, ↓any_call, ↓any_callV, ↓any_invoke, xo_t, xo_c, args_nil, args_cons, bin_add, bin_sub, bin_mul, bin_quo, bin_rem, bin_and, bin_or, bin_xor, bin_andNot, bin_eql, bin_neq, bin_lss, bin_leq, bin_gtr, bin_geq, bin_shl, bin_shr, bin_bools, bin_strs, bin_ptrs, bin_slices, bin_aggs, ↓Option.bind_some, ↓Option.map_some, ↓cond_true, ↓cond_false, evC, evOp, XO.lit, setArgs, Tr.tabG, Tr.tabS, Tr.tabL, Tr.get_lf, Option.bind_some, Option.map_some, cond_true, cond_false, maxI, maxFrom, minI, minFrom, aConv, aBinE, aEq, eqScal, aUn, evRes, fin, oneOf, if_true, if_false, callee, reduceCtorEq, Nat.reduceEqDiff, and_self, decide_true, decide_false, beq_true, beq_false, Bool.not_true, Bool.not_false, List.getElem?_cons_zero, List.getElem?_cons_succ, beq_self_eq_true, gt_iff_lt, ble_dec, beq_dec, List.head?_cons, AV.undef, eq_self, ne_eq, not_true_eq_false, not_false_eq_true, Int.reduceLT, Int.reduceLE, Int.reduceToNat, Int.reduceEq, Int.reduceNeg, Nat.reduceAdd, Nat.reduceLT, Nat.reduceLeDiff, Nat.reduceMul, Nat.reduceSub, AV.cells, AV.tup, Bool.true_and, true_and, and_true, List.drop_nil, List.append_nil, rd_put, rd_alloc, rdO, St.get_put, St.get_alloc, St.next_put, St.next_alloc, St.wr, Bool.and_self, Bool.and_true, List.length_cons, List.length_nil, List.take_succ_cons, List.take_zero, List.drop_succ_cons, List.drop_zero, List.cons_append, List.nil_append, Nat.zero_add, Nat.add_zero, Nat.reduceMul, c1, c2, c3, ht, w1, w2, w6, hne]
        simp only [within, c2, and_false, if_false, hu]
  · by_cases c3 : t < 0
    · rw [if_pos c3] at hu
      have w3 : IntKind.i64.wrap (t + hi) = t + hi := w64_id (by omega) (by omega)
      have w4 : IntKind.i64.wrap (t + hi - lo) = t + hi - lo := w64_id (by omega) (by omega)
      have w5 : IntKind.i64.wrap (t + hi - lo + 1) = t + hi - lo + 1 := w64_id (by omega) (by omega)
      have w6 : IntKind.i64.wrap (lo + (t + hi - lo + 1)) = lo + (t + hi - lo + 1) := w64_id (by omega) (by omega)
      simp -implicitDefEqProofs -dsimp (maxSteps := 10000000) only [af9, ops_nil, ops_some, ops_none, oper_none, oper_some, gd_tt, gd_ff, gd_tf, gd_ft, gd_undef, ↓any_op, ↓any_call, ↓any_callV, ↓any_invoke, xo_t, xo_c, args_nil, args_cons, bin_add, bin_sub, bin_mul, bin_quo, bin_rem, bin_and, bin_or, bin_xor, bin_andNot, bin_eql, bin_neq, bin_lss, bin_leq, bin_gtr, bin_geq, bin_shl, bin_shr, bin_bools, bin_strs, bin_ptrs, bin_slices, bin_aggs, ↓Option.bind_some, ↓Option.map_some, ↓cond_true, ↓cond_false, evC, evOp, XO.lit, setArgs, Tr.tabG, Tr.tabS, Tr.tabL, Tr.get_lf, Option.bind_some, Option.map_some, cond_true, cond_false, maxI, maxFrom, minI, minFrom, aConv, aBinE, aEq, eqScal, aUn, evRes, fin, oneOf, if_true, if_false, callee, reduceCtorEq, Nat.reduceEqDiff, and_self, decide_true, decide_false, beq_true, beq_false, Bool.not_true, Bool.not_false, List.getElem?_cons_zero, List.getElem?_cons_succ, beq_self_eq_true, gt_iff_lt, ble_dec, beq_dec, List.head?_cons, AV.undef, eq_self, ne_eq, not_true_eq_false, not_false_eq_true, Int.reduceLT, Int.reduceLE, Int.reduceToNat, Int.reduceEq, Int.reduceNeg, Nat.reduceAdd, Nat.reduceLT, Nat.reduceLeDiff, Nat.reduceMul, Nat.reduceSub, AV.cells, AV.tup, Bool.true_and, true_and, and_true, List.drop_nil, List.append_nil, rd_put, rd_alloc, rdO, St.get_put, St.get_alloc, St.next_put, St.next_alloc, St.wr, Bool.and_self, Bool.and_true, List.length_cons, List.length_nil, List.take_succ_cons, List.take_zero, List.drop_succ_cons, List.drop_zero, List.cons_append, List.nil_append, Nat.zero_add, Nat.add_zero, Nat.reduceMul, c1, c3, ht, w1, w2, w3, w4, w5, w6, hne]
      simp only [within, c1, false_and, if_false]
      congr 3; omega
    · rw [if_neg c3] at hu
      have w6 : IntKind.i64.wrap (lo + t) = lo + t := w64_id (by omega) (by omega)
      simp -implicitDefEqProofs -dsimp (maxSteps := 10000000) only [af9, ops_nil, ops_some, ops_none, oper_none, oper_some, gd_tt, gd_ff, gd_tf, gd_ft, gd_undef, ↓any_op, ↓any_call, ↓any_callV, ↓any_invoke, xo_t, xo_c, args_nil, args_cons, bin_add, bin_sub, bin_mul, bin_quo, bin_rem, bin_and, bin_or, bin_xor, bin_andNot, bin_eql, bin_neq, bin_lss, bin_leq, bin_gtr, bin_geq, bin_shl, bin_shr, bin_bools, bin_strs, bin_ptrs, bin_slices, bin_aggs, ↓Option.bind_some, ↓Option.map_some, ↓cond_true, ↓cond_false, evC, evOp, XO.lit, setArgs, Tr.tabG, Tr.tabS, Tr.tabL, Tr.get_lf, Option.bind_some, Option.map_some, cond_true, cond_false, maxI, maxFrom, minI, minFrom, aConv, aBinE, aEq, eqScal, aUn, evRes, fin, oneOf, if_true, if_false, callee, reduceCtorEq, Nat.reduceEqDiff, and_self, decide_true, decide_false, beq_true, beq_false, Bool.not_true, Bool.not_false, List.getElem?_cons_zero, List.getElem?_cons_succ, beq_self_eq_true, gt_iff_lt, ble_dec, beq_dec, List.head?_cons, AV.undef, eq_self, ne_eq, not_true_eq_false, not_false_eq_true, Int.reduceLT, Int.reduceLE, Int.reduceToNat, Int.reduceEq, Int.reduceNeg, Nat.reduceAdd, Nat.reduceLT, Nat.reduceLeDiff, Nat.reduceMul, Nat.reduceSub, AV.cells, AV.tup, Bool.true_and, true_and, and_true, List.drop_nil, List.append_nil, rd_put, rd_alloc, rdO, St.get_put, St.get_alloc, St.next_put, St.next_alloc, St.wr, Bool.and_self, Bool.and_true, List.length_cons, List.length_nil, List.take_succ_cons, List.take_zero, List.drop_succ_cons, List.drop_zero, List.cons_append, List.nil_append, Nat.zero_add, Nat.add_zero, Nat.reduceMul, c1, c3, ht, w1, w2, w6, hne]
      simp only [within, c1, false_and, if_false, hu]
theorem By.lit {S : St} {l : List Nat} (hb : Byt l) (hm : l.length ≤ 9223372036854775807) : By (S.alloc (.cells (bv l) 0 0 true)) (some (S.next, 0, 0)) 1 l := by
  refine ⟨.inr rfl, fun h => (by cases h), fun o v i h => ?_, hb, hm⟩
  cases h
  refine ⟨Nat.lt_succ_self _, ?_⟩
  rw [rd_cells (by rw [St.get_alloc, if_pos rfl]) (Nat.le_refl _) (by rw [bv_len]; omega), List.drop_zero, List.take_of_length_le (by rw [bv_len]; exact Nat.le_refl _)]
abbrev zr : List AV := [.bool false, .int .i64 0, .int .u16 0, .int .u32 0, .int .u32 0, .slice none 0 0 none, .int .u16 0, .slice none 0 0 none, .slice none 0 0 none]
abbrev pcl (b : Nat) : List AV := [.bool false, .int .i64 96, .int .u16 0, .int .u32 5, .int .u32 0, .slice none 0 0 none, .int .u16 0, .slice none 0 0 none, .slice (some (b, 0, 0)) 1 1 none]
/-- How the writer, the packet and its payload lie. -/
structure Ly (o b q : Nat) (x : Wr) (S : St) : Prop where
  gw : S.get o = some (wr x)
  gp : S.get q = some (.cells (pcl b) 0 0 true)
  by_ : By S (some (b, 0, 0)) 1 [1]
  ob : ¬ b = o
  oq : ¬ q = o
  lo : o < S.next
  lq : q < S.next
theorem Ly.ext {o b q : Nat} {x : Wr} {S S' : St} (h : Ly o b q x S) (e : Ext S S') : Ly o b q x S' :=
  ⟨e.get h.lo h.gw, e.get h.lq h.gp, h.by_.ext e, h.ob, h.oq, Nat.lt_of_lt_of_le h.lo e.next, Nat.lt_of_lt_of_le h.lq e.next⟩
theorem Ly.mut {o b q : Nat} {x x' : Wr} {S S' : St} (h : Ly o b q x S) (m : Mut S S' o (wr x')) : Ly o b q x' S' :=
  ⟨m.get, by rw [m.old _ h.lq h.oq]; exact h.gp, h.by_.mut m (fun o' v i hp => by cases hp; exact h.ob), h.ob, h.oq, Nat.lt_of_lt_of_le h.lo m.next, Nat.lt_of_lt_of_le h.lq m.next⟩
/-- One packet of layer 1. -/
theorem pk1 (k : Nat) {o b q : Nat} {x : Wr} {S : St} (h : Ly o b q x S) (E : Int) (K : Bool) :
    ∃ v S', evF Y AP (k + 10) 12 [pt o, .int .i64 1, .int .i64 E, .bool K, .agg [.bool false, .int .i64 96, .int .u16 0, .int .u32 5, .int .u32 0, .slice none 0 0 none, .int .u16 0, .slice none 0 0 none, .slice (some (b, 0, 0)) 1 1 none]] S = some (v, S') ∧ Pkd o (pkW x 1 E K 5) false 96 [1] S v S' := by
  obtain ⟨v, S', h1, h2⟩ := T12 k h.gw h.lo (L := 1) (E := E) (ty := 96) (sq := 0) (tm := 5) (ss := 0) (pf := 0) (K := K) (mk := false) (cs := .slice none 0 0 none) (ex := .slice none 0 0 none) (by omega) (by omega) (c := none) h.by_ (fun o' v i hp => by cases hp; exact h.ob) (by simp)
  have h1 : evF Y AP (k + 10) 12 [pt o, .int .i64 1, .int .i64 E, .bool K, .agg [.bool false, .int .i64 96, .int .u16 0, .int .u32 5, .int .u32 0, .slice none 0 0 none, .int .u16 0, .slice none 0 0 none, .slice (some (b, 0, 0)) 1 1 none]] S = some (v, S') := h1
  exact ⟨v, S', h1, h2⟩
structure L1 (p : Option (Nat × Nat × Nat)) (len o b q kk : Nat) (Sb : St) (m : Nat) (T : Tm) (S : St) : Prop where
  t2 : T.get 2 = some (.slice p len 1 none)
  t7 : T.get 7 = some (pt o)
  t8 : T.get 8 = some (.int .i64 kk)
  t9 : T.get 9 = some (.ptr (some ⟨q, 0, 0, 9⟩))
  ext : Ext Sb S
  more : ∃ (x : Wr) (j : Nat), T.get 10 = some (.int .i64 j) ∧ Ly o b q x S ∧ x.w = 1 ∧ j + m = kk ∧ (j = 0 ∧ x.l = -1 ∧ x.n = -1 ∨ 1 ≤ j ∧ x.l = 1 ∧ x.n = (j : Int) - 1 ∧ x.i = 49 + (j : Int))
set_option maxHeartbeats 8000000 in
theorem roundL1 (k : Nat) {p : Option (Nat × Nat × Nat)} {len o b q kk : Nat} (hk : kk ≤ 20) {Sb : St} (ho : Sb.next ≤ o) (hq : Sb.next ≤ q) (m : Nat) (T : Tm) (S : St) (hI : L1 p len o b q kk Sb m T S) :
    Goes (evF Y AP (k + 99)) (k + 99) af7_l1 T S (Then (fun T' S' => ∃ m', L1 p len o b q kk Sb m' T' S' ∧ id m' < id m) fun r T' S' => r = .exit 0 ∧ L1 p len o b q kk Sb 0 T' S') := by
  obtain ⟨t2, t7, t8, t9, he, x, j, t10, Lx, xw, hm, hst⟩ := hI
  rcases m with _ | m
  · have c1 : ¬ (j : Int) < (kk : Int) := by omega
    simp -implicitDefEqProofs -dsimp (maxSteps := 10000000) only [af7_l1, ↓goes_loop, ↓goes_seq, ↓goes_reg, ↓goes_dreg, ↓goes_cond, ↓goes_block, ↓goes_skip, ↓goes_exit, ↓goes_ret, after_some, br_true, br_false, ↓then_normal, ↓then_exit, ↓then_ret, ↓blk_normal, ↓blk_exit, ↓blk_ret, ↓blk_other, ops_nil, ops_some, ops_none, oper_none, oper_some, gd_tt, gd_ff, gd_tf, gd_ft, gd_undef, ↓any_op, ↓any_call, ↓any_callV, ↓any_invoke, xo_t, xo_c, args_nil, args_cons, bin_add, bin_sub, bin_mul, bin_quo, bin_rem, bin_and, bin_or, bin_xor, bin_andNot, bin_eql, bin_neq, bin_lss, bin_leq, bin_gtr, bin_geq, bin_shl, bin_shr, bin_bools, bin_strs, bin_ptrs, bin_slices, bin_aggs, ↓Option.bind_some, ↓Option.map_some, ↓cond_true, ↓cond_false, evC, evOp, XO.lit, setArgs, Tr.get_set, Option.bind_some, Option.map_some, cond_true, cond_false, maxI, maxFrom, minI, minFrom, aConv, aBinE, aEq, eqScal, aUn, evRes, fin, oneOf, if_true, if_false, callee, reduceCtorEq, Nat.reduceEqDiff, and_self, decide_true, decide_false, beq_true, beq_false, Bool.not_true, Bool.not_false, List.getElem?_cons_zero, List.getElem?_cons_succ, beq_self_eq_true, gt_iff_lt, ble_dec, beq_dec, List.head?_cons, AV.undef, eq_self, ne_eq, not_true_eq_false, not_false_eq_true, Int.reduceLT, Int.reduceLE, Int.reduceToNat, Int.reduceEq, Int.reduceNeg, Nat.reduceAdd, Nat.reduceLT, Nat.reduceLeDiff, Nat.reduceMul, Nat.reduceSub, AV.cells, AV.tup, Bool.true_and, true_and, and_true, List.drop_nil, List.append_nil, rd_put, rd_alloc, rdO, St.get_put, St.get_alloc, St.next_put, St.next_alloc, St.wr, Bool.and_self, Bool.and_true, List.length_cons, List.length_nil, List.take_succ_cons, List.take_zero, List.drop_succ_cons, List.drop_zero, List.cons_append, List.nil_append, Nat.zero_add, Nat.add_zero, Nat.reduceMul, t8, t10, c1]
    refine ⟨?_, ?_, ?_, ?_, he, x, j, ?_, Lx, xw, hm, hst⟩ <;> simp only [Tr.get_set, Nat.reduceEqDiff, if_false, if_true, t2, t7, t8, t9, t10]
  have c1 : (j : Int) < (kk : Int) := by omega
  have w1 : IntKind.i64.wrap (50 + (j : Int)) = 50 + j := w64_id (by omega) (by omega)
  have w2 : IntKind.i64.wrap ((j : Int) + 1) = ((j + 1 : Nat) : Int) := w64_id (by omega) (by omega)
  have hrp : ∀ v i m, S.rd q v i m = rdO (.cells (pcl b) 0 0 true) v i m := rd_of Lx.gp
  obtain ⟨K, hK⟩ : ∃ K, decide ((j : Int) = 0) = K := ⟨_, rfl⟩
  obtain ⟨v, S2, r2, pk⟩ := pk1 (k + 89) Lx (50 + (j : Int)) K
  have r2 : evF Y AP (k + 99) 12 [pt o, .int .i64 1, .int .i64 (50 + (j : Int)), .bool K, .agg [.bool false, .int .i64 96, .int .u16 0, .int .u32 5, .int .u32 0, .slice none 0 0 none, .int .u16 0, .slice none 0 0 none, .slice (some (b, 0, 0)) 1 1 none]] S = some (v, S2) := r2
  have sn : sat 0 1 = 1 := sat_ok (by decide) (by decide) (by decide)
  obtain ⟨x', hx', xl, xn, xi, xw'⟩ : ∃ x', pkW x 1 (50 + (j : Int)) K 5 = some x' ∧ x'.l = 1 ∧ x'.n = j ∧ x'.i = 50 + (j : Int) ∧ x'.w = 1 := by
    rcases hst with ⟨h1, h2, h3⟩ | ⟨h1, h2, h3, h4⟩
    · have hKt : K = true := by rw [← hK]; exact decide_eq_true (by omega)
      rw [pkW, if_neg (by omega), if_neg (by omega), if_pos hKt]
      refine ⟨_, rfl, rfl, ?_, rfl, xw⟩
      show nxt x.n = j
      rw [h3, h1]; rfl
    · rw [pkW, if_neg (by omega), if_pos h2.symm, if_neg (by omega)]
      refine ⟨_, rfl, h2, ?_, rfl, xw⟩
      show sat x.n (IntKind.i64.wrap (50 + (j : Int) - x.i)) = j
      have : IntKind.i64.wrap (50 + (j : Int) - x.i) = 1 := by rw [w64_id (by omega) (by omega)]; omega
      rw [this, sat_ok (by omega) (by decide) (by omega)]
      omega
  unfold Pkd at pk
  rw [hx'] at pk
  obtain ⟨u, rfl, mt, _⟩ := pk
  have L2 := Lx.mut mt
  have h13 : ∀ S, S.get o = some (wr x') → evF Y AP (k + 99) 13 [pt o] S = some (.int .i64 j, S) := fun S h => by rw [← xn]; exact T13 (k + 95) h
  have no : ¬ o = S2.next := by have := L2.lo; omega
  have g2 := L2.gw
  have hnb := he.next
  simp -implicitDefEqProofs -dsimp (maxSteps := 10000000) only [af7_l1, ↓goes_loop, ↓goes_seq, ↓goes_reg, ↓goes_dreg, ↓goes_cond, ↓goes_block, ↓goes_skip, ↓goes_exit, ↓goes_ret, after_some, br_true, br_false, ↓then_normal, ↓then_exit, ↓then_ret, ↓blk_normal, ↓blk_exit, ↓blk_ret, ↓blk_other, ops_nil, ops_some, ops_none, oper_none, oper_some, gd_tt, gd_ff, gd_tf, gd_ft, gd_undef, ↓any_op, ↓any_call, ↓any_callV, ↓any_invoke, xo_t, xo_c, args_nil, args_cons, bin_add, bin_sub, bin_mul, bin_quo, bin_rem, bin_and, bin_or, bin_xor, bin_andNot, bin_eql, bin_neq, bin_lss, bin_leq, bin_gtr, bin_geq, bin_shl, bin_shr, bin_bools, bin_strs, bin_ptrs, bin_slices, bin_aggs, ↓Option.bind_some, ↓Option.map_some, ↓cond_true, ↓cond_false, evC, evOp, XO.lit, setArgs, Tr.get_set, Option.bind_some, Option.map_some, cond_true, cond_false, maxI, maxFrom, minI, minFrom, aConv, aBinE, aEq, eqScal, aUn, evRes, fin, oneOf, if_true, if_false, callee, reduceCtorEq, Nat.reduceEqDiff, and_self, decide_true, decide_false, beq_true, beq_false, Bool.not_true, Bool.not_false, List.getElem?_cons_zero, List.getElem?_cons_succ, beq_self_eq_true, gt_iff_lt, ble_dec, beq_dec, List.head?_cons, AV.undef, eq_self, ne_eq, not_true_eq_false, not_false_eq_true, Int.reduceLT, Int.reduceLE, Int.reduceToNat, Int.reduceEq, Int.reduceNeg, Nat.reduceAdd, Nat.reduceLT, Nat.reduceLeDiff, Nat.reduceMul, Nat.reduceSub, AV.cells, AV.tup, Bool.true_and, true_and, and_true, List.drop_nil, List.append_nil, rd_put, rd_alloc, rdO, St.get_put, St.get_alloc, St.next_put, St.next_alloc, St.wr, Bool.and_self, Bool.and_true, List.length_cons, List.length_nil, List.take_succ_cons, List.take_zero, List.drop_succ_cons, List.drop_zero, List.cons_append, List.nil_append, Nat.zero_add, Nat.add_zero, Nat.reduceMul, aFill, evParts, rep, List.replicate_succ, List.replicate_zero, List.flatten_cons, List.flatten_nil, List.append_nil, newSl, newVar, t7, t8, t9, t10, c1, w1, w2, hK, hrp, r2, rtp, h13, no, g2]
  refine ⟨m, ⟨?_, ?_, ?_, ?_, ((mt.ext he ho).then_alloc _).then_put (by have := (mt.ext he ho).next; exact this) _, x', j + 1, ?_, L2.ext (((Ext.refl S2).then_alloc _).then_put (Nat.le_refl _) _), xw', by omega, .inr ⟨by omega, xl, by omega, by omega⟩⟩, Nat.lt_succ_self m⟩
  all_goals simp only [Tr.get_set, Nat.reduceEqDiff, if_false, if_true, t2, t7, t8, t9]
structure L2 (p : Option (Nat × Nat × Nat)) (len o b q : Nat) (Sb : St) (m : Nat) (T : Tm) (S : St) : Prop where
  t2 : T.get 2 = some (.slice p len 1 none)
  t7 : T.get 7 = some (pt o)
  t9 : T.get 9 = some (.ptr (some ⟨q, 0, 0, 9⟩))
  ext : Ext Sb S
  more : ∃ (x : Wr) (j : Nat) (f : Bool), T.get 15 = some (.int .i64 j) ∧ T.get 14 = some (.int .i64 x.n) ∧ T.get 13 = some (.bool f) ∧ Ly o b q x S ∧ x.w = 1 ∧ j ≤ 30 ∧ j + m = 30 ∧ 0 ≤ x.n ∧ x.n ≤ 19 + 3 * (j : Int) ∧ (x.l = -1 ∧ f = true ∨ x.l = 1 ∧ f = false ∧ x.i = 97 + 3 * (j : Int))
set_option maxHeartbeats 16000000 in
theorem roundL2 (k : Nat) {p : Option (Nat × Nat × Nat)} {len o b q : Nat} {Sb : St} (hs : Sl Sb p len [.bool]) (ho : Sb.next ≤ o) (hq : Sb.next ≤ q) (m : Nat) (T : Tm) (S : St) (hI : L2 p len o b q Sb m T S) :
    Goes (evF Y AP (k + 99)) (k + 99) af7_l0 T S (Then (fun T' S' => ∃ m', L2 p len o b q Sb m' T' S' ∧ id m' < id m) fun r T' S' => r = .exit 2 ∧ ∃ m', L2 p len o b q Sb m' T' S') := by
  have hm1 := hs.max
  obtain ⟨t2, t7, t9, he, x, j, f, t15, t14, t13, Lx, xw, j1, hm, n0, n1, hst⟩ := hI
  by_cases c1 : (j : Int) < (len : Int)
  rotate_left
  · simp -implicitDefEqProofs -dsimp (maxSteps := 10000000) only [af7_l0, ↓goes_loop, ↓goes_seq, ↓goes_reg, ↓goes_dreg, ↓goes_cond, ↓goes_block, ↓goes_skip, ↓goes_exit, ↓goes_ret, after_some, br_true, br_false, ↓then_normal, ↓then_exit, ↓then_ret, ↓blk_normal, ↓blk_exit, ↓blk_ret, ↓blk_other, ops_nil, ops_some, ops_none, oper_none, oper_some, gd_tt, gd_ff, gd_tf, gd_ft, gd_undef, ↓any_op, ↓any_call, ↓any_callV, ↓any_invoke, xo_t, xo_c, args_nil, args_cons, bin_add, bin_sub, bin_mul, bin_quo, bin_rem, bin_and, bin_or, bin_xor, bin_andNot, bin_eql, bin_neq, bin_lss, bin_leq, bin_gtr, bin_geq, bin_shl, bin_shr, bin_bools, bin_strs, bin_ptrs, bin_slices, bin_aggs, ↓Option.bind_some, ↓Option.map_some, ↓cond_true, ↓cond_false, evC, evOp, XO.lit, setArgs, Tr.get_set, Option.bind_some, Option.map_some, cond_true, cond_false, maxI, maxFrom, minI, minFrom, aConv, aBinE, aEq, eqScal, aUn, evRes, fin, oneOf, if_true, if_false, callee, reduceCtorEq, Nat.reduceEqDiff, and_self, decide_true, decide_false, beq_true, beq_false, Bool.not_true, Bool.not_false, List.getElem?_cons_zero, List.getElem?_cons_succ, beq_self_eq_true, gt_iff_lt, ble_dec, beq_dec, List.head?_cons, AV.undef, eq_self, ne_eq, not_true_eq_false, not_false_eq_true, Int.reduceLT, Int.reduceLE, Int.reduceToNat, Int.reduceEq, Int.reduceNeg, Nat.reduceAdd, Nat.reduceLT, Nat.reduceLeDiff, Nat.reduceMul, Nat.reduceSub, AV.cells, AV.tup, Bool.true_and, true_and, and_true, List.drop_nil, List.append_nil, rd_put, rd_alloc, rdO, St.get_put, St.get_alloc, St.next_put, St.next_alloc, St.wr, Bool.and_self, Bool.and_true, List.length_cons, List.length_nil, List.take_succ_cons, List.take_zero, List.drop_succ_cons, List.drop_zero, List.cons_append, List.nil_append, Nat.zero_add, Nat.add_zero, Nat.reduceMul, t2, t15, c1, hm1]
    refine ⟨m, ?_, ?_, ?_, he, x, j, f, ?_, ?_, ?_, Lx, xw, j1, hm, n0, n1, hst⟩ <;> simp only [Tr.get_set, Nat.reduceEqDiff, if_false, if_true, t2, t7, t9, t13, t14, t15]
  by_cases c2 : (j : Int) < 30
  rotate_left
  · simp -implicitDefEqProofs -dsimp (maxSteps := 10000000) only [af7_l0, ↓goes_loop, ↓goes_seq, ↓goes_reg, ↓goes_dreg, ↓goes_cond, ↓goes_block, ↓goes_skip, ↓goes_exit, ↓goes_ret, after_some, br_true, br_false, ↓then_normal, ↓then_exit, ↓then_ret, ↓blk_normal, ↓blk_exit, ↓blk_ret, ↓blk_other, ops_nil, ops_some, ops_none, oper_none, oper_some, gd_tt, gd_ff, gd_tf, gd_ft, gd_undef, ↓any_op, ↓any_call, ↓any_callV, ↓any_invoke, xo_t, xo_c, args_nil, args_cons, bin_add, bin_sub, bin_mul, bin_quo, bin_rem, bin_and, bin_or, bin_xor, bin_andNot, bin_eql, bin_neq, bin_lss, bin_leq, bin_gtr, bin_geq, bin_shl, bin_shr, bin_bools, bin_strs, bin_ptrs, bin_slices, bin_aggs, ↓Option.bind_some, ↓Option.map_some, ↓cond_true, ↓cond_false, evC, evOp, XO.lit, setArgs, Tr.get_set, Option.bind_some, Option.map_some, cond_true, cond_false, maxI, maxFrom, minI, minFrom, aConv, aBinE, aEq, eqScal, aUn, evRes, fin, oneOf, if_true, if_false, callee, reduceCtorEq, Nat.reduceEqDiff, and_self, decide_true, decide_false, beq_true, beq_false, Bool.not_true, Bool.not_false, List.getElem?_cons_zero, List.getElem?_cons_succ, beq_self_eq_true, gt_iff_lt, ble_dec, beq_dec, List.head?_cons, AV.undef, eq_self, ne_eq, not_true_eq_false, not_false_eq_true, Int.reduceLT, Int.reduceLE, Int.reduceToNat, Int.reduceEq, Int.reduceNeg, Nat.reduceAdd, Nat.reduceLT, Nat.reduceLeDiff, Nat.reduceMul, Nat.reduceSub, AV.cells, AV.tup, Bool.true_and, true_and, and_true, List.drop_nil, List.append_nil, rd_put, rd_alloc, rdO, St.get_put, St.get_alloc, St.next_put, St.next_alloc, St.wr, Bool.and_self, Bool.and_true, List.length_cons, List.length_nil, List.take_succ_cons, List.take_zero, List.drop_succ_cons, List.drop_zero, List.cons_append, List.nil_append, Nat.zero_add, Nat.add_zero, Nat.reduceMul, t2, t15, c1, c2, hm1]
    refine ⟨m, ?_, ?_, ?_, he, x, j, f, ?_, ?_, ?_, Lx, xw, j1, hm, n0, n1, hst⟩ <;> simp only [Tr.get_set, Nat.reduceEqDiff, if_false, if_true, t2, t7, t9, t13, t14, t15]
  obtain ⟨o1, v1, i1, rfl, ho1⟩ := hs.at_ (by omega)
  obtain ⟨ky, hky⟩ := hs.bool (j := (j : Int)) (by omega) c1
  rw [show ((j : Nat) : Int).toNat = j from rfl, Nat.mul_one] at hky
  have hz : S.rd o1 v1 (i1 + j) 1 = some [.bool ky] := by rw [he.rd ho1]; exact hky
  have hix : ixOf (.int .i64 (j : Int)) len = some j := by rw [ix_ok (by omega) c1]; rfl
  have w1 : IntKind.i64.wrap (3 * (j : Int)) = 3 * j := w64_id (by omega) (by omega)
  have w2 : IntKind.i64.wrap (100 + 3 * (j : Int)) = 100 + 3 * j := w64_id (by omega) (by omega)
  have wj : IntKind.i64.wrap ((j : Int) + 1) = ((j + 1 : Nat) : Int) := w64_id (by omega) (by omega)
  have wn1 : IntKind.i64.wrap (x.n + 1) = x.n + 1 := w64_id (by omega) (by omega)
  have wn3 : IntKind.i64.wrap (x.n + 3) = x.n + 3 := w64_id (by omega) (by omega)
  have hrp : ∀ v i m, S.rd q v i m = rdO (.cells (pcl b) 0 0 true) v i m := rd_of Lx.gp
  obtain ⟨v, S2, r2, pk⟩ := pk1 (k + 89) Lx (100 + 3 * (j : Int)) ky
  have r2 : evF Y AP (k + 99) 12 [pt o, .int .i64 1, .int .i64 (100 + 3 * (j : Int)), .bool ky, .agg [.bool false, .int .i64 96, .int .u16 0, .int .u32 5, .int .u32 0, .slice none 0 0 none, .int .u16 0, .slice none 0 0 none, .slice (some (b, 0, 0)) 1 1 none]] S = some (v, S2) := r2
  have hch : ∀ T, chkB ⟨some 16, none, .alloc [.bool false, .int .i64 0, .int .u16 0, .int .u32 0, .int .u32 0, .slice none 0 0 none, .int .u16 0, .slice none 0 0 none, .slice none 0 0 none]⟩ T = true := fun _ => rfl
  unfold Pkd at pk
  have hnb := he.next
  have ejj : ((j + 1 : Nat) : Int) = (j : Int) + 1 := by omega
  cases hx : pkW x 1 (100 + 3 * (j : Int)) ky 5 with
  | none =>
    rw [hx] at pk
    obtain ⟨rfl, xx⟩ := pk
    have hf : x.l = -1 ∧ f = true ∧ ky = false := by
      rw [pkW, if_neg (by omega)] at hx
      rcases hst with ⟨h1, h2⟩ | ⟨h1, h2, h3⟩
      · rw [if_neg (by omega)] at hx
        refine ⟨h1, h2, ?_⟩
        cases ky with
        | false => rfl
        | true => rw [if_pos rfl] at hx; cases hx
      · rw [if_pos h1.symm, if_neg (by omega)] at hx; cases hx
    obtain ⟨h1, rfl, rfl⟩ := hf
    have Lz := Lx.ext xx
    have no1 : ¬ o1 = S2.next := by have := xx.next; omega
    have nq : ¬ q = S2.next := by have := Lz.lq; omega
    have hz2 : S2.rd o1 v1 (i1 + j) 1 = some [.bool false] := by rw [xx.rd (by omega)]; exact hz
    have hrp2 : ∀ v i m, S2.rd q v i m = rdO (.cells (pcl b) 0 0 true) v i m := rd_of Lz.gp
    simp -implicitDefEqProofs -dsimp (maxSteps := 10000000) only [af7_l0, ↓goes_loop, ↓goes_seq, ↓goes_reg, ↓goes_dreg, ↓goes_cond, ↓goes_block, ↓goes_skip, ↓goes_exit, ↓goes_ret, after_some, br_true, br_false, ↓then_normal, ↓then_exit, ↓then_ret, ↓blk_normal, ↓blk_exit, ↓blk_ret, ↓blk_other, ops_nil, ops_some, ops_none, oper_none, oper_some, gd_tt, gd_ff, gd_tf, gd_ft, gd_undef, ↓any_op, ↓any_call, ↓any_callV, ↓any_invoke, xo_t, xo_c, args_nil, args_cons, bin_add, bin_sub, bin_mul, bin_quo, bin_rem, bin_and, bin_or, bin_xor, bin_andNot, bin_eql, bin_neq, bin_lss, bin_leq, bin_gtr, bin_geq, bin_shl, bin_shr, bin_bools, bin_strs, bin_ptrs, bin_slices, bin_aggs, ↓Option.bind_some, ↓Option.map_some, ↓cond_true, ↓cond_false, evC, evOp, XO.lit, setArgs, Tr.get_set, Option.bind_some, Option.map_some, cond_true, cond_false, maxI, maxFrom, minI, minFrom, aConv, aBinE, aEq, eqScal, aUn, evRes, fin, oneOf, if_true, if_false, callee, reduceCtorEq, Nat.reduceEqDiff, and_self, decide_true, decide_false, beq_true, beq_false, Bool.not_true, Bool.not_false, List.getElem?_cons_zero, List.getElem?_cons_succ, beq_self_eq_true, gt_iff_lt, ble_dec, beq_dec, List.head?_cons, AV.undef, eq_self, ne_eq, not_true_eq_false, not_false_eq_true, Int.reduceLT, Int.reduceLE, Int.reduceToNat, Int.reduceEq, Int.reduceNeg, Nat.reduceAdd, Nat.reduceLT, Nat.reduceLeDiff, Nat.reduceMul, Nat.reduceSub, ↓evDraw_nil, bir, putD, evDraw, trace, List.all_cons, List.all_nil, chk, stAt, again, sameV, sameL, sameA, AV.undef, Bool.and_self, Bool.and_true, decide_eq_true_eq, List.getElem?_nil, AV.cells, AV.tup, Bool.true_and, true_and, and_true, List.drop_nil, List.append_nil, rd_put, rd_alloc, rdO, St.get_put, St.get_alloc, St.next_put, St.next_alloc, St.wr, Bool.and_self, Bool.and_true, List.length_cons, List.length_nil, List.take_succ_cons, List.take_zero, List.drop_succ_cons, List.drop_zero, List.cons_append, List.nil_append, Nat.zero_add, Nat.add_zero, Nat.reduceMul, aFill, evParts, rep, List.replicate_succ, List.replicate_zero, List.flatten_cons, List.flatten_nil, List.append_nil, newSl, newVar, t2, t7, t9, t13, t14, t15, c1, c2, hm1, hix, Nat.mul_one, hz, w1, w2, wj, hrp, r2, rtp0, no1, nq, hz2, hrp2, hch]
    refine ⟨m - 1, ⟨?_, ?_, ?_, ((he.trans xx).then_alloc _).then_put (by have := (he.trans xx).next; exact this) _, x, j + 1, true, ?_, ?_, ?_, Lz.ext (((Ext.refl S2).then_alloc _).then_put (Nat.le_refl _) _), xw, by omega, by omega, n0, by omega, .inl ⟨h1, rfl⟩⟩, by simp only [id]; omega⟩
    all_goals simp only [Tr.get_set, Nat.reduceEqDiff, if_false, if_true, t2, t7, t9, t13, t14]
  | some x' =>
    rw [hx] at pk
    obtain ⟨u, rfl, mt, _⟩ := pk
    have Lz := Lx.mut mt
    have lt2 := mt.next
    have hf : x'.l = 1 ∧ x'.w = 1 ∧ x'.i = 100 + 3 * (j : Int) ∧ (f = true ∧ ky = true ∧ x'.n = x.n + 1 ∨ f = false ∧ x'.n = x.n + 3) := by
      rw [pkW, if_neg (by omega)] at hx
      rcases hst with ⟨h1, h2⟩ | ⟨h1, h2, h3⟩
      · rw [if_neg (by omega)] at hx
        cases ky with
        | false => simp at hx
        | true =>
          rw [if_pos rfl] at hx
          cases hx
          refine ⟨rfl, xw, rfl, .inl ⟨h2, rfl, ?_⟩⟩
          show nxt x.n = x.n + 1
          rw [nxt, if_neg (by omega), sat_ok n0 (by decide) (by omega)]
      · rw [if_pos h1.symm, if_neg (by omega)] at hx
        cases hx
        refine ⟨h1, xw, rfl, .inr ⟨h2, ?_⟩⟩
        show sat x.n (IntKind.i64.wrap (100 + 3 * (j : Int) - x.i)) = x.n + 3
        have : IntKind.i64.wrap (100 + 3 * (j : Int) - x.i) = 3 := by rw [w64_id (by omega) (by omega)]; omega
        rw [this, sat_ok n0 (by decide) (by omega)]
    obtain ⟨xl', xw', xi', hf⟩ := hf
    have no1 : ¬ o1 = S2.next := by omega
    have nq : ¬ q = S2.next := by have := Lz.lq; omega
    have no : ¬ o = S2.next := by have := Lz.lo; omega
    have hz2 : S2.rd o1 v1 (i1 + j) 1 = some [.bool ky] := by
      have := (mt.ext he ho).rd ho1 v1 (i1 + j) 1
      rw [this]; exact hky
    have hrp2 : ∀ v i m, S2.rd q v i m = rdO (.cells (pcl b) 0 0 true) v i m := rd_of Lz.gp
    have g2 := Lz.gw
    have h13 : ∀ S, S.get o = some (wr x') → evF Y AP (k + 99) 13 [pt o] S = some (.int .i64 x'.n, S) := fun S h => T13 (k + 95) h
    have LF : Ly o b q x' ((S2.alloc (.cells zr 0 0 true)).put S2.next (.cells (rtp false 96 (x'.n % 65536) (x'.p % 4294967296) x'.s u) 0 0 true)) := Lz.ext (((Ext.refl S2).then_alloc _).then_put (Nat.le_refl _) _)
    have eF : Ext Sb ((S2.alloc (.cells zr 0 0 true)).put S2.next (.cells (rtp false 96 (x'.n % 65536) (x'.p % 4294967296) x'.s u) 0 0 true)) := ((mt.ext he ho).then_alloc _).then_put (by have := (mt.ext he ho).next; exact this) _
    rcases hf with ⟨rfl, rfl, hn⟩ | ⟨rfl, hn⟩
    · have hN : (x'.n = x.n + 1) = True := eq_true hn
      simp -implicitDefEqProofs -dsimp (maxSteps := 10000000) only [af7_l0, ↓goes_loop, ↓goes_seq, ↓goes_reg, ↓goes_dreg, ↓goes_cond, ↓goes_block, ↓goes_skip, ↓goes_exit, ↓goes_ret, after_some, br_true, br_false, ↓then_normal, ↓then_exit, ↓then_ret, ↓blk_normal, ↓blk_exit, ↓blk_ret, ↓blk_other, ops_nil, ops_some, ops_none, oper_none, oper_some, gd_tt, gd_ff, gd_tf, gd_ft, gd_undef, ↓any_op, ↓any_call, ↓any_callV, ↓any_invoke, xo_t, xo_c, args_nil, args_cons, bin_add, bin_sub, bin_mul, bin_quo, bin_rem, bin_and, bin_or, bin_xor, bin_andNot, bin_eql, bin_neq, bin_lss, bin_leq, bin_gtr, bin_geq, bin_shl, bin_shr, bin_bools, bin_strs, bin_ptrs, bin_slices, bin_aggs, ↓Option.bind_some, ↓Option.map_some, ↓cond_true, ↓cond_false, evC, evOp, XO.lit, setArgs, Tr.get_set, Option.bind_some, Option.map_some, cond_true, cond_false, maxI, maxFrom, minI, minFrom, aConv, aBinE, aEq, eqScal, aUn, evRes, fin, oneOf, if_true, if_false, callee, reduceCtorEq, Nat.reduceEqDiff, and_self, decide_true, decide_false, beq_true, beq_false, Bool.not_true, Bool.not_false, List.getElem?_cons_zero, List.getElem?_cons_succ, beq_self_eq_true, gt_iff_lt, ble_dec, beq_dec, List.head?_cons, AV.undef, eq_self, ne_eq, not_true_eq_false, not_false_eq_true, Int.reduceLT, Int.reduceLE, Int.reduceToNat, Int.reduceEq, Int.reduceNeg, Nat.reduceAdd, Nat.reduceLT, Nat.reduceLeDiff, Nat.reduceMul, Nat.reduceSub, ↓evDraw_nil, bir, putD, evDraw, trace, List.all_cons, List.all_nil, chk, stAt, again, sameV, sameL, sameA, AV.undef, Bool.and_self, Bool.and_true, decide_eq_true_eq, List.getElem?_nil, AV.cells, AV.tup, Bool.true_and, true_and, and_true, List.drop_nil, List.append_nil, rd_put, rd_alloc, rdO, St.get_put, St.get_alloc, St.next_put, St.next_alloc, St.wr, Bool.and_self, Bool.and_true, List.length_cons, List.length_nil, List.take_succ_cons, List.take_zero, List.drop_succ_cons, List.drop_zero, List.cons_append, List.nil_append, Nat.zero_add, Nat.add_zero, Nat.reduceMul, aFill, evParts, rep, List.replicate_succ, List.replicate_zero, List.flatten_cons, List.flatten_nil, List.append_nil, newSl, newVar, t2, t7, t9, t13, t14, t15, c1, c2, hm1, hix, Nat.mul_one, hz, w1, w2, wj, wn1, hrp, r2, rtp, no1, nq, no, hz2, hrp2, hch, g2, h13, hN]
      refine ⟨m - 1, ⟨?_, ?_, ?_, eF, x', j + 1, false, ?_, ?_, ?_, LF, xw', by omega, by omega, by omega, by omega, .inr ⟨xl', rfl, by omega⟩⟩, by simp only [id]; omega⟩
      all_goals simp only [Tr.get_set, Nat.reduceEqDiff, if_false, if_true, t2, t7, t9]
    · have hN : (x'.n = x.n + 3) = True := eq_true hn
      cases ky with
      | true =>
        simp -implicitDefEqProofs -dsimp (maxSteps := 10000000) only [af7_l0, ↓goes_loop, ↓goes_seq, ↓goes_reg, ↓goes_dreg, ↓goes_cond, ↓goes_block, ↓goes_skip, ↓goes_exit, ↓goes_ret, after_some, br_true, br_false, ↓then_normal, ↓then_exit, ↓then_ret, ↓blk_normal, ↓blk_exit, ↓blk_ret, ↓blk_other, ops_nil, ops_some, ops_none, oper_none, oper_some, gd_tt, gd_ff, gd_tf, gd_ft, gd_undef, ↓any_op, ↓any_call, ↓any_callV, ↓any_invoke, xo_t, xo_c, args_nil, args_cons, bin_add, bin_sub, bin_mul, bin_quo, bin_rem, bin_and, bin_or, bin_xor, bin_andNot, bin_eql, bin_neq, bin_lss, bin_leq, bin_gtr, bin_geq, bin_shl, bin_shr, bin_bools, bin_strs, bin_ptrs, bin_slices, bin_aggs, ↓Option.bind_some, ↓Option.map_some, ↓cond_true, ↓cond_false, evC, evOp, XO.lit, setArgs, Tr.get_set, Option.bind_some, Option.map_some, cond_true, cond_false, maxI, maxFrom, minI, minFrom, aConv, aBinE, aEq, eqScal, aUn, evRes, fin, oneOf, if_true, if_false, callee, reduceCtorEq, Nat.reduceEqDiff, and_self, decide_true, decide_false, beq_true, beq_false, Bool.not_true, Bool.not_false, List.getElem?_cons_zero, List.getElem?_cons_succ, beq_self_eq_true, gt_iff_lt, ble_dec, beq_dec, List.head?_cons, AV.undef, eq_self, ne_eq, not_true_eq_false, not_false_eq_true, Int.reduceLT, Int.reduceLE, Int.reduceToNat, Int.reduceEq, Int.reduceNeg, Nat.reduceAdd, Nat.reduceLT, Nat.reduceLeDiff, Nat.reduceMul, Nat.reduceSub, ↓evDraw_nil, bir, putD, evDraw, trace, List.all_cons, List.all_nil, chk, stAt, again, sameV, sameL, sameA, AV.undef, Bool.and_self, Bool.and_true, decide_eq_true_eq, List.getElem?_nil, AV.cells, AV.tup, Bool.true_and, true_and, and_true, List.drop_nil, List.append_nil, rd_put, rd_alloc, rdO, St.get_put, St.get_alloc, St.next_put, St.next_alloc, St.wr, Bool.and_self, Bool.and_true, List.length_cons, List.length_nil, List.take_succ_cons, List.take_zero, List.drop_succ_cons, List.drop_zero, List.cons_append, List.nil_append, Nat.zero_add, Nat.add_zero, Nat.reduceMul, aFill, evParts, rep, List.replicate_succ, List.replicate_zero, List.flatten_cons, List.flatten_nil, List.append_nil, newSl, newVar, t2, t7, t9, t13, t14, t15, c1, c2, hm1, hix, Nat.mul_one, hz, w1, w2, wj, wn3, hrp, r2, rtp, no1, nq, no, hz2, hrp2, hch, g2, h13, hN]
        refine ⟨m - 1, ⟨?_, ?_, ?_, eF, x', j + 1, false, ?_, ?_, ?_, LF, xw', by omega, by omega, by omega, by omega, .inr ⟨xl', rfl, by omega⟩⟩, by simp only [id]; omega⟩
        all_goals simp only [Tr.get_set, Nat.reduceEqDiff, if_false, if_true, t2, t7, t9]
      | false =>
        simp -implicitDefEqProofs -dsimp (maxSteps := 10000000) only [af7_l0, ↓goes_loop, ↓goes_seq, ↓goes_reg, ↓goes_dreg, ↓goes_cond, ↓goes_block, ↓goes_skip, ↓goes_exit, ↓goes_ret, after_some, br_true, br_false, ↓then_normal, ↓then_exit, ↓then_ret, ↓blk_normal, ↓blk_exit, ↓blk_ret, ↓blk_other, ops_nil, ops_some, ops_none, oper_none, oper_some, gd_tt, gd_ff, gd_tf, gd_ft, gd_undef, ↓any_op, ↓any_call, ↓any_callV, ↓any_invoke, xo_t, xo_c, args_nil, args_cons, bin_add, bin_sub, bin_mul, bin_quo, bin_rem, bin_and, bin_or, bin_xor, bin_andNot, bin_eql, bin_neq, bin_lss, bin_leq, bin_gtr, bin_geq, bin_shl, bin_shr, bin_bools, bin_strs, bin_ptrs, bin_slices, bin_aggs, ↓Option.bind_some, ↓Option.map_some, ↓cond_true, ↓cond_false, evC, evOp, XO.lit, setArgs, Tr.get_set, Option.bind_some, Option.map_some, cond_true, cond_false, maxI, maxFrom, minI, minFrom, aConv, aBinE, aEq, eqScal, aUn, evRes, fin, oneOf, if_true, if_false, callee, reduceCtorEq, Nat.reduceEqDiff, and_self, decide_true, decide_false, beq_true, beq_false, Bool.not_true, Bool.not_false, List.getElem?_cons_zero, List.getElem?_cons_succ, beq_self_eq_true, gt_iff_lt, ble_dec, beq_dec, List.head?_cons, AV.undef, eq_self, ne_eq, not_true_eq_false, not_false_eq_true, Int.reduceLT, Int.reduceLE, Int.reduceToNat, Int.reduceEq, Int.reduceNeg, Nat.reduceAdd, Nat.reduceLT, Nat.reduceLeDiff, Nat.reduceMul, Nat.reduceSub, ↓evDraw_nil, bir, putD, evDraw, trace, List.all_cons, List.all_nil, chk, stAt, again, sameV, sameL, sameA, AV.undef, Bool.and_self, Bool.and_true, decide_eq_true_eq, List.getElem?_nil, AV.cells, AV.tup, Bool.true_and, true_and, and_true, List.drop_nil, List.append_nil, rd_put, rd_alloc, rdO, St.get_put, St.get_alloc, St.next_put, St.next_alloc, St.wr, Bool.and_self, Bool.and_true, List.length_cons, List.length_nil, List.take_succ_cons, List.take_zero, List.drop_succ_cons, List.drop_zero, List.cons_append, List.nil_append, Nat.zero_add, Nat.add_zero, Nat.reduceMul, aFill, evParts, rep, List.replicate_succ, List.replicate_zero, List.flatten_cons, List.flatten_nil, List.append_nil, newSl, newVar, t2, t7, t9, t13, t14, t15, c1, c2, hm1, hix, Nat.mul_one, hz, w1, w2, wj, wn3, hrp, r2, rtp, no1, nq, no, hz2, hrp2, hch, g2, h13, hN]
        refine ⟨m - 1, ⟨?_, ?_, ?_, eF, x', j + 1, false, ?_, ?_, ?_, LF, xw', by omega, by omega, by omega, by omega, .inr ⟨xl', rfl, by omega⟩⟩, by simp only [id]; omega⟩
        all_goals simp only [Tr.get_set, Nat.reduceEqDiff, if_false, if_true, t2, t7, t9]
end Go.Proofs.YtdppaegnmdiheaaA
