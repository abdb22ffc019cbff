/- Chapter 13: the least rate; what is let; tuples held against each other. -/
import Derived.Test.YtkbooepiomobdaaBdH
set_option linter.unusedVariables false
set_option linter.unusedSimpArgs false
set_option maxRecDepth 10000
namespace Go.Proofs.YtkbooepiomobdaaA
open Go.RowKit
attribute [local congr] bind_congr1 map_congr1 cond_congr1 withX_congr after_congr br_congr gd_congr

def foldMn (m : Int) (f : Tp → Int) (l : List Tp) : Int := l.foldl (fun a t => mn a (f t)) m
theorem le_mn {v a b : Int} : v ≤ mn a b ↔ v ≤ a ∧ v ≤ b := by unfold mn; split <;> omega
theorem le_fold {f : Tp → Int} {v : Int} : ∀ {l : List Tp} {m : Int}, v ≤ foldMn m f l ↔ v ≤ m ∧ ∀ t ∈ l, v ≤ f t
  | [], m => by simp [foldMn]
  | t :: l, m => by
    have : foldMn m f (t :: l) = foldMn (mn m (f t)) f l := rfl
    rw [this, le_fold, le_mn]
    simp only [List.mem_cons, forall_eq_or_imp]
    exact ⟨fun h => ⟨h.1.1, h.1.2, h.2⟩, fun h => ⟨⟨h.1, h.2.1⟩, h.2.2⟩⟩
theorem eq_of_le {a b : Int} (h : ∀ v, v ≤ a ↔ v ≤ b) : a = b := by have := (h a).1 (Int.le_refl _); have := (h b).2 (Int.le_refl _); omega
theorem fold_take {l : List Tp} {j : Nat} (hj : j < l.length) (m : Int) (f : Tp → Int) : foldMn m f (l.take (j + 1)) = mn (foldMn m f (l.take j)) (f l[j]) := by
  rw [List.take_succ_eq_append_getElem hj]
  unfold foldMn
  rw [List.foldl_append]; rfl
def rateP (l : List Tp) : Int := foldMn 1099511627776 (fun t => t.r) l
def rateR (l : List Tp) : Int := foldMn 18446744073709551615 (fun t => t.r) l
theorem rate_same {l : List Tp} (h : l ≠ []) : rateR (l.map heldT) = rateP l := by
  refine eq_of_le fun v => ?_
  unfold rateR rateP
  rw [le_fold, le_fold]
  have hm : ∀ t : Tp, v ≤ (heldT t).r ↔ v ≤ t.r ∧ v ≤ 1099511627776 := fun t => le_mn
  constructor
  · intro ⟨h1, h2⟩
    have h3 : ∀ t ∈ l, v ≤ t.r ∧ v ≤ 1099511627776 := fun t ht => (hm t).1 (h2 _ (List.mem_map_of_mem ht))
    obtain ⟨t, ht⟩ := List.exists_mem_of_ne_nil l h
    exact ⟨(h3 t ht).2, fun t ht => (h3 t ht).1⟩
  · intro ⟨h1, h2⟩
    refine ⟨by omega, fun t ht => ?_⟩
    obtain ⟨a, ha, rfl⟩ := List.mem_map.1 ht
    exact (hm a).2 ⟨h2 a ha, h1⟩
/-- What is let. -/
def holdsP (l : List Tp) (n : Int) : Int := foldMn 18446744073709551615 (cutT (8 * mn n 4294967296)) (l.map heldT)
structure I16 (p : Option (Nat × Nat × Nat)) (c : Option Nat) (e : Nat) (l : List Tp)  (Sb : St) (m : Nat) (T : Tm) (S : St) : Prop where
  t0 : T.get 0 = some (.slice p l.length e c)
  ta : T.get 7 = some (.slice p l.length e c)
  tb : T.get 8 = some (.int .i64 l.length)
  ext : Ext Sb S
  more : ∃ j : Nat, T.get 9 = some (.int .i64 j) ∧ j + m = l.length ∧ T.get 4 = some (.int .u64 (foldMn 1099511627776 (fun t : Tp => t.r) (l.take j)))
set_option maxHeartbeats 8000000 in
theorem round16 (k : Nat) {p : Option (Nat × Nat × Nat)} {c : Option Nat} {e : Nat} {l : List Tp}  {Sb : St} (h : Ty Sb p e l)  (m : Nat) (T : Tm) (S : St) (hI : I16 p c e l  Sb m T S) :
    Goes (evF Y AP (k + 1101)) (k + 1101) af16_l0 T S (Then (fun T' S' => ∃ m', I16 p c e l  Sb m' T' S' ∧ id m' < id m) fun r T' S' => r = .exit 0 ∧ I16 p c e l  Sb 0 T' S') := by
  obtain ⟨t0, ta, tb, ex, j, tcc, hm, tn⟩ := hI
  by_cases c1 : (j : Int) < (l.length : Int)
  rotate_left
  · simp -implicitDefEqProofs -dsimp (maxSteps := 10000000) only [af16_l0, ↓goes_loop, ↓goes_seq, ↓goes_reg, ↓goes_dreg, ↓goes_cond, ↓goes_block, ↓goes_skip, ↓goes_exit, ↓goes_ret, after_some, br_true, br_false, ↓then_normal, ↓then_exit, ↓then_ret, ↓blk_normal, ↓blk_exit, ↓blk_ret, ↓blk_other, ops_nil, ops_some, ops_none, oper_none, oper_some, gd_tt, gd_ff, gd_tf, gd_ft, gd_undef, ↓any_op, ↓any_call, ↓any_callV, ↓any_invoke, xo_t, xo_c, args_nil, args_cons, bin_add, bin_sub, bin_mul, bin_quo, bin_rem, bin_and, bin_or, bin_xor, bin_andNot, bin_eql, bin_neq, bin_lss, bin_leq, bin_gtr, bin_geq, bin_shl, bin_shr, bin_bools, bin_strs, bin_ptrs, bin_slices, bin_aggs, ↓Option.bind_some, ↓Option.map_some, ↓cond_true, ↓cond_false, evC, evOp, XO.lit, setArgs, Tr.get_set, Option.bind_some, Option.map_some, cond_true, cond_false, maxI, maxFrom, minI, minFrom, aConv, aBinE, aEq, eqScal, aUn, evRes, fin, oneOf, if_true, if_false, callee, reduceCtorEq, Nat.reduceEqDiff, and_self, decide_true, decide_false, beq_true, beq_false, Bool.not_true, Bool.not_false, List.getElem?_cons_zero, List.getElem?_cons_succ, beq_self_eq_true, gt_iff_lt, ble_dec, beq_dec, List.head?_cons, AV.undef, eq_self, ne_eq, not_true_eq_false, not_false_eq_true, Int.reduceLT, Int.reduceLE, Int.reduceToNat, Int.reduceEq, Int.reduceNeg, Nat.reduceAdd, Nat.reduceLT, Nat.reduceLeDiff, Nat.reduceMul, Nat.reduceSub, AV.cells, AV.tup, Bool.true_and, true_and, and_true, List.drop_nil, List.append_nil, rd_put, rd_alloc, rdO, St.get_put, St.get_alloc, St.next_put, St.next_alloc, St.wr, Bool.and_self, Bool.and_true, List.length_cons, List.length_nil, List.take_succ_cons, List.take_zero, List.drop_succ_cons, List.drop_zero, List.cons_append, List.nil_append, Nat.zero_add, Nat.add_zero, Nat.reduceMul, tb, tcc, c1]
    refine ⟨?_, ?_, ?_, ex, j, ?_, by omega, ?_⟩ <;> simp only [Tr.get_set, Nat.reduceEqDiff, if_false, if_true, t0, ta, tb, tcc, tn]
  have hj : j < l.length := by omega
  obtain ⟨o, v, i, rfl, rfl, ho⟩ := h.some_ (by omega)
  have hix : ixOf (.int .i64 (j : Int)) l.length = some j := by rw [ix_ok (by omega) c1]; rfl
  have wj : IntKind.i64.wrap ((j : Int) + 1) = ((j + 1 : Nat) : Int) := w64_id (by omega) (by have := h.mx; omega)
  have hz : S.rd o v (i + j * 3) 3 = some [.int .u32 l[j].o, .int .u64 l[j].r, .int .i64 l[j].v] := by rw [ex.rd ho]; exact h.get hj
  have hfd := fold_take hj 1099511627776 (fun t : Tp => t.r)
  have hal : l[j] ∈ l := List.getElem_mem hj
  obtain ⟨a, ha⟩ : ∃ a, l[j] = a := ⟨_, rfl⟩
  obtain ⟨n, hn⟩ : ∃ n, foldMn 1099511627776 (fun t : Tp => t.r) (l.take j) = n := ⟨_, rfl⟩
  rw [ha] at hz hfd hal
  rw [hn] at hfd tn
  obtain ⟨A, hA⟩ : ∃ A, (S.alloc (.cells [.int .u32 0, .int .u64 0, .int .i64 0] 0 0 true)).put S.next (.cells [.int .u32 a.o, .int .u64 a.r, .int .i64 a.v] 0 0 true) = A := ⟨_, rfl⟩
  have eA : Ext S A := by rw [← hA]; exact (Ext.alloc S _).then_put (Nat.le_refl _) _
  have rA : ∀ v i m, A.rd S.next v i m = rdO (.cells [.int .u32 a.o, .int .u64 a.r, .int .i64 a.v] 0 0 true) v i m := rd_of (by rw [← hA, St.get_put, if_pos rfl])
  simp -implicitDefEqProofs -dsimp (maxSteps := 10000000) only [af16_l0, ↓goes_loop, ↓goes_seq, ↓goes_reg, ↓goes_dreg, ↓goes_cond, ↓goes_block, ↓goes_skip, ↓goes_exit, ↓goes_ret, after_some, br_true, br_false, ↓then_normal, ↓then_exit, ↓then_ret, ↓blk_normal, ↓blk_exit, ↓blk_ret, ↓blk_other, ops_nil, ops_some, ops_none, oper_none, oper_some, gd_tt, gd_ff, gd_tf, gd_ft, gd_undef, ↓any_op, ↓any_call, ↓any_callV, ↓any_invoke, xo_t, xo_c, args_nil, args_cons, bin_add, bin_sub, bin_mul, bin_quo, bin_rem, bin_and, bin_or, bin_xor, bin_andNot, bin_eql, bin_neq, bin_lss, bin_leq, bin_gtr, bin_geq, bin_shl, bin_shr, bin_bools, bin_strs, bin_ptrs, bin_slices, bin_aggs, ↓Option.bind_some, ↓Option.map_some, ↓cond_true, ↓cond_false, evC, evOp, XO.lit, setArgs, Tr.get_set, Option.bind_some, Option.map_some, cond_true, cond_false, maxI, maxFrom, minI, minFrom, aConv, aBinE, aEq, eqScal, aUn, evRes, fin, oneOf, if_true, if_false, callee, reduceCtorEq, Nat.reduceEqDiff, and_self, decide_true, decide_false, beq_true, beq_false, Bool.not_true, Bool.not_false, List.getElem?_cons_zero, List.getElem?_cons_succ, beq_self_eq_true, gt_iff_lt, ble_dec, beq_dec, List.head?_cons, AV.undef, eq_self, ne_eq, not_true_eq_false, not_false_eq_true, Int.reduceLT, Int.reduceLE, Int.reduceToNat, Int.reduceEq, Int.reduceNeg, Nat.reduceAdd, Nat.reduceLT, Nat.reduceLeDiff, Nat.reduceMul, Nat.reduceSub, AV.cells, AV.tup, Bool.true_and, true_and, and_true, List.drop_nil, List.append_nil, rd_put, rd_alloc, rdO, St.get_put, St.get_alloc, St.next_put, St.next_alloc, St.wr, Bool.and_self, Bool.and_true, List.length_cons, List.length_nil, List.take_succ_cons, List.take_zero, List.drop_succ_cons, List.drop_zero, List.cons_append, List.nil_append, Nat.zero_add, Nat.add_zero, Nat.reduceMul, aFill, evParts, rep, List.replicate_succ, List.replicate_zero, List.flatten_cons, List.flatten_nil, List.append_nil, newSl, newVar, t0, ta, tb, tcc, tn, c1, hix, hz, hA, rA, wj]
  refine ⟨m - 1, ⟨?_, ?_, ?_, ex.trans eA, j + 1, ?_, by omega, ?_⟩, by show m - 1 < m; omega⟩
  iterate 4 (first | focus (simp only [Tr.get_set, Nat.reduceEqDiff, if_false, if_true, t0, ta, tb]; done) | skip)
  rw [hfd]
  simp only [Tr.get_set, Nat.reduceEqDiff, if_false, if_true]
  rfl
structure I18 (p : Option (Nat × Nat × Nat)) (c : Option Nat) (e : Nat) (l : List Tp) (v0 : AV) (Sb : St) (m : Nat) (T : Tm) (S : St) : Prop where
  t0 : T.get 0 = some v0
  ta : T.get 8 = some (.slice p l.length e c)
  tb : T.get 9 = some (.int .i64 l.length)
  ext : Ext Sb S
  more : ∃ j : Nat, T.get 10 = some (.int .i64 j) ∧ j + m = l.length ∧ T.get 4 = some (.int .u64 (foldMn 18446744073709551615 (fun t : Tp => t.r) (l.take j)))
set_option maxHeartbeats 8000000 in
theorem round18 (k : Nat) {p : Option (Nat × Nat × Nat)} {c : Option Nat} {e : Nat} {l : List Tp} {v0 : AV} {Sb : St} (h : Ty Sb p e l)  (m : Nat) (T : Tm) (S : St) (hI : I18 p c e l v0 Sb m T S) :
    Goes (evF Y AP (k + 1101)) (k + 1101) af18_l0 T S (Then (fun T' S' => ∃ m', I18 p c e l v0 Sb m' T' S' ∧ id m' < id m) fun r T' S' => r = .exit 0 ∧ I18 p c e l v0 Sb 0 T' S') := by
  obtain ⟨t0, ta, tb, ex, j, tcc, hm, tn⟩ := hI
  by_cases c1 : (j : Int) < (l.length : Int)
  rotate_left
  · simp -implicitDefEqProofs -dsimp (maxSteps := 10000000) only [af18_l0, ↓goes_loop, ↓goes_seq, ↓goes_reg, ↓goes_dreg, ↓goes_cond, ↓goes_block, ↓goes_skip, ↓goes_exit, ↓goes_ret, after_some, br_true, br_false, ↓then_normal, ↓then_exit, ↓then_ret, ↓blk_normal, ↓blk_exit, ↓blk_ret, ↓blk_other, ops_nil, ops_some, ops_none, oper_none, oper_some, gd_tt, gd_ff, gd_tf, gd_ft, gd_undef, ↓any_op, ↓any_call, ↓any_callV, ↓any_invoke, xo_t, xo_c, args_nil, args_cons, bin_add, bin_sub, bin_mul, bin_quo, bin_rem, bin_and, bin_or, bin_xor, bin_andNot, bin_eql, bin_neq, bin_lss, bin_leq, bin_gtr, bin_geq, bin_shl, bin_shr, bin_bools, bin_strs, bin_ptrs, bin_slices, bin_aggs, ↓Option.bind_some, ↓Option.map_some, ↓cond_true, ↓cond_false, evC, evOp, XO.lit, setArgs, Tr.get_set, Option.bind_some, Option.map_some, cond_true, cond_false, maxI, maxFrom, minI, minFrom, aConv, aBinE, aEq, eqScal, aUn, evRes, fin, oneOf, if_true, if_false, callee, reduceCtorEq, Nat.reduceEqDiff, and_self, decide_true, decide_false, beq_true, beq_false, Bool.not_true, Bool.not_false, List.getElem?_cons_zero, List.getElem?_cons_succ, beq_self_eq_true, gt_iff_lt, ble_dec, beq_dec, List.head?_cons, AV.undef, eq_self, ne_eq, not_true_eq_false, not_false_eq_true, Int.reduceLT, Int.reduceLE, Int.reduceToNat, Int.reduceEq, Int.reduceNeg, Nat.reduceAdd, Nat.reduceLT, Nat.reduceLeDiff, Nat.reduceMul, Nat.reduceSub, AV.cells, AV.tup, Bool.true_and, true_and, and_true, List.drop_nil, List.append_nil, rd_put, rd_alloc, rdO, St.get_put, St.get_alloc, St.next_put, St.next_alloc, St.wr, Bool.and_self, Bool.and_true, List.length_cons, List.length_nil, List.take_succ_cons, List.take_zero, List.drop_succ_cons, List.drop_zero, List.cons_append, List.nil_append, Nat.zero_add, Nat.add_zero, Nat.reduceMul, tb, tcc, c1]
    refine ⟨?_, ?_, ?_, ex, j, ?_, by omega, ?_⟩ <;> simp only [Tr.get_set, Nat.reduceEqDiff, if_false, if_true, t0, ta, tb, tcc, tn]
  have hj : j < l.length := by omega
  obtain ⟨o, v, i, rfl, rfl, ho⟩ := h.some_ (by omega)
  have hix : ixOf (.int .i64 (j : Int)) l.length = some j := by rw [ix_ok (by omega) c1]; rfl
  have wj : IntKind.i64.wrap ((j : Int) + 1) = ((j + 1 : Nat) : Int) := w64_id (by omega) (by have := h.mx; omega)
  have hz : S.rd o v (i + j * 3) 3 = some [.int .u32 l[j].o, .int .u64 l[j].r, .int .i64 l[j].v] := by rw [ex.rd ho]; exact h.get hj
  have hfd := fold_take hj 18446744073709551615 (fun t : Tp => t.r)
  have hal : l[j] ∈ l := List.getElem_mem hj
  obtain ⟨a, ha⟩ : ∃ a, l[j] = a := ⟨_, rfl⟩
  obtain ⟨n, hn⟩ : ∃ n, foldMn 18446744073709551615 (fun t : Tp => t.r) (l.take j) = n := ⟨_, rfl⟩
  rw [ha] at hz hfd hal
  rw [hn] at hfd tn
  obtain ⟨A, hA⟩ : ∃ A, (S.alloc (.cells [.int .u32 0, .int .u64 0, .int .i64 0] 0 0 true)).put S.next (.cells [.int .u32 a.o, .int .u64 a.r, .int .i64 a.v] 0 0 true) = A := ⟨_, rfl⟩
  have eA : Ext S A := by rw [← hA]; exact (Ext.alloc S _).then_put (Nat.le_refl _) _
  have rA : ∀ v i m, A.rd S.next v i m = rdO (.cells [.int .u32 a.o, .int .u64 a.r, .int .i64 a.v] 0 0 true) v i m := rd_of (by rw [← hA, St.get_put, if_pos rfl])
  simp -implicitDefEqProofs -dsimp (maxSteps := 10000000) only [af18_l0, ↓goes_loop, ↓goes_seq, ↓goes_reg, ↓goes_dreg, ↓goes_cond, ↓goes_block, ↓goes_skip, ↓goes_exit, ↓goes_ret, after_some, br_true, br_false, ↓then_normal, ↓then_exit, ↓then_ret, ↓blk_normal, ↓blk_exit, ↓blk_ret, ↓blk_other, ops_nil, ops_some, ops_none, oper_none, oper_some, gd_tt, gd_ff, gd_tf, gd_ft, gd_undef, ↓any_op, ↓any_call, ↓any_callV, ↓any_invoke, xo_t, xo_c, args_nil, args_cons, bin_add, bin_sub, bin_mul, bin_quo, bin_rem, bin_and, bin_or, bin_xor, bin_andNot, bin_eql, bin_neq, bin_lss, bin_leq, bin_gtr, bin_geq, bin_shl, bin_shr, bin_bools, bin_strs, bin_ptrs, bin_slices, bin_aggs, ↓Option.bind_some, ↓Option.map_some, ↓cond_true, ↓cond_false, evC, evOp, XO.lit, setArgs, Tr.get_set, Option.bind_some, Option.map_some, cond_true, cond_false, maxI, maxFrom, minI, minFrom, aConv, aBinE, aEq, eqScal, aUn, evRes, fin, oneOf, if_true, if_false, callee, reduceCtorEq, Nat.reduceEqDiff, and_self, decide_true, decide_false, beq_true, beq_false, Bool.not_true, Bool.not_false, List.getElem?_cons_zero, List.getElem?_cons_succ, beq_self_eq_true, gt_iff_lt, ble_dec, beq_dec, List.head?_cons, AV.undef, eq_self, ne_eq, not_true_eq_false, not_false_eq_true, Int.reduceLT, Int.reduceLE, Int.reduceToNat, Int.reduceEq, Int.reduceNeg, Nat.reduceAdd, Nat.reduceLT, Nat.reduceLeDiff, Nat.reduceMul, Nat.reduceSub, AV.cells, AV.tup, Bool.true_and, true_and, and_true, List.drop_nil, List.append_nil, rd_put, rd_alloc, rdO, St.get_put, St.get_alloc, St.next_put, St.next_alloc, St.wr, Bool.and_self, Bool.and_true, List.length_cons, List.length_nil, List.take_succ_cons, List.take_zero, List.drop_succ_cons, List.drop_zero, List.cons_append, List.nil_append, Nat.zero_add, Nat.add_zero, Nat.reduceMul, aFill, evParts, rep, List.replicate_succ, List.replicate_zero, List.flatten_cons, List.flatten_nil, List.append_nil, newSl, newVar, t0, ta, tb, tcc, tn, c1, hix, hz, hA, rA, wj]
  refine ⟨m - 1, ⟨?_, ?_, ?_, ex.trans eA, j + 1, ?_, by omega, ?_⟩, by show m - 1 < m; omega⟩
  iterate 4 (first | focus (simp only [Tr.get_set, Nat.reduceEqDiff, if_false, if_true, t0, ta, tb]; done) | skip)
  rw [hfd]
  simp only [Tr.get_set, Nat.reduceEqDiff, if_false, if_true]
  rfl
structure I13 (p : Option (Nat × Nat × Nat)) (c : Option Nat) (e : Nat) (l : List Tp) (x pk : Int) (Sb : St) (m : Nat) (T : Tm) (S : St) : Prop where
  t1 : T.get 1 = some (.int .u64 pk)
  hpk : mn pk 4294967296 = x
  ta : T.get 10 = some (.slice p l.length e c)
  tb : T.get 11 = some (.int .i64 l.length)
  ext : Ext Sb S
  more : ∃ j : Nat, T.get 12 = some (.int .i64 j) ∧ j + m = l.length ∧ T.get 5 = some (.int .u64 (foldMn 18446744073709551615 (cutT (8 * x)) (l.take j)))
set_option maxHeartbeats 8000000 in
theorem round13 (k : Nat) {p : Option (Nat × Nat × Nat)} {c : Option Nat} {e : Nat} {l : List Tp} {x pk : Int} {Sb : St} (h : Ty Sb p e l) (hl : ∀ t ∈ l, OkH t) (x0 : 0 ≤ x) (x1 : x ≤ 4294967296) (m : Nat) (T : Tm) (S : St) (hI : I13 p c e l x pk Sb m T S) :
    Goes (evF Y AP (k + 1101)) (k + 1101) af13_l0 T S (Then (fun T' S' => ∃ m', I13 p c e l x pk Sb m' T' S' ∧ id m' < id m) fun r T' S' => r = .exit 0 ∧ I13 p c e l x pk Sb 0 T' S') := by
  obtain ⟨t1, hpk, ta, tb, ex, j, tcc, hm, tn⟩ := hI
  by_cases c1 : (j : Int) < (l.length : Int)
  rotate_left
  · simp -implicitDefEqProofs -dsimp (maxSteps := 10000000) only [af13_l0, ↓goes_loop, ↓goes_seq, ↓goes_reg, ↓goes_dreg, ↓goes_cond, ↓goes_block, ↓goes_skip, ↓goes_exit, ↓goes_ret, after_some, br_true, br_false, ↓then_normal, ↓then_exit, ↓then_ret, ↓blk_normal, ↓blk_exit, ↓blk_ret, ↓blk_other, ops_nil, ops_some, ops_none, oper_none, oper_some, gd_tt, gd_ff, gd_tf, gd_ft, gd_undef, ↓any_op, ↓any_call, ↓any_callV, ↓any_invoke, xo_t, xo_c, args_nil, args_cons, bin_add, bin_sub, bin_mul, bin_quo, bin_rem, bin_and, bin_or, bin_xor, bin_andNot, bin_eql, bin_neq, bin_lss, bin_leq, bin_gtr, bin_geq, bin_shl, bin_shr, bin_bools, bin_strs, bin_ptrs, bin_slices, bin_aggs, ↓Option.bind_some, ↓Option.map_some, ↓cond_true, ↓cond_false, evC, evOp, XO.lit, setArgs, Tr.get_set, Option.bind_some, Option.map_some, cond_true, cond_false, maxI, maxFrom, minI, minFrom, aConv, aBinE, aEq, eqScal, aUn, evRes, fin, oneOf, if_true, if_false, callee, reduceCtorEq, Nat.reduceEqDiff, and_self, decide_true, decide_false, beq_true, beq_false, Bool.not_true, Bool.not_false, List.getElem?_cons_zero, List.getElem?_cons_succ, beq_self_eq_true, gt_iff_lt, ble_dec, beq_dec, List.head?_cons, AV.undef, eq_self, ne_eq, not_true_eq_false, not_false_eq_true, Int.reduceLT, Int.reduceLE, Int.reduceToNat, Int.reduceEq, Int.reduceNeg, Nat.reduceAdd, Nat.reduceLT, Nat.reduceLeDiff, Nat.reduceMul, Nat.reduceSub, AV.cells, AV.tup, Bool.true_and, true_and, and_true, List.drop_nil, List.append_nil, rd_put, rd_alloc, rdO, St.get_put, St.get_alloc, St.next_put, St.next_alloc, St.wr, Bool.and_self, Bool.and_true, List.length_cons, List.length_nil, List.take_succ_cons, List.take_zero, List.drop_succ_cons, List.drop_zero, List.cons_append, List.nil_append, Nat.zero_add, Nat.add_zero, Nat.reduceMul, tb, tcc, c1]
    refine ⟨?_, hpk, ?_, ?_, ex, j, ?_, by omega, ?_⟩ <;> simp only [Tr.get_set, Nat.reduceEqDiff, if_false, if_true, t1, ta, tb, tcc, tn]
  have hj : j < l.length := by omega
  obtain ⟨o, v, i, rfl, rfl, ho⟩ := h.some_ (by omega)
  have hix : ixOf (.int .i64 (j : Int)) l.length = some j := by rw [ix_ok (by omega) c1]; rfl
  have wj : IntKind.i64.wrap ((j : Int) + 1) = ((j + 1 : Nat) : Int) := w64_id (by omega) (by have := h.mx; omega)
  have hz : S.rd o v (i + j * 3) 3 = some [.int .u32 l[j].o, .int .u64 l[j].r, .int .i64 l[j].v] := by rw [ex.rd ho]; exact h.get hj
  have hfd := fold_take hj 18446744073709551615 (cutT (8 * x))
  have hal : l[j] ∈ l := List.getElem_mem hj
  obtain ⟨a, ha⟩ : ∃ a, l[j] = a := ⟨_, rfl⟩
  obtain ⟨n, hn⟩ : ∃ n, foldMn 18446744073709551615 (cutT (8 * x)) (l.take j) = n := ⟨_, rfl⟩
  rw [ha] at hz hfd hal
  rw [hn] at hfd tn
  obtain ⟨A, hA⟩ : ∃ A, (S.alloc (.cells [.int .u32 0, .int .u64 0, .int .i64 0] 0 0 true)).put S.next (.cells [.int .u32 a.o, .int .u64 a.r, .int .i64 a.v] 0 0 true) = A := ⟨_, rfl⟩
  have eA : Ext S A := by rw [← hA]; exact (Ext.alloc S _).then_put (Nat.le_refl _) _
  have rA : ∀ v i m, A.rd S.next v i m = rdO (.cells [.int .u32 a.o, .int .u64 a.r, .int .i64 a.v] 0 0 true) v i m := rd_of (by rw [← hA, St.get_put, if_pos rfl])
  have ka := hl a hal
  have := ka.v0; have := ka.v1; have := ka.r0; have := ka.r1
  have p1 : 0 ≤ 8 * a.v * x ∧ 8 * a.v * x ≤ 17557826306048 := ⟨Int.mul_nonneg (by omega) x0, by have := Int.mul_le_mul (show 8 * a.v ≤ 4088 by omega) x1 x0 (by decide); omega⟩
  have w1 : IntKind.u64.wrap a.v = a.v := u64_id (by omega) (by omega)
  have w2 : IntKind.u64.wrap (8 * a.v) = 8 * a.v := u64_id (by omega) (by omega)
  have w3 : IntKind.u64.wrap (8 * a.v * x) = 8 * a.v * x := u64_id p1.1 (by omega)
  have e1 : a.v * (8 * x) = 8 * a.v * x := by rw [← Int.mul_assoc, Int.mul_comm a.v 8]
  have hc : cutT (8 * x) a = a.r - mn a.r (8 * a.v * x) := by unfold cutT; rw [e1]
  rw [hc] at hfd
  obtain ⟨y, hy⟩ : ∃ y, 8 * a.v * x = y := ⟨_, rfl⟩
  rw [hy] at w3 p1 hfd
  have hmm : 0 ≤ a.r - mn a.r y ∧ a.r - mn a.r y ≤ a.r := by unfold mn; split <;> omega
  have w4 : IntKind.u64.wrap (a.r - mn a.r y) = a.r - mn a.r y := u64_id hmm.1 (by omega)
  have hx2 : (if 4294967296 < pk then 4294967296 else pk) = x := hpk
  simp -implicitDefEqProofs -dsimp (maxSteps := 10000000) only [af13_l0, ↓goes_loop, ↓goes_seq, ↓goes_reg, ↓goes_dreg, ↓goes_cond, ↓goes_block, ↓goes_skip, ↓goes_exit, ↓goes_ret, after_some, br_true, br_false, ↓then_normal, ↓then_exit, ↓then_ret, ↓blk_normal, ↓blk_exit, ↓blk_ret, ↓blk_other, ops_nil, ops_some, ops_none, oper_none, oper_some, gd_tt, gd_ff, gd_tf, gd_ft, gd_undef, ↓any_op, ↓any_call, ↓any_callV, ↓any_invoke, xo_t, xo_c, args_nil, args_cons, bin_add, bin_sub, bin_mul, bin_quo, bin_rem, bin_and, bin_or, bin_xor, bin_andNot, bin_eql, bin_neq, bin_lss, bin_leq, bin_gtr, bin_geq, bin_shl, bin_shr, bin_bools, bin_strs, bin_ptrs, bin_slices, bin_aggs, ↓Option.bind_some, ↓Option.map_some, ↓cond_true, ↓cond_false, evC, evOp, XO.lit, setArgs, Tr.get_set, Option.bind_some, Option.map_some, cond_true, cond_false, maxI, maxFrom, minI, minFrom, aConv, aBinE, aEq, eqScal, aUn, evRes, fin, oneOf, if_true, if_false, callee, reduceCtorEq, Nat.reduceEqDiff, and_self, decide_true, decide_false, beq_true, beq_false, Bool.not_true, Bool.not_false, List.getElem?_cons_zero, List.getElem?_cons_succ, beq_self_eq_true, gt_iff_lt, ble_dec, beq_dec, List.head?_cons, AV.undef, eq_self, ne_eq, not_true_eq_false, not_false_eq_true, Int.reduceLT, Int.reduceLE, Int.reduceToNat, Int.reduceEq, Int.reduceNeg, Nat.reduceAdd, Nat.reduceLT, Nat.reduceLeDiff, Nat.reduceMul, Nat.reduceSub, AV.cells, AV.tup, Bool.true_and, true_and, and_true, List.drop_nil, List.append_nil, rd_put, rd_alloc, rdO, St.get_put, St.get_alloc, St.next_put, St.next_alloc, St.wr, Bool.and_self, Bool.and_true, List.length_cons, List.length_nil, List.take_succ_cons, List.take_zero, List.drop_succ_cons, List.drop_zero, List.cons_append, List.nil_append, Nat.zero_add, Nat.add_zero, Nat.reduceMul, aFill, evParts, rep, List.replicate_succ, List.replicate_zero, List.flatten_cons, List.flatten_nil, List.append_nil, newSl, newVar, t1, ta, tb, tcc, tn, c1, hix, hz, hA, rA, wj, w1, w2, w3, w4, hy, mn_l, hpk]
  refine ⟨m - 1, ⟨?_, hpk, ?_, ?_, ex.trans eA, j + 1, ?_, by omega, ?_⟩, by show m - 1 < m; omega⟩
  iterate 4 (first | focus (simp only [Tr.get_set, Nat.reduceEqDiff, if_false, if_true, t1, ta, tb]; done) | skip)
  rw [hfd]
  simp only [Tr.get_set, Nat.reduceEqDiff, if_false, if_true]
structure I20 (p : Option (Nat × Nat × Nat)) (c : Option Nat) (e : Nat) (l : List Tp) (x : Int) (Sb : St) (m : Nat) (T : Tm) (S : St) : Prop where
  t5 : T.get 5 = some (.int .u64 x)
  ta : T.get 13 = some (.slice p l.length e c)
  tb : T.get 14 = some (.int .i64 l.length)
  ext : Ext Sb S
  more : ∃ j : Nat, T.get 15 = some (.int .i64 j) ∧ j + m = l.length ∧ T.get 6 = some (.int .u64 (foldMn 18446744073709551615 (cutT (8 * x)) (l.take j)))
set_option maxHeartbeats 8000000 in
theorem round20 (k : Nat) {p : Option (Nat × Nat × Nat)} {c : Option Nat} {e : Nat} {l : List Tp} {x : Int} {Sb : St} (h : Ty Sb p e l) (hl : ∀ t ∈ l, OkH t) (x0 : 0 ≤ x) (x1 : x ≤ 4294967296) (m : Nat) (T : Tm) (S : St) (hI : I20 p c e l x Sb m T S) :
    Goes (evF Y AP (k + 1101)) (k + 1101) af20_l0 T S (Then (fun T' S' => ∃ m', I20 p c e l x Sb m' T' S' ∧ id m' < id m) fun r T' S' => r = .exit 0 ∧ I20 p c e l x Sb 0 T' S') := by
  obtain ⟨t5, ta, tb, ex, j, tcc, hm, tn⟩ := hI
  by_cases c1 : (j : Int) < (l.length : Int)
  rotate_left
  · simp -implicitDefEqProofs -dsimp (maxSteps := 10000000) only [af20_l0, ↓goes_loop, ↓goes_seq, ↓goes_reg, ↓goes_dreg, ↓goes_cond, ↓goes_block, ↓goes_skip, ↓goes_exit, ↓goes_ret, after_some, br_true, br_false, ↓then_normal, ↓then_exit, ↓then_ret, ↓blk_normal, ↓blk_exit, ↓blk_ret, ↓blk_other, ops_nil, ops_some, ops_none, oper_none, oper_some, gd_tt, gd_ff, gd_tf, gd_ft, gd_undef, ↓any_op, ↓any_call, ↓any_callV, ↓any_invoke, xo_t, xo_c, args_nil, args_cons, bin_add, bin_sub, bin_mul, bin_quo, bin_rem, bin_and, bin_or, bin_xor, bin_andNot, bin_eql, bin_neq, bin_lss, bin_leq, bin_gtr, bin_geq, bin_shl, bin_shr, bin_bools, bin_strs, bin_ptrs, bin_slices, bin_aggs, ↓Option.bind_some, ↓Option.map_some, ↓cond_true, ↓cond_false, evC, evOp, XO.lit, setArgs, Tr.get_set, Option.bind_some, Option.map_some, cond_true, cond_false, maxI, maxFrom, minI, minFrom, aConv, aBinE, aEq, eqScal, aUn, evRes, fin, oneOf, if_true, if_false, callee, reduceCtorEq, Nat.reduceEqDiff, and_self, decide_true, decide_false, beq_true, beq_false, Bool.not_true, Bool.not_false, List.getElem?_cons_zero, List.getElem?_cons_succ, beq_self_eq_true, gt_iff_lt, ble_dec, beq_dec, List.head?_cons, AV.undef, eq_self, ne_eq, not_true_eq_false, not_false_eq_true, Int.reduceLT, Int.reduceLE, Int.reduceToNat, Int.reduceEq, Int.reduceNeg, Nat.reduceAdd, Nat.reduceLT, Nat.reduceLeDiff, Nat.reduceMul, Nat.reduceSub, AV.cells, AV.tup, Bool.true_and, true_and, and_true, List.drop_nil, List.append_nil, rd_put, rd_alloc, rdO, St.get_put, St.get_alloc, St.next_put, St.next_alloc, St.wr, Bool.and_self, Bool.and_true, List.length_cons, List.length_nil, List.take_succ_cons, List.take_zero, List.drop_succ_cons, List.drop_zero, List.cons_append, List.nil_append, Nat.zero_add, Nat.add_zero, Nat.reduceMul, tb, tcc, c1]
    refine ⟨?_, ?_, ?_, ex, j, ?_, by omega, ?_⟩ <;> simp only [Tr.get_set, Nat.reduceEqDiff, if_false, if_true, t5, ta, tb, tcc, tn]
  have hj : j < l.length := by omega
  obtain ⟨o, v, i, rfl, rfl, ho⟩ := h.some_ (by omega)
  have hix : ixOf (.int .i64 (j : Int)) l.length = some j := by rw [ix_ok (by omega) c1]; rfl
  have wj : IntKind.i64.wrap ((j : Int) + 1) = ((j + 1 : Nat) : Int) := w64_id (by omega) (by have := h.mx; omega)
  have hz : S.rd o v (i + j * 3) 3 = some [.int .u32 l[j].o, .int .u64 l[j].r, .int .i64 l[j].v] := by rw [ex.rd ho]; exact h.get hj
  have hfd := fold_take hj 18446744073709551615 (cutT (8 * x))
  have hal : l[j] ∈ l := List.getElem_mem hj
  obtain ⟨a, ha⟩ : ∃ a, l[j] = a := ⟨_, rfl⟩
  obtain ⟨n, hn⟩ : ∃ n, foldMn 18446744073709551615 (cutT (8 * x)) (l.take j) = n := ⟨_, rfl⟩
  rw [ha] at hz hfd hal
  rw [hn] at hfd tn
  obtain ⟨A, hA⟩ : ∃ A, (S.alloc (.cells [.int .u32 0, .int .u64 0, .int .i64 0] 0 0 true)).put S.next (.cells [.int .u32 a.o, .int .u64 a.r, .int .i64 a.v] 0 0 true) = A := ⟨_, rfl⟩
  have eA : Ext S A := by rw [← hA]; exact (Ext.alloc S _).then_put (Nat.le_refl _) _
  have rA : ∀ v i m, A.rd S.next v i m = rdO (.cells [.int .u32 a.o, .int .u64 a.r, .int .i64 a.v] 0 0 true) v i m := rd_of (by rw [← hA, St.get_put, if_pos rfl])
  have ka := hl a hal
  have := ka.v0; have := ka.v1; have := ka.r0; have := ka.r1
  have p1 : 0 ≤ 8 * a.v * x ∧ 8 * a.v * x ≤ 17557826306048 := ⟨Int.mul_nonneg (by omega) x0, by have := Int.mul_le_mul (show 8 * a.v ≤ 4088 by omega) x1 x0 (by decide); omega⟩
  have w1 : IntKind.u64.wrap a.v = a.v := u64_id (by omega) (by omega)
  have w2 : IntKind.u64.wrap (8 * a.v) = 8 * a.v := u64_id (by omega) (by omega)
  have w3 : IntKind.u64.wrap (8 * a.v * x) = 8 * a.v * x := u64_id p1.1 (by omega)
  have e1 : a.v * (8 * x) = 8 * a.v * x := by rw [← Int.mul_assoc, Int.mul_comm a.v 8]
  have hc : cutT (8 * x) a = a.r - mn a.r (8 * a.v * x) := by unfold cutT; rw [e1]
  rw [hc] at hfd
  obtain ⟨y, hy⟩ : ∃ y, 8 * a.v * x = y := ⟨_, rfl⟩
  rw [hy] at w3 p1 hfd
  by_cases c2 : a.r < y
  · have hm : mn a.r y = a.r := by unfold mn; rw [if_neg (by omega)]
    rw [hm] at hfd
    have w4 : IntKind.u64.wrap (a.r - a.r) = a.r - a.r := u64_id (by omega) (by omega)
    simp -implicitDefEqProofs -dsimp (maxSteps := 10000000) only [af20_l0, ↓goes_loop, ↓goes_seq, ↓goes_reg, ↓goes_dreg, ↓goes_cond, ↓goes_block, ↓goes_skip, ↓goes_exit, ↓goes_ret, after_some, br_true, br_false, ↓then_normal, ↓then_exit, ↓then_ret, ↓blk_normal, ↓blk_exit, ↓blk_ret, ↓blk_other, ops_nil, ops_some, ops_none, oper_none, oper_some, gd_tt, gd_ff, gd_tf, gd_ft, gd_undef, ↓any_op, ↓any_call, ↓any_callV, ↓any_invoke, xo_t, xo_c, args_nil, args_cons, bin_add, bin_sub, bin_mul, bin_quo, bin_rem, bin_and, bin_or, bin_xor, bin_andNot, bin_eql, bin_neq, bin_lss, bin_leq, bin_gtr, bin_geq, bin_shl, bin_shr, bin_bools, bin_strs, bin_ptrs, bin_slices, bin_aggs, ↓Option.bind_some, ↓Option.map_some, ↓cond_true, ↓cond_false, evC, evOp, XO.lit, setArgs, Tr.get_set, Option.bind_some, Option.map_some, cond_true, cond_false, maxI, maxFrom, minI, minFrom, aConv, aBinE, aEq, eqScal, aUn, evRes, fin, oneOf, if_true, if_false, callee, reduceCtorEq, Nat.reduceEqDiff, and_self, decide_true, decide_false, beq_true, beq_false, Bool.not_true, Bool.not_false, List.getElem?_cons_zero, List.getElem?_cons_succ, beq_self_eq_true, gt_iff_lt, ble_dec, beq_dec, List.head?_cons, AV.undef, eq_self, ne_eq, not_true_eq_false, not_false_eq_true, Int.reduceLT, Int.reduceLE, Int.reduceToNat, Int.reduceEq, Int.reduceNeg, Nat.reduceAdd, Nat.reduceLT, Nat.reduceLeDiff, Nat.reduceMul, Nat.reduceSub, AV.cells, AV.tup, Bool.true_and, true_and, and_true, List.drop_nil, List.append_nil, rd_put, rd_alloc, rdO, St.get_put, St.get_alloc, St.next_put, St.next_alloc, St.wr, Bool.and_self, Bool.and_true, List.length_cons, List.length_nil, List.take_succ_cons, List.take_zero, List.drop_succ_cons, List.drop_zero, List.cons_append, List.nil_append, Nat.zero_add, Nat.add_zero, Nat.reduceMul, aFill, evParts, rep, List.replicate_succ, List.replicate_zero, List.flatten_cons, List.flatten_nil, List.append_nil, newSl, newVar, t5, ta, tb, tcc, tn, c1, hix, hz, hA, rA, wj, w1, w2, w3, w4, hy, c2]
    refine ⟨m - 1, ⟨?_, ?_, ?_, ex.trans eA, j + 1, ?_, by omega, ?_⟩, by show m - 1 < m; omega⟩
    iterate 4 (first | focus (simp only [Tr.get_set, Nat.reduceEqDiff, if_false, if_true, t5, ta, tb]; done) | skip)
    rw [hfd]
    simp only [Tr.get_set, Nat.reduceEqDiff, if_false, if_true]
    rfl
  · have hm : mn a.r y = y := by unfold mn; split <;> omega
    rw [hm] at hfd
    have w4 : IntKind.u64.wrap (a.r - y) = a.r - y := u64_id (by omega) (by omega)
    simp -implicitDefEqProofs -dsimp (maxSteps := 10000000) only [af20_l0, ↓goes_loop, ↓goes_seq, ↓goes_reg, ↓goes_dreg, ↓goes_cond, ↓goes_block, ↓goes_skip, ↓goes_exit, ↓goes_ret, after_some, br_true, br_false, ↓then_normal, ↓then_exit, ↓then_ret, ↓blk_normal, ↓blk_exit, ↓blk_ret, ↓blk_other, ops_nil, ops_some, ops_none, oper_none, oper_some, gd_tt, gd_ff, gd_tf, gd_ft, gd_undef, ↓any_op, ↓any_call, ↓any_callV, ↓any_invoke, xo_t, xo_c, args_nil, args_cons, bin_add, bin_sub, bin_mul, bin_quo, bin_rem, bin_and, bin_or, bin_xor, bin_andNot, bin_eql, bin_neq, bin_lss, bin_leq, bin_gtr, bin_geq, bin_shl, bin_shr, bin_bools, bin_strs, bin_ptrs, bin_slices, bin_aggs, ↓Option.bind_some, ↓Option.map_some, ↓cond_true, ↓cond_false, evC, evOp, XO.lit, setArgs, Tr.get_set, Option.bind_some, Option.map_some, cond_true, cond_false, maxI, maxFrom, minI, minFrom, aConv, aBinE, aEq, eqScal, aUn, evRes, fin, oneOf, if_true, if_false, callee, reduceCtorEq, Nat.reduceEqDiff, and_self, decide_true, decide_false, beq_true, beq_false, Bool.not_true, Bool.not_false, List.getElem?_cons_zero, List.getElem?_cons_succ, beq_self_eq_true, gt_iff_lt, ble_dec, beq_dec, List.head?_cons, AV.undef, eq_self, ne_eq, not_true_eq_false, not_false_eq_true, Int.reduceLT, Int.reduceLE, Int.reduceToNat, Int.reduceEq, Int.reduceNeg, Nat.reduceAdd, Nat.reduceLT, Nat.reduceLeDiff, Nat.reduceMul, Nat.reduceSub, AV.cells, AV.tup, Bool.true_and, true_and, and_true, List.drop_nil, List.append_nil, rd_put, rd_alloc, rdO, St.get_put, St.get_alloc, St.next_put, St.next_alloc, St.wr, Bool.and_self, Bool.and_true, List.length_cons, List.length_nil, List.take_succ_cons, List.take_zero, List.drop_succ_cons, List.drop_zero, List.cons_append, List.nil_append, Nat.zero_add, Nat.add_zero, Nat.reduceMul, aFill, evParts, rep, List.replicate_succ, List.replicate_zero, List.flatten_cons, List.flatten_nil, List.append_nil, newSl, newVar, t5, ta, tb, tcc, tn, c1, hix, hz, hA, rA, wj, w1, w2, w3, w4, hy, c2]
    refine ⟨m - 1, ⟨?_, ?_, ?_, ex.trans eA, j + 1, ?_, by omega, ?_⟩, by show m - 1 < m; omega⟩
    iterate 4 (first | focus (simp only [Tr.get_set, Nat.reduceEqDiff, if_false, if_true, t5, ta, tb]; done) | skip)
    rw [hfd]
    simp only [Tr.get_set, Nat.reduceEqDiff, if_false, if_true]
    rfl
end Go.Proofs.YtkbooepiomobdaaA
