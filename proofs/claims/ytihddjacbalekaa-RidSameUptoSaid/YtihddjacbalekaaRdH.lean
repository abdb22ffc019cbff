/- Chapter 2: the same but for great letters goes both ways, and on. -/
import Derived.Test.YtihddjacbalekaaRdG
set_option linter.unusedVariables false
set_option linter.unusedSimpArgs false
set_option maxRecDepth 10000
namespace Go.Proofs.YtihddjacbalekaaA
open Go.RowKit
attribute [local congr] bind_congr1 map_congr1 cond_congr1 withX_congr after_congr br_congr gd_congr

def bit (n : Int) (i : Nat) : Int := (n / 2 ^ min ((i : Int) % 32).toNat IntKind.u32.bits) % 2
def up2 (n : Int) (p : Nat × Nat) : Int := if 97 ≤ (p.2 : Int) ∧ (p.2 : Int) ≤ 122 ∧ bit n p.1 = 1 then p.2 - 32 else p.2
theorem up2_valid {n : Int} {p : Nat × Nat} (h : Utf8.valid (p.2 : Int) = true) : Utf8.valid (up2 n p) = true := by
  rw [valid_iff] at h ⊢
  unfold up2
  split <;> omega
theorem lower_up2 (n : Int) (p : Nat × Nat) : lower (up2 n p).toNat = lower p.2 := by
  unfold up2 lower
  split <;> split <;> (try split) <;> omega
theorem one_up2 (n : Int) (p : Nat × Nat) : isOne ((up2 n p).toNat : Int) = isOne p.2 := by
  unfold up2 isOne
  rw [decide_eq_decide]
  split <;> omega
def great (n : Int) (s : List Nat) : List Nat := (Rr 0 s).flatMap fun p => encR (up2 n p)
theorem great_snd (n : Int) (s : List Nat) : (Rr 0 (great n s)).map (·.2) = (Rr 0 s).map fun p => (up2 n p).toNat := by
  have h := Rr_enc ((Rr 0 s).map fun p => up2 n p) 0 (by
    intro r hr
    obtain ⟨x, hx, rfl⟩ := List.mem_map.1 hr
    exact up2_valid (Rr_valid _ s 0 (Nat.le_refl _) x hx))
  rw [List.flatMap_map, List.map_map] at h
  exact h
theorem fold_great (n : Int) (s : List Nat) : fold (great n s) = fold s := by
  rw [fold_of, great_snd, List.flatMap_map]
  unfold fold
  congr 1
  funext p
  rw [lower_up2]
theorem count_great (n : Int) (s : List Nat) : count (great n s) = count s := by
  rw [count_of, great_snd, List.length_map]; rfl
theorem right_great (n : Int) (s : List Nat) : right (great n s) = right s := by
  rw [right_of, count_great, great_snd, List.all_map]
  unfold right
  congr 2
  funext p
  exact one_up2 n p
theorem great_len (n : Int) (l : List (Nat × Nat)) : (l.flatMap fun p => encR (up2 n p)).length ≤ 4 * l.length := by
  induction l with
  | nil => simp
  | cons p l ih => rw [List.flatMap_cons, List.length_append, List.length_cons]; have := enc_len (up2 n p); omega
theorem eqStr_comm : ∀ a b : List Nat, eqStr a b = eqStr b a
  | [], [] => rfl
  | [], _ :: _ => rfl
  | _ :: _, [] => rfl
  | a :: x, b :: y => by
    simp only [eqStr, eqStr_comm x y]
    congr 1
    rw [beq_dec, beq_dec, decide_eq_decide]
    exact eq_comm
theorem a1 (x : Int) : Go.bits .and .u32 x 1 = x % 2 := and_u32 1 (by decide) x
structure IU (s t : List Nat) (m : Int) (n : Nat) (T : Tm) (S : St) : Prop where
  t16 : T.get 16 = some itp
  t0 : T.get 0 = some (.str s)
  t1 : T.get 1 = some (.str t)
  t2 : T.get 2 = some (.int .u32 m)
  more : ∃ (pos : Nat) (d : List (Nat × Nat)), S.get 0 = some (.iter s pos) ∧ T.get 7 = some (.str (d.flatMap fun p => encR (up2 m p))) ∧ d ++ Rr pos (s.drop pos) = Rr 0 s ∧ n = (s.drop pos).length
set_option maxHeartbeats 8000000 in
theorem roundU (k : Nat) {s t : List Nat} (hs : s.length ≤ 40) {m : Int} (n : Nat) (T : Tm) (S : St) (h : IU s t m n T S) :
    Goes (evF X13 AP (k + 99)) (k + 99) af6_l0 T S (Then (fun T' S' => ∃ n', IU s t m n' T' S' ∧ id n' < id n) fun r T' S' => r = .exit 0 ∧ T'.get 0 = some (.str s) ∧ T'.get 1 = some (.str t) ∧ T'.get 7 = some (.str (great m s))) := by
  obtain ⟨t16, t0, t1, t2, pos, d, hit, t7, hall, hn⟩ := h
  have hdl : d.length ≤ 40 := by
    have := Rr_len 0 s
    rw [← hall, List.length_append] at this
    omega
  have hfl := great_len m d
  obtain ⟨a, ha⟩ : ∃ a, (d.flatMap fun p => encR (up2 m p)) = a := ⟨_, rfl⟩
  rw [ha] at t7 hfl
  rcases hd : s.drop pos with _ | ⟨b, l⟩
  · rw [hd, Rr_nil, List.append_nil] at hall
    have hf : a = great m s := by rw [← ha, hall]; rfl
    simp -implicitDefEqProofs -dsimp (maxSteps := 10000000) only [af6_l0, ↓goes_loop, ↓goes_seq, ↓goes_reg, ↓goes_dreg, ↓goes_cond, ↓goes_block, ↓goes_skip, ↓goes_exit, ↓goes_ret, after_some, br_true, br_false, ↓then_normal, ↓then_exit, ↓then_ret, ↓blk_normal, ↓blk_exit, ↓blk_ret, ↓blk_other, ops_nil, ops_some, ops_none, oper_none, oper_some, gd_tt, gd_ff, gd_tf, gd_ft, gd_undef, ↓any_op, ↓any_call, ↓any_callV, ↓any_invoke, xo_t, xo_c, args_nil, args_cons, bin_add, bin_sub, bin_mul, bin_quo, bin_rem, bin_and, bin_or, bin_xor, bin_andNot, bin_eql, bin_neq, bin_lss, bin_leq, bin_gtr, bin_geq, bin_shl, bin_shr, bin_bools, bin_strs, bin_ptrs, bin_slices, bin_aggs, ↓Option.bind_some, ↓Option.map_some, ↓cond_true, ↓cond_false, evC, evOp, XO.lit, setArgs, Tr.get_set, Option.bind_some, Option.map_some, cond_true, cond_false, maxI, maxFrom, minI, minFrom, aConv, aBinE, aEq, eqScal, aUn, evRes, fin, oneOf, if_true, if_false, callee, reduceCtorEq, Nat.reduceEqDiff, and_self, decide_true, decide_false, beq_true, beq_false, Bool.not_true, Bool.not_false, List.getElem?_cons_zero, List.getElem?_cons_succ, beq_self_eq_true, gt_iff_lt, ble_dec, beq_dec, List.head?_cons, AV.undef, eq_self, ne_eq, not_true_eq_false, not_false_eq_true, Int.reduceLT, Int.reduceLE, Int.reduceToNat, Int.reduceEq, Int.reduceNeg, Nat.reduceAdd, Nat.reduceLT, Nat.reduceLeDiff, Nat.reduceMul, Nat.reduceSub, AV.cells, AV.tup, Bool.true_and, true_and, and_true, List.drop_nil, List.append_nil, rd_put, rd_alloc, rdO, St.get_put, St.get_alloc, St.next_put, St.next_alloc, St.wr, Bool.and_self, Bool.and_true, List.length_cons, List.length_nil, List.take_succ_cons, List.take_zero, List.drop_succ_cons, List.drop_zero, List.cons_append, List.nil_append, Nat.zero_add, Nat.add_zero, Nat.reduceMul, t16, hit, hd]
    refine ⟨?_, ?_, ?_⟩ <;> simp only [Tr.get_set, Nat.reduceEqDiff, if_false, if_true, t0, t1, t7, hf]
  · obtain ⟨h1, h2, h3⟩ := step_drop hd
    have hb := decR_bound (b :: l)
    have hp : ¬ 9223372036854775807 < pos := by omega
    rw [hd, Rr_cons] at hall
    obtain ⟨r, hr⟩ : ∃ r, (decR (b :: l)).1 = r := ⟨_, rfl⟩
    obtain ⟨w, hw⟩ : ∃ w, (decR (b :: l)).2 = w := ⟨_, rfl⟩
    rw [hr, hw] at hall hb
    rw [hw] at h1 h3
    have hel := enc_len (up2 m (pos, r))
    have hsum : a.length + (encR (up2 m (pos, r))).length ≤ 9223372036854775807 := by omega
    have fin : ∀ T' : Tm, T'.get 16 = some itp → T'.get 0 = some (.str s) → T'.get 1 = some (.str t) → T'.get 2 = some (.int .u32 m) → T'.get 7 = some (.str (a ++ encR (up2 m (pos, r)))) → ∃ n', IU s t m n' T' (S.put 0 (.iter s (pos + w))) ∧ id n' < id n := by
      intro T' x16 x0 x1 x2 x7
      refine ⟨_, ⟨x16, x0, x1, x2, pos + w, d ++ [(pos, r)], by rw [St.get_put, if_pos rfl], ?_, by rw [h1, List.append_assoc]; exact hall, rfl⟩, by simp only [id]; rw [hn]; exact h3⟩
      rw [x7, List.flatMap_append, ha]
      simp only [List.flatMap_cons, List.flatMap_nil, List.append_nil]
    have u1 : IntKind.u64.wrap ((pos : Int) % 32) = (pos : Int) % 32 := u64_id (by omega) (by omega)
    have cn : ¬ (pos : Int) % 32 < 0 := by omega
    obtain ⟨bi, hbi⟩ : ∃ bi, (m / 2 ^ min ((pos : Int) % 32).toNat IntKind.u32.bits) % 2 = bi := ⟨_, rfl⟩
    by_cases c1 : 97 ≤ (r : Int)
    · by_cases c2 : (r : Int) ≤ 122
      · by_cases c3 : bi = 1
        · have hl : up2 m (pos, r) = r - 32 := by unfold up2 bit; dsimp only; rw [hbi, if_pos ⟨c1, c2, c3⟩]
          have w1 : IntKind.i32.wrap ((r : Int) - 97) = r - 97 := i32_id (by omega) (by omega)
          have w2 : IntKind.i32.wrap ((r : Int) - 97 + 65) = r - 32 := by rw [i32_id (by omega) (by omega)]; omega
          rw [hl] at hsum fin
          simp -implicitDefEqProofs -dsimp (maxSteps := 10000000) only [af6_l0, ↓goes_loop, ↓goes_seq, ↓goes_reg, ↓goes_dreg, ↓goes_cond, ↓goes_block, ↓goes_skip, ↓goes_exit, ↓goes_ret, after_some, br_true, br_false, ↓then_normal, ↓then_exit, ↓then_ret, ↓blk_normal, ↓blk_exit, ↓blk_ret, ↓blk_other, ops_nil, ops_some, ops_none, oper_none, oper_some, gd_tt, gd_ff, gd_tf, gd_ft, gd_undef, ↓any_op, ↓any_call, ↓any_callV, ↓any_invoke, xo_t, xo_c, args_nil, args_cons, bin_add, bin_sub, bin_mul, bin_quo, bin_rem, bin_and, bin_or, bin_xor, bin_andNot, bin_eql, bin_neq, bin_lss, bin_leq, bin_gtr, bin_geq, bin_shl, bin_shr, bin_bools, bin_strs, bin_ptrs, bin_slices, bin_aggs, ↓Option.bind_some, ↓Option.map_some, ↓cond_true, ↓cond_false, evC, evOp, XO.lit, setArgs, Tr.get_set, Option.bind_some, Option.map_some, cond_true, cond_false, maxI, maxFrom, minI, minFrom, aConv, aBinE, aEq, eqScal, aUn, evRes, fin, oneOf, if_true, if_false, callee, reduceCtorEq, Nat.reduceEqDiff, and_self, decide_true, decide_false, beq_true, beq_false, Bool.not_true, Bool.not_false, List.getElem?_cons_zero, List.getElem?_cons_succ, beq_self_eq_true, gt_iff_lt, ble_dec, beq_dec, List.head?_cons, AV.undef, eq_self, ne_eq, not_true_eq_false, not_false_eq_true, Int.reduceLT, Int.reduceLE, Int.reduceToNat, Int.reduceEq, Int.reduceNeg, Nat.reduceAdd, Nat.reduceLT, Nat.reduceLeDiff, Nat.reduceMul, Nat.reduceSub, AV.cells, AV.tup, Bool.true_and, true_and, and_true, List.drop_nil, List.append_nil, rd_put, rd_alloc, rdO, St.get_put, St.get_alloc, St.next_put, St.next_alloc, St.wr, Bool.and_self, Bool.and_true, List.length_cons, List.length_nil, List.take_succ_cons, List.take_zero, List.drop_succ_cons, List.drop_zero, List.cons_append, List.nil_append, Nat.zero_add, Nat.add_zero, Nat.reduceMul, aFill, evParts, rep, List.replicate_succ, List.replicate_zero, List.flatten_cons, List.flatten_nil, List.append_nil, newSl, newVar, t16, t2, t7, hit, hd, hp, hr, hw, c1, c2, c3, m31, u1, cn, hbi, a1, w1, w2, aStr, hsum]
          refine fin _ ?_ ?_ ?_ ?_ ?_ <;> simp only [Tr.get_set, Nat.reduceEqDiff, if_false, if_true, t16, t0, t1, t2]
        · have hl : up2 m (pos, r) = r := by unfold up2 bit; dsimp only; rw [hbi, if_neg (fun h => c3 h.2.2)]
          rw [hl] at hsum fin
          simp -implicitDefEqProofs -dsimp (maxSteps := 10000000) only [af6_l0, ↓goes_loop, ↓goes_seq, ↓goes_reg, ↓goes_dreg, ↓goes_cond, ↓goes_block, ↓goes_skip, ↓goes_exit, ↓goes_ret, after_some, br_true, br_false, ↓then_normal, ↓then_exit, ↓then_ret, ↓blk_normal, ↓blk_exit, ↓blk_ret, ↓blk_other, ops_nil, ops_some, ops_none, oper_none, oper_some, gd_tt, gd_ff, gd_tf, gd_ft, gd_undef, ↓any_op, ↓any_call, ↓any_callV, ↓any_invoke, xo_t, xo_c, args_nil, args_cons, bin_add, bin_sub, bin_mul, bin_quo, bin_rem, bin_and, bin_or, bin_xor, bin_andNot, bin_eql, bin_neq, bin_lss, bin_leq, bin_gtr, bin_geq, bin_shl, bin_shr, bin_bools, bin_strs, bin_ptrs, bin_slices, bin_aggs, ↓Option.bind_some, ↓Option.map_some, ↓cond_true, ↓cond_false, evC, evOp, XO.lit, setArgs, Tr.get_set, Option.bind_some, Option.map_some, cond_true, cond_false, maxI, maxFrom, minI, minFrom, aConv, aBinE, aEq, eqScal, aUn, evRes, fin, oneOf, if_true, if_false, callee, reduceCtorEq, Nat.reduceEqDiff, and_self, decide_true, decide_false, beq_true, beq_false, Bool.not_true, Bool.not_false, List.getElem?_cons_zero, List.getElem?_cons_succ, beq_self_eq_true, gt_iff_lt, ble_dec, beq_dec, List.head?_cons, AV.undef, eq_self, ne_eq, not_true_eq_false, not_false_eq_true, Int.reduceLT, Int.reduceLE, Int.reduceToNat, Int.reduceEq, Int.reduceNeg, Nat.reduceAdd, Nat.reduceLT, Nat.reduceLeDiff, Nat.reduceMul, Nat.reduceSub, AV.cells, AV.tup, Bool.true_and, true_and, and_true, List.drop_nil, List.append_nil, rd_put, rd_alloc, rdO, St.get_put, St.get_alloc, St.next_put, St.next_alloc, St.wr, Bool.and_self, Bool.and_true, List.length_cons, List.length_nil, List.take_succ_cons, List.take_zero, List.drop_succ_cons, List.drop_zero, List.cons_append, List.nil_append, Nat.zero_add, Nat.add_zero, Nat.reduceMul, aFill, evParts, rep, List.replicate_succ, List.replicate_zero, List.flatten_cons, List.flatten_nil, List.append_nil, newSl, newVar, t16, t2, t7, hit, hd, hp, hr, hw, c1, c2, c3, m31, u1, cn, hbi, a1, aStr, hsum]
          refine fin _ ?_ ?_ ?_ ?_ ?_ <;> simp only [Tr.get_set, Nat.reduceEqDiff, if_false, if_true, t16, t0, t1, t2]
      · have hl : up2 m (pos, r) = r := by unfold up2; dsimp only; rw [if_neg (fun h => c2 h.2.1)]
        rw [hl] at hsum fin
        simp -implicitDefEqProofs -dsimp (maxSteps := 10000000) only [af6_l0, ↓goes_loop, ↓goes_seq, ↓goes_reg, ↓goes_dreg, ↓goes_cond, ↓goes_block, ↓goes_skip, ↓goes_exit, ↓goes_ret, after_some, br_true, br_false, ↓then_normal, ↓then_exit, ↓then_ret, ↓blk_normal, ↓blk_exit, ↓blk_ret, ↓blk_other, ops_nil, ops_some, ops_none, oper_none, oper_some, gd_tt, gd_ff, gd_tf, gd_ft, gd_undef, ↓any_op, ↓any_call, ↓any_callV, ↓any_invoke, xo_t, xo_c, args_nil, args_cons, bin_add, bin_sub, bin_mul, bin_quo, bin_rem, bin_and, bin_or, bin_xor, bin_andNot, bin_eql, bin_neq, bin_lss, bin_leq, bin_gtr, bin_geq, bin_shl, bin_shr, bin_bools, bin_strs, bin_ptrs, bin_slices, bin_aggs, ↓Option.bind_some, ↓Option.map_some, ↓cond_true, ↓cond_false, evC, evOp, XO.lit, setArgs, Tr.get_set, Option.bind_some, Option.map_some, cond_true, cond_false, maxI, maxFrom, minI, minFrom, aConv, aBinE, aEq, eqScal, aUn, evRes, fin, oneOf, if_true, if_false, callee, reduceCtorEq, Nat.reduceEqDiff, and_self, decide_true, decide_false, beq_true, beq_false, Bool.not_true, Bool.not_false, List.getElem?_cons_zero, List.getElem?_cons_succ, beq_self_eq_true, gt_iff_lt, ble_dec, beq_dec, List.head?_cons, AV.undef, eq_self, ne_eq, not_true_eq_false, not_false_eq_true, Int.reduceLT, Int.reduceLE, Int.reduceToNat, Int.reduceEq, Int.reduceNeg, Nat.reduceAdd, Nat.reduceLT, Nat.reduceLeDiff, Nat.reduceMul, Nat.reduceSub, AV.cells, AV.tup, Bool.true_and, true_and, and_true, List.drop_nil, List.append_nil, rd_put, rd_alloc, rdO, St.get_put, St.get_alloc, St.next_put, St.next_alloc, St.wr, Bool.and_self, Bool.and_true, List.length_cons, List.length_nil, List.take_succ_cons, List.take_zero, List.drop_succ_cons, List.drop_zero, List.cons_append, List.nil_append, Nat.zero_add, Nat.add_zero, Nat.reduceMul, aFill, evParts, rep, List.replicate_succ, List.replicate_zero, List.flatten_cons, List.flatten_nil, List.append_nil, newSl, newVar, t16, t2, t7, hit, hd, hp, hr, hw, c1, c2, aStr, hsum]
        refine fin _ ?_ ?_ ?_ ?_ ?_ <;> simp only [Tr.get_set, Nat.reduceEqDiff, if_false, if_true, t16, t0, t1, t2]
    · have hl : up2 m (pos, r) = r := by unfold up2; dsimp only; rw [if_neg (fun h => c1 h.1)]
      rw [hl] at hsum fin
      simp -implicitDefEqProofs -dsimp (maxSteps := 10000000) only [af6_l0, ↓goes_loop, ↓goes_seq, ↓goes_reg, ↓goes_dreg, ↓goes_cond, ↓goes_block, ↓goes_skip, ↓goes_exit, ↓goes_ret, after_some, br_true, br_false, ↓then_normal, ↓then_exit, ↓then_ret, ↓blk_normal, ↓blk_exit, ↓blk_ret, ↓blk_other, ops_nil, ops_some, ops_none, oper_none, oper_some, gd_tt, gd_ff, gd_tf, gd_ft, gd_undef, ↓any_op, ↓any_call, ↓any_callV, ↓any_invoke, xo_t, xo_c, args_nil, args_cons, bin_add, bin_sub, bin_mul, bin_quo, bin_rem, bin_and, bin_or, bin_xor, bin_andNot, bin_eql, bin_neq, bin_lss, bin_leq, bin_gtr, bin_geq, bin_shl, bin_shr, bin_bools, bin_strs, bin_ptrs, bin_slices, bin_aggs, ↓Option.bind_some, ↓Option.map_some, ↓cond_true, ↓cond_false, evC, evOp, XO.lit, setArgs, Tr.get_set, Option.bind_some, Option.map_some, cond_true, cond_false, maxI, maxFrom, minI, minFrom, aConv, aBinE, aEq, eqScal, aUn, evRes, fin, oneOf, if_true, if_false, callee, reduceCtorEq, Nat.reduceEqDiff, and_self, decide_true, decide_false, beq_true, beq_false, Bool.not_true, Bool.not_false, List.getElem?_cons_zero, List.getElem?_cons_succ, beq_self_eq_true, gt_iff_lt, ble_dec, beq_dec, List.head?_cons, AV.undef, eq_self, ne_eq, not_true_eq_false, not_false_eq_true, Int.reduceLT, Int.reduceLE, Int.reduceToNat, Int.reduceEq, Int.reduceNeg, Nat.reduceAdd, Nat.reduceLT, Nat.reduceLeDiff, Nat.reduceMul, Nat.reduceSub, AV.cells, AV.tup, Bool.true_and, true_and, and_true, List.drop_nil, List.append_nil, rd_put, rd_alloc, rdO, St.get_put, St.get_alloc, St.next_put, St.next_alloc, St.wr, Bool.and_self, Bool.and_true, List.length_cons, List.length_nil, List.take_succ_cons, List.take_zero, List.drop_succ_cons, List.drop_zero, List.cons_append, List.nil_append, Nat.zero_add, Nat.add_zero, Nat.reduceMul, aFill, evParts, rep, List.replicate_succ, List.replicate_zero, List.flatten_cons, List.flatten_nil, List.append_nil, newSl, newVar, t16, t2, t7, hit, hd, hp, hr, hw, c1, aStr, hsum]
      refine fin _ ?_ ?_ ?_ ?_ ?_ <;> simp only [Tr.get_set, Nat.reduceEqDiff, if_false, if_true, t16, t0, t1, t2]
end Go.Proofs.YtihddjacbalekaaA
