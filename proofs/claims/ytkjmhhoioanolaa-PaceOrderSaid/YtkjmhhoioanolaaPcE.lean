/- Chapter 11: the queue: Go. -/
import Derived.Test.YtkjmhhoioanolaaPcD
set_option linter.unusedVariables false
set_option linter.unusedSimpArgs false
set_option maxRecDepth 10000
namespace Go.Proofs.YtkjmhhoioanolaaA
open Go.RowKit
attribute [local congr] bind_congr1 map_congr1 cond_congr1 withX_congr after_congr br_congr gd_congr

/-- What goes; what stays; the bucket then. -/
def goL : List (List Nat) → Bk → List (List Nat) × List (List Nat) × Bk
  | [], b => ([], [], b)
  | l :: ls, b => if goB b ((l.length : Int) + 28) = true then (l :: (goL ls (takeB b ((l.length : Int) + 28))).1, (goL ls (takeB b ((l.length : Int) + 28))).2) else ([], l :: ls, b)
theorem goL_ok : ∀ (rows : List (List Nat)) {b : Bk}, OkB b → OkB (goL rows b).2.2
  | [], b, h => h
  | l :: ls, b, h => by
    unfold goL
    split
    · exact goL_ok ls (takeB_ok h _)
    · exact h
theorem goL_cat : ∀ (rows : List (List Nat)) (b : Bk), (goL rows b).1 ++ (goL rows b).2.1 = rows
  | [], b => rfl
  | l :: ls, b => by
    unfold goL
    split
    · show l :: ((goL ls _).1 ++ (goL ls _).2.1) = _
      rw [goL_cat ls]
    · rfl
theorem cut_one {o v i n : Nat} (hn : n ≤ 1000) : aCut 1 (.slice (some (o, v, i)) (n + 1) 1 none) (some (.int .i64 1)) none none = some (.slice (some (o, v, i + 1)) n 1 none) := by
  have b1 : bnd (some (.int .i64 1)) 0 (n + 1) = some 1 := by rw [bnd, if_pos (by omega)]; rfl
  simp only [aCut, bnd_none, b1, Option.bind_some, Option.map_some, Nat.beq_refl, cond_true, Nat.mul_one, Nat.add_sub_cancel, Option.map_none]
section
variable {S : St} (k : Nat)
/-- slices.Clip -/
theorem T22 {L R : Nat → Prop} {p : Option (Nat × Nat × Nat)} {e : Nat} {rows : List (List Nat)} (h : Rg S L R p e rows) (hm : rows.length ≤ 1000000) :
    ∃ c', evF Y AP (k + 3) 22 [.slice p rows.length e none] S = some (.slice p rows.length 1 c', S) := by
  have hm' : rows.length ≤ 9223372036854775807 := by omega
  rcases h with ⟨rfl, rfl⟩ | ⟨o, ver, minv, i, c, rfl, rfl, _⟩
  · refine ⟨none, ?_⟩
    rw [evF_body (af := af22) rfl rfl rfl]
    simp -implicitDefEqProofs -dsimp (maxSteps := 10000000) only [af22, ops_nil, ops_some, ops_none, oper_none, oper_some, gd_tt, gd_ff, gd_tf, gd_ft, gd_undef, ↓any_op, ↓any_call, ↓any_callV, ↓any_invoke, xo_t, xo_c, args_nil, args_cons, bin_add, bin_sub, bin_mul, bin_quo, bin_rem, bin_and, bin_or, bin_xor, bin_andNot, bin_eql, bin_neq, bin_lss, bin_leq, bin_gtr, bin_geq, bin_shl, bin_shr, bin_bools, bin_strs, bin_ptrs, bin_slices, bin_aggs, ↓Option.bind_some, ↓Option.map_some, ↓cond_true, ↓cond_false, evC, evOp, XO.lit, setArgs, Tr.tabG, Tr.tabS, Tr.tabL, Tr.get_lf, Option.bind_some, Option.map_some, cond_true, cond_false, maxI, maxFrom, minI, minFrom, aConv, aBinE, aEq, eqScal, aUn, evRes, fin, oneOf, if_true, if_false, callee, reduceCtorEq, Nat.reduceEqDiff, and_self, decide_true, decide_false, beq_true, beq_false, Bool.not_true, Bool.not_false, List.getElem?_cons_zero, List.getElem?_cons_succ, beq_self_eq_true, gt_iff_lt, ble_dec, beq_dec, List.head?_cons, AV.undef, eq_self, ne_eq, not_true_eq_false, not_false_eq_true, Int.reduceLT, Int.reduceLE, Int.reduceToNat, Int.reduceEq, Int.reduceNeg, Nat.reduceAdd, Nat.reduceLT, Nat.reduceLeDiff, Nat.reduceMul, Nat.reduceSub, ↓evDraw_nil, bir, putD, evDraw, trace, List.all_cons, List.all_nil, chk, stAt, again, sameV, sameL, sameA, AV.undef, Bool.and_self, Bool.and_true, decide_eq_true_eq, List.getElem?_nil, aFill, evParts, rep, List.replicate_succ, List.replicate_zero, List.flatten_cons, List.flatten_nil, List.append_nil, newSl, newVar, evOpt, List.length_nil]
    rfl
  · refine ⟨some rows.length, ?_⟩
    have b1 : bnd (some (.int .i64 (rows.length : Int))) 0 rows.length = some rows.length := by simp [bnd]
    have b2 : bnd none 0 rows.length = some 0 := rfl
    rw [evF_body (af := af22) rfl rfl rfl]
    simp -implicitDefEqProofs -dsimp (maxSteps := 10000000) only [af22, ops_nil, ops_some, ops_none, oper_none, oper_some, gd_tt, gd_ff, gd_tf, gd_ft, gd_undef, ↓any_op, ↓any_call, ↓any_callV, ↓any_invoke, xo_t, xo_c, args_nil, args_cons, bin_add, bin_sub, bin_mul, bin_quo, bin_rem, bin_and, bin_or, bin_xor, bin_andNot, bin_eql, bin_neq, bin_lss, bin_leq, bin_gtr, bin_geq, bin_shl, bin_shr, bin_bools, bin_strs, bin_ptrs, bin_slices, bin_aggs, ↓Option.bind_some, ↓Option.map_some, ↓cond_true, ↓cond_false, evC, evOp, XO.lit, setArgs, Tr.tabG, Tr.tabS, Tr.tabL, Tr.get_lf, Option.bind_some, Option.map_some, cond_true, cond_false, maxI, maxFrom, minI, minFrom, aConv, aBinE, aEq, eqScal, aUn, evRes, fin, oneOf, if_true, if_false, callee, reduceCtorEq, Nat.reduceEqDiff, and_self, decide_true, decide_false, beq_true, beq_false, Bool.not_true, Bool.not_false, List.getElem?_cons_zero, List.getElem?_cons_succ, beq_self_eq_true, gt_iff_lt, ble_dec, beq_dec, List.head?_cons, AV.undef, eq_self, ne_eq, not_true_eq_false, not_false_eq_true, Int.reduceLT, Int.reduceLE, Int.reduceToNat, Int.reduceEq, Int.reduceNeg, Nat.reduceAdd, Nat.reduceLT, Nat.reduceLeDiff, Nat.reduceMul, Nat.reduceSub, ↓evDraw_nil, bir, putD, evDraw, trace, List.all_cons, List.all_nil, chk, stAt, again, sameV, sameL, sameA, AV.undef, Bool.and_self, Bool.and_true, decide_eq_true_eq, List.getElem?_nil, aFill, evParts, rep, List.replicate_succ, List.replicate_zero, List.flatten_cons, List.flatten_nil, List.append_nil, newSl, newVar, evOpt, aCut, hm', b1, b2, Option.isSome_some, Nat.zero_mul, Nat.add_zero, Nat.sub_zero]
end
structure IG (F : Nat → Prop) (q ob : Nat) (rows : List (List Nat)) (b : Bk) (cut : Int) (Sb : St) (m : Nat) (T : Tm) (S : St) : Prop where
  t0 : T.get 0 = some (pt q)
  fr : Fr Sb S F
  more : ∃ (out rest : List (List Nat)) (b' : Bk) (po : Option (Nat × Nat × Nat)) (eo : Nat), T.get 3 = some (.slice po out.length eo none) ∧ rest.length = m ∧ goL rows b = (out ++ (goL rest b').1, (goL rest b').2) ∧ Qu S F q ob rest b' cut ∧
    Rg S (fun j => Sb.next ≤ j) (fun j => F j ∧ ¬ j = q ∧ ¬ j = ob) po eo out ∧ out.length + rest.length ≤ 16
set_option maxHeartbeats 8000000 in
theorem roundG (k : Nat) {F : Nat → Prop} {q ob : Nat} {rows : List (List Nat)} {b : Bk} {cut : Int} {Sb : St} (hF : ∀ j, F j → j < Sb.next) (m : Nat) (T : Tm) (S : St) (hI : IG F q ob rows b cut Sb m T S) :
    Goes (evF Y AP (k + 19)) (k + 19) af11_l0 T S (Then (fun T' S' => ∃ m', IG F q ob rows b cut Sb m' T' S' ∧ id m' < id m) fun r T' S' => r = .exit 0 ∧ T'.get 0 = some (pt q) ∧ Fr Sb S' F ∧
      ∃ (po : Option (Nat × Nat × Nat)) (eo : Nat), T'.get 3 = some (.slice po (goL rows b).1.length eo none) ∧ Qu S' F q ob (goL rows b).2.1 (goL rows b).2.2 cut ∧ Rg S' (fun j => Sb.next ≤ j) (fun j => F j ∧ ¬ j = q ∧ ¬ j = ob) po eo (goL rows b).1) := by
  obtain ⟨t0, fr, out, rest, b', po, eo, t3, hm, hg, h, ro, hn⟩ := hI
  obtain ⟨p, e, g, rg⟩ := h.li
  obtain ⟨n, hl⟩ : ∃ n, rest.length = n := ⟨_, rfl⟩
  rw [hl] at g hn
  have hrd : ∀ v' i' m', S.rd q v' i' m' = rdO (.cells [.slice p n e none, pt ob, .int .i64 cut] 0 0 true) v' i' m' := rd_of g
  have hmx : n ≤ 9223372036854775807 := by omega
  rcases rest with _ | ⟨l, ls⟩
  · have c1 : ¬ (0 : Int) < (n : Int) := by rw [List.length_nil] at hl; omega
    simp -implicitDefEqProofs -dsimp (maxSteps := 10000000) only [af11_l0, ↓goes_loop, ↓goes_seq, ↓goes_reg, ↓goes_dreg, ↓goes_cond, ↓goes_block, ↓goes_skip, ↓goes_exit, ↓goes_ret, after_some, br_true, br_false, ↓then_normal, ↓then_exit, ↓then_ret, ↓blk_normal, ↓blk_exit, ↓blk_ret, ↓blk_other, ops_nil, ops_some, ops_none, oper_none, oper_some, gd_tt, gd_ff, gd_tf, gd_ft, gd_undef, ↓any_op, ↓any_call, ↓any_callV, ↓any_invoke, xo_t, xo_c, args_nil, args_cons, bin_add, bin_sub, bin_mul, bin_quo, bin_rem, bin_and, bin_or, bin_xor, bin_andNot, bin_eql, bin_neq, bin_lss, bin_leq, bin_gtr, bin_geq, bin_shl, bin_shr, bin_bools, bin_strs, bin_ptrs, bin_slices, bin_aggs, ↓Option.bind_some, ↓Option.map_some, ↓cond_true, ↓cond_false, evC, evOp, XO.lit, setArgs, Tr.get_set, Option.bind_some, Option.map_some, cond_true, cond_false, maxI, maxFrom, minI, minFrom, aConv, aBinE, aEq, eqScal, aUn, evRes, fin, oneOf, if_true, if_false, callee, reduceCtorEq, Nat.reduceEqDiff, and_self, decide_true, decide_false, beq_true, beq_false, Bool.not_true, Bool.not_false, List.getElem?_cons_zero, List.getElem?_cons_succ, beq_self_eq_true, gt_iff_lt, ble_dec, beq_dec, List.head?_cons, AV.undef, eq_self, ne_eq, not_true_eq_false, not_false_eq_true, Int.reduceLT, Int.reduceLE, Int.reduceToNat, Int.reduceEq, Int.reduceNeg, Nat.reduceAdd, Nat.reduceLT, Nat.reduceLeDiff, Nat.reduceMul, Nat.reduceSub, ↓evDraw_nil, bir, putD, evDraw, trace, List.all_cons, List.all_nil, chk, stAt, again, sameV, sameL, sameA, AV.undef, Bool.and_self, Bool.and_true, decide_eq_true_eq, List.getElem?_nil, AV.cells, AV.tup, Bool.true_and, true_and, and_true, List.drop_nil, List.append_nil, rd_put, rd_alloc, rdO, St.get_put, St.get_alloc, St.next_put, St.next_alloc, St.wr, Bool.and_self, Bool.and_true, List.length_cons, List.length_nil, List.take_succ_cons, List.take_zero, List.drop_succ_cons, List.drop_zero, List.cons_append, List.nil_append, Nat.zero_add, Nat.add_zero, Nat.reduceMul, aFill, evParts, rep, List.replicate_succ, List.replicate_zero, List.flatten_cons, List.flatten_nil, List.append_nil, newSl, newVar, t0, hrd, hmx, c1]
    have e1 : (goL rows b).1 = out := by rw [hg]; exact List.append_nil _
    have e2 : (goL rows b).2.1 = [] := by rw [hg]; rfl
    have e3 : (goL rows b).2.2 = b' := by rw [hg]; rfl
    rw [e1, e2, e3]
    exact ⟨fr, po, eo, t3, h, ro⟩
  · obtain ⟨o, ver, i, x, rfl, rfl, lo, ho, hx, rx, rt⟩ := rg.head
    have hsz := h.sz l List.mem_cons_self
    obtain ⟨px, ex, cx, rfl, bx, fx⟩ := rx
    have r17 : evF Y AP (k + 19) 17 [.slice px l.length ex cx] S = some (.int .i64 ((l.length : Int) + 28), S) := T17 (k + 15) hsz
    obtain ⟨S2, r2, u2⟩ := T21 (k + 15) h.ok h.gb (n := (l.length : Int) + 28) ⟨by omega, by omega⟩
    have r2 : evF Y AP (k + 19) 21 [pt ob, .int .i64 ((l.length : Int) + 28)] S = _ := r2
    have Q2 := h.bucket u2 (takeB_ok h.ok _)
    have f2 : Fr S S2 F := .of_upd u2 h.fb
    have n2 := u2.next
    have hl' : n = ls.length + 1 := by rw [← hl, List.length_cons]
    have c1 : (0 : Int) < (n : Int) := by omega
    have hix : ixOf (.int .i64 0) n = some 0 := by rw [ix_ok (by omega) (by omega)]; rfl
    have hx' : S.rd o ver i 1 = some [.slice px l.length ex cx] := hx
    have f2' : Fr S S2 (fun j => j = ob) := .of_upd u2 rfl
    have hx2 : S2.rd o ver i 1 = some [.slice px l.length ex cx] := by rw [f2'.rd ho lo.2.2]; exact hx
    have g2 : S2.get q = some (.cells [.slice (some (o, ver, i)) n 1 none, pt ob, .int .i64 cut] 0 0 true) := by rw [u2.else h.ne]; exact g
    have hrd2 : ∀ v' i' m', S2.rd q v' i' m' = rdO (.cells [.slice (some (o, ver, i)) n 1 none, pt ob, .int .i64 cut] 0 0 true) v' i' m' := rd_of g2
    have ro2 := ro.fr f2' (fun j _ hj he => by have := hF _ h.fb; omega) (fun j _ hj he => hj.2.2 he)
    by_cases c2 : goB b' ((l.length : Int) + 28) = true
    rotate_left
    · have c2' : goB b' ((l.length : Int) + 28) = false := by simpa using c2
      rw [c2'] at r2
      simp -implicitDefEqProofs -dsimp (maxSteps := 10000000) only [af11_l0, ↓goes_loop, ↓goes_seq, ↓goes_reg, ↓goes_dreg, ↓goes_cond, ↓goes_block, ↓goes_skip, ↓goes_exit, ↓goes_ret, after_some, br_true, br_false, ↓then_normal, ↓then_exit, ↓then_ret, ↓blk_normal, ↓blk_exit, ↓blk_ret, ↓blk_other, ops_nil, ops_some, ops_none, oper_none, oper_some, gd_tt, gd_ff, gd_tf, gd_ft, gd_undef, ↓any_op, ↓any_call, ↓any_callV, ↓any_invoke, xo_t, xo_c, args_nil, args_cons, bin_add, bin_sub, bin_mul, bin_quo, bin_rem, bin_and, bin_or, bin_xor, bin_andNot, bin_eql, bin_neq, bin_lss, bin_leq, bin_gtr, bin_geq, bin_shl, bin_shr, bin_bools, bin_strs, bin_ptrs, bin_slices, bin_aggs, ↓Option.bind_some, ↓Option.map_some, ↓cond_true, ↓cond_false, evC, evOp, XO.lit, setArgs, Tr.get_set, Option.bind_some, Option.map_some, cond_true, cond_false, maxI, maxFrom, minI, minFrom, aConv, aBinE, aEq, eqScal, aUn, evRes, fin, oneOf, if_true, if_false, callee, reduceCtorEq, Nat.reduceEqDiff, and_self, decide_true, decide_false, beq_true, beq_false, Bool.not_true, Bool.not_false, List.getElem?_cons_zero, List.getElem?_cons_succ, beq_self_eq_true, gt_iff_lt, ble_dec, beq_dec, List.head?_cons, AV.undef, eq_self, ne_eq, not_true_eq_false, not_false_eq_true, Int.reduceLT, Int.reduceLE, Int.reduceToNat, Int.reduceEq, Int.reduceNeg, Nat.reduceAdd, Nat.reduceLT, Nat.reduceLeDiff, Nat.reduceMul, Nat.reduceSub, ↓evDraw_nil, bir, putD, evDraw, trace, List.all_cons, List.all_nil, chk, stAt, again, sameV, sameL, sameA, AV.undef, Bool.and_self, Bool.and_true, decide_eq_true_eq, List.getElem?_nil, AV.cells, AV.tup, Bool.true_and, true_and, and_true, List.drop_nil, List.append_nil, rd_put, rd_alloc, rdO, St.get_put, St.get_alloc, St.next_put, St.next_alloc, St.wr, Bool.and_self, Bool.and_true, List.length_cons, List.length_nil, List.take_succ_cons, List.take_zero, List.drop_succ_cons, List.drop_zero, List.cons_append, List.nil_append, Nat.zero_add, Nat.add_zero, Nat.reduceMul, aFill, evParts, rep, List.replicate_succ, List.replicate_zero, List.flatten_cons, List.flatten_nil, List.append_nil, newSl, newVar, t0, hrd, hmx, c1, hix, hx', r17, r2]
      have eg : goL (l :: ls) b' = ([], l :: ls, b') := by rw [goL, if_neg c2]
      have et : takeB b' ((l.length : Int) + 28) = b' := by rw [takeB, if_neg c2]
      have e1 : (goL rows b).1 = out := by rw [hg, eg]; exact List.append_nil _
      have e2 : (goL rows b).2.1 = l :: ls := by rw [hg, eg]
      have e3 : (goL rows b).2.2 = b' := by rw [hg, eg]
      rw [e1, e2, e3]
      rw [et] at Q2
      exact ⟨fr.then f2, po, eo, t3, Q2, ro2⟩
    rw [c2] at r2
    have hq := hF _ h.fq
    have hbn := fr.next
    obtain ⟨A, hA⟩ : ∃ A, S2.alloc (.cells [.slice px l.length ex cx] 0 0 true) = A := ⟨_, rfl⟩
    have eA : Ext S2 A := by rw [← hA]; exact .alloc _ _
    have nA : A.next = S2.next + 1 := by rw [← hA]; rfl
    have f2A : Fr S A (fun j => j = ob) := f2'.then (.of_ext eA _)
    have QA := Q2.fr (.of_ext eA (fun _ => False)) fun _ _ h => h
    have roA := ro2.fr (.of_ext eA (fun _ => False)) (fun _ _ _ h => h) (fun _ _ _ h => h)
    have rxA : Row A (fun j => F j ∧ ¬ j = q ∧ ¬ j = ob) (.slice px l.length ex cx) l :=
      Row.fr (G := fun j => j = ob) (S := S) ⟨px, ex, cx, rfl, bx, fun o v i hp => (fx o v i hp).1⟩ f2A (fun j _ hj => hj.2.2)
    obtain ⟨p3, S3, r3, ro3, f3, n3⟩ := roA.app rxA (fun j _ hj => ⟨hj, fun hl => by have := hF _ hj.1; omega⟩) (by omega)
    have dis : ∀ j, F j → ¬ Sb.next ≤ j := fun j hj hl => by have := hF j hj; omega
    have Q3 := QA.fr f3 dis
    have g3 : S3.get q = some (.cells [.slice (some (o, ver, i)) n 1 none, pt ob, .int .i64 cut] 0 0 true) := f3.get (by have := h.bd _ h.fq; omega) (dis _ h.fq) (eA.get (by have := h.bd _ h.fq; omega) g2)
    have hrd3 : ∀ v' i' m', S3.rd q v' i' m' = rdO (.cells [.slice (some (o, ver, i)) n 1 none, pt ob, .int .i64 cut] 0 0 true) v' i' m' := rd_of g3
    have hrdA : A.rd S2.next 0 0 1 = some [.slice px l.length ex cx] := by rw [← hA, rd_alloc, if_pos rfl]; rfl
    have rt3 := (rt.fr f2A (fun j _ hj => hj.2.2) (fun j _ hj => hj.2.2)).fr f3 (fun j _ hj => dis j hj.1) (fun j _ hj => dis j hj.1)
    have u4 := Upd.one S3 q (.cells [.slice (some (o, ver, i + 1)) ls.length 1 none, pt ob, .int .i64 cut] 0 0 true)
    have Q4 := Q3.cells u4 (by omega) (fun y hy => h.sz y (List.mem_cons_of_mem _ hy)) rt3
    have hc1 : aCut 1 (.slice (some (o, ver, i)) n 1 none) (some (.int .i64 1)) none none = some (.slice (some (o, ver, i + 1)) ls.length 1 none) := by rw [hl']; exact cut_one (by omega)
    simp -implicitDefEqProofs -dsimp (maxSteps := 10000000) only [af11_l0, ↓goes_loop, ↓goes_seq, ↓goes_reg, ↓goes_dreg, ↓goes_cond, ↓goes_block, ↓goes_skip, ↓goes_exit, ↓goes_ret, after_some, br_true, br_false, ↓then_normal, ↓then_exit, ↓then_ret, ↓blk_normal, ↓blk_exit, ↓blk_ret, ↓blk_other, ops_nil, ops_some, ops_none, oper_none, oper_some, gd_tt, gd_ff, gd_tf, gd_ft, gd_undef, ↓any_op, ↓any_call, ↓any_callV, ↓any_invoke, xo_t, xo_c, args_nil, args_cons, bin_add, bin_sub, bin_mul, bin_quo, bin_rem, bin_and, bin_or, bin_xor, bin_andNot, bin_eql, bin_neq, bin_lss, bin_leq, bin_gtr, bin_geq, bin_shl, bin_shr, bin_bools, bin_strs, bin_ptrs, bin_slices, bin_aggs, ↓Option.bind_some, ↓Option.map_some, ↓cond_true, ↓cond_false, evC, evOp, XO.lit, setArgs, Tr.get_set, Option.bind_some, Option.map_some, cond_true, cond_false, maxI, maxFrom, minI, minFrom, aConv, aBinE, aEq, eqScal, aUn, evRes, fin, oneOf, if_true, if_false, callee, reduceCtorEq, Nat.reduceEqDiff, and_self, decide_true, decide_false, beq_true, beq_false, Bool.not_true, Bool.not_false, List.getElem?_cons_zero, List.getElem?_cons_succ, beq_self_eq_true, gt_iff_lt, ble_dec, beq_dec, List.head?_cons, AV.undef, eq_self, ne_eq, not_true_eq_false, not_false_eq_true, Int.reduceLT, Int.reduceLE, Int.reduceToNat, Int.reduceEq, Int.reduceNeg, Nat.reduceAdd, Nat.reduceLT, Nat.reduceLeDiff, Nat.reduceMul, Nat.reduceSub, ↓evDraw_nil, bir, putD, evDraw, trace, List.all_cons, List.all_nil, chk, stAt, again, sameV, sameL, sameA, AV.undef, Bool.and_self, Bool.and_true, decide_eq_true_eq, List.getElem?_nil, AV.cells, AV.tup, Bool.true_and, true_and, and_true, List.drop_nil, List.append_nil, rd_put, rd_alloc, rdO, St.get_put, St.get_alloc, St.next_put, St.next_alloc, St.wr, Bool.and_self, Bool.and_true, List.length_cons, List.length_nil, List.take_succ_cons, List.take_zero, List.drop_succ_cons, List.drop_zero, List.cons_append, List.nil_append, Nat.zero_add, Nat.add_zero, Nat.reduceMul, aFill, evParts, rep, List.replicate_succ, List.replicate_zero, List.flatten_cons, List.flatten_nil, List.append_nil, newSl, newVar, evOpt, t0, t3, hrd, hrd2, hrd3, hmx, c1, hix, hx', hx2, r17, r2, hA, hrdA, r3, hc1, g3]
    refine ⟨ls.length, ⟨?_, ?_, out ++ [l], ls, takeB b' ((l.length : Int) + 28), p3, 1, ?_, rfl, ?_, Q4, ?_, ?_⟩, by show ls.length < m; omega⟩
    · simp only [Tr.get_set, Nat.reduceEqDiff, if_false, if_true, t0]
    · exact (((fr.then f2).then (Fr.of_ext eA F)).trans (f3.mono fun j hj hl => .inr ⟨hl, hj⟩)).then (.of_upd u4 h.fq)
    · simp only [Tr.get_set, Nat.reduceEqDiff, if_false, if_true, List.length_append, List.length_cons, List.length_nil]
    · rw [hg, goL, if_pos c2, List.append_assoc]; rfl
    · exact (ro3.mono (L' := fun j => Sb.next ≤ j) (fun j _ hj => hj.elim id fun hj => by omega) (fun j _ hj => hj)).fr (.of_upd (G := fun j => j = q) u4 rfl) (fun j _ hj he => by omega) (fun j _ hj => hj.2.1)
    · rw [List.length_append]; simp only [List.length_cons, List.length_nil]; omega
end Go.Proofs.YtkjmhhoioanolaaA
