/- Top: a picture is not made better where that would be too near the limit: eight closed cases. -/
import Derived.Test.YtjfbdiomcljbeaaGreatTkB
import Derived.Test.YtjfbdiomcljbeaaGreatAeM2
set_option linter.unusedVariables false
set_option linter.unusedSimpArgs false
set_option maxRecDepth 100000
namespace Go.Proofs.YtjfbdiomcljbeaaGreatA
open Go.RowKit
attribute [local congr] bind_congr1 map_congr1 cond_congr1 withX_congr after_congr br_congr gd_congr

def s9 (l : List AV) : Option AV := match l with
  | [.int .i64 a, .int .i64 b, .int .i64 c] => if b = 0 ∧ c = 7 then some (.int .i64 (a % 8)) else none
  | _ => none
theorem ev9 {n : Int} (h : I64 n) : evF XT AP 3 9 [.int .i64 n, .int .i64 0, .int .i64 7] S0 = some (.int .i64 (n % 8), S0) := by
  rw [evF_body (af := af9) rfl rfl rfl]
  have w1 : IntKind.i64.wrap (7 - 0) = 7 := by decide
  have w2 : IntKind.i64.wrap (7 + 1) = 8 := by decide
  have w3 : ¬ ((8 : Int) = 0) := by decide
  by_cases c0 : 0 ≤ n
  · by_cases c1 : n ≤ 7
    · have e : n % 8 = n := by omega
      rw [e]
      simp -implicitDefEqProofs -dsimp (maxSteps := 10000000) only [af9, ops_nil, ops_some, ops_none, oper_none, oper_some, gd_tt, gd_ff, gd_tf, gd_ft, gd_undef, ↓any_op, ↓any_call, ↓any_callV, ↓any_invoke, xo_t, xo_c, args_nil, args_cons, bin_add, bin_sub, bin_mul, bin_quo, bin_rem, bin_and, bin_or, bin_xor, bin_andNot, bin_eql, bin_neq, bin_lss, bin_leq, bin_gtr, bin_geq, bin_shl, bin_shr, bin_bools, bin_strs, bin_ptrs, bin_slices, bin_aggs, ↓Option.bind_some, ↓Option.map_some, ↓cond_true, ↓cond_false, evC, evOp, XO.lit, setArgs, Tr.tabG, Tr.tabS, Tr.tabL, Tr.get_lf, Option.bind_some, Option.map_some, cond_true, cond_false, maxI, maxFrom, minI, minFrom, aConv, aBinE, aEq, eqScal, aUn, evRes, fin, oneOf, if_true, if_false, callee, evF_eq, withX_some, withX_none, addX, X0, sN0, sN1, sN2, sN3, sN4, reduceCtorEq, Nat.reduceEqDiff, and_self, decide_true, decide_false, beq_true, beq_false, Bool.not_true, Bool.not_false, List.getElem?_cons_zero, List.getElem?_cons_succ, beq_self_eq_true, gt_iff_lt, ble_dec, beq_dec, List.head?_cons, AV.undef, eq_self, ne_eq, not_true_eq_false, not_false_eq_true, Int.reduceLT, Int.reduceLE, Int.reduceToNat, Int.reduceEq, Int.reduceNeg, Nat.reduceAdd, Nat.reduceLT, Nat.reduceLeDiff, Nat.reduceMul, Nat.reduceSub, AV.cells, AV.tup, Bool.true_and, true_and, and_true, List.drop_nil, List.append_nil, rd_put, rd_alloc, rdO, St.get_put, St.get_alloc, St.next_put, St.next_alloc, St.wr, Bool.and_self, Bool.and_true, List.length_cons, List.length_nil, List.take_succ_cons, List.take_zero, List.drop_succ_cons, List.drop_zero, List.cons_append, List.nil_append, Nat.zero_add, Nat.add_zero, Nat.reduceMul, c0, c1]
    · have ht : Int.tmod n 8 = n % 8 := Int.tmod_eq_emod_of_nonneg c0
      have c2 : ¬ n % 8 < 0 := by omega
      have w4 : IntKind.i64.wrap (0 + n % 8) = n % 8 := by rw [Int.zero_add]; exact w64_id (by omega) (by omega)
      simp -implicitDefEqProofs -dsimp (maxSteps := 10000000) only [af9, ops_nil, ops_some, ops_none, oper_none, oper_some, gd_tt, gd_ff, gd_tf, gd_ft, gd_undef, ↓any_op, ↓any_call, ↓any_callV, ↓any_invoke, xo_t, xo_c, args_nil, args_cons, bin_add, bin_sub, bin_mul, bin_quo, bin_rem, bin_and, bin_or, bin_xor, bin_andNot, bin_eql, bin_neq, bin_lss, bin_leq, bin_gtr, bin_geq, bin_shl, bin_shr, bin_bools, bin_strs, bin_ptrs, bin_slices, bin_aggs, ↓Option.bind_some, ↓Option.map_some, ↓cond_true, ↓cond_false, evC, evOp, XO.lit, setArgs, Tr.tabG, Tr.tabS, Tr.tabL, Tr.get_lf, Option.bind_some, Option.map_some, cond_true, cond_false, maxI, maxFrom, minI, minFrom, aConv, aBinE, aEq, eqScal, aUn, evRes, fin, oneOf, if_true, if_false, callee, evF_eq, withX_some, withX_none, addX, X0, sN0, sN1, sN2, sN3, sN4, reduceCtorEq, Nat.reduceEqDiff, and_self, decide_true, decide_false, beq_true, beq_false, Bool.not_true, Bool.not_false, List.getElem?_cons_zero, List.getElem?_cons_succ, beq_self_eq_true, gt_iff_lt, ble_dec, beq_dec, List.head?_cons, AV.undef, eq_self, ne_eq, not_true_eq_false, not_false_eq_true, Int.reduceLT, Int.reduceLE, Int.reduceToNat, Int.reduceEq, Int.reduceNeg, Nat.reduceAdd, Nat.reduceLT, Nat.reduceLeDiff, Nat.reduceMul, Nat.reduceSub, AV.cells, AV.tup, Bool.true_and, true_and, and_true, List.drop_nil, List.append_nil, rd_put, rd_alloc, rdO, St.get_put, St.get_alloc, St.next_put, St.next_alloc, St.wr, Bool.and_self, Bool.and_true, List.length_cons, List.length_nil, List.take_succ_cons, List.take_zero, List.drop_succ_cons, List.drop_zero, List.cons_append, List.nil_append, Nat.zero_add, Nat.add_zero, Nat.reduceMul, c0, c1, w1, w2, w3, ht, c2, w4]
  · have hb := Int.tmod_lt_of_pos n (show (0:Int) < 8 by decide)
    obtain ⟨t, ht⟩ : ∃ t, Int.tmod n 8 = t := ⟨_, rfl⟩
    have hneg : -8 < t ∧ t ≤ 0 ∧ n % 8 = (if t < 0 then t + 8 else t) := by
      have h1 : t = -((-n) % 8) := by
        rw [← ht, ← Int.neg_neg n, Int.neg_tmod, Int.tmod_eq_emod_of_nonneg (by omega), Int.neg_neg]
      split <;> omega
    by_cases c2 : t < 0
    · rw [if_pos c2] at hneg
      have w4 : IntKind.i64.wrap (t + 7) = t + 7 := w64_id (by omega) (by omega)
      have w5 : IntKind.i64.wrap (t + 7 - 0) = t + 7 := by rw [Int.sub_zero]; exact w4
      have w6 : IntKind.i64.wrap (t + 7 + 1) = n % 8 := by rw [hneg.2.2]; exact (w64_id (by omega) (by omega)).trans (by omega)
      have w7 : IntKind.i64.wrap (0 + n % 8) = n % 8 := by rw [Int.zero_add]; exact w64_id (by omega) (by omega)
      simp -implicitDefEqProofs -dsimp (maxSteps := 10000000) only [af9, ops_nil, ops_some, ops_none, oper_none, oper_some, gd_tt, gd_ff, gd_tf, gd_ft, gd_undef, ↓any_op, ↓any_call, ↓any_callV, ↓any_invoke, xo_t, xo_c, args_nil, args_cons, bin_add, bin_sub, bin_mul, bin_quo, bin_rem, bin_and, bin_or, bin_xor, bin_andNot, bin_eql, bin_neq, bin_lss, bin_leq, bin_gtr, bin_geq, bin_shl, bin_shr, bin_bools, bin_strs, bin_ptrs, bin_slices, bin_aggs, ↓Option.bind_some, ↓Option.map_some, ↓cond_true, ↓cond_false, evC, evOp, XO.lit, setArgs, Tr.tabG, Tr.tabS, Tr.tabL, Tr.get_lf, Option.bind_some, Option.map_some, cond_true, cond_false, maxI, maxFrom, minI, minFrom, aConv, aBinE, aEq, eqScal, aUn, evRes, fin, oneOf, if_true, if_false, callee, evF_eq, withX_some, withX_none, addX, X0, sN0, sN1, sN2, sN3, sN4, reduceCtorEq, Nat.reduceEqDiff, and_self, decide_true, decide_false, beq_true, beq_false, Bool.not_true, Bool.not_false, List.getElem?_cons_zero, List.getElem?_cons_succ, beq_self_eq_true, gt_iff_lt, ble_dec, beq_dec, List.head?_cons, AV.undef, eq_self, ne_eq, not_true_eq_false, not_false_eq_true, Int.reduceLT, Int.reduceLE, Int.reduceToNat, Int.reduceEq, Int.reduceNeg, Nat.reduceAdd, Nat.reduceLT, Nat.reduceLeDiff, Nat.reduceMul, Nat.reduceSub, AV.cells, AV.tup, Bool.true_and, true_and, and_true, List.drop_nil, List.append_nil, rd_put, rd_alloc, rdO, St.get_put, St.get_alloc, St.next_put, St.next_alloc, St.wr, Bool.and_self, Bool.and_true, List.length_cons, List.length_nil, List.take_succ_cons, List.take_zero, List.drop_succ_cons, List.drop_zero, List.cons_append, List.nil_append, Nat.zero_add, Nat.add_zero, Nat.reduceMul, c0, w1, w2, w3, ht, c2, w4, w5, w6, w7]
    · rw [if_neg c2] at hneg
      have w7 : IntKind.i64.wrap (0 + t) = n % 8 := by rw [Int.zero_add, hneg.2.2]; exact w64_id (by omega) (by omega)
      simp -implicitDefEqProofs -dsimp (maxSteps := 10000000) only [af9, ops_nil, ops_some, ops_none, oper_none, oper_some, gd_tt, gd_ff, gd_tf, gd_ft, gd_undef, ↓any_op, ↓any_call, ↓any_callV, ↓any_invoke, xo_t, xo_c, args_nil, args_cons, bin_add, bin_sub, bin_mul, bin_quo, bin_rem, bin_and, bin_or, bin_xor, bin_andNot, bin_eql, bin_neq, bin_lss, bin_leq, bin_gtr, bin_geq, bin_shl, bin_shr, bin_bools, bin_strs, bin_ptrs, bin_slices, bin_aggs, ↓Option.bind_some, ↓Option.map_some, ↓cond_true, ↓cond_false, evC, evOp, XO.lit, setArgs, Tr.tabG, Tr.tabS, Tr.tabL, Tr.get_lf, Option.bind_some, Option.map_some, cond_true, cond_false, maxI, maxFrom, minI, minFrom, aConv, aBinE, aEq, eqScal, aUn, evRes, fin, oneOf, if_true, if_false, callee, evF_eq, withX_some, withX_none, addX, X0, sN0, sN1, sN2, sN3, sN4, reduceCtorEq, Nat.reduceEqDiff, and_self, decide_true, decide_false, beq_true, beq_false, Bool.not_true, Bool.not_false, List.getElem?_cons_zero, List.getElem?_cons_succ, beq_self_eq_true, gt_iff_lt, ble_dec, beq_dec, List.head?_cons, AV.undef, eq_self, ne_eq, not_true_eq_false, not_false_eq_true, Int.reduceLT, Int.reduceLE, Int.reduceToNat, Int.reduceEq, Int.reduceNeg, Nat.reduceAdd, Nat.reduceLT, Nat.reduceLeDiff, Nat.reduceMul, Nat.reduceSub, AV.cells, AV.tup, Bool.true_and, true_and, and_true, List.drop_nil, List.append_nil, rd_put, rd_alloc, rdO, St.get_put, St.get_alloc, St.next_put, St.next_alloc, St.wr, Bool.and_self, Bool.and_true, List.length_cons, List.length_nil, List.take_succ_cons, List.take_zero, List.drop_succ_cons, List.drop_zero, List.cons_append, List.nil_append, Nat.zero_add, Nat.add_zero, Nat.reduceMul, c0, w1, w2, w3, ht, c2, w7]
noncomputable def XM : Nat → List AV → Option AV := addX XT 9 s9
theorem okM : XOk Tryz.prog XM := by
  refine addX_ok mixed okT apOk (entry_of apOk (af := af9) rfl) fun args v hv => ?_
  unfold s9 at hv
  split at hv
  · split at hv
    · rename_i a b c hc
      obtain ⟨rfl, rfl⟩ := hc
      cases hv
      refine ⟨rfl, rfl, fun hw => ⟨3, S0, ?_⟩⟩
      exact ev9 (wf_i64 (hw (.int .i64 a) (by simp)))
    · cases hv
  · cases hv
theorem baseM : CallOk Tryz.prog (evF XM AP 300) := evF_sound mixed okM apOk 300
theorem con_goes {P : Program} (hm : P.follows .mixedOrders = true) {call : Cal} (hc : CallOk P call) {AP : Nat → Option AFunc} (hAP : APOk P AP) {k f : Nat} {af : AFunc} (haf : AP f = some af) {args : List AV} (hle : Nat.ble args.length af.ntmps = true) {S : St} {w : AV}
    (h : Goes call k af.body (setArgs args 0 .lf) S fun r T' S' => ∃ v S2, fin af.results (r, T', S') = some (v, S2) ∧ v = w) : EntryOk P f ∧ ∃ S2, Con P f args S w S2 := by
  obtain ⟨r, T', S', h1, v, S2, h2, rfl⟩ := h
  have he : evBK call k af args S = some (v, S2) := by
    unfold evBK
    rw [hle]
    show Option.casesOn (motive := fun _ => Res) (evCK call k af.body (setArgsK args 0 .lf) S) none (fin af.results) = _
    rw [ob, evCK_eq, setArgsK_eq, h1]
    exact h2
  obtain ⟨h3, h4⟩ := con_step hm hc hAP haf he
  exact ⟨h3, S2, h4⟩
theorem stn (l : Obs) (n : Nat) : (stOf l n).next = n := rfl
theorem S0n : S0.next = 0 := rfl
noncomputable def g0_i0 : Obs := [(0, oC (r64 [4, 8])), (1, oC (r64 [1, 5])), (2, oC [vI 0, vS 0 0 0 2 1 none, vS 1 0 0 2 1 none]), (3, oC [vI 0])]
noncomputable def g0_o0 : Obs := [(0, oC (r64 [4, 8])), (1, oC (r64 [1, 5])), (2, oC [vI 0, vS 0 0 0 2 1 none, vS 1 0 0 2 1 none]), (3, oC [vI 0]), (33, .cells [vI 1] 1 0 true)]
noncomputable def g0_e0 : Ent := ⟨10, [vS 2 0 0 1 3 none, vI 16, vS 3 0 0 1 1 none], g0_i0, 4, vS 33 1 0 1 1 (some 1), g0_o0, 42⟩
theorem g0_t0 : EntOk Tryz.prog g0_e0 := ent_of mixed Mz_base apOk (k := 300) (by kernel_rfl)
noncomputable def g0_i1 : Obs := [(0, oC (r64 [4, 8])), (1, oC (r64 [1, 5])), (2, oC [vI 0, vS 0 0 0 2 1 none, vS 1 0 0 2 1 none]), (3, oC [vI 0]), (33, .cells [vI 1] 1 0 true), (42, oC [vI 1])]
noncomputable def g0_o1 : Obs := [(0, oC (r64 [4, 8])), (1, oC (r64 [1, 5])), (2, oC [vI 0, vS 0 0 0 2 1 none, vS 1 0 0 2 1 none]), (3, oC [vI 0]), (33, .cells [vI 1] 1 0 true), (42, oC [vI 1]), (72, .cells [vI 1] 1 0 true)]
noncomputable def g0_e1 : Ent := ⟨10, [vS 2 0 0 1 3 none, vI 16, vS 42 0 0 1 1 none], g0_i1, 43, vS 72 1 0 1 1 (some 1), g0_o1, 80⟩
theorem g0_t1 : EntOk Tryz.prog g0_e1 := ent_of mixed Mz_base apOk (k := 300) (by kernel_rfl)
noncomputable def g0_i2 : Obs := [(0, oC (r64 [4, 8])), (1, oC (r64 [1, 5])), (2, oC [vI 0, vS 0 0 0 2 1 none, vS 1 0 0 2 1 none]), (3, oC [vI 0]), (33, .cells [vI 1] 1 0 true), (42, oC [vI 1]), (72, .cells [vI 1] 1 0 true), (80, oC [vI 1])]
noncomputable def g0_o2 : Obs := [(0, oC (r64 [4, 8])), (1, oC (r64 [1, 5])), (2, oC [vI 0, vS 0 0 0 2 1 none, vS 1 0 0 2 1 none]), (3, oC [vI 0]), (33, .cells [vI 1] 1 0 true), (42, oC [vI 1]), (72, .cells [vI 1] 1 0 true), (80, oC [vI 1])]
noncomputable def g0_e2 : Ent := ⟨11, [vS 33 1 0 1 1 (some 1), vS 80 0 0 1 1 none], g0_i2, 81, vB true, g0_o2, 81⟩
theorem g0_t2 : EntOk Tryz.prog g0_e2 := ent_of mixed Mz_base apOk (k := 300) (by kernel_rfl)
noncomputable def g0_i3 : Obs := [(0, oC (r64 [4, 8])), (1, oC (r64 [1, 5])), (2, oC [vI 0, vS 0 0 0 2 1 none, vS 1 0 0 2 1 none]), (3, oC [vI 0]), (33, .cells [vI 1] 1 0 true), (42, oC [vI 1]), (72, .cells [vI 1] 1 0 true), (80, oC [vI 1]), (81, oC [vI 1])]
noncomputable def g0_o3 : Obs := [(0, oC (r64 [4, 8])), (1, oC (r64 [1, 5])), (2, oC [vI 0, vS 0 0 0 2 1 none, vS 1 0 0 2 1 none]), (3, oC [vI 0]), (33, .cells [vI 1] 1 0 true), (42, oC [vI 1]), (72, .cells [vI 1] 1 0 true), (80, oC [vI 1]), (81, oC [vI 1])]
noncomputable def g0_e3 : Ent := ⟨11, [vS 72 1 0 1 1 (some 1), vS 81 0 0 1 1 none], g0_i3, 82, vB true, g0_o3, 82⟩
theorem g0_t3 : EntOk Tryz.prog g0_e3 := ent_of mixed Mz_base apOk (k := 300) (by kernel_rfl)
noncomputable def g0_i4 : Obs := [(0, oC (r64 [4, 8])), (1, oC (r64 [1, 5])), (2, oC [vI 0, vS 0 0 0 2 1 none, vS 1 0 0 2 1 none]), (3, oC [vI 0]), (33, .cells [vI 1] 1 0 true), (42, oC [vI 1]), (72, .cells [vI 1] 1 0 true), (80, oC [vI 1]), (81, oC [vI 1])]
noncomputable def g0_o4 : Obs := [(0, oC (r64 [4, 8])), (1, oC (r64 [1, 5])), (2, oC [vI 0, vS 0 0 0 2 1 none, vS 1 0 0 2 1 none]), (3, oC [vI 0]), (33, .cells [vI 1] 1 0 true), (42, oC [vI 1]), (72, .cells [vI 1] 1 0 true), (80, oC [vI 1]), (81, oC [vI 1])]
noncomputable def g0_e4 : Ent := ⟨12, [vS 2 0 0 1 3 none, vS 33 1 0 1 1 (some 1)], g0_i4, 82, vI 8, g0_o4, 83⟩
theorem g0_t4 : EntOk Tryz.prog g0_e4 := ent_of mixed Mz_base apOk (k := 300) (by kernel_rfl)
noncomputable def g0_c : Cal := callM [g0_e0, g0_e1, g0_e2, g0_e3, g0_e4] (evF XM AP 300)
theorem g0_ok : CallOk Tryz.prog g0_c := callM_ok baseM (List.forall_mem_cons.2 ⟨g0_t0, List.forall_mem_cons.2 ⟨g0_t1, List.forall_mem_cons.2 ⟨g0_t2, List.forall_mem_cons.2 ⟨g0_t3, List.forall_mem_cons.2 ⟨g0_t4, (fun _ h => nomatch h)⟩⟩⟩⟩⟩)
theorem g0_f0 : g0_c 10 [vS 2 0 0 1 3 none, vI 16, vS 3 0 0 1 1 none] ((((S0.alloc (.cells [.int .i64 4, .int .i64 8] 0 0 true)).alloc (.cells [.int .i64 1, .int .i64 5] 0 0 true)).alloc (.cells [.int .i64 0, .slice (some (0, 0, 0)) 2 1 none, .slice (some (1, 0, 0)) 2 1 none] 0 0 true)).alloc (.cells [.int .i64 0] 0 0 true)) = some (vS 33 1 0 1 1 (some 1), stOf g0_o0 42) := by kernel_rfl
theorem g0_f1 : g0_c 10 [vS 2 0 0 1 3 none, vI 16, vS 42 0 0 1 1 none] ((stOf g0_o0 42).alloc (.cells [.int .i64 1] 0 0 true)) = some (vS 72 1 0 1 1 (some 1), stOf g0_o1 80) := by kernel_rfl
theorem g0_f2 : g0_c 11 [vS 33 1 0 1 1 (some 1), vS 80 0 0 1 1 none] ((stOf g0_o1 80).alloc (.cells [.int .i64 1] 0 0 true)) = some (vB true, stOf g0_o2 81) := by kernel_rfl
theorem g0_f3 : g0_c 11 [vS 72 1 0 1 1 (some 1), vS 81 0 0 1 1 none] ((stOf g0_o2 81).alloc (.cells [.int .i64 1] 0 0 true)) = some (vB true, stOf g0_o3 82) := by kernel_rfl
theorem g0_f4 : g0_c 12 [vS 2 0 0 1 3 none, vS 33 1 0 1 1 (some 1)] (stOf g0_o3 82) = some (vI 8, stOf g0_o4 83) := by kernel_rfl
theorem g0_9 (n : Int) (S : St) : g0_c 9 [.int .i64 n, .int .i64 0, .int .i64 7] S = some (.int .i64 (n % 8), S) := rfl
theorem g0_13 (S : St) : g0_c 13 [] S = some (.bool true, S) := rfl
set_option maxHeartbeats 4000000 in
theorem g0 {n : Int} (h : n % 8 = 0) : EntryOk Tryz.prog 3 ∧ ∃ S2, Con Tryz.prog 3 [.int .i64 n] S0 (.bool true) S2 := by
  refine con_goes mixed g0_ok apOk (af := af3) rfl rfl (k := 300) ?_
  have w1 : IntKind.i64.wrap (8 + 0) = 8 := by decide
  simp -implicitDefEqProofs -dsimp (maxSteps := 10000000) only [af3, ↓goes_loop, ↓goes_seq, ↓goes_reg, ↓goes_dreg, ↓goes_preg, ↓goes_cond, ↓goes_block, ↓goes_skip, ↓goes_exit, ↓goes_ret, after_some, br_true, br_false, ↓then_normal, ↓then_exit, ↓then_ret, ↓blk_normal, ↓blk_exit, ↓blk_ret, ↓blk_other, ops_nil, ops_some, ops_none, oper_none, oper_some, gd_tt, gd_ff, gd_tf, gd_ft, gd_undef, ↓any_op, ↓any_call, ↓any_callV, ↓any_invoke, xo_t, xo_c, args_nil, args_cons, bin_add, bin_sub, bin_mul, bin_quo, bin_rem, bin_and, bin_or, bin_xor, bin_andNot, bin_eql, bin_neq, bin_lss, bin_leq, bin_gtr, bin_geq, bin_shl, bin_shr, bin_bools, bin_strs, bin_ptrs, bin_slices, bin_aggs, ↓Option.bind_some, ↓Option.map_some, ↓cond_true, ↓cond_false, evC, evOp, XO.lit, setArgs, Tr.tabG, Tr.tabS, Tr.tabL, Tr.get_lf, Option.bind_some, Option.map_some, cond_true, cond_false, maxI, maxFrom, minI, minFrom, aConv, aBinE, aEq, eqScal, aUn, evRes, fin, oneOf, if_true, if_false, callee, reduceCtorEq, Nat.reduceEqDiff, and_self, decide_true, decide_false, beq_true, beq_false, Bool.not_true, Bool.not_false, List.getElem?_cons_zero, List.getElem?_cons_succ, beq_self_eq_true, gt_iff_lt, ble_dec, beq_dec, List.head?_cons, AV.undef, eq_self, ne_eq, not_true_eq_false, not_false_eq_true, Int.reduceLT, Int.reduceLE, Int.reduceToNat, Int.reduceEq, Int.reduceNeg, Nat.reduceAdd, Nat.reduceLT, Nat.reduceLeDiff, Nat.reduceMul, Nat.reduceSub, AV.cells, AV.tup, Bool.true_and, true_and, and_true, List.drop_nil, List.append_nil, rd_put, rd_alloc, rdO, St.get_put, St.get_alloc, St.next_put, St.next_alloc, St.wr, Bool.and_self, Bool.and_true, List.length_cons, List.length_nil, List.take_succ_cons, List.take_zero, List.drop_succ_cons, List.drop_zero, List.cons_append, List.nil_append, Nat.zero_add, Nat.add_zero, Nat.reduceMul, aFill, evParts, rep, List.replicate_succ, List.replicate_zero, List.flatten_cons, List.flatten_nil, List.append_nil, newSl, newVar, S0n, stn, g0_9, g0_13, h, w1, g0_f0, g0_f1, g0_f2, g0_f3, g0_f4, vI, vB, vS]
  exact ⟨_, _, rfl, rfl⟩
noncomputable def g1_i0 : Obs := [(0, oC (r64 [4, 9])), (1, oC (r64 [1, 5])), (2, oC [vI 0, vS 0 0 0 2 1 none, vS 1 0 0 2 1 none]), (3, oC [vI 0])]
noncomputable def g1_o0 : Obs := [(0, oC (r64 [4, 9])), (1, oC (r64 [1, 5])), (2, oC [vI 0, vS 0 0 0 2 1 none, vS 1 0 0 2 1 none]), (3, oC [vI 0]), (33, .cells [vI 1] 1 0 true)]
noncomputable def g1_e0 : Ent := ⟨10, [vS 2 0 0 1 3 none, vI 16, vS 3 0 0 1 1 none], g1_i0, 4, vS 33 1 0 1 1 (some 1), g1_o0, 42⟩
theorem g1_t0 : EntOk Tryz.prog g1_e0 := ent_of mixed Mz_base apOk (k := 300) (by kernel_rfl)
noncomputable def g1_i1 : Obs := [(0, oC (r64 [4, 9])), (1, oC (r64 [1, 5])), (2, oC [vI 0, vS 0 0 0 2 1 none, vS 1 0 0 2 1 none]), (3, oC [vI 0]), (33, .cells [vI 1] 1 0 true), (42, oC [vI 1])]
noncomputable def g1_o1 : Obs := [(0, oC (r64 [4, 9])), (1, oC (r64 [1, 5])), (2, oC [vI 0, vS 0 0 0 2 1 none, vS 1 0 0 2 1 none]), (3, oC [vI 0]), (33, .cells [vI 1] 1 0 true), (42, oC [vI 1]), (72, .cells [vI 1] 1 0 true)]
noncomputable def g1_e1 : Ent := ⟨10, [vS 2 0 0 1 3 none, vI 16, vS 42 0 0 1 1 none], g1_i1, 43, vS 72 1 0 1 1 (some 1), g1_o1, 80⟩
theorem g1_t1 : EntOk Tryz.prog g1_e1 := ent_of mixed Mz_base apOk (k := 300) (by kernel_rfl)
noncomputable def g1_i2 : Obs := [(0, oC (r64 [4, 9])), (1, oC (r64 [1, 5])), (2, oC [vI 0, vS 0 0 0 2 1 none, vS 1 0 0 2 1 none]), (3, oC [vI 0]), (33, .cells [vI 1] 1 0 true), (42, oC [vI 1]), (72, .cells [vI 1] 1 0 true), (80, oC [vI 1])]
noncomputable def g1_o2 : Obs := [(0, oC (r64 [4, 9])), (1, oC (r64 [1, 5])), (2, oC [vI 0, vS 0 0 0 2 1 none, vS 1 0 0 2 1 none]), (3, oC [vI 0]), (33, .cells [vI 1] 1 0 true), (42, oC [vI 1]), (72, .cells [vI 1] 1 0 true), (80, oC [vI 1])]
noncomputable def g1_e2 : Ent := ⟨11, [vS 33 1 0 1 1 (some 1), vS 80 0 0 1 1 none], g1_i2, 81, vB true, g1_o2, 81⟩
theorem g1_t2 : EntOk Tryz.prog g1_e2 := ent_of mixed Mz_base apOk (k := 300) (by kernel_rfl)
noncomputable def g1_i3 : Obs := [(0, oC (r64 [4, 9])), (1, oC (r64 [1, 5])), (2, oC [vI 0, vS 0 0 0 2 1 none, vS 1 0 0 2 1 none]), (3, oC [vI 0]), (33, .cells [vI 1] 1 0 true), (42, oC [vI 1]), (72, .cells [vI 1] 1 0 true), (80, oC [vI 1]), (81, oC [vI 1])]
noncomputable def g1_o3 : Obs := [(0, oC (r64 [4, 9])), (1, oC (r64 [1, 5])), (2, oC [vI 0, vS 0 0 0 2 1 none, vS 1 0 0 2 1 none]), (3, oC [vI 0]), (33, .cells [vI 1] 1 0 true), (42, oC [vI 1]), (72, .cells [vI 1] 1 0 true), (80, oC [vI 1]), (81, oC [vI 1])]
noncomputable def g1_e3 : Ent := ⟨11, [vS 72 1 0 1 1 (some 1), vS 81 0 0 1 1 none], g1_i3, 82, vB true, g1_o3, 82⟩
theorem g1_t3 : EntOk Tryz.prog g1_e3 := ent_of mixed Mz_base apOk (k := 300) (by kernel_rfl)
noncomputable def g1_i4 : Obs := [(0, oC (r64 [4, 9])), (1, oC (r64 [1, 5])), (2, oC [vI 0, vS 0 0 0 2 1 none, vS 1 0 0 2 1 none]), (3, oC [vI 0]), (33, .cells [vI 1] 1 0 true), (42, oC [vI 1]), (72, .cells [vI 1] 1 0 true), (80, oC [vI 1]), (81, oC [vI 1])]
noncomputable def g1_o4 : Obs := [(0, oC (r64 [4, 9])), (1, oC (r64 [1, 5])), (2, oC [vI 0, vS 0 0 0 2 1 none, vS 1 0 0 2 1 none]), (3, oC [vI 0]), (33, .cells [vI 1] 1 0 true), (42, oC [vI 1]), (72, .cells [vI 1] 1 0 true), (80, oC [vI 1]), (81, oC [vI 1])]
noncomputable def g1_e4 : Ent := ⟨12, [vS 2 0 0 1 3 none, vS 33 1 0 1 1 (some 1)], g1_i4, 82, vI 9, g1_o4, 83⟩
theorem g1_t4 : EntOk Tryz.prog g1_e4 := ent_of mixed Mz_base apOk (k := 300) (by kernel_rfl)
noncomputable def g1_c : Cal := callM [g1_e0, g1_e1, g1_e2, g1_e3, g1_e4] (evF XM AP 300)
theorem g1_ok : CallOk Tryz.prog g1_c := callM_ok baseM (List.forall_mem_cons.2 ⟨g1_t0, List.forall_mem_cons.2 ⟨g1_t1, List.forall_mem_cons.2 ⟨g1_t2, List.forall_mem_cons.2 ⟨g1_t3, List.forall_mem_cons.2 ⟨g1_t4, (fun _ h => nomatch h)⟩⟩⟩⟩⟩)
theorem g1_f0 : g1_c 10 [vS 2 0 0 1 3 none, vI 16, vS 3 0 0 1 1 none] ((((S0.alloc (.cells [.int .i64 4, .int .i64 9] 0 0 true)).alloc (.cells [.int .i64 1, .int .i64 5] 0 0 true)).alloc (.cells [.int .i64 0, .slice (some (0, 0, 0)) 2 1 none, .slice (some (1, 0, 0)) 2 1 none] 0 0 true)).alloc (.cells [.int .i64 0] 0 0 true)) = some (vS 33 1 0 1 1 (some 1), stOf g1_o0 42) := by kernel_rfl
theorem g1_f1 : g1_c 10 [vS 2 0 0 1 3 none, vI 16, vS 42 0 0 1 1 none] ((stOf g1_o0 42).alloc (.cells [.int .i64 1] 0 0 true)) = some (vS 72 1 0 1 1 (some 1), stOf g1_o1 80) := by kernel_rfl
theorem g1_f2 : g1_c 11 [vS 33 1 0 1 1 (some 1), vS 80 0 0 1 1 none] ((stOf g1_o1 80).alloc (.cells [.int .i64 1] 0 0 true)) = some (vB true, stOf g1_o2 81) := by kernel_rfl
theorem g1_f3 : g1_c 11 [vS 72 1 0 1 1 (some 1), vS 81 0 0 1 1 none] ((stOf g1_o2 81).alloc (.cells [.int .i64 1] 0 0 true)) = some (vB true, stOf g1_o3 82) := by kernel_rfl
theorem g1_f4 : g1_c 12 [vS 2 0 0 1 3 none, vS 33 1 0 1 1 (some 1)] (stOf g1_o3 82) = some (vI 9, stOf g1_o4 83) := by kernel_rfl
theorem g1_9 (n : Int) (S : St) : g1_c 9 [.int .i64 n, .int .i64 0, .int .i64 7] S = some (.int .i64 (n % 8), S) := rfl
theorem g1_13 (S : St) : g1_c 13 [] S = some (.bool true, S) := rfl
set_option maxHeartbeats 4000000 in
theorem g1 {n : Int} (h : n % 8 = 1) : EntryOk Tryz.prog 3 ∧ ∃ S2, Con Tryz.prog 3 [.int .i64 n] S0 (.bool true) S2 := by
  refine con_goes mixed g1_ok apOk (af := af3) rfl rfl (k := 300) ?_
  have w1 : IntKind.i64.wrap (8 + 1) = 9 := by decide
  simp -implicitDefEqProofs -dsimp (maxSteps := 10000000) only [af3, ↓goes_loop, ↓goes_seq, ↓goes_reg, ↓goes_dreg, ↓goes_preg, ↓goes_cond, ↓goes_block, ↓goes_skip, ↓goes_exit, ↓goes_ret, after_some, br_true, br_false, ↓then_normal, ↓then_exit, ↓then_ret, ↓blk_normal, ↓blk_exit, ↓blk_ret, ↓blk_other, ops_nil, ops_some, ops_none, oper_none, oper_some, gd_tt, gd_ff, gd_tf, gd_ft, gd_undef, ↓any_op, ↓any_call, ↓any_callV, ↓any_invoke, xo_t, xo_c, args_nil, args_cons, bin_add, bin_sub, bin_mul, bin_quo, bin_rem, bin_and, bin_or, bin_xor, bin_andNot, bin_eql, bin_neq, bin_lss, bin_leq, bin_gtr, bin_geq, bin_shl, bin_shr, bin_bools, bin_strs, bin_ptrs, bin_slices, bin_aggs, ↓Option.bind_some, ↓Option.map_some, ↓cond_true, ↓cond_false, evC, evOp, XO.lit, setArgs, Tr.tabG, Tr.tabS, Tr.tabL, Tr.get_lf, Option.bind_some, Option.map_some, cond_true, cond_false, maxI, maxFrom, minI, minFrom, aConv, aBinE, aEq, eqScal, aUn, evRes, fin, oneOf, if_true, if_false, callee, reduceCtorEq, Nat.reduceEqDiff, and_self, decide_true, decide_false, beq_true, beq_false, Bool.not_true, Bool.not_false, List.getElem?_cons_zero, List.getElem?_cons_succ, beq_self_eq_true, gt_iff_lt, ble_dec, beq_dec, List.head?_cons, AV.undef, eq_self, ne_eq, not_true_eq_false, not_false_eq_true, Int.reduceLT, Int.reduceLE, Int.reduceToNat, Int.reduceEq, Int.reduceNeg, Nat.reduceAdd, Nat.reduceLT, Nat.reduceLeDiff, Nat.reduceMul, Nat.reduceSub, AV.cells, AV.tup, Bool.true_and, true_and, and_true, List.drop_nil, List.append_nil, rd_put, rd_alloc, rdO, St.get_put, St.get_alloc, St.next_put, St.next_alloc, St.wr, Bool.and_self, Bool.and_true, List.length_cons, List.length_nil, List.take_succ_cons, List.take_zero, List.drop_succ_cons, List.drop_zero, List.cons_append, List.nil_append, Nat.zero_add, Nat.add_zero, Nat.reduceMul, aFill, evParts, rep, List.replicate_succ, List.replicate_zero, List.flatten_cons, List.flatten_nil, List.append_nil, newSl, newVar, S0n, stn, g1_9, g1_13, h, w1, g1_f0, g1_f1, g1_f2, g1_f3, g1_f4, vI, vB, vS]
  exact ⟨_, _, rfl, rfl⟩
noncomputable def g2_i0 : Obs := [(0, oC (r64 [4, 10])), (1, oC (r64 [1, 5])), (2, oC [vI 0, vS 0 0 0 2 1 none, vS 1 0 0 2 1 none]), (3, oC [vI 0])]
noncomputable def g2_o0 : Obs := [(0, oC (r64 [4, 10])), (1, oC (r64 [1, 5])), (2, oC [vI 0, vS 0 0 0 2 1 none, vS 1 0 0 2 1 none]), (3, oC [vI 0]), (33, .cells [vI 1] 1 0 true)]
noncomputable def g2_e0 : Ent := ⟨10, [vS 2 0 0 1 3 none, vI 16, vS 3 0 0 1 1 none], g2_i0, 4, vS 33 1 0 1 1 (some 1), g2_o0, 42⟩
theorem g2_t0 : EntOk Tryz.prog g2_e0 := ent_of mixed Mz_base apOk (k := 300) (by kernel_rfl)
noncomputable def g2_i1 : Obs := [(0, oC (r64 [4, 10])), (1, oC (r64 [1, 5])), (2, oC [vI 0, vS 0 0 0 2 1 none, vS 1 0 0 2 1 none]), (3, oC [vI 0]), (33, .cells [vI 1] 1 0 true), (42, oC [vI 1])]
noncomputable def g2_o1 : Obs := [(0, oC (r64 [4, 10])), (1, oC (r64 [1, 5])), (2, oC [vI 0, vS 0 0 0 2 1 none, vS 1 0 0 2 1 none]), (3, oC [vI 0]), (33, .cells [vI 1] 1 0 true), (42, oC [vI 1]), (72, .cells [vI 1] 1 0 true)]
noncomputable def g2_e1 : Ent := ⟨10, [vS 2 0 0 1 3 none, vI 16, vS 42 0 0 1 1 none], g2_i1, 43, vS 72 1 0 1 1 (some 1), g2_o1, 80⟩
theorem g2_t1 : EntOk Tryz.prog g2_e1 := ent_of mixed Mz_base apOk (k := 300) (by kernel_rfl)
noncomputable def g2_i2 : Obs := [(0, oC (r64 [4, 10])), (1, oC (r64 [1, 5])), (2, oC [vI 0, vS 0 0 0 2 1 none, vS 1 0 0 2 1 none]), (3, oC [vI 0]), (33, .cells [vI 1] 1 0 true), (42, oC [vI 1]), (72, .cells [vI 1] 1 0 true), (80, oC [vI 1])]
noncomputable def g2_o2 : Obs := [(0, oC (r64 [4, 10])), (1, oC (r64 [1, 5])), (2, oC [vI 0, vS 0 0 0 2 1 none, vS 1 0 0 2 1 none]), (3, oC [vI 0]), (33, .cells [vI 1] 1 0 true), (42, oC [vI 1]), (72, .cells [vI 1] 1 0 true), (80, oC [vI 1])]
noncomputable def g2_e2 : Ent := ⟨11, [vS 33 1 0 1 1 (some 1), vS 80 0 0 1 1 none], g2_i2, 81, vB true, g2_o2, 81⟩
theorem g2_t2 : EntOk Tryz.prog g2_e2 := ent_of mixed Mz_base apOk (k := 300) (by kernel_rfl)
noncomputable def g2_i3 : Obs := [(0, oC (r64 [4, 10])), (1, oC (r64 [1, 5])), (2, oC [vI 0, vS 0 0 0 2 1 none, vS 1 0 0 2 1 none]), (3, oC [vI 0]), (33, .cells [vI 1] 1 0 true), (42, oC [vI 1]), (72, .cells [vI 1] 1 0 true), (80, oC [vI 1]), (81, oC [vI 1])]
noncomputable def g2_o3 : Obs := [(0, oC (r64 [4, 10])), (1, oC (r64 [1, 5])), (2, oC [vI 0, vS 0 0 0 2 1 none, vS 1 0 0 2 1 none]), (3, oC [vI 0]), (33, .cells [vI 1] 1 0 true), (42, oC [vI 1]), (72, .cells [vI 1] 1 0 true), (80, oC [vI 1]), (81, oC [vI 1])]
noncomputable def g2_e3 : Ent := ⟨11, [vS 72 1 0 1 1 (some 1), vS 81 0 0 1 1 none], g2_i3, 82, vB true, g2_o3, 82⟩
theorem g2_t3 : EntOk Tryz.prog g2_e3 := ent_of mixed Mz_base apOk (k := 300) (by kernel_rfl)
noncomputable def g2_i4 : Obs := [(0, oC (r64 [4, 10])), (1, oC (r64 [1, 5])), (2, oC [vI 0, vS 0 0 0 2 1 none, vS 1 0 0 2 1 none]), (3, oC [vI 0]), (33, .cells [vI 1] 1 0 true), (42, oC [vI 1]), (72, .cells [vI 1] 1 0 true), (80, oC [vI 1]), (81, oC [vI 1])]
noncomputable def g2_o4 : Obs := [(0, oC (r64 [4, 10])), (1, oC (r64 [1, 5])), (2, oC [vI 0, vS 0 0 0 2 1 none, vS 1 0 0 2 1 none]), (3, oC [vI 0]), (33, .cells [vI 1] 1 0 true), (42, oC [vI 1]), (72, .cells [vI 1] 1 0 true), (80, oC [vI 1]), (81, oC [vI 1])]
noncomputable def g2_e4 : Ent := ⟨12, [vS 2 0 0 1 3 none, vS 33 1 0 1 1 (some 1)], g2_i4, 82, vI 10, g2_o4, 83⟩
theorem g2_t4 : EntOk Tryz.prog g2_e4 := ent_of mixed Mz_base apOk (k := 300) (by kernel_rfl)
noncomputable def g2_c : Cal := callM [g2_e0, g2_e1, g2_e2, g2_e3, g2_e4] (evF XM AP 300)
theorem g2_ok : CallOk Tryz.prog g2_c := callM_ok baseM (List.forall_mem_cons.2 ⟨g2_t0, List.forall_mem_cons.2 ⟨g2_t1, List.forall_mem_cons.2 ⟨g2_t2, List.forall_mem_cons.2 ⟨g2_t3, List.forall_mem_cons.2 ⟨g2_t4, (fun _ h => nomatch h)⟩⟩⟩⟩⟩)
theorem g2_f0 : g2_c 10 [vS 2 0 0 1 3 none, vI 16, vS 3 0 0 1 1 none] ((((S0.alloc (.cells [.int .i64 4, .int .i64 10] 0 0 true)).alloc (.cells [.int .i64 1, .int .i64 5] 0 0 true)).alloc (.cells [.int .i64 0, .slice (some (0, 0, 0)) 2 1 none, .slice (some (1, 0, 0)) 2 1 none] 0 0 true)).alloc (.cells [.int .i64 0] 0 0 true)) = some (vS 33 1 0 1 1 (some 1), stOf g2_o0 42) := by kernel_rfl
theorem g2_f1 : g2_c 10 [vS 2 0 0 1 3 none, vI 16, vS 42 0 0 1 1 none] ((stOf g2_o0 42).alloc (.cells [.int .i64 1] 0 0 true)) = some (vS 72 1 0 1 1 (some 1), stOf g2_o1 80) := by kernel_rfl
theorem g2_f2 : g2_c 11 [vS 33 1 0 1 1 (some 1), vS 80 0 0 1 1 none] ((stOf g2_o1 80).alloc (.cells [.int .i64 1] 0 0 true)) = some (vB true, stOf g2_o2 81) := by kernel_rfl
theorem g2_f3 : g2_c 11 [vS 72 1 0 1 1 (some 1), vS 81 0 0 1 1 none] ((stOf g2_o2 81).alloc (.cells [.int .i64 1] 0 0 true)) = some (vB true, stOf g2_o3 82) := by kernel_rfl
theorem g2_f4 : g2_c 12 [vS 2 0 0 1 3 none, vS 33 1 0 1 1 (some 1)] (stOf g2_o3 82) = some (vI 10, stOf g2_o4 83) := by kernel_rfl
theorem g2_9 (n : Int) (S : St) : g2_c 9 [.int .i64 n, .int .i64 0, .int .i64 7] S = some (.int .i64 (n % 8), S) := rfl
theorem g2_13 (S : St) : g2_c 13 [] S = some (.bool true, S) := rfl
set_option maxHeartbeats 4000000 in
theorem g2 {n : Int} (h : n % 8 = 2) : EntryOk Tryz.prog 3 ∧ ∃ S2, Con Tryz.prog 3 [.int .i64 n] S0 (.bool true) S2 := by
  refine con_goes mixed g2_ok apOk (af := af3) rfl rfl (k := 300) ?_
  have w1 : IntKind.i64.wrap (8 + 2) = 10 := by decide
  simp -implicitDefEqProofs -dsimp (maxSteps := 10000000) only [af3, ↓goes_loop, ↓goes_seq, ↓goes_reg, ↓goes_dreg, ↓goes_preg, ↓goes_cond, ↓goes_block, ↓goes_skip, ↓goes_exit, ↓goes_ret, after_some, br_true, br_false, ↓then_normal, ↓then_exit, ↓then_ret, ↓blk_normal, ↓blk_exit, ↓blk_ret, ↓blk_other, ops_nil, ops_some, ops_none, oper_none, oper_some, gd_tt, gd_ff, gd_tf, gd_ft, gd_undef, ↓any_op, ↓any_call, ↓any_callV, ↓any_invoke, xo_t, xo_c, args_nil, args_cons, bin_add, bin_sub, bin_mul, bin_quo, bin_rem, bin_and, bin_or, bin_xor, bin_andNot, bin_eql, bin_neq, bin_lss, bin_leq, bin_gtr, bin_geq, bin_shl, bin_shr, bin_bools, bin_strs, bin_ptrs, bin_slices, bin_aggs, ↓Option.bind_some, ↓Option.map_some, ↓cond_true, ↓cond_false, evC, evOp, XO.lit, setArgs, Tr.tabG, Tr.tabS, Tr.tabL, Tr.get_lf, Option.bind_some, Option.map_some, cond_true, cond_false, maxI, maxFrom, minI, minFrom, aConv, aBinE, aEq, eqScal, aUn, evRes, fin, oneOf, if_true, if_false, callee, reduceCtorEq, Nat.reduceEqDiff, and_self, decide_true, decide_false, beq_true, beq_false, Bool.not_true, Bool.not_false, List.getElem?_cons_zero, List.getElem?_cons_succ, beq_self_eq_true, gt_iff_lt, ble_dec, beq_dec, List.head?_cons, AV.undef, eq_self, ne_eq, not_true_eq_false, not_false_eq_true, Int.reduceLT, Int.reduceLE, Int.reduceToNat, Int.reduceEq, Int.reduceNeg, Nat.reduceAdd, Nat.reduceLT, Nat.reduceLeDiff, Nat.reduceMul, Nat.reduceSub, AV.cells, AV.tup, Bool.true_and, true_and, and_true, List.drop_nil, List.append_nil, rd_put, rd_alloc, rdO, St.get_put, St.get_alloc, St.next_put, St.next_alloc, St.wr, Bool.and_self, Bool.and_true, List.length_cons, List.length_nil, List.take_succ_cons, List.take_zero, List.drop_succ_cons, List.drop_zero, List.cons_append, List.nil_append, Nat.zero_add, Nat.add_zero, Nat.reduceMul, aFill, evParts, rep, List.replicate_succ, List.replicate_zero, List.flatten_cons, List.flatten_nil, List.append_nil, newSl, newVar, S0n, stn, g2_9, g2_13, h, w1, g2_f0, g2_f1, g2_f2, g2_f3, g2_f4, vI, vB, vS]
  exact ⟨_, _, rfl, rfl⟩
noncomputable def g3_i0 : Obs := [(0, oC (r64 [4, 11])), (1, oC (r64 [1, 5])), (2, oC [vI 0, vS 0 0 0 2 1 none, vS 1 0 0 2 1 none]), (3, oC [vI 0])]
noncomputable def g3_o0 : Obs := [(0, oC (r64 [4, 11])), (1, oC (r64 [1, 5])), (2, oC [vI 0, vS 0 0 0 2 1 none, vS 1 0 0 2 1 none]), (3, oC [vI 0]), (33, .cells [vI 1] 1 0 true)]
noncomputable def g3_e0 : Ent := ⟨10, [vS 2 0 0 1 3 none, vI 16, vS 3 0 0 1 1 none], g3_i0, 4, vS 33 1 0 1 1 (some 1), g3_o0, 42⟩
theorem g3_t0 : EntOk Tryz.prog g3_e0 := ent_of mixed Mz_base apOk (k := 300) (by kernel_rfl)
noncomputable def g3_i1 : Obs := [(0, oC (r64 [4, 11])), (1, oC (r64 [1, 5])), (2, oC [vI 0, vS 0 0 0 2 1 none, vS 1 0 0 2 1 none]), (3, oC [vI 0]), (33, .cells [vI 1] 1 0 true), (42, oC [vI 1])]
noncomputable def g3_o1 : Obs := [(0, oC (r64 [4, 11])), (1, oC (r64 [1, 5])), (2, oC [vI 0, vS 0 0 0 2 1 none, vS 1 0 0 2 1 none]), (3, oC [vI 0]), (33, .cells [vI 1] 1 0 true), (42, oC [vI 1]), (72, .cells [vI 1] 1 0 true)]
noncomputable def g3_e1 : Ent := ⟨10, [vS 2 0 0 1 3 none, vI 16, vS 42 0 0 1 1 none], g3_i1, 43, vS 72 1 0 1 1 (some 1), g3_o1, 80⟩
theorem g3_t1 : EntOk Tryz.prog g3_e1 := ent_of mixed Mz_base apOk (k := 300) (by kernel_rfl)
noncomputable def g3_i2 : Obs := [(0, oC (r64 [4, 11])), (1, oC (r64 [1, 5])), (2, oC [vI 0, vS 0 0 0 2 1 none, vS 1 0 0 2 1 none]), (3, oC [vI 0]), (33, .cells [vI 1] 1 0 true), (42, oC [vI 1]), (72, .cells [vI 1] 1 0 true), (80, oC [vI 1])]
noncomputable def g3_o2 : Obs := [(0, oC (r64 [4, 11])), (1, oC (r64 [1, 5])), (2, oC [vI 0, vS 0 0 0 2 1 none, vS 1 0 0 2 1 none]), (3, oC [vI 0]), (33, .cells [vI 1] 1 0 true), (42, oC [vI 1]), (72, .cells [vI 1] 1 0 true), (80, oC [vI 1])]
noncomputable def g3_e2 : Ent := ⟨11, [vS 33 1 0 1 1 (some 1), vS 80 0 0 1 1 none], g3_i2, 81, vB true, g3_o2, 81⟩
theorem g3_t2 : EntOk Tryz.prog g3_e2 := ent_of mixed Mz_base apOk (k := 300) (by kernel_rfl)
noncomputable def g3_i3 : Obs := [(0, oC (r64 [4, 11])), (1, oC (r64 [1, 5])), (2, oC [vI 0, vS 0 0 0 2 1 none, vS 1 0 0 2 1 none]), (3, oC [vI 0]), (33, .cells [vI 1] 1 0 true), (42, oC [vI 1]), (72, .cells [vI 1] 1 0 true), (80, oC [vI 1]), (81, oC [vI 1])]
noncomputable def g3_o3 : Obs := [(0, oC (r64 [4, 11])), (1, oC (r64 [1, 5])), (2, oC [vI 0, vS 0 0 0 2 1 none, vS 1 0 0 2 1 none]), (3, oC [vI 0]), (33, .cells [vI 1] 1 0 true), (42, oC [vI 1]), (72, .cells [vI 1] 1 0 true), (80, oC [vI 1]), (81, oC [vI 1])]
noncomputable def g3_e3 : Ent := ⟨11, [vS 72 1 0 1 1 (some 1), vS 81 0 0 1 1 none], g3_i3, 82, vB true, g3_o3, 82⟩
theorem g3_t3 : EntOk Tryz.prog g3_e3 := ent_of mixed Mz_base apOk (k := 300) (by kernel_rfl)
noncomputable def g3_i4 : Obs := [(0, oC (r64 [4, 11])), (1, oC (r64 [1, 5])), (2, oC [vI 0, vS 0 0 0 2 1 none, vS 1 0 0 2 1 none]), (3, oC [vI 0]), (33, .cells [vI 1] 1 0 true), (42, oC [vI 1]), (72, .cells [vI 1] 1 0 true), (80, oC [vI 1]), (81, oC [vI 1])]
noncomputable def g3_o4 : Obs := [(0, oC (r64 [4, 11])), (1, oC (r64 [1, 5])), (2, oC [vI 0, vS 0 0 0 2 1 none, vS 1 0 0 2 1 none]), (3, oC [vI 0]), (33, .cells [vI 1] 1 0 true), (42, oC [vI 1]), (72, .cells [vI 1] 1 0 true), (80, oC [vI 1]), (81, oC [vI 1])]
noncomputable def g3_e4 : Ent := ⟨12, [vS 2 0 0 1 3 none, vS 33 1 0 1 1 (some 1)], g3_i4, 82, vI 11, g3_o4, 83⟩
theorem g3_t4 : EntOk Tryz.prog g3_e4 := ent_of mixed Mz_base apOk (k := 300) (by kernel_rfl)
noncomputable def g3_c : Cal := callM [g3_e0, g3_e1, g3_e2, g3_e3, g3_e4] (evF XM AP 300)
theorem g3_ok : CallOk Tryz.prog g3_c := callM_ok baseM (List.forall_mem_cons.2 ⟨g3_t0, List.forall_mem_cons.2 ⟨g3_t1, List.forall_mem_cons.2 ⟨g3_t2, List.forall_mem_cons.2 ⟨g3_t3, List.forall_mem_cons.2 ⟨g3_t4, (fun _ h => nomatch h)⟩⟩⟩⟩⟩)
theorem g3_f0 : g3_c 10 [vS 2 0 0 1 3 none, vI 16, vS 3 0 0 1 1 none] ((((S0.alloc (.cells [.int .i64 4, .int .i64 11] 0 0 true)).alloc (.cells [.int .i64 1, .int .i64 5] 0 0 true)).alloc (.cells [.int .i64 0, .slice (some (0, 0, 0)) 2 1 none, .slice (some (1, 0, 0)) 2 1 none] 0 0 true)).alloc (.cells [.int .i64 0] 0 0 true)) = some (vS 33 1 0 1 1 (some 1), stOf g3_o0 42) := by kernel_rfl
theorem g3_f1 : g3_c 10 [vS 2 0 0 1 3 none, vI 16, vS 42 0 0 1 1 none] ((stOf g3_o0 42).alloc (.cells [.int .i64 1] 0 0 true)) = some (vS 72 1 0 1 1 (some 1), stOf g3_o1 80) := by kernel_rfl
theorem g3_f2 : g3_c 11 [vS 33 1 0 1 1 (some 1), vS 80 0 0 1 1 none] ((stOf g3_o1 80).alloc (.cells [.int .i64 1] 0 0 true)) = some (vB true, stOf g3_o2 81) := by kernel_rfl
theorem g3_f3 : g3_c 11 [vS 72 1 0 1 1 (some 1), vS 81 0 0 1 1 none] ((stOf g3_o2 81).alloc (.cells [.int .i64 1] 0 0 true)) = some (vB true, stOf g3_o3 82) := by kernel_rfl
theorem g3_f4 : g3_c 12 [vS 2 0 0 1 3 none, vS 33 1 0 1 1 (some 1)] (stOf g3_o3 82) = some (vI 11, stOf g3_o4 83) := by kernel_rfl
theorem g3_9 (n : Int) (S : St) : g3_c 9 [.int .i64 n, .int .i64 0, .int .i64 7] S = some (.int .i64 (n % 8), S) := rfl
theorem g3_13 (S : St) : g3_c 13 [] S = some (.bool true, S) := rfl
set_option maxHeartbeats 4000000 in
theorem g3 {n : Int} (h : n % 8 = 3) : EntryOk Tryz.prog 3 ∧ ∃ S2, Con Tryz.prog 3 [.int .i64 n] S0 (.bool true) S2 := by
  refine con_goes mixed g3_ok apOk (af := af3) rfl rfl (k := 300) ?_
  have w1 : IntKind.i64.wrap (8 + 3) = 11 := by decide
  simp -implicitDefEqProofs -dsimp (maxSteps := 10000000) only [af3, ↓goes_loop, ↓goes_seq, ↓goes_reg, ↓goes_dreg, ↓goes_preg, ↓goes_cond, ↓goes_block, ↓goes_skip, ↓goes_exit, ↓goes_ret, after_some, br_true, br_false, ↓then_normal, ↓then_exit, ↓then_ret, ↓blk_normal, ↓blk_exit, ↓blk_ret, ↓blk_other, ops_nil, ops_some, ops_none, oper_none, oper_some, gd_tt, gd_ff, gd_tf, gd_ft, gd_undef, ↓any_op, ↓any_call, ↓any_callV, ↓any_invoke, xo_t, xo_c, args_nil, args_cons, bin_add, bin_sub, bin_mul, bin_quo, bin_rem, bin_and, bin_or, bin_xor, bin_andNot, bin_eql, bin_neq, bin_lss, bin_leq, bin_gtr, bin_geq, bin_shl, bin_shr, bin_bools, bin_strs, bin_ptrs, bin_slices, bin_aggs, ↓Option.bind_some, ↓Option.map_some, ↓cond_true, ↓cond_false, evC, evOp, XO.lit, setArgs, Tr.tabG, Tr.tabS, Tr.tabL, Tr.get_lf, Option.bind_some, Option.map_some, cond_true, cond_false, maxI, maxFrom, minI, minFrom, aConv, aBinE, aEq, eqScal, aUn, evRes, fin, oneOf, if_true, if_false, callee, reduceCtorEq, Nat.reduceEqDiff, and_self, decide_true, decide_false, beq_true, beq_false, Bool.not_true, Bool.not_false, List.getElem?_cons_zero, List.getElem?_cons_succ, beq_self_eq_true, gt_iff_lt, ble_dec, beq_dec, List.head?_cons, AV.undef, eq_self, ne_eq, not_true_eq_false, not_false_eq_true, Int.reduceLT, Int.reduceLE, Int.reduceToNat, Int.reduceEq, Int.reduceNeg, Nat.reduceAdd, Nat.reduceLT, Nat.reduceLeDiff, Nat.reduceMul, Nat.reduceSub, AV.cells, AV.tup, Bool.true_and, true_and, and_true, List.drop_nil, List.append_nil, rd_put, rd_alloc, rdO, St.get_put, St.get_alloc, St.next_put, St.next_alloc, St.wr, Bool.and_self, Bool.and_true, List.length_cons, List.length_nil, List.take_succ_cons, List.take_zero, List.drop_succ_cons, List.drop_zero, List.cons_append, List.nil_append, Nat.zero_add, Nat.add_zero, Nat.reduceMul, aFill, evParts, rep, List.replicate_succ, List.replicate_zero, List.flatten_cons, List.flatten_nil, List.append_nil, newSl, newVar, S0n, stn, g3_9, g3_13, h, w1, g3_f0, g3_f1, g3_f2, g3_f3, g3_f4, vI, vB, vS]
  exact ⟨_, _, rfl, rfl⟩
noncomputable def g4_i0 : Obs := [(0, oC (r64 [4, 12])), (1, oC (r64 [1, 5])), (2, oC [vI 0, vS 0 0 0 2 1 none, vS 1 0 0 2 1 none]), (3, oC [vI 0])]
noncomputable def g4_o0 : Obs := [(0, oC (r64 [4, 12])), (1, oC (r64 [1, 5])), (2, oC [vI 0, vS 0 0 0 2 1 none, vS 1 0 0 2 1 none]), (3, oC [vI 0]), (33, .cells [vI 1] 1 0 true)]
noncomputable def g4_e0 : Ent := ⟨10, [vS 2 0 0 1 3 none, vI 16, vS 3 0 0 1 1 none], g4_i0, 4, vS 33 1 0 1 1 (some 1), g4_o0, 42⟩
theorem g4_t0 : EntOk Tryz.prog g4_e0 := ent_of mixed Mz_base apOk (k := 300) (by kernel_rfl)
noncomputable def g4_i1 : Obs := [(0, oC (r64 [4, 12])), (1, oC (r64 [1, 5])), (2, oC [vI 0, vS 0 0 0 2 1 none, vS 1 0 0 2 1 none]), (3, oC [vI 0]), (33, .cells [vI 1] 1 0 true), (42, oC [vI 1])]
noncomputable def g4_o1 : Obs := [(0, oC (r64 [4, 12])), (1, oC (r64 [1, 5])), (2, oC [vI 0, vS 0 0 0 2 1 none, vS 1 0 0 2 1 none]), (3, oC [vI 0]), (33, .cells [vI 1] 1 0 true), (42, oC [vI 1]), (72, .cells [vI 1] 1 0 true)]
noncomputable def g4_e1 : Ent := ⟨10, [vS 2 0 0 1 3 none, vI 16, vS 42 0 0 1 1 none], g4_i1, 43, vS 72 1 0 1 1 (some 1), g4_o1, 80⟩
theorem g4_t1 : EntOk Tryz.prog g4_e1 := ent_of mixed Mz_base apOk (k := 300) (by kernel_rfl)
noncomputable def g4_i2 : Obs := [(0, oC (r64 [4, 12])), (1, oC (r64 [1, 5])), (2, oC [vI 0, vS 0 0 0 2 1 none, vS 1 0 0 2 1 none]), (3, oC [vI 0]), (33, .cells [vI 1] 1 0 true), (42, oC [vI 1]), (72, .cells [vI 1] 1 0 true), (80, oC [vI 1])]
noncomputable def g4_o2 : Obs := [(0, oC (r64 [4, 12])), (1, oC (r64 [1, 5])), (2, oC [vI 0, vS 0 0 0 2 1 none, vS 1 0 0 2 1 none]), (3, oC [vI 0]), (33, .cells [vI 1] 1 0 true), (42, oC [vI 1]), (72, .cells [vI 1] 1 0 true), (80, oC [vI 1])]
noncomputable def g4_e2 : Ent := ⟨11, [vS 33 1 0 1 1 (some 1), vS 80 0 0 1 1 none], g4_i2, 81, vB true, g4_o2, 81⟩
theorem g4_t2 : EntOk Tryz.prog g4_e2 := ent_of mixed Mz_base apOk (k := 300) (by kernel_rfl)
noncomputable def g4_i3 : Obs := [(0, oC (r64 [4, 12])), (1, oC (r64 [1, 5])), (2, oC [vI 0, vS 0 0 0 2 1 none, vS 1 0 0 2 1 none]), (3, oC [vI 0]), (33, .cells [vI 1] 1 0 true), (42, oC [vI 1]), (72, .cells [vI 1] 1 0 true), (80, oC [vI 1]), (81, oC [vI 1])]
noncomputable def g4_o3 : Obs := [(0, oC (r64 [4, 12])), (1, oC (r64 [1, 5])), (2, oC [vI 0, vS 0 0 0 2 1 none, vS 1 0 0 2 1 none]), (3, oC [vI 0]), (33, .cells [vI 1] 1 0 true), (42, oC [vI 1]), (72, .cells [vI 1] 1 0 true), (80, oC [vI 1]), (81, oC [vI 1])]
noncomputable def g4_e3 : Ent := ⟨11, [vS 72 1 0 1 1 (some 1), vS 81 0 0 1 1 none], g4_i3, 82, vB true, g4_o3, 82⟩
theorem g4_t3 : EntOk Tryz.prog g4_e3 := ent_of mixed Mz_base apOk (k := 300) (by kernel_rfl)
noncomputable def g4_i4 : Obs := [(0, oC (r64 [4, 12])), (1, oC (r64 [1, 5])), (2, oC [vI 0, vS 0 0 0 2 1 none, vS 1 0 0 2 1 none]), (3, oC [vI 0]), (33, .cells [vI 1] 1 0 true), (42, oC [vI 1]), (72, .cells [vI 1] 1 0 true), (80, oC [vI 1]), (81, oC [vI 1])]
noncomputable def g4_o4 : Obs := [(0, oC (r64 [4, 12])), (1, oC (r64 [1, 5])), (2, oC [vI 0, vS 0 0 0 2 1 none, vS 1 0 0 2 1 none]), (3, oC [vI 0]), (33, .cells [vI 1] 1 0 true), (42, oC [vI 1]), (72, .cells [vI 1] 1 0 true), (80, oC [vI 1]), (81, oC [vI 1])]
noncomputable def g4_e4 : Ent := ⟨12, [vS 2 0 0 1 3 none, vS 33 1 0 1 1 (some 1)], g4_i4, 82, vI 12, g4_o4, 83⟩
theorem g4_t4 : EntOk Tryz.prog g4_e4 := ent_of mixed Mz_base apOk (k := 300) (by kernel_rfl)
noncomputable def g4_c : Cal := callM [g4_e0, g4_e1, g4_e2, g4_e3, g4_e4] (evF XM AP 300)
theorem g4_ok : CallOk Tryz.prog g4_c := callM_ok baseM (List.forall_mem_cons.2 ⟨g4_t0, List.forall_mem_cons.2 ⟨g4_t1, List.forall_mem_cons.2 ⟨g4_t2, List.forall_mem_cons.2 ⟨g4_t3, List.forall_mem_cons.2 ⟨g4_t4, (fun _ h => nomatch h)⟩⟩⟩⟩⟩)
theorem g4_f0 : g4_c 10 [vS 2 0 0 1 3 none, vI 16, vS 3 0 0 1 1 none] ((((S0.alloc (.cells [.int .i64 4, .int .i64 12] 0 0 true)).alloc (.cells [.int .i64 1, .int .i64 5] 0 0 true)).alloc (.cells [.int .i64 0, .slice (some (0, 0, 0)) 2 1 none, .slice (some (1, 0, 0)) 2 1 none] 0 0 true)).alloc (.cells [.int .i64 0] 0 0 true)) = some (vS 33 1 0 1 1 (some 1), stOf g4_o0 42) := by kernel_rfl
theorem g4_f1 : g4_c 10 [vS 2 0 0 1 3 none, vI 16, vS 42 0 0 1 1 none] ((stOf g4_o0 42).alloc (.cells [.int .i64 1] 0 0 true)) = some (vS 72 1 0 1 1 (some 1), stOf g4_o1 80) := by kernel_rfl
theorem g4_f2 : g4_c 11 [vS 33 1 0 1 1 (some 1), vS 80 0 0 1 1 none] ((stOf g4_o1 80).alloc (.cells [.int .i64 1] 0 0 true)) = some (vB true, stOf g4_o2 81) := by kernel_rfl
theorem g4_f3 : g4_c 11 [vS 72 1 0 1 1 (some 1), vS 81 0 0 1 1 none] ((stOf g4_o2 81).alloc (.cells [.int .i64 1] 0 0 true)) = some (vB true, stOf g4_o3 82) := by kernel_rfl
theorem g4_f4 : g4_c 12 [vS 2 0 0 1 3 none, vS 33 1 0 1 1 (some 1)] (stOf g4_o3 82) = some (vI 12, stOf g4_o4 83) := by kernel_rfl
theorem g4_9 (n : Int) (S : St) : g4_c 9 [.int .i64 n, .int .i64 0, .int .i64 7] S = some (.int .i64 (n % 8), S) := rfl
theorem g4_13 (S : St) : g4_c 13 [] S = some (.bool true, S) := rfl
set_option maxHeartbeats 4000000 in
theorem g4 {n : Int} (h : n % 8 = 4) : EntryOk Tryz.prog 3 ∧ ∃ S2, Con Tryz.prog 3 [.int .i64 n] S0 (.bool true) S2 := by
  refine con_goes mixed g4_ok apOk (af := af3) rfl rfl (k := 300) ?_
  have w1 : IntKind.i64.wrap (8 + 4) = 12 := by decide
  simp -implicitDefEqProofs -dsimp (maxSteps := 10000000) only [af3, ↓goes_loop, ↓goes_seq, ↓goes_reg, ↓goes_dreg, ↓goes_preg, ↓goes_cond, ↓goes_block, ↓goes_skip, ↓goes_exit, ↓goes_ret, after_some, br_true, br_false, ↓then_normal, ↓then_exit, ↓then_ret, ↓blk_normal, ↓blk_exit, ↓blk_ret, ↓blk_other, ops_nil, ops_some, ops_none, oper_none, oper_some, gd_tt, gd_ff, gd_tf, gd_ft, gd_undef, ↓any_op, ↓any_call, ↓any_callV, ↓any_invoke, xo_t, xo_c, args_nil, args_cons, bin_add, bin_sub, bin_mul, bin_quo, bin_rem, bin_and, bin_or, bin_xor, bin_andNot, bin_eql, bin_neq, bin_lss, bin_leq, bin_gtr, bin_geq, bin_shl, bin_shr, bin_bools, bin_strs, bin_ptrs, bin_slices, bin_aggs, ↓Option.bind_some, ↓Option.map_some, ↓cond_true, ↓cond_false, evC, evOp, XO.lit, setArgs, Tr.tabG, Tr.tabS, Tr.tabL, Tr.get_lf, Option.bind_some, Option.map_some, cond_true, cond_false, maxI, maxFrom, minI, minFrom, aConv, aBinE, aEq, eqScal, aUn, evRes, fin, oneOf, if_true, if_false, callee, reduceCtorEq, Nat.reduceEqDiff, and_self, decide_true, decide_false, beq_true, beq_false, Bool.not_true, Bool.not_false, List.getElem?_cons_zero, List.getElem?_cons_succ, beq_self_eq_true, gt_iff_lt, ble_dec, beq_dec, List.head?_cons, AV.undef, eq_self, ne_eq, not_true_eq_false, not_false_eq_true, Int.reduceLT, Int.reduceLE, Int.reduceToNat, Int.reduceEq, Int.reduceNeg, Nat.reduceAdd, Nat.reduceLT, Nat.reduceLeDiff, Nat.reduceMul, Nat.reduceSub, AV.cells, AV.tup, Bool.true_and, true_and, and_true, List.drop_nil, List.append_nil, rd_put, rd_alloc, rdO, St.get_put, St.get_alloc, St.next_put, St.next_alloc, St.wr, Bool.and_self, Bool.and_true, List.length_cons, List.length_nil, List.take_succ_cons, List.take_zero, List.drop_succ_cons, List.drop_zero, List.cons_append, List.nil_append, Nat.zero_add, Nat.add_zero, Nat.reduceMul, aFill, evParts, rep, List.replicate_succ, List.replicate_zero, List.flatten_cons, List.flatten_nil, List.append_nil, newSl, newVar, S0n, stn, g4_9, g4_13, h, w1, g4_f0, g4_f1, g4_f2, g4_f3, g4_f4, vI, vB, vS]
  exact ⟨_, _, rfl, rfl⟩
noncomputable def g5_i0 : Obs := [(0, oC (r64 [4, 13])), (1, oC (r64 [1, 5])), (2, oC [vI 0, vS 0 0 0 2 1 none, vS 1 0 0 2 1 none]), (3, oC [vI 0])]
noncomputable def g5_o0 : Obs := [(0, oC (r64 [4, 13])), (1, oC (r64 [1, 5])), (2, oC [vI 0, vS 0 0 0 2 1 none, vS 1 0 0 2 1 none]), (3, oC [vI 0]), (33, .cells [vI 1] 1 0 true)]
noncomputable def g5_e0 : Ent := ⟨10, [vS 2 0 0 1 3 none, vI 16, vS 3 0 0 1 1 none], g5_i0, 4, vS 33 1 0 1 1 (some 1), g5_o0, 42⟩
theorem g5_t0 : EntOk Tryz.prog g5_e0 := ent_of mixed Mz_base apOk (k := 300) (by kernel_rfl)
noncomputable def g5_i1 : Obs := [(0, oC (r64 [4, 13])), (1, oC (r64 [1, 5])), (2, oC [vI 0, vS 0 0 0 2 1 none, vS 1 0 0 2 1 none]), (3, oC [vI 0]), (33, .cells [vI 1] 1 0 true), (42, oC [vI 1])]
noncomputable def g5_o1 : Obs := [(0, oC (r64 [4, 13])), (1, oC (r64 [1, 5])), (2, oC [vI 0, vS 0 0 0 2 1 none, vS 1 0 0 2 1 none]), (3, oC [vI 0]), (33, .cells [vI 1] 1 0 true), (42, oC [vI 1]), (72, .cells [vI 1] 1 0 true)]
noncomputable def g5_e1 : Ent := ⟨10, [vS 2 0 0 1 3 none, vI 16, vS 42 0 0 1 1 none], g5_i1, 43, vS 72 1 0 1 1 (some 1), g5_o1, 80⟩
theorem g5_t1 : EntOk Tryz.prog g5_e1 := ent_of mixed Mz_base apOk (k := 300) (by kernel_rfl)
noncomputable def g5_i2 : Obs := [(0, oC (r64 [4, 13])), (1, oC (r64 [1, 5])), (2, oC [vI 0, vS 0 0 0 2 1 none, vS 1 0 0 2 1 none]), (3, oC [vI 0]), (33, .cells [vI 1] 1 0 true), (42, oC [vI 1]), (72, .cells [vI 1] 1 0 true), (80, oC [vI 1])]
noncomputable def g5_o2 : Obs := [(0, oC (r64 [4, 13])), (1, oC (r64 [1, 5])), (2, oC [vI 0, vS 0 0 0 2 1 none, vS 1 0 0 2 1 none]), (3, oC [vI 0]), (33, .cells [vI 1] 1 0 true), (42, oC [vI 1]), (72, .cells [vI 1] 1 0 true), (80, oC [vI 1])]
noncomputable def g5_e2 : Ent := ⟨11, [vS 33 1 0 1 1 (some 1), vS 80 0 0 1 1 none], g5_i2, 81, vB true, g5_o2, 81⟩
theorem g5_t2 : EntOk Tryz.prog g5_e2 := ent_of mixed Mz_base apOk (k := 300) (by kernel_rfl)
noncomputable def g5_i3 : Obs := [(0, oC (r64 [4, 13])), (1, oC (r64 [1, 5])), (2, oC [vI 0, vS 0 0 0 2 1 none, vS 1 0 0 2 1 none]), (3, oC [vI 0]), (33, .cells [vI 1] 1 0 true), (42, oC [vI 1]), (72, .cells [vI 1] 1 0 true), (80, oC [vI 1]), (81, oC [vI 1])]
noncomputable def g5_o3 : Obs := [(0, oC (r64 [4, 13])), (1, oC (r64 [1, 5])), (2, oC [vI 0, vS 0 0 0 2 1 none, vS 1 0 0 2 1 none]), (3, oC [vI 0]), (33, .cells [vI 1] 1 0 true), (42, oC [vI 1]), (72, .cells [vI 1] 1 0 true), (80, oC [vI 1]), (81, oC [vI 1])]
noncomputable def g5_e3 : Ent := ⟨11, [vS 72 1 0 1 1 (some 1), vS 81 0 0 1 1 none], g5_i3, 82, vB true, g5_o3, 82⟩
theorem g5_t3 : EntOk Tryz.prog g5_e3 := ent_of mixed Mz_base apOk (k := 300) (by kernel_rfl)
noncomputable def g5_i4 : Obs := [(0, oC (r64 [4, 13])), (1, oC (r64 [1, 5])), (2, oC [vI 0, vS 0 0 0 2 1 none, vS 1 0 0 2 1 none]), (3, oC [vI 0]), (33, .cells [vI 1] 1 0 true), (42, oC [vI 1]), (72, .cells [vI 1] 1 0 true), (80, oC [vI 1]), (81, oC [vI 1])]
noncomputable def g5_o4 : Obs := [(0, oC (r64 [4, 13])), (1, oC (r64 [1, 5])), (2, oC [vI 0, vS 0 0 0 2 1 none, vS 1 0 0 2 1 none]), (3, oC [vI 0]), (33, .cells [vI 1] 1 0 true), (42, oC [vI 1]), (72, .cells [vI 1] 1 0 true), (80, oC [vI 1]), (81, oC [vI 1])]
noncomputable def g5_e4 : Ent := ⟨12, [vS 2 0 0 1 3 none, vS 33 1 0 1 1 (some 1)], g5_i4, 82, vI 13, g5_o4, 83⟩
theorem g5_t4 : EntOk Tryz.prog g5_e4 := ent_of mixed Mz_base apOk (k := 300) (by kernel_rfl)
noncomputable def g5_c : Cal := callM [g5_e0, g5_e1, g5_e2, g5_e3, g5_e4] (evF XM AP 300)
theorem g5_ok : CallOk Tryz.prog g5_c := callM_ok baseM (List.forall_mem_cons.2 ⟨g5_t0, List.forall_mem_cons.2 ⟨g5_t1, List.forall_mem_cons.2 ⟨g5_t2, List.forall_mem_cons.2 ⟨g5_t3, List.forall_mem_cons.2 ⟨g5_t4, (fun _ h => nomatch h)⟩⟩⟩⟩⟩)
theorem g5_f0 : g5_c 10 [vS 2 0 0 1 3 none, vI 16, vS 3 0 0 1 1 none] ((((S0.alloc (.cells [.int .i64 4, .int .i64 13] 0 0 true)).alloc (.cells [.int .i64 1, .int .i64 5] 0 0 true)).alloc (.cells [.int .i64 0, .slice (some (0, 0, 0)) 2 1 none, .slice (some (1, 0, 0)) 2 1 none] 0 0 true)).alloc (.cells [.int .i64 0] 0 0 true)) = some (vS 33 1 0 1 1 (some 1), stOf g5_o0 42) := by kernel_rfl
theorem g5_f1 : g5_c 10 [vS 2 0 0 1 3 none, vI 16, vS 42 0 0 1 1 none] ((stOf g5_o0 42).alloc (.cells [.int .i64 1] 0 0 true)) = some (vS 72 1 0 1 1 (some 1), stOf g5_o1 80) := by kernel_rfl
theorem g5_f2 : g5_c 11 [vS 33 1 0 1 1 (some 1), vS 80 0 0 1 1 none] ((stOf g5_o1 80).alloc (.cells [.int .i64 1] 0 0 true)) = some (vB true, stOf g5_o2 81) := by kernel_rfl
theorem g5_f3 : g5_c 11 [vS 72 1 0 1 1 (some 1), vS 81 0 0 1 1 none] ((stOf g5_o2 81).alloc (.cells [.int .i64 1] 0 0 true)) = some (vB true, stOf g5_o3 82) := by kernel_rfl
theorem g5_f4 : g5_c 12 [vS 2 0 0 1 3 none, vS 33 1 0 1 1 (some 1)] (stOf g5_o3 82) = some (vI 13, stOf g5_o4 83) := by kernel_rfl
theorem g5_9 (n : Int) (S : St) : g5_c 9 [.int .i64 n, .int .i64 0, .int .i64 7] S = some (.int .i64 (n % 8), S) := rfl
theorem g5_13 (S : St) : g5_c 13 [] S = some (.bool true, S) := rfl
set_option maxHeartbeats 4000000 in
theorem g5 {n : Int} (h : n % 8 = 5) : EntryOk Tryz.prog 3 ∧ ∃ S2, Con Tryz.prog 3 [.int .i64 n] S0 (.bool true) S2 := by
  refine con_goes mixed g5_ok apOk (af := af3) rfl rfl (k := 300) ?_
  have w1 : IntKind.i64.wrap (8 + 5) = 13 := by decide
  simp -implicitDefEqProofs -dsimp (maxSteps := 10000000) only [af3, ↓goes_loop, ↓goes_seq, ↓goes_reg, ↓goes_dreg, ↓goes_preg, ↓goes_cond, ↓goes_block, ↓goes_skip, ↓goes_exit, ↓goes_ret, after_some, br_true, br_false, ↓then_normal, ↓then_exit, ↓then_ret, ↓blk_normal, ↓blk_exit, ↓blk_ret, ↓blk_other, ops_nil, ops_some, ops_none, oper_none, oper_some, gd_tt, gd_ff, gd_tf, gd_ft, gd_undef, ↓any_op, ↓any_call, ↓any_callV, ↓any_invoke, xo_t, xo_c, args_nil, args_cons, bin_add, bin_sub, bin_mul, bin_quo, bin_rem, bin_and, bin_or, bin_xor, bin_andNot, bin_eql, bin_neq, bin_lss, bin_leq, bin_gtr, bin_geq, bin_shl, bin_shr, bin_bools, bin_strs, bin_ptrs, bin_slices, bin_aggs, ↓Option.bind_some, ↓Option.map_some, ↓cond_true, ↓cond_false, evC, evOp, XO.lit, setArgs, Tr.tabG, Tr.tabS, Tr.tabL, Tr.get_lf, Option.bind_some, Option.map_some, cond_true, cond_false, maxI, maxFrom, minI, minFrom, aConv, aBinE, aEq, eqScal, aUn, evRes, fin, oneOf, if_true, if_false, callee, reduceCtorEq, Nat.reduceEqDiff, and_self, decide_true, decide_false, beq_true, beq_false, Bool.not_true, Bool.not_false, List.getElem?_cons_zero, List.getElem?_cons_succ, beq_self_eq_true, gt_iff_lt, ble_dec, beq_dec, List.head?_cons, AV.undef, eq_self, ne_eq, not_true_eq_false, not_false_eq_true, Int.reduceLT, Int.reduceLE, Int.reduceToNat, Int.reduceEq, Int.reduceNeg, Nat.reduceAdd, Nat.reduceLT, Nat.reduceLeDiff, Nat.reduceMul, Nat.reduceSub, AV.cells, AV.tup, Bool.true_and, true_and, and_true, List.drop_nil, List.append_nil, rd_put, rd_alloc, rdO, St.get_put, St.get_alloc, St.next_put, St.next_alloc, St.wr, Bool.and_self, Bool.and_true, List.length_cons, List.length_nil, List.take_succ_cons, List.take_zero, List.drop_succ_cons, List.drop_zero, List.cons_append, List.nil_append, Nat.zero_add, Nat.add_zero, Nat.reduceMul, aFill, evParts, rep, List.replicate_succ, List.replicate_zero, List.flatten_cons, List.flatten_nil, List.append_nil, newSl, newVar, S0n, stn, g5_9, g5_13, h, w1, g5_f0, g5_f1, g5_f2, g5_f3, g5_f4, vI, vB, vS]
  exact ⟨_, _, rfl, rfl⟩
noncomputable def g6_i0 : Obs := [(0, oC (r64 [4, 14])), (1, oC (r64 [1, 5])), (2, oC [vI 0, vS 0 0 0 2 1 none, vS 1 0 0 2 1 none]), (3, oC [vI 0])]
noncomputable def g6_o0 : Obs := [(0, oC (r64 [4, 14])), (1, oC (r64 [1, 5])), (2, oC [vI 0, vS 0 0 0 2 1 none, vS 1 0 0 2 1 none]), (3, oC [vI 0]), (33, .cells [vI 1] 1 0 true)]
noncomputable def g6_e0 : Ent := ⟨10, [vS 2 0 0 1 3 none, vI 16, vS 3 0 0 1 1 none], g6_i0, 4, vS 33 1 0 1 1 (some 1), g6_o0, 42⟩
theorem g6_t0 : EntOk Tryz.prog g6_e0 := ent_of mixed Mz_base apOk (k := 300) (by kernel_rfl)
noncomputable def g6_i1 : Obs := [(0, oC (r64 [4, 14])), (1, oC (r64 [1, 5])), (2, oC [vI 0, vS 0 0 0 2 1 none, vS 1 0 0 2 1 none]), (3, oC [vI 0]), (33, .cells [vI 1] 1 0 true), (42, oC [vI 1])]
noncomputable def g6_o1 : Obs := [(0, oC (r64 [4, 14])), (1, oC (r64 [1, 5])), (2, oC [vI 0, vS 0 0 0 2 1 none, vS 1 0 0 2 1 none]), (3, oC [vI 0]), (33, .cells [vI 1] 1 0 true), (42, oC [vI 1]), (72, .cells [vI 1] 1 0 true)]
noncomputable def g6_e1 : Ent := ⟨10, [vS 2 0 0 1 3 none, vI 16, vS 42 0 0 1 1 none], g6_i1, 43, vS 72 1 0 1 1 (some 1), g6_o1, 80⟩
theorem g6_t1 : EntOk Tryz.prog g6_e1 := ent_of mixed Mz_base apOk (k := 300) (by kernel_rfl)
noncomputable def g6_i2 : Obs := [(0, oC (r64 [4, 14])), (1, oC (r64 [1, 5])), (2, oC [vI 0, vS 0 0 0 2 1 none, vS 1 0 0 2 1 none]), (3, oC [vI 0]), (33, .cells [vI 1] 1 0 true), (42, oC [vI 1]), (72, .cells [vI 1] 1 0 true), (80, oC [vI 1])]
noncomputable def g6_o2 : Obs := [(0, oC (r64 [4, 14])), (1, oC (r64 [1, 5])), (2, oC [vI 0, vS 0 0 0 2 1 none, vS 1 0 0 2 1 none]), (3, oC [vI 0]), (33, .cells [vI 1] 1 0 true), (42, oC [vI 1]), (72, .cells [vI 1] 1 0 true), (80, oC [vI 1])]
noncomputable def g6_e2 : Ent := ⟨11, [vS 33 1 0 1 1 (some 1), vS 80 0 0 1 1 none], g6_i2, 81, vB true, g6_o2, 81⟩
theorem g6_t2 : EntOk Tryz.prog g6_e2 := ent_of mixed Mz_base apOk (k := 300) (by kernel_rfl)
noncomputable def g6_i3 : Obs := [(0, oC (r64 [4, 14])), (1, oC (r64 [1, 5])), (2, oC [vI 0, vS 0 0 0 2 1 none, vS 1 0 0 2 1 none]), (3, oC [vI 0]), (33, .cells [vI 1] 1 0 true), (42, oC [vI 1]), (72, .cells [vI 1] 1 0 true), (80, oC [vI 1]), (81, oC [vI 1])]
noncomputable def g6_o3 : Obs := [(0, oC (r64 [4, 14])), (1, oC (r64 [1, 5])), (2, oC [vI 0, vS 0 0 0 2 1 none, vS 1 0 0 2 1 none]), (3, oC [vI 0]), (33, .cells [vI 1] 1 0 true), (42, oC [vI 1]), (72, .cells [vI 1] 1 0 true), (80, oC [vI 1]), (81, oC [vI 1])]
noncomputable def g6_e3 : Ent := ⟨11, [vS 72 1 0 1 1 (some 1), vS 81 0 0 1 1 none], g6_i3, 82, vB true, g6_o3, 82⟩
theorem g6_t3 : EntOk Tryz.prog g6_e3 := ent_of mixed Mz_base apOk (k := 300) (by kernel_rfl)
noncomputable def g6_i4 : Obs := [(0, oC (r64 [4, 14])), (1, oC (r64 [1, 5])), (2, oC [vI 0, vS 0 0 0 2 1 none, vS 1 0 0 2 1 none]), (3, oC [vI 0]), (33, .cells [vI 1] 1 0 true), (42, oC [vI 1]), (72, .cells [vI 1] 1 0 true), (80, oC [vI 1]), (81, oC [vI 1])]
noncomputable def g6_o4 : Obs := [(0, oC (r64 [4, 14])), (1, oC (r64 [1, 5])), (2, oC [vI 0, vS 0 0 0 2 1 none, vS 1 0 0 2 1 none]), (3, oC [vI 0]), (33, .cells [vI 1] 1 0 true), (42, oC [vI 1]), (72, .cells [vI 1] 1 0 true), (80, oC [vI 1]), (81, oC [vI 1])]
noncomputable def g6_e4 : Ent := ⟨12, [vS 2 0 0 1 3 none, vS 33 1 0 1 1 (some 1)], g6_i4, 82, vI 14, g6_o4, 83⟩
theorem g6_t4 : EntOk Tryz.prog g6_e4 := ent_of mixed Mz_base apOk (k := 300) (by kernel_rfl)
noncomputable def g6_c : Cal := callM [g6_e0, g6_e1, g6_e2, g6_e3, g6_e4] (evF XM AP 300)
theorem g6_ok : CallOk Tryz.prog g6_c := callM_ok baseM (List.forall_mem_cons.2 ⟨g6_t0, List.forall_mem_cons.2 ⟨g6_t1, List.forall_mem_cons.2 ⟨g6_t2, List.forall_mem_cons.2 ⟨g6_t3, List.forall_mem_cons.2 ⟨g6_t4, (fun _ h => nomatch h)⟩⟩⟩⟩⟩)
theorem g6_f0 : g6_c 10 [vS 2 0 0 1 3 none, vI 16, vS 3 0 0 1 1 none] ((((S0.alloc (.cells [.int .i64 4, .int .i64 14] 0 0 true)).alloc (.cells [.int .i64 1, .int .i64 5] 0 0 true)).alloc (.cells [.int .i64 0, .slice (some (0, 0, 0)) 2 1 none, .slice (some (1, 0, 0)) 2 1 none] 0 0 true)).alloc (.cells [.int .i64 0] 0 0 true)) = some (vS 33 1 0 1 1 (some 1), stOf g6_o0 42) := by kernel_rfl
theorem g6_f1 : g6_c 10 [vS 2 0 0 1 3 none, vI 16, vS 42 0 0 1 1 none] ((stOf g6_o0 42).alloc (.cells [.int .i64 1] 0 0 true)) = some (vS 72 1 0 1 1 (some 1), stOf g6_o1 80) := by kernel_rfl
theorem g6_f2 : g6_c 11 [vS 33 1 0 1 1 (some 1), vS 80 0 0 1 1 none] ((stOf g6_o1 80).alloc (.cells [.int .i64 1] 0 0 true)) = some (vB true, stOf g6_o2 81) := by kernel_rfl
theorem g6_f3 : g6_c 11 [vS 72 1 0 1 1 (some 1), vS 81 0 0 1 1 none] ((stOf g6_o2 81).alloc (.cells [.int .i64 1] 0 0 true)) = some (vB true, stOf g6_o3 82) := by kernel_rfl
theorem g6_f4 : g6_c 12 [vS 2 0 0 1 3 none, vS 33 1 0 1 1 (some 1)] (stOf g6_o3 82) = some (vI 14, stOf g6_o4 83) := by kernel_rfl
theorem g6_9 (n : Int) (S : St) : g6_c 9 [.int .i64 n, .int .i64 0, .int .i64 7] S = some (.int .i64 (n % 8), S) := rfl
theorem g6_13 (S : St) : g6_c 13 [] S = some (.bool true, S) := rfl
set_option maxHeartbeats 4000000 in
theorem g6 {n : Int} (h : n % 8 = 6) : EntryOk Tryz.prog 3 ∧ ∃ S2, Con Tryz.prog 3 [.int .i64 n] S0 (.bool true) S2 := by
  refine con_goes mixed g6_ok apOk (af := af3) rfl rfl (k := 300) ?_
  have w1 : IntKind.i64.wrap (8 + 6) = 14 := by decide
  simp -implicitDefEqProofs -dsimp (maxSteps := 10000000) only [af3, ↓goes_loop, ↓goes_seq, ↓goes_reg, ↓goes_dreg, ↓goes_preg, ↓goes_cond, ↓goes_block, ↓goes_skip, ↓goes_exit, ↓goes_ret, after_some, br_true, br_false, ↓then_normal, ↓then_exit, ↓then_ret, ↓blk_normal, ↓blk_exit, ↓blk_ret, ↓blk_other, ops_nil, ops_some, ops_none, oper_none, oper_some, gd_tt, gd_ff, gd_tf, gd_ft, gd_undef, ↓any_op, ↓any_call, ↓any_callV, ↓any_invoke, xo_t, xo_c, args_nil, args_cons, bin_add, bin_sub, bin_mul, bin_quo, bin_rem, bin_and, bin_or, bin_xor, bin_andNot, bin_eql, bin_neq, bin_lss, bin_leq, bin_gtr, bin_geq, bin_shl, bin_shr, bin_bools, bin_strs, bin_ptrs, bin_slices, bin_aggs, ↓Option.bind_some, ↓Option.map_some, ↓cond_true, ↓cond_false, evC, evOp, XO.lit, setArgs, Tr.tabG, Tr.tabS, Tr.tabL, Tr.get_lf, Option.bind_some, Option.map_some, cond_true, cond_false, maxI, maxFrom, minI, minFrom, aConv, aBinE, aEq, eqScal, aUn, evRes, fin, oneOf, if_true, if_false, callee, reduceCtorEq, Nat.reduceEqDiff, and_self, decide_true, decide_false, beq_true, beq_false, Bool.not_true, Bool.not_false, List.getElem?_cons_zero, List.getElem?_cons_succ, beq_self_eq_true, gt_iff_lt, ble_dec, beq_dec, List.head?_cons, AV.undef, eq_self, ne_eq, not_true_eq_false, not_false_eq_true, Int.reduceLT, Int.reduceLE, Int.reduceToNat, Int.reduceEq, Int.reduceNeg, Nat.reduceAdd, Nat.reduceLT, Nat.reduceLeDiff, Nat.reduceMul, Nat.reduceSub, AV.cells, AV.tup, Bool.true_and, true_and, and_true, List.drop_nil, List.append_nil, rd_put, rd_alloc, rdO, St.get_put, St.get_alloc, St.next_put, St.next_alloc, St.wr, Bool.and_self, Bool.and_true, List.length_cons, List.length_nil, List.take_succ_cons, List.take_zero, List.drop_succ_cons, List.drop_zero, List.cons_append, List.nil_append, Nat.zero_add, Nat.add_zero, Nat.reduceMul, aFill, evParts, rep, List.replicate_succ, List.replicate_zero, List.flatten_cons, List.flatten_nil, List.append_nil, newSl, newVar, S0n, stn, g6_9, g6_13, h, w1, g6_f0, g6_f1, g6_f2, g6_f3, g6_f4, vI, vB, vS]
  exact ⟨_, _, rfl, rfl⟩
noncomputable def g7_i0 : Obs := [(0, oC (r64 [4, 15])), (1, oC (r64 [1, 5])), (2, oC [vI 0, vS 0 0 0 2 1 none, vS 1 0 0 2 1 none]), (3, oC [vI 0])]
noncomputable def g7_o0 : Obs := [(0, oC (r64 [4, 15])), (1, oC (r64 [1, 5])), (2, oC [vI 0, vS 0 0 0 2 1 none, vS 1 0 0 2 1 none]), (3, oC [vI 0]), (42, .cells [vI 0] 1 0 true)]
noncomputable def g7_e0 : Ent := ⟨10, [vS 2 0 0 1 3 none, vI 16, vS 3 0 0 1 1 none], g7_i0, 4, vS 42 1 0 1 1 none, g7_o0, 43⟩
theorem g7_t0 : EntOk Tryz.prog g7_e0 := ent_of mixed Mz_base apOk (k := 300) (by kernel_rfl)
noncomputable def g7_i1 : Obs := [(0, oC (r64 [4, 15])), (1, oC (r64 [1, 5])), (2, oC [vI 0, vS 0 0 0 2 1 none, vS 1 0 0 2 1 none]), (3, oC [vI 0]), (42, .cells [vI 0] 1 0 true), (43, oC [vI 1])]
noncomputable def g7_o1 : Obs := [(0, oC (r64 [4, 15])), (1, oC (r64 [1, 5])), (2, oC [vI 0, vS 0 0 0 2 1 none, vS 1 0 0 2 1 none]), (3, oC [vI 0]), (42, .cells [vI 0] 1 0 true), (43, oC [vI 1]), (73, .cells [vI 1] 1 0 true)]
noncomputable def g7_e1 : Ent := ⟨10, [vS 2 0 0 1 3 none, vI 16, vS 43 0 0 1 1 none], g7_i1, 44, vS 73 1 0 1 1 (some 1), g7_o1, 81⟩
theorem g7_t1 : EntOk Tryz.prog g7_e1 := ent_of mixed Mz_base apOk (k := 300) (by kernel_rfl)
noncomputable def g7_i2 : Obs := [(0, oC (r64 [4, 15])), (1, oC (r64 [1, 5])), (2, oC [vI 0, vS 0 0 0 2 1 none, vS 1 0 0 2 1 none]), (3, oC [vI 0]), (42, .cells [vI 0] 1 0 true), (43, oC [vI 1]), (73, .cells [vI 1] 1 0 true), (81, oC [vI 1]), (82, oC [vI 0])]
noncomputable def g7_o2 : Obs := [(0, oC (r64 [4, 15])), (1, oC (r64 [1, 5])), (2, oC [vI 0, vS 0 0 0 2 1 none, vS 1 0 0 2 1 none]), (3, oC [vI 0]), (42, .cells [vI 0] 1 0 true), (43, oC [vI 1]), (73, .cells [vI 1] 1 0 true), (81, oC [vI 1]), (82, oC [vI 0])]
noncomputable def g7_e2 : Ent := ⟨11, [vS 42 1 0 1 1 none, vS 82 0 0 1 1 none], g7_i2, 83, vB true, g7_o2, 83⟩
theorem g7_t2 : EntOk Tryz.prog g7_e2 := ent_of mixed Mz_base apOk (k := 300) (by kernel_rfl)
noncomputable def g7_i3 : Obs := [(0, oC (r64 [4, 15])), (1, oC (r64 [1, 5])), (2, oC [vI 0, vS 0 0 0 2 1 none, vS 1 0 0 2 1 none]), (3, oC [vI 0]), (42, .cells [vI 0] 1 0 true), (43, oC [vI 1]), (73, .cells [vI 1] 1 0 true), (81, oC [vI 1]), (82, oC [vI 0]), (83, oC [vI 1])]
noncomputable def g7_o3 : Obs := [(0, oC (r64 [4, 15])), (1, oC (r64 [1, 5])), (2, oC [vI 0, vS 0 0 0 2 1 none, vS 1 0 0 2 1 none]), (3, oC [vI 0]), (42, .cells [vI 0] 1 0 true), (43, oC [vI 1]), (73, .cells [vI 1] 1 0 true), (81, oC [vI 1]), (82, oC [vI 0]), (83, oC [vI 1])]
noncomputable def g7_e3 : Ent := ⟨11, [vS 73 1 0 1 1 (some 1), vS 83 0 0 1 1 none], g7_i3, 84, vB true, g7_o3, 84⟩
theorem g7_t3 : EntOk Tryz.prog g7_e3 := ent_of mixed Mz_base apOk (k := 300) (by kernel_rfl)
noncomputable def g7_i4 : Obs := [(0, oC (r64 [4, 15])), (1, oC (r64 [1, 5])), (2, oC [vI 0, vS 0 0 0 2 1 none, vS 1 0 0 2 1 none]), (3, oC [vI 0]), (42, .cells [vI 0] 1 0 true), (43, oC [vI 1]), (73, .cells [vI 1] 1 0 true), (81, oC [vI 1]), (82, oC [vI 0]), (83, oC [vI 1])]
noncomputable def g7_o4 : Obs := [(0, oC (r64 [4, 15])), (1, oC (r64 [1, 5])), (2, oC [vI 0, vS 0 0 0 2 1 none, vS 1 0 0 2 1 none]), (3, oC [vI 0]), (42, .cells [vI 0] 1 0 true), (43, oC [vI 1]), (73, .cells [vI 1] 1 0 true), (81, oC [vI 1]), (82, oC [vI 0]), (83, oC [vI 1])]
noncomputable def g7_e4 : Ent := ⟨12, [vS 2 0 0 1 3 none, vS 42 1 0 1 1 none], g7_i4, 84, vI 4, g7_o4, 85⟩
theorem g7_t4 : EntOk Tryz.prog g7_e4 := ent_of mixed Mz_base apOk (k := 300) (by kernel_rfl)
noncomputable def g7_c : Cal := callM [g7_e0, g7_e1, g7_e2, g7_e3, g7_e4] (evF XM AP 300)
theorem g7_ok : CallOk Tryz.prog g7_c := callM_ok baseM (List.forall_mem_cons.2 ⟨g7_t0, List.forall_mem_cons.2 ⟨g7_t1, List.forall_mem_cons.2 ⟨g7_t2, List.forall_mem_cons.2 ⟨g7_t3, List.forall_mem_cons.2 ⟨g7_t4, (fun _ h => nomatch h)⟩⟩⟩⟩⟩)
theorem g7_f0 : g7_c 10 [vS 2 0 0 1 3 none, vI 16, vS 3 0 0 1 1 none] ((((S0.alloc (.cells [.int .i64 4, .int .i64 15] 0 0 true)).alloc (.cells [.int .i64 1, .int .i64 5] 0 0 true)).alloc (.cells [.int .i64 0, .slice (some (0, 0, 0)) 2 1 none, .slice (some (1, 0, 0)) 2 1 none] 0 0 true)).alloc (.cells [.int .i64 0] 0 0 true)) = some (vS 42 1 0 1 1 none, stOf g7_o0 43) := by kernel_rfl
theorem g7_f1 : g7_c 10 [vS 2 0 0 1 3 none, vI 16, vS 43 0 0 1 1 none] ((stOf g7_o0 43).alloc (.cells [.int .i64 1] 0 0 true)) = some (vS 73 1 0 1 1 (some 1), stOf g7_o1 81) := by kernel_rfl
theorem g7_f2 : g7_c 11 [vS 42 1 0 1 1 none, vS 82 0 0 1 1 none] (((stOf g7_o1 81).alloc (.cells [.int .i64 1] 0 0 true)).alloc (.cells [.int .i64 0] 0 0 true)) = some (vB true, stOf g7_o2 83) := by kernel_rfl
theorem g7_f3 : g7_c 11 [vS 73 1 0 1 1 (some 1), vS 83 0 0 1 1 none] ((stOf g7_o2 83).alloc (.cells [.int .i64 1] 0 0 true)) = some (vB true, stOf g7_o3 84) := by kernel_rfl
theorem g7_f4 : g7_c 12 [vS 2 0 0 1 3 none, vS 42 1 0 1 1 none] (stOf g7_o3 84) = some (vI 4, stOf g7_o4 85) := by kernel_rfl
theorem g7_9 (n : Int) (S : St) : g7_c 9 [.int .i64 n, .int .i64 0, .int .i64 7] S = some (.int .i64 (n % 8), S) := rfl
theorem g7_13 (S : St) : g7_c 13 [] S = some (.bool true, S) := rfl
set_option maxHeartbeats 4000000 in
theorem g7 {n : Int} (h : n % 8 = 7) : EntryOk Tryz.prog 3 ∧ ∃ S2, Con Tryz.prog 3 [.int .i64 n] S0 (.bool true) S2 := by
  refine con_goes mixed g7_ok apOk (af := af3) rfl rfl (k := 300) ?_
  have w1 : IntKind.i64.wrap (8 + 7) = 15 := by decide
  simp -implicitDefEqProofs -dsimp (maxSteps := 10000000) only [af3, ↓goes_loop, ↓goes_seq, ↓goes_reg, ↓goes_dreg, ↓goes_preg, ↓goes_cond, ↓goes_block, ↓goes_skip, ↓goes_exit, ↓goes_ret, after_some, br_true, br_false, ↓then_normal, ↓then_exit, ↓then_ret, ↓blk_normal, ↓blk_exit, ↓blk_ret, ↓blk_other, ops_nil, ops_some, ops_none, oper_none, oper_some, gd_tt, gd_ff, gd_tf, gd_ft, gd_undef, ↓any_op, ↓any_call, ↓any_callV, ↓any_invoke, xo_t, xo_c, args_nil, args_cons, bin_add, bin_sub, bin_mul, bin_quo, bin_rem, bin_and, bin_or, bin_xor, bin_andNot, bin_eql, bin_neq, bin_lss, bin_leq, bin_gtr, bin_geq, bin_shl, bin_shr, bin_bools, bin_strs, bin_ptrs, bin_slices, bin_aggs, ↓Option.bind_some, ↓Option.map_some, ↓cond_true, ↓cond_false, evC, evOp, XO.lit, setArgs, Tr.tabG, Tr.tabS, Tr.tabL, Tr.get_lf, Option.bind_some, Option.map_some, cond_true, cond_false, maxI, maxFrom, minI, minFrom, aConv, aBinE, aEq, eqScal, aUn, evRes, fin, oneOf, if_true, if_false, callee, reduceCtorEq, Nat.reduceEqDiff, and_self, decide_true, decide_false, beq_true, beq_false, Bool.not_true, Bool.not_false, List.getElem?_cons_zero, List.getElem?_cons_succ, beq_self_eq_true, gt_iff_lt, ble_dec, beq_dec, List.head?_cons, AV.undef, eq_self, ne_eq, not_true_eq_false, not_false_eq_true, Int.reduceLT, Int.reduceLE, Int.reduceToNat, Int.reduceEq, Int.reduceNeg, Nat.reduceAdd, Nat.reduceLT, Nat.reduceLeDiff, Nat.reduceMul, Nat.reduceSub, AV.cells, AV.tup, Bool.true_and, true_and, and_true, List.drop_nil, List.append_nil, rd_put, rd_alloc, rdO, St.get_put, St.get_alloc, St.next_put, St.next_alloc, St.wr, Bool.and_self, Bool.and_true, List.length_cons, List.length_nil, List.take_succ_cons, List.take_zero, List.drop_succ_cons, List.drop_zero, List.cons_append, List.nil_append, Nat.zero_add, Nat.add_zero, Nat.reduceMul, aFill, evParts, rep, List.replicate_succ, List.replicate_zero, List.flatten_cons, List.flatten_nil, List.append_nil, newSl, newVar, S0n, stn, g7_9, g7_13, h, w1, g7_f0, g7_f1, g7_f2, g7_f3, g7_f4, vI, vB, vS]
  exact ⟨_, _, rfl, rfl⟩
theorem marg {n : Int} : EntryOk Tryz.prog 3 ∧ ∃ S2, Con Tryz.prog 3 [.int .i64 n] S0 (.bool true) S2 := by
  rcases (show n % 8 = 0 ∨ n % 8 = 1 ∨ n % 8 = 2 ∨ n % 8 = 3 ∨ n % 8 = 4 ∨ n % 8 = 5 ∨ n % 8 = 6 ∨ n % 8 = 7 by omega) with h | h | h | h | h | h | h | h
  · exact g0 h
  · exact g1 h
  · exact g2 h
  · exact g3 h
  · exact g4 h
  · exact g5 h
  · exact g6 h
  · exact g7 h
def XG : Nat → List AV → Option AV := addX X0 3 (sN1 .i64 fun _ => .bool true)
theorem okG : XOk Tryz.prog XG := by
  intro f args v h
  unfold XG addX at h
  by_cases hf : f = 3
  · rw [if_pos hf] at h
    subst hf
    unfold sN1 at h
    split at h
    · split at h
      · rename_i j a hj
        subst hj
        cases h
        obtain ⟨h1, S2, h2⟩ := marg (n := a)
        exact ⟨h1, con_pure rfl rfl h2⟩
      · cases h
    · cases h
  · rw [if_neg hf] at h; cases h
theorem law3 {n : Int} (_ : (Lit.int .i64 n).wf = true) : ∃ S', evF XG AP (0 + 1) 3 [.int .i64 n] S0 = some (.bool true, S') := ⟨S0, rfl⟩
end Go.Proofs.YtjfbdiomcljbeaaGreatA
