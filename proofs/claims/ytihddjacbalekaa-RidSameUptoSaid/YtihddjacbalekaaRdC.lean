/- Chapter 2: names are judged, folded, cut as the document says. -/
import Derived.Test.YtihddjacbalekaaRdB
set_option linter.unusedVariables false
set_option linter.unusedSimpArgs false
set_option maxRecDepth 10000
namespace Go.Proofs.YtihddjacbalekaaA
open Go.RowKit
attribute [local congr] bind_congr1 map_congr1 cond_congr1 withX_congr after_congr br_congr gd_congr

theorem eqStr_refl : ∀ l : List Nat, eqStr l l = true
  | [] => rfl
  | a :: l => by simp only [eqStr, Nat.beq_refl, Bool.true_and, eqStr_refl l]
def sSI (F : List Nat → Int → AV) : List AV → Option AV
  | [.str s, .int .i64 n] => if s.length ≤ 2000000 then some (F s n) else none
  | _ => none
def sSS (F : List Nat → List Nat → AV) : List AV → Option AV
  | [.str s, .str t] => if s.length ≤ 2000000 ∧ t.length ≤ 2000000 then some (F s t) else none
  | _ => none
def sSSI (F : List Nat → List Nat → Int → AV) : List AV → Option AV
  | [.str s, .str t, .int .i64 n] => if s.length ≤ 2000000 ∧ t.length ≤ 2000000 then some (F s t n) else none
  | _ => none
theorem addX_SI {X : Nat → List AV → Option AV} (hX : XOk Try.prog X) {g : Nat} {F : List Nat → Int → AV} (hg : EntryOk Try.prog g) (hv : ∀ s n, (F s n).pure = true) (he : ∀ s n, s.length ≤ 2000000 → ∃ k S', evF X AP k g [.str s, .int .i64 n] S0 = some (F s n, S')) : XOk Try.prog (addX X g (sSI F)) := by
  refine addX_ok mixed hX apOk hg fun args v h => ?_
  match args, h with
  | [.str s, .int .i64 n], h =>
    replace h : (if s.length ≤ 2000000 then some (F s n) else none) = some v := h
    by_cases hs : s.length ≤ 2000000
    · rw [if_pos hs] at h
      cases h
      exact ⟨rfl, hv s n, fun _ => he s n hs⟩
    · rw [if_neg hs] at h; cases h
theorem addX_SS {X : Nat → List AV → Option AV} (hX : XOk Try.prog X) {g : Nat} {F : List Nat → List Nat → AV} (hg : EntryOk Try.prog g) (hv : ∀ s n, (F s n).pure = true) (he : ∀ s t, s.length ≤ 2000000 → t.length ≤ 2000000 → ∃ k S', evF X AP k g [.str s, .str t] S0 = some (F s t, S')) : XOk Try.prog (addX X g (sSS F)) := by
  refine addX_ok mixed hX apOk hg fun args v h => ?_
  match args, h with
  | [.str s, .str t], h =>
    replace h : (if s.length ≤ 2000000 ∧ t.length ≤ 2000000 then some (F s t) else none) = some v := h
    by_cases hs : s.length ≤ 2000000 ∧ t.length ≤ 2000000
    · rw [if_pos hs] at h
      cases h
      exact ⟨rfl, hv s t, fun _ => he s t hs.1 hs.2⟩
    · rw [if_neg hs] at h; cases h
theorem addX_SSI {X : Nat → List AV → Option AV} (hX : XOk Try.prog X) {g : Nat} {F : List Nat → List Nat → Int → AV} (hg : EntryOk Try.prog g) (hv : ∀ s t n, (F s t n).pure = true) (he : ∀ s t n, s.length ≤ 2000000 → t.length ≤ 2000000 → ∃ k S', evF X AP k g [.str s, .str t, .int .i64 n] S0 = some (F s t n, S')) : XOk Try.prog (addX X g (sSSI F)) := by
  refine addX_ok mixed hX apOk hg fun args v h => ?_
  match args, h with
  | [.str s, .str t, .int .i64 n], h =>
    replace h : (if s.length ≤ 2000000 ∧ t.length ≤ 2000000 then some (F s t n) else none) = some v := h
    by_cases hs : s.length ≤ 2000000 ∧ t.length ≤ 2000000
    · rw [if_pos hs] at h
      cases h
      exact ⟨rfl, hv s t n, fun _ => he s t n hs.1 hs.2⟩
    · rw [if_neg hs] at h; cases h
def X4 := addX X3 11 (sS1 fun s => .int .i64 (count s))
def X5 := addX X4 12 (sS1 fun s => .bool (right s))
def X6 := addX X5 15 (sS1 fun s => .bool (right s))
def X7 := addX X6 10 (sS1 fun s => .str (fold s))
def X8 := addX X7 16 (sS1 fun s => .str (fold s))
def X9 := addX X8 9 (sSI fun s n => .str (short s n))
def X10 := addX X9 17 (sSI fun s n => .str (short s n))
def X11 := addX X10 13 (sSS fun s t => .bool (eqStr (fold s) (fold t)))
def X12 := addX X11 8 (sN0 (.bool true))
theorem ok4 : XOk Try.prog X4 := addX_any ok3 (X0_ok _) (addX_S1 (X0_ok _) (entry_of apOk (af := af11) rfl) (fun _ => rfl) fun s hs => ⟨_, ev11 0 hs⟩)
theorem ok5 : XOk Try.prog X5 := addX_any ok4 ok3 (addX_S1 ok3 (entry_of apOk (af := af12) rfl) (fun _ => rfl) fun s hs => ⟨_, ev12 0 hs⟩)
theorem ok6 : XOk Try.prog X6 := addX_any ok5 ok3 (addX_S1 ok3 (entry_of apOk (af := af15) rfl) (fun _ => rfl) fun s hs => ⟨_, ev15 0 hs⟩)
theorem ok7 : XOk Try.prog X7 := addX_any ok6 (X0_ok _) (addX_S1 (X0_ok _) (entry_of apOk (af := af10) rfl) (fun _ => rfl) fun s hs => ⟨_, ev10 0 hs⟩)
theorem ok8 : XOk Try.prog X8 := addX_any ok7 (X0_ok _) (addX_S1 (X0_ok _) (entry_of apOk (af := af16) rfl) (fun _ => rfl) fun s hs => ⟨_, ev16 0 hs⟩)
theorem ok9 : XOk Try.prog X9 := addX_any ok8 (X0_ok _) (addX_SI (X0_ok _) (entry_of apOk (af := af9) rfl) (fun _ _ => rfl) fun s n hs => ⟨_, ev9 0 hs n⟩)
theorem ok10 : XOk Try.prog X10 := addX_any ok9 (X0_ok _) (addX_SI (X0_ok _) (entry_of apOk (af := af17) rfl) (fun _ _ => rfl) fun s n hs => ⟨_, ev17 0 hs n⟩)
theorem ev13 {s t : List Nat} (hs : s.length ≤ 2000000) (ht : t.length ≤ 2000000) : ∃ S', evF X10 AP 3 13 [.str s, .str t] S0 = some (.bool (eqStr (fold s) (fold t)), S') := by
  rw [evF_body (af := af13) rfl rfl rfl]
  have e1 : ∀ S, evF X10 AP 2 10 [.str s] S = some (.str (fold s), S) := fun S => evF_known (if_pos hs)
  have e2 : ∀ S, evF X10 AP 2 10 [.str t] S = some (.str (fold t), S) := fun S => evF_known (if_pos ht)
  refine ⟨_, by
    simp -implicitDefEqProofs -dsimp (maxSteps := 10000000) only [af13, ops_nil, ops_some, ops_none, oper_none, oper_some, gd_tt, gd_ff, gd_tf, gd_ft, gd_undef, ↓any_op, ↓any_call, ↓any_callV, ↓any_invoke, xo_t, xo_c, args_nil, args_cons, bin_add, bin_sub, bin_mul, bin_quo, bin_rem, bin_and, bin_or, bin_xor, bin_andNot, bin_eql, bin_neq, bin_lss, bin_leq, bin_gtr, bin_geq, bin_shl, bin_shr, bin_bools, bin_strs, bin_ptrs, bin_slices, bin_aggs, ↓Option.bind_some, ↓Option.map_some, ↓cond_true, ↓cond_false, evC, evOp, XO.lit, setArgs, Tr.tabG, Tr.tabS, Tr.tabL, Tr.get_lf, Option.bind_some, Option.map_some, cond_true, cond_false, maxI, maxFrom, minI, minFrom, aConv, aBinE, aEq, eqScal, aUn, evRes, fin, oneOf, if_true, if_false, callee, reduceCtorEq, Nat.reduceEqDiff, and_self, decide_true, decide_false, beq_true, beq_false, Bool.not_true, Bool.not_false, List.getElem?_cons_zero, List.getElem?_cons_succ, beq_self_eq_true, gt_iff_lt, ble_dec, beq_dec, List.head?_cons, AV.undef, eq_self, ne_eq, not_true_eq_false, not_false_eq_true, Int.reduceLT, Int.reduceLE, Int.reduceToNat, Int.reduceEq, Int.reduceNeg, Nat.reduceAdd, Nat.reduceLT, Nat.reduceLeDiff, Nat.reduceMul, Nat.reduceSub, AV.cells, AV.tup, Bool.true_and, true_and, and_true, List.drop_nil, List.append_nil, rd_put, rd_alloc, rdO, St.get_put, St.get_alloc, St.next_put, St.next_alloc, St.wr, Bool.and_self, Bool.and_true, List.length_cons, List.length_nil, List.take_succ_cons, List.take_zero, List.drop_succ_cons, List.drop_zero, List.cons_append, List.nil_append, Nat.zero_add, Nat.add_zero, Nat.reduceMul, e1, e2, aStr]
    exact rfl⟩
theorem ok11 : XOk Try.prog X11 := addX_SS ok10 (entry_of apOk (af := af13) rfl) (fun _ _ => rfl) fun s t hs ht => ⟨_, ev13 hs ht⟩
theorem ev8 : ∃ S', evF X0 AP 40 8 [] S0 = some (.bool true, S') := by
  have h : (evF X0 AP 40 8 [] S0).map Prod.fst = some (.bool true) := by kernel_rfl
  rw [Option.map_eq_some_iff] at h
  obtain ⟨⟨v, S'⟩, h1, h2⟩ := h
  exact ⟨S', by rw [h1]; cases h2; rfl⟩
theorem ok12 : XOk Try.prog X12 := addX_any ok11 (X0_ok _) (addX_N0 (P := Try.prog) mixed (X0_ok _) apOk (entry_of apOk (af := af8) rfl) rfl ⟨40, ev8⟩)
theorem ev7 {s t : List Nat} (m : Int) (hs : s.length ≤ 2000000) (ht : t.length ≤ 2000000) : ∃ S', evF X12 AP 3 7 [.str s, .str t, .int .i64 m] S0 = some (.bool true, S') := by
  rw [evF_body (af := af7) rfl rfl rfl]
  have e1 : ∀ S, evF X12 AP 2 11 [.str s] S = some (.int .i64 (count s), S) := fun S => evF_known (if_pos hs)
  have e2 : ∀ S, evF X12 AP 2 14 [.str s] S = some (.int .i64 (count s), S) := fun S => evF_known (if_pos hs)
  have e3 : ∀ S, evF X12 AP 2 12 [.str s] S = some (.bool (right s), S) := fun S => evF_known (if_pos hs)
  have e4 : ∀ S, evF X12 AP 2 15 [.str s] S = some (.bool (right s), S) := fun S => evF_known (if_pos hs)
  have e5 : ∀ S, evF X12 AP 2 10 [.str s] S = some (.str (fold s), S) := fun S => evF_known (if_pos hs)
  have e6 : ∀ S, evF X12 AP 2 16 [.str s] S = some (.str (fold s), S) := fun S => evF_known (if_pos hs)
  have e7 : ∀ S, evF X12 AP 2 16 [.str t] S = some (.str (fold t), S) := fun S => evF_known (if_pos ht)
  have e8 : ∀ S, evF X12 AP 2 13 [.str s, .str t] S = some (.bool (eqStr (fold s) (fold t)), S) := fun S => evF_known (if_pos ⟨hs, ht⟩)
  have e9 : ∀ S, evF X12 AP 2 9 [.str s, .int .i64 m] S = some (.str (short s m), S) := fun S => evF_known (if_pos hs)
  have e10 : ∀ S, evF X12 AP 2 17 [.str s, .int .i64 m] S = some (.str (short s m), S) := fun S => evF_known (if_pos hs)
  refine ⟨_, by
    simp -implicitDefEqProofs -dsimp (maxSteps := 10000000) only [af7, ops_nil, ops_some, ops_none, oper_none, oper_some, gd_tt, gd_ff, gd_tf, gd_ft, gd_undef, ↓any_op, ↓any_call, ↓any_callV, ↓any_invoke, xo_t, xo_c, args_nil, args_cons, bin_add, bin_sub, bin_mul, bin_quo, bin_rem, bin_and, bin_or, bin_xor, bin_andNot, bin_eql, bin_neq, bin_lss, bin_leq, bin_gtr, bin_geq, bin_shl, bin_shr, bin_bools, bin_strs, bin_ptrs, bin_slices, bin_aggs, ↓Option.bind_some, ↓Option.map_some, ↓cond_true, ↓cond_false, evC, evOp, XO.lit, setArgs, Tr.tabG, Tr.tabS, Tr.tabL, Tr.get_lf, Option.bind_some, Option.map_some, cond_true, cond_false, maxI, maxFrom, minI, minFrom, aConv, aBinE, aEq, eqScal, aUn, evRes, fin, oneOf, if_true, if_false, callee, reduceCtorEq, Nat.reduceEqDiff, and_self, decide_true, decide_false, beq_true, beq_false, Bool.not_true, Bool.not_false, List.getElem?_cons_zero, List.getElem?_cons_succ, beq_self_eq_true, gt_iff_lt, ble_dec, beq_dec, List.head?_cons, AV.undef, eq_self, ne_eq, not_true_eq_false, not_false_eq_true, Int.reduceLT, Int.reduceLE, Int.reduceToNat, Int.reduceEq, Int.reduceNeg, Nat.reduceAdd, Nat.reduceLT, Nat.reduceLeDiff, Nat.reduceMul, Nat.reduceSub, AV.cells, AV.tup, Bool.true_and, true_and, and_true, List.drop_nil, List.append_nil, rd_put, rd_alloc, rdO, St.get_put, St.get_alloc, St.next_put, St.next_alloc, St.wr, Bool.and_self, Bool.and_true, List.length_cons, List.length_nil, List.take_succ_cons, List.take_zero, List.drop_succ_cons, List.drop_zero, List.cons_append, List.nil_append, Nat.zero_add, Nat.add_zero, Nat.reduceMul, e1, e2, e3, e4, e5, e6, e7, e8, e9, e10, aStr, eqStr_refl, aBinE, aEq, eqScal]
    exact rfl⟩
def X13 := addX X12 7 (sSSI fun _ _ _ => .bool true)
theorem ok13 : XOk Try.prog X13 := addX_SSI ok12 (entry_of apOk (af := af7) rfl) (fun _ _ _ => rfl) fun s t n hs ht => ⟨_, ev7 n hs ht⟩
theorem z7 (k : Nat) (S : St) {s t : List Nat} (hs : s.length ≤ 2000000) (ht : t.length ≤ 2000000) (n : Int) : evF X13 AP (k + 1) 7 [.str s, .str t, .int .i64 n] S = some (.bool true, S) := evF_known (if_pos ⟨hs, ht⟩)
theorem z8 (k : Nat) (S : St) : evF X13 AP (k + 1) 8 [] S = some (.bool true, S) := rfl
theorem m15 (x : Int) : Go.bits .and .i64 x 15 = x % 16 := and_i64 4 (by decide) x
theorem m7 (x : Int) : Go.bits .and .i64 x 7 = x % 8 := and_i64 3 (by decide) x
theorem cutb : (0 : Int) ≤ 90 := by decide
set_option maxHeartbeats 4000000 in
theorem ev4 (k : Nat) {s t : List Nat} (n : Int) (hs : s.length ≤ 9223372036854775807) (ht : t.length ≤ 9223372036854775807) : ∃ S', evF X13 AP (k + 3) 4 [.str s, .str t, .int .i64 n] S0 = some (.bool true, S') := by
  rw [evF_body (af := af4) rfl rfl rfl]
  have fin : ∀ a b : List Nat, a.length ≤ 90 → b.length ≤ 90 → (∀ S n, evF X13 AP (k + 2) 7 [.str a, .str b, .int .i64 n] S = some (.bool true, S)) ∧ (∀ S n, evF X13 AP (k + 2) 7 [.str a, .str a, .int .i64 n] S = some (.bool true, S)) ∧
      (∀ S n, evF X13 AP (k + 2) 7 [.str (b ++ a), .str a, .int .i64 n] S = some (.bool true, S)) ∧ b.length + a.length ≤ 9223372036854775807 := by
    intro a b ha hb
    exact ⟨fun S n => z7 (k + 1) S (by omega) (by omega) n, fun S n => z7 (k + 1) S (by omega) (by omega) n, fun S n => z7 (k + 1) S (by rw [List.length_append]; omega) (by omega) n, by omega⟩
  by_cases c1 : (90 : Int) < s.length
  · have p1 : (0 : Int) ≤ 90 ∧ (90 : Int) ≤ s.length := by omega
    have l1 : (s.take 90).length ≤ 90 := by rw [List.length_take]; omega
    by_cases c2 : (90 : Int) < t.length
    · have p2 : (0 : Int) ≤ 90 ∧ (90 : Int) ≤ t.length := by omega
      have l2 : (t.take 90).length ≤ 90 := by rw [List.length_take]; omega
      obtain ⟨f1, f2, f3, f4⟩ := fin _ _ l1 l2
      refine ⟨_, by
        simp -implicitDefEqProofs -dsimp (maxSteps := 10000000) only [af4, ops_nil, ops_some, ops_none, oper_none, oper_some, gd_tt, gd_ff, gd_tf, gd_ft, gd_undef, ↓any_op, ↓any_call, ↓any_callV, ↓any_invoke, xo_t, xo_c, args_nil, args_cons, bin_add, bin_sub, bin_mul, bin_quo, bin_rem, bin_and, bin_or, bin_xor, bin_andNot, bin_eql, bin_neq, bin_lss, bin_leq, bin_gtr, bin_geq, bin_shl, bin_shr, bin_bools, bin_strs, bin_ptrs, bin_slices, bin_aggs, ↓Option.bind_some, ↓Option.map_some, ↓cond_true, ↓cond_false, evC, evOp, XO.lit, setArgs, Tr.tabG, Tr.tabS, Tr.tabL, Tr.get_lf, Option.bind_some, Option.map_some, cond_true, cond_false, maxI, maxFrom, minI, minFrom, aConv, aBinE, aEq, eqScal, aUn, evRes, fin, oneOf, if_true, if_false, callee, reduceCtorEq, Nat.reduceEqDiff, and_self, decide_true, decide_false, beq_true, beq_false, Bool.not_true, Bool.not_false, List.getElem?_cons_zero, List.getElem?_cons_succ, beq_self_eq_true, gt_iff_lt, ble_dec, beq_dec, List.head?_cons, AV.undef, eq_self, ne_eq, not_true_eq_false, not_false_eq_true, Int.reduceLT, Int.reduceLE, Int.reduceToNat, Int.reduceEq, Int.reduceNeg, Nat.reduceAdd, Nat.reduceLT, Nat.reduceLeDiff, Nat.reduceMul, Nat.reduceSub, AV.cells, AV.tup, Bool.true_and, true_and, and_true, List.drop_nil, List.append_nil, rd_put, rd_alloc, rdO, St.get_put, St.get_alloc, St.next_put, St.next_alloc, St.wr, Bool.and_self, Bool.and_true, List.length_cons, List.length_nil, List.take_succ_cons, List.take_zero, List.drop_succ_cons, List.drop_zero, List.cons_append, List.nil_append, Nat.zero_add, Nat.add_zero, Nat.reduceMul, hs, ht, c1, c2, aCutStr, bnd, evOpt, p1, p2, f1, f2, f3, f4, aStr, m15, m7, z8]
        exact rfl⟩
    · obtain ⟨f1, f2, f3, f4⟩ := fin _ t l1 (by omega)
      refine ⟨_, by
        simp -implicitDefEqProofs -dsimp (maxSteps := 10000000) only [af4, ops_nil, ops_some, ops_none, oper_none, oper_some, gd_tt, gd_ff, gd_tf, gd_ft, gd_undef, ↓any_op, ↓any_call, ↓any_callV, ↓any_invoke, xo_t, xo_c, args_nil, args_cons, bin_add, bin_sub, bin_mul, bin_quo, bin_rem, bin_and, bin_or, bin_xor, bin_andNot, bin_eql, bin_neq, bin_lss, bin_leq, bin_gtr, bin_geq, bin_shl, bin_shr, bin_bools, bin_strs, bin_ptrs, bin_slices, bin_aggs, ↓Option.bind_some, ↓Option.map_some, ↓cond_true, ↓cond_false, evC, evOp, XO.lit, setArgs, Tr.tabG, Tr.tabS, Tr.tabL, Tr.get_lf, Option.bind_some, Option.map_some, cond_true, cond_false, maxI, maxFrom, minI, minFrom, aConv, aBinE, aEq, eqScal, aUn, evRes, fin, oneOf, if_true, if_false, callee, reduceCtorEq, Nat.reduceEqDiff, and_self, decide_true, decide_false, beq_true, beq_false, Bool.not_true, Bool.not_false, List.getElem?_cons_zero, List.getElem?_cons_succ, beq_self_eq_true, gt_iff_lt, ble_dec, beq_dec, List.head?_cons, AV.undef, eq_self, ne_eq, not_true_eq_false, not_false_eq_true, Int.reduceLT, Int.reduceLE, Int.reduceToNat, Int.reduceEq, Int.reduceNeg, Nat.reduceAdd, Nat.reduceLT, Nat.reduceLeDiff, Nat.reduceMul, Nat.reduceSub, AV.cells, AV.tup, Bool.true_and, true_and, and_true, List.drop_nil, List.append_nil, rd_put, rd_alloc, rdO, St.get_put, St.get_alloc, St.next_put, St.next_alloc, St.wr, Bool.and_self, Bool.and_true, List.length_cons, List.length_nil, List.take_succ_cons, List.take_zero, List.drop_succ_cons, List.drop_zero, List.cons_append, List.nil_append, Nat.zero_add, Nat.add_zero, Nat.reduceMul, hs, ht, c1, c2, aCutStr, bnd, evOpt, p1, f1, f2, f3, f4, aStr, m15, m7, z8]
        exact rfl⟩
  · by_cases c2 : (90 : Int) < t.length
    · have p2 : (0 : Int) ≤ 90 ∧ (90 : Int) ≤ t.length := by omega
      have l2 : (t.take 90).length ≤ 90 := by rw [List.length_take]; omega
      obtain ⟨f1, f2, f3, f4⟩ := fin s _ (by omega) l2
      refine ⟨_, by
        simp -implicitDefEqProofs -dsimp (maxSteps := 10000000) only [af4, ops_nil, ops_some, ops_none, oper_none, oper_some, gd_tt, gd_ff, gd_tf, gd_ft, gd_undef, ↓any_op, ↓any_call, ↓any_callV, ↓any_invoke, xo_t, xo_c, args_nil, args_cons, bin_add, bin_sub, bin_mul, bin_quo, bin_rem, bin_and, bin_or, bin_xor, bin_andNot, bin_eql, bin_neq, bin_lss, bin_leq, bin_gtr, bin_geq, bin_shl, bin_shr, bin_bools, bin_strs, bin_ptrs, bin_slices, bin_aggs, ↓Option.bind_some, ↓Option.map_some, ↓cond_true, ↓cond_false, evC, evOp, XO.lit, setArgs, Tr.tabG, Tr.tabS, Tr.tabL, Tr.get_lf, Option.bind_some, Option.map_some, cond_true, cond_false, maxI, maxFrom, minI, minFrom, aConv, aBinE, aEq, eqScal, aUn, evRes, fin, oneOf, if_true, if_false, callee, reduceCtorEq, Nat.reduceEqDiff, and_self, decide_true, decide_false, beq_true, beq_false, Bool.not_true, Bool.not_false, List.getElem?_cons_zero, List.getElem?_cons_succ, beq_self_eq_true, gt_iff_lt, ble_dec, beq_dec, List.head?_cons, AV.undef, eq_self, ne_eq, not_true_eq_false, not_false_eq_true, Int.reduceLT, Int.reduceLE, Int.reduceToNat, Int.reduceEq, Int.reduceNeg, Nat.reduceAdd, Nat.reduceLT, Nat.reduceLeDiff, Nat.reduceMul, Nat.reduceSub, AV.cells, AV.tup, Bool.true_and, true_and, and_true, List.drop_nil, List.append_nil, rd_put, rd_alloc, rdO, St.get_put, St.get_alloc, St.next_put, St.next_alloc, St.wr, Bool.and_self, Bool.and_true, List.length_cons, List.length_nil, List.take_succ_cons, List.take_zero, List.drop_succ_cons, List.drop_zero, List.cons_append, List.nil_append, Nat.zero_add, Nat.add_zero, Nat.reduceMul, hs, ht, c1, c2, aCutStr, bnd, evOpt, p2, f1, f2, f3, f4, aStr, m15, m7, z8]
        exact rfl⟩
    · obtain ⟨f1, f2, f3, f4⟩ := fin s t (by omega) (by omega)
      refine ⟨_, by
        simp -implicitDefEqProofs -dsimp (maxSteps := 10000000) only [af4, ops_nil, ops_some, ops_none, oper_none, oper_some, gd_tt, gd_ff, gd_tf, gd_ft, gd_undef, ↓any_op, ↓any_call, ↓any_callV, ↓any_invoke, xo_t, xo_c, args_nil, args_cons, bin_add, bin_sub, bin_mul, bin_quo, bin_rem, bin_and, bin_or, bin_xor, bin_andNot, bin_eql, bin_neq, bin_lss, bin_leq, bin_gtr, bin_geq, bin_shl, bin_shr, bin_bools, bin_strs, bin_ptrs, bin_slices, bin_aggs, ↓Option.bind_some, ↓Option.map_some, ↓cond_true, ↓cond_false, evC, evOp, XO.lit, setArgs, Tr.tabG, Tr.tabS, Tr.tabL, Tr.get_lf, Option.bind_some, Option.map_some, cond_true, cond_false, maxI, maxFrom, minI, minFrom, aConv, aBinE, aEq, eqScal, aUn, evRes, fin, oneOf, if_true, if_false, callee, reduceCtorEq, Nat.reduceEqDiff, and_self, decide_true, decide_false, beq_true, beq_false, Bool.not_true, Bool.not_false, List.getElem?_cons_zero, List.getElem?_cons_succ, beq_self_eq_true, gt_iff_lt, ble_dec, beq_dec, List.head?_cons, AV.undef, eq_self, ne_eq, not_true_eq_false, not_false_eq_true, Int.reduceLT, Int.reduceLE, Int.reduceToNat, Int.reduceEq, Int.reduceNeg, Nat.reduceAdd, Nat.reduceLT, Nat.reduceLeDiff, Nat.reduceMul, Nat.reduceSub, AV.cells, AV.tup, Bool.true_and, true_and, and_true, List.drop_nil, List.append_nil, rd_put, rd_alloc, rdO, St.get_put, St.get_alloc, St.next_put, St.next_alloc, St.wr, Bool.and_self, Bool.and_true, List.length_cons, List.length_nil, List.take_succ_cons, List.take_zero, List.drop_succ_cons, List.drop_zero, List.cons_append, List.nil_append, Nat.zero_add, Nat.add_zero, Nat.reduceMul, hs, ht, c1, c2, f1, f2, f3, f4, aStr, m15, m7, z8]
        exact rfl⟩
end Go.Proofs.YtihddjacbalekaaA
