/- Chapter 2: a text cut at a rune is two, which together are it; folding twice is folding once; what is right stays so in small letters. -/
import Derived.Test.YtihddjacbalekaaRdF
import Derived.Test.YtihddjacbalekaaRdD
set_option linter.unusedVariables false
set_option linter.unusedSimpArgs false
set_option maxRecDepth 10000
namespace Go.Proofs.YtihddjacbalekaaA
open Go.RowKit
attribute [local congr] bind_congr1 map_congr1 cond_congr1 withX_congr after_congr br_congr gd_congr

theorem lower_valid {r : Nat} (h : Utf8.valid (r : Int) = true) : Utf8.valid (lower r) = true := by
  rw [valid_iff] at h ⊢
  unfold lower
  split <;> omega
theorem fold_snd (s : List Nat) : (Rr 0 (fold s)).map (·.2) = ((Rr 0 s).map (·.2)).map fun r => (lower r).toNat := by
  have h := Rr_enc ((Rr 0 s).map fun p => lower p.2) 0 (by
    intro r hr
    obtain ⟨x, hx, rfl⟩ := List.mem_map.1 hr
    exact lower_valid (Rr_valid _ s 0 (Nat.le_refl _) x hx))
  rw [List.flatMap_map, List.map_map] at h
  rw [List.map_map]
  exact h
theorem fold_of (s : List Nat) : fold s = ((Rr 0 s).map (·.2)).flatMap fun r => encR (lower r) := by
  unfold fold
  rw [List.flatMap_map]
theorem lower_two (r : Nat) : lower (lower r).toNat = lower r := by
  unfold lower
  split <;> (try split) <;> omega
theorem one_lower (r : Nat) : isOne ((lower r).toNat : Int) = isOne r := by
  unfold isOne lower
  rw [decide_eq_decide]
  split <;> omega
theorem fold_fold (s : List Nat) : fold (fold s) = fold s := by
  rw [fold_of, fold_snd, fold_of, List.flatMap_map]
  congr 1
  funext r
  rw [lower_two]
theorem count_of (s : List Nat) : count s = ((Rr 0 s).map (·.2)).length := by unfold count; rw [List.length_map]
theorem right_of (s : List Nat) : right s = (((Rr 0 s).map (·.2)).all (fun r : Nat => isOne (r : Int)) && decide (1 ≤ count s ∧ count s ≤ 8)) := by
  unfold right
  rw [List.all_map]
  rfl
theorem count_fold (s : List Nat) : count (fold s) = count s := by
  rw [count_of, fold_snd, count_of, List.length_map]
theorem right_fold (s : List Nat) : right (fold s) = right s := by
  rw [right_of, right_of, count_fold, fold_snd, List.all_map]
  congr 2
  funext r
  exact one_lower r
/-- A text is the first runes of it, and the others. -/
theorem short_parts (s : List Nat) (n : Int) : (short s n).length ≤ s.length ∧ s.take (short s n).length = short s n ∧
    (Rr 0 (short s n)).map (·.2) = ((Rr 0 s).map (·.2)).take n.toNat ∧ (Rr 0 (s.drop (short s n).length)).map (·.2) = ((Rr 0 s).map (·.2)).drop n.toNat := by
  unfold short
  cases h : (Rr 0 s)[n.toNat]? with
  | none =>
    have hl := List.getElem?_eq_none_iff.1 h
    dsimp only
    refine ⟨Nat.le_refl _, List.take_length, ?_, ?_⟩
    · rw [List.take_of_length_le (by rw [List.length_map]; exact hl)]
    · rw [List.drop_length, List.drop_eq_nil_of_le (by rw [List.length_map]; exact hl)]
      rfl
  | some x =>
    obtain ⟨_, h2, h3⟩ := Rr_take _ _ _ _ h
    dsimp only
    rw [Nat.sub_zero] at h2 h3
    have hx : x.1 < s.length := by
      rcases Nat.lt_or_ge x.1 s.length with h' | h'
      · exact h'
      · exfalso
        rw [List.drop_eq_nil_of_le h', Rr_nil] at h3
        have := congrArg List.length h3
        rw [List.length_drop, List.length_nil] at this
        have := (List.getElem?_eq_some_iff.1 h).1
        omega
    have hl : (s.take x.1).length = x.1 := by rw [List.length_take]; omega
    refine ⟨by omega, by rw [hl], ?_, ?_⟩
    · rw [h2, List.map_take]
    · rw [hl, Rr_snd _ _ 0 x.1 (Nat.le_refl _), h3, List.map_drop]
theorem m31 (x : Int) : Go.bits .and .i64 x 31 = x % 32 := and_i64 5 (by decide) x
set_option maxHeartbeats 4000000 in
theorem main5 (k : Nat) {s : List Nat} (hs : s.length ≤ 90) (n : Int) (S : St) :
    ∃ a f b : List Nat, a = short s (n % 32) ∧ f = fold s ∧ b = s.drop a.length ∧ a.length ≤ s.length ∧ s.take a.length = a ∧ count a + count b = count s ∧ count a = (if count s < n % 32 then count s else n % 32) ∧
      fold f = f ∧ right f = right s ∧ fold a ++ fold b = f ∧ f.length ≤ 2000000 ∧ (fold a).length + (fold b).length ≤ 2000000 := by
  obtain ⟨h1, h2, h3, h4⟩ := short_parts s (n % 32)
  have hfl : ∀ l : List Nat, l.length ≤ 90 → (fold l).length ≤ 360 := by
    intro l hl
    have h := fold_len (Rr 0 l)
    have := Rr_len 0 l
    unfold fold
    omega
  refine ⟨_, _, _, rfl, rfl, rfl, h1, h2, ?_, ?_, fold_fold s, right_fold s, ?_, by have := hfl s hs; omega, ?_⟩
  · rw [count_of, count_of, count_of, h3, h4, List.length_take, List.length_drop]
    omega
  · rw [count_of, h3, count_of, List.length_take]
    split <;> omega
  · rw [fold_of, fold_of (s.drop _), fold_of s, h3, h4, ← List.flatMap_append, List.take_append_drop]
  · have e1 := hfl (short s (n % 32)) (by omega)
    have e2 := hfl (s.drop (short s (n % 32)).length) (by rw [List.length_drop]; omega)
    omega
set_option maxHeartbeats 8000000 in
theorem ev5 (k : Nat) {s : List Nat} (n : Int) (hs : s.length ≤ 9223372036854775807) : ∃ S', evF X13 AP (k + 3) 5 [.str s, .int .i64 n] S0 = some (.bool true, S') := by
  rw [evF_body (af := af5) rfl rfl rfl]
  have main : ∀ u : List Nat, u.length ≤ 90 → ∃ a f b : List Nat, (∀ S, evF X13 AP (k + 2) 9 [.str u, .int .i64 (n % 32)] S = some (.str a, S)) ∧ (∀ S, evF X13 AP (k + 2) 10 [.str u] S = some (.str f, S)) ∧ b = u.drop a.length ∧ a.length ≤ u.length ∧ u.take a.length = a ∧
      (∀ S, evF X13 AP (k + 2) 11 [.str a] S = some (.int .i64 (count a), S)) ∧ (∀ S, evF X13 AP (k + 2) 11 [.str b] S = some (.int .i64 (count b), S)) ∧ (∀ S, evF X13 AP (k + 2) 11 [.str u] S = some (.int .i64 (count u), S)) ∧
      IntKind.i64.wrap (count a + count b) = count u ∧ count a = (if count u < n % 32 then count u else n % 32) ∧ (∀ S, evF X13 AP (k + 2) 10 [.str f] S = some (.str f, S)) ∧
      (∀ S, evF X13 AP (k + 2) 12 [.str f] S = some (.bool (right u), S)) ∧ (∀ S, evF X13 AP (k + 2) 12 [.str u] S = some (.bool (right u), S)) ∧ (∀ S, evF X13 AP (k + 2) 13 [.str u, .str f] S = some (.bool true, S)) ∧
      (∀ S, evF X13 AP (k + 2) 10 [.str a] S = some (.str (fold a), S)) ∧ (∀ S, evF X13 AP (k + 2) 10 [.str b] S = some (.str (fold b), S)) ∧ fold a ++ fold b = f ∧ (fold a).length + (fold b).length ≤ 9223372036854775807 ∧ a.length ≤ 9223372036854775807 := by
    intro u hu
    obtain ⟨a, f, b, rfl, rfl, rfl, h1, h2, h3, h4, h5, h6, h7, h8, h9⟩ := main5 k hu n S0
    have hbl : (u.drop (short u (n % 32)).length).length ≤ 2000000 := by rw [List.length_drop]; omega
    have hc := Rr_len 0 u
    refine ⟨_, _, _, fun S => evF_known (if_pos (by omega)), fun S => evF_known (if_pos (by omega)), rfl, h1, h2, fun S => evF_known (if_pos (by omega)), fun S => evF_known (if_pos hbl), fun S => evF_known (if_pos (by omega)), ?_, h4, fun S => ?_, fun S => ?_, fun S => evF_known (if_pos (by omega)), fun S => ?_,
      fun S => evF_known (if_pos (by omega)), fun S => evF_known (if_pos hbl), h7, by omega, by omega⟩
    · rw [h3]; exact w64_id (by unfold count; omega) (by unfold count; omega)
    · have := evF_known (X := X13) (AP := AP) (k := k + 1) (f := 10) (args := [.str (fold u)]) (S := S) (v := .str (fold (fold u))) (if_pos h8)
      rw [h5] at this; exact this
    · have := evF_known (X := X13) (AP := AP) (k := k + 1) (f := 12) (args := [.str (fold u)]) (S := S) (v := .bool (right (fold u))) (if_pos h8)
      rw [h6] at this; exact this
    · have := evF_known (X := X13) (AP := AP) (k := k + 1) (f := 13) (args := [.str u, .str (fold u)]) (S := S) (v := .bool (eqStr (fold u) (fold (fold u)))) (if_pos ⟨by omega, h8⟩)
      rw [h5, eqStr_refl] at this; exact this
  by_cases c1 : (90 : Int) < s.length
  · have p1 : (0 : Int) ≤ 90 ∧ (90 : Int) ≤ s.length := by omega
    have l1 : (s.take 90).length ≤ 90 := by rw [List.length_take]; omega
    obtain ⟨u, hu⟩ : ∃ u, s.take 90 = u := ⟨_, rfl⟩
    rw [hu] at l1
    obtain ⟨a, f, b, e1, e2, rfl, g1, g2, e3, e4, e5, g3, g4, e6, e7, e8, e9, e10, e11, g5, g6, g7⟩ := main u l1
    have hul : u.length ≤ 9223372036854775807 := by omega
    have c2 : ¬ ((u.length : Nat) : Int) < a.length := by omega
    have p2 : (0 : Int) ≤ (a.length : Int) ∧ (a.length : Int) ≤ u.length := by omega
    have p3 : ((a.length : Nat) : Int).toNat = a.length := by omega
    have p4 : List.take u.length u = u := List.take_length
    have p5 : (Int.toNat 90) = 90 := rfl
    refine ⟨_, by
      simp -implicitDefEqProofs -dsimp (maxSteps := 10000000) only [af5, ops_nil, ops_some, ops_none, oper_none, oper_some, gd_tt, gd_ff, gd_tf, gd_ft, gd_undef, ↓any_op, ↓any_call, ↓any_callV, ↓any_invoke, xo_t, xo_c, args_nil, args_cons, bin_add, bin_sub, bin_mul, bin_quo, bin_rem, bin_and, bin_or, bin_xor, bin_andNot, bin_eql, bin_neq, bin_lss, bin_leq, bin_gtr, bin_geq, bin_shl, bin_shr, bin_bools, bin_strs, bin_ptrs, bin_slices, bin_aggs, ↓Option.bind_some, ↓Option.map_some, ↓cond_true, ↓cond_false, evC, evOp, XO.lit, setArgs, Tr.tabG, Tr.tabS, Tr.tabL, Tr.get_lf, Option.bind_some, Option.map_some, cond_true, cond_false, maxI, maxFrom, minI, minFrom, aConv, aBinE, aEq, eqScal, aUn, evRes, fin, oneOf, if_true, if_false, callee, reduceCtorEq, Nat.reduceEqDiff, and_self, decide_true, decide_false, beq_true, beq_false, Bool.not_true, Bool.not_false, List.getElem?_cons_zero, List.getElem?_cons_succ, beq_self_eq_true, gt_iff_lt, ble_dec, beq_dec, List.head?_cons, AV.undef, eq_self, ne_eq, not_true_eq_false, not_false_eq_true, Int.reduceLT, Int.reduceLE, Int.reduceToNat, Int.reduceEq, Int.reduceNeg, Nat.reduceAdd, Nat.reduceLT, Nat.reduceLeDiff, Nat.reduceMul, Nat.reduceSub, ↓evDraw_nil, putD, evDraw, trace, List.all_cons, List.all_nil, chk, stAt, again, sameV, sameA, AV.undef, Bool.and_self, Bool.and_true, decide_eq_true_eq, List.getElem?_nil, AV.cells, AV.tup, Bool.true_and, true_and, and_true, List.drop_nil, List.append_nil, rd_put, rd_alloc, rdO, St.get_put, St.get_alloc, St.next_put, St.next_alloc, St.wr, Bool.and_self, Bool.and_true, List.length_cons, List.length_nil, List.take_succ_cons, List.take_zero, List.drop_succ_cons, List.drop_zero, List.cons_append, List.nil_append, Nat.zero_add, Nat.add_zero, Nat.reduceMul, hs, c1, aCutStr, bnd, evOpt, p1, p5, hu, m31, e1, hul, c2, p2, p3, p4, g2, g7, e2, e3, e4, e5, g3, ← g4, e6, e7, e8, e9, e10, e11, g5, g6, aStr, eqStr_refl, aBinE, aEq, eqScal, z8]
      exact rfl⟩
  · obtain ⟨a, f, b, e1, e2, rfl, g1, g2, e3, e4, e5, g3, g4, e6, e7, e8, e9, e10, e11, g5, g6, g7⟩ := main s (by omega)
    have c2 : ¬ ((s.length : Nat) : Int) < a.length := by omega
    have p2 : (0 : Int) ≤ (a.length : Int) ∧ (a.length : Int) ≤ s.length := by omega
    have p3 : ((a.length : Nat) : Int).toNat = a.length := by omega
    have p4 : List.take s.length s = s := List.take_length
    refine ⟨_, by
      simp -implicitDefEqProofs -dsimp (maxSteps := 10000000) only [af5, ops_nil, ops_some, ops_none, oper_none, oper_some, gd_tt, gd_ff, gd_tf, gd_ft, gd_undef, ↓any_op, ↓any_call, ↓any_callV, ↓any_invoke, xo_t, xo_c, args_nil, args_cons, bin_add, bin_sub, bin_mul, bin_quo, bin_rem, bin_and, bin_or, bin_xor, bin_andNot, bin_eql, bin_neq, bin_lss, bin_leq, bin_gtr, bin_geq, bin_shl, bin_shr, bin_bools, bin_strs, bin_ptrs, bin_slices, bin_aggs, ↓Option.bind_some, ↓Option.map_some, ↓cond_true, ↓cond_false, evC, evOp, XO.lit, setArgs, Tr.tabG, Tr.tabS, Tr.tabL, Tr.get_lf, Option.bind_some, Option.map_some, cond_true, cond_false, maxI, maxFrom, minI, minFrom, aConv, aBinE, aEq, eqScal, aUn, evRes, fin, oneOf, if_true, if_false, callee, reduceCtorEq, Nat.reduceEqDiff, and_self, decide_true, decide_false, beq_true, beq_false, Bool.not_true, Bool.not_false, List.getElem?_cons_zero, List.getElem?_cons_succ, beq_self_eq_true, gt_iff_lt, ble_dec, beq_dec, List.head?_cons, AV.undef, eq_self, ne_eq, not_true_eq_false, not_false_eq_true, Int.reduceLT, Int.reduceLE, Int.reduceToNat, Int.reduceEq, Int.reduceNeg, Nat.reduceAdd, Nat.reduceLT, Nat.reduceLeDiff, Nat.reduceMul, Nat.reduceSub, ↓evDraw_nil, putD, evDraw, trace, List.all_cons, List.all_nil, chk, stAt, again, sameV, sameA, AV.undef, Bool.and_self, Bool.and_true, decide_eq_true_eq, List.getElem?_nil, AV.cells, AV.tup, Bool.true_and, true_and, and_true, List.drop_nil, List.append_nil, rd_put, rd_alloc, rdO, St.get_put, St.get_alloc, St.next_put, St.next_alloc, St.wr, Bool.and_self, Bool.and_true, List.length_cons, List.length_nil, List.take_succ_cons, List.take_zero, List.drop_succ_cons, List.drop_zero, List.cons_append, List.nil_append, Nat.zero_add, Nat.add_zero, Nat.reduceMul, hs, c1, aCutStr, bnd, evOpt, m31, e1, c2, p2, p3, p4, g2, g7, e2, e3, e4, e5, g3, ← g4, e6, e7, e8, e9, e10, e11, g5, g6, aStr, eqStr_refl, aBinE, aEq, eqScal, z8]
      exact rfl⟩
theorem law5 (a : ByteArray) (wa : a.size ≤ maxLen) {n : Int} (_ : (Lit.int .i64 n).wf = true) : ∃ S', evF X13 AP (0 + 3) 5 [.str (bytesN a), .int .i64 n] S0 = some (.bool true, S') :=
  ev5 0 n (bytes_len wa)
end Go.Proofs.YtihddjacbalekaaA
