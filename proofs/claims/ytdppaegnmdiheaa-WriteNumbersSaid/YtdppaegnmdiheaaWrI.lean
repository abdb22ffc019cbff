/- Chapter 21: WritePlays. -/
import Derived.Test.YtdppaegnmdiheaaWrH
set_option linter.unusedVariables false
set_option linter.unusedSimpArgs false
set_option maxRecDepth 10000
namespace Go.Proofs.YtdppaegnmdiheaaA
open Go.RowKit
attribute [local congr] bind_congr1 map_congr1 cond_congr1 withX_congr after_congr br_congr gd_congr

abbrev z5 : List AV := [.int .i64 0, .int .i64 0, .int .i64 0, .int .u32 0, .bool false]
/-- Rows of asks that may be played. -/
def Okl (c : List AV) (n : Nat) : Prop := ∀ i, i < n → i < 120 → ∃ (a b c' d : Int) (e : Bool), (c.drop (i * 5)).take 5 = [.int .i64 a, .int .i64 b, .int .i64 c', .int .u32 d, .bool e] ∧ c' ≤ 140737488355328 ∧ 0 ≤ d ∧ d < 4294967296
theorem Okl.snoc {c : List AV} {n : Nat} (h : Okl c n) (hl : c.length = n * 5) {a b c' d : Int} {e : Bool} (hc : n < 120 → c' ≤ 140737488355328) (d0 : 0 ≤ d) (d1 : d < 4294967296) : Okl (c ++ [.int .i64 a, .int .i64 b, .int .i64 c', .int .u32 d, .bool e]) (n + 1) := by
  intro i hi h1
  by_cases hlt : i < n
  · have hle : (i + 1) * 5 ≤ n * 5 := Nat.mul_le_mul_right _ (by omega)
    rw [List.drop_append_of_le_length (by omega), List.take_append_of_le_length (by rw [List.length_drop]; omega)]
    exact h i hlt h1
  · obtain rfl : i = n := by omega
    refine ⟨a, b, c', d, e, ?_, hc h1, d0, d1⟩
    rw [← hl, List.drop_left]
    rfl
theorem Aq.of_vec {S : St} {p : Option (Nat × Nat × Nat)} {len e : Nat} {c : List AV} (h : Vec S p len 5 e c) (hm : len ≤ 9223372036854775807) (ho : Okl c len) : Aq S p len := by
  rcases h.at_ with ⟨rfl, rfl⟩ | ⟨o, ver, minv, rfl, hlt, hg, hv⟩
  · exact ⟨fun h => absurd rfl h, hm, fun _ _ _ h => by cases h⟩
  · refine ⟨fun _ => ⟨_, _, _, rfl, hlt⟩, hm, fun o' v' i' hp j hj h1 => ?_⟩
    cases hp
    obtain ⟨a, b, c', d, e', h2, h3⟩ := ho j hj h1
    refine ⟨a, b, c', d, e', ?_, h3⟩
    have hle : (j + 1) * 5 ≤ len * 5 := Nat.mul_le_mul_right _ (by omega)
    rw [rd_cells hg hv (by rw [h.sz]; omega), Nat.zero_add, h2]
theorem Vec.grow {S S' : St} {p q : Option (Nat × Nat × Nat)} {len esz e : Nat} {c : List AV} (h : Vec S p len esz e c) (g : Grow S S' q) (hne : ∀ o v i o' v' i', p = some (o, v, i) → q = some (o', v', i') → ¬ o = o') : Vec S' p len esz e c :=
  ⟨h.ez, h.sz, h.at_.imp_right fun ⟨o, ver, minv, h1, h2, h3, h4⟩ => ⟨o, ver, minv, h1, Nat.lt_of_lt_of_le h2 g.next, by rw [g.old o h2 (fun v i hq => hne _ _ _ _ _ _ h1 hq rfl)]; exact h3, h4⟩⟩
theorem m47 (x : Int) : Go.bits .and .i64 x 140737488355327 = x % 140737488355328 := and_i64 47 (by decide) x
theorem m14u (x : Int) : Go.bits .and .u32 x 16383 = x % 16384 := and_u32 14 (by decide) x
theorem wu32_bd (x : Int) : 0 ≤ IntKind.u32.wrap x ∧ IntKind.u32.wrap x < 4294967296 := by rw [IntKind.wrap_u32]; omega
structure I6 (s : Int) (p1 : Option (Nat × Nat × Nat)) (len : Nat) (Sb : St) (m : Nat) (T : Tm) (S : St) : Prop where
  t0 : T.get 0 = some (.int .u32 s)
  t1 : T.get 1 = some (.slice p1 len 5 none)
  t12 : T.get 12 = some (.int .i64 len)
  ext : Ext Sb S
  more : ∃ (j : Nat) (p5 p6 : Option (Nat × Nat × Nat)) (e5 e6 : Nat) (c5 c6 : List AV) (A P : Int), T.get 13 = some (.int .i64 j) ∧ T.get 5 = some (.slice p5 j e5 none) ∧ T.get 6 = some (.slice p6 j e6 none) ∧ T.get 7 = some (.int .i64 A) ∧ T.get 8 = some (.int .u32 P) ∧
    Vec S p5 j 5 e5 c5 ∧ Vec S p6 j 5 e6 c6 ∧ Okl c5 j ∧ Okl c6 j ∧ (∀ o v i, p5 = some (o, v, i) → Sb.next ≤ o) ∧ (∀ o v i, p6 = some (o, v, i) → Sb.next ≤ o) ∧ (∀ o v i o' v' i', p5 = some (o, v, i) → p6 = some (o', v', i') → ¬ o = o') ∧
    60000 - (j : Int) ≤ A ∧ A ≤ 60000 + 2 * (j : Int) ∧ j + m = len
set_option maxHeartbeats 16000000 in
theorem round6 (k : Nat) {s : Int} {p : Option (Nat × Nat × Nat)} {len : Nat} {Sb : St} (h1 : Sl Sb p len ask) (hr : len * 32 ≤ 140737488351232) (m : Nat) (T : Tm) (S : St) (hI : I6 s p len Sb m T S) :
    Goes (evF Y AP (k + len + 399)) (k + len + 399) af6_l0 T S (Then (fun T' S' => ∃ m', I6 s p len Sb m' T' S' ∧ id m' < id m) fun r T' S' => r = .exit 0 ∧ I6 s p len Sb 0 T' S') := by
  obtain ⟨t0, t1, t12, he, j, p5, p6, e5, e6, c5, c6, A, P, t13, t5, t6, t7, t8, V5, V6, O5, O6, n5, n6, n56, A0, A1', hm⟩ := hI
  rcases m with _ | m
  · have c1 : ¬ (j : Int) < (len : Int) := by omega
    simp -implicitDefEqProofs -dsimp (maxSteps := 10000000) only [af6_l0, ↓goes_loop, ↓goes_seq, ↓goes_reg, ↓goes_dreg, ↓goes_cond, ↓goes_block, ↓goes_skip, ↓goes_exit, ↓goes_ret, after_some, br_true, br_false, ↓then_normal, ↓then_exit, ↓then_ret, ↓blk_normal, ↓blk_exit, ↓blk_ret, ↓blk_other, ops_nil, ops_some, ops_none, oper_none, oper_some, gd_tt, gd_ff, gd_tf, gd_ft, gd_undef, ↓any_op, ↓any_call, ↓any_callV, ↓any_invoke, xo_t, xo_c, args_nil, args_cons, bin_add, bin_sub, bin_mul, bin_quo, bin_rem, bin_and, bin_or, bin_xor, bin_andNot, bin_eql, bin_neq, bin_lss, bin_leq, bin_gtr, bin_geq, bin_shl, bin_shr, bin_bools, bin_strs, bin_ptrs, bin_slices, bin_aggs, ↓Option.bind_some, ↓Option.map_some, ↓cond_true, ↓cond_false, evC, evOp, XO.lit, setArgs, Tr.get_set, Option.bind_some, Option.map_some, cond_true, cond_false, maxI, maxFrom, minI, minFrom, aConv, aBinE, aEq, eqScal, aUn, evRes, fin, oneOf, if_true, if_false, callee, reduceCtorEq, Nat.reduceEqDiff, and_self, decide_true, decide_false, beq_true, beq_false, Bool.not_true, Bool.not_false, List.getElem?_cons_zero, List.getElem?_cons_succ, beq_self_eq_true, gt_iff_lt, ble_dec, beq_dec, List.head?_cons, AV.undef, eq_self, ne_eq, not_true_eq_false, not_false_eq_true, Int.reduceLT, Int.reduceLE, Int.reduceToNat, Int.reduceEq, Int.reduceNeg, Nat.reduceAdd, Nat.reduceLT, Nat.reduceLeDiff, Nat.reduceMul, Nat.reduceSub, AV.cells, AV.tup, Bool.true_and, true_and, and_true, List.drop_nil, List.append_nil, rd_put, rd_alloc, rdO, St.get_put, St.get_alloc, St.next_put, St.next_alloc, St.wr, Bool.and_self, Bool.and_true, List.length_cons, List.length_nil, List.take_succ_cons, List.take_zero, List.drop_succ_cons, List.drop_zero, List.cons_append, List.nil_append, Nat.zero_add, Nat.add_zero, Nat.reduceMul, t12, t13, c1]
    refine ⟨?_, ?_, ?_, he, j, p5, p6, e5, e6, c5, c6, A, P, ?_, ?_, ?_, ?_, ?_, V5, V6, O5, O6, n5, n6, n56, A0, A1', hm⟩ <;> simp only [Tr.get_set, Nat.reduceEqDiff, if_false, if_true, t0, t1, t5, t6, t7, t8, t12, t13]
  have c1 : (j : Int) < (len : Int) := by omega
  obtain ⟨o1, v1, i1, rfl, ho1⟩ := h1.at_ (by omega)
  obtain ⟨kd, ly, ex, td, ky, hrd, bk, bl, bx, d0, d1⟩ := h1.ask (j := j) (by omega)
  have hz : S.rd o1 v1 (i1 + j * 5) 5 = some [.int .i64 kd, .int .i64 ly, .int .i64 ex, .int .u32 td, .bool ky] := by rw [he.rd ho1]; exact hrd
  have hix : ixOf (.int .i64 (j : Int)) len = some j := by rw [ix_ok (by omega) c1]; rfl
  have wj : IntKind.i64.wrap ((j : Int) + 1) = ((j + 1 : Nat) : Int) := w64_id (by omega) (by omega)
  obtain ⟨x, hx⟩ : ∃ x, ex % 140737488355328 = x := ⟨_, rfl⟩
  have xb : 0 ≤ x ∧ x < 140737488355328 := by omega
  obtain ⟨A1, hA1⟩ : ∃ A1, (S.alloc (.cells z5 0 0 true)).put S.next (.cells [.int .i64 kd, .int .i64 ly, .int .i64 ex, .int .u32 td, .bool ky] 0 0 true) = A1 := ⟨_, rfl⟩
  obtain ⟨A2, hA2⟩ : ∃ A2, A1.put S.next (.cells [.int .i64 kd, .int .i64 ly, .int .i64 x, .int .u32 td, .bool ky] 0 0 true) = A2 := ⟨_, rfl⟩
  have eA : Ext S A1 := by rw [← hA1]; exact ((Ext.alloc S _)).then_put (Nat.le_refl _) _
  have nA : A1.next = S.next + 1 := by rw [← hA1]; rfl
  have g1 : A1.get S.next = some (.cells [.int .i64 kd, .int .i64 ly, .int .i64 ex, .int .u32 td, .bool ky] 0 0 true) := by rw [← hA1, St.get_put, if_pos rfl]
  have r1 : ∀ v i m, A1.rd S.next v i m = rdO (.cells [.int .i64 kd, .int .i64 ly, .int .i64 ex, .int .u32 td, .bool ky] 0 0 true) v i m := rd_of g1
  have eA2 : Ext S A2 := by rw [← hA2]; exact eA.then_put (Nat.le_refl _) _
  have nA2 : A2.next = S.next + 1 := by rw [← hA2]; exact nA
  have g2 : A2.get S.next = some (.cells [.int .i64 kd, .int .i64 ly, .int .i64 x, .int .u32 td, .bool ky] 0 0 true) := by rw [← hA2, St.get_put, if_pos rfl]
  have r2 : ∀ v i m, A2.rd S.next v i m = rdO (.cells [.int .i64 kd, .int .i64 ly, .int .i64 x, .int .u32 td, .bool ky] 0 0 true) v i m := rd_of g2
  -- held
  obtain ⟨B1, hB1⟩ : ∃ B1, A2.alloc (.cells [.int .i64 kd, .int .i64 ly, .int .i64 x, .int .u32 td, .bool ky] 0 0 true) = B1 := ⟨_, rfl⟩
  have eB : Ext A2 B1 := by rw [← hB1]; exact .alloc _ _
  have nB : B1.next = S.next + 2 := by rw [← hB1, St.next_alloc, nA2]
  have rB : ∀ v i m, B1.rd A2.next v i m = rdO (.cells [.int .i64 kd, .int .i64 ly, .int .i64 x, .int .u32 td, .bool ky] 0 0 true) v i m := rd_of (by rw [← hB1, St.get_alloc, if_pos rfl])
  have eSB : Ext S B1 := eA2.trans eB
  obtain ⟨q6, S3, hap, W6, G6, N6⟩ := (V6.ext eSB).append (bytes := 32) (xs := [.int .i64 kd, .int .i64 ly, .int .i64 x, .int .u32 td, .bool ky]) (n := 1) rfl (by decide) (by omega)
  have lo6 : ∀ o v i, p6 = some (o, v, i) → o < S.next := fun o v i h => by
    rcases V6.at_ with ⟨h', _⟩ | ⟨o', v', m', h', h2, _⟩
    · rw [h] at h'; cases h'
    · rw [h] at h'; cases h'; exact h2
  have lo5 : ∀ o v i, p5 = some (o, v, i) → o < S.next := fun o v i h => by
    rcases V5.at_ with ⟨h', _⟩ | ⟨o', v', m', h', h2, _⟩
    · rw [h] at h'; cases h'
    · rw [h] at h'; cases h'; exact h2
  have n3 := G6.next
  have g3 : S3.get S.next = some (.cells [.int .i64 kd, .int .i64 ly, .int .i64 x, .int .u32 td, .bool ky] 0 0 true) := by
    rw [G6.old _ (by omega) (fun v i h => by have := lo6 _ _ _ h; omega)]
    exact eB.get (by omega) g2
  have r3 : ∀ v i m, S3.rd S.next v i m = rdO (.cells [.int .i64 kd, .int .i64 ly, .int .i64 x, .int .u32 td, .bool ky] 0 0 true) v i m := rd_of g3
  have V5' : Vec S3 p5 j 5 e5 c5 := (V5.ext eSB).grow G6 (fun o v i o' v' i' h h' => n56 o v i o' v' i' h h')
  -- some
  obtain ⟨dA, hdA⟩ : ∃ d, x % 4 = d := ⟨_, rfl⟩
  obtain ⟨dP, hdP⟩ : ∃ d, td % 16384 = d := ⟨_, rfl⟩
  have wA1 : IntKind.i64.wrap (A + dA) = A + dA := w64_id (by omega) (by omega)
  have wA2 : IntKind.i64.wrap (A + dA - 1) = A + dA - 1 := w64_id (by omega) (by omega)
  obtain ⟨P', hP'⟩ : ∃ P', IntKind.u32.wrap (IntKind.u32.wrap (P + dP) - 2048) = P' := ⟨_, rfl⟩
  have bP : 0 ≤ P' ∧ P' < 4294967296 := by rw [← hP']; exact wu32_bd _
  have q1 : ∀ S, evF Y AP (k + len + 399) 9 [.int .i64 kd, .int .i64 0, .int .i64 7] S = some (.int .i64 (within kd 0 7), S) := fun S => T9 (k + len + 395) S (by decide) (by decide) (by decide)
  have q2 : ∀ S, evF Y AP (k + len + 399) 9 [.int .i64 ly, .int .i64 (-1), .int .i64 2] S = some (.int .i64 (within ly (-1) 2), S) := fun S => T9 (k + len + 395) S (by decide) (by decide) (by decide)
  obtain ⟨K, hK⟩ : ∃ K, within kd 0 7 = K := ⟨_, rfl⟩
  obtain ⟨L, hL⟩ : ∃ L, within ly (-1) 2 = L := ⟨_, rfl⟩
  rw [hK] at q1
  rw [hL] at q2
  obtain ⟨A4, hA4⟩ : ∃ A4, (((S3.put S.next (.cells [.int .i64 K, .int .i64 ly, .int .i64 x, .int .u32 td, .bool ky] 0 0 true)).put S.next (.cells [.int .i64 K, .int .i64 L, .int .i64 x, .int .u32 td, .bool ky] 0 0 true)).put S.next (.cells [.int .i64 K, .int .i64 L, .int .i64 (A + dA - 1), .int .u32 td, .bool ky] 0 0 true)).put S.next (.cells [.int .i64 K, .int .i64 L, .int .i64 (A + dA - 1), .int .u32 P', .bool ky] 0 0 true) = A4 := ⟨_, rfl⟩
  have u4 : Upd S3 A4 S.next (.cells [.int .i64 K, .int .i64 L, .int .i64 (A + dA - 1), .int .u32 P', .bool ky] 0 0 true) := by rw [← hA4]; exact (((Upd.one S3 S.next _).put _).put _).put _
  have r4 : ∀ v i m, A4.rd S.next v i m = rdO (.cells [.int .i64 K, .int .i64 L, .int .i64 (A + dA - 1), .int .u32 P', .bool ky] 0 0 true) v i m := rd_of u4.same
  have n4 := u4.next
  have GU : Grow S3 A4 (some (S.next, 0, 0)) := ⟨by omega, fun o' ho' hne => u4.else (fun h => hne 0 0 (by rw [h]))⟩
  have V5a : Vec A4 p5 j 5 e5 c5 := V5'.grow GU (fun o v i o' v' i' h h' => by cases h'; have := lo5 _ _ _ h; omega)
  have lq6 : ∀ o v i, q6 = some (o, v, i) → B1.next ≤ o ∨ ∃ v' i', p6 = some (o, v', i') := N6
  have W6a : Vec A4 q6 (j + 1) 5 5 (c6 ++ [.int .i64 kd, .int .i64 ly, .int .i64 x, .int .u32 td, .bool ky]) := W6.grow GU (fun o v i o' v' i' h h' => by
    cases h'
    rcases lq6 _ _ _ h with h2 | ⟨v2, i2, h2⟩
    · omega
    · have := lo6 _ _ _ h2; omega)
  obtain ⟨B4, hB4⟩ : ∃ B4, A4.alloc (.cells [.int .i64 K, .int .i64 L, .int .i64 (A + dA - 1), .int .u32 P', .bool ky] 0 0 true) = B4 := ⟨_, rfl⟩
  have eB4 : Ext A4 B4 := by rw [← hB4]; exact .alloc _ _
  have nB4 : B4.next = A4.next + 1 := by rw [← hB4]; rfl
  have rB4 : ∀ v i m, B4.rd A4.next v i m = rdO (.cells [.int .i64 K, .int .i64 L, .int .i64 (A + dA - 1), .int .u32 P', .bool ky] 0 0 true) v i m := rd_of (by rw [← hB4, St.get_alloc, if_pos rfl])
  obtain ⟨q5, S5, hap5, W5, G5, N5⟩ := (V5a.ext eB4).append (bytes := 32) (xs := [.int .i64 K, .int .i64 L, .int .i64 (A + dA - 1), .int .u32 P', .bool ky]) (n := 1) rfl (by decide) (by omega)
  have W6f : Vec S5 q6 (j + 1) 5 5 (c6 ++ [.int .i64 kd, .int .i64 ly, .int .i64 x, .int .u32 td, .bool ky]) := (W6a.ext eB4).grow G5 (fun o v i o' v' i' h h' => by
    rcases lq6 _ _ _ h with h2 | ⟨v2, i2, h2⟩
    · have := lo5 _ _ _ h'; omega
    · exact fun e => n56 _ _ _ _ _ _ h' h2 e.symm)
  have eF : Ext Sb S5 := by
    refine ⟨Nat.le_trans (by have := he.next; omega) G5.next, fun o ho => ?_⟩
    have hb := he.next
    rw [G5.old o (by omega) (fun v i h => by have := n5 _ _ _ h; omega), eB4.old o (by omega), u4.else (by omega), G6.old o (by omega) (fun v i h => by have := n6 _ _ _ h; omega), eSB.old o (by omega), he.old o ho]
  have hb := he.next
  simp -implicitDefEqProofs -dsimp (maxSteps := 10000000) only [af6_l0, ↓goes_loop, ↓goes_seq, ↓goes_reg, ↓goes_dreg, ↓goes_cond, ↓goes_block, ↓goes_skip, ↓goes_exit, ↓goes_ret, after_some, br_true, br_false, ↓then_normal, ↓then_exit, ↓then_ret, ↓blk_normal, ↓blk_exit, ↓blk_ret, ↓blk_other, ops_nil, ops_some, ops_none, oper_none, oper_some, gd_tt, gd_ff, gd_tf, gd_ft, gd_undef, ↓any_op, ↓any_call, ↓any_callV, ↓any_invoke, xo_t, xo_c, args_nil, args_cons, bin_add, bin_sub, bin_mul, bin_quo, bin_rem, bin_and, bin_or, bin_xor, bin_andNot, bin_eql, bin_neq, bin_lss, bin_leq, bin_gtr, bin_geq, bin_shl, bin_shr, bin_bools, bin_strs, bin_ptrs, bin_slices, bin_aggs, ↓Option.bind_some, ↓Option.map_some, ↓cond_true, ↓cond_false, evC, evOp, XO.lit, setArgs, Tr.get_set, Option.bind_some, Option.map_some, cond_true, cond_false, maxI, maxFrom, minI, minFrom, aConv, aBinE, aEq, eqScal, aUn, evRes, fin, oneOf, if_true, if_false, callee, reduceCtorEq, Nat.reduceEqDiff, and_self, decide_true, decide_false, beq_true, beq_false, Bool.not_true, Bool.not_false, List.getElem?_cons_zero, List.getElem?_cons_succ, beq_self_eq_true, gt_iff_lt, ble_dec, beq_dec, List.head?_cons, AV.undef, eq_self, ne_eq, not_true_eq_false, not_false_eq_true, Int.reduceLT, Int.reduceLE, Int.reduceToNat, Int.reduceEq, Int.reduceNeg, Nat.reduceAdd, Nat.reduceLT, Nat.reduceLeDiff, Nat.reduceMul, Nat.reduceSub, ↓evDraw_nil, putD, evDraw, trace, List.all_cons, List.all_nil, chk, stAt, again, sameV, sameA, AV.undef, Bool.and_self, Bool.and_true, decide_eq_true_eq, List.getElem?_nil, AV.cells, AV.tup, Bool.true_and, true_and, and_true, List.drop_nil, List.append_nil, rd_put, rd_alloc, rdO, St.get_put, St.get_alloc, St.next_put, St.next_alloc, St.wr, Bool.and_self, Bool.and_true, List.length_cons, List.length_nil, List.take_succ_cons, List.take_zero, List.drop_succ_cons, List.drop_zero, List.cons_append, List.nil_append, Nat.zero_add, Nat.add_zero, Nat.reduceMul, aFill, evParts, rep, List.replicate_succ, List.replicate_zero, List.flatten_cons, List.flatten_nil, List.append_nil, newSl, newVar, t0, t1, t5, t6, t7, t8, t12, t13, c1, hix, hz, hA1, r1, g1, m47, hx, hA2, r2, hB1, rB, hap, r3, g3, m3, hdA, wA1, wA2, m14u, hdP, hP', q1, q2, hA4, r4, hB4, rB4, hap5, wj]
  refine ⟨m, ⟨?_, ?_, ?_, eF, j + 1, q5, q6, 5, 5, _, _, A + dA - 1, P', ?_, ?_, ?_, ?_, ?_, W5, W6f, O5.snoc V5.sz (fun h => by omega) bP.1 bP.2, O6.snoc V6.sz (fun _ => by omega) d0 d1, ?_, ?_, ?_, by omega, by omega, by omega⟩, Nat.lt_succ_self m⟩
  · simp only [Tr.get_set, Nat.reduceEqDiff, if_false, if_true, t0]
  · simp only [Tr.get_set, Nat.reduceEqDiff, if_false, if_true, t1]
  · simp only [Tr.get_set, Nat.reduceEqDiff, if_false, if_true, t12]
  · simp only [Tr.get_set, Nat.reduceEqDiff, if_false, if_true]
  · simp only [Tr.get_set, Nat.reduceEqDiff, if_false, if_true]
  · simp only [Tr.get_set, Nat.reduceEqDiff, if_false, if_true]
  · simp only [Tr.get_set, Nat.reduceEqDiff, if_false, if_true]
  · simp only [Tr.get_set, Nat.reduceEqDiff, if_false, if_true]
  · intro o v i h
    rcases N5 o v i h with h2 | ⟨v2, i2, h2⟩
    · omega
    · exact n5 _ _ _ h2
  · intro o v i h
    rcases lq6 o v i h with h2 | ⟨v2, i2, h2⟩
    · omega
    · exact n6 _ _ _ h2
  · intro o v i o' v' i' h h'
    have w6 : o' < S3.next := by
      rcases W6.at_ with ⟨h2, _⟩ | ⟨o2, v2, m2, h2, h3, _⟩
      · rw [h'] at h2; cases h2
      · rw [h'] at h2; cases h2; exact h3
    rcases N5 o v i h with h2 | ⟨v2, i2, h2⟩
    · omega
    · have := lo5 _ _ _ h2
      rcases lq6 _ _ _ h' with h3 | ⟨v3, i3, h3⟩
      · omega
      · exact n56 _ _ _ _ _ _ h2 h3
set_option maxHeartbeats 4000000 in
theorem ev6 (k : Nat) (s : Int) {p : Option (Nat × Nat × Nat)} {len : Nat} {S : St} (h1 : Sl S p len ask) (hr : len * 32 ≤ 140737488351232) :
    ∃ S', evF Y AP (k + len + 400) 6 [.int .u32 s, .slice p len 5 none] S = some (.bool true, S') := by
  suffices hh : ∃ v S', evF Y AP (k + len + 400) 6 [.int .u32 s, .slice p len 5 none] S = some (v, S') ∧ v = .bool true by
    obtain ⟨v, S', h1, rfl⟩ := hh; exact ⟨S', h1⟩
  have hm := h1.max
  refine evF_goes (af := af6) (k := k + len + 399) rfl rfl rfl ?_
  simp -implicitDefEqProofs -dsimp (maxSteps := 10000000) only [af6, ↓goes_loop, ↓goes_seq, ↓goes_reg, ↓goes_dreg, ↓goes_cond, ↓goes_block, ↓goes_skip, ↓goes_exit, ↓goes_ret, after_some, br_true, br_false, ↓then_normal, ↓then_exit, ↓then_ret, ↓blk_normal, ↓blk_exit, ↓blk_ret, ↓blk_other, ops_nil, ops_some, ops_none, oper_none, oper_some, gd_tt, gd_ff, gd_tf, gd_ft, gd_undef, ↓any_op, ↓any_call, ↓any_callV, ↓any_invoke, xo_t, xo_c, args_nil, args_cons, bin_add, bin_sub, bin_mul, bin_quo, bin_rem, bin_and, bin_or, bin_xor, bin_andNot, bin_eql, bin_neq, bin_lss, bin_leq, bin_gtr, bin_geq, bin_shl, bin_shr, bin_bools, bin_strs, bin_ptrs, bin_slices, bin_aggs, ↓Option.bind_some, ↓Option.map_some, ↓cond_true, ↓cond_false, evC, evOp, XO.lit, setArgs, Tr.tabG, Tr.tabS, Tr.tabL, Tr.get_lf, Option.bind_some, Option.map_some, cond_true, cond_false, maxI, maxFrom, minI, minFrom, aConv, aBinE, aEq, eqScal, aUn, evRes, fin, oneOf, if_true, if_false, callee, reduceCtorEq, Nat.reduceEqDiff, and_self, decide_true, decide_false, beq_true, beq_false, Bool.not_true, Bool.not_false, List.getElem?_cons_zero, List.getElem?_cons_succ, beq_self_eq_true, gt_iff_lt, ble_dec, beq_dec, List.head?_cons, AV.undef, eq_self, ne_eq, not_true_eq_false, not_false_eq_true, Int.reduceLT, Int.reduceLE, Int.reduceToNat, Int.reduceEq, Int.reduceNeg, Nat.reduceAdd, Nat.reduceLT, Nat.reduceLeDiff, Nat.reduceMul, Nat.reduceSub, ↓evDraw_nil, putD, evDraw, trace, List.all_cons, List.all_nil, chk, stAt, again, sameV, sameA, AV.undef, Bool.and_self, Bool.and_true, decide_eq_true_eq, List.getElem?_nil, hm]
  refine .while (I6 s p len S) id len ⟨rfl, rfl, rfl, .refl _, 0, none, none, 0, 0, [], [], 60000, 0, rfl, rfl, rfl, rfl, rfl, .nil _ _ _, .nil _ _ _, fun i h => absurd h (Nat.not_lt_zero _), fun i h => absurd h (Nat.not_lt_zero _), fun _ _ _ h => (by cases h), fun _ _ _ h => (by cases h), fun _ _ _ _ _ _ h => (by cases h), by omega, by omega, by omega⟩ (by show len < k + len + 399; omega)
    fun m T2 S2 hI => (round6 k h1 hr m T2 S2 hI).mono ?_
  intro r T' S' hq
  cases r with
  | normal => exact hq
  | ret => exact absurd hq.1 (by simp)
  | exit i =>
    obtain ⟨hi, t0, t1, t12, he, j, p5, p6, e5, e6, c5, c6, A, P, t13, t5, t6, t7, t8, V5, V6, O5, O6, n5, n6, n56, A0, A1', hm'⟩ := hq
    cases hi
    have v6 := Aq.of_vec V6 (by omega) O6
    have v5 := Aq.of_vec V5 (by omega) O5
    have hjl : j = len := by omega
    subst hjl
    obtain ⟨S3, r3, x3⟩ := T16 (k + j + 199) (s := s) V6.ez v6
    have r3 : evF Y AP (k + j + 399) 16 [.int .u32 s, .slice p6 j e6 none] S' = _ := r3
    obtain ⟨S4, r4, x4⟩ := T16 (k + j + 199) (s := s) V5.ez (v5.ext x3)
    have r4 : evF Y AP (k + j + 399) 16 [.int .u32 s, .slice p5 j e5 none] S3 = _ := r4
    simp -implicitDefEqProofs -dsimp (maxSteps := 10000000) only [↓goes_loop, ↓goes_seq, ↓goes_reg, ↓goes_dreg, ↓goes_cond, ↓goes_block, ↓goes_skip, ↓goes_exit, ↓goes_ret, after_some, br_true, br_false, ↓then_normal, ↓then_exit, ↓then_ret, ↓blk_normal, ↓blk_exit, ↓blk_ret, ↓blk_other, ops_nil, ops_some, ops_none, oper_none, oper_some, gd_tt, gd_ff, gd_tf, gd_ft, gd_undef, ↓any_op, ↓any_call, ↓any_callV, ↓any_invoke, xo_t, xo_c, args_nil, args_cons, bin_add, bin_sub, bin_mul, bin_quo, bin_rem, bin_and, bin_or, bin_xor, bin_andNot, bin_eql, bin_neq, bin_lss, bin_leq, bin_gtr, bin_geq, bin_shl, bin_shr, bin_bools, bin_strs, bin_ptrs, bin_slices, bin_aggs, ↓Option.bind_some, ↓Option.map_some, ↓cond_true, ↓cond_false, evC, evOp, XO.lit, setArgs, Tr.get_set, Option.bind_some, Option.map_some, cond_true, cond_false, maxI, maxFrom, minI, minFrom, aConv, aBinE, aEq, eqScal, aUn, evRes, fin, oneOf, if_true, if_false, callee, reduceCtorEq, Nat.reduceEqDiff, and_self, decide_true, decide_false, beq_true, beq_false, Bool.not_true, Bool.not_false, List.getElem?_cons_zero, List.getElem?_cons_succ, beq_self_eq_true, gt_iff_lt, ble_dec, beq_dec, List.head?_cons, AV.undef, eq_self, ne_eq, not_true_eq_false, not_false_eq_true, Int.reduceLT, Int.reduceLE, Int.reduceToNat, Int.reduceEq, Int.reduceNeg, Nat.reduceAdd, Nat.reduceLT, Nat.reduceLeDiff, Nat.reduceMul, Nat.reduceSub, t0, t5, t6, r3, r4, y14]
    exact ⟨_, _, rfl, rfl⟩
theorem law6 {s : Int} (_ : (Lit.int .u32 s).wf = true) {p : Option (Nat × Nat × Nat)} {len : Nat} {xs : List AV} (h : Arg p 0 len ask xs) (hr : len * 32 ≤ 140737488351232) :
    ∃ S', evF Y AP (0 + len + 400) 6 [.int .u32 s, .slice p len 5 none] (S0.alloc (.cells xs 0 0 false)) = some (.bool true, S') :=
  ev6 0 s (.of_arg h (by rw [St.get_alloc]; rfl) (Nat.lt_succ_self 0)) hr
end Go.Proofs.YtdppaegnmdiheaaA
