/- Chapter 1: OctetBack. -/
import Derived.Test.YtgplnlhbloamaaaOcG
set_option linter.unusedVariables false
set_option linter.unusedSimpArgs false
set_option maxRecDepth 10000
namespace Go.Proofs.YtgplnlhbloamaaaA
open Go.RowKit
attribute [local congr] bind_congr1 map_congr1 cond_congr1 withX_congr after_congr br_congr gd_congr

theorem byte_split (j : Nat) (x : Int) : x % 2 ^ (8 * (j + 1)) = 2 ^ (8 * j) * (x / 2 ^ (8 * j) % 256) + x % 2 ^ (8 * j) := by
  have hp : (0 : Int) < 2 ^ (8 * j) := Int.pow_pos (by decide)
  have e : (2 : Int) ^ (8 * (j + 1)) = 2 ^ (8 * j) * 256 := by rw [show 8 * (j + 1) = 8 * j + 8 by omega, Int.pow_add]; rfl
  rw [e]
  have h1 := Int.mul_ediv_add_emod x (2 ^ (8 * j))
  have h2 := Int.mul_ediv_add_emod (x / 2 ^ (8 * j)) 256
  have h3 := Int.emod_nonneg x (Int.ne_of_gt hp)
  have h4 := Int.emod_lt_of_pos x hp
  have h5 := Int.emod_nonneg (x / 2 ^ (8 * j)) (show (256 : Int) ≠ 0 by decide)
  have h6 := Int.emod_lt_of_pos (x / 2 ^ (8 * j)) (show (0 : Int) < 256 by decide)
  have h7 : x = (2 ^ (8 * j) * 256) * (x / 2 ^ (8 * j) / 256) + (2 ^ (8 * j) * (x / 2 ^ (8 * j) % 256) + x % 2 ^ (8 * j)) := by
    conv => lhs; rw [← h1, ← h2]
    rw [Int.mul_add, Int.mul_assoc]; omega
  have h8 : 2 ^ (8 * j) * (x / 2 ^ (8 * j) % 256) ≤ 2 ^ (8 * j) * 255 := Int.mul_le_mul_of_nonneg_left (by omega) (by omega)
  have h9 : 0 ≤ 2 ^ (8 * j) * (x / 2 ^ (8 * j) % 256) := Int.mul_nonneg (by omega) h5
  conv => lhs; rw [h7]
  rw [Int.add_comm, Int.add_mul_emod_self_left, Int.emod_eq_of_lt (by omega) (by omega)]
theorem hv_be (n : Int) : ∀ (j m : Nat), ((hvF m (be n j) : Nat) : Int) = (m : Int) * 2 ^ (8 * j) + n % 2 ^ (8 * j)
  | 0, m => by simp [be, hvF]
  | j + 1, m => by
    have h5 := Int.emod_nonneg (n / 2 ^ (8 * j)) (show (256 : Int) ≠ 0 by decide)
    have e : (2 : Int) ^ (8 * (j + 1)) = 2 ^ (8 * j) * 256 := by rw [show 8 * (j + 1) = 8 * j + 8 by omega, Int.pow_add]; rfl
    rw [be, hvF_cons, hv_be n j, byte_split, e]
    have : (((m * 256 + (n / 2 ^ (8 * j) % 256).toNat : Nat) : Nat) : Int) = (m : Int) * 256 + n / 2 ^ (8 * j) % 256 := by omega
    rw [this, Int.add_mul, Int.mul_assoc, Int.mul_comm (2 ^ (8 * j)) 256, Int.mul_comm (n / 2 ^ (8 * j) % 256)]
    omega
theorem be_byt (n : Int) : ∀ j, Byt (be n j)
  | 0 => .nil
  | j + 1 => fun b hb => by
    rw [be] at hb
    rcases List.mem_cons.1 hb with rfl | hb
    · exact (u8_nat n j).2
    · exact be_byt n j b hb
/-- Bytes of another row more. -/
theorem app_by {S0 S : St} {p p2 : Option (Nat × Nat × Nat)} {e e2 : Nat} {l m : List Nat} (g : Gr S0 S p e l) (h : By S p2 e2 m) (hr : l.length + m.length ≤ 140737488355328) (c : Option Nat) :
    ∃ p' e' S', evOp (.append 1 1 (.c (.slice p l.length e none)) (.c (.slice p2 m.length e2 c))) .lf S = some (.slice p' (l ++ m).length e' none, S') ∧ Gr S0 S' p' e' (l ++ m) := by
  obtain ⟨p', e', S', h3, g'⟩ := g.app h.bd hr
  refine ⟨p', e', S', ?_, g'⟩
  rcases p2 with _ | ⟨o, v, i⟩
  · obtain rfl := h.nil rfl
    exact h3
  · obtain rfl := h.ez.resolve_left (by simp)
    obtain ⟨h4, h5⟩ := h.at_ o v i rfl
    simp only [evOp, XO.ev, Option.bind_some, if_true, Nat.mul_one, h5, h3]
theorem conv_int {k k' : IntKind} {n : Int} {S : St} : aConv (.int k) (.int k' n) S = some (.int k (k.wrap n), S) := rfl
structure I5 (vb vx : AV) (p : Option (Nat × Nat × Nat)) (e : Nat) (c : Option Nat) (q : List Nat) (n z y : Int) (Sb : St) (a m : Nat) (T : Tm) (S : St) : Prop where
  t0 : T.get 0 = some vb
  t1 : T.get 1 = some (.int .u64 n)
  t9 : T.get 9 = some (.int .i64 z)
  t10 : T.get 10 = some vx
  t11 : T.get 11 = some (.int .u64 y)
  t12 : T.get 12 = some (.bool true)
  t13 : T.get 13 = some (.slice p q.length e c)
  st : S = Sb
  more : ∃ j : Nat, T.get 14 = some (.int .i64 j) ∧ j + m = q.length ∧ a ≤ j
section
variable {S : St} {p : Option (Nat × Nat × Nat)} {e : Nat} {c : Option Nat} {l : List Nat} (k : Nat)
set_option maxHeartbeats 4000000 in
theorem round5 {vb vx : AV} {q : List Nat} {Sb : St} (h : By Sb p e q) (hr : q.length ≤ 140737488351500) {n z y : Int} {a : Nat} (hz : ∀ (j : Nat) (hj : j < q.length), a ≤ j → q[j] = 0) (m : Nat) (T : Tm) (S : St) (hI : I5 vb vx p e c q n z y Sb a m T S) :
    Goes (evF X0 AP (k + 80)) (k + 80) af5_l0 T S (Then (fun T' S' => ∃ m', I5 vb vx p e c q n z y Sb a m' T' S' ∧ id m' < id m) fun r T' S' => r = .exit 0 ∧ ∃ m', I5 vb vx p e c q n z y Sb a m' T' S') := by
  obtain ⟨t0, t1, t9, t10, t11, t12, t13, rfl, j, t14, hj, ha⟩ := hI
  have hm : q.length ≤ 9223372036854775807 := by omega
  by_cases c0 : (j : Int) < (q.length : Int)
  · have hjl : j < q.length := by omega
    rcases p with _ | ⟨o, v, i⟩
    · have := h.nil rfl; rw [this] at hjl; simp at hjl
    obtain rfl := h.ez.resolve_left (by simp)
    have hix : ixOf (.int .i64 (j : Int)) q.length = some j := by rw [ix_ok (by omega) c0]; rfl
    have hrd := h.get hjl
    rw [hz j hjl ha] at hrd
    have z0 : ((0 : Nat) : Int) = 0 := rfl
    rw [z0] at hrd
    have w1 : IntKind.i64.wrap ((j : Int) + 1) = ((j + 1 : Nat) : Int) := w64_id (by omega) (by omega)
    simp -implicitDefEqProofs -dsimp (maxSteps := 10000000) only [af5_l0, ↓goes_loop, ↓goes_seq, ↓goes_reg, ↓goes_dreg, ↓goes_cond, ↓goes_block, ↓goes_skip, ↓goes_exit, ↓goes_ret, after_some, br_true, br_false, ↓then_normal, ↓then_exit, ↓then_ret, ↓blk_normal, ↓blk_exit, ↓blk_ret, ↓blk_other, ops_nil, ops_some, ops_none, oper_none, oper_some, gd_tt, gd_ff, gd_tf, gd_ft, gd_undef, ↓any_op, ↓any_call, ↓any_callV, ↓any_invoke, xo_t, xo_c, args_nil, args_cons, bin_add, bin_sub, bin_mul, bin_quo, bin_rem, bin_and, bin_or, bin_xor, bin_andNot, bin_eql, bin_neq, bin_lss, bin_leq, bin_gtr, bin_geq, bin_shl, bin_shr, bin_bools, bin_strs, bin_ptrs, bin_slices, bin_aggs, ↓Option.bind_some, ↓Option.map_some, ↓cond_true, ↓cond_false, evC, evOp, XO.lit, setArgs, Tr.get_set, Option.bind_some, Option.map_some, cond_true, cond_false, maxI, maxFrom, minI, minFrom, aConv, aBinE, aEq, eqScal, aUn, evRes, fin, oneOf, if_true, if_false, callee, reduceCtorEq, Nat.reduceEqDiff, and_self, decide_true, decide_false, beq_true, beq_false, Bool.not_true, Bool.not_false, List.getElem?_cons_zero, List.getElem?_cons_succ, beq_self_eq_true, gt_iff_lt, ble_dec, beq_dec, List.head?_cons, AV.undef, eq_self, ne_eq, not_true_eq_false, not_false_eq_true, Int.reduceLT, Int.reduceLE, Int.reduceToNat, Int.reduceEq, Int.reduceNeg, Nat.reduceAdd, Nat.reduceLT, Nat.reduceLeDiff, Nat.reduceMul, Nat.reduceSub, AV.cells, AV.tup, Bool.true_and, true_and, and_true, List.drop_nil, List.append_nil, rd_put, rd_alloc, rdO, St.get_put, St.get_alloc, St.next_put, St.next_alloc, St.wr, Bool.and_self, Bool.and_true, List.length_cons, List.length_nil, List.take_succ_cons, List.take_zero, List.drop_succ_cons, List.drop_zero, List.cons_append, List.nil_append, Nat.zero_add, Nat.add_zero, Nat.reduceMul, t13, t14, hm, c0, hix, Nat.mul_one, hrd, w1]
    refine ⟨m - 1, ⟨?_, ?_, ?_, ?_, ?_, ?_, ?_, rfl, j + 1, ?_, by omega, by omega⟩, by simp only [id]; omega⟩
    all_goals simp only [Tr.get_set, Nat.reduceEqDiff, if_false, if_true, t0, t1, t9, t10, t11, t12, t13, t14]
  · simp -implicitDefEqProofs -dsimp (maxSteps := 10000000) only [af5_l0, ↓goes_loop, ↓goes_seq, ↓goes_reg, ↓goes_dreg, ↓goes_cond, ↓goes_block, ↓goes_skip, ↓goes_exit, ↓goes_ret, after_some, br_true, br_false, ↓then_normal, ↓then_exit, ↓then_ret, ↓blk_normal, ↓blk_exit, ↓blk_ret, ↓blk_other, ops_nil, ops_some, ops_none, oper_none, oper_some, gd_tt, gd_ff, gd_tf, gd_ft, gd_undef, ↓any_op, ↓any_call, ↓any_callV, ↓any_invoke, xo_t, xo_c, args_nil, args_cons, bin_add, bin_sub, bin_mul, bin_quo, bin_rem, bin_and, bin_or, bin_xor, bin_andNot, bin_eql, bin_neq, bin_lss, bin_leq, bin_gtr, bin_geq, bin_shl, bin_shr, bin_bools, bin_strs, bin_ptrs, bin_slices, bin_aggs, ↓Option.bind_some, ↓Option.map_some, ↓cond_true, ↓cond_false, evC, evOp, XO.lit, setArgs, Tr.get_set, Option.bind_some, Option.map_some, cond_true, cond_false, maxI, maxFrom, minI, minFrom, aConv, aBinE, aEq, eqScal, aUn, evRes, fin, oneOf, if_true, if_false, callee, reduceCtorEq, Nat.reduceEqDiff, and_self, decide_true, decide_false, beq_true, beq_false, Bool.not_true, Bool.not_false, List.getElem?_cons_zero, List.getElem?_cons_succ, beq_self_eq_true, gt_iff_lt, ble_dec, beq_dec, List.head?_cons, AV.undef, eq_self, ne_eq, not_true_eq_false, not_false_eq_true, Int.reduceLT, Int.reduceLE, Int.reduceToNat, Int.reduceEq, Int.reduceNeg, Nat.reduceAdd, Nat.reduceLT, Nat.reduceLeDiff, Nat.reduceMul, Nat.reduceSub, AV.cells, AV.tup, Bool.true_and, true_and, and_true, List.drop_nil, List.append_nil, rd_put, rd_alloc, rdO, St.get_put, St.get_alloc, St.next_put, St.next_alloc, St.wr, Bool.and_self, Bool.and_true, List.length_cons, List.length_nil, List.take_succ_cons, List.take_zero, List.drop_succ_cons, List.drop_zero, List.cons_append, List.nil_append, Nat.zero_add, Nat.add_zero, Nat.reduceMul, t13, t14, hm, c0]
    refine ⟨m, ?_, ?_, ?_, ?_, ?_, ?_, ?_, rfl, j, ?_, hj, ha⟩
    all_goals simp only [Tr.get_set, Nat.reduceEqDiff, if_false, if_true, t0, t1, t9, t10, t11, t12, t13, t14]
set_option maxHeartbeats 8000000 in
theorem ev5 {p2 : Option (Nat × Nat × Nat)} {e2 : Nat} {c2 : Option Nat} {l2 : List Nat} (h : By S p e l) (h2 : By S p2 e2 l2) (hr : l.length ≤ 1048576) (hr2 : l2.length ≤ 1048576) {n t : Int} (hn : (Lit.int .u64 n).wf = true) :
    ∃ S', evF X0 AP (k + 81) 5 [.slice p l.length e c, .int .u64 n, .int .i64 t, .slice p2 l2.length e2 c2] S = some (.bool true, S') := by
  suffices hh : ∃ v S', evF X0 AP (k + 81) 5 [.slice p l.length e c, .int .u64 n, .int .i64 t, .slice p2 l2.length e2 c2] S = some (v, S') ∧ v = .bool true by
    obtain ⟨v, S', h1, rfl⟩ := hh; exact ⟨S', h1⟩
  have hnb := wf_u64 hn
  have q1 := T10 (k + 76) S (n := t) (lo := 1) (hi := 8) (by omega) (by omega) (by omega)
  have b1 := within_bd t (lo := 1) (hi := 8) (by omega)
  obtain ⟨z, hz⟩ : ∃ z, within t 1 8 = z := ⟨_, rfl⟩
  rw [hz] at q1 b1
  have q1 : evF X0 AP (k + 80) 10 [.int .i64 t, .int .i64 1, .int .i64 8] S = _ := q1
  -- put
  obtain ⟨v1, S1, r1, hb1, x1⟩ := T11 (k + 60) (c := c) h (by omega) (n := n) (size := z) ⟨by omega, by omega⟩
  have r1 : evF X0 AP (k + 80) 11 [.slice p l.length e c, .int .u64 n, .int .i64 z] S = _ := r1
  obtain ⟨p1, e1, c1, rfl, hb1⟩ := hb1
  have hx : putL l n z = l ++ be n z.toNat := by rw [putL, if_neg (by omega)]
  have hxl : (putL l n z).length = l.length + z.toNat := by rw [hx, List.length_append, be_len]
  have hxi : ((putL l n z).length : Int) = (l.length : Int) + z := by omega
  obtain ⟨o1, u1, i1, rfl⟩ : ∃ o1 u1 i1, p1 = some (o1, u1, i1) := by
    rcases p1 with _ | ⟨o1, u1, i1⟩
    · have := hb1.nil rfl; rw [this] at hxl; simp at hxl; omega
    · exact ⟨_, _, _, rfl⟩
  obtain rfl := hb1.ez.resolve_left (by simp)
  -- a row of both
  obtain ⟨p3, e3, S3, h3, g3⟩ := fresh_app hb1 (by omega) c1
  have h23 := (h2.ext x1).ext g3.ext
  obtain ⟨p4, e4, S4, h4, g4⟩ := app_by g3 h23 (by omega) c2
  have hl4 : (putL l n z ++ l2).length ≤ 140737488351500 := by rw [List.length_append]; omega
  obtain ⟨S5, r5, x5⟩ := T12 (k + 60) (c := none) (g4.by_ (by omega)) hl4 (a := l.length) (n := z) ⟨by omega, by omega⟩ ⟨by omega, by omega⟩
  have r5 : evF X0 AP (k + 80) 12 [.slice p4 (putL l n z ++ l2).length e4 none, .int .i64 l.length, .int .i64 z] S4 = _ := r5
  have hk : cutOk (putL l n z ++ l2) l.length z := by unfold cutOk; rw [List.length_append]; omega
  have hy : getL (putL l n z ++ l2) l.length z = hv (be n z.toNat) := by
    rw [getL, if_pos ⟨hk, b1.1, b1.2⟩, cutL, if_pos hk, hx, List.append_assoc, show ((l.length : Nat) : Int).toNat = l.length from rfl, List.drop_left]
    rw [List.take_append_of_le_length (by rw [be_len]; exact Nat.le_refl _), List.take_of_length_le (by rw [be_len]; exact Nat.le_refl _)]
  have hok : getOk (putL l n z ++ l2) l.length z = true := decide_eq_true ⟨hk, b1.1, b1.2⟩
  have hyv : ((hv (be n z.toNat) : Nat) : Int) = n % 2 ^ (8 * z.toNat) := by
    have := hv_be n z.toNat 0
    simpa [hv] using this
  rw [hy, hok, hyv] at r5
  have h5 : By S5 p e l := ((h.ext x1).ext g4.ext).ext x5
  obtain ⟨v6, S6, r6, hb6, x6⟩ := T13 (k + 10) (c := c) h5 (by omega) (to := z)
  have r6 : evF X0 AP (k + 80) 13 [.slice p l.length e c, .int .i64 z] S5 = _ := r6
  obtain ⟨p6, e6, c6, rfl, hb6⟩ := hb6
  have hpl := padN_lt l.length (t := z.toNat) (by omega)
  have hP : padL l z = l ++ List.replicate (padN l.length z.toNat) 0 := by rw [padL, if_neg (by omega)]
  have hPl : (padL l z).length = l.length + padN l.length z.toNat := by rw [hP, List.length_append, List.length_replicate]
  have hP0 : ∀ (j : Nat) (hj : j < (padL l z).length), l.length ≤ j → (padL l z)[j] = 0 := by
    intro j hj hl
    simp only [hP]
    rw [List.getElem_append_right hl, List.getElem_replicate]
  have hPm : Int.tmod ((padL l z).length : Int) z = 0 := by
    rw [Int.tmod_eq_emod_of_nonneg (by omega), hPl]
    conv => lhs; rw [show z = ((z.toNat : Nat) : Int) by omega]
    have := padN_end l.length (t := z.toNat) (by omega)
    rw [← Int.natCast_emod]
    simp only [Int.toNat_natCast]
    omega
  have hPt : (padL l z).take l.length = l := by rw [hP, List.take_left]
  obtain ⟨p7, e7, c7, hcut, hb7⟩ := hb6.cut c6 (lo := none) (hi := some (.int .i64 l.length)) (a := 0) (b := l.length) (bnd_some (by omega) (by omega)) rfl (by omega) (by omega)
  rw [List.drop_zero, Nat.sub_zero, hPt] at hcut hb7
  have s7 := hb7.str c7
  have s8 := (h5.ext x6).str c
  obtain ⟨S8, r8, x8⟩ := T9 (S := S6) k
  have hm : l.length ≤ 9223372036854775807 := by omega
  have hmx : (putL l n z).length ≤ 9223372036854775807 := by omega
  have hmP : (padL l z).length ≤ 9223372036854775807 := by omega
  have w1 : IntKind.i64.wrap ((l.length : Int) + z) = (l.length : Int) + z := w64_id (by omega) (by omega)
  have d1 : ((padL l z).length : Int) < (l.length : Int) + z := by omega
  have d2 : ¬ ((padL l z).length : Int) < (l.length : Int) := by omega
  have d3 : ¬ z = 0 := by omega
  have hmn : ∀ (X : Int), (if ((padL l z).length : Int) < (l.length : Int) then ((padL l z).length : Int) else (l.length : Int)) = (l.length : Int) := fun _ => if_neg d2
  generalize hPe : padL l z = P at *
  generalize hxe : putL l n z = x at *
  refine evF_goes (af := af5) (k := k + 80) rfl rfl rfl ?_
  rcases p2 with _ | ⟨o2, u2, i2⟩
  all_goals
    simp only [evOp, XO.ev, Option.bind_some] at h3 h4
    simp -implicitDefEqProofs -dsimp (maxSteps := 10000000) only [af5, ↓goes_loop, ↓goes_seq, ↓goes_reg, ↓goes_dreg, ↓goes_cond, ↓goes_block, ↓goes_skip, ↓goes_exit, ↓goes_ret, after_some, br_true, br_false, ↓then_normal, ↓then_exit, ↓then_ret, ↓blk_normal, ↓blk_exit, ↓blk_ret, ↓blk_other, ops_nil, ops_some, ops_none, oper_none, oper_some, gd_tt, gd_ff, gd_tf, gd_ft, gd_undef, ↓any_op, ↓any_call, ↓any_callV, ↓any_invoke, xo_t, xo_c, args_nil, args_cons, bin_add, bin_sub, bin_mul, bin_quo, bin_rem, bin_and, bin_or, bin_xor, bin_andNot, bin_eql, bin_neq, bin_lss, bin_leq, bin_gtr, bin_geq, bin_shl, bin_shr, bin_bools, bin_strs, bin_ptrs, bin_slices, bin_aggs, ↓Option.bind_some, ↓Option.map_some, ↓cond_true, ↓cond_false, evC, evOp, XO.lit, setArgs, Tr.tabG, Tr.tabS, Tr.tabL, Tr.get_lf, Option.bind_some, Option.map_some, cond_true, cond_false, maxI, maxFrom, minI, minFrom, aConv, aBinE, aEq, eqScal, aUn, evRes, fin, oneOf, if_true, if_false, callee, reduceCtorEq, Nat.reduceEqDiff, and_self, decide_true, decide_false, beq_true, beq_false, Bool.not_true, Bool.not_false, List.getElem?_cons_zero, List.getElem?_cons_succ, beq_self_eq_true, gt_iff_lt, ble_dec, beq_dec, List.head?_cons, AV.undef, eq_self, ne_eq, not_true_eq_false, not_false_eq_true, Int.reduceLT, Int.reduceLE, Int.reduceToNat, Int.reduceEq, Int.reduceNeg, Nat.reduceAdd, Nat.reduceLT, Nat.reduceLeDiff, Nat.reduceMul, Nat.reduceSub, aFill, evParts, rep, List.replicate_succ, List.replicate_zero, List.flatten_cons, List.flatten_nil, List.append_nil, newSl, newVar, q1, r1, h3, h4, hm, r5, r6]
    refine .while (I5 (.slice p l.length e c) (.slice (some (o1, u1, i1)) x.length 1 c1) p6 e6 c6 P n z (n % 2 ^ (8 * z.toNat)) S6 l.length) id (P.length - l.length) ⟨rfl, rfl, rfl, rfl, rfl, rfl, rfl, rfl, l.length, rfl, by omega, Nat.le_refl _⟩
      (by show P.length - l.length < k + 80; omega) fun m T2 S3 hI => (round5 k hb6 (by omega) hP0 m T2 S3 hI).mono ?_
    intro r T' S' hq
    cases r with
    | normal => exact hq
    | ret => exact absurd hq.1 (by simp)
    | exit i =>
      obtain ⟨hi, m', t0, t1, t9, t10, t11, t12, t13, rfl, j, t14, hj, ha⟩ := hq
      cases hi
      by_cases c8 : z = 8
      · have hyn : n % 2 ^ (8 * z.toNat) = n := by
          rw [c8]; exact Int.emod_eq_of_lt hnb.1 (by show n < 18446744073709551616; omega)
        rw [hyn] at t11
        subst c8
        simp -implicitDefEqProofs -dsimp (maxSteps := 10000000) only [↓goes_loop, ↓goes_seq, ↓goes_reg, ↓goes_dreg, ↓goes_cond, ↓goes_block, ↓goes_skip, ↓goes_exit, ↓goes_ret, after_some, br_true, br_false, ↓then_normal, ↓then_exit, ↓then_ret, ↓blk_normal, ↓blk_exit, ↓blk_ret, ↓blk_other, ops_nil, ops_some, ops_none, oper_none, oper_some, gd_tt, gd_ff, gd_tf, gd_ft, gd_undef, ↓any_op, ↓any_call, ↓any_callV, ↓any_invoke, xo_t, xo_c, args_nil, args_cons, bin_add, bin_sub, bin_mul, bin_quo, bin_rem, bin_and, bin_or, bin_xor, bin_andNot, bin_eql, bin_neq, bin_lss, bin_leq, bin_gtr, bin_geq, bin_shl, bin_shr, bin_bools, bin_strs, bin_ptrs, bin_slices, bin_aggs, ↓Option.bind_some, ↓Option.map_some, ↓cond_true, ↓cond_false, evC, evOp, XO.lit, setArgs, Tr.get_set, Option.bind_some, Option.map_some, cond_true, cond_false, maxI, maxFrom, minI, minFrom, aBinE, aEq, eqScal, aUn, evRes, fin, oneOf, if_true, if_false, callee, reduceCtorEq, Nat.reduceEqDiff, and_self, decide_true, decide_false, beq_true, beq_false, Bool.not_true, Bool.not_false, List.getElem?_cons_zero, List.getElem?_cons_succ, beq_self_eq_true, gt_iff_lt, ble_dec, beq_dec, List.head?_cons, AV.undef, eq_self, ne_eq, not_true_eq_false, not_false_eq_true, Int.reduceLT, Int.reduceLE, Int.reduceToNat, Int.reduceEq, Int.reduceNeg, Nat.reduceAdd, Nat.reduceLT, Nat.reduceLeDiff, Nat.reduceMul, Nat.reduceSub, ↓evDraw_nil, putD, evDraw, trace, List.all_cons, List.all_nil, chk, stAt, again, sameV, sameA, AV.undef, Bool.and_self, Bool.and_true, decide_eq_true_eq, List.getElem?_nil, evOpt, t0, t1, t9, t10, t11, t12, t13, hm, hmx, hmP, hxi, w1, hPm, d1, d2, d3, hcut, s7, s8, r8, aStr, eqStr_refl]
        exact ⟨_, _, rfl, rfl⟩
      · have c9 : z < 8 := by omega
        have pw : (1 : Int) ≤ 2 ^ (8 * z.toNat) ∧ (2 : Int) ^ (8 * z.toNat) ≤ 72057594037927936 := by
          have h1 : 2 ^ (8 * z.toNat) ≤ 2 ^ 56 := Nat.pow_le_pow_right (by decide) (by omega)
          have h0 : 0 < 2 ^ (8 * z.toNat) := Nat.two_pow_pos _
          have h2 : ((2 ^ (8 * z.toNat) : Nat) : Int) = (2 : Int) ^ (8 * z.toNat) := by simp
          omega
        have w2 : IntKind.i64.wrap (8 * z) = 8 * z := w64_id (by omega) (by omega)
        have w3 : IntKind.u64.wrap (8 * z) = 8 * z := u64_id (by omega) (by omega)
        have sh : ¬ 8 * z < 0 := by omega
        have hs : min (8 * z).toNat IntKind.u64.bits = 8 * z.toNat := by
          show min (8 * z).toNat 64 = 8 * z.toNat
          omega
        have w4 : IntKind.u64.wrap (1 * 2 ^ (8 * z.toNat)) = 2 ^ (8 * z.toNat) := by rw [Int.one_mul]; exact u64_id (by omega) (by omega)
        have w5 : IntKind.u64.wrap (2 ^ (8 * z.toNat) - 1) = 2 ^ (8 * z.toNat) - 1 := u64_id (by omega) (by omega)
        have w6 : Go.bits .and .u64 n (2 ^ (8 * z.toNat) - 1) = n % 2 ^ (8 * z.toNat) := and_u64 _ (by omega) n
        simp -implicitDefEqProofs -dsimp (maxSteps := 10000000) only [↓goes_loop, ↓goes_seq, ↓goes_reg, ↓goes_dreg, ↓goes_cond, ↓goes_block, ↓goes_skip, ↓goes_exit, ↓goes_ret, after_some, br_true, br_false, ↓then_normal, ↓then_exit, ↓then_ret, ↓blk_normal, ↓blk_exit, ↓blk_ret, ↓blk_other, ops_nil, ops_some, ops_none, oper_none, oper_some, gd_tt, gd_ff, gd_tf, gd_ft, gd_undef, ↓any_op, ↓any_call, ↓any_callV, ↓any_invoke, xo_t, xo_c, args_nil, args_cons, bin_add, bin_sub, bin_mul, bin_quo, bin_rem, bin_and, bin_or, bin_xor, bin_andNot, bin_eql, bin_neq, bin_lss, bin_leq, bin_gtr, bin_geq, bin_shl, bin_shr, bin_bools, bin_strs, bin_ptrs, bin_slices, bin_aggs, ↓Option.bind_some, ↓Option.map_some, ↓cond_true, ↓cond_false, evC, evOp, XO.lit, setArgs, Tr.get_set, Option.bind_some, Option.map_some, cond_true, cond_false, maxI, maxFrom, minI, minFrom, aBinE, aEq, eqScal, aUn, evRes, fin, oneOf, if_true, if_false, callee, reduceCtorEq, Nat.reduceEqDiff, and_self, decide_true, decide_false, beq_true, beq_false, Bool.not_true, Bool.not_false, List.getElem?_cons_zero, List.getElem?_cons_succ, beq_self_eq_true, gt_iff_lt, ble_dec, beq_dec, List.head?_cons, AV.undef, eq_self, ne_eq, not_true_eq_false, not_false_eq_true, Int.reduceLT, Int.reduceLE, Int.reduceToNat, Int.reduceEq, Int.reduceNeg, Nat.reduceAdd, Nat.reduceLT, Nat.reduceLeDiff, Nat.reduceMul, Nat.reduceSub, ↓evDraw_nil, putD, evDraw, trace, List.all_cons, List.all_nil, chk, stAt, again, sameV, sameA, AV.undef, Bool.and_self, Bool.and_true, decide_eq_true_eq, List.getElem?_nil, evOpt, conv_int, t0, t1, t9, t10, t11, t12, t13, hm, hmx, hmP, hxi, w1, c8, c9, w2, w3, sh, hs, w4, w5, w6, hPm, d1, d2, d3, hcut, s7, s8, r8, aStr, eqStr_refl]
        exact ⟨_, _, rfl, rfl⟩
end
theorem law5 {n t : Int} {p p2 : Option (Nat × Nat × Nat)} {len len2 : Nat} {xs ys : List AV} (h : Arg p 0 len [.int .u8] xs) (hr : len ≤ 1048576) (hn : (Lit.int .u64 n).wf = true) (_ : (Lit.int .i64 t).wf = true) (h2 : Arg p2 1 len2 [.int .u8] ys) (hr2 : len2 ≤ 1048576) :
    ∃ S', evF X0 AP (0 + 81) 5 [.slice p len 1 none, .int .u64 n, .int .i64 t, .slice p2 len2 1 none] ((S0.alloc (.cells xs 0 0 false)).alloc (.cells ys 0 0 false)) = some (.bool true, S') := by
  obtain ⟨l, rfl, hb⟩ := By.of_arg (S := S0.alloc (.cells xs 0 0 false)) h (by rw [St.get_alloc]; rfl) (Nat.lt_succ_self 0)
  obtain ⟨l2, rfl, hb2⟩ := By.of_arg (S := (S0.alloc (.cells xs 0 0 false)).alloc (.cells ys 0 0 false)) h2 (by rw [St.get_alloc]; rfl) (Nat.lt_succ_self 1)
  exact ev5 0 (c := none) (c2 := none) (hb.ext (.alloc _ _)) hb2 hr hr2 hn
end Go.Proofs.YtgplnlhbloamaaaA
