/- Chapter 1: OctetTells, OctetOrder, OctetPads. -/
import Derived.Test.YtgplnlhbloamaaaOcE
set_option linter.unusedVariables false
set_option linter.unusedSimpArgs false
set_option maxRecDepth 10000
namespace Go.Proofs.YtgplnlhbloamaaaA
open Go.RowKit
attribute [local congr] bind_congr1 map_congr1 cond_congr1 withX_congr after_congr br_congr gd_congr

/-- What an argument's bytes are. -/
theorem bytes_of : ∀ (len : Nat) (xs : List AV), len ≤ xs.length → (∀ i, i < len → Scs [.int .u8] ((xs.drop (i * 1)).take 1)) → ∃ l : List Nat, l.length = len ∧ Byt l ∧ xs.take len = bv l
  | 0, xs, _, _ => ⟨[], rfl, .nil, by simp [bv]⟩
  | n + 1, [], h, _ => by simp at h
  | n + 1, x :: xs, h, hs => by
    obtain ⟨l, h1, h2, h3⟩ := bytes_of n xs (by simpa using h) fun i hi => by
      have := hs (i + 1) (by omega)
      rw [Nat.add_mul, List.drop_succ_cons] at this
      exact this
    have h0 := hs 0 (by omega)
    simp only [Nat.zero_mul, List.drop_zero, List.take_succ_cons, List.take_zero] at h0
    obtain ⟨⟨⟩⟩ | ⟨b, rfl, hb⟩ : False ∨ ∃ b : Nat, x = .int .u8 (b : Int) ∧ b < 256 := by
      cases x with
      | int k n =>
        obtain ⟨⟨rfl, hw⟩, _⟩ := h0
        have := wf_u8 hw
        exact .inr ⟨n.toNat, by congr 1; omega, by omega⟩
      | _ => exact .inl h0.1
    refine ⟨b :: l, by rw [List.length_cons, h1], fun y hy => ?_, by rw [List.take_succ_cons, h3]; rfl⟩
    rcases List.mem_cons.1 hy with rfl | hy
    · exact hb
    · exact h2 y hy
theorem By.of_arg {S : St} {p : Option (Nat × Nat × Nat)} {o len : Nat} {xs : List AV} (h : Arg p o len [.int .u8] xs) (hg : S.get o = some (.cells xs 0 0 false)) (ho : o < S.next) : ∃ l, l.length = len ∧ By S p 1 l := by
  have hle : len ≤ xs.length := by have := h.le; simpa using this
  obtain ⟨l, h1, h2, h3⟩ := bytes_of len xs hle h.el
  refine ⟨l, h1, .inr rfl, fun hp => ?_, fun o' v i hp => ?_, h2, by rw [h1]; exact h.max⟩
  · by_cases h0 : len = 0
    · exact List.length_eq_zero_iff.1 (by omega)
    · have := h.at_ h0; rw [hp] at this; cases this
  · rcases h.at0 with h4 | h4
    · rw [hp] at h4; cases h4
    · rw [hp] at h4; cases h4
      refine ⟨ho, ?_⟩
      rw [rd_cells hg (Nat.le_refl _) (by omega), List.drop_zero, h1, h3]
theorem m31 (x : Int) : Go.bits .and .i64 x 31 = x % 32 := and_i64 5 (by decide) x
theorem m15 (x : Int) : Go.bits .and .i64 x 15 = x % 16 := and_i64 4 (by decide) x
section
variable {S : St} {p : Option (Nat × Nat × Nat)} {e : Nat} {c : Option Nat} {l : List Nat} (k : Nat)
set_option maxHeartbeats 4000000 in
theorem ev4 (h : By S p e l) (hr : l.length ≤ 140737488351500) {n a z : Int} (ha : I64 a) (hz : I64 z) :
    ∃ S', evF X0 AP (k + 81) 4 [.slice p l.length e c, .int .u64 n, .int .i64 a, .int .i64 z] S = some (.bool true, S') := by
  obtain ⟨S1, r1, x1⟩ := T8 k (c := c) h hr (n := n) ha hz
  obtain ⟨S2, r2, x2⟩ := T8 k (c := c) (h.ext x1) hr (n := n) (a := a % 32) (z := z % 16) ⟨by omega, by omega⟩ ⟨by omega, by omega⟩
  have q1 := T10 (k + 76) S2 (n := a) (lo := 0) (hi := l.length) (by omega) (by omega) (by omega)
  have q2 := T10 (k + 76) S2 (n := z) (lo := 0) (hi := 9) (by omega) (by omega) (by omega)
  have b1 := within_bd a (lo := 0) (hi := l.length) (by omega)
  have b2 := within_bd z (lo := 0) (hi := 9) (by omega)
  obtain ⟨S3, r3, x3⟩ := T8 k (c := c) ((h.ext x1).ext x2) hr (n := n) (a := within a 0 l.length) (z := within z 0 9) ⟨by omega, by omega⟩ ⟨by omega, by omega⟩
  obtain ⟨S4, r4, x4⟩ := T9 (S := S3) k
  have q1 : evF X0 AP (k + 80) 10 [.int .i64 a, .int .i64 0, .int .i64 l.length] S2 = _ := q1
  have q2 : evF X0 AP (k + 80) 10 [.int .i64 z, .int .i64 0, .int .i64 9] S2 = _ := q2
  have hm : l.length ≤ 9223372036854775807 := by omega
  refine ⟨S4, ?_⟩
  rw [evF_body (af := af4) rfl rfl rfl]
  simp -implicitDefEqProofs -dsimp (maxSteps := 10000000) only [af4, ops_nil, ops_some, ops_none, oper_none, oper_some, gd_tt, gd_ff, gd_tf, gd_ft, gd_undef, ↓any_op, ↓any_call, ↓any_callV, ↓any_invoke, xo_t, xo_c, args_nil, args_cons, bin_add, bin_sub, bin_mul, bin_quo, bin_rem, bin_and, bin_or, bin_xor, bin_andNot, bin_eql, bin_neq, bin_lss, bin_leq, bin_gtr, bin_geq, bin_shl, bin_shr, bin_bools, bin_strs, bin_ptrs, bin_slices, bin_aggs, ↓Option.bind_some, ↓Option.map_some, ↓cond_true, ↓cond_false, evC, evOp, XO.lit, setArgs, Tr.tabG, Tr.tabS, Tr.tabL, Tr.get_lf, Option.bind_some, Option.map_some, cond_true, cond_false, maxI, maxFrom, minI, minFrom, aConv, aBinE, aEq, eqScal, aUn, evRes, fin, oneOf, if_true, if_false, callee, reduceCtorEq, Nat.reduceEqDiff, and_self, decide_true, decide_false, beq_true, beq_false, Bool.not_true, Bool.not_false, List.getElem?_cons_zero, List.getElem?_cons_succ, beq_self_eq_true, gt_iff_lt, ble_dec, beq_dec, List.head?_cons, AV.undef, eq_self, ne_eq, not_true_eq_false, not_false_eq_true, Int.reduceLT, Int.reduceLE, Int.reduceToNat, Int.reduceEq, Int.reduceNeg, Nat.reduceAdd, Nat.reduceLT, Nat.reduceLeDiff, Nat.reduceMul, Nat.reduceSub, ↓evDraw_nil, putD, evDraw, trace, List.all_cons, List.all_nil, chk, stAt, again, sameV, sameA, AV.undef, Bool.and_self, Bool.and_true, decide_eq_true_eq, List.getElem?_nil, m31, m15, hm, r1, r2, r3, r4, q1, q2]
theorem law4 {p : Option (Nat × Nat × Nat)} {len : Nat} {xs : List AV} (h : Arg p 0 len [.int .u8] xs) (hr : len * 1 ≤ 140737488351232) {n a z : Int} (_ : (Lit.int .u64 n).wf = true) (wa : (Lit.int .i64 a).wf = true) (wz : (Lit.int .i64 z).wf = true) :
    ∃ S', evF X0 AP (0 + 81) 4 [.slice p len 1 none, .int .u64 n, .int .i64 a, .int .i64 z] (S0.alloc (.cells xs 0 0 false)) = some (.bool true, S') := by
  obtain ⟨l, rfl, hb⟩ := By.of_arg (S := S0.alloc (.cells xs 0 0 false)) h (by rw [St.get_alloc]; rfl) (Nat.lt_succ_self 0)
  exact ev4 0 (c := none) hb (by omega) (wf_i64 wa) (wf_i64 wz)
/-! ### OctetOrder -/
theorem blt_dec (a b : Nat) : Nat.blt a b = decide (a < b) := by rw [Bool.eq_iff_iff]; simp [Nat.blt_eq]
theorem be_lt (a b : Int) (ha : 0 ≤ a) (hb : 0 ≤ b) : ∀ j, ltStr (be a j) (be b j) = decide (a % 2 ^ (8 * j) < b % 2 ^ (8 * j))
  | 0 => by simp [be, ltStr]
  | j + 1 => by
    have ih := be_lt a b ha hb j
    have hp : (0 : Int) < 2 ^ (8 * j) := Int.pow_pos (by decide)
    have e : (2 : Int) ^ (8 * (j + 1)) = 2 ^ (8 * j) * 256 := by rw [show 8 * (j + 1) = 8 * j + 8 by omega, Int.pow_add]; rfl
    have sp : ∀ x : Int, 0 ≤ x → x % (2 ^ (8 * j) * 256) = 2 ^ (8 * j) * (x / 2 ^ (8 * j) % 256) + x % 2 ^ (8 * j) := by
      intro x hx
      have h1 := Int.mul_ediv_add_emod x (2 ^ (8 * j))
      have h2 := Int.mul_ediv_add_emod (x / 2 ^ (8 * j)) 256
      have h3 := Int.emod_nonneg x (Int.ne_of_gt hp)
      have h4 := Int.emod_lt_of_pos x hp
      have h5 := Int.emod_nonneg (x / 2 ^ (8 * j)) (show (256 : Int) ≠ 0 by decide)
      have h6 := Int.emod_lt_of_pos (x / 2 ^ (8 * j)) (show (0 : Int) < 256 by decide)
      have h7 : x = (2 ^ (8 * j) * 256) * (x / 2 ^ (8 * j) / 256) + (2 ^ (8 * j) * (x / 2 ^ (8 * j) % 256) + x % 2 ^ (8 * j)) := by
        conv => lhs; rw [← h1, ← h2]
        rw [Int.mul_add, Int.mul_assoc]; omega
      have h8 : 2 ^ (8 * j) * (x / 2 ^ (8 * j) % 256) ≤ 2 ^ (8 * j) * 255 := Int.mul_le_mul_of_nonneg_left (by omega) (by omega)
      have h9 : 0 ≤ 2 ^ (8 * j) * (x / 2 ^ (8 * j) % 256) := Int.mul_nonneg (by omega) h5
      conv => lhs; rw [h7]
      rw [Int.add_comm, Int.add_mul_emod_self_left, Int.emod_eq_of_lt (by omega) (by omega)]
    rw [e, sp a ha, sp b hb]
    have hA := Int.emod_nonneg (a / 2 ^ (8 * j)) (show (256 : Int) ≠ 0 by decide)
    have hB := Int.emod_nonneg (b / 2 ^ (8 * j)) (show (256 : Int) ≠ 0 by decide)
    have ra := Int.emod_nonneg a (Int.ne_of_gt hp)
    have ra' := Int.emod_lt_of_pos a hp
    have rb := Int.emod_nonneg b (Int.ne_of_gt hp)
    have rb' := Int.emod_lt_of_pos b hp
    rw [be, be]
    generalize a / 2 ^ (8 * j) % 256 = x at *
    generalize b / 2 ^ (8 * j) % 256 = y at *
    generalize a % 2 ^ (8 * j) = u at *
    generalize b % 2 ^ (8 * j) = v at *
    generalize (2 : Int) ^ (8 * j) = P at *
    rcases Int.lt_trichotomy x y with h | h | h
    · have : P * (x + 1) ≤ P * y := Int.mul_le_mul_of_nonneg_left (by omega) (by omega)
      rw [Int.mul_add, Int.mul_one] at this
      rw [decide_eq_true (by omega)]
      simp only [ltStr]
      simp only [blt_dec, show x.toNat < y.toNat by omega, decide_true, Bool.true_or]
    · subst h
      simp only [ltStr, ih, blt_dec]
      simp
    · have : P * (y + 1) ≤ P * x := Int.mul_le_mul_of_nonneg_left (by omega) (by omega)
      rw [Int.mul_add, Int.mul_one] at this
      rw [decide_eq_false (by omega)]
      simp only [ltStr]
      have h1 : ¬ x.toNat < y.toNat := by omega
      have h2 : ¬ x.toNat = y.toNat := by omega
      simp [blt_dec, h1, h2]
theorem be8_lt {a b : Int} (ha : (Lit.int .u64 a).wf = true) (hb : (Lit.int .u64 b).wf = true) : ltStr (be a 8) (be b 8) = decide (a < b) := by
  have h1 := wf_u64 ha; have h2 := wf_u64 hb
  rw [be_lt a b h1.1 h2.1]
  rw [Int.emod_eq_of_lt h1.1 (by omega), Int.emod_eq_of_lt h2.1 (by omega)]
set_option maxHeartbeats 4000000 in
theorem ev6 (h : By S p e l) (hr : l.length ≤ 140737488351500) {a b t : Int} (ha : (Lit.int .u64 a).wf = true) (hb : (Lit.int .u64 b).wf = true) :
    ∃ S', evF X0 AP (k + 81) 6 [.int .u64 a, .int .u64 b, .slice p l.length e c, .int .i64 t] S = some (.bool true, S') := by
  have q1 := T10 (k + 76) S (n := t) (lo := 0) (hi := l.length) (by omega) (by omega) (by omega)
  have b1 := within_bd t (lo := 0) (hi := l.length) (by omega)
  obtain ⟨m, hm⟩ : ∃ m, within t 0 l.length = m := ⟨_, rfl⟩
  rw [hm] at q1 b1
  obtain ⟨v1, S1, r1, b1', x1⟩ := T14 (k + 76) (c := c) h hr (a := 0) (n := m) ⟨by omega, by omega⟩ ⟨by omega, by omega⟩
  have h1 := h.ext x1
  obtain ⟨v2, S2, r2, b2, x2⟩ := T14 (k + 76) (c := c) h1 hr (a := m) (n := l.length - m) ⟨by omega, by omega⟩ ⟨by omega, by omega⟩
  have h2 := h1.ext x2
  obtain ⟨v3, S3, r3, b3, x3⟩ := T14 (k + 76) (c := c) h2 hr (a := m) (n := l.length - m + 1) ⟨by omega, by omega⟩ ⟨by omega, by omega⟩
  have h3 := h2.ext x3
  obtain ⟨v4, S4, r4, b4, x4⟩ := T11 (k + 60) (c := none) (By.zero S3 0) (by decide) (n := a) (size := 8) ⟨by decide, by decide⟩
  obtain ⟨v5, S5, r5, b5, x5⟩ := T11 (k + 60) (c := none) (By.zero S4 0) (by decide) (n := b) (size := 8) ⟨by decide, by decide⟩
  obtain ⟨S6, r6, x6⟩ := T9 (S := S5) k
  have k1 : cutOk l 0 m := by unfold cutOk; omega
  have k2 : cutOk l m (l.length - m) := by unfold cutOk; omega
  have k3 : ¬ cutOk l m (l.length - m + 1) := by unfold cutOk; omega
  rw [decide_eq_true k1] at r1
  rw [decide_eq_true k2] at r2
  rw [decide_eq_false k3] at r3
  have s1 := ((((b1'.ext x2).ext x3).ext x4).ext x5).str
  have s2 := (((b2.ext x3).ext x4).ext x5).str
  have s4 := b4.str
  have s4' := (b4.ext x5).str
  have s5 := b5.str
  have s6 := ((h3.ext x4).ext x5).str c
  have p1 : putL [] a 8 = be a 8 := rfl
  have p2 : putL [] b 8 = be b 8 := rfl
  rw [p1] at s4 s4'
  rw [p2] at s5
  have hl := be8_lt ha hb
  have hc : cutL l 0 m ++ cutL l m (l.length - m) = l := by
    have e1 : (l.drop m.toNat).take (l.length - m).toNat = l.drop m.toNat := List.take_of_length_le (by rw [List.length_drop]; omega)
    rw [cutL, if_pos k1, cutL, if_pos k2, e1, show (0 : Int).toNat = 0 from rfl, List.drop_zero, List.take_append_drop]
  have hcl : (cutL l 0 m).length + (cutL l m (l.length - m)).length ≤ 9223372036854775807 := by
    rw [cutL_len k1, cutL_len k2]; omega
  have w1 : IntKind.i64.wrap ((l.length : Int) - m) = (l.length : Int) - m := w64_id (by omega) (by omega)
  have w2 : IntKind.i64.wrap ((l.length : Int) - m + 1) = (l.length : Int) - m + 1 := w64_id (by omega) (by omega)
  have hml : l.length ≤ 9223372036854775807 := by omega
  have q1 : evF X0 AP (k + 80) 10 [.int .i64 t, .int .i64 0, .int .i64 l.length] S = _ := q1
  have r1 : evF X0 AP (k + 80) 14 [.slice p l.length e c, .int .i64 0, .int .i64 m] S = _ := r1
  have r2 : evF X0 AP (k + 80) 14 [.slice p l.length e c, .int .i64 m, .int .i64 (l.length - m)] S1 = _ := r2
  have r3 : evF X0 AP (k + 80) 14 [.slice p l.length e c, .int .i64 m, .int .i64 (l.length - m + 1)] S2 = _ := r3
  have r4 : evF X0 AP (k + 80) 11 [.slice none 0 0 none, .int .u64 a, .int .i64 8] S3 = _ := r4
  have r5 : evF X0 AP (k + 80) 11 [.slice none 0 0 none, .int .u64 b, .int .i64 8] S4 = _ := r5
  refine ⟨S6, ?_⟩
  rw [evF_body (af := af6) rfl rfl rfl]
  simp -implicitDefEqProofs -dsimp (maxSteps := 10000000) only [af6, ops_nil, ops_some, ops_none, oper_none, oper_some, gd_tt, gd_ff, gd_tf, gd_ft, gd_undef, ↓any_op, ↓any_call, ↓any_callV, ↓any_invoke, xo_t, xo_c, args_nil, args_cons, bin_add, bin_sub, bin_mul, bin_quo, bin_rem, bin_and, bin_or, bin_xor, bin_andNot, bin_eql, bin_neq, bin_lss, bin_leq, bin_gtr, bin_geq, bin_shl, bin_shr, bin_bools, bin_strs, bin_ptrs, bin_slices, bin_aggs, ↓Option.bind_some, ↓Option.map_some, ↓cond_true, ↓cond_false, evC, evOp, XO.lit, setArgs, Tr.tabG, Tr.tabS, Tr.tabL, Tr.get_lf, Option.bind_some, Option.map_some, cond_true, cond_false, maxI, maxFrom, minI, minFrom, aBinE, aEq, eqScal, aUn, evRes, fin, oneOf, if_true, if_false, callee, reduceCtorEq, Nat.reduceEqDiff, and_self, decide_true, decide_false, beq_true, beq_false, Bool.not_true, Bool.not_false, List.getElem?_cons_zero, List.getElem?_cons_succ, beq_self_eq_true, gt_iff_lt, ble_dec, beq_dec, List.head?_cons, AV.undef, eq_self, ne_eq, not_true_eq_false, not_false_eq_true, Int.reduceLT, Int.reduceLE, Int.reduceToNat, Int.reduceEq, Int.reduceNeg, Nat.reduceAdd, Nat.reduceLT, Nat.reduceLeDiff, Nat.reduceMul, Nat.reduceSub, ↓evDraw_nil, putD, evDraw, trace, List.all_cons, List.all_nil, chk, stAt, again, sameV, sameA, AV.undef, Bool.and_self, Bool.and_true, decide_eq_true_eq, List.getElem?_nil, hml, r1, r2, r3, r4, r5, r6, q1, w1, w2, s1, s2, s4, s4', s5, s6, aStr, eqStr_refl, hl, hcl, hc]
theorem law6 {a b t : Int} (wa : (Lit.int .u64 a).wf = true) (wb : (Lit.int .u64 b).wf = true) {p : Option (Nat × Nat × Nat)} {len : Nat} {xs : List AV} (h : Arg p 0 len [.int .u8] xs) (hr : len * 1 ≤ 140737488351232) (_ : (Lit.int .i64 t).wf = true) :
    ∃ S', evF X0 AP (0 + 81) 6 [.int .u64 a, .int .u64 b, .slice p len 1 none, .int .i64 t] (S0.alloc (.cells xs 0 0 false)) = some (.bool true, S') := by
  obtain ⟨l, rfl, hb⟩ := By.of_arg (S := S0.alloc (.cells xs 0 0 false)) h (by rw [St.get_alloc]; rfl) (Nat.lt_succ_self 0)
  exact ev6 0 (c := none) hb (by omega) wa wb
end
end Go.Proofs.YtgplnlhbloamaaaA
