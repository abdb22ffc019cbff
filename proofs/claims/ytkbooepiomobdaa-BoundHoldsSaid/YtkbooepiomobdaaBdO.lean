/- Chapter 13: BoundHolds, BoundMore, BoundTurned. -/
import Derived.Test.YtkbooepiomobdaaBdN
set_option linter.unusedVariables false
set_option linter.unusedSimpArgs false
set_option maxRecDepth 10000
namespace Go.Proofs.YtkbooepiomobdaaA
open Go.RowKit
attribute [local congr] bind_congr1 map_congr1 cond_congr1 withX_congr after_congr br_congr gd_congr

theorem filter_lt {p q : Tp → Bool} : ∀ {l : List Tp} {x : Tp}, (∀ t ∈ l, q t = true → p t = true) → x ∈ l → p x = true → q x = false → (l.filter q).length < (l.filter p).length
  | [], x, _, h, _, _ => by cases h
  | t :: l, x, h, hx, hp, hq => by
    have hle : (l.filter q).length ≤ (l.filter p).length := by
      have : ∀ {l : List Tp}, (∀ t ∈ l, q t = true → p t = true) → (l.filter q).length ≤ (l.filter p).length := by
        intro l
        induction l with
        | nil => intro _; exact Nat.le_refl _
        | cons t l ih =>
          intro h
          have := ih fun x hx => h x (List.mem_cons_of_mem _ hx)
          by_cases c : q t = true
          · rw [List.filter_cons_of_pos c, List.filter_cons_of_pos (h t List.mem_cons_self c), List.length_cons, List.length_cons]; omega
          · rw [List.filter_cons_of_neg c]
            by_cases d : p t = true
            · rw [List.filter_cons_of_pos d, List.length_cons]; omega
            · rw [List.filter_cons_of_neg d]; exact this
      exact this fun x hx => h x (List.mem_cons_of_mem _ hx)
    rcases List.mem_cons.1 hx with rfl | hx'
    · rw [List.filter_cons_of_pos hp, List.filter_cons_of_neg (by rw [hq]; decide), List.length_cons]; omega
    · have ih := filter_lt (fun y hy => h y (List.mem_cons_of_mem _ hy)) hx' hp hq
      by_cases c : q t = true
      · rw [List.filter_cons_of_pos c, List.filter_cons_of_pos (h t List.mem_cons_self c), List.length_cons, List.length_cons]; omega
      · rw [List.filter_cons_of_neg c]
        by_cases d : p t = true
        · rw [List.filter_cons_of_pos d, List.length_cons]; omega
        · rw [List.filter_cons_of_neg d]; exact ih
theorem Chain.len {l : List Tp} {s : Tp} {c : List Tp} (h : Chain l s c) (hs : s ∈ l) : c.length ≤ (l.filter fun t => decide (s.v ≤ t.v)).length := by
  induction h with
  | stop s h => exact List.length_pos_iff.2 fun e => by have : s ∈ l.filter fun t => decide (s.v ≤ t.v) := List.mem_filter.2 ⟨hs, decide_eq_true (Int.le_refl _)⟩; rw [e] at this; cases this
  | step s c h0 h1 h2 ih =>
    obtain ⟨hb1, hb2⟩ := best_mem h0
    have := ih hb1
    have := filter_lt (l := l) (x := s) (p := fun t => decide (s.v ≤ t.v)) (q := fun t => decide ((bestP l s).v ≤ t.v)) (fun t _ h => by rw [decide_eq_true_eq] at h ⊢; omega) hs (decide_eq_true (Int.le_refl _)) (decide_eq_false (by omega))
    rw [List.length_cons]; omega
theorem Chain.last {l : List Tp} {s : Tp} {c : List Tp} (h : Chain l s c) : ∀ t ∈ c, restP l t ≠ [] → ¬ meets l t → ∀ u ∈ c, u.v ≤ t.v := by
  induction h with
  | stop s h => intro t ht _ _ u hu; rw [List.mem_singleton.1 ht, List.mem_singleton.1 hu]; exact Int.le_refl _
  | step s c h0 h1 h2 ih =>
    intro t ht h3 h4 u hu
    rcases List.mem_cons.1 ht with e1 | ht'
    · exact absurd h1 (e1 ▸ h4)
    · rcases List.mem_cons.1 hu with e2 | hu'
      · have hb := (best_mem h0).2
        rw [e2]
        rcases h2.above t ht' with e3 | h
        · rw [e3]; omega
        · omega
      · exact ih t ht' h3 h4 u hu'
theorem map_held {s : List Tp} (h : ∀ t ∈ s, OkH t) : s.map heldT = s := by
  induction s with
  | nil => rfl
  | cons t s ih => rw [List.map_cons, (h t List.mem_cons_self).held, ih fun x hx => h x (List.mem_cons_of_mem _ hx)]
/-- What is known of what bounds. -/
structure SetK (l s : List Tp) : Prop where
  ok : ∀ t ∈ s, OkH t
  ne : s ≠ []
  le : s.length ≤ l.length
  holds : ∀ n, 0 ≤ n → holdsP s n = holdsP l n
  again : SetP s s
  up : ∀ j, j + 1 < s.length → ∃ a b, s[j]? = some a ∧ s[j + 1]? = some b ∧ a.v < b.v ∧ a.r ≤ b.r
  head : ∃ a d, s = a :: d ∧ a.r = rateP l
theorem SetP.known {l s : List Tp} (h : SetP l s) (hl : ∀ t ∈ l, OkT t) (h0 : l ≠ []) : SetK l s := by
  have hc : Chain (l.map heldT) (minL (ltI leastI) (l.map heldT)) s := by
    rcases h with ⟨h, _⟩ | ⟨_, h⟩
    · exact absurd h h0
    · exact h
  have hL := held_all hl
  have hlen : (l.map heldT).length = l.length := List.length_map _
  have hne : l.map heldT ≠ [] := fun e => h0 (List.map_eq_nil_iff.1 e)
  have hm := minL_mem (ltI leastI) hne
  have hmin := minL_le ord_least (l := l.map heldT) (fun _ _ => trivial)
  have hinv := least_inv (l := l.map heldT)
  have hrate : (minL (ltI leastI) (l.map heldT)).r = rateP l := by
    rw [← rate_same h0]
    refine eq_of_le fun v => ?_
    unfold rateR
    rw [le_fold]
    constructor
    · intro hv
      have := (hL _ hm).r1
      refine ⟨by omega, fun t ht => ?_⟩
      have := hmin t ht
      rw [← Bool.not_eq_true, least_lt] at this
      omega
    · intro ⟨_, hv⟩; exact hv _ hm
  obtain ⟨L, hLe⟩ : ∃ L, l.map heldT = L := ⟨_, rfl⟩
  rw [hLe] at hc hL hlen hne hm hmin hinv hrate
  obtain ⟨s0, hs0⟩ : ∃ s0, minL (ltI leastI) L = s0 := ⟨_, rfl⟩
  rw [hs0] at hc hm hmin hinv hrate
  have hsub := hc.sub hm
  obtain ⟨d, hd⟩ := hc.head
  have ok : ∀ t ∈ s, OkH t := fun t ht => hL t (hsub t ht)
  have h0s : s0 ∈ s := by rw [hd]; exact List.mem_cons_self
  refine ⟨ok, by rw [hd]; simp, ?_, fun n n0 => ?_, .inr ⟨by rw [hd]; simp, ?_⟩, hc.rises hinv, s0, d, hd, hrate⟩
  · have := hc.len hm
    have := List.length_filter_le (fun t : Tp => decide (s0.v ≤ t.v)) L
    omega
  · unfold holdsP
    rw [map_held ok, hLe]
    have x0 : 0 ≤ mn n 4294967296 := by unfold mn; split <;> omega
    refine eq_of_le fun v => ?_
    rw [le_fold, le_fold]
    constructor
    · intro ⟨h1, h2⟩
      refine ⟨h1, fun t ht => ?_⟩
      obtain ⟨u, hu, hle⟩ := hc.covers (y := 8 * mn n 4294967296) (by omega) hm (hL _ hm).v0 (fun t ht hv => by
        have hle := hmin t ht
        rw [← Bool.not_eq_true, least_lt] at hle
        have h1 : t.v * (8 * mn n 4294967296) ≤ s0.v * (8 * mn n 4294967296) := Int.mul_le_mul_of_nonneg_right hv (by omega)
        omega) t ht
      exact Int.le_trans (h2 u hu) hle
    · intro ⟨h1, h2⟩
      exact ⟨h1, fun t ht => h2 t (hsub t ht)⟩
  · rw [map_held ok]
    have hms : minL (ltI leastI) s = s0 := minL_eq ord_least (fun _ _ => trivial) h0s fun t ht => hmin t (hsub t ht)
    rw [hms]
    have hy : ∀ t ∈ s, restP L t ≠ [] → ¬ meets L t → restP s t = [] := fun t ht h1 h2 => by
      cases hr : restP s t with
      | nil => rfl
      | cons a r =>
        have ha := mem_rest.1 (show a ∈ restP s t by rw [hr]; exact List.mem_cons_self)
        have := hc.last t ht h1 h2 a ha.1
        omega
    refine hc.part (fun t ht => ht) (fun t ht _ => hsub t ht) ?_ fun t ht h1 h2 => .inl (hy t ht h1 h2)
    by_cases c1 : restP L s0 = []
    · exact .inl c1
    · by_cases c2 : meets L s0
      · exact .inr (.inl c2)
      · exact .inr (.inr (.inl (hy s0 h0s c1 c2)))
/-! ### BoundHolds -/
structure I5a (v9 : AV) (p : Option (Nat × Nat × Nat)) (c : Option Nat) (e n : Nat) (pm : Option (Nat × Nat × Nat)) (lm : Nat) (Sb : St) (m : Nat) (T : Tm) (S : St) : Prop where
  t9 : T.get 9 = some v9
  t10 : T.get 10 = some (.slice p n e c)
  t3 : T.get 3 = some (.slice pm lm 1 none)
  ext : Ext Sb S
  more : ∃ j : Nat, T.get 11 = some (.int .i64 j) ∧ j + m = 20
set_option maxHeartbeats 4000000 in
theorem round5a (k : Nat) {p q : Option (Nat × Nat × Nat)} {c d : Option Nat} {e f : Nat} {s l : List Tp} {pm : Option (Nat × Nat × Nat)} {lm : Nat} {Sb : St} (hs : Ty Sb p e s) (hl : Ty Sb q f l) (hm : Sl Sb pm lm [.int .u64]) (hn : l.length ≤ 1000) (okl : ∀ t ∈ l, OkT t) (K : SetK l s) (m : Nat) (T : Tm) (S : St) (hI : I5a (.slice q l.length f d) p c e s.length pm lm Sb m T S) :
    Goes (evF Y AP (k + 1106)) (k + 1106) af5_l1 T S (Then (fun T' S' => ∃ m', I5a (.slice q l.length f d) p c e s.length pm lm Sb m' T' S' ∧ id m' < id m) fun r T' S' => r = .exit 0 ∧ ∃ m', I5a (.slice q l.length f d) p c e s.length pm lm Sb m' T' S') := by
  obtain ⟨t9, t10, t3, ex, j, t11, hjm⟩ := hI
  have hmx := hm.max
  by_cases c1 : (j : Int) < (lm : Int)
  rotate_left
  · simp -implicitDefEqProofs -dsimp (maxSteps := 10000000) only [af5_l1, ↓goes_loop, ↓goes_seq, ↓goes_reg, ↓goes_dreg, ↓goes_cond, ↓goes_block, ↓goes_skip, ↓goes_exit, ↓goes_ret, after_some, br_true, br_false, ↓then_normal, ↓then_exit, ↓then_ret, ↓blk_normal, ↓blk_exit, ↓blk_ret, ↓blk_other, ops_nil, ops_some, ops_none, oper_none, oper_some, gd_tt, gd_ff, gd_tf, gd_ft, gd_undef, ↓any_op, ↓any_call, ↓any_callV, ↓any_invoke, xo_t, xo_c, args_nil, args_cons, bin_add, bin_sub, bin_mul, bin_quo, bin_rem, bin_and, bin_or, bin_xor, bin_andNot, bin_eql, bin_neq, bin_lss, bin_leq, bin_gtr, bin_geq, bin_shl, bin_shr, bin_bools, bin_strs, bin_ptrs, bin_slices, bin_aggs, ↓Option.bind_some, ↓Option.map_some, ↓cond_true, ↓cond_false, evC, evOp, XO.lit, setArgs, Tr.get_set, Option.bind_some, Option.map_some, cond_true, cond_false, maxI, maxFrom, minI, minFrom, aConv, aBinE, aEq, eqScal, aUn, evRes, fin, oneOf, if_true, if_false, callee, reduceCtorEq, Nat.reduceEqDiff, and_self, decide_true, decide_false, beq_true, beq_false, Bool.not_true, Bool.not_false, List.getElem?_cons_zero, List.getElem?_cons_succ, beq_self_eq_true, gt_iff_lt, ble_dec, beq_dec, List.head?_cons, AV.undef, eq_self, ne_eq, not_true_eq_false, not_false_eq_true, Int.reduceLT, Int.reduceLE, Int.reduceToNat, Int.reduceEq, Int.reduceNeg, Nat.reduceAdd, Nat.reduceLT, Nat.reduceLeDiff, Nat.reduceMul, Nat.reduceSub, AV.cells, AV.tup, Bool.true_and, true_and, and_true, List.drop_nil, List.append_nil, rd_put, rd_alloc, rdO, St.get_put, St.get_alloc, St.next_put, St.next_alloc, St.wr, Bool.and_self, Bool.and_true, List.length_cons, List.length_nil, List.take_succ_cons, List.take_zero, List.drop_succ_cons, List.drop_zero, List.cons_append, List.nil_append, Nat.zero_add, Nat.add_zero, Nat.reduceMul, t3, t11, hmx, c1]
    refine ⟨m, ?_, ?_, ?_, ex, j, ?_, hjm⟩ <;> simp only [Tr.get_set, Nat.reduceEqDiff, if_false, if_true, t3, t9, t10, t11]
  by_cases c2 : (j : Int) < 20
  rotate_left
  · simp -implicitDefEqProofs -dsimp (maxSteps := 10000000) only [af5_l1, ↓goes_loop, ↓goes_seq, ↓goes_reg, ↓goes_dreg, ↓goes_cond, ↓goes_block, ↓goes_skip, ↓goes_exit, ↓goes_ret, after_some, br_true, br_false, ↓then_normal, ↓then_exit, ↓then_ret, ↓blk_normal, ↓blk_exit, ↓blk_ret, ↓blk_other, ops_nil, ops_some, ops_none, oper_none, oper_some, gd_tt, gd_ff, gd_tf, gd_ft, gd_undef, ↓any_op, ↓any_call, ↓any_callV, ↓any_invoke, xo_t, xo_c, args_nil, args_cons, bin_add, bin_sub, bin_mul, bin_quo, bin_rem, bin_and, bin_or, bin_xor, bin_andNot, bin_eql, bin_neq, bin_lss, bin_leq, bin_gtr, bin_geq, bin_shl, bin_shr, bin_bools, bin_strs, bin_ptrs, bin_slices, bin_aggs, ↓Option.bind_some, ↓Option.map_some, ↓cond_true, ↓cond_false, evC, evOp, XO.lit, setArgs, Tr.get_set, Option.bind_some, Option.map_some, cond_true, cond_false, maxI, maxFrom, minI, minFrom, aConv, aBinE, aEq, eqScal, aUn, evRes, fin, oneOf, if_true, if_false, callee, reduceCtorEq, Nat.reduceEqDiff, and_self, decide_true, decide_false, beq_true, beq_false, Bool.not_true, Bool.not_false, List.getElem?_cons_zero, List.getElem?_cons_succ, beq_self_eq_true, gt_iff_lt, ble_dec, beq_dec, List.head?_cons, AV.undef, eq_self, ne_eq, not_true_eq_false, not_false_eq_true, Int.reduceLT, Int.reduceLE, Int.reduceToNat, Int.reduceEq, Int.reduceNeg, Nat.reduceAdd, Nat.reduceLT, Nat.reduceLeDiff, Nat.reduceMul, Nat.reduceSub, AV.cells, AV.tup, Bool.true_and, true_and, and_true, List.drop_nil, List.append_nil, rd_put, rd_alloc, rdO, St.get_put, St.get_alloc, St.next_put, St.next_alloc, St.wr, Bool.and_self, Bool.and_true, List.length_cons, List.length_nil, List.take_succ_cons, List.take_zero, List.drop_succ_cons, List.drop_zero, List.cons_append, List.nil_append, Nat.zero_add, Nat.add_zero, Nat.reduceMul, t3, t11, hmx, c1, c2]
    refine ⟨m, ?_, ?_, ?_, ex, j, ?_, hjm⟩ <;> simp only [Tr.get_set, Nat.reduceEqDiff, if_false, if_true, t3, t9, t10, t11]
  obtain ⟨o, v, i, rfl, ho⟩ := hm.at_ (by omega)
  obtain ⟨x, hx, wx⟩ := hm.int (j := (j : Int)) (by omega) c1
  rw [show ((j : Nat) : Int).toNat = j from rfl, Nat.mul_one] at hx
  have hz : S.rd o v (i + j) 1 = some [.int .u64 x] := by rw [ex.rd ho]; exact hx
  have hix : ixOf (.int .i64 (j : Int)) lm = some j := by rw [ix_ok (by omega) c1]; rfl
  have wj : IntKind.i64.wrap ((j : Int) + 1) = ((j + 1 : Nat) : Int) := w64_id (by omega) (by omega)
  have y0 : 0 ≤ x % 65536 := by omega
  obtain ⟨S1, r1, x1⟩ := T13 (k + 4) (c := c) (hs.ext ex) (by have := K.le; omega) (fun t ht => (K.ok t ht).ok) y0
  have r1 : evF Y AP (k + 1106) 13 [.slice p s.length e c, .int .u64 (x % 65536)] S = _ := r1
  obtain ⟨S2, r2, x2⟩ := T13 (k + 4) (c := d) (hl.ext (ex.trans x1)) hn okl y0
  have r2 : evF Y AP (k + 1106) 13 [.slice q l.length f d, .int .u64 (x % 65536)] S1 = _ := r2
  rw [K.holds _ y0] at r1
  simp -implicitDefEqProofs -dsimp (maxSteps := 10000000) only [af5_l1, ↓goes_loop, ↓goes_seq, ↓goes_reg, ↓goes_dreg, ↓goes_cond, ↓goes_block, ↓goes_skip, ↓goes_exit, ↓goes_ret, after_some, br_true, br_false, ↓then_normal, ↓then_exit, ↓then_ret, ↓blk_normal, ↓blk_exit, ↓blk_ret, ↓blk_other, ops_nil, ops_some, ops_none, oper_none, oper_some, gd_tt, gd_ff, gd_tf, gd_ft, gd_undef, ↓any_op, ↓any_call, ↓any_callV, ↓any_invoke, xo_t, xo_c, args_nil, args_cons, bin_add, bin_sub, bin_mul, bin_quo, bin_rem, bin_and, bin_or, bin_xor, bin_andNot, bin_eql, bin_neq, bin_lss, bin_leq, bin_gtr, bin_geq, bin_shl, bin_shr, bin_bools, bin_strs, bin_ptrs, bin_slices, bin_aggs, ↓Option.bind_some, ↓Option.map_some, ↓cond_true, ↓cond_false, evC, evOp, XO.lit, setArgs, Tr.get_set, Option.bind_some, Option.map_some, cond_true, cond_false, maxI, maxFrom, minI, minFrom, aConv, aBinE, aEq, eqScal, aUn, evRes, fin, oneOf, if_true, if_false, callee, reduceCtorEq, Nat.reduceEqDiff, and_self, decide_true, decide_false, beq_true, beq_false, Bool.not_true, Bool.not_false, List.getElem?_cons_zero, List.getElem?_cons_succ, beq_self_eq_true, gt_iff_lt, ble_dec, beq_dec, List.head?_cons, AV.undef, eq_self, ne_eq, not_true_eq_false, not_false_eq_true, Int.reduceLT, Int.reduceLE, Int.reduceToNat, Int.reduceEq, Int.reduceNeg, Nat.reduceAdd, Nat.reduceLT, Nat.reduceLeDiff, Nat.reduceMul, Nat.reduceSub, AV.cells, AV.tup, Bool.true_and, true_and, and_true, List.drop_nil, List.append_nil, rd_put, rd_alloc, rdO, St.get_put, St.get_alloc, St.next_put, St.next_alloc, St.wr, Bool.and_self, Bool.and_true, List.length_cons, List.length_nil, List.take_succ_cons, List.take_zero, List.drop_succ_cons, List.drop_zero, List.cons_append, List.nil_append, Nat.zero_add, Nat.add_zero, Nat.reduceMul, t3, t9, t10, t11, hmx, c1, c2, hix, Nat.mul_one, hz, m65535u, r1, r2, wj]
  refine ⟨m - 1, ⟨?_, ?_, ?_, ex.trans (x1.trans x2), j + 1, ?_, by omega⟩, by show m - 1 < m; omega⟩ <;> simp only [Tr.get_set, Nat.reduceEqDiff, if_false, if_true, t3, t9, t10]
structure I5b (p : Option (Nat × Nat × Nat)) (c : Option Nat) (e n : Nat) (Sb : St) (m : Nat) (T : Tm) (S : St) : Prop where
  st : S = Sb
  t10 : T.get 10 = some (.slice p n e c)
  t63 : T.get 63 = some (.int .i64 n)
  more : ∃ j : Nat, T.get 64 = some (.int .i64 j) ∧ j + m = n
set_option maxHeartbeats 4000000 in
theorem round5b (k : Nat) {p : Option (Nat × Nat × Nat)} {c : Option Nat} {e : Nat} {s l : List Tp} {Sb : St} (hs : Ty Sb p e s) (K : SetK l s) (m : Nat) (T : Tm) (S : St) (hI : I5b p c e s.length Sb m T S) :
    Goes (evF Y AP (k + 1106)) (k + 1106) af5_l0 T S (Then (fun T' S' => ∃ m', I5b p c e s.length Sb m' T' S' ∧ id m' < id m) fun r T' S' => r = .exit 2 ∧ I5b p c e s.length Sb 0 T' S') := by
  obtain ⟨rfl, t10, t63, j, t64, hm⟩ := hI
  by_cases c1 : (j : Int) < (s.length : Int)
  rotate_left
  · simp -implicitDefEqProofs -dsimp (maxSteps := 10000000) only [af5_l0, ↓goes_loop, ↓goes_seq, ↓goes_reg, ↓goes_dreg, ↓goes_cond, ↓goes_block, ↓goes_skip, ↓goes_exit, ↓goes_ret, after_some, br_true, br_false, ↓then_normal, ↓then_exit, ↓then_ret, ↓blk_normal, ↓blk_exit, ↓blk_ret, ↓blk_other, ops_nil, ops_some, ops_none, oper_none, oper_some, gd_tt, gd_ff, gd_tf, gd_ft, gd_undef, ↓any_op, ↓any_call, ↓any_callV, ↓any_invoke, xo_t, xo_c, args_nil, args_cons, bin_add, bin_sub, bin_mul, bin_quo, bin_rem, bin_and, bin_or, bin_xor, bin_andNot, bin_eql, bin_neq, bin_lss, bin_leq, bin_gtr, bin_geq, bin_shl, bin_shr, bin_bools, bin_strs, bin_ptrs, bin_slices, bin_aggs, ↓Option.bind_some, ↓Option.map_some, ↓cond_true, ↓cond_false, evC, evOp, XO.lit, setArgs, Tr.get_set, Option.bind_some, Option.map_some, cond_true, cond_false, maxI, maxFrom, minI, minFrom, aConv, aBinE, aEq, eqScal, aUn, evRes, fin, oneOf, if_true, if_false, callee, reduceCtorEq, Nat.reduceEqDiff, and_self, decide_true, decide_false, beq_true, beq_false, Bool.not_true, Bool.not_false, List.getElem?_cons_zero, List.getElem?_cons_succ, beq_self_eq_true, gt_iff_lt, ble_dec, beq_dec, List.head?_cons, AV.undef, eq_self, ne_eq, not_true_eq_false, not_false_eq_true, Int.reduceLT, Int.reduceLE, Int.reduceToNat, Int.reduceEq, Int.reduceNeg, Nat.reduceAdd, Nat.reduceLT, Nat.reduceLeDiff, Nat.reduceMul, Nat.reduceSub, AV.cells, AV.tup, Bool.true_and, true_and, and_true, List.drop_nil, List.append_nil, rd_put, rd_alloc, rdO, St.get_put, St.get_alloc, St.next_put, St.next_alloc, St.wr, Bool.and_self, Bool.and_true, List.length_cons, List.length_nil, List.take_succ_cons, List.take_zero, List.drop_succ_cons, List.drop_zero, List.cons_append, List.nil_append, Nat.zero_add, Nat.add_zero, Nat.reduceMul, t63, t64, c1]
    refine ⟨rfl, ?_, ?_, j, ?_, by omega⟩ <;> simp only [Tr.get_set, Nat.reduceEqDiff, if_false, if_true, t10, t63, t64]
  have hj : j < s.length := by omega
  have wj : IntKind.i64.wrap ((j : Int) + 1) = ((j + 1 : Nat) : Int) := w64_id (by omega) (by have := hs.mx; omega)
  obtain ⟨o, v, i, rfl, rfl, ho⟩ := hs.some_ (by omega)
  by_cases c2 : (0 : Int) < (j : Int)
  · obtain ⟨j', rfl⟩ : ∃ j', j = j' + 1 := ⟨j - 1, by omega⟩
    obtain ⟨a, b, ha, hb, hv, hr⟩ := K.up j' hj
    have hz : S.rd o v (i + j' * 3) 3 = some [.int .u32 s[j'].o, .int .u64 s[j'].r, .int .i64 s[j'].v] := hs.get (by omega)
    have hy : S.rd o v (i + (j' + 1) * 3) 3 = some [.int .u32 s[j' + 1].o, .int .u64 s[j' + 1].r, .int .i64 s[j' + 1].v] := hs.get hj
    have ha' : s[j'] = a := by rw [List.getElem?_eq_getElem (by omega)] at ha; exact Option.some.inj ha
    have hb' : s[j' + 1] = b := by rw [List.getElem?_eq_getElem hj] at hb; exact Option.some.inj hb
    rw [ha'] at hz
    rw [hb'] at hy
    have z1 : S.rd o v (i + j' * 3 + 1) 1 = some [.int .u64 a.r] := rd_sub (m := 1) (l := 1) hz (by show 1 + 1 ≤ 3; decide)
    have z2 : S.rd o v (i + j' * 3 + 2) 1 = some [.int .i64 a.v] := rd_sub (m := 2) (l := 1) hz (by show 2 + 1 ≤ 3; decide)
    have y1 : S.rd o v (i + (j' + 1) * 3 + 1) 1 = some [.int .u64 b.r] := rd_sub (m := 1) (l := 1) hy (by show 1 + 1 ≤ 3; decide)
    have y2 : S.rd o v (i + (j' + 1) * 3 + 2) 1 = some [.int .i64 b.v] := rd_sub (m := 2) (l := 1) hy (by show 2 + 1 ≤ 3; decide)
    have wd : IntKind.i64.wrap (((j' + 1 : Nat) : Int) - 1) = (j' : Int) := by rw [show ((j' + 1 : Nat) : Int) - 1 = (j' : Int) by omega]; exact w64_id (by omega) (by have := hs.mx; omega)
    have i1 : ixOf (.int .i64 ((j' + 1 : Nat) : Int)) s.length = some (j' + 1) := by rw [ix_ok (by omega) c1]; rfl
    have i0 : ixOf (.int .i64 (j' : Int)) s.length = some j' := by rw [ix_ok (by omega) (by omega)]; rfl
    have n1 : ¬ b.v ≤ a.v := by omega
    have n2 : ¬ b.r < a.r := by omega
    simp -implicitDefEqProofs -dsimp (maxSteps := 10000000) only [af5_l0, ↓goes_loop, ↓goes_seq, ↓goes_reg, ↓goes_dreg, ↓goes_cond, ↓goes_block, ↓goes_skip, ↓goes_exit, ↓goes_ret, after_some, br_true, br_false, ↓then_normal, ↓then_exit, ↓then_ret, ↓blk_normal, ↓blk_exit, ↓blk_ret, ↓blk_other, ops_nil, ops_some, ops_none, oper_none, oper_some, gd_tt, gd_ff, gd_tf, gd_ft, gd_undef, ↓any_op, ↓any_call, ↓any_callV, ↓any_invoke, xo_t, xo_c, args_nil, args_cons, bin_add, bin_sub, bin_mul, bin_quo, bin_rem, bin_and, bin_or, bin_xor, bin_andNot, bin_eql, bin_neq, bin_lss, bin_leq, bin_gtr, bin_geq, bin_shl, bin_shr, bin_bools, bin_strs, bin_ptrs, bin_slices, bin_aggs, ↓Option.bind_some, ↓Option.map_some, ↓cond_true, ↓cond_false, evC, evOp, XO.lit, setArgs, Tr.get_set, Option.bind_some, Option.map_some, cond_true, cond_false, maxI, maxFrom, minI, minFrom, aConv, aBinE, aEq, eqScal, aUn, evRes, fin, oneOf, if_true, if_false, callee, reduceCtorEq, Nat.reduceEqDiff, and_self, decide_true, decide_false, beq_true, beq_false, Bool.not_true, Bool.not_false, List.getElem?_cons_zero, List.getElem?_cons_succ, beq_self_eq_true, gt_iff_lt, ble_dec, beq_dec, List.head?_cons, AV.undef, eq_self, ne_eq, not_true_eq_false, not_false_eq_true, Int.reduceLT, Int.reduceLE, Int.reduceToNat, Int.reduceEq, Int.reduceNeg, Nat.reduceAdd, Nat.reduceLT, Nat.reduceLeDiff, Nat.reduceMul, Nat.reduceSub, ↓evDraw_nil, bir, putD, evDraw, trace, List.all_cons, List.all_nil, chk, stAt, again, sameV, sameL, sameA, AV.undef, Bool.and_self, Bool.and_true, decide_eq_true_eq, List.getElem?_nil, AV.cells, AV.tup, Bool.true_and, true_and, and_true, List.drop_nil, List.append_nil, rd_put, rd_alloc, rdO, St.get_put, St.get_alloc, St.next_put, St.next_alloc, St.wr, Bool.and_self, Bool.and_true, List.length_cons, List.length_nil, List.take_succ_cons, List.take_zero, List.drop_succ_cons, List.drop_zero, List.cons_append, List.nil_append, Nat.zero_add, Nat.add_zero, Nat.reduceMul, t10, t63, t64, c1, c2, i1, y1, y2, wd, i0, z1, z2, n1, n2, wj]
    refine ⟨m - 1, ⟨rfl, ?_, ?_, j' + 1 + 1, ?_, by omega⟩, by show m - 1 < m; omega⟩ <;> simp only [Tr.get_set, Nat.reduceEqDiff, if_false, if_true, t10, t63]
  · simp -implicitDefEqProofs -dsimp (maxSteps := 10000000) only [af5_l0, ↓goes_loop, ↓goes_seq, ↓goes_reg, ↓goes_dreg, ↓goes_cond, ↓goes_block, ↓goes_skip, ↓goes_exit, ↓goes_ret, after_some, br_true, br_false, ↓then_normal, ↓then_exit, ↓then_ret, ↓blk_normal, ↓blk_exit, ↓blk_ret, ↓blk_other, ops_nil, ops_some, ops_none, oper_none, oper_some, gd_tt, gd_ff, gd_tf, gd_ft, gd_undef, ↓any_op, ↓any_call, ↓any_callV, ↓any_invoke, xo_t, xo_c, args_nil, args_cons, bin_add, bin_sub, bin_mul, bin_quo, bin_rem, bin_and, bin_or, bin_xor, bin_andNot, bin_eql, bin_neq, bin_lss, bin_leq, bin_gtr, bin_geq, bin_shl, bin_shr, bin_bools, bin_strs, bin_ptrs, bin_slices, bin_aggs, ↓Option.bind_some, ↓Option.map_some, ↓cond_true, ↓cond_false, evC, evOp, XO.lit, setArgs, Tr.get_set, Option.bind_some, Option.map_some, cond_true, cond_false, maxI, maxFrom, minI, minFrom, aConv, aBinE, aEq, eqScal, aUn, evRes, fin, oneOf, if_true, if_false, callee, reduceCtorEq, Nat.reduceEqDiff, and_self, decide_true, decide_false, beq_true, beq_false, Bool.not_true, Bool.not_false, List.getElem?_cons_zero, List.getElem?_cons_succ, beq_self_eq_true, gt_iff_lt, ble_dec, beq_dec, List.head?_cons, AV.undef, eq_self, ne_eq, not_true_eq_false, not_false_eq_true, Int.reduceLT, Int.reduceLE, Int.reduceToNat, Int.reduceEq, Int.reduceNeg, Nat.reduceAdd, Nat.reduceLT, Nat.reduceLeDiff, Nat.reduceMul, Nat.reduceSub, ↓evDraw_nil, bir, putD, evDraw, trace, List.all_cons, List.all_nil, chk, stAt, again, sameV, sameL, sameA, AV.undef, Bool.and_self, Bool.and_true, decide_eq_true_eq, List.getElem?_nil, AV.cells, AV.tup, Bool.true_and, true_and, and_true, List.drop_nil, List.append_nil, rd_put, rd_alloc, rdO, St.get_put, St.get_alloc, St.next_put, St.next_alloc, St.wr, Bool.and_self, Bool.and_true, List.length_cons, List.length_nil, List.take_succ_cons, List.take_zero, List.drop_succ_cons, List.drop_zero, List.cons_append, List.nil_append, Nat.zero_add, Nat.add_zero, Nat.reduceMul, t10, t63, t64, c1, c2, wj]
    refine ⟨m - 1, ⟨rfl, ?_, ?_, j + 1, ?_, by omega⟩, by show m - 1 < m; omega⟩ <;> simp only [Tr.get_set, Nat.reduceEqDiff, if_false, if_true, t10, t63]
set_option maxHeartbeats 8000000 in
theorem ev5 (k : Nat) {pt : Option (Nat × Nat × Nat)} {lt : Nat} {n pk : Int} {pm : Option (Nat × Nat × Nat)} {lm : Nat} {S : St} (ht : Sl S pt lt [.int .i64]) (hpt : ∀ o v i, pt = some (o, v, i) → o < S.next) (hm : Sl S pm lm [.int .u64]) (pk0 : 0 ≤ pk) :
    ∃ S', evF Y AP (k + 1107) 5 [.slice pt lt 1 none, .int .i64 n, .int .u64 pk, .slice pm lm 1 none] S = some (.bool true, S') := by
  suffices hh : ∃ v S', evF Y AP (k + 1107) 5 [.slice pt lt 1 none, .int .i64 n, .int .u64 pk, .slice pm lm 1 none] S = some (v, S') ∧ v = .bool true by
    obtain ⟨v, S', h1, rfl⟩ := hh; exact ⟨S', h1⟩
  obtain ⟨nn, hnn⟩ : ∃ nn : Nat, 1 + n % 8 = (nn : Int) := ⟨(1 + n % 8).toNat, by omega⟩
  have w1 : IntKind.i64.wrap (1 + n % 8) = (nn : Int) := by rw [hnn]; exact w64_id (by omega) (by omega)
  obtain ⟨pr, er, row, S1, r8, G1, hrl, okr⟩ := T8 (k + 4) ht hpt (n := nn) (by omega)
  have r8 : evF Y AP (k + 1106) 8 [.slice pt lt 1 none, .int .i64 nn] S = _ := r8
  have okr' : ∀ t ∈ row, OkT t := fun t ht => (okr t ht).ok
  have tyr := G1.ty (by omega)
  have hne : row ≠ [] := fun e => by rw [e, List.length_nil] at hrl; omega
  obtain ⟨ps, es, cs, S2, s, r12, tys, x2, hs, hsl⟩ := T12 (k + 4) (c := none) tyr (by omega) okr'
  have r12 : evF Y AP (k + 1106) 12 [.slice pr row.length er none] S1 = _ := r12
  have K := hs.known okr' hne
  have hle := K.le
  have oks : ∀ t ∈ s, OkT t := fun t ht => (K.ok t ht).ok
  have hs0 : 0 < s.length := List.length_pos_iff.2 K.ne
  obtain ⟨S3, h13, x3⟩ := T13 (k + 4) (c := cs) tys (by omega) oks pk0
  have h13 : evF Y AP (k + 1106) 13 [.slice ps s.length es cs, .int .u64 pk] S2 = _ := h13
  obtain ⟨S4, h13', x4⟩ := T13 (k + 4) (c := none) (tyr.ext (x2.trans x3)) (by omega) okr' pk0
  have h13' : evF Y AP (k + 1106) 13 [.slice pr row.length er none, .int .u64 pk] S3 = _ := h13'
  rw [K.holds _ pk0] at h13
  have a1 : s.length ≤ 9223372036854775807 := by omega
  have a2 : nn ≤ 9223372036854775807 := by omega
  have a3 : ¬ (s.length : Int) = 0 := by omega
  have a4 : ¬ (nn : Int) < (s.length : Int) := by omega
  have e4 := (G1.ext.trans x2).trans (x3.trans x4)
  rw [hrl] at r12 h13'
  refine evF_goes (af := af5) (k := k + 1106) rfl rfl rfl ?_
  simp -implicitDefEqProofs -dsimp (maxSteps := 10000000) only [af5, ↓goes_loop, ↓goes_seq, ↓goes_reg, ↓goes_dreg, ↓goes_cond, ↓goes_block, ↓goes_skip, ↓goes_exit, ↓goes_ret, after_some, br_true, br_false, ↓then_normal, ↓then_exit, ↓then_ret, ↓blk_normal, ↓blk_exit, ↓blk_ret, ↓blk_other, ops_nil, ops_some, ops_none, oper_none, oper_some, gd_tt, gd_ff, gd_tf, gd_ft, gd_undef, ↓any_op, ↓any_call, ↓any_callV, ↓any_invoke, xo_t, xo_c, args_nil, args_cons, bin_add, bin_sub, bin_mul, bin_quo, bin_rem, bin_and, bin_or, bin_xor, bin_andNot, bin_eql, bin_neq, bin_lss, bin_leq, bin_gtr, bin_geq, bin_shl, bin_shr, bin_bools, bin_strs, bin_ptrs, bin_slices, bin_aggs, ↓Option.bind_some, ↓Option.map_some, ↓cond_true, ↓cond_false, evC, evOp, XO.lit, setArgs, Tr.tabG, Tr.tabS, Tr.tabL, Tr.get_lf, Option.bind_some, Option.map_some, cond_true, cond_false, maxI, maxFrom, minI, minFrom, aConv, aBinE, aEq, eqScal, aUn, evRes, fin, oneOf, if_true, if_false, callee, reduceCtorEq, Nat.reduceEqDiff, and_self, decide_true, decide_false, beq_true, beq_false, Bool.not_true, Bool.not_false, List.getElem?_cons_zero, List.getElem?_cons_succ, beq_self_eq_true, gt_iff_lt, ble_dec, beq_dec, List.head?_cons, AV.undef, eq_self, ne_eq, not_true_eq_false, not_false_eq_true, Int.reduceLT, Int.reduceLE, Int.reduceToNat, Int.reduceEq, Int.reduceNeg, Nat.reduceAdd, Nat.reduceLT, Nat.reduceLeDiff, Nat.reduceMul, Nat.reduceSub, m7i, w1, r8, r12, a1, a2, a3, a4, h13, h13']
  refine .while (I5a (.slice pr row.length er none) ps cs es s.length pm lm S4) id 20 ⟨by rw [hrl]; rfl, rfl, rfl, .refl _, 0, rfl, rfl⟩ (by show 20 < k + 1106; omega) fun m2 T2 S5 h2 => (round5a k (tys.ext (x3.trans x4)) (tyr.ext (x2.trans (x3.trans x4))) (hm.ext e4) (by omega) okr' K m2 T2 S5 h2).mono ?_
  intro r T' S' hq
  cases r with
  | normal => exact hq
  | ret => exact absurd hq.1 (by simp)
  | exit i =>
    obtain ⟨hi, m', t9, t10, t3, ex5, j, t11, hjm⟩ := hq
    cases hi
    simp -implicitDefEqProofs -dsimp (maxSteps := 10000000) only [↓goes_loop, ↓goes_seq, ↓goes_reg, ↓goes_dreg, ↓goes_cond, ↓goes_block, ↓goes_skip, ↓goes_exit, ↓goes_ret, after_some, br_true, br_false, ↓then_normal, ↓then_exit, ↓then_ret, ↓blk_normal, ↓blk_exit, ↓blk_ret, ↓blk_other, ops_nil, ops_some, ops_none, oper_none, oper_some, gd_tt, gd_ff, gd_tf, gd_ft, gd_undef, ↓any_op, ↓any_call, ↓any_callV, ↓any_invoke, xo_t, xo_c, args_nil, args_cons, bin_add, bin_sub, bin_mul, bin_quo, bin_rem, bin_and, bin_or, bin_xor, bin_andNot, bin_eql, bin_neq, bin_lss, bin_leq, bin_gtr, bin_geq, bin_shl, bin_shr, bin_bools, bin_strs, bin_ptrs, bin_slices, bin_aggs, ↓Option.bind_some, ↓Option.map_some, ↓cond_true, ↓cond_false, evC, evOp, XO.lit, setArgs, Tr.get_set, Option.bind_some, Option.map_some, cond_true, cond_false, maxI, maxFrom, minI, minFrom, aConv, aBinE, aEq, eqScal, aUn, evRes, fin, oneOf, if_true, if_false, callee, reduceCtorEq, Nat.reduceEqDiff, and_self, decide_true, decide_false, beq_true, beq_false, Bool.not_true, Bool.not_false, List.getElem?_cons_zero, List.getElem?_cons_succ, beq_self_eq_true, gt_iff_lt, ble_dec, beq_dec, List.head?_cons, AV.undef, eq_self, ne_eq, not_true_eq_false, not_false_eq_true, Int.reduceLT, Int.reduceLE, Int.reduceToNat, Int.reduceEq, Int.reduceNeg, Nat.reduceAdd, Nat.reduceLT, Nat.reduceLeDiff, Nat.reduceMul, Nat.reduceSub, t10, a1]
    have tys5 := tys.ext (x3.trans (x4.trans ex5))
    refine .while (I5b ps cs es s.length S') id s.length ⟨rfl, ?_, ?_, 0, ?_, by omega⟩ (by show s.length < k + 1106; omega) fun m2 T2 S6 h2 => (round5b k tys5 K m2 T2 S6 h2).mono ?_
    iterate 3 (first | focus (simp only [Tr.get_set, Nat.reduceEqDiff, if_false, if_true, t10, Int.natCast_zero]; done) | skip)
    intro r T' S'' hq
    cases r with
    | normal => exact hq
    | ret => exact absurd hq.1 (by simp)
    | exit i =>
      obtain ⟨hi, rfl, t10, t63, j, t64, hjm⟩ := hq
      cases hi
      obtain ⟨p2, e2, c2, S7, s2, r12', ty2, x7, hs2, hsl2⟩ := T12 (k + 4) (c := cs) tys5 (by omega) oks
      have r12' : evF Y AP (k + 1106) 12 [.slice ps s.length es cs] S'' = _ := r12'
      have := hs2.det K.again
      subst this
      have r14 : evF Y AP (k + 1106) 14 [.slice p2 s2.length e2 c2, .slice ps s2.length es cs] S7 = _ := T14 (k + 4) (c := c2) (c' := cs) ty2 (tys5.ext x7) (by omega)
      simp -implicitDefEqProofs -dsimp (maxSteps := 10000000) only [↓goes_loop, ↓goes_seq, ↓goes_reg, ↓goes_dreg, ↓goes_cond, ↓goes_block, ↓goes_skip, ↓goes_exit, ↓goes_ret, after_some, br_true, br_false, ↓then_normal, ↓then_exit, ↓then_ret, ↓blk_normal, ↓blk_exit, ↓blk_ret, ↓blk_other, ops_nil, ops_some, ops_none, oper_none, oper_some, gd_tt, gd_ff, gd_tf, gd_ft, gd_undef, ↓any_op, ↓any_call, ↓any_callV, ↓any_invoke, xo_t, xo_c, args_nil, args_cons, bin_add, bin_sub, bin_mul, bin_quo, bin_rem, bin_and, bin_or, bin_xor, bin_andNot, bin_eql, bin_neq, bin_lss, bin_leq, bin_gtr, bin_geq, bin_shl, bin_shr, bin_bools, bin_strs, bin_ptrs, bin_slices, bin_aggs, ↓Option.bind_some, ↓Option.map_some, ↓cond_true, ↓cond_false, evC, evOp, XO.lit, setArgs, Tr.get_set, Option.bind_some, Option.map_some, cond_true, cond_false, maxI, maxFrom, minI, minFrom, aConv, aBinE, aEq, eqScal, aUn, evRes, fin, oneOf, if_true, if_false, callee, reduceCtorEq, Nat.reduceEqDiff, and_self, decide_true, decide_false, beq_true, beq_false, Bool.not_true, Bool.not_false, List.getElem?_cons_zero, List.getElem?_cons_succ, beq_self_eq_true, gt_iff_lt, ble_dec, beq_dec, List.head?_cons, AV.undef, eq_self, ne_eq, not_true_eq_false, not_false_eq_true, Int.reduceLT, Int.reduceLE, Int.reduceToNat, Int.reduceEq, Int.reduceNeg, Nat.reduceAdd, Nat.reduceLT, Nat.reduceLeDiff, Nat.reduceMul, Nat.reduceSub, t10, r12', r14, y11]
      exact ⟨_, _, rfl, rfl⟩
theorem law5 {n pk : Int} {p1 p2 : Option (Nat × Nat × Nat)} {n1 n2 : Nat} {xs ys : List AV} (h1 : Arg p1 0 n1 [.int .i64] xs) (_ : (Lit.int .i64 n).wf = true) (wk : (Lit.int .u64 pk).wf = true) (h2 : Arg p2 1 n2 [.int .u64] ys) :
    ∃ S', evF Y AP (0 + 1107) 5 [.slice p1 n1 1 none, .int .i64 n, .int .u64 pk, .slice p2 n2 1 none] ((S0.alloc (.cells xs 0 0 false)).alloc (.cells ys 0 0 false)) = some (.bool true, S') := by
  refine ev5 0 (.of_arg h1 (by simp only [St.get_alloc]; rfl) (by show 0 < 2; decide)) (fun o v i hp => ?_) (.of_arg h2 (by rw [St.get_alloc]; rfl) (by show 1 < 2; decide)) (wf_u64 wk).1
  rcases h1.at0 with h0 | h0
  · rw [hp] at h0; cases h0
  · rw [hp] at h0; cases h0; show 0 < 2; decide
end Go.Proofs.YtkbooepiomobdaaA
