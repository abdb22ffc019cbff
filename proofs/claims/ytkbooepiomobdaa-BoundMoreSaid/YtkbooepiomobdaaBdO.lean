/- Chapter 13: BoundHolds, BoundMore, BoundTurned. -/
import Derived.Test.YtkbooepiomobdaaBdN
set_option linter.unusedVariables false
set_option linter.unusedSimpArgs false
set_option maxRecDepth 10000
namespace Go.Proofs.YtkbooepiomobdaaA
open Go.RowKit
attribute [local congr] bind_congr1 map_congr1 cond_congr1 withX_congr after_congr br_congr gd_congr

theorem filter_lt {p q : Tp → Bool} : ∀ {l : List Tp} {x : Tp}, (∀ t ∈ l, q t = true → p t = true) → x ∈ l → p x = true → q x = false → (l.filter q).length < (l.filter p).length
  | [], x, _, h, _, _ => by cases h
  | t :: l, x, h, hx, hp, hq => by
    have hle : (l.filter q).length ≤ (l.filter p).length := by
      have : ∀ {l : List Tp}, (∀ t ∈ l, q t = true → p t = true) → (l.filter q).length ≤ (l.filter p).length := by
        intro l
        induction l with
        | nil => intro _; exact Nat.le_refl _
        | cons t l ih =>
          intro h
          have := ih fun x hx => h x (List.mem_cons_of_mem _ hx)
          by_cases c : q t = true
          · rw [List.filter_cons_of_pos c, List.filter_cons_of_pos (h t List.mem_cons_self c), List.length_cons, List.length_cons]; omega
          · rw [List.filter_cons_of_neg c]
            by_cases d : p t = true
            · rw [List.filter_cons_of_pos d, List.length_cons]; omega
            · rw [List.filter_cons_of_neg d]; exact this
      exact this fun x hx => h x (List.mem_cons_of_mem _ hx)
    rcases List.mem_cons.1 hx with rfl | hx'
    · rw [List.filter_cons_of_pos hp, List.filter_cons_of_neg (by rw [hq]; decide), List.length_cons]; omega
    · have ih := filter_lt (fun y hy => h y (List.mem_cons_of_mem _ hy)) hx' hp hq
      by_cases c : q t = true
      · rw [List.filter_cons_of_pos c, List.filter_cons_of_pos (h t List.mem_cons_self c), List.length_cons, List.length_cons]; omega
      · rw [List.filter_cons_of_neg c]
        by_cases d : p t = true
        · rw [List.filter_cons_of_pos d, List.length_cons]; omega
        · rw [List.filter_cons_of_neg d]; exact ih
theorem Chain.len {l : List Tp} {s : Tp} {c : List Tp} (h : Chain l s c) (hs : s ∈ l) : c.length ≤ (l.filter fun t => decide (s.v ≤ t.v)).length := by
  induction h with
  | stop s h => exact List.length_pos_iff.2 fun e => by have : s ∈ l.filter fun t => decide (s.v ≤ t.v) := List.mem_filter.2 ⟨hs, decide_eq_true (Int.le_refl _)⟩; rw [e] at this; cases this
  | step s c h0 h1 h2 ih =>
    obtain ⟨hb1, hb2⟩ := best_mem h0
    have := ih hb1
    have := filter_lt (l := l) (x := s) (p := fun t => decide (s.v ≤ t.v)) (q := fun t => decide ((bestP l s).v ≤ t.v)) (fun t _ h => by rw [decide_eq_true_eq] at h ⊢; omega) hs (decide_eq_true (Int.le_refl _)) (decide_eq_false (by omega))
    rw [List.length_cons]; omega
theorem Chain.last {l : List Tp} {s : Tp} {c : List Tp} (h : Chain l s c) : ∀ t ∈ c, restP l t ≠ [] → ¬ meets l t → ∀ u ∈ c, u.v ≤ t.v := by
  induction h with
  | stop s h => intro t ht _ _ u hu; rw [List.mem_singleton.1 ht, List.mem_singleton.1 hu]; exact Int.le_refl _
  | step s c h0 h1 h2 ih =>
    intro t ht h3 h4 u hu
    rcases List.mem_cons.1 ht with e1 | ht'
    · exact absurd h1 (e1 ▸ h4)
    · rcases List.mem_cons.1 hu with e2 | hu'
      · have hb := (best_mem h0).2
        rw [e2]
        rcases h2.above t ht' with e3 | h
        · rw [e3]; omega
        · omega
      · exact ih t ht' h3 h4 u hu'
theorem map_held {s : List Tp} (h : ∀ t ∈ s, OkH t) : s.map heldT = s := by
  induction s with
  | nil => rfl
  | cons t s ih => rw [List.map_cons, (h t List.mem_cons_self).held, ih fun x hx => h x (List.mem_cons_of_mem _ hx)]
/-- What is known of what bounds. -/
structure SetK (l s : List Tp) : Prop where
  ok : ∀ t ∈ s, OkH t
  ne : s ≠ []
  le : s.length ≤ l.length
  holds : ∀ n, 0 ≤ n → holdsP s n = holdsP l n
  again : SetP s s
  up : ∀ j, j + 1 < s.length → ∃ a b, s[j]? = some a ∧ s[j + 1]? = some b ∧ a.v < b.v ∧ a.r ≤ b.r
  head : ∃ a d, s = a :: d ∧ a.r = rateP l
theorem SetP.known {l s : List Tp} (h : SetP l s) (hl : ∀ t ∈ l, OkT t) (h0 : l ≠ []) : SetK l s := by
  have hc : Chain (l.map heldT) (minL (ltI leastI) (l.map heldT)) s := by
    rcases h with ⟨h, _⟩ | ⟨_, h⟩
    · exact absurd h h0
    · exact h
  have hL := held_all hl
  have hlen : (l.map heldT).length = l.length := List.length_map _
  have hne : l.map heldT ≠ [] := fun e => h0 (List.map_eq_nil_iff.1 e)
  have hm := minL_mem (ltI leastI) hne
  have hmin := minL_le ord_least (l := l.map heldT) (fun _ _ => trivial)
  have hinv := least_inv (l := l.map heldT)
  have hrate : (minL (ltI leastI) (l.map heldT)).r = rateP l := by
    rw [← rate_same h0]
    refine eq_of_le fun v => ?_
    unfold rateR
    rw [le_fold]
    constructor
    · intro hv
      have := (hL _ hm).r1
      refine ⟨by omega, fun t ht => ?_⟩
      have := hmin t ht
      rw [← Bool.not_eq_true, least_lt] at this
      omega
    · intro ⟨_, hv⟩; exact hv _ hm
  obtain ⟨L, hLe⟩ : ∃ L, l.map heldT = L := ⟨_, rfl⟩
  rw [hLe] at hc hL hlen hne hm hmin hinv hrate
  obtain ⟨s0, hs0⟩ : ∃ s0, minL (ltI leastI) L = s0 := ⟨_, rfl⟩
  rw [hs0] at hc hm hmin hinv hrate
  have hsub := hc.sub hm
  obtain ⟨d, hd⟩ := hc.head
  have ok : ∀ t ∈ s, OkH t := fun t ht => hL t (hsub t ht)
  have h0s : s0 ∈ s := by rw [hd]; exact List.mem_cons_self
  refine ⟨ok, by rw [hd]; simp, ?_, fun n n0 => ?_, .inr ⟨by rw [hd]; simp, ?_⟩, hc.rises hinv, s0, d, hd, hrate⟩
  · have := hc.len hm
    have := List.length_filter_le (fun t : Tp => decide (s0.v ≤ t.v)) L
    omega
  · unfold holdsP
    rw [map_held ok, hLe]
    have x0 : 0 ≤ mn n 4294967296 := by unfold mn; split <;> omega
    refine eq_of_le fun v => ?_
    rw [le_fold, le_fold]
    constructor
    · intro ⟨h1, h2⟩
      refine ⟨h1, fun t ht => ?_⟩
      obtain ⟨u, hu, hle⟩ := hc.covers (y := 8 * mn n 4294967296) (by omega) hm (hL _ hm).v0 (fun t ht hv => by
        have hle := hmin t ht
        rw [← Bool.not_eq_true, least_lt] at hle
        have h1 : t.v * (8 * mn n 4294967296) ≤ s0.v * (8 * mn n 4294967296) := Int.mul_le_mul_of_nonneg_right hv (by omega)
        omega) t ht
      exact Int.le_trans (h2 u hu) hle
    · intro ⟨h1, h2⟩
      exact ⟨h1, fun t ht => h2 t (hsub t ht)⟩
  · rw [map_held ok]
    have hms : minL (ltI leastI) s = s0 := minL_eq ord_least (fun _ _ => trivial) h0s fun t ht => hmin t (hsub t ht)
    rw [hms]
    have hy : ∀ t ∈ s, restP L t ≠ [] → ¬ meets L t → restP s t = [] := fun t ht h1 h2 => by
      cases hr : restP s t with
      | nil => rfl
      | cons a r =>
        have ha := mem_rest.1 (show a ∈ restP s t by rw [hr]; exact List.mem_cons_self)
        have := hc.last t ht h1 h2 a ha.1
        omega
    refine hc.part (fun t ht => ht) (fun t ht _ => hsub t ht) ?_ fun t ht h1 h2 => .inl (hy t ht h1 h2)
    by_cases c1 : restP L s0 = []
    · exact .inl c1
    · by_cases c2 : meets L s0
      · exact .inr (.inl c2)
      · exact .inr (.inr (.inl (hy s0 h0s c1 c2)))
/-! ### BoundHolds -/
structure I5a (v9 : AV) (p : Option (Nat × Nat × Nat)) (c : Option Nat) (e n : Nat) (pm : Option (Nat × Nat × Nat)) (lm : Nat) (Sb : St) (m : Nat) (T : Tm) (S : St) : Prop where
  t9 : T.get 9 = some v9
  t10 : T.get 10 = some (.slice p n e c)
  t3 : T.get 3 = some (.slice pm lm 1 none)
  ext : Ext Sb S
  more : ∃ j : Nat, T.get 11 = some (.int .i64 j) ∧ j + m = 20
set_option maxHeartbeats 4000000 in
theorem round5a (k : Nat) {p q : Option (Nat × Nat × Nat)} {c d : Option Nat} {e f : Nat} {s l : List Tp} {pm : Option (Nat × Nat × Nat)} {lm : Nat} {Sb : St} (hs : Ty Sb p e s) (hl : Ty Sb q f l) (hm : Sl Sb pm lm [.int .u64]) (hn : l.length ≤ 1000) (okl : ∀ t ∈ l, OkT t) (K : SetK l s) (m : Nat) (T : Tm) (S : St) (hI : I5a (.slice q l.length f d) p c e s.length pm lm Sb m T S) :
    Goes (evF Y AP (k + 1106)) (k + 1106) af5_l1 T S (Then (fun T' S' => ∃ m', I5a (.slice q l.length f d) p c e s.length pm lm Sb m' T' S' ∧ id m' < id m) fun r T' S' => r = .exit 0 ∧ ∃ m', I5a (.slice q l.length f d) p c e s.length pm lm Sb m' T' S') := by
  obtain ⟨t9, t10, t3, ex, j, t11, hjm⟩ := hI
  have hmx := hm.max
  by_cases c1 : (j : Int) < (lm : Int)
  rotate_left
  · simp -implicitDefEqProofs -dsimp (maxSteps := 10000000) only [af5_l1, ↓goes_loop, ↓goes_seq, ↓goes_reg, ↓goes_dreg, ↓goes_cond, ↓goes_block, ↓goes_skip, ↓goes_exit, ↓goes_ret, after_some, br_true, br_false, ↓then_normal, ↓then_exit, ↓then_ret, ↓blk_normal, ↓blk_exit, ↓blk_ret, ↓blk_other, ops_nil, ops_some, ops_none, oper_none, oper_some, gd_tt, gd_ff, gd_tf, gd_ft, gd_undef, ↓any_op, ↓any_call, ↓any_callV, ↓any_invoke, xo_t, xo_c, args_nil, args_cons, bin_add, bin_sub, bin_mul, bin_quo, bin_rem, bin_and, bin_or, bin_xor, bin_andNot, bin_eql, bin_neq, bin_lss, bin_leq, bin_gtr, bin_geq, bin_shl, bin_shr, bin_bools, bin_strs, bin_ptrs, bin_slices, bin_aggs, ↓Option.bind_some, ↓Option.map_some, ↓cond_true, ↓cond_false, evC, evOp, XO.lit, setArgs, Tr.get_set, Option.bind_some, Option.map_some, cond_true, cond_false, maxI, maxFrom, minI, minFrom, aConv, aBinE, aEq, eqScal, aUn, evRes, fin, oneOf, if_true, if_false, callee, reduceCtorEq, Nat.reduceEqDiff, and_self, decide_true, decide_false, beq_true, beq_false, Bool.not_true, Bool.not_false, List.getElem?_cons_zero, List.getElem?_cons_succ, beq_self_eq_true, gt_iff_lt, ble_dec, beq_dec, List.head?_cons, AV.undef, eq_self, ne_eq, not_true_eq_false, not_false_eq_true, Int.reduceLT, Int.reduceLE, Int.reduceToNat, Int.reduceEq, Int.reduceNeg, Nat.reduceAdd, Nat.reduceLT, Nat.reduceLeDiff, Nat.reduceMul, Nat.reduceSub, AV.cells, AV.tup, Bool.true_and, true_and, and_true, List.drop_nil, List.append_nil, rd_put, rd_alloc, rdO, St.get_put, St.get_alloc, St.next_put, St.next_alloc, St.wr, Bool.and_self, Bool.and_true, List.length_cons, List.length_nil, List.take_succ_cons, List.take_zero, List.drop_succ_cons, List.drop_zero, List.cons_append, List.nil_append, Nat.zero_add, Nat.add_zero, Nat.reduceMul, t3, t11, hmx, c1]
    refine ⟨m, ?_, ?_, ?_, ex, j, ?_, hjm⟩ <;> simp only [Tr.get_set, Nat.reduceEqDiff, if_false, if_true, t3, t9, t10, t11]
  by_cases c2 : (j : Int) < 20
  rotate_left
  · simp -implicitDefEqProofs -dsimp (maxSteps := 10000000) only [af5_l1, ↓goes_loop, ↓goes_seq, ↓goes_reg, ↓goes_dreg, ↓goes_cond, ↓goes_block, ↓goes_skip, ↓goes_exit, ↓goes_ret, after_some, br_true, br_false, ↓then_normal, ↓then_exit, ↓then_ret, ↓blk_normal, ↓blk_exit, ↓blk_ret, ↓blk_other, ops_nil, ops_some, ops_none, oper_none, oper_some, gd_tt, gd_ff, gd_tf, gd_ft, gd_undef, ↓any_op, ↓any_call, ↓any_callV, ↓any_invoke, xo_t, xo_c, args_nil, args_cons, bin_add, bin_sub, bin_mul, bin_quo, bin_rem, bin_and, bin_or, bin_xor, bin_andNot, bin_eql, bin_neq, bin_lss, bin_leq, bin_gtr, bin_geq, bin_shl, bin_shr, bin_bools, bin_strs, bin_ptrs, bin_slices, bin_aggs, ↓Option.bind_some, ↓Option.map_some, ↓cond_true, ↓cond_false, evC, evOp, XO.lit, setArgs, Tr.get_set, Option.bind_some, Option.map_some, cond_true, cond_false, maxI, maxFrom, minI, minFrom, aConv, aBinE, aEq, eqScal, aUn, evRes, fin, oneOf, if_true, if_false, callee, reduceCtorEq, Nat.reduceEqDiff, and_self, decide_true, decide_false, beq_true, beq_false, Bool.not_true, Bool.not_false, List.getElem?_cons_zero, List.getElem?_cons_succ, beq_self_eq_true, gt_iff_lt, ble_dec, beq_dec, List.head?_cons, AV.undef, eq_self, ne_eq, not_true_eq_false, not_false_eq_true, Int.reduceLT, Int.reduceLE, Int.reduceToNat, Int.reduceEq, Int.reduceNeg, Nat.reduceAdd, Nat.reduceLT, Nat.reduceLeDiff, Nat.reduceMul, Nat.reduceSub, AV.cells, AV.tup, Bool.true_and, true_and, and_true, List.drop_nil, List.append_nil, rd_put, rd_alloc, rdO, St.get_put, St.get_alloc, St.next_put, St.next_alloc, St.wr, Bool.and_self, Bool.and_true, List.length_cons, List.length_nil, List.take_succ_cons, List.take_zero, List.drop_succ_cons, List.drop_zero, List.cons_append, List.nil_append, Nat.zero_add, Nat.add_zero, Nat.reduceMul, t3, t11, hmx, c1, c2]
    refine ⟨m, ?_, ?_, ?_, ex, j, ?_, hjm⟩ <;> simp only [Tr.get_set, Nat.reduceEqDiff, if_false, if_true, t3, t9, t10, t11]
  obtain ⟨o, v, i, rfl, ho⟩ := hm.at_ (by omega)
  obtain ⟨x, hx, wx⟩ := hm.int (j := (j : Int)) (by omega) c1
  rw [show ((j : Nat) : Int).toNat = j from rfl, Nat.mul_one] at hx
  have hz : S.rd o v (i + j) 1 = some [.int .u64 x] := by rw [ex.rd ho]; exact hx
  have hix : ixOf (.int .i64 (j : Int)) lm = some j := by rw [ix_ok (by omega) c1]; rfl
  have wj : IntKind.i64.wrap ((j : Int) + 1) = ((j + 1 : Nat) : Int) := w64_id (by omega) (by omega)
  have y0 : 0 ≤ x % 65536 := by omega
  obtain ⟨S1, r1, x1⟩ := T13 (k + 4) (c := c) (hs.ext ex) (by have := K.le; omega) (fun t ht => (K.ok t ht).ok) y0
  have r1 : evF Y AP (k + 1106) 13 [.slice p s.length e c, .int .u64 (x % 65536)] S = _ := r1
  obtain ⟨S2, r2, x2⟩ := T13 (k + 4) (c := d) (hl.ext (ex.trans x1)) hn okl y0
  have r2 : evF Y AP (k + 1106) 13 [.slice q l.length f d, .int .u64 (x % 65536)] S1 = _ := r2
  rw [K.holds _ y0] at r1
  simp -implicitDefEqProofs -dsimp (maxSteps := 10000000) only [af5_l1, ↓goes_loop, ↓goes_seq, ↓goes_reg, ↓goes_dreg, ↓goes_cond, ↓goes_block, ↓goes_skip, ↓goes_exit, ↓goes_ret, after_some, br_true, br_false, ↓then_normal, ↓then_exit, ↓then_ret, ↓blk_normal, ↓blk_exit, ↓blk_ret, ↓blk_other, ops_nil, ops_some, ops_none, oper_none, oper_some, gd_tt, gd_ff, gd_tf, gd_ft, gd_undef, ↓any_op, ↓any_call, ↓any_callV, ↓any_invoke, xo_t, xo_c, args_nil, args_cons, bin_add, bin_sub, bin_mul, bin_quo, bin_rem, bin_and, bin_or, bin_xor, bin_andNot, bin_eql, bin_neq, bin_lss, bin_leq, bin_gtr, bin_geq, bin_shl, bin_shr, bin_bools, bin_strs, bin_ptrs, bin_slices, bin_aggs, ↓Option.bind_some, ↓Option.map_some, ↓cond_true, ↓cond_false, evC, evOp, XO.lit, setArgs, Tr.get_set, Option.bind_some, Option.map_some, cond_true, cond_false, maxI, maxFrom, minI, minFrom, aConv, aBinE, aEq, eqScal, aUn, evRes, fin, oneOf, if_true, if_false, callee, reduceCtorEq, Nat.reduceEqDiff, and_self, decide_true, decide_false, beq_true, beq_false, Bool.not_true, Bool.not_false, List.getElem?_cons_zero, List.getElem?_cons_succ, beq_self_eq_true, gt_iff_lt, ble_dec, beq_dec, List.head?_cons, AV.undef, eq_self, ne_eq, not_true_eq_false, not_false_eq_true, Int.reduceLT, Int.reduceLE, Int.reduceToNat, Int.reduceEq, Int.reduceNeg, Nat.reduceAdd, Nat.reduceLT, Nat.reduceLeDiff, Nat.reduceMul, Nat.reduceSub, AV.cells, AV.tup, Bool.true_and, true_and, and_true, List.drop_nil, List.append_nil, rd_put, rd_alloc, rdO, St.get_put, St.get_alloc, St.next_put, St.next_alloc, St.wr, Bool.and_self, Bool.and_true, List.length_cons, List.length_nil, List.take_succ_cons, List.take_zero, List.drop_succ_cons, List.drop_zero, List.cons_append, List.nil_append, Nat.zero_add, Nat.add_zero, Nat.reduceMul, t3, t9, t10, t11, hmx, c1, c2, hix, Nat.mul_one, hz, m65535u, r1, r2, wj]
  refine ⟨m - 1, ⟨?_, ?_, ?_, ex.trans (x1.trans x2), j + 1, ?_, by omega⟩, by show m - 1 < m; omega⟩ <;> simp only [Tr.get_set, Nat.reduceEqDiff, if_false, if_true, t3, t9, t10]
structure I5b (p : Option (Nat × Nat × Nat)) (c : Option Nat) (e n : Nat) (Sb : St) (m : Nat) (T : Tm) (S : St) : Prop where
  st : S = Sb
  t10 : T.get 10 = some (.slice p n e c)
  t63 : T.get 63 = some (.int .i64 n)
  more : ∃ j : Nat, T.get 64 = some (.int .i64 j) ∧ j + m = n
set_option maxHeartbeats 4000000 in
theorem round5b (k : Nat) {p : Option (Nat × Nat × Nat)} {c : Option Nat} {e : Nat} {s l : List Tp} {Sb : St} (hs : Ty Sb p e s) (K : SetK l s) (m : Nat) (T : Tm) (S : St) (hI : I5b p c e s.length Sb m T S) :
    Goes (evF Y AP (k + 1106)) (k + 1106) af5_l0 T S (Then (fun T' S' => ∃ m', I5b p c e s.length Sb m' T' S' ∧ id m' < id m) fun r T' S' => r = .exit 2 ∧ I5b p c e s.length Sb 0 T' S') := by
  obtain ⟨rfl, t10, t63, j, t64, hm⟩ := hI
  by_cases c1 : (j : Int) < (s.length : Int)
  rotate_left
  · simp -implicitDefEqProofs -dsimp (maxSteps := 10000000) only [af5_l0, ↓goes_loop, ↓goes_seq, ↓goes_reg, ↓goes_dreg, ↓goes_cond, ↓goes_block, ↓goes_skip, ↓goes_exit, ↓goes_ret, after_some, br_true, br_false, ↓then_normal, ↓then_exit, ↓then_ret, ↓blk_normal, ↓blk_exit, ↓blk_ret, ↓blk_other, ops_nil, ops_some, ops_none, oper_none, oper_some, gd_tt, gd_ff, gd_tf, gd_ft, gd_undef, ↓any_op, ↓any_call, ↓any_callV, ↓any_invoke, xo_t, xo_c, args_nil, args_cons, bin_add, bin_sub, bin_mul, bin_quo, bin_rem, bin_and, bin_or, bin_xor, bin_andNot, bin_eql, bin_neq, bin_lss, bin_leq, bin_gtr, bin_geq, bin_shl, bin_shr, bin_bools, bin_strs, bin_ptrs, bin_slices, bin_aggs, ↓Option.bind_some, ↓Option.map_some, ↓cond_true, ↓cond_false, evC, evOp, XO.lit, setArgs, Tr.get_set, Option.bind_some, Option.map_some, cond_true, cond_false, maxI, maxFrom, minI, minFrom, aConv, aBinE, aEq, eqScal, aUn, evRes, fin, oneOf, if_true, if_false, callee, reduceCtorEq, Nat.reduceEqDiff, and_self, decide_true, decide_false, beq_true, beq_false, Bool.not_true, Bool.not_false, List.getElem?_cons_zero, List.getElem?_cons_succ, beq_self_eq_true, gt_iff_lt, ble_dec, beq_dec, List.head?_cons, AV.undef, eq_self, ne_eq, not_true_eq_false, not_false_eq_true, Int.reduceLT, Int.reduceLE, Int.reduceToNat, Int.reduceEq, Int.reduceNeg, Nat.reduceAdd, Nat.reduceLT, Nat.reduceLeDiff, Nat.reduceMul, Nat.reduceSub, AV.cells, AV.tup, Bool.true_and, true_and, and_true, List.drop_nil, List.append_nil, rd_put, rd_alloc, rdO, St.get_put, St.get_alloc, St.next_put, St.next_alloc, St.wr, Bool.and_self, Bool.and_true, List.length_cons, List.length_nil, List.take_succ_cons, List.take_zero, List.drop_succ_cons, List.drop_zero, List.cons_append, List.nil_append, Nat.zero_add, Nat.add_zero, Nat.reduceMul, t63, t64, c1]
    refine ⟨rfl, ?_, ?_, j, ?_, by omega⟩ <;> simp only [Tr.get_set, Nat.reduceEqDiff, if_false, if_true, t10, t63, t64]
  have hj : j < s.length := by omega
  have wj : IntKind.i64.wrap ((j : Int) + 1) = ((j + 1 : Nat) : Int) := w64_id (by omega) (by have := hs.mx; omega)
  obtain ⟨o, v, i, rfl, rfl, ho⟩ := hs.some_ (by omega)
  by_cases c2 : (0 : Int) < (j : Int)
  · obtain ⟨j', rfl⟩ : ∃ j', j = j' + 1 := ⟨j - 1, by omega⟩
    obtain ⟨a, b, ha, hb, hv, hr⟩ := K.up j' hj
    have hz : S.rd o v (i + j' * 3) 3 = some [.int .u32 s[j'].o, .int .u64 s[j'].r, .int .i64 s[j'].v] := hs.get (by omega)
    have hy : S.rd o v (i + (j' + 1) * 3) 3 = some [.int .u32 s[j' + 1].o, .int .u64 s[j' + 1].r, .int .i64 s[j' + 1].v] := hs.get hj
    have ha' : s[j'] = a := by rw [List.getElem?_eq_getElem (by omega)] at ha; exact Option.some.inj ha
    have hb' : s[j' + 1] = b := by rw [List.getElem?_eq_getElem hj] at hb; exact Option.some.inj hb
    rw [ha'] at hz
    rw [hb'] at hy
    have z1 : S.rd o v (i + j' * 3 + 1) 1 = some [.int .u64 a.r] := rd_sub (m := 1) (l := 1) hz (by show 1 + 1 ≤ 3; decide)
    have z2 : S.rd o v (i + j' * 3 + 2) 1 = some [.int .i64 a.v] := rd_sub (m := 2) (l := 1) hz (by show 2 + 1 ≤ 3; decide)
    have y1 : S.rd o v (i + (j' + 1) * 3 + 1) 1 = some [.int .u64 b.r] := rd_sub (m := 1) (l := 1) hy (by show 1 + 1 ≤ 3; decide)
    have y2 : S.rd o v (i + (j' + 1) * 3 + 2) 1 = some [.int .i64 b.v] := rd_sub (m := 2) (l := 1) hy (by show 2 + 1 ≤ 3; decide)
    have wd : IntKind.i64.wrap (((j' + 1 : Nat) : Int) - 1) = (j' : Int) := by rw [show ((j' + 1 : Nat) : Int) - 1 = (j' : Int) by omega]; exact w64_id (by omega) (by have := hs.mx; omega)
    have i1 : ixOf (.int .i64 ((j' + 1 : Nat) : Int)) s.length = some (j' + 1) := by rw [ix_ok (by omega) c1]; rfl
    have i0 : ixOf (.int .i64 (j' : Int)) s.length = some j' := by rw [ix_ok (by omega) (by omega)]; rfl
    have n1 : ¬ b.v ≤ a.v := by omega
    have n2 : ¬ b.r < a.r := by omega
    simp -implicitDefEqProofs -dsimp (maxSteps := 10000000) only [af5_l0, ↓goes_loop, ↓goes_seq, ↓goes_reg, ↓goes_dreg, ↓goes_cond, ↓goes_block, ↓goes_skip, ↓goes_exit, ↓goes_ret, after_some, br_true, br_false, ↓then_normal, ↓then_exit, ↓then_ret, ↓blk_normal, ↓blk_exit, ↓blk_ret, ↓blk_other, ops_nil, ops_some, ops_none, oper_none, oper_some, gd_tt, gd_ff, gd_tf, gd_ft, gd_undef, ↓any_op, ↓any_call, ↓any_callV, ↓any_invoke, xo_t, xo_c, args_nil, args_cons, bin_add, bin_sub, bin_mul, bin_quo, bin_rem, bin_and, bin_or, bin_xor, bin_andNot, bin_eql, bin_neq, bin_lss, bin_leq, bin_gtr, bin_geq, bin_shl, bin_shr, bin_bools, bin_strs, bin_ptrs, bin_slices, bin_aggs, ↓Option.bind_some, ↓Option.map_some, ↓cond_true, ↓cond_false, evC, evOp, XO.lit, setArgs, Tr.get_set, Option.bind_some, Option.map_some, cond_true, cond_false, maxI, maxFrom, minI, minFrom, aConv, aBinE, aEq, eqScal, aUn, evRes, fin, oneOf, if_true, if_false, callee, reduceCtorEq, Nat.reduceEqDiff, and_self, decide_true, decide_false, beq_true, beq_false, Bool.not_true, Bool.not_false, List.getElem?_cons_zero, List.getElem?_cons_succ, beq_self_eq_true, gt_iff_lt, ble_dec, beq_dec, List.head?_cons, AV.undef, eq_self, ne_eq, not_true_eq_false, not_false_eq_true, Int.reduceLT, Int.reduceLE, Int.reduceToNat, Int.reduceEq, Int.reduceNeg, Nat.reduceAdd, Nat.reduceLT, Nat.reduceLeDiff, Nat.reduceMul, Nat.reduceSub, ↓evDraw_nil, bir, putD, evDraw, trace, List.all_cons, List.all_nil, chk, stAt, again, sameV, sameL, sameA, AV.undef, Bool.and_self, Bool.and_true, decide_eq_true_eq, List.getElem?_nil, AV.cells, AV.tup, Bool.true_and, true_and, and_true, List.drop_nil, List.append_nil, rd_put, rd_alloc, rdO, St.get_put, St.get_alloc, St.next_put, St.next_alloc, St.wr, Bool.and_self, Bool.and_true, List.length_cons, List.length_nil, List.take_succ_cons, List.take_zero, List.drop_succ_cons, List.drop_zero, List.cons_append, List.nil_append, Nat.zero_add, Nat.add_zero, Nat.reduceMul, t10, t63, t64, c1, c2, i1, y1, y2, wd, i0, z1, z2, n1, n2, wj]
    refine ⟨m - 1, ⟨rfl, ?_, ?_, j' + 1 + 1, ?_, by omega⟩, by show m - 1 < m; omega⟩ <;> simp only [Tr.get_set, Nat.reduceEqDiff, if_false, if_true, t10, t63]
  · simp -implicitDefEqProofs -dsimp (maxSteps := 10000000) only [af5_l0, ↓goes_loop, ↓goes_seq, ↓goes_reg, ↓goes_dreg, ↓goes_cond, ↓goes_block, ↓goes_skip, ↓goes_exit, ↓goes_ret, after_some, br_true, br_false, ↓then_normal, ↓then_exit, ↓then_ret, ↓blk_normal, ↓blk_exit, ↓blk_ret, ↓blk_other, ops_nil, ops_some, ops_none, oper_none, oper_some, gd_tt, gd_ff, gd_tf, gd_ft, gd_undef, ↓any_op, ↓any_call, ↓any_callV, ↓any_invoke, xo_t, xo_c, args_nil, args_cons, bin_add, bin_sub, bin_mul, bin_quo, bin_rem, bin_and, bin_or, bin_xor, bin_andNot, bin_eql, bin_neq, bin_lss, bin_leq, bin_gtr, bin_geq, bin_shl, bin_shr, bin_bools, bin_strs, bin_ptrs, bin_slices, bin_aggs, ↓Option.bind_some, ↓Option.map_some, ↓cond_true, ↓cond_false, evC, evOp, XO.lit, setArgs, Tr.get_set, Option.bind_some, Option.map_some, cond_true, cond_false, maxI, maxFrom, minI, minFrom, aConv, aBinE, aEq, eqScal, aUn, evRes, fin, oneOf, if_true, if_false, callee, reduceCtorEq, Nat.reduceEqDiff, and_self, decide_true, decide_false, beq_true, beq_false, Bool.not_true, Bool.not_false, List.getElem?_cons_zero, List.getElem?_cons_succ, beq_self_eq_true, gt_iff_lt, ble_dec, beq_dec, List.head?_cons, AV.undef, eq_self, ne_eq, not_true_eq_false, not_false_eq_true, Int.reduceLT, Int.reduceLE, Int.reduceToNat, Int.reduceEq, Int.reduceNeg, Nat.reduceAdd, Nat.reduceLT, Nat.reduceLeDiff, Nat.reduceMul, Nat.reduceSub, ↓evDraw_nil, bir, putD, evDraw, trace, List.all_cons, List.all_nil, chk, stAt, again, sameV, sameL, sameA, AV.undef, Bool.and_self, Bool.and_true, decide_eq_true_eq, List.getElem?_nil, AV.cells, AV.tup, Bool.true_and, true_and, and_true, List.drop_nil, List.append_nil, rd_put, rd_alloc, rdO, St.get_put, St.get_alloc, St.next_put, St.next_alloc, St.wr, Bool.and_self, Bool.and_true, List.length_cons, List.length_nil, List.take_succ_cons, List.take_zero, List.drop_succ_cons, List.drop_zero, List.cons_append, List.nil_append, Nat.zero_add, Nat.add_zero, Nat.reduceMul, t10, t63, t64, c1, c2, wj]
    refine ⟨m - 1, ⟨rfl, ?_, ?_, j + 1, ?_, by omega⟩, by show m - 1 < m; omega⟩ <;> simp only [Tr.get_set, Nat.reduceEqDiff, if_false, if_true, t10, t63]
set_option maxHeartbeats 8000000 in
theorem ev5 (k : Nat) {pt : Option (Nat × Nat × Nat)} {lt : Nat} {n pk : Int} {pm : Option (Nat × Nat × Nat)} {lm : Nat} {S : St} (ht : Sl S pt lt [.int .i64]) (hpt : ∀ o v i, pt = some (o, v, i) → o < S.next) (hm : Sl S pm lm [.int .u64]) (pk0 : 0 ≤ pk) :
    ∃ S', evF Y AP (k + 1107) 5 [.slice pt lt 1 none, .int .i64 n, .int .u64 pk, .slice pm lm 1 none] S = some (.bool true, S') := by
  suffices hh : ∃ v S', evF Y AP (k + 1107) 5 [.slice pt lt 1 none, .int .i64 n, .int .u64 pk, .slice pm lm 1 none] S = some (v, S') ∧ v = .bool true by
    obtain ⟨v, S', h1, rfl⟩ := hh; exact ⟨S', h1⟩
  obtain ⟨nn, hnn⟩ : ∃ nn : Nat, 1 + n % 8 = (nn : Int) := ⟨(1 + n % 8).toNat, by omega⟩
  have w1 : IntKind.i64.wrap (1 + n % 8) = (nn : Int) := by rw [hnn]; exact w64_id (by omega) (by omega)
  obtain ⟨pr, er, row, S1, r8, G1, hrl, okr⟩ := T8 (k + 4) ht hpt (n := nn) (by omega)
  have r8 : evF Y AP (k + 1106) 8 [.slice pt lt 1 none, .int .i64 nn] S = _ := r8
  have okr' : ∀ t ∈ row, OkT t := fun t ht => (okr t ht).ok
  have tyr := G1.ty (by omega)
  have hne : row ≠ [] := fun e => by rw [e, List.length_nil] at hrl; omega
  obtain ⟨ps, es, cs, S2, s, r12, tys, x2, hs, hsl⟩ := T12 (k + 4) (c := none) tyr (by omega) okr'
  have r12 : evF Y AP (k + 1106) 12 [.slice pr row.length er none] S1 = _ := r12
  have K := hs.known okr' hne
  have hle := K.le
  have oks : ∀ t ∈ s, OkT t := fun t ht => (K.ok t ht).ok
  have hs0 : 0 < s.length := List.length_pos_iff.2 K.ne
  obtain ⟨S3, h13, x3⟩ := T13 (k + 4) (c := cs) tys (by omega) oks pk0
  have h13 : evF Y AP (k + 1106) 13 [.slice ps s.length es cs, .int .u64 pk] S2 = _ := h13
  obtain ⟨S4, h13', x4⟩ := T13 (k + 4) (c := none) (tyr.ext (x2.trans x3)) (by omega) okr' pk0
  have h13' : evF Y AP (k + 1106) 13 [.slice pr row.length er none, .int .u64 pk] S3 = _ := h13'
  rw [K.holds _ pk0] at h13
  have a1 : s.length ≤ 9223372036854775807 := by omega
  have a2 : nn ≤ 9223372036854775807 := by omega
  have a3 : ¬ (s.length : Int) = 0 := by omega
  have a4 : ¬ (nn : Int) < (s.length : Int) := by omega
  have e4 := (G1.ext.trans x2).trans (x3.trans x4)
  rw [hrl] at r12 h13'
  refine evF_goes (af := af5) (k := k + 1106) rfl rfl rfl ?_
  simp -implicitDefEqProofs -dsimp (maxSteps := 10000000) only [af5, ↓goes_loop, ↓goes_seq, ↓goes_reg, ↓goes_dreg, ↓goes_cond, ↓goes_block, ↓goes_skip, ↓goes_exit, ↓goes_ret, after_some, br_true, br_false, ↓then_normal, ↓then_exit, ↓then_ret, ↓blk_normal, ↓blk_exit, ↓blk_ret, ↓blk_other, ops_nil, ops_some, ops_none, oper_none, oper_some, gd_tt, gd_ff, gd_tf, gd_ft, gd_undef, ↓any_op, ↓any_call, ↓any_callV, ↓any_invoke, xo_t, xo_c, args_nil, args_cons, bin_add, bin_sub, bin_mul, bin_quo, bin_rem, bin_and, bin_or, bin_xor, bin_andNot, bin_eql, bin_neq, bin_lss, bin_leq, bin_gtr, bin_geq, bin_shl, bin_shr, bin_bools, bin_strs, bin_ptrs, bin_slices, bin_aggs, ↓Option.bind_some, ↓Option.map_some, ↓cond_true, ↓cond_false, evC, evOp, XO.lit, setArgs, Tr.tabG, Tr.tabS, Tr.tabL, Tr.get_lf, Option.bind_some, Option.map_some, cond_true, cond_false, maxI, maxFrom, minI, minFrom, aConv, aBinE, aEq, eqScal, aUn, evRes, fin, oneOf, if_true, if_false, callee, reduceCtorEq, Nat.reduceEqDiff, and_self, decide_true, decide_false, beq_true, beq_false, Bool.not_true, Bool.not_false, List.getElem?_cons_zero, List.getElem?_cons_succ, beq_self_eq_true, gt_iff_lt, ble_dec, beq_dec, List.head?_cons, AV.undef, eq_self, ne_eq, not_true_eq_false, not_false_eq_true, Int.reduceLT, Int.reduceLE, Int.reduceToNat, Int.reduceEq, Int.reduceNeg, Nat.reduceAdd, Nat.reduceLT, Nat.reduceLeDiff, Nat.reduceMul, Nat.reduceSub, m7i, w1, r8, r12, a1, a2, a3, a4, h13, h13']
  refine .while (I5a (.slice pr row.length er none) ps cs es s.length pm lm S4) id 20 ⟨by rw [hrl]; rfl, rfl, rfl, .refl _, 0, rfl, rfl⟩ (by show 20 < k + 1106; omega) fun m2 T2 S5 h2 => (round5a k (tys.ext (x3.trans x4)) (tyr.ext (x2.trans (x3.trans x4))) (hm.ext e4) (by omega) okr' K m2 T2 S5 h2).mono ?_
  intro r T' S' hq
  cases r with
  | normal => exact hq
  | ret => exact absurd hq.1 (by simp)
  | exit i =>
    obtain ⟨hi, m', t9, t10, t3, ex5, j, t11, hjm⟩ := hq
    cases hi
    simp -implicitDefEqProofs -dsimp (maxSteps := 10000000) only [↓goes_loop, ↓goes_seq, ↓goes_reg, ↓goes_dreg, ↓goes_cond, ↓goes_block, ↓goes_skip, ↓goes_exit, ↓goes_ret, after_some, br_true, br_false, ↓then_normal, ↓then_exit, ↓then_ret, ↓blk_normal, ↓blk_exit, ↓blk_ret, ↓blk_other, ops_nil, ops_some, ops_none, oper_none, oper_some, gd_tt, gd_ff, gd_tf, gd_ft, gd_undef, ↓any_op, ↓any_call, ↓any_callV, ↓any_invoke, xo_t, xo_c, args_nil, args_cons, bin_add, bin_sub, bin_mul, bin_quo, bin_rem, bin_and, bin_or, bin_xor, bin_andNot, bin_eql, bin_neq, bin_lss, bin_leq, bin_gtr, bin_geq, bin_shl, bin_shr, bin_bools, bin_strs, bin_ptrs, bin_slices, bin_aggs, ↓Option.bind_some, ↓Option.map_some, ↓cond_true, ↓cond_false, evC, evOp, XO.lit, setArgs, Tr.get_set, Option.bind_some, Option.map_some, cond_true, cond_false, maxI, maxFrom, minI, minFrom, aConv, aBinE, aEq, eqScal, aUn, evRes, fin, oneOf, if_true, if_false, callee, reduceCtorEq, Nat.reduceEqDiff, and_self, decide_true, decide_false, beq_true, beq_false, Bool.not_true, Bool.not_false, List.getElem?_cons_zero, List.getElem?_cons_succ, beq_self_eq_true, gt_iff_lt, ble_dec, beq_dec, List.head?_cons, AV.undef, eq_self, ne_eq, not_true_eq_false, not_false_eq_true, Int.reduceLT, Int.reduceLE, Int.reduceToNat, Int.reduceEq, Int.reduceNeg, Nat.reduceAdd, Nat.reduceLT, Nat.reduceLeDiff, Nat.reduceMul, Nat.reduceSub, t10, a1]
    have tys5 := tys.ext (x3.trans (x4.trans ex5))
    refine .while (I5b ps cs es s.length S') id s.length ⟨rfl, ?_, ?_, 0, ?_, by omega⟩ (by show s.length < k + 1106; omega) fun m2 T2 S6 h2 => (round5b k tys5 K m2 T2 S6 h2).mono ?_
    iterate 3 (first | focus (simp only [Tr.get_set, Nat.reduceEqDiff, if_false, if_true, t10, Int.natCast_zero]; done) | skip)
    intro r T' S'' hq
    cases r with
    | normal => exact hq
    | ret => exact absurd hq.1 (by simp)
    | exit i =>
      obtain ⟨hi, rfl, t10, t63, j, t64, hjm⟩ := hq
      cases hi
      obtain ⟨p2, e2, c2, S7, s2, r12', ty2, x7, hs2, hsl2⟩ := T12 (k + 4) (c := cs) tys5 (by omega) oks
      have r12' : evF Y AP (k + 1106) 12 [.slice ps s.length es cs] S'' = _ := r12'
      have := hs2.det K.again
      subst this
      have r14 : evF Y AP (k + 1106) 14 [.slice p2 s2.length e2 c2, .slice ps s2.length es cs] S7 = _ := T14 (k + 4) (c := c2) (c' := cs) ty2 (tys5.ext x7) (by omega)
      simp -implicitDefEqProofs -dsimp (maxSteps := 10000000) only [↓goes_loop, ↓goes_seq, ↓goes_reg, ↓goes_dreg, ↓goes_cond, ↓goes_block, ↓goes_skip, ↓goes_exit, ↓goes_ret, after_some, br_true, br_false, ↓then_normal, ↓then_exit, ↓then_ret, ↓blk_normal, ↓blk_exit, ↓blk_ret, ↓blk_other, ops_nil, ops_some, ops_none, oper_none, oper_some, gd_tt, gd_ff, gd_tf, gd_ft, gd_undef, ↓any_op, ↓any_call, ↓any_callV, ↓any_invoke, xo_t, xo_c, args_nil, args_cons, bin_add, bin_sub, bin_mul, bin_quo, bin_rem, bin_and, bin_or, bin_xor, bin_andNot, bin_eql, bin_neq, bin_lss, bin_leq, bin_gtr, bin_geq, bin_shl, bin_shr, bin_bools, bin_strs, bin_ptrs, bin_slices, bin_aggs, ↓Option.bind_some, ↓Option.map_some, ↓cond_true, ↓cond_false, evC, evOp, XO.lit, setArgs, Tr.get_set, Option.bind_some, Option.map_some, cond_true, cond_false, maxI, maxFrom, minI, minFrom, aConv, aBinE, aEq, eqScal, aUn, evRes, fin, oneOf, if_true, if_false, callee, reduceCtorEq, Nat.reduceEqDiff, and_self, decide_true, decide_false, beq_true, beq_false, Bool.not_true, Bool.not_false, List.getElem?_cons_zero, List.getElem?_cons_succ, beq_self_eq_true, gt_iff_lt, ble_dec, beq_dec, List.head?_cons, AV.undef, eq_self, ne_eq, not_true_eq_false, not_false_eq_true, Int.reduceLT, Int.reduceLE, Int.reduceToNat, Int.reduceEq, Int.reduceNeg, Nat.reduceAdd, Nat.reduceLT, Nat.reduceLeDiff, Nat.reduceMul, Nat.reduceSub, t10, r12', r14, y11]
      exact ⟨_, _, rfl, rfl⟩
theorem law5 {n pk : Int} {p1 p2 : Option (Nat × Nat × Nat)} {n1 n2 : Nat} {xs ys : List AV} (h1 : Arg p1 0 n1 [.int .i64] xs) (_ : (Lit.int .i64 n).wf = true) (wk : (Lit.int .u64 pk).wf = true) (h2 : Arg p2 1 n2 [.int .u64] ys) :
    ∃ S', evF Y AP (0 + 1107) 5 [.slice p1 n1 1 none, .int .i64 n, .int .u64 pk, .slice p2 n2 1 none] ((S0.alloc (.cells xs 0 0 false)).alloc (.cells ys 0 0 false)) = some (.bool true, S') := by
  refine ev5 0 (.of_arg h1 (by simp only [St.get_alloc]; rfl) (by show 0 < 2; decide)) (fun o v i hp => ?_) (.of_arg h2 (by rw [St.get_alloc]; rfl) (by show 1 < 2; decide)) (wf_u64 wk).1
  rcases h1.at0 with h0 | h0
  · rw [hp] at h0; cases h0
  · rw [hp] at h0; cases h0; show 0 < 2; decide
/-! ### BoundMore -/
theorem Chain.cast {l L : List Tp} {s : Tp} {c : List Tp} (h : Chain l s c) (H : ∀ s : Tp, (restP l s = [] → restP L s = []) ∧ (restP l s ≠ [] → restP L s ≠ [] ∧ bestP L s = bestP l s)) : Chain L s c := by
  induction h with
  | stop s h =>
    by_cases h0 : restP l s = []
    · exact .stop s (.inl ((H s).1 h0))
    · obtain ⟨h1, h2⟩ := (H s).2 h0
      have hm := h.resolve_left h0
      exact .stop s (.inr (by unfold meets at hm ⊢; rw [h2]; exact hm))
  | step s c h0 h1 h2 ih =>
    obtain ⟨h3, h4⟩ := (H s).2 h0
    exact .step s c h3 (by unfold meets at h1 ⊢; rw [h4]; exact h1) (by rw [h4]; exact ih)
theorem rest_nil {l : List Tp} {s : Tp} : restP l s = [] ↔ ∀ t ∈ l, ¬ s.v < t.v := by
  constructor
  · intro h t ht hv
    have := mem_rest.2 ⟨ht, hv⟩
    rw [h] at this; cases this
  · intro h
    cases hr : restP l s with
    | nil => rfl
    | cons a r =>
      have ha := mem_rest.1 (show a ∈ restP l s by rw [hr]; exact List.mem_cons_self)
      exact absurd ha.2 (h a ha.1)
theorem Chain.perm {l L : List Tp} {s : Tp} {c : List Tp} (h : Chain l s c) (H : ∀ t, t ∈ l ↔ t ∈ L) : Chain L s c := by
  refine h.cast fun s => ⟨fun h0 => ?_, fun h0 => ⟨fun h1 => h0 ?_, ?_⟩⟩
  · rw [rest_nil] at *; exact fun t ht => h0 t ((H t).2 ht)
  · rw [rest_nil] at *; exact fun t ht => h1 t ((H t).1 ht)
  · have hb := best_mem h0
    exact minL_eq (ord_slope s) (fun x hx => (mem_rest.1 hx).2) (mem_rest.2 ⟨(H _).1 hb.1, hb.2⟩) fun t ht => best_le ((H t).2 (mem_rest.1 ht).1) (mem_rest.1 ht).2
theorem SetP.perm {l m r : List Tp} (h : SetP l r) (H : ∀ t, t ∈ l ↔ t ∈ m) : SetP m r := by
  have hmap : ∀ t, t ∈ l.map heldT ↔ t ∈ m.map heldT := fun t => by
    rw [List.mem_map, List.mem_map]
    exact ⟨fun ⟨a, h1, h2⟩ => ⟨a, (H a).1 h1, h2⟩, fun ⟨a, h1, h2⟩ => ⟨a, (H a).2 h1, h2⟩⟩
  rcases h with ⟨rfl, h2⟩ | ⟨h1, h2⟩
  · refine .inl ⟨?_, h2⟩
    cases m with
    | nil => rfl
    | cons a m => have := (H a).2 List.mem_cons_self; cases this
  · refine .inr ⟨fun e => ?_, ?_⟩
    · subst e
      cases l with
      | nil => exact h1 rfl
      | cons a l => have := (H a).1 List.mem_cons_self; cases this
    · have hne : l.map heldT ≠ [] := fun e => h1 (List.map_eq_nil_iff.1 e)
      have hm := minL_mem (ltI leastI) hne
      have hl := minL_le ord_least (l := l.map heldT) (fun _ _ => trivial)
      rw [minL_eq ord_least (l := m.map heldT) (fun _ _ => trivial) ((hmap _).1 hm) fun t ht => hl t ((hmap t).2 ht)]
      exact h2.perm hmap
theorem OkR.held {t : Tp} (h : OkR t) : heldT t = t := by
  have := h.r1; have := h.v1; have := h.o1
  exact OkH.held ⟨h.o0, by omega, h.r0, by omega, h.v0, by omega⟩
/-- A tuple that lets more everywhere. -/
def moreT (t : Tp) : Tp := ⟨t.o + 100, t.r + 5, t.v⟩
theorem SetP.more {a : Tp} {l r : List Tp} (hl : ∀ t ∈ a :: l, OkR t) (h : SetP (moreT a :: a :: l) r) : SetP (a :: l) r := by
  have e1 : (a :: l).map heldT = a :: l := by
    have : ∀ {l : List Tp}, (∀ t ∈ l, OkR t) → l.map heldT = l := by
      intro l
      induction l with
      | nil => intro _; rfl
      | cons t l ih => intro h; rw [List.map_cons, (h t List.mem_cons_self).held, ih fun x hx => h x (List.mem_cons_of_mem _ hx)]
    exact this hl
  have ha := hl a List.mem_cons_self
  have e2 : heldT (moreT a) = moreT a := by
    have := ha.r1; have := ha.r0; have := ha.v1; have := ha.o1; have := ha.o0
    exact OkH.held ⟨by show 0 ≤ a.o + 100; omega, by show a.o + 100 ≤ _; omega, by show 0 ≤ a.r + 5; omega, by show a.r + 5 ≤ _; omega, ha.v0, by show a.v ≤ _; omega⟩
  rcases h with ⟨h1, _⟩ | ⟨_, h2⟩
  · cases h1
  refine .inr ⟨by simp, ?_⟩
  rw [List.map_cons, e1, e2] at h2
  rw [e1]
  obtain ⟨L, hL⟩ : ∃ L, a :: l = L := ⟨_, rfl⟩
  have haL : a ∈ L := by rw [← hL]; exact List.mem_cons_self
  rw [hL] at h2 ⊢
  have hne : L ≠ [] := fun e => by rw [e] at haL; cases haL
  have hm := minL_mem (ltI leastI) hne
  have hle := minL_le ord_least (l := L) (fun _ _ => trivial)
  have hy : (moreT a).r = a.r + 5 ∧ (moreT a).v = a.v := ⟨rfl, rfl⟩
  have hmin : minL (ltI leastI) (moreT a :: L) = minL (ltI leastI) L := by
    refine minL_eq ord_least (fun _ _ => trivial) (List.mem_cons_of_mem _ hm) fun t ht => ?_
    rcases List.mem_cons.1 ht with rfl | ht
    · have := hle a haL
      rw [← Bool.not_eq_true, least_lt] at this ⊢
      omega
    · exact hle t ht
  rw [hmin] at h2
  refine h2.cast fun s => ?_
  have hr : restP (moreT a :: L) s = [] ↔ restP L s = [] := by
    rw [rest_nil, rest_nil]
    constructor
    · exact fun h t ht => h t (List.mem_cons_of_mem _ ht)
    · intro h t ht
      rcases List.mem_cons.1 ht with rfl | ht
      · have := h a haL; omega
      · exact h t ht
  refine ⟨hr.1, fun h0 => ⟨fun h1 => h0 (hr.2 h1), ?_⟩⟩
  have h0' : restP L s ≠ [] := fun e => h0 (hr.2 e)
  have hb := best_mem h0'
  refine (minL_eq (ord_slope s) (fun x hx => (mem_rest.1 hx).2) (mem_rest.2 ⟨List.mem_cons_of_mem _ hb.1, hb.2⟩) fun t ht => ?_).symm
  obtain ⟨ht, hv⟩ := mem_rest.1 ht
  rcases List.mem_cons.1 ht with rfl | ht
  · have hv' : s.v < a.v := by omega
    have hs := best_slope haL hv'
    have hp : (a.r - s.r) * ((bestP L s).v - s.v) < ((moreT a).r - s.r) * ((bestP L s).v - s.v) := Int.mul_lt_mul_of_pos_right (by omega) (by omega)
    rw [← Bool.not_eq_true, slope_lt, hy.2]
    omega
  · exact best_le ht hv
theorem Ty.mut {S S' : St} {o : Nat} {x : AO} {p : Option (Nat × Nat × Nat)} {e : Nat} {l : List Tp} (h : Ty S p e l) (m : Mut S S' o x) (hne : ∀ o' v i, p = some (o', v, i) → ¬ o' = o) : Ty S' p e l :=
  ⟨h.ez, h.nil, fun o' v i hp => by obtain ⟨h1, h2⟩ := h.at_ o' v i hp; exact ⟨Nat.lt_of_lt_of_le h1 m.next, by rw [m.rd h1 (hne o' v i hp)]; exact h2⟩, h.mx⟩
/-- A row of one, new. -/
theorem Gt.one (S : St) (t : Tp) : Gt S (S.alloc (.cells [.int .u32 t.o, .int .u64 t.r, .int .i64 t.v] 0 0 true)) (some (S.next, 0, 0)) 3 [t] :=
  ⟨⟨.inr rfl, rfl, .inr ⟨S.next, 0, 0, rfl, Nat.lt_succ_self _, by rw [St.get_alloc, if_pos rfl]; rfl, Nat.le_refl _⟩⟩, .alloc _ _, fun o v i h => by cases h; exact Nat.le_refl _⟩
set_option maxHeartbeats 16000000 in
theorem ev6 (k : Nat) {pt : Option (Nat × Nat × Nat)} {lt : Nat} {n pk : Int} {S : St} (ht : Sl S pt lt [.int .i64]) (hpt : ∀ o v i, pt = some (o, v, i) → o < S.next) (pk0 : 0 ≤ pk) :
    ∃ S', evF Y AP (k + 1107) 6 [.slice pt lt 1 none, .int .i64 n, .int .u64 pk] S = some (.bool true, S') := by
  obtain ⟨nn, hnn⟩ : ∃ nn : Nat, 1 + n % 8 = (nn : Int) := ⟨(1 + n % 8).toNat, by omega⟩
  have w1 : IntKind.i64.wrap (1 + n % 8) = (nn : Int) := by rw [hnn]; exact w64_id (by omega) (by omega)
  obtain ⟨pr, er, row, S1, r8, G1, hrl, okr⟩ := T8 (k + 4) ht hpt (n := nn) (by omega)
  have r8 : evF Y AP (k + 1106) 8 [.slice pt lt 1 none, .int .i64 nn] S = _ := r8
  have okr' : ∀ t ∈ row, OkT t := fun t ht => (okr t ht).ok
  have tyr := G1.ty (by omega)
  obtain ⟨a, l, rfl⟩ : ∃ a l, row = a :: l := by
    cases row with
    | nil => rw [List.length_nil] at hrl; omega
    | cons a l => exact ⟨a, l, rfl⟩
  obtain ⟨o, v, i, rfl, rfl, ho⟩ := tyr.some_ (by omega)
  have oka := okr a List.mem_cons_self
  obtain ⟨A1, hA1⟩ : ∃ A, S1.alloc (.cells [.slice pt lt 1 none, .int .i64 0] 0 0 true) = A := ⟨_, rfl⟩
  have eA1 : Ext S1 A1 := by rw [← hA1]; exact .alloc _ _
  have nA1 : A1.next = S1.next + 1 := by rw [← hA1]; rfl
  have gA1 : A1.get S1.next = some (tape pt lt 0) := by rw [← hA1, St.get_alloc, if_pos rfl]; rfl
  have n01 := G1.ext.next
  have tp : Tpe A1 pt lt S1.next 0 := ⟨(ht.ext G1.ext).ext eA1, fun o' v' i' hp => by have := hpt o' v' i' hp; omega, gA1, by omega, Nat.zero_le _⟩
  obtain ⟨x, j', S2, r15, okx, M2, _⟩ := T15 (k + 1076) tp
  have r15 : evF Y AP (k + 1106) 15 [pt2 S1.next] A1 = _ := r15
  have n2 := M2.next
  have ty2 : Ty S2 (some (o, v, i)) 3 (a :: l) := (tyr.ext eA1).mut M2 fun o' v' i' hp => by cases hp; omega
  obtain ⟨A2, hA2⟩ : ∃ A, (S2.alloc (.cells [.int .u32 0, .int .u64 0, .int .i64 0] 0 0 true)).put S2.next (.cells [.int .u32 x.o, .int .u64 x.r, .int .i64 x.v] 0 0 true) = A := ⟨_, rfl⟩
  have eA2 : Ext S2 A2 := by rw [← hA2]; exact (Ext.alloc S2 _).then_put (Nat.le_refl _) _
  have nA2 : A2.next = S2.next + 1 := by rw [← hA2]; rfl
  have gA2 : A2.get S2.next = some (cell x) := by rw [← hA2, St.get_put, if_pos rfl]; rfl
  have hix : ixOf (.int .i64 0) nn = some 0 := by rw [ix_ok (by omega) (by omega)]; rfl
  have hz : A2.rd o v (i + 0 * 3) 3 = some [.int .u32 a.o, .int .u64 a.r, .int .i64 a.v] := (ty2.ext eA2).get (j := 0) (by simp)
  rw [Nat.zero_mul, Nat.add_zero] at hz
  obtain ⟨A3, hA3⟩ : ∃ A, (A2.alloc (.cells [.int .u32 0, .int .u64 0, .int .i64 0] 0 0 true)).put A2.next (.cells [.int .u32 a.o, .int .u64 a.r, .int .i64 a.v] 0 0 true) = A := ⟨_, rfl⟩
  have eA3 : Ext A2 A3 := by rw [← hA3]; exact (Ext.alloc A2 _).then_put (Nat.le_refl _) _
  have nA3 : A3.next = A2.next + 1 := by rw [← hA3]; rfl
  have gA3 : A3.get A2.next = some (.cells [.int .u32 a.o, .int .u64 a.r, .int .i64 a.v] 0 0 true) := by rw [← hA3, St.get_put, if_pos rfl]
  have rA3 : ∀ v i m, A3.rd A2.next v i m = rdO (.cells [.int .u32 a.o, .int .u64 a.r, .int .i64 a.v] 0 0 true) v i m := rd_of gA3
  have w2 : IntKind.u64.wrap (a.r + 5) = a.r + 5 := u64_id (by have := oka.r0; omega) (by have := oka.r1; omega)
  have w3 : IntKind.u32.wrap (a.o + 100) = a.o + 100 := u32_id (by have := oka.o0; omega) (by have := oka.o1; omega)
  obtain ⟨A5, hA5⟩ : ∃ A, (A3.put A2.next (.cells [.int .u32 a.o, .int .u64 (a.r + 5), .int .i64 a.v] 0 0 true)).put A2.next (.cells [.int .u32 (a.o + 100), .int .u64 (a.r + 5), .int .i64 a.v] 0 0 true) = A := ⟨_, rfl⟩
  have eA5 : Ext A2 A5 := by rw [← hA5]; exact (eA3.then_put (Nat.le_refl _) _).then_put (Nat.le_refl _) _
  have nA5 : A5.next = A3.next := by rw [← hA5]; rfl
  have g9 : A5.get A2.next = some (cell (moreT a)) := by rw [← hA5, St.get_put, if_pos rfl]; rfl
  have g8 : A5.get S2.next = some (cell x) := eA5.get (by omega) gA2
  have r8x : ∀ v i m, A5.rd S2.next v i m = rdO (cell x) v i m := rd_of g8
  have ty5 := ty2.ext (eA2.trans eA5)
  obtain ⟨B1, hB1⟩ : ∃ B, A5.alloc (.cells [.int .u32 x.o, .int .u64 x.r, .int .i64 x.v] 0 0 true) = B := ⟨_, rfl⟩
  have gt1 := Gt.one A5 x
  rw [hB1] at gt1
  have rl1 := ((ty5.ext gt1.ext).at_ o v i rfl).2
  obtain ⟨p6, e6, S6, h6, G6, _⟩ := gt1.app (m := a :: l) (by simp only [List.length_cons, List.length_nil] at hrl ⊢; omega)
  have h6 : aAppend 3 24 B1 (.slice (some (A5.next, 0, 0)) 1 3 none) (a :: l).length (tcs (a :: l)) = some (.slice p6 (1 + (a :: l).length) e6 none, S6) := h6
  rw [hrl] at rl1 h6
  have ok6 : ∀ t ∈ [x] ++ (a :: l), OkT t := fun t ht => (List.mem_append.1 ht).elim (fun h => by rw [List.mem_singleton.1 h]; exact okx.ok) (okr' t)
  have hl6 : ([x] ++ (a :: l)).length = 1 + nn := by rw [List.length_append, hrl]; rfl
  have q0 : 0 ≤ pk % 65536 := by omega
  obtain ⟨S7, h13, x7⟩ := T13 (k + 4) (c := none) (G6.ty (by omega)) (by omega) ok6 q0
  have h13 : evF Y AP (k + 1106) 13 [.slice p6 ([x] ++ (a :: l)).length e6 none, .int .u64 (pk % 65536)] S6 = _ := h13
  rw [hl6] at h13
  have e57 := G6.ext.trans x7
  obtain ⟨S8, h13', x8⟩ := T13 (k + 4) (c := none) (ty5.ext e57) (by omega) okr' q0
  have h13' : evF Y AP (k + 1106) 13 [.slice (some (o, v, i)) (a :: l).length 3 none, .int .u64 (pk % 65536)] S7 = _ := h13'
  rw [hrl] at h13'
  have hle : holdsP (x :: a :: l) (pk % 65536) ≤ holdsP (a :: l) (pk % 65536) := by
    unfold holdsP
    rw [le_fold]
    have h := (le_fold (v := foldMn 18446744073709551615 (cutT (8 * mn (pk % 65536) 4294967296)) ((x :: a :: l).map heldT))).1 (Int.le_refl _)
    refine ⟨h.1, fun t ht => h.2 t ?_⟩
    exact List.mem_cons_of_mem _ ht
  have e58 := e57.trans x8
  have n58 := e58.next
  have r9 : ∀ v i m, S8.rd A2.next v i m = rdO (cell (moreT a)) v i m := rd_of (e58.get (by omega) g9)
  obtain ⟨B2, hB2⟩ : ∃ B, S8.alloc (.cells [.int .u32 (a.o + 100), .int .u64 (a.r + 5), .int .i64 a.v] 0 0 true) = B := ⟨_, rfl⟩
  have gt2 := Gt.one S8 (moreT a)
  have gt2 : Gt S8 (S8.alloc (.cells [.int .u32 (a.o + 100), .int .u64 (a.r + 5), .int .i64 a.v] 0 0 true)) (some (S8.next, 0, 0)) 3 [moreT a] := gt2
  rw [hB2] at gt2
  have rl2 := ((ty5.ext (e58.trans gt2.ext)).at_ o v i rfl).2
  obtain ⟨p9, e9, S9, h9, G9, _⟩ := gt2.app (m := a :: l) (by simp only [List.length_cons, List.length_nil] at hrl ⊢; omega)
  have h9 : aAppend 3 24 B2 (.slice (some (S8.next, 0, 0)) 1 3 none) (a :: l).length (tcs (a :: l)) = some (.slice p9 (1 + (a :: l).length) e9 none, S9) := h9
  rw [hrl] at rl2 h9
  have okm : OkT (moreT a) := by
    have := oka.r1; have := oka.r0; have := oka.v1; have := oka.v0; have := oka.o1; have := oka.o0
    exact ⟨by show 0 ≤ a.o + 100; omega, by show a.o + 100 ≤ _; omega, by show 0 ≤ a.r + 5; omega, by show a.r + 5 ≤ _; omega, by show _ ≤ a.v; omega, by show a.v ≤ _; omega⟩
  have ok9 : ∀ t ∈ [moreT a] ++ (a :: l), OkT t := fun t ht => (List.mem_append.1 ht).elim (fun h => by rw [List.mem_singleton.1 h]; exact okm) (okr' t)
  have hl9 : ([moreT a] ++ (a :: l)).length = 1 + nn := by rw [List.length_append, hrl]; rfl
  obtain ⟨pa, ea, ca, Sa, ra, h12, tya, xa, hsa, hla⟩ := T12 (k + 4) (c := none) (G9.ty (by omega)) (by omega) ok9
  have h12 : evF Y AP (k + 1106) 12 [.slice p9 ([moreT a] ++ (a :: l)).length e9 none] S9 = _ := h12
  rw [hl9] at h12
  obtain ⟨pb, eb, cb, Sb, rb, h12', tyb, xb, hsb, hlb⟩ := T12 (k + 4) (c := none) (ty5.ext (e58.trans (G9.ext.trans xa))) (by omega) okr'
  have h12' : evF Y AP (k + 1106) 12 [.slice (some (o, v, i)) (a :: l).length 3 none] Sa = _ := h12'
  rw [hrl] at h12'
  have := (SetP.more okr hsa).det hsb
  subst this
  have h14 : evF Y AP (k + 1106) 14 [.slice pa ra.length ea ca, .slice pb ra.length eb cb] Sb = _ := T14 (k + 4) (c := ca) (c' := cb) (tya.ext xb) tyb (by omega)
  have nn1 : ¬ S2.next = A2.next := by omega
  rw [evF_body (af := af6) rfl rfl rfl]
  exact ⟨_, by
    simp -implicitDefEqProofs -dsimp (maxSteps := 10000000) only [af6, ops_nil, ops_some, ops_none, oper_none, oper_some, gd_tt, gd_ff, gd_tf, gd_ft, gd_undef, ↓any_op, ↓any_call, ↓any_callV, ↓any_invoke, xo_t, xo_c, args_nil, args_cons, bin_add, bin_sub, bin_mul, bin_quo, bin_rem, bin_and, bin_or, bin_xor, bin_andNot, bin_eql, bin_neq, bin_lss, bin_leq, bin_gtr, bin_geq, bin_shl, bin_shr, bin_bools, bin_strs, bin_ptrs, bin_slices, bin_aggs, ↓Option.bind_some, ↓Option.map_some, ↓cond_true, ↓cond_false, evC, evOp, XO.lit, setArgs, Tr.tabG, Tr.tabS, Tr.tabL, Tr.get_lf, Option.bind_some, Option.map_some, cond_true, cond_false, maxI, maxFrom, minI, minFrom, aConv, aBinE, aEq, eqScal, aUn, evRes, fin, oneOf, if_true, if_false, callee, reduceCtorEq, Nat.reduceEqDiff, and_self, decide_true, decide_false, beq_true, beq_false, Bool.not_true, Bool.not_false, List.getElem?_cons_zero, List.getElem?_cons_succ, beq_self_eq_true, gt_iff_lt, ble_dec, beq_dec, List.head?_cons, AV.undef, eq_self, ne_eq, not_true_eq_false, not_false_eq_true, Int.reduceLT, Int.reduceLE, Int.reduceToNat, Int.reduceEq, Int.reduceNeg, Nat.reduceAdd, Nat.reduceLT, Nat.reduceLeDiff, Nat.reduceMul, Nat.reduceSub, ↓evDraw_nil, bir, putD, evDraw, trace, List.all_cons, List.all_nil, chk, stAt, again, sameV, sameL, sameA, AV.undef, Bool.and_self, Bool.and_true, decide_eq_true_eq, List.getElem?_nil, AV.cells, AV.tup, Bool.true_and, true_and, and_true, List.drop_nil, List.append_nil, rd_put, rd_alloc, rdO, St.get_put, St.get_alloc, St.next_put, St.next_alloc, St.wr, Bool.and_self, Bool.and_true, List.length_cons, List.length_nil, List.take_succ_cons, List.take_zero, List.drop_succ_cons, List.drop_zero, List.cons_append, List.nil_append, Nat.zero_add, Nat.add_zero, Nat.reduceMul, aFill, evParts, rep, List.replicate_succ, List.replicate_zero, List.flatten_cons, List.flatten_nil, List.append_nil, newSl, newVar, m7i, w1, r8, hA1, r15, hA2, hix, Nat.mul_one, Nat.one_mul, hz, hA3, gA3, rA3, w2, w3, hA5, m65535u, r8x, cell, hB1, rl1, h6, h13, h13', hle, r9, moreT, hB2, rl2, h9, h12, h12', h14, y11]
    exact rfl⟩
theorem law6 {n pk : Int} {p1 : Option (Nat × Nat × Nat)} {n1 : Nat} {xs : List AV} (h1 : Arg p1 0 n1 [.int .i64] xs) (_ : (Lit.int .i64 n).wf = true) (wk : (Lit.int .u64 pk).wf = true) :
    ∃ S', evF Y AP (0 + 1107) 6 [.slice p1 n1 1 none, .int .i64 n, .int .u64 pk] (S0.alloc (.cells xs 0 0 false)) = some (.bool true, S') := by
  refine ev6 0 (.of_arg h1 (by simp only [St.get_alloc]; rfl) (by show 0 < 1; decide)) (fun o v i hp => ?_) (wf_u64 wk).1
  rcases h1.at0 with h0 | h0
  · rw [hp] at h0; cases h0
  · rw [hp] at h0; cases h0; show 0 < 1; decide
/-! ### BoundTurned -/
structure I7 (v2 : AV) (o v n : Nat) (Sb : St) (m : Nat) (T : Tm) (S : St) : Prop where
  t2 : T.get 2 = some v2
  t7 : T.get 7 = some (.slice (some (o, v, 0)) n 3 none)
  t21 : T.get 21 = some (.int .i64 n)
  ext : Ext Sb S
  ob : Sb.next ≤ o
  ol : o < S.next
  more : ∃ (j : Nat) (l : List Tp) (mv : Nat), T.get 22 = some (.int .i64 j) ∧ j + m = n ∧ l.length = n ∧ S.get o = some (.cells (tcs l) v mv true) ∧ mv ≤ v ∧ ∀ t ∈ l, OkT t
set_option maxHeartbeats 4000000 in
theorem round7 (k : Nat) {v2 : AV} {o v n : Nat} {Sb : St} (hn : n ≤ 9) (m : Nat) (T : Tm) (S : St) (hI : I7 v2 o v n Sb m T S) :
    Goes (evF Y AP (k + 1103)) (k + 1103) af7_l0 T S (Then (fun T' S' => ∃ m', I7 v2 o v n Sb m' T' S' ∧ id m' < id m) fun r T' S' => r = .exit 0 ∧ I7 v2 o v n Sb 0 T' S') := by
  obtain ⟨t2, t7, t21, ex, ob, ol, j, l, mv, t22, hm, hl, g, hmv, ok⟩ := hI
  by_cases c1 : (j : Int) < (n : Int)
  rotate_left
  · simp -implicitDefEqProofs -dsimp (maxSteps := 10000000) only [af7_l0, ↓goes_loop, ↓goes_seq, ↓goes_reg, ↓goes_dreg, ↓goes_cond, ↓goes_block, ↓goes_skip, ↓goes_exit, ↓goes_ret, after_some, br_true, br_false, ↓then_normal, ↓then_exit, ↓then_ret, ↓blk_normal, ↓blk_exit, ↓blk_ret, ↓blk_other, ops_nil, ops_some, ops_none, oper_none, oper_some, gd_tt, gd_ff, gd_tf, gd_ft, gd_undef, ↓any_op, ↓any_call, ↓any_callV, ↓any_invoke, xo_t, xo_c, args_nil, args_cons, bin_add, bin_sub, bin_mul, bin_quo, bin_rem, bin_and, bin_or, bin_xor, bin_andNot, bin_eql, bin_neq, bin_lss, bin_leq, bin_gtr, bin_geq, bin_shl, bin_shr, bin_bools, bin_strs, bin_ptrs, bin_slices, bin_aggs, ↓Option.bind_some, ↓Option.map_some, ↓cond_true, ↓cond_false, evC, evOp, XO.lit, setArgs, Tr.get_set, Option.bind_some, Option.map_some, cond_true, cond_false, maxI, maxFrom, minI, minFrom, aConv, aBinE, aEq, eqScal, aUn, evRes, fin, oneOf, if_true, if_false, callee, reduceCtorEq, Nat.reduceEqDiff, and_self, decide_true, decide_false, beq_true, beq_false, Bool.not_true, Bool.not_false, List.getElem?_cons_zero, List.getElem?_cons_succ, beq_self_eq_true, gt_iff_lt, ble_dec, beq_dec, List.head?_cons, AV.undef, eq_self, ne_eq, not_true_eq_false, not_false_eq_true, Int.reduceLT, Int.reduceLE, Int.reduceToNat, Int.reduceEq, Int.reduceNeg, Nat.reduceAdd, Nat.reduceLT, Nat.reduceLeDiff, Nat.reduceMul, Nat.reduceSub, AV.cells, AV.tup, Bool.true_and, true_and, and_true, List.drop_nil, List.append_nil, rd_put, rd_alloc, rdO, St.get_put, St.get_alloc, St.next_put, St.next_alloc, St.wr, Bool.and_self, Bool.and_true, List.length_cons, List.length_nil, List.take_succ_cons, List.take_zero, List.drop_succ_cons, List.drop_zero, List.cons_append, List.nil_append, Nat.zero_add, Nat.add_zero, Nat.reduceMul, t21, t22, c1]
    refine ⟨?_, ?_, ?_, ex, ob, ol, j, l, mv, ?_, by omega, hl, g, hmv, ok⟩ <;> simp only [Tr.get_set, Nat.reduceEqDiff, if_false, if_true, t2, t7, t21, t22]
  have hj : j < l.length := by omega
  have hix : ixOf (.int .i64 (j : Int)) n = some j := by rw [ix_ok (by omega) c1]; rfl
  have wj : IntKind.i64.wrap ((j : Int) + 1) = ((j + 1 : Nat) : Int) := w64_id (by omega) (by omega)
  have wu : IntKind.u32.wrap (j : Int) = (j : Int) := u32_id (by omega) (by omega)
  have hlen : (tcs l).length = n * 3 := by rw [tcs_len, hl]
  have hb1 : j * 3 + 1 ≤ n * 3 := by omega
  obtain ⟨l', hl', ok', hc⟩ : ∃ l' : List Tp, l'.length = n ∧ (∀ t ∈ l', OkT t) ∧ (tcs l).take (j * 3) ++ .int .u32 (j : Int) :: (tcs l).drop (j * 3 + 1) = tcs l' := by
    refine ⟨l.take j ++ ⟨(j : Int), l[j].r, l[j].v⟩ :: l.drop (j + 1), ?_, fun t ht => ?_, ?_⟩
    · rw [List.length_append, List.length_take, List.length_cons, List.length_drop]; omega
    · rcases List.mem_append.1 ht with ht | ht
      · exact ok t (List.mem_of_mem_take ht)
      · rcases List.mem_cons.1 ht with rfl | ht
        · have := ok _ (List.getElem_mem hj)
          exact ⟨by show (0 : Int) ≤ j; omega, by show (j : Int) ≤ _; omega, this.r0, this.r1, this.v0, this.v1⟩
        · exact ok t (List.mem_of_mem_drop ht)
    · rw [tcs_app, tcs_take, ← List.drop_drop, tcs_drop, List.drop_eq_getElem_cons hj]
      rfl
  obtain ⟨A, hA⟩ : ∃ A, S.put o (.cells (tcs l') v v true) = A := ⟨_, rfl⟩
  have gA : A.get o = some (.cells (tcs l') v v true) := by rw [← hA, St.get_put, if_pos rfl]
  have eA : Ext Sb A := by rw [← hA]; exact ex.then_put ob _
  simp -implicitDefEqProofs -dsimp (maxSteps := 10000000) only [af7_l0, ↓goes_loop, ↓goes_seq, ↓goes_reg, ↓goes_dreg, ↓goes_cond, ↓goes_block, ↓goes_skip, ↓goes_exit, ↓goes_ret, after_some, br_true, br_false, ↓then_normal, ↓then_exit, ↓then_ret, ↓blk_normal, ↓blk_exit, ↓blk_ret, ↓blk_other, ops_nil, ops_some, ops_none, oper_none, oper_some, gd_tt, gd_ff, gd_tf, gd_ft, gd_undef, ↓any_op, ↓any_call, ↓any_callV, ↓any_invoke, xo_t, xo_c, args_nil, args_cons, bin_add, bin_sub, bin_mul, bin_quo, bin_rem, bin_and, bin_or, bin_xor, bin_andNot, bin_eql, bin_neq, bin_lss, bin_leq, bin_gtr, bin_geq, bin_shl, bin_shr, bin_bools, bin_strs, bin_ptrs, bin_slices, bin_aggs, ↓Option.bind_some, ↓Option.map_some, ↓cond_true, ↓cond_false, evC, evOp, XO.lit, setArgs, Tr.get_set, Option.bind_some, Option.map_some, cond_true, cond_false, maxI, maxFrom, minI, minFrom, aConv, aBinE, aEq, eqScal, aUn, evRes, fin, oneOf, if_true, if_false, callee, reduceCtorEq, Nat.reduceEqDiff, and_self, decide_true, decide_false, beq_true, beq_false, Bool.not_true, Bool.not_false, List.getElem?_cons_zero, List.getElem?_cons_succ, beq_self_eq_true, gt_iff_lt, ble_dec, beq_dec, List.head?_cons, AV.undef, eq_self, ne_eq, not_true_eq_false, not_false_eq_true, Int.reduceLT, Int.reduceLE, Int.reduceToNat, Int.reduceEq, Int.reduceNeg, Nat.reduceAdd, Nat.reduceLT, Nat.reduceLeDiff, Nat.reduceMul, Nat.reduceSub, AV.cells, AV.tup, Bool.true_and, true_and, and_true, List.drop_nil, List.append_nil, rd_put, rd_alloc, rdO, St.get_put, St.get_alloc, St.next_put, St.next_alloc, St.wr, Bool.and_self, Bool.and_true, List.length_cons, List.length_nil, List.take_succ_cons, List.take_zero, List.drop_succ_cons, List.drop_zero, List.cons_append, List.nil_append, Nat.zero_add, Nat.add_zero, Nat.reduceMul, t7, t21, t22, c1, wu, hix, g, hmv, hlen, hb1, List.append_assoc, hc, hA, wj]
  refine ⟨m - 1, ⟨?_, ?_, ?_, eA, ob, by rw [← hA]; exact ol, j + 1, l', v, ?_, by omega, hl', gA, Nat.le_refl _, ok'⟩, by show m - 1 < m; omega⟩ <;> simp only [Tr.get_set, Nat.reduceEqDiff, if_false, if_true, t2, t7, t21]
theorem bnd_none (d y : Nat) : bnd none d y = some d := rfl
theorem Ty.drop {S : St} {o v i e : Nat} {l : List Tp} (h : Ty S (some (o, v, i)) e l) {n : Nat} (hn : n ≤ l.length) : Ty S (some (o, v, i + n * 3)) e (l.drop n) := by
  refine ⟨.inr (h.ez.resolve_left (by simp)), fun h => (by cases h), fun o' v' i' hp => ?_, by rw [List.length_drop]; have := h.mx; omega⟩
  cases hp
  obtain ⟨h1, h2⟩ := h.at_ o v i rfl
  refine ⟨h1, ?_⟩
  have hd : (l.drop n).length = l.length - n := List.length_drop
  have := rd_sub (m := n * 3) (l := (l.length - n) * 3) h2 (by omega)
  rw [tcs_drop, hd.symm, tcs_take, List.take_length] at this
  exact this
theorem Gt.empty (S : St) : Gt S (S.alloc (.cells [] 0 0 true)) (some (S.next, 0, 0)) 3 [] :=
  ⟨⟨.inr rfl, rfl, .inr ⟨S.next, 0, 0, rfl, Nat.lt_succ_self _, by rw [St.get_alloc, if_pos rfl]; rfl, Nat.le_refl _⟩⟩, .alloc _ _, fun o v i h => by cases h; exact Nat.le_refl _⟩
set_option maxHeartbeats 16000000 in
theorem ev7 (k : Nat) {pt : Option (Nat × Nat × Nat)} {lt : Nat} {n at_ : Int} {S : St} (ht : Sl S pt lt [.int .i64]) (hpt : ∀ o v i, pt = some (o, v, i) → o < S.next) :
    ∃ S', evF Y AP (k + 1104) 7 [.slice pt lt 1 none, .int .i64 n, .int .i64 at_] S = some (.bool true, S') := by
  suffices hh : ∃ v S', evF Y AP (k + 1104) 7 [.slice pt lt 1 none, .int .i64 n, .int .i64 at_] S = some (v, S') ∧ v = .bool true by
    obtain ⟨v, S', h1, rfl⟩ := hh; exact ⟨S', h1⟩
  obtain ⟨nn, hnn⟩ : ∃ nn : Nat, 2 + n % 8 = (nn : Int) := ⟨(2 + n % 8).toNat, by omega⟩
  have w1 : IntKind.i64.wrap (2 + n % 8) = (nn : Int) := by rw [hnn]; exact w64_id (by omega) (by omega)
  obtain ⟨pr, er, row, S1, r8, G1, hrl, okr⟩ := T8 (k + 1) ht hpt (n := nn) (by omega)
  have r8 : evF Y AP (k + 1103) 8 [.slice pt lt 1 none, .int .i64 nn] S = _ := r8
  obtain ⟨o, v, mv, rfl, ho, g, hmv⟩ : ∃ o v mv, pr = some (o, v, 0) ∧ o < S1.next ∧ S1.get o = some (.cells (tcs row) v mv true) ∧ mv ≤ v := by
    rcases G1.vec.at_ with ⟨_, h⟩ | h
    · rw [hrl] at h; omega
    · exact h
  obtain rfl : er = 3 := G1.vec.ez.resolve_left (by simp)
  have nob := G1.new _ _ _ rfl
  have a2 : nn ≤ 9223372036854775807 := by omega
  have nz : ¬ (nn : Int) = 0 := by omega
  refine evF_goes (af := af7) (k := k + 1103) rfl rfl rfl ?_
  simp -implicitDefEqProofs -dsimp (maxSteps := 10000000) only [af7, ↓goes_loop, ↓goes_seq, ↓goes_reg, ↓goes_dreg, ↓goes_cond, ↓goes_block, ↓goes_skip, ↓goes_exit, ↓goes_ret, after_some, br_true, br_false, ↓then_normal, ↓then_exit, ↓then_ret, ↓blk_normal, ↓blk_exit, ↓blk_ret, ↓blk_other, ops_nil, ops_some, ops_none, oper_none, oper_some, gd_tt, gd_ff, gd_tf, gd_ft, gd_undef, ↓any_op, ↓any_call, ↓any_callV, ↓any_invoke, xo_t, xo_c, args_nil, args_cons, bin_add, bin_sub, bin_mul, bin_quo, bin_rem, bin_and, bin_or, bin_xor, bin_andNot, bin_eql, bin_neq, bin_lss, bin_leq, bin_gtr, bin_geq, bin_shl, bin_shr, bin_bools, bin_strs, bin_ptrs, bin_slices, bin_aggs, ↓Option.bind_some, ↓Option.map_some, ↓cond_true, ↓cond_false, evC, evOp, XO.lit, setArgs, Tr.tabG, Tr.tabS, Tr.tabL, Tr.get_lf, Option.bind_some, Option.map_some, cond_true, cond_false, maxI, maxFrom, minI, minFrom, aConv, aBinE, aEq, eqScal, aUn, evRes, fin, oneOf, if_true, if_false, callee, reduceCtorEq, Nat.reduceEqDiff, and_self, decide_true, decide_false, beq_true, beq_false, Bool.not_true, Bool.not_false, List.getElem?_cons_zero, List.getElem?_cons_succ, beq_self_eq_true, gt_iff_lt, ble_dec, beq_dec, List.head?_cons, AV.undef, eq_self, ne_eq, not_true_eq_false, not_false_eq_true, Int.reduceLT, Int.reduceLE, Int.reduceToNat, Int.reduceEq, Int.reduceNeg, Nat.reduceAdd, Nat.reduceLT, Nat.reduceLeDiff, Nat.reduceMul, Nat.reduceSub, m7i, w1, r8, a2]
  refine .while (I7 (.int .i64 at_) o v nn S) id nn ⟨rfl, rfl, rfl, G1.ext, nob, ho, 0, row, mv, rfl, by omega, hrl, g, hmv, fun t ht => (okr t ht).ok⟩ (by show nn < k + 1103; omega) fun m2 T2 S5 h2 => (round7 k (by omega) m2 T2 S5 h2).mono ?_
  intro r T' S2 hq
  cases r with
  | normal => exact hq
  | ret => exact absurd hq.1 (by simp)
  | exit i =>
    obtain ⟨hi, t2, t7, t21, ex, ob, ol, j, l, mv, t22, hm, hl, g, hmv, ok⟩ := hq
    cases hi
    have ty : Ty S2 (some (o, v, 0)) 3 l := ⟨.inr rfl, fun h => (by cases h), fun o' v' i' hp => by
      cases hp
      exact ⟨ol, by rw [rd_cells g hmv (by rw [tcs_len]; omega), List.drop_zero, List.take_of_length_le (by rw [tcs_len]; exact Nat.le_refl _)]⟩, by omega⟩
    -- where it is turned
    obtain ⟨b1, hb1⟩ : ∃ b, Int.tmod at_ nn = b := ⟨_, rfl⟩
    have hb : -(nn : Int) < b1 ∧ b1 < nn := by
      rw [← hb1]
      exact ⟨Int.lt_tmod_of_pos _ (by omega), Int.tmod_lt_of_pos _ (by omega)⟩
    have w2 : IntKind.i64.wrap (b1 + nn) = b1 + nn := w64_id (by omega) (by omega)
    obtain ⟨kk, hkk⟩ : ∃ kk : Nat, Int.tmod (b1 + nn) nn = (kk : Int) := ⟨(Int.tmod (b1 + nn) nn).toNat, by have := Int.tmod_nonneg (a := b1 + nn) (nn : Int) (by omega); omega⟩
    have hk : kk < nn := by have := Int.tmod_lt_of_pos (b1 + nn) (show (0 : Int) < nn by omega); omega
    have hc1 : aCut 3 (.slice (some (o, v, 0)) nn 3 none) (some (.int .i64 (kk : Int))) none none = some (.slice (some (o, v, kk * 3)) (nn - kk) 3 none) := by
      have b : bnd (some (.int .i64 (kk : Int))) 0 nn = some kk := by simp only [bnd]; rw [if_pos (by omega)]; rfl
      simp only [aCut, bnd_none, b, Option.bind_some, Option.map_some, Nat.beq_refl, cond_true, Option.map_none, Nat.zero_add]
    have hc2 : aCut 3 (.slice (some (o, v, 0)) nn 3 none) none (some (.int .i64 (kk : Int))) none = some (.slice (some (o, v, 0)) kk 3 none) := by
      have b : bnd (some (.int .i64 (kk : Int))) nn nn = some kk := by simp only [bnd]; rw [if_pos (by omega)]; rfl
      simp only [aCut, bnd_none, b, Option.bind_some, Option.map_some, Nat.beq_refl, cond_true, Option.map_none, Nat.zero_mul, Nat.add_zero, Nat.sub_zero]
    obtain ⟨B1, hB1⟩ : ∃ B, S2.alloc (.cells [] 0 0 true) = B := ⟨_, rfl⟩
    have gt1 := Gt.empty S2
    rw [hB1] at gt1
    have td := ty.drop (n := kk) (by omega)
    have tt := ty.take (n := kk) (by omega)
    have ld : (l.drop kk).length = nn - kk := by rw [List.length_drop, hl]
    have lk : (l.take kk).length = kk := by rw [List.length_take]; omega
    have rl1 := ((td.ext gt1.ext).at_ _ _ _ rfl).2
    rw [ld, Nat.zero_add] at rl1
    obtain ⟨p6, e6, S6, h6, G6, _⟩ := gt1.app (m := l.drop kk) (by rw [ld]; simp only [List.length_nil]; omega)
    rw [ld] at h6
    have h6 : aAppend 3 24 B1 (.slice (some (S2.next, 0, 0)) 0 3 none) (nn - kk) (tcs (l.drop kk)) = some (.slice p6 (0 + (nn - kk)) e6 none, S6) := h6
    rw [Nat.zero_add, List.nil_append] at *
    obtain ⟨o6, v6, i6, rfl, rfl, _⟩ := (G6.ty (by rw [ld]; omega)).some_ (by rw [ld]; omega)
    have rl2 := ((tt.ext G6.ext).at_ _ _ _ rfl).2
    rw [lk] at rl2
    obtain ⟨p7, e7, S7, h7, G7, _⟩ := G6.app (m := l.take kk) (by rw [ld, lk]; omega)
    rw [ld, lk, show nn - kk + kk = nn by omega] at h7
    have hml : (l.drop kk ++ l.take kk).length = nn := by rw [List.length_append, ld, lk]; omega
    have tym := G7.ty (by omega)
    have hmem : ∀ t, t ∈ l ↔ t ∈ l.drop kk ++ l.take kk := fun t => by
      rw [List.mem_append]
      constructor
      · intro h
        rw [← List.take_append_drop kk l] at h
        exact (List.mem_append.1 h).symm
      · intro h; exact h.elim List.mem_of_mem_drop List.mem_of_mem_take
    obtain ⟨M, hM⟩ : ∃ M, l.drop kk ++ l.take kk = M := ⟨_, rfl⟩
    rw [hM] at hml tym hmem G7
    have okm : ∀ t ∈ M, OkT t := fun t ht => ok t ((hmem t).2 ht)
    have hl0 : l ≠ [] := fun e => by rw [e, List.length_nil] at hl; omega
    have hm0 : M ≠ [] := fun e => by rw [e, List.length_nil] at hml; omega
    have hrate : rateP M = rateP l := eq_of_le fun v => by
      unfold rateP
      rw [le_fold, le_fold]
      exact ⟨fun ⟨h1, h2⟩ => ⟨h1, fun t ht => h2 t ((hmem t).1 ht)⟩, fun ⟨h1, h2⟩ => ⟨h1, fun t ht => h2 t ((hmem t).2 ht)⟩⟩
    have e7x := G7.ext
    obtain ⟨S8, r16, x8⟩ := T16 (k + 1) (c := none) (ty.ext e7x) (by omega)
    have r16 : evF Y AP (k + 1103) 16 [.slice (some (o, v, 0)) l.length 3 none] S7 = _ := r16
    obtain ⟨S9, r16', x9⟩ := T16 (k + 1) (c := none) (tym.ext x8) (by omega)
    have r16' : evF Y AP (k + 1103) 16 [.slice p7 M.length e7 none] S8 = _ := r16'
    rw [rateT_of hl0, hl] at r16
    rw [rateT_of hm0, hml, hrate] at r16'
    have e9 := e7x.trans (x8.trans x9)
    obtain ⟨pa, ea, ca, Sa, ra, h12, tya, xa, hsa, hla⟩ := T12 (k + 1) (c := none) (ty.ext e9) (by omega) ok
    have h12 : evF Y AP (k + 1103) 12 [.slice (some (o, v, 0)) l.length 3 none] S9 = _ := h12
    rw [hl] at h12
    obtain ⟨pb, eb, cb, Sb, rb, h12', tyb, xb, hsb, hlb⟩ := T12 (k + 1) (c := none) (tym.ext (x8.trans (x9.trans xa))) (by omega) okm
    have h12' : evF Y AP (k + 1103) 12 [.slice p7 M.length e7 none] Sa = _ := h12'
    rw [hml] at h12'
    have := (hsa.perm hmem).det hsb
    subst this
    have h14 : evF Y AP (k + 1103) 14 [.slice pa ra.length ea ca, .slice pb ra.length eb cb] Sb = _ := T14 (k + 1) (c := ca) (c' := cb) (tya.ext xb) tyb (by omega)
    obtain ⟨pd, ed, cd, Sd, rd_, h12d, tyd, xd, hsd, hld⟩ := T12 (k + 1) (c := none) (ty.ext (e9.trans (xa.trans xb))) (by omega) ok
    have h12d : evF Y AP (k + 1103) 12 [.slice (some (o, v, 0)) l.length 3 none] Sb = _ := h12d
    rw [hl] at h12d
    obtain ⟨a, d, rfl, har⟩ := (hsd.known ok hl0).head
    obtain ⟨od, vd, id_, rfl, rfl, _⟩ := tyd.some_ (by simp)
    have hz : Sd.rd od vd (id_ + 0 * 3) 3 = some [.int .u32 a.o, .int .u64 a.r, .int .i64 a.v] := tyd.get (j := 0) (by simp)
    rw [Nat.zero_mul, Nat.add_zero] at hz
    have hz1 : Sd.rd od vd (id_ + 1) 1 = some [.int .u64 a.r] := rd_sub (m := 1) (l := 1) hz (by show 1 + 1 ≤ 3; decide)
    obtain ⟨ld_, hld_⟩ : ∃ n, (a :: d).length = n := ⟨_, rfl⟩
    have hld0 : 0 < ld_ := by rw [← hld_]; simp
    rw [hld_] at h12d
    have hix : ixOf (.int .i64 0) ld_ = some 0 := by rw [ix_ok (by omega) (by omega)]; rfl
    simp -implicitDefEqProofs -dsimp (maxSteps := 10000000) only [↓goes_loop, ↓goes_seq, ↓goes_reg, ↓goes_dreg, ↓goes_cond, ↓goes_block, ↓goes_skip, ↓goes_exit, ↓goes_ret, after_some, br_true, br_false, ↓then_normal, ↓then_exit, ↓then_ret, ↓blk_normal, ↓blk_exit, ↓blk_ret, ↓blk_other, ops_nil, ops_some, ops_none, oper_none, oper_some, gd_tt, gd_ff, gd_tf, gd_ft, gd_undef, ↓any_op, ↓any_call, ↓any_callV, ↓any_invoke, xo_t, xo_c, args_nil, args_cons, bin_add, bin_sub, bin_mul, bin_quo, bin_rem, bin_and, bin_or, bin_xor, bin_andNot, bin_eql, bin_neq, bin_lss, bin_leq, bin_gtr, bin_geq, bin_shl, bin_shr, bin_bools, bin_strs, bin_ptrs, bin_slices, bin_aggs, ↓Option.bind_some, ↓Option.map_some, ↓cond_true, ↓cond_false, evC, evOp, XO.lit, setArgs, Tr.get_set, Option.bind_some, Option.map_some, cond_true, cond_false, maxI, maxFrom, minI, minFrom, aConv, aBinE, aEq, eqScal, aUn, evRes, fin, oneOf, if_true, if_false, callee, reduceCtorEq, Nat.reduceEqDiff, and_self, decide_true, decide_false, beq_true, beq_false, Bool.not_true, Bool.not_false, List.getElem?_cons_zero, List.getElem?_cons_succ, beq_self_eq_true, gt_iff_lt, ble_dec, beq_dec, List.head?_cons, AV.undef, eq_self, ne_eq, not_true_eq_false, not_false_eq_true, Int.reduceLT, Int.reduceLE, Int.reduceToNat, Int.reduceEq, Int.reduceNeg, Nat.reduceAdd, Nat.reduceLT, Nat.reduceLeDiff, Nat.reduceMul, Nat.reduceSub, ↓evDraw_nil, bir, putD, evDraw, trace, List.all_cons, List.all_nil, chk, stAt, again, sameV, sameL, sameA, AV.undef, Bool.and_self, Bool.and_true, decide_eq_true_eq, List.getElem?_nil, AV.cells, AV.tup, Bool.true_and, true_and, and_true, List.drop_nil, List.append_nil, rd_put, rd_alloc, rdO, St.get_put, St.get_alloc, St.next_put, St.next_alloc, St.wr, Bool.and_self, Bool.and_true, List.length_cons, List.length_nil, List.take_succ_cons, List.take_zero, List.drop_succ_cons, List.drop_zero, List.cons_append, List.nil_append, Nat.zero_add, Nat.add_zero, Nat.reduceMul, aFill, evParts, rep, List.replicate_succ, List.replicate_zero, List.flatten_cons, List.flatten_nil, List.append_nil, newSl, newVar, evOpt, t2, t7, a2, nz, hb1, w2, hkk, hB1, hc1, rl1, h6, hc2, rl2, h7, r16, r16', h12, h12', h14, h12d, hix, hz1, har, y11]
    exact ⟨_, _, rfl, rfl⟩
theorem law7 {n at_ : Int} {p1 : Option (Nat × Nat × Nat)} {n1 : Nat} {xs : List AV} (h1 : Arg p1 0 n1 [.int .i64] xs) (_ : (Lit.int .i64 n).wf = true) (_ : (Lit.int .i64 at_).wf = true) :
    ∃ S', evF Y AP (0 + 1104) 7 [.slice p1 n1 1 none, .int .i64 n, .int .i64 at_] (S0.alloc (.cells xs 0 0 false)) = some (.bool true, S') := by
  refine ev7 0 (.of_arg h1 (by simp only [St.get_alloc]; rfl) (by show 0 < 1; decide)) (fun o v i hp => ?_)
  rcases h1.at0 with h0 | h0
  · rw [hp] at h0; cases h0
  · rw [hp] at h0; cases h0; show 0 < 1; decide
end Go.Proofs.YtkbooepiomobdaaA
