/- Chapter 16: asks are answered as the document says; the closed sentence. -/
import Derived.Test.YtinnclcheekhpaaMtD
set_option linter.unusedVariables false
set_option linter.unusedSimpArgs false
set_option maxRecDepth 10000
namespace Go.Proofs.YtinnclcheekhpaaA
open Go.RowKit
attribute [local congr] bind_congr1 map_congr1 cond_congr1 withX_congr after_congr br_congr gd_congr

def addF (f : Nat → Int) (l n now : Int) : Nat → Int :=
  let a := if l < slot now then slot now else l
  fu (clr f a (if 5 < a - l then 5 else a - l).toNat) (a % 5).toNat (sat (clr f a (if 5 < a - l then 5 else a - l).toNat (a % 5).toNat) n)
/-- An Add, whatever it is told. -/
theorem A9 (k : Nat) {S : St} {o : Nat} {f : Nat → Int} {l t n now : Int} (hS : S.get o = some (mt f l t)) (g : Gd f l) (hn : I64 now) :
    ∃ S', evF Y AP (k + 40) 9 [pt o, .int .i64 n, .int .i64 now] S = some (.tuple [], S') ∧
      Upd S S' o (if n < 0 then mt f l t else mt (addF f l n now) (if l < slot now then slot now else l) (sat t n)) := by
  by_cases c : n < 0
  · rw [if_pos c]
    refine ⟨S, ?_, Upd.refl hS⟩
    rw [evF_body (af := af9) rfl rfl rfl]
    simp -implicitDefEqProofs -dsimp (maxSteps := 10000000) only [af9, ops_nil, ops_some, ops_none, oper_none, oper_some, gd_tt, gd_ff, gd_tf, gd_ft, gd_undef, ↓any_op, ↓any_call, ↓any_callV, ↓any_invoke, xo_t, xo_c, args_nil, args_cons, bin_add, bin_sub, bin_mul, bin_quo, bin_rem, bin_and, bin_or, bin_xor, bin_andNot, bin_eql, bin_neq, bin_lss, bin_leq, bin_gtr, bin_geq, bin_shl, bin_shr, bin_bools, bin_strs, bin_ptrs, bin_slices, bin_aggs, ↓Option.bind_some, ↓Option.map_some, ↓cond_true, ↓cond_false, evC, evOp, XO.lit, setArgs, Tr.tabG, Tr.tabS, Tr.tabL, Tr.get_lf, Option.bind_some, Option.map_some, cond_true, cond_false, maxI, maxFrom, minI, minFrom, aConv, aBinE, aEq, eqScal, aUn, evRes, fin, oneOf, if_true, if_false, callee, reduceCtorEq, Nat.reduceEqDiff, and_self, decide_true, decide_false, beq_true, beq_false, Bool.not_true, Bool.not_false, List.getElem?_cons_zero, List.getElem?_cons_succ, beq_self_eq_true, gt_iff_lt, ble_dec, beq_dec, List.head?_cons, AV.undef, eq_self, ne_eq, not_true_eq_false, not_false_eq_true, Int.reduceLT, Int.reduceLE, Int.reduceToNat, Int.reduceEq, Int.reduceNeg, Nat.reduceAdd, Nat.reduceLT, Nat.reduceLeDiff, Nat.reduceMul, Nat.reduceSub, ↓evDraw_nil, putD, evDraw, trace, List.all_cons, List.all_nil, chk, stAt, again, sameV, sameA, AV.undef, Bool.and_self, Bool.and_true, decide_eq_true_eq, List.getElem?_nil, AV.cells, AV.tup, Bool.true_and, true_and, and_true, List.drop_nil, List.append_nil, rd_put, rd_alloc, rdO, St.get_put, St.get_alloc, St.next_put, St.next_alloc, St.wr, Bool.and_self, Bool.and_true, List.length_cons, List.length_nil, List.take_succ_cons, List.take_zero, List.drop_succ_cons, List.drop_zero, List.cons_append, List.nil_append, Nat.zero_add, Nat.add_zero, Nat.reduceMul, c]
  · rw [if_neg c]
    exact T9 (k + 20) hS g.l0 g.l1 (by omega) hn _ rfl
theorem A13 (k : Nat) {S : St} {o : Nat} {f : Nat → Int} {l t n now : Int} (hS : S.get o = some (rm f l t)) (g : Gd f l) (hn : I64 now) :
    ∃ S', evF Y AP (k + 40) 13 [pt o, .int .i64 n, .int .i64 now] S = some (.tuple [], S') ∧
      Upd S S' o (if n < 0 then rm f l t else rm (addF f l n now) (if l < slot now then slot now else l) (sat t n)) := by
  have hb := slot_bd hn.2
  rw [show k + 40 = (k + 39) + 1 from rfl, evF_body (af := af13) rfl rfl rfl]
  by_cases c : n < 0
  · rw [if_pos c]
    refine ⟨S, ?_, Upd.refl hS⟩
    simp -implicitDefEqProofs -dsimp (maxSteps := 10000000) only [af13, ops_nil, ops_some, ops_none, oper_none, oper_some, gd_tt, gd_ff, gd_tf, gd_ft, gd_undef, ↓any_op, ↓any_call, ↓any_callV, ↓any_invoke, xo_t, xo_c, args_nil, args_cons, bin_add, bin_sub, bin_mul, bin_quo, bin_rem, bin_and, bin_or, bin_xor, bin_andNot, bin_eql, bin_neq, bin_lss, bin_leq, bin_gtr, bin_geq, bin_shl, bin_shr, bin_bools, bin_strs, bin_ptrs, bin_slices, bin_aggs, ↓Option.bind_some, ↓Option.map_some, ↓cond_true, ↓cond_false, evC, evOp, XO.lit, setArgs, Tr.tabG, Tr.tabS, Tr.tabL, Tr.get_lf, Option.bind_some, Option.map_some, cond_true, cond_false, maxI, maxFrom, minI, minFrom, aConv, aBinE, aEq, eqScal, aUn, evRes, fin, oneOf, if_true, if_false, callee, reduceCtorEq, Nat.reduceEqDiff, and_self, decide_true, decide_false, beq_true, beq_false, Bool.not_true, Bool.not_false, List.getElem?_cons_zero, List.getElem?_cons_succ, beq_self_eq_true, gt_iff_lt, ble_dec, beq_dec, List.head?_cons, AV.undef, eq_self, ne_eq, not_true_eq_false, not_false_eq_true, Int.reduceLT, Int.reduceLE, Int.reduceToNat, Int.reduceEq, Int.reduceNeg, Nat.reduceAdd, Nat.reduceLT, Nat.reduceLeDiff, Nat.reduceMul, Nat.reduceSub, ↓evDraw_nil, putD, evDraw, trace, List.all_cons, List.all_nil, chk, stAt, again, sameV, sameA, AV.undef, Bool.and_self, Bool.and_true, decide_eq_true_eq, List.getElem?_nil, AV.cells, AV.tup, Bool.true_and, true_and, and_true, List.drop_nil, List.append_nil, rd_put, rd_alloc, rdO, St.get_put, St.get_alloc, St.next_put, St.next_alloc, St.wr, Bool.and_self, Bool.and_true, List.length_cons, List.length_nil, List.take_succ_cons, List.take_zero, List.drop_succ_cons, List.drop_zero, List.cons_append, List.nil_append, Nat.zero_add, Nat.add_zero, Nat.reduceMul, c]
  · rw [if_neg c]
    obtain ⟨a, ha⟩ : ∃ a, (if l < slot now then slot now else l) = a := ⟨_, rfl⟩
    have a0 : 0 ≤ a := by rw [← ha]; have := g.l0; split <;> omega
    have hne : ¬ ((100000 : Int) = 0) := by decide
    have ht0 : Int.tdiv (if now < 0 then 0 else now) 100000 = slot now := by
      unfold slot
      rw [Int.tdiv_eq_ediv_of_nonneg (by split <;> omega)]
      congr 1
      split <;> split <;> omega
    have w : IntKind.i64.wrap (slot now) = slot now := w64_id (by omega) (by omega)
    obtain ⟨S1, e19, u1⟩ := T19 (k + 19) hS g.l0 g.l1 hb.1 hb.2 a ha
    obtain ⟨q, hq⟩ : ∃ q, clr f a (if 5 < a - l then 5 else a - l).toNat = q := ⟨_, rfl⟩
    rw [hq] at u1
    have hS1 := u1.same
    have hrd1 : ∀ v i m, S1.rd o v i m = rdO (rm q a t) v i m := rd_of hS1
    have ht : Int.tmod a 5 = a % 5 := Int.tmod_eq_emod_of_nonneg a0
    obtain ⟨x, hx⟩ : ∃ x, a % 5 = x := ⟨_, rfl⟩
    have x0 : 0 ≤ x ∧ x < 5 := by omega
    have hix : ixOf (.int .i64 x) 5 = some x.toNat := ix_ok x0.1 (by omega)
    have h5 : ¬ ((5 : Int) = 0) := by decide
    have hle : 1 + x.toNat * 1 + 1 ≤ 7 := by omega
    have hget := rc_get q a t (show x.toNat < 5 by omega)
    have hset := rc_set q a t (sat (q x.toNat) n) (show x.toNat < 5 by omega)
    refine ⟨_, by
      simp -implicitDefEqProofs -dsimp (maxSteps := 10000000) only [af13, ops_nil, ops_some, ops_none, oper_none, oper_some, gd_tt, gd_ff, gd_tf, gd_ft, gd_undef, ↓any_op, ↓any_call, ↓any_callV, ↓any_invoke, xo_t, xo_c, args_nil, args_cons, bin_add, bin_sub, bin_mul, bin_quo, bin_rem, bin_and, bin_or, bin_xor, bin_andNot, bin_eql, bin_neq, bin_lss, bin_leq, bin_gtr, bin_geq, bin_shl, bin_shr, bin_bools, bin_strs, bin_ptrs, bin_slices, bin_aggs, ↓Option.bind_some, ↓Option.map_some, ↓cond_true, ↓cond_false, evC, evOp, XO.lit, setArgs, Tr.tabG, Tr.tabS, Tr.tabL, Tr.get_lf, Option.bind_some, Option.map_some, cond_true, cond_false, maxI, maxFrom, minI, minFrom, aConv, aBinE, aEq, eqScal, aUn, evRes, fin, oneOf, if_true, if_false, callee, reduceCtorEq, Nat.reduceEqDiff, and_self, decide_true, decide_false, beq_true, beq_false, Bool.not_true, Bool.not_false, List.getElem?_cons_zero, List.getElem?_cons_succ, beq_self_eq_true, gt_iff_lt, ble_dec, beq_dec, List.head?_cons, AV.undef, eq_self, ne_eq, not_true_eq_false, not_false_eq_true, Int.reduceLT, Int.reduceLE, Int.reduceToNat, Int.reduceEq, Int.reduceNeg, Nat.reduceAdd, Nat.reduceLT, Nat.reduceLeDiff, Nat.reduceMul, Nat.reduceSub, ↓evDraw_nil, putD, evDraw, trace, List.all_cons, List.all_nil, chk, stAt, again, sameV, sameA, AV.undef, Bool.and_self, Bool.and_true, decide_eq_true_eq, List.getElem?_nil, AV.cells, AV.tup, Bool.true_and, true_and, and_true, List.drop_nil, List.append_nil, rd_put, rd_alloc, rdO, St.get_put, St.get_alloc, St.next_put, St.next_alloc, St.wr, Bool.and_self, Bool.and_true, List.length_cons, List.length_nil, List.take_succ_cons, List.take_zero, List.drop_succ_cons, List.drop_zero, List.cons_append, List.nil_append, Nat.zero_add, Nat.add_zero, Nat.reduceMul, c, hne, ht0, w, e19, hrd1, hS1, rc_len, rc0, rc6, rc_set6, ht, hx, h5, hix, hle, hget, hset, y20]
      exact rfl, ?_⟩
    refine ((u1.put _).put _).cast ?_
    unfold addF
    dsimp only
    rw [ha, hq, hx]
structure I6 (p : Option (Nat × Nat × Nat)) (len e : Nat) (Sb : St) (n : Nat) (T : Tm) (S : St) : Prop where
  t0 : T.get 0 = some (.slice p len e none)
  t3 : T.get 3 = some (pt Sb.next)
  t4 : T.get 4 = some (pt (Sb.next + 1))
  ext : Ext Sb S
  lt : Sb.next + 1 < S.next
  more : ∃ (i : Int) (f : Nat → Int) (l t : Int), T.get 5 = some (.int .i64 i) ∧ S.get Sb.next = some (mt f l t) ∧ S.get (Sb.next + 1) = some (rm f l t) ∧ Gd f l ∧ 0 ≤ i ∧ i ≤ 150 ∧ (n : Int) = 150 - i
theorem Sl.three {S : St} {o v i len : Nat} {k1 k2 k3 : Sc} (h : Sl S (some (o, v, i)) len [k1, k2, k3]) {j : Int} (h0 : 0 ≤ j) (h1 : j < len) :
    ∃ a b c, S.rd o v (i + j.toNat * 3) 3 = some [a, b, c] ∧ k1.of a ∧ k2.of b ∧ k3.of c := by
  obtain ⟨ys, hy, hs⟩ := h.el o v i rfl j.toNat (by omega)
  match ys, hs with
  | [a, b, c], hs => exact ⟨a, b, c, hy, hs.1, hs.2.1, hs.2.2.1⟩
set_option maxHeartbeats 16000000 in
theorem round6 (k : Nat) {p : Option (Nat × Nat × Nat)} {len e : Nat} {Sb : St} (h : Sl Sb p len [.bool, .int .i64, .int .i64]) (hez : p = none ∨ e = 3) (n : Nat) (T : Tm) (S : St) (hI : I6 p len e Sb n T S) :
    Goes (evF Y AP (k + 299)) (k + 299) af6_l0 T S (Then (fun T' S' => ∃ n', I6 p len e Sb n' T' S' ∧ id n' < id n) fun q T' S' => q = .exit 0 ∧ ∃ n', I6 p len e Sb n' T' S') := by
  have hm := h.max
  obtain ⟨t0, t3, t4, he, hlt, i, f, l, t, t5, ga, gb, gd, i0, i1, hn⟩ := hI
  by_cases c1 : i < len
  · by_cases c2 : i < 150
    · obtain ⟨o, v, j, rfl, ho⟩ := h.at_ (by omega)
      obtain rfl : e = 3 := hez.resolve_left (by simp)
      obtain ⟨x, y, z, hxz0, hxw, hyw, hzw⟩ := h.three i0 c1
      obtain ⟨x, rfl⟩ := Sc.of_bool hxw
      obtain ⟨y, rfl, wy⟩ := Sc.of_int hyw
      obtain ⟨z, rfl, wz⟩ := Sc.of_int hzw
      have hxz : S.rd o v (j + i.toNat * 3) 3 = some [.bool x, .int .i64 y, .int .i64 z] := by rw [he.rd ho]; exact hxz0
      have hix : ixOf (.int .i64 i) len = some i.toNat := ix_ok i0 c1
      have w2 : IntKind.i64.wrap (i + 1) = i + 1 := w64_id (by omega) (by omega)
      obtain ⟨Sa, hSa⟩ : ∃ Sa, (S.alloc (.cells [.bool false, .int .i64 0, .int .i64 0] 0 0 true)).put S.next (.cells [.bool x, .int .i64 y, .int .i64 z] 0 0 true) = Sa := ⟨_, rfl⟩
      have geta : ∀ q, Sa.get q = if q = S.next then some (.cells [.bool x, .int .i64 y, .int .i64 z] 0 0 true) else S.get q := by
        intro q
        rw [← hSa, St.get_put, St.get_alloc]
        split <;> rfl
      have na : Sa.next = S.next + 1 := by rw [← hSa]; rfl
      have ea : Ext Sb Sa := ⟨by rw [na]; have := he.next; omega, fun q hq => by rw [geta, if_neg (by have := he.next; omega)]; exact he.old q hq⟩
      have ga1 : Sa.get Sb.next = some (mt f l t) := by rw [geta, if_neg (by omega)]; exact ga
      have gb1 : Sa.get (Sb.next + 1) = some (rm f l t) := by rw [geta, if_neg (by omega)]; exact gb
      have gc1 : Sa.get S.next = some (.cells [.bool x, .int .i64 y, .int .i64 z] 0 0 true) := by rw [geta, if_pos rfl]
      have hzi := wf_i64 wz
      have hz2 : I64 (Int.tdiv z 2) := by
        by_cases hz : 0 ≤ z
        · rw [Int.tdiv_eq_ediv_of_nonneg hz]; exact ⟨by omega, by omega⟩
        · have : Int.tdiv z 2 = -((-z) / 2) := by rw [← Int.tdiv_eq_ediv_of_nonneg (show 0 ≤ -z by omega), Int.neg_tdiv, Int.neg_neg]
          rw [this]; exact ⟨by omega, by omega⟩
      have wh : IntKind.i64.wrap (Int.tdiv z 2) = Int.tdiv z 2 := w64_id hz2.1 hz2.2
      have h2 : ¬ ((2 : Int) = 0) := by decide
      have r0 : ∀ v i m, Sa.rd S.next v i m = rdO (.cells [.bool x, .int .i64 y, .int .i64 z] 0 0 true) v i m := rd_of gc1
      have key : ∀ (S1 : St) (f' : Nat → Int) (l' t' : Int), S1.get Sb.next = some (mt f' l' t') → S1.get (Sb.next + 1) = some (rm f' l' t') → S1.get S.next = some (.cells [.bool x, .int .i64 y, .int .i64 z] 0 0 true) → Gd f' l' → Ext Sb S1 → S.next < S1.next →
          ∃ S2 S3, (∀ v i m, S1.rd S.next v i m = rdO (.cells [.bool x, .int .i64 y, .int .i64 z] 0 0 true) v i m) ∧ (∀ v i m, S2.rd S.next v i m = rdO (.cells [.bool x, .int .i64 y, .int .i64 z] 0 0 true) v i m) ∧ (∀ v i m, S2.rd (Sb.next + 1) v i m = rdO (rm f' l' t') v i m) ∧
            evF Y AP (k + 299) 10 [pt Sb.next, .int .i64 z] S1 = some (.int .i64 (rate f' l' z), S1) ∧ evF Y AP (k + 299) 14 [pt (Sb.next + 1), .int .i64 z] S1 = some (.int .i64 (rate f' l' z), S2) ∧ evF Y AP (k + 299) 12 [pt Sb.next] S2 = some (.int .i64 t', S2) ∧
            evF Y AP (k + 299) 10 [pt Sb.next, .int .i64 (Int.tdiv z 2)] S2 = some (.int .i64 (rate f' l' (Int.tdiv z 2)), S2) ∧ evF Y AP (k + 299) 14 [pt (Sb.next + 1), .int .i64 (Int.tdiv z 2)] S2 = some (.int .i64 (rate f' l' (Int.tdiv z 2)), S3) ∧
            Ext Sb S3 ∧ Sb.next + 1 < S3.next ∧ S3.get Sb.next = some (mt f' l' t') ∧ S3.get (Sb.next + 1) = some (rm f' l' t') := by
        intro S1 f' l' t' g1 g2 g3 gd' e1 lt1
        obtain ⟨S2, e14, x2⟩ := T14 (k + 259) g2 (by omega) gd'.l0 gd'.l1 hzi
        rw [rate_eq gd'] at e14
        have g12 := x2.get (by omega) g1
        have g22 := x2.get (by omega) g2
        have hn2 := x2.next
        obtain ⟨S3, e14', x3⟩ := T14 (k + 259) g22 (by omega) gd'.l0 gd'.l1 hz2
        rw [rate_eq gd'] at e14'
        have hn3 := x3.next
        exact ⟨S2, S3, rd_of g3, rd_of (x2.get lt1 g3), rd_of g22, T10 (k + 279) g1 gd'.l0 gd'.l1 hzi, e14, T12 (k + 295) g12, T10 (k + 279) g12 gd'.l0 gd'.l1 hz2, e14', (e1.trans x2).trans x3, by omega, x3.get (by omega) g12, x3.get (by omega) g22⟩
      cases x with
      | false =>
        obtain ⟨S2, S3, r1, r2, q2, e10, e14, e12, e10', e14', x3, lt3, g1, g2⟩ := key Sa f l t ga1 gb1 gc1 gd ea (by rw [na]; omega)
        simp -implicitDefEqProofs -dsimp (maxSteps := 10000000) only [af6_l0, ↓goes_loop, ↓goes_seq, ↓goes_reg, ↓goes_dreg, ↓goes_cond, ↓goes_block, ↓goes_skip, ↓goes_exit, ↓goes_ret, after_some, br_true, br_false, ↓then_normal, ↓then_exit, ↓then_ret, ↓blk_normal, ↓blk_exit, ↓blk_ret, ↓blk_other, ops_nil, ops_some, ops_none, oper_none, oper_some, gd_tt, gd_ff, gd_tf, gd_ft, gd_undef, ↓any_op, ↓any_call, ↓any_callV, ↓any_invoke, xo_t, xo_c, args_nil, args_cons, bin_add, bin_sub, bin_mul, bin_quo, bin_rem, bin_and, bin_or, bin_xor, bin_andNot, bin_eql, bin_neq, bin_lss, bin_leq, bin_gtr, bin_geq, bin_shl, bin_shr, bin_bools, bin_strs, bin_ptrs, bin_slices, bin_aggs, ↓Option.bind_some, ↓Option.map_some, ↓cond_true, ↓cond_false, evC, evOp, XO.lit, setArgs, Tr.get_set, Option.bind_some, Option.map_some, cond_true, cond_false, maxI, maxFrom, minI, minFrom, aConv, aBinE, aEq, eqScal, aUn, evRes, fin, oneOf, if_true, if_false, callee, reduceCtorEq, Nat.reduceEqDiff, and_self, decide_true, decide_false, beq_true, beq_false, Bool.not_true, Bool.not_false, List.getElem?_cons_zero, List.getElem?_cons_succ, beq_self_eq_true, gt_iff_lt, ble_dec, beq_dec, List.head?_cons, AV.undef, eq_self, ne_eq, not_true_eq_false, not_false_eq_true, Int.reduceLT, Int.reduceLE, Int.reduceToNat, Int.reduceEq, Int.reduceNeg, Nat.reduceAdd, Nat.reduceLT, Nat.reduceLeDiff, Nat.reduceMul, Nat.reduceSub, ↓evDraw_nil, putD, evDraw, trace, List.all_cons, List.all_nil, chk, stAt, again, sameV, sameA, AV.undef, Bool.and_self, Bool.and_true, decide_eq_true_eq, List.getElem?_nil, AV.cells, AV.tup, Bool.true_and, true_and, and_true, List.drop_nil, List.append_nil, rd_put, rd_alloc, rdO, St.get_put, St.get_alloc, St.next_put, St.next_alloc, St.wr, Bool.and_self, Bool.and_true, List.length_cons, List.length_nil, List.take_succ_cons, List.take_zero, List.drop_succ_cons, List.drop_zero, List.cons_append, List.nil_append, Nat.zero_add, Nat.add_zero, Nat.reduceMul, aFill, evParts, rep, List.replicate_succ, List.replicate_zero, List.flatten_cons, List.flatten_nil, List.append_nil, newSl, newVar, t0, t3, t4, t5, c1, c2, hm, hix, hxz, hSa, r0, r1, r2, q2, e10, e14, e12, e10', e14', w2, wh, h2, rc_len, rc6, aBinE, aEq, Option.isNone_some]
        refine ⟨n - 1, ⟨?_, ?_, ?_, x3, lt3, i + 1, _, _, _, ?_, g1, g2, gd, by omega, by omega, by omega⟩, by simp only [id]; omega⟩ <;>
          simp only [Tr.get_set, Nat.reduceEqDiff, if_false, if_true, t0, t3, t4]
      | true =>
        obtain ⟨S1, e9, u1⟩ := A9 (k + 259) (n := y) ga1 gd hzi
        have gb2 : S1.get (Sb.next + 1) = some (rm f l t) := by rw [u1.else (by omega)]; exact gb1
        obtain ⟨S1', e13, u1'⟩ := A13 (k + 259) (n := y) gb2 gd hzi
        have gc2 : S1.get S.next = some (.cells [.bool true, .int .i64 y, .int .i64 z] 0 0 true) := by rw [u1.else (by omega)]; exact gc1
        have gc3 : S1'.get S.next = some (.cells [.bool true, .int .i64 y, .int .i64 z] 0 0 true) := by rw [u1'.else (by omega)]; exact gc2
        have r3 : ∀ v i m, S1.rd S.next v i m = rdO (.cells [.bool true, .int .i64 y, .int .i64 z] 0 0 true) v i m := rd_of gc2
        have ex1 : Ext Sb S1' := u1'.ext (u1.ext ea (Nat.le_refl _)) (by omega)
        have hlt1 : S.next < S1'.next := by rw [u1'.next, u1.next, na]; omega
        have fin : ∃ (f' : Nat → Int) (l' t' : Int), S1'.get Sb.next = some (mt f' l' t') ∧ S1'.get (Sb.next + 1) = some (rm f' l' t') ∧ Gd f' l' := by
          have h1 := u1.same
          have h1' : S1'.get Sb.next = S1.get Sb.next := u1'.else (by omega)
          have h2 := u1'.same
          by_cases cy : y < 0
          · rw [if_pos cy] at h1 h2
            exact ⟨f, l, t, h1'.trans h1, h2, gd⟩
          · rw [if_neg cy] at h1 h2
            refine ⟨_, _, _, h1'.trans h1, h2, ?_⟩
            have hb := slot_bd hzi.2
            have hl0 := gd.l0; have hl1 := gd.l1
            exact add_gd gd _ y (by split <;> omega) (by split <;> omega) (by omega) _
        obtain ⟨f', l', t', h1, h2', gd'⟩ := fin
        obtain ⟨S2, S3, r1, r2, q2, e10, e14, e12, e10', e14', x3, lt3, g1, g2⟩ := key S1' f' l' t' h1 h2' gc3 gd' ex1 hlt1
        simp -implicitDefEqProofs -dsimp (maxSteps := 10000000) only [af6_l0, ↓goes_loop, ↓goes_seq, ↓goes_reg, ↓goes_dreg, ↓goes_cond, ↓goes_block, ↓goes_skip, ↓goes_exit, ↓goes_ret, after_some, br_true, br_false, ↓then_normal, ↓then_exit, ↓then_ret, ↓blk_normal, ↓blk_exit, ↓blk_ret, ↓blk_other, ops_nil, ops_some, ops_none, oper_none, oper_some, gd_tt, gd_ff, gd_tf, gd_ft, gd_undef, ↓any_op, ↓any_call, ↓any_callV, ↓any_invoke, xo_t, xo_c, args_nil, args_cons, bin_add, bin_sub, bin_mul, bin_quo, bin_rem, bin_and, bin_or, bin_xor, bin_andNot, bin_eql, bin_neq, bin_lss, bin_leq, bin_gtr, bin_geq, bin_shl, bin_shr, bin_bools, bin_strs, bin_ptrs, bin_slices, bin_aggs, ↓Option.bind_some, ↓Option.map_some, ↓cond_true, ↓cond_false, evC, evOp, XO.lit, setArgs, Tr.get_set, Option.bind_some, Option.map_some, cond_true, cond_false, maxI, maxFrom, minI, minFrom, aConv, aBinE, aEq, eqScal, aUn, evRes, fin, oneOf, if_true, if_false, callee, reduceCtorEq, Nat.reduceEqDiff, and_self, decide_true, decide_false, beq_true, beq_false, Bool.not_true, Bool.not_false, List.getElem?_cons_zero, List.getElem?_cons_succ, beq_self_eq_true, gt_iff_lt, ble_dec, beq_dec, List.head?_cons, AV.undef, eq_self, ne_eq, not_true_eq_false, not_false_eq_true, Int.reduceLT, Int.reduceLE, Int.reduceToNat, Int.reduceEq, Int.reduceNeg, Nat.reduceAdd, Nat.reduceLT, Nat.reduceLeDiff, Nat.reduceMul, Nat.reduceSub, ↓evDraw_nil, putD, evDraw, trace, List.all_cons, List.all_nil, chk, stAt, again, sameV, sameA, AV.undef, Bool.and_self, Bool.and_true, decide_eq_true_eq, List.getElem?_nil, AV.cells, AV.tup, Bool.true_and, true_and, and_true, List.drop_nil, List.append_nil, rd_put, rd_alloc, rdO, St.get_put, St.get_alloc, St.next_put, St.next_alloc, St.wr, Bool.and_self, Bool.and_true, List.length_cons, List.length_nil, List.take_succ_cons, List.take_zero, List.drop_succ_cons, List.drop_zero, List.cons_append, List.nil_append, Nat.zero_add, Nat.add_zero, Nat.reduceMul, aFill, evParts, rep, List.replicate_succ, List.replicate_zero, List.flatten_cons, List.flatten_nil, List.append_nil, newSl, newVar, t0, t3, t4, t5, c1, c2, hm, hix, hxz, hSa, r0, r3, e9, e13, r1, r2, q2, e10, e14, e12, e10', e14', w2, wh, h2, rc_len, rc6, aBinE, aEq, Option.isNone_some]
        refine ⟨n - 1, ⟨?_, ?_, ?_, x3, lt3, i + 1, _, _, _, ?_, g1, g2, gd', by omega, by omega, by omega⟩, by simp only [id]; omega⟩ <;>
          simp only [Tr.get_set, Nat.reduceEqDiff, if_false, if_true, t0, t3, t4]
    · simp -implicitDefEqProofs -dsimp (maxSteps := 10000000) only [af6_l0, ↓goes_loop, ↓goes_seq, ↓goes_reg, ↓goes_dreg, ↓goes_cond, ↓goes_block, ↓goes_skip, ↓goes_exit, ↓goes_ret, after_some, br_true, br_false, ↓then_normal, ↓then_exit, ↓then_ret, ↓blk_normal, ↓blk_exit, ↓blk_ret, ↓blk_other, ops_nil, ops_some, ops_none, oper_none, oper_some, gd_tt, gd_ff, gd_tf, gd_ft, gd_undef, ↓any_op, ↓any_call, ↓any_callV, ↓any_invoke, xo_t, xo_c, args_nil, args_cons, bin_add, bin_sub, bin_mul, bin_quo, bin_rem, bin_and, bin_or, bin_xor, bin_andNot, bin_eql, bin_neq, bin_lss, bin_leq, bin_gtr, bin_geq, bin_shl, bin_shr, bin_bools, bin_strs, bin_ptrs, bin_slices, bin_aggs, ↓Option.bind_some, ↓Option.map_some, ↓cond_true, ↓cond_false, evC, evOp, XO.lit, setArgs, Tr.get_set, Option.bind_some, Option.map_some, cond_true, cond_false, maxI, maxFrom, minI, minFrom, aConv, aBinE, aEq, eqScal, aUn, evRes, fin, oneOf, if_true, if_false, callee, reduceCtorEq, Nat.reduceEqDiff, and_self, decide_true, decide_false, beq_true, beq_false, Bool.not_true, Bool.not_false, List.getElem?_cons_zero, List.getElem?_cons_succ, beq_self_eq_true, gt_iff_lt, ble_dec, beq_dec, List.head?_cons, AV.undef, eq_self, ne_eq, not_true_eq_false, not_false_eq_true, Int.reduceLT, Int.reduceLE, Int.reduceToNat, Int.reduceEq, Int.reduceNeg, Nat.reduceAdd, Nat.reduceLT, Nat.reduceLeDiff, Nat.reduceMul, Nat.reduceSub, AV.cells, AV.tup, Bool.true_and, true_and, and_true, List.drop_nil, List.append_nil, rd_put, rd_alloc, rdO, St.get_put, St.get_alloc, St.next_put, St.next_alloc, St.wr, Bool.and_self, Bool.and_true, List.length_cons, List.length_nil, List.take_succ_cons, List.take_zero, List.drop_succ_cons, List.drop_zero, List.cons_append, List.nil_append, Nat.zero_add, Nat.add_zero, Nat.reduceMul, t0, t5, c1, c2, hm]
      refine ⟨n, ?_, ?_, ?_, he, hlt, i, f, l, t, ?_, ga, gb, gd, i0, i1, hn⟩ <;>
        simp only [Tr.get_set, Nat.reduceEqDiff, if_false, if_true, t0, t3, t4, t5]
  · simp -implicitDefEqProofs -dsimp (maxSteps := 10000000) only [af6_l0, ↓goes_loop, ↓goes_seq, ↓goes_reg, ↓goes_dreg, ↓goes_cond, ↓goes_block, ↓goes_skip, ↓goes_exit, ↓goes_ret, after_some, br_true, br_false, ↓then_normal, ↓then_exit, ↓then_ret, ↓blk_normal, ↓blk_exit, ↓blk_ret, ↓blk_other, ops_nil, ops_some, ops_none, oper_none, oper_some, gd_tt, gd_ff, gd_tf, gd_ft, gd_undef, ↓any_op, ↓any_call, ↓any_callV, ↓any_invoke, xo_t, xo_c, args_nil, args_cons, bin_add, bin_sub, bin_mul, bin_quo, bin_rem, bin_and, bin_or, bin_xor, bin_andNot, bin_eql, bin_neq, bin_lss, bin_leq, bin_gtr, bin_geq, bin_shl, bin_shr, bin_bools, bin_strs, bin_ptrs, bin_slices, bin_aggs, ↓Option.bind_some, ↓Option.map_some, ↓cond_true, ↓cond_false, evC, evOp, XO.lit, setArgs, Tr.get_set, Option.bind_some, Option.map_some, cond_true, cond_false, maxI, maxFrom, minI, minFrom, aConv, aBinE, aEq, eqScal, aUn, evRes, fin, oneOf, if_true, if_false, callee, reduceCtorEq, Nat.reduceEqDiff, and_self, decide_true, decide_false, beq_true, beq_false, Bool.not_true, Bool.not_false, List.getElem?_cons_zero, List.getElem?_cons_succ, beq_self_eq_true, gt_iff_lt, ble_dec, beq_dec, List.head?_cons, AV.undef, eq_self, ne_eq, not_true_eq_false, not_false_eq_true, Int.reduceLT, Int.reduceLE, Int.reduceToNat, Int.reduceEq, Int.reduceNeg, Nat.reduceAdd, Nat.reduceLT, Nat.reduceLeDiff, Nat.reduceMul, Nat.reduceSub, AV.cells, AV.tup, Bool.true_and, true_and, and_true, List.drop_nil, List.append_nil, rd_put, rd_alloc, rdO, St.get_put, St.get_alloc, St.next_put, St.next_alloc, St.wr, Bool.and_self, Bool.and_true, List.length_cons, List.length_nil, List.take_succ_cons, List.take_zero, List.drop_succ_cons, List.drop_zero, List.cons_append, List.nil_append, Nat.zero_add, Nat.add_zero, Nat.reduceMul, t0, t5, c1, hm]
    refine ⟨n, ?_, ?_, ?_, he, hlt, i, f, l, t, ?_, ga, gb, gd, i0, i1, hn⟩ <;>
      simp only [Tr.get_set, Nat.reduceEqDiff, if_false, if_true, t0, t3, t4, t5]
end Go.Proofs.YtinnclcheekhpaaA
