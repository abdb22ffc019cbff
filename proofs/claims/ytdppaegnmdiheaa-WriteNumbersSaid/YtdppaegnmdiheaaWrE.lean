/- Chapter 21: WriteRises. -/
import Derived.Test.YtdppaegnmdiheaaWrD
set_option linter.unusedVariables false
set_option linter.unusedSimpArgs false
set_option maxRecDepth 10000
namespace Go.Proofs.YtdppaegnmdiheaaA
open Go.RowKit
attribute [local congr] bind_congr1 map_congr1 cond_congr1 withX_congr after_congr br_congr gd_congr

abbrev ask : List Sc := [.int .i64, .int .i64, .int .i64, .int .u32, .bool]
theorem Sl.ask {S : St} {o v i len : Nat} (h : Sl S (some (o, v, i)) len ask) {j : Nat} (hj : j < len) :
    ∃ (a b c d : Int) (e : Bool), S.rd o v (i + j * 5) 5 = some [.int .i64 a, .int .i64 b, .int .i64 c, .int .u32 d, .bool e] ∧ I64 a ∧ I64 b ∧ I64 c ∧ 0 ≤ d ∧ d < 4294967296 := by
  obtain ⟨ys, hy, hs⟩ := h.el o v i rfl j hj
  match ys, hs with
  | [x1, x2, x3, x4, x5], hs =>
    obtain ⟨h1, h2, h3, h4, h5, _⟩ := hs
    obtain ⟨a, rfl, w1⟩ := Sc.of_int h1
    obtain ⟨b, rfl, w2⟩ := Sc.of_int h2
    obtain ⟨c, rfl, w3⟩ := Sc.of_int h3
    obtain ⟨d, rfl, w4⟩ := Sc.of_int h4
    obtain ⟨e, rfl⟩ := Sc.of_bool h5
    exact ⟨a, b, c, d, e, hy, wf_i64 w1, wf_i64 w2, wf_i64 w3, (wf_u32 w4).1, by have := (wf_u32 w4).2; omega⟩
theorem ext32 {x y : Int} (h0 : 0 ≤ x) (h1 : x < 1125899906842624) (h2 : 0 ≤ y) (h3 : -2147483646 ≤ y - x) (h4 : y - x ≤ 2147483646) : ext 4294967296 x (y % 4294967296) = y := by
  unfold ext
  rw [if_neg (by omega)]
  dsimp only
  split <;> split <;> omega
structure G3 (i : Int) (x : Wr) (A P : Int) : Prop where
  w0 : -1 ≤ x.w
  w1 : x.w ≤ 1
  lw : x.l = -1 ∨ x.l = x.w
  i0 : 0 ≤ x.i
  iA : x.i ≤ A
  A0 : 100 ≤ A
  A1 : A ≤ 100 + 4 * i
  n0 : -1 ≤ x.n
  nI : x.n ≤ x.i
  p0 : 0 ≤ x.p
  p1 : x.p ≤ P + i
  P0 : 5 ≤ P
  P1 : P ≤ 5 + 4095 * i
  pz : x.n < 0 → x.p = 0
  going : ¬ x.l = -1 → 0 ≤ x.t ∧ x.t ≤ P ∧ x.h ≤ i ∧ -1000000 ≤ x.h ∧ 0 ≤ x.n
theorem G3.want {i : Int} {x : Wr} {A P : Int} (h : G3 i x A P) {k : Int} (k0 : 0 ≤ k) (k1 : k ≤ 1) : G3 (i + 1) (wantW x k) A P ∧ (wantW x k).l = (if x.l = k then x.l else -1) := by
  have hk : mx1 k = k := mx1_id (by omega)
  obtain ⟨w0, w1, lw, i0, iA, A0, A1, n0, nI, p0, p1, P0, P1, pz, g⟩ := h
  have e : (wantW x k).l = (if x.l = k then x.l else -1) := by simp only [wantW, hk]
  refine ⟨⟨by simp only [wantW, hk]; omega, by simp only [wantW, hk]; omega, ?_, i0, iA, A0, by omega, n0, nI, p0, by show x.p ≤ P + (i + 1); omega, P0, by omega, pz, ?_⟩, e⟩
  · rw [e]; simp only [wantW, hk]; split <;> omega
  · rw [e]
    intro hn
    have : ¬ x.l = -1 := fun h => by rw [h] at hn; split at hn <;> omega
    obtain ⟨a, b, c, d, e⟩ := g this
    exact ⟨a, b, by show x.h ≤ i + 1; omega, d, e⟩
theorem G3.skip {i : Int} {x : Wr} {A P : Int} (h : G3 i x A P) {dA dP : Int} (a0 : 1 ≤ dA) (a1 : dA ≤ 4) (d0 : 0 ≤ dP) (d1 : dP ≤ 4095) : G3 (i + 1) x (A + dA) (P + dP) := by
  obtain ⟨w0, w1, lw, i0, iA, A0, A1, n0, nI, p0, p1, P0, P1, pz, g⟩ := h
  refine ⟨w0, w1, lw, i0, by omega, by omega, by omega, n0, nI, p0, by omega, by omega, by omega, pz, fun hn => ?_⟩
  obtain ⟨a, b, c, d, e⟩ := g hn
  exact ⟨a, by omega, by omega, d, e⟩
theorem G3.out {i : Int} {x x' : Wr} {A P : Int} (h : G3 i x A P) (hi : i ≤ 120) (hi0 : 0 ≤ i) {dA dP L : Int} {K : Bool} (a0 : 1 ≤ dA) (a1 : dA ≤ 4) (d0 : 0 ≤ dP) (d1 : dP ≤ 4095) (l0 : 0 ≤ L) (l1 : L ≤ 1) (hk : pkW x L (A + dA) K (P + dP) = some x') :
    G3 (i + 1) x' (A + dA) (P + dP) ∧ x'.s = x.s ∧ x'.l = L ∧ x'.i = A + dA ∧ x.p ≤ x'.p ∧ x.n < x'.n ∧ 0 ≤ x'.n ∧ (x.l = -1 → K = true ∧ x'.n = x.n + 1) ∧ (¬ x.l = -1 → x'.n - x.n = A + dA - x.i) := by
  obtain ⟨w0, w1, lw, i0, iA, A0, A1, n0, nI, p0, p1, P0, P1, pz, g⟩ := h
  unfold pkW at hk
  split at hk
  · cases hk
  · rename_i c1
    split at hk
    · rename_i c2
      rw [if_neg (by omega)] at hk
      cases hk
      obtain ⟨a, b, c, d, e⟩ := g (by omega)
      have w : IntKind.i64.wrap (A + dA - x.i) = A + dA - x.i := w64_id (by omega) (by omega)
      have st : stp x.t (P + dP) = P + dP := by
        have := ext32 (x := x.t) (y := P + dP) a (by omega) (by omega) (by omega) (by omega)
        rw [Int.emod_eq_of_lt (by omega) (by omega)] at this
        exact this
      have w2 : IntKind.i64.wrap (P + dP + x.h) = P + dP + x.h := w64_id (by omega) (by omega)
      have sn : sat x.n (A + dA - x.i) = x.n + (A + dA - x.i) := sat_ok e (by omega) (by omega)
      have m1 : x.p ≤ mxi x.p (P + dP + x.h) ∧ mxi x.p (P + dP + x.h) ≤ P + dP + (i + 1) := by unfold mxi; split <;> omega
      have e1 : goW x (A + dA) (P + dP) = ⟨x.s, x.l, x.w, x.c, x.n + (A + dA - x.i), mxi x.p (P + dP + x.h), A + dA, P + dP, x.h⟩ := by
        simp only [goW, w, st, w2, sn]
      rw [e1]
      refine ⟨⟨w0, w1, lw, by show 0 ≤ A + dA; omega, Int.le_refl _, by omega, by omega, by show -1 ≤ x.n + (A + dA - x.i); omega, by show x.n + (A + dA - x.i) ≤ A + dA; omega, by show 0 ≤ mxi _ _; omega, m1.2, by omega, by omega, fun h => absurd h (by show ¬ x.n + (A + dA - x.i) < 0; omega), fun _ => ⟨by show 0 ≤ P + dP; omega, Int.le_refl _, by show x.h ≤ i + 1; omega, d, by show 0 ≤ x.n + (A + dA - x.i); omega⟩⟩,
        rfl, c2.symm, rfl, m1.1, by show x.n < x.n + (A + dA - x.i); omega, by show 0 ≤ x.n + (A + dA - x.i); omega, fun h => by omega, fun _ => by show x.n + (A + dA - x.i) - x.n = _; omega⟩
    · rename_i c2
      cases K with
      | false => simp at hk
      | true =>
        rw [if_pos rfl] at hk
        cases hk
        have hl : x.l = -1 := by omega
        have sn : nxt x.n = x.n + 1 := by
          unfold nxt
          split
          · omega
          · exact sat_ok (by omega) (by omega) (by omega)
        obtain ⟨u, hu⟩ : ∃ u, (if 0 ≤ x.n then sat x.p 1 else P + dP) = u := ⟨_, rfl⟩
        have hub : x.p ≤ u ∨ ¬ 0 ≤ x.n := by
          by_cases h : 0 ≤ x.n
          · left; rw [← hu, if_pos h, sat_ok p0 (by omega) (by omega)]; omega
          · exact .inr h
        have hu2 : 0 ≤ u ∧ u ≤ P + dP + (i + 1) := by
          rw [← hu]
          split
          · rw [sat_ok p0 (by omega) (by omega)]; omega
          · omega
        have w : IntKind.i64.wrap (u - (P + dP)) = u - (P + dP) := w64_id (by omega) (by omega)
        have e1 : begW x L (A + dA) (P + dP) = ⟨x.s, L, x.w, IntKind.i64.wrap (x.c + 1), x.n + 1, u, A + dA, P + dP, u - (P + dP)⟩ := by
          simp only [begW, hu, w, sn]
        rw [e1]
        refine ⟨⟨w0, w1, .inr (by show L = x.w; omega), by show 0 ≤ A + dA; omega, Int.le_refl _, by omega, by omega, by show -1 ≤ x.n + 1; omega, by show x.n + 1 ≤ A + dA; omega, hu2.1, hu2.2, by omega, by omega, fun h => absurd h (by show ¬ x.n + 1 < 0; omega), fun _ => ⟨by show 0 ≤ P + dP; omega, Int.le_refl _, by show u - (P + dP) ≤ i + 1; omega, by show -1000000 ≤ u - (P + dP); omega, by show 0 ≤ x.n + 1; omega⟩⟩,
          rfl, rfl, rfl, ?_, by show x.n < x.n + 1; omega, by show 0 ≤ x.n + 1; omega, fun _ => ⟨rfl, rfl⟩, fun h => absurd hl h⟩
        show x.p ≤ u
        rcases hub with h | h
        · exact h
        · rw [pz (by omega)]; exact hu2.1
theorem eqStr_refl : ∀ l : List Nat, eqStr l l = true
  | [] => rfl
  | a :: l => by simp only [eqStr, Nat.beq_refl, Bool.true_and, eqStr_refl l]
theorem By.lit {S : St} {l : List Nat} (hb : Byt l) (hm : l.length ≤ 9223372036854775807) : By (S.alloc (.cells (bv l) 0 0 true)) (some (S.next, 0, 0)) 1 l := by
  refine ⟨.inr rfl, fun h => (by cases h), fun o v i h => ?_, hb, hm⟩
  cases h
  refine ⟨Nat.lt_succ_self _, ?_⟩
  rw [rd_cells (by rw [St.get_alloc, if_pos rfl]) (Nat.le_refl _) (by rw [bv_len]; omega), List.drop_zero, List.take_of_length_le (by rw [bv_len]; exact Nat.le_refl _)]
theorem m7 (x : Int) : Go.bits .and .i64 x 7 = x % 8 := and_i64 3 (by decide) x
theorem m3 (x : Int) : Go.bits .and .i64 x 3 = x % 4 := and_i64 2 (by decide) x
theorem m12u (x : Int) : Go.bits .and .u32 x 4095 = x % 4096 := and_u32 12 (by decide) x
theorem conv_int {k k' : IntKind} {n : Int} {S : St} : aConv (.int k) (.int k' n) S = some (.int k (k.wrap n), S) := rfl
structure I3 (p : Option (Nat × Nat × Nat)) (len : Nat) (s : Int) (o : Nat) (Sb : St) (m : Nat) (T : Tm) (S : St) : Prop where
  t0 : T.get 0 = some (.int .u32 s)
  t1 : T.get 1 = some (.slice p len 5 none)
  t5 : T.get 5 = some (pt o)
  ext : Ext Sb S
  lt : o < S.next
  more : ∃ (x : Wr) (j : Nat) (A P τ ι : Int) (f : Bool), T.get 6 = some (.int .i64 A) ∧ T.get 7 = some (.int .u32 P) ∧ T.get 8 = some (.int .i64 x.n) ∧ T.get 9 = some (.int .i64 τ) ∧ T.get 10 = some (.int .i64 ι) ∧ T.get 11 = some (.bool f) ∧
    T.get 12 = some (.int .i64 j) ∧ S.get o = some (wr x) ∧ x.s = s ∧ G3 j x A P ∧ (x.n < 0 ∧ τ = -1 ∨ 0 ≤ x.n ∧ τ = x.p) ∧ (x.l = -1 ∧ f = true ∨ ¬ x.l = -1 ∧ f = false ∧ ι = x.i) ∧ j ≤ 120 ∧ j + m = 120
set_option maxHeartbeats 16000000 in
theorem round3 (k : Nat) {p : Option (Nat × Nat × Nat)} {len o : Nat} {s : Int} {Sb : St} (h1 : Sl Sb p len ask) (ho : Sb.next ≤ o) (m : Nat) (T : Tm) (S : St) (hI : I3 p len s o Sb m T S) :
    Goes (evF Y AP (k + 199)) (k + 199) af3_l0 T S (Then (fun T' S' => ∃ m', I3 p len s o Sb m' T' S' ∧ id m' < id m) fun r T' S' => r = .exit 0 ∧ ∃ m', I3 p len s o Sb m' T' S') := by
  have hm1 := h1.max
  obtain ⟨t0, t1, t5, he, lt, x, j, A, P, τ, ι, f, t6, t7, t8, t9, t10, t11, t12, gw, xs, G, hτ, hf, j1, hm⟩ := hI
  by_cases c1 : (j : Int) < len
  rotate_left
  · simp -implicitDefEqProofs -dsimp (maxSteps := 10000000) only [af3_l0, ↓goes_loop, ↓goes_seq, ↓goes_reg, ↓goes_dreg, ↓goes_cond, ↓goes_block, ↓goes_skip, ↓goes_exit, ↓goes_ret, after_some, br_true, br_false, ↓then_normal, ↓then_exit, ↓then_ret, ↓blk_normal, ↓blk_exit, ↓blk_ret, ↓blk_other, ops_nil, ops_some, ops_none, oper_none, oper_some, gd_tt, gd_ff, gd_tf, gd_ft, gd_undef, ↓any_op, ↓any_call, ↓any_callV, ↓any_invoke, xo_t, xo_c, args_nil, args_cons, bin_add, bin_sub, bin_mul, bin_quo, bin_rem, bin_and, bin_or, bin_xor, bin_andNot, bin_eql, bin_neq, bin_lss, bin_leq, bin_gtr, bin_geq, bin_shl, bin_shr, bin_bools, bin_strs, bin_ptrs, bin_slices, bin_aggs, ↓Option.bind_some, ↓Option.map_some, ↓cond_true, ↓cond_false, evC, evOp, XO.lit, setArgs, Tr.get_set, Option.bind_some, Option.map_some, cond_true, cond_false, maxI, maxFrom, minI, minFrom, aConv, aBinE, aEq, eqScal, aUn, evRes, fin, oneOf, if_true, if_false, callee, reduceCtorEq, Nat.reduceEqDiff, and_self, decide_true, decide_false, beq_true, beq_false, Bool.not_true, Bool.not_false, List.getElem?_cons_zero, List.getElem?_cons_succ, beq_self_eq_true, gt_iff_lt, ble_dec, beq_dec, List.head?_cons, AV.undef, eq_self, ne_eq, not_true_eq_false, not_false_eq_true, Int.reduceLT, Int.reduceLE, Int.reduceToNat, Int.reduceEq, Int.reduceNeg, Nat.reduceAdd, Nat.reduceLT, Nat.reduceLeDiff, Nat.reduceMul, Nat.reduceSub, AV.cells, AV.tup, Bool.true_and, true_and, and_true, List.drop_nil, List.append_nil, rd_put, rd_alloc, rdO, St.get_put, St.get_alloc, St.next_put, St.next_alloc, St.wr, Bool.and_self, Bool.and_true, List.length_cons, List.length_nil, List.take_succ_cons, List.take_zero, List.drop_succ_cons, List.drop_zero, List.cons_append, List.nil_append, Nat.zero_add, Nat.add_zero, Nat.reduceMul, t1, t12, c1, hm1]
    refine ⟨m, ?_, ?_, ?_, he, lt, x, j, A, P, τ, ι, f, ?_, ?_, ?_, ?_, ?_, ?_, ?_, gw, xs, G, hτ, hf, j1, hm⟩ <;> simp only [Tr.get_set, Nat.reduceEqDiff, if_false, if_true, t0, t1, t5, t6, t7, t8, t9, t10, t11, t12]
  by_cases c2 : (j : Int) < 120
  rotate_left
  · simp -implicitDefEqProofs -dsimp (maxSteps := 10000000) only [af3_l0, ↓goes_loop, ↓goes_seq, ↓goes_reg, ↓goes_dreg, ↓goes_cond, ↓goes_block, ↓goes_skip, ↓goes_exit, ↓goes_ret, after_some, br_true, br_false, ↓then_normal, ↓then_exit, ↓then_ret, ↓blk_normal, ↓blk_exit, ↓blk_ret, ↓blk_other, ops_nil, ops_some, ops_none, oper_none, oper_some, gd_tt, gd_ff, gd_tf, gd_ft, gd_undef, ↓any_op, ↓any_call, ↓any_callV, ↓any_invoke, xo_t, xo_c, args_nil, args_cons, bin_add, bin_sub, bin_mul, bin_quo, bin_rem, bin_and, bin_or, bin_xor, bin_andNot, bin_eql, bin_neq, bin_lss, bin_leq, bin_gtr, bin_geq, bin_shl, bin_shr, bin_bools, bin_strs, bin_ptrs, bin_slices, bin_aggs, ↓Option.bind_some, ↓Option.map_some, ↓cond_true, ↓cond_false, evC, evOp, XO.lit, setArgs, Tr.get_set, Option.bind_some, Option.map_some, cond_true, cond_false, maxI, maxFrom, minI, minFrom, aConv, aBinE, aEq, eqScal, aUn, evRes, fin, oneOf, if_true, if_false, callee, reduceCtorEq, Nat.reduceEqDiff, and_self, decide_true, decide_false, beq_true, beq_false, Bool.not_true, Bool.not_false, List.getElem?_cons_zero, List.getElem?_cons_succ, beq_self_eq_true, gt_iff_lt, ble_dec, beq_dec, List.head?_cons, AV.undef, eq_self, ne_eq, not_true_eq_false, not_false_eq_true, Int.reduceLT, Int.reduceLE, Int.reduceToNat, Int.reduceEq, Int.reduceNeg, Nat.reduceAdd, Nat.reduceLT, Nat.reduceLeDiff, Nat.reduceMul, Nat.reduceSub, AV.cells, AV.tup, Bool.true_and, true_and, and_true, List.drop_nil, List.append_nil, rd_put, rd_alloc, rdO, St.get_put, St.get_alloc, St.next_put, St.next_alloc, St.wr, Bool.and_self, Bool.and_true, List.length_cons, List.length_nil, List.take_succ_cons, List.take_zero, List.drop_succ_cons, List.drop_zero, List.cons_append, List.nil_append, Nat.zero_add, Nat.add_zero, Nat.reduceMul, t1, t12, c1, c2, hm1]
    refine ⟨m, ?_, ?_, ?_, he, lt, x, j, A, P, τ, ι, f, ?_, ?_, ?_, ?_, ?_, ?_, ?_, gw, xs, G, hτ, hf, j1, hm⟩ <;> simp only [Tr.get_set, Nat.reduceEqDiff, if_false, if_true, t0, t1, t5, t6, t7, t8, t9, t10, t11, t12]
  obtain ⟨o1, v1, i1, rfl, ho1⟩ := h1.at_ (by omega)
  obtain ⟨kd, ly, ex, td, ky, hrd, bk, bl, bx, d0, d1⟩ := h1.ask (j := j) (by omega)
  have hz : S.rd o1 v1 (i1 + j * 5) 5 = some [.int .i64 kd, .int .i64 ly, .int .i64 ex, .int .u32 td, .bool ky] := by rw [he.rd ho1]; exact hrd
  have hix : ixOf (.int .i64 (j : Int)) len = some j := by rw [ix_ok (by omega) c1]; rfl
  have wj : IntKind.i64.wrap ((j : Int) + 1) = ((j + 1 : Nat) : Int) := w64_id (by omega) (by omega)
  obtain ⟨A1, hA1⟩ : ∃ A1, (S.alloc (.cells [.int .i64 0, .int .i64 0, .int .i64 0, .int .u32 0, .bool false] 0 0 true)).put S.next (.cells [.int .i64 kd, .int .i64 ly, .int .i64 ex, .int .u32 td, .bool ky] 0 0 true) = A1 := ⟨_, rfl⟩
  have eA : Ext S A1 := by rw [← hA1]; exact ((Ext.alloc S _)).then_put (Nat.le_refl _) _
  have nA : A1.next = S.next + 1 := by rw [← hA1]; rfl
  have gA : A1.get o = some (wr x) := eA.get lt gw
  have gv : A1.get S.next = some (.cells [.int .i64 kd, .int .i64 ly, .int .i64 ex, .int .u32 td, .bool ky] 0 0 true) := by rw [← hA1, St.get_put, if_pos rfl]
  have rv : ∀ v i m, A1.rd S.next v i m = rdO (.cells [.int .i64 kd, .int .i64 ly, .int .i64 ex, .int .u32 td, .bool ky] 0 0 true) v i m := rd_of gv
  have q1 := T9 (k + 195) A1 (n := ly) (lo := 0) (hi := 1) (by decide) (by decide) (by decide)
  have q1 : evF Y AP (k + 199) 9 [.int .i64 ly, .int .i64 0, .int .i64 1] A1 = _ := q1
  have b1 := within_bd ly (show (0 : Int) ≤ 1 by decide)
  obtain ⟨L, hL⟩ : ∃ L, within ly 0 1 = L := ⟨_, rfl⟩
  rw [hL] at q1 b1
  by_cases c3 : kd % 8 = 7
  · obtain ⟨GW, lW⟩ := G.want b1.1 b1.2
    obtain ⟨S1, r1, u1⟩ := T11 (k + 195) gA L
    have r1 : evF Y AP (k + 199) 11 [pt o, .int .i64 L] A1 = _ := r1
    have q2 := T10 (k + 195) gA
    have q2 : evF Y AP (k + 199) 10 [pt o] A1 = _ := q2
    have q3 := T10 (k + 195) u1.same
    have q3 : evF Y AP (k + 199) 10 [pt o] S1 = _ := q3
    rw [lW] at q3
    have e1 : Ext Sb S1 := u1.ext (he.trans eA) ho
    have nx1 := u1.next
    by_cases c4 : x.l = L
    · have c5 : ¬ L = -1 := by omega
      rw [if_pos c4] at q3 lW
      simp -implicitDefEqProofs -dsimp (maxSteps := 10000000) only [af3_l0, ↓goes_loop, ↓goes_seq, ↓goes_reg, ↓goes_dreg, ↓goes_cond, ↓goes_block, ↓goes_skip, ↓goes_exit, ↓goes_ret, after_some, br_true, br_false, ↓then_normal, ↓then_exit, ↓then_ret, ↓blk_normal, ↓blk_exit, ↓blk_ret, ↓blk_other, ops_nil, ops_some, ops_none, oper_none, oper_some, gd_tt, gd_ff, gd_tf, gd_ft, gd_undef, ↓any_op, ↓any_call, ↓any_callV, ↓any_invoke, xo_t, xo_c, args_nil, args_cons, bin_add, bin_sub, bin_mul, bin_quo, bin_rem, bin_and, bin_or, bin_xor, bin_andNot, bin_eql, bin_neq, bin_lss, bin_leq, bin_gtr, bin_geq, bin_shl, bin_shr, bin_bools, bin_strs, bin_ptrs, bin_slices, bin_aggs, ↓Option.bind_some, ↓Option.map_some, ↓cond_true, ↓cond_false, evC, evOp, XO.lit, setArgs, Tr.get_set, Option.bind_some, Option.map_some, cond_true, cond_false, maxI, maxFrom, minI, minFrom, aConv, aBinE, aEq, eqScal, aUn, evRes, fin, oneOf, if_true, if_false, callee, reduceCtorEq, Nat.reduceEqDiff, and_self, decide_true, decide_false, beq_true, beq_false, Bool.not_true, Bool.not_false, List.getElem?_cons_zero, List.getElem?_cons_succ, beq_self_eq_true, gt_iff_lt, ble_dec, beq_dec, List.head?_cons, AV.undef, eq_self, ne_eq, not_true_eq_false, not_false_eq_true, Int.reduceLT, Int.reduceLE, Int.reduceToNat, Int.reduceEq, Int.reduceNeg, Nat.reduceAdd, Nat.reduceLT, Nat.reduceLeDiff, Nat.reduceMul, Nat.reduceSub, AV.cells, AV.tup, Bool.true_and, true_and, and_true, List.drop_nil, List.append_nil, rd_put, rd_alloc, rdO, St.get_put, St.get_alloc, St.next_put, St.next_alloc, St.wr, Bool.and_self, Bool.and_true, List.length_cons, List.length_nil, List.take_succ_cons, List.take_zero, List.drop_succ_cons, List.drop_zero, List.cons_append, List.nil_append, Nat.zero_add, Nat.add_zero, Nat.reduceMul, aFill, evParts, rep, List.replicate_succ, List.replicate_zero, List.flatten_cons, List.flatten_nil, List.append_nil, newSl, newVar, t0, t1, t5, t6, t7, t8, t9, t10, t11, t12, c1, c2, hm1, hix, hz, hA1, rv, q1, m7, c3, q2, q3, c4, c5, r1, wj]
      refine ⟨m - 1, ⟨?_, ?_, ?_, e1, by omega, wantW x L, j + 1, A, P, τ, ι, f, ?_, ?_, ?_, ?_, ?_, ?_, ?_, u1.same, xs, ?_, hτ, ?_, by omega, by omega⟩, by simp only [id]; omega⟩
      iterate 3 (simp only [Tr.get_set, Nat.reduceEqDiff, if_false, if_true, t0, t1, t5])
      · simp only [Tr.get_set, Nat.reduceEqDiff, if_false, if_true, t6]
      · simp only [Tr.get_set, Nat.reduceEqDiff, if_false, if_true, t7]
      · simp only [Tr.get_set, Nat.reduceEqDiff, if_false, if_true, t8]; rfl
      · simp only [Tr.get_set, Nat.reduceEqDiff, if_false, if_true, t9]
      · simp only [Tr.get_set, Nat.reduceEqDiff, if_false, if_true, t10]
      · simp only [Tr.get_set, Nat.reduceEqDiff, if_false, if_true, t11]
      · simp only [Tr.get_set, Nat.reduceEqDiff, if_false, if_true]
      · rw [show ((j + 1 : Nat) : Int) = (j : Int) + 1 by omega]; exact GW
      · rcases hf with ⟨h, _⟩ | ⟨h, h', h''⟩
        · omega
        · exact .inr ⟨by rw [lW]; exact h, h', h''⟩
    · rw [if_neg c4] at q3 lW
      simp -implicitDefEqProofs -dsimp (maxSteps := 10000000) only [af3_l0, ↓goes_loop, ↓goes_seq, ↓goes_reg, ↓goes_dreg, ↓goes_cond, ↓goes_block, ↓goes_skip, ↓goes_exit, ↓goes_ret, after_some, br_true, br_false, ↓then_normal, ↓then_exit, ↓then_ret, ↓blk_normal, ↓blk_exit, ↓blk_ret, ↓blk_other, ops_nil, ops_some, ops_none, oper_none, oper_some, gd_tt, gd_ff, gd_tf, gd_ft, gd_undef, ↓any_op, ↓any_call, ↓any_callV, ↓any_invoke, xo_t, xo_c, args_nil, args_cons, bin_add, bin_sub, bin_mul, bin_quo, bin_rem, bin_and, bin_or, bin_xor, bin_andNot, bin_eql, bin_neq, bin_lss, bin_leq, bin_gtr, bin_geq, bin_shl, bin_shr, bin_bools, bin_strs, bin_ptrs, bin_slices, bin_aggs, ↓Option.bind_some, ↓Option.map_some, ↓cond_true, ↓cond_false, evC, evOp, XO.lit, setArgs, Tr.get_set, Option.bind_some, Option.map_some, cond_true, cond_false, maxI, maxFrom, minI, minFrom, aConv, aBinE, aEq, eqScal, aUn, evRes, fin, oneOf, if_true, if_false, callee, reduceCtorEq, Nat.reduceEqDiff, and_self, decide_true, decide_false, beq_true, beq_false, Bool.not_true, Bool.not_false, List.getElem?_cons_zero, List.getElem?_cons_succ, beq_self_eq_true, gt_iff_lt, ble_dec, beq_dec, List.head?_cons, AV.undef, eq_self, ne_eq, not_true_eq_false, not_false_eq_true, Int.reduceLT, Int.reduceLE, Int.reduceToNat, Int.reduceEq, Int.reduceNeg, Nat.reduceAdd, Nat.reduceLT, Nat.reduceLeDiff, Nat.reduceMul, Nat.reduceSub, AV.cells, AV.tup, Bool.true_and, true_and, and_true, List.drop_nil, List.append_nil, rd_put, rd_alloc, rdO, St.get_put, St.get_alloc, St.next_put, St.next_alloc, St.wr, Bool.and_self, Bool.and_true, List.length_cons, List.length_nil, List.take_succ_cons, List.take_zero, List.drop_succ_cons, List.drop_zero, List.cons_append, List.nil_append, Nat.zero_add, Nat.add_zero, Nat.reduceMul, aFill, evParts, rep, List.replicate_succ, List.replicate_zero, List.flatten_cons, List.flatten_nil, List.append_nil, newSl, newVar, t0, t1, t5, t6, t7, t8, t9, t10, t11, t12, c1, c2, hm1, hix, hz, hA1, rv, q1, m7, c3, q2, q3, c4, r1, wj]
      refine ⟨m - 1, ⟨?_, ?_, ?_, e1, by omega, wantW x L, j + 1, A, P, τ, ι, true, ?_, ?_, ?_, ?_, ?_, ?_, ?_, u1.same, xs, ?_, hτ, .inl ⟨lW, rfl⟩, by omega, by omega⟩, by simp only [id]; omega⟩
      iterate 3 (simp only [Tr.get_set, Nat.reduceEqDiff, if_false, if_true, t0, t1, t5])
      · simp only [Tr.get_set, Nat.reduceEqDiff, if_false, if_true, t6]
      · simp only [Tr.get_set, Nat.reduceEqDiff, if_false, if_true, t7]
      · simp only [Tr.get_set, Nat.reduceEqDiff, if_false, if_true, t8]; rfl
      · simp only [Tr.get_set, Nat.reduceEqDiff, if_false, if_true, t9]
      · simp only [Tr.get_set, Nat.reduceEqDiff, if_false, if_true, t10]
      · simp only [Tr.get_set, Nat.reduceEqDiff, if_false, if_true, t11]
      · simp only [Tr.get_set, Nat.reduceEqDiff, if_false, if_true]
      rw [show ((j + 1 : Nat) : Int) = (j : Int) + 1 by omega]; exact GW
  -- a packet
  obtain ⟨dA, hdA⟩ : ∃ d, 1 + ex % 4 = d := ⟨_, rfl⟩
  obtain ⟨dP, hdP⟩ : ∃ d, td % 4096 = d := ⟨_, rfl⟩
  have G' := G
  obtain ⟨_, _, _, gi0, giA, gA0, gA1, gn0, gnI, gp0, gp1, gP0, gP1, gpz, gg⟩ := G'
  have wA1 : IntKind.i64.wrap (A + 1) = A + 1 := w64_id (by omega) (by omega)
  have wA2 : IntKind.i64.wrap (A + 1 + ex % 4) = A + dA := by rw [w64_id (by omega) (by omega)]; omega
  have wP : IntKind.u32.wrap (P + dP) = P + dP := u32_id (by omega) (by omega)
  have wu8 : IntKind.u8.wrap (j : Int) = (j : Int) := u8_id (by omega) (by omega)
  have wu16 : IntKind.u16.wrap (A + dA) = A + dA := u16_id (by omega) (by omega)
  obtain ⟨A2, hA2⟩ : ∃ A2, A1.alloc (.cells [.int .u8 (j : Int)] 0 0 true) = A2 := ⟨_, rfl⟩
  have byL : Byt [j] := fun b hb => by rw [List.mem_singleton] at hb; omega
  have b2 : By A2 (some (A1.next, 0, 0)) 1 [j] := by rw [← hA2]; exact .lit byL (by simp)
  have e2 : Ext A1 A2 := by rw [← hA2]; exact .alloc _ _
  have n2 : A2.next = A1.next + 1 := by rw [← hA2]; rfl
  obtain ⟨A3, hA3⟩ : ∃ A3, (A2.alloc (.cells [.bool false, .int .i64 0, .int .u16 0, .int .u32 0, .int .u32 0, .slice none 0 0 none, .int .u16 0, .slice none 0 0 none, .slice none 0 0 none] 0 0 true)).put A2.next (.cells [.bool false, .int .i64 96, .int .u16 (A + dA), .int .u32 (P + dP), .int .u32 4, .slice none 0 0 none, .int .u16 0, .slice none 0 0 none, .slice (some (A1.next, 0, 0)) 1 1 none] 0 0 true) = A3 := ⟨_, rfl⟩
  have e3 : Ext A2 A3 := by rw [← hA3]; exact (Ext.alloc A2 _).then_put (Nat.le_refl _) _
  have n3 : A3.next = A2.next + 1 := by rw [← hA3]; rfl
  have e03 : Ext A1 A3 := e2.trans e3
  have gp : A3.get A2.next = some (.cells [.bool false, .int .i64 96, .int .u16 (A + dA), .int .u32 (P + dP), .int .u32 4, .slice none 0 0 none, .int .u16 0, .slice none 0 0 none, .slice (some (A1.next, 0, 0)) 1 1 none] 0 0 true) := by
    rw [← hA3, St.get_put, if_pos rfl]
  have rp : ∀ v i m, A3.rd A2.next v i m = rdO (.cells [.bool false, .int .i64 96, .int .u16 (A + dA), .int .u32 (P + dP), .int .u32 4, .slice none 0 0 none, .int .u16 0, .slice none 0 0 none, .slice (some (A1.next, 0, 0)) 1 1 none] 0 0 true) v i m := rd_of gp
  have g3 : A3.get o = some (wr x) := e03.get (by omega) gA
  have rv3 : ∀ v i m, A3.rd S.next v i m = rdO (.cells [.int .i64 kd, .int .i64 ly, .int .i64 ex, .int .u32 td, .bool ky] 0 0 true) v i m := rd_of (e03.get (by omega) gv)
  have b3 : By A3 (some (A1.next, 0, 0)) 1 [j] := b2.ext e3
  obtain ⟨v, S2, r2, pk⟩ := T12 (k + 189) g3 (by omega) (L := L) (E := A + dA) (ty := 96) (sq := A + dA) (tm := P + dP) (ss := 4) (pf := 0) (K := ky) (mk := false) (cs := .slice none 0 0 none) (ex := .slice none 0 0 none) (by omega) (by omega) (c := none) b3 (fun o' v i h => by cases h; omega) (by simp)
  have r2 : evF Y AP (k + 199) 12 [pt o, .int .i64 L, .int .i64 (A + dA), .bool ky, .agg [.bool false, .int .i64 96, .int .u16 (A + dA), .int .u32 (P + dP), .int .u32 4, .slice none 0 0 none, .int .u16 0, .slice none 0 0 none, .slice (some (A1.next, 0, 0)) 1 1 none]] A3 = some (v, S2) := r2
  unfold Pkd at pk
  have e13 : Ext Sb A3 := (he.trans eA).trans e03
  cases hpk : pkW x L (A + dA) ky (P + dP) with
  | none =>
    rw [hpk] at pk
    obtain ⟨rfl, xx⟩ := pk
    have lt2 := xx.next
    have no : ¬ o = S2.next := by omega
    have g4 : S2.get o = some (wr x) := xx.get (by omega) g3
    have GS := G.skip (dA := dA) (dP := dP) (by omega) (by omega) (by omega) (by omega)
    simp -implicitDefEqProofs -dsimp (maxSteps := 10000000) only [af3_l0, ↓goes_loop, ↓goes_seq, ↓goes_reg, ↓goes_dreg, ↓goes_cond, ↓goes_block, ↓goes_skip, ↓goes_exit, ↓goes_ret, after_some, br_true, br_false, ↓then_normal, ↓then_exit, ↓then_ret, ↓blk_normal, ↓blk_exit, ↓blk_ret, ↓blk_other, ops_nil, ops_some, ops_none, oper_none, oper_some, gd_tt, gd_ff, gd_tf, gd_ft, gd_undef, ↓any_op, ↓any_call, ↓any_callV, ↓any_invoke, xo_t, xo_c, args_nil, args_cons, bin_add, bin_sub, bin_mul, bin_quo, bin_rem, bin_and, bin_or, bin_xor, bin_andNot, bin_eql, bin_neq, bin_lss, bin_leq, bin_gtr, bin_geq, bin_shl, bin_shr, bin_bools, bin_strs, bin_ptrs, bin_slices, bin_aggs, ↓Option.bind_some, ↓Option.map_some, ↓cond_true, ↓cond_false, evC, evOp, XO.lit, setArgs, Tr.get_set, Option.bind_some, Option.map_some, cond_true, cond_false, maxI, maxFrom, minI, minFrom, aConv, aBinE, aEq, eqScal, aUn, evRes, fin, oneOf, if_true, if_false, callee, reduceCtorEq, Nat.reduceEqDiff, and_self, decide_true, decide_false, beq_true, beq_false, Bool.not_true, Bool.not_false, List.getElem?_cons_zero, List.getElem?_cons_succ, beq_self_eq_true, gt_iff_lt, ble_dec, beq_dec, List.head?_cons, AV.undef, eq_self, ne_eq, not_true_eq_false, not_false_eq_true, Int.reduceLT, Int.reduceLE, Int.reduceToNat, Int.reduceEq, Int.reduceNeg, Nat.reduceAdd, Nat.reduceLT, Nat.reduceLeDiff, Nat.reduceMul, Nat.reduceSub, ↓evDraw_nil, putD, evDraw, trace, List.all_cons, List.all_nil, chk, stAt, again, sameV, sameA, AV.undef, Bool.and_self, Bool.and_true, decide_eq_true_eq, List.getElem?_nil, AV.cells, AV.tup, Bool.true_and, true_and, and_true, List.drop_nil, List.append_nil, rd_put, rd_alloc, rdO, St.get_put, St.get_alloc, St.next_put, St.next_alloc, St.wr, Bool.and_self, Bool.and_true, List.length_cons, List.length_nil, List.take_succ_cons, List.take_zero, List.drop_succ_cons, List.drop_zero, List.cons_append, List.nil_append, Nat.zero_add, Nat.add_zero, Nat.reduceMul, aFill, evParts, rep, List.replicate_succ, List.replicate_zero, List.flatten_cons, List.flatten_nil, List.append_nil, newSl, newVar, rtp0, t0, t1, t5, t6, t7, t8, t9, t10, t11, t12, c1, c2, hm1, hix, hz, hA1, rv, q1, m7, c3, wj, m3, m12u, hdP, wA1, wA2, wP, wu8, wu16, hA2, hA3, rv3, rp, r2]
    refine ⟨m - 1, ⟨?_, ?_, ?_, ((e13.trans xx).then_alloc _).then_put (by have := e13.next; simp only [ge_iff_le]; omega) _, by simp only [St.next_put, St.next_alloc]; omega, x, j + 1, A + dA, P + dP, τ, ι, f, ?_, ?_, ?_, ?_, ?_, ?_, ?_, by simp only [St.get_put, St.get_alloc, if_neg no]; exact g4, xs, ?_, hτ, hf, by omega, by omega⟩, by simp only [id]; omega⟩
    iterate 3 (simp only [Tr.get_set, Nat.reduceEqDiff, if_false, if_true, t0, t1, t5])
    iterate 7 (simp only [Tr.get_set, Nat.reduceEqDiff, if_false, if_true, t6, t7, t8, t9, t10, t11])
    rw [show ((j + 1 : Nat) : Int) = (j : Int) + 1 by omega]; exact GS
  | some x' =>
    rw [hpk] at pk
    obtain ⟨u, rfl, mt, bu⟩ := pk
    have lt2 := mt.next
    have no : ¬ o = S2.next := by omega
    have nv : ¬ S.next = S2.next := by omega
    have np : ¬ A2.next = S2.next := by omega
    have g4 := mt.get
    obtain ⟨GO, o1, o2, o3, o4, o5, o6, o7, o8⟩ := G.out (by omega) (by omega) (dA := dA) (dP := dP) (by omega) (by omega) (by omega) (by omega) b1.1 b1.2 hpk
    have G2 := GO
    obtain ⟨_, _, _, hi0, hiA, hA0, hA1', hn0, hnI, hp0, hp1, hP0, hP1, hpz, hgg⟩ := G2
    rw [xs] at o1
    have h13 : ∀ S, S.get o = some (wr x') → evF Y AP (k + 199) 13 [pt o] S = some (.int .i64 x'.n, S) := fun S h => T13 (k + 195) h
    have pm : x'.p % 4294967296 = x'.p := Int.emod_eq_of_lt hp0 (by omega)
    have wp : IntKind.i64.wrap x'.p = x'.p := w64_id (by omega) (by omega)
    have d1 : ¬ x'.n ≤ x.n := by omega
    have d2 : ¬ x'.p < τ := by omega
    have wn : IntKind.i64.wrap (x.n + 1) = x.n + 1 := w64_id (by omega) (by omega)
    have ev3 : ∀ v i m, S2.rd S.next v i m = rdO (.cells [.int .i64 kd, .int .i64 ly, .int .i64 ex, .int .u32 td, .bool ky] 0 0 true) v i m :=
      rd_of (by rw [mt.old _ (by omega) (by omega)]; exact e03.get (by omega) gv)
    have ep3 : ∀ v i m, S2.rd A2.next v i m = rdO (.cells [.bool false, .int .i64 96, .int .u16 (A + dA), .int .u32 (P + dP), .int .u32 4, .slice none 0 0 none, .int .u16 0, .slice none 0 0 none, .slice (some (A1.next, 0, 0)) 1 1 none] 0 0 true) v i m :=
      rd_of (by rw [mt.old _ (by omega) (by omega)]; exact gp)
    obtain ⟨S3, hS3⟩ : ∃ S3, (S2.alloc (.cells [.bool false, .int .i64 0, .int .u16 0, .int .u32 0, .int .u32 0, .slice none 0 0 none, .int .u16 0, .slice none 0 0 none, .slice none 0 0 none] 0 0 true)).put S2.next (.cells [.bool false, .int .i64 96, .int .u16 (x'.n % 65536), .int .u32 x'.p, .int .u32 s, .slice none 0 0 none, .int .u16 0, .slice none 0 0 none, u] 0 0 true) = S3 := ⟨_, rfl⟩
    have e4 : Ext S2 S3 := by rw [← hS3]; exact (Ext.alloc S2 _).then_put (Nat.le_refl _) _
    have n4 : S3.next = S2.next + 1 := by rw [← hS3]; rfl
    have g5 : S3.get o = some (wr x') := e4.get (by omega) g4
    have q13 := h13 S3 g5
    have ry : ∀ v i m, S3.rd S2.next v i m = rdO (.cells [.bool false, .int .i64 96, .int .u16 (x'.n % 65536), .int .u32 x'.p, .int .u32 s, .slice none 0 0 none, .int .u16 0, .slice none 0 0 none, u] 0 0 true) v i m := rd_of (by rw [← hS3, St.get_put, if_pos rfl])
    have rv5 : ∀ v i m, S3.rd S.next v i m = rdO (.cells [.int .i64 kd, .int .i64 ly, .int .i64 ex, .int .u32 td, .bool ky] 0 0 true) v i m := fun v i m => by rw [e4.rd (by omega)]; exact ev3 v i m
    have rp5 : ∀ v i m, S3.rd A2.next v i m = rdO (.cells [.bool false, .int .i64 96, .int .u16 (A + dA), .int .u32 (P + dP), .int .u32 4, .slice none 0 0 none, .int .u16 0, .slice none 0 0 none, .slice (some (A1.next, 0, 0)) 1 1 none] 0 0 true) v i m := fun v i m => by rw [e4.rd (by omega)]; exact ep3 v i m
    have s1 := (bu.bs.ext e4).str
    have s2 := ((b3.mut mt (fun o' v i h => by cases h; omega)).ext e4).str none
    have s2 : aConv .bytesStr (.slice (some (A1.next, 0, 0)) 1 1 none) S3 = some (.str [j], S3) := s2
    have eF : Ext Sb S3 := (mt.ext e13 ho).trans e4
    rcases hf with ⟨h, rfl⟩ | ⟨h, rfl, rfl⟩
    · obtain ⟨rfl, hn⟩ := o7 h
      have hN : (x'.n = x.n + 1) = True := eq_true hn
      simp -implicitDefEqProofs -dsimp (maxSteps := 10000000) only [af3_l0, ↓goes_loop, ↓goes_seq, ↓goes_reg, ↓goes_dreg, ↓goes_cond, ↓goes_block, ↓goes_skip, ↓goes_exit, ↓goes_ret, after_some, br_true, br_false, ↓then_normal, ↓then_exit, ↓then_ret, ↓blk_normal, ↓blk_exit, ↓blk_ret, ↓blk_other, ops_nil, ops_some, ops_none, oper_none, oper_some, gd_tt, gd_ff, gd_tf, gd_ft, gd_undef, ↓any_op, ↓any_call, ↓any_callV, ↓any_invoke, xo_t, xo_c, args_nil, args_cons, bin_add, bin_sub, bin_mul, bin_quo, bin_rem, bin_and, bin_or, bin_xor, bin_andNot, bin_eql, bin_neq, bin_lss, bin_leq, bin_gtr, bin_geq, bin_shl, bin_shr, bin_bools, bin_strs, bin_ptrs, bin_slices, bin_aggs, ↓Option.bind_some, ↓Option.map_some, ↓cond_true, ↓cond_false, evC, evOp, XO.lit, setArgs, Tr.get_set, Option.bind_some, Option.map_some, cond_true, cond_false, maxI, maxFrom, minI, minFrom, aBinE, aEq, eqScal, aUn, evRes, fin, oneOf, if_true, if_false, callee, reduceCtorEq, Nat.reduceEqDiff, and_self, decide_true, decide_false, beq_true, beq_false, Bool.not_true, Bool.not_false, List.getElem?_cons_zero, List.getElem?_cons_succ, beq_self_eq_true, gt_iff_lt, ble_dec, beq_dec, List.head?_cons, AV.undef, eq_self, ne_eq, not_true_eq_false, not_false_eq_true, Int.reduceLT, Int.reduceLE, Int.reduceToNat, Int.reduceEq, Int.reduceNeg, Nat.reduceAdd, Nat.reduceLT, Nat.reduceLeDiff, Nat.reduceMul, Nat.reduceSub, ↓evDraw_nil, putD, evDraw, trace, List.all_cons, List.all_nil, chk, stAt, again, sameV, sameA, AV.undef, Bool.and_self, Bool.and_true, decide_eq_true_eq, List.getElem?_nil, AV.cells, AV.tup, Bool.true_and, true_and, and_true, List.drop_nil, List.append_nil, rd_put, rd_alloc, rdO, St.get_put, St.get_alloc, St.next_put, St.next_alloc, St.wr, Bool.and_self, Bool.and_true, List.length_cons, List.length_nil, List.take_succ_cons, List.take_zero, List.drop_succ_cons, List.drop_zero, List.cons_append, List.nil_append, Nat.zero_add, Nat.add_zero, Nat.reduceMul, aFill, evParts, rep, List.replicate_succ, List.replicate_zero, List.flatten_cons, List.flatten_nil, List.append_nil, newSl, newVar, conv_int, rtp, t0, t1, t5, t6, t7, t8, t9, t10, t11, t12, c1, c2, hm1, hix, hz, hA1, rv, q1, m7, c3, wj, m3, m12u, hdP, wA1, wA2, wP, wu8, wu16, hA2, hA3, rv3, rp, r2, o1, pm, hS3, q13, ry, rv5, rp5, s1, s2, aStr, eqStr_refl, d1, d2, wn, hN, wp, wrap_u16]
      refine ⟨m - 1, ⟨?_, ?_, ?_, eF, by omega, x', j + 1, A + dA, P + dP, x'.p, A + dA, false, ?_, ?_, ?_, ?_, ?_, ?_, ?_, g5, o1, ?_, .inr ⟨o6, rfl⟩, .inr ⟨by omega, rfl, o3.symm⟩, by omega, by omega⟩, by simp only [id]; omega⟩
      iterate 3 (simp only [Tr.get_set, Nat.reduceEqDiff, if_false, if_true, t0, t1, t5])
      iterate 7 (simp only [Tr.get_set, Nat.reduceEqDiff, if_false, if_true])
      rw [show ((j + 1 : Nat) : Int) = (j : Int) + 1 by omega]; exact GO
    · have hn := o8 h
      have wd1 : IntKind.i64.wrap (x'.n - x.n) = x'.n - x.n := w64_id (by omega) (by omega)
      have wd2 : IntKind.i64.wrap (A + dA - x.i) = A + dA - x.i := w64_id (by omega) (by omega)
      have hN : (x'.n - x.n = A + dA - x.i) = True := eq_true hn
      simp -implicitDefEqProofs -dsimp (maxSteps := 10000000) only [af3_l0, ↓goes_loop, ↓goes_seq, ↓goes_reg, ↓goes_dreg, ↓goes_cond, ↓goes_block, ↓goes_skip, ↓goes_exit, ↓goes_ret, after_some, br_true, br_false, ↓then_normal, ↓then_exit, ↓then_ret, ↓blk_normal, ↓blk_exit, ↓blk_ret, ↓blk_other, ops_nil, ops_some, ops_none, oper_none, oper_some, gd_tt, gd_ff, gd_tf, gd_ft, gd_undef, ↓any_op, ↓any_call, ↓any_callV, ↓any_invoke, xo_t, xo_c, args_nil, args_cons, bin_add, bin_sub, bin_mul, bin_quo, bin_rem, bin_and, bin_or, bin_xor, bin_andNot, bin_eql, bin_neq, bin_lss, bin_leq, bin_gtr, bin_geq, bin_shl, bin_shr, bin_bools, bin_strs, bin_ptrs, bin_slices, bin_aggs, ↓Option.bind_some, ↓Option.map_some, ↓cond_true, ↓cond_false, evC, evOp, XO.lit, setArgs, Tr.get_set, Option.bind_some, Option.map_some, cond_true, cond_false, maxI, maxFrom, minI, minFrom, aBinE, aEq, eqScal, aUn, evRes, fin, oneOf, if_true, if_false, callee, reduceCtorEq, Nat.reduceEqDiff, and_self, decide_true, decide_false, beq_true, beq_false, Bool.not_true, Bool.not_false, List.getElem?_cons_zero, List.getElem?_cons_succ, beq_self_eq_true, gt_iff_lt, ble_dec, beq_dec, List.head?_cons, AV.undef, eq_self, ne_eq, not_true_eq_false, not_false_eq_true, Int.reduceLT, Int.reduceLE, Int.reduceToNat, Int.reduceEq, Int.reduceNeg, Nat.reduceAdd, Nat.reduceLT, Nat.reduceLeDiff, Nat.reduceMul, Nat.reduceSub, ↓evDraw_nil, putD, evDraw, trace, List.all_cons, List.all_nil, chk, stAt, again, sameV, sameA, AV.undef, Bool.and_self, Bool.and_true, decide_eq_true_eq, List.getElem?_nil, AV.cells, AV.tup, Bool.true_and, true_and, and_true, List.drop_nil, List.append_nil, rd_put, rd_alloc, rdO, St.get_put, St.get_alloc, St.next_put, St.next_alloc, St.wr, Bool.and_self, Bool.and_true, List.length_cons, List.length_nil, List.take_succ_cons, List.take_zero, List.drop_succ_cons, List.drop_zero, List.cons_append, List.nil_append, Nat.zero_add, Nat.add_zero, Nat.reduceMul, aFill, evParts, rep, List.replicate_succ, List.replicate_zero, List.flatten_cons, List.flatten_nil, List.append_nil, newSl, newVar, conv_int, rtp, t0, t1, t5, t6, t7, t8, t9, t10, t11, t12, c1, c2, hm1, hix, hz, hA1, rv, q1, m7, c3, wj, m3, m12u, hdP, wA1, wA2, wP, wu8, wu16, hA2, hA3, rv3, rp, r2, o1, pm, hS3, q13, ry, rv5, rp5, s1, s2, aStr, eqStr_refl, d1, d2, wn, hN, wd1, wd2, wp, wrap_u16]
      refine ⟨m - 1, ⟨?_, ?_, ?_, eF, by omega, x', j + 1, A + dA, P + dP, x'.p, A + dA, false, ?_, ?_, ?_, ?_, ?_, ?_, ?_, g5, o1, ?_, .inr ⟨o6, rfl⟩, .inr ⟨by omega, rfl, o3.symm⟩, by omega, by omega⟩, by simp only [id]; omega⟩
      iterate 3 (simp only [Tr.get_set, Nat.reduceEqDiff, if_false, if_true, t0, t1, t5])
      iterate 7 (simp only [Tr.get_set, Nat.reduceEqDiff, if_false, if_true])
      rw [show ((j + 1 : Nat) : Int) = (j : Int) + 1 by omega]; exact GO
set_option maxHeartbeats 4000000 in
theorem ev3 (k : Nat) (s : Int) {p : Option (Nat × Nat × Nat)} {len : Nat} {S : St} (h1 : Sl S p len ask) :
    ∃ S', evF Y AP (k + 200) 3 [.int .u32 s, .slice p len 5 none] S = some (.bool true, S') := by
  suffices hh : ∃ v S', evF Y AP (k + 200) 3 [.int .u32 s, .slice p len 5 none] S = some (v, S') ∧ v = .bool true by
    obtain ⟨v, S', h1, rfl⟩ := hh; exact ⟨S', h1⟩
  obtain ⟨S1, r1, b1⟩ := T8 (S := S) (k + 195) s
  have r1 : evF Y AP (k + 199) 8 [.int .u32 s] S = _ := r1
  refine evF_goes (af := af3) (k := k + 199) rfl rfl rfl ?_
  simp -implicitDefEqProofs -dsimp (maxSteps := 10000000) only [af3, ↓goes_loop, ↓goes_seq, ↓goes_reg, ↓goes_dreg, ↓goes_cond, ↓goes_block, ↓goes_skip, ↓goes_exit, ↓goes_ret, after_some, br_true, br_false, ↓then_normal, ↓then_exit, ↓then_ret, ↓blk_normal, ↓blk_exit, ↓blk_ret, ↓blk_other, ops_nil, ops_some, ops_none, oper_none, oper_some, gd_tt, gd_ff, gd_tf, gd_ft, gd_undef, ↓any_op, ↓any_call, ↓any_callV, ↓any_invoke, xo_t, xo_c, args_nil, args_cons, bin_add, bin_sub, bin_mul, bin_quo, bin_rem, bin_and, bin_or, bin_xor, bin_andNot, bin_eql, bin_neq, bin_lss, bin_leq, bin_gtr, bin_geq, bin_shl, bin_shr, bin_bools, bin_strs, bin_ptrs, bin_slices, bin_aggs, ↓Option.bind_some, ↓Option.map_some, ↓cond_true, ↓cond_false, evC, evOp, XO.lit, setArgs, Tr.tabG, Tr.tabS, Tr.tabL, Tr.get_lf, Option.bind_some, Option.map_some, cond_true, cond_false, maxI, maxFrom, minI, minFrom, aConv, aBinE, aEq, eqScal, aUn, evRes, fin, oneOf, if_true, if_false, callee, reduceCtorEq, Nat.reduceEqDiff, and_self, decide_true, decide_false, beq_true, beq_false, Bool.not_true, Bool.not_false, List.getElem?_cons_zero, List.getElem?_cons_succ, beq_self_eq_true, gt_iff_lt, ble_dec, beq_dec, List.head?_cons, AV.undef, eq_self, ne_eq, not_true_eq_false, not_false_eq_true, Int.reduceLT, Int.reduceLE, Int.reduceToNat, Int.reduceEq, Int.reduceNeg, Nat.reduceAdd, Nat.reduceLT, Nat.reduceLeDiff, Nat.reduceMul, Nat.reduceSub, ↓evDraw_nil, putD, evDraw, trace, List.all_cons, List.all_nil, chk, stAt, again, sameV, sameA, AV.undef, Bool.and_self, Bool.and_true, decide_eq_true_eq, List.getElem?_nil, r1, Option.isNone_some]
  refine .while (I3 p len s S.next S) id 120 ⟨rfl, rfl, rfl, b1.ext, ?_, newW s, 0, 100, 5, -1, -1, true, rfl, rfl, rfl, rfl, rfl, rfl, rfl, b1.same, rfl, ?_, .inl ⟨by simp [newW], rfl⟩, .inl ⟨rfl, rfl⟩, by omega, by omega⟩ (by show 120 < k + 199; omega)
    fun m T2 S2 hI => (round3 k h1 (Nat.le_refl _) m T2 S2 hI).mono ?_
  · have := b1.next; omega
  · refine ⟨?_, ?_, .inl rfl, ?_, ?_, ?_, ?_, ?_, ?_, ?_, ?_, ?_, ?_, fun _ => rfl, fun h => absurd rfl h⟩ <;> (try simp only [newW]) <;> omega
  · intro r T' S' hq
    cases r with
    | normal => exact hq
    | ret => exact absurd hq.1 (by simp)
    | exit j =>
      obtain ⟨hi, _⟩ := hq
      cases hi
      simp -implicitDefEqProofs -dsimp (maxSteps := 10000000) only [↓goes_loop, ↓goes_seq, ↓goes_reg, ↓goes_dreg, ↓goes_cond, ↓goes_block, ↓goes_skip, ↓goes_exit, ↓goes_ret, after_some, br_true, br_false, ↓then_normal, ↓then_exit, ↓then_ret, ↓blk_normal, ↓blk_exit, ↓blk_ret, ↓blk_other, ops_nil, ops_some, ops_none, oper_none, oper_some, gd_tt, gd_ff, gd_tf, gd_ft, gd_undef, ↓any_op, ↓any_call, ↓any_callV, ↓any_invoke, xo_t, xo_c, args_nil, args_cons, bin_add, bin_sub, bin_mul, bin_quo, bin_rem, bin_and, bin_or, bin_xor, bin_andNot, bin_eql, bin_neq, bin_lss, bin_leq, bin_gtr, bin_geq, bin_shl, bin_shr, bin_bools, bin_strs, bin_ptrs, bin_slices, bin_aggs, ↓Option.bind_some, ↓Option.map_some, ↓cond_true, ↓cond_false, evC, evOp, XO.lit, setArgs, Tr.get_set, Option.bind_some, Option.map_some, cond_true, cond_false, maxI, maxFrom, minI, minFrom, aConv, aBinE, aEq, eqScal, aUn, evRes, fin, oneOf, if_true, if_false, callee, reduceCtorEq, Nat.reduceEqDiff, and_self, decide_true, decide_false, beq_true, beq_false, Bool.not_true, Bool.not_false, List.getElem?_cons_zero, List.getElem?_cons_succ, beq_self_eq_true, gt_iff_lt, ble_dec, beq_dec, List.head?_cons, AV.undef, eq_self, ne_eq, not_true_eq_false, not_false_eq_true, Int.reduceLT, Int.reduceLE, Int.reduceToNat, Int.reduceEq, Int.reduceNeg, Nat.reduceAdd, Nat.reduceLT, Nat.reduceLeDiff, Nat.reduceMul, Nat.reduceSub, y14]
      exact ⟨_, _, rfl, rfl⟩
theorem law3 {s : Int} (_ : (Lit.int .u32 s).wf = true) {p : Option (Nat × Nat × Nat)} {len : Nat} {xs : List AV} (h : Arg p 0 len ask xs) :
    ∃ S', evF Y AP (0 + 200) 3 [.int .u32 s, .slice p len 5 none] (S0.alloc (.cells xs 0 0 false)) = some (.bool true, S') :=
  ev3 0 s (.of_arg h (by rw [St.get_alloc]; rfl) (Nat.lt_succ_self 0))
end Go.Proofs.YtdppaegnmdiheaaA
