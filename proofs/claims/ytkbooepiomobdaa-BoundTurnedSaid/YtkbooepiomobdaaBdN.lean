/- Chapter 13: BoundTells. -/
import Derived.Test.YtkbooepiomobdaaBdL
set_option linter.unusedVariables false
set_option linter.unusedSimpArgs false
set_option maxRecDepth 10000
namespace Go.Proofs.YtkbooepiomobdaaA
open Go.RowKit
attribute [local congr] bind_congr1 map_congr1 cond_congr1 withX_congr after_congr br_congr gd_congr

abbrev tup : List Sc := [.int .u32, .int .u64, .int .i64]
theorem tcs_of : ∀ {ys : List AV}, Scs tup ys → ∃ t : Tp, ys = tcs [t] ∧ OkT t
  | [.int k a, .int k' b, .int k'' c], h => by
    obtain ⟨⟨rfl, wa⟩, ⟨rfl, wb⟩, ⟨rfl, wc⟩, _⟩ := h
    have := wf_u32 wa; have := wf_u64 wb; have := wf_i64 wc
    exact ⟨⟨a, b, c⟩, rfl, ⟨by show 0 ≤ a; omega, by show a ≤ _; omega, by show 0 ≤ b; omega, by show b ≤ _; omega, by show _ ≤ c; omega, by show c ≤ _; omega⟩⟩
theorem Ty.of_arg {S : St} {p : Option (Nat × Nat × Nat)} {o len : Nat} {xs : List AV} (h : Arg p o len tup xs) (hg : S.get o = some (.cells xs 0 0 false)) (ho : o < S.next) : ∃ l : List Tp, l.length = len ∧ Ty S p 3 l ∧ ∀ t ∈ l, OkT t := by
  have hle : len * 3 ≤ xs.length := h.le
  have key : ∀ n, n ≤ len → ∃ l : List Tp, l.length = n ∧ xs.take (n * 3) = tcs l ∧ ∀ t ∈ l, OkT t := by
    intro n
    induction n with
    | zero => intro _; exact ⟨[], rfl, by simp [tcs], fun _ h => by cases h⟩
    | succ n ih =>
      intro hn
      obtain ⟨l, h1, h2, h3⟩ := ih (by omega)
      obtain ⟨t, h4, h5⟩ := tcs_of (h.el n (by omega))
      refine ⟨l ++ [t], by rw [List.length_append, h1]; rfl, ?_, fun x hx => ?_⟩
      · have h4' : (xs.drop (n * 3)).take 3 = tcs [t] := h4
        rw [tcs_app, ← h2, ← h4', show (n + 1) * 3 = n * 3 + 3 by omega, List.take_add]
      · rcases List.mem_append.1 hx with hx | hx
        · exact h3 x hx
        · rw [List.mem_singleton.1 hx]; exact h5
  obtain ⟨l, h1, h2, h3⟩ := key len (Nat.le_refl _)
  refine ⟨l, h1, ⟨.inr rfl, fun hp => ?_, fun o' v i hp => ?_, by rw [h1]; exact h.max⟩, h3⟩
  · by_cases h0 : len = 0
    · exact List.length_eq_zero_iff.1 (by omega)
    · have := h.at_ h0; rw [hp] at this; cases this
  · rcases h.at0 with h0 | h0
    · rw [hp] at h0; cases h0
    · rw [hp] at h0; cases h0
      refine ⟨ho, ?_⟩
      rw [rd_cells hg (Nat.le_refl _) (by omega), List.drop_zero, h1, h2]
theorem Ty.take {S : St} {o v i e : Nat} {l : List Tp} (h : Ty S (some (o, v, i)) e l) {n : Nat} (hn : n ≤ l.length) : Ty S (some (o, v, i)) e (l.take n) := by
  refine ⟨h.ez, fun h => (by cases h), fun o' v' i' hp => ?_, by rw [List.length_take]; have := h.mx; omega⟩
  cases hp
  obtain ⟨h1, h2⟩ := h.at_ o v i rfl
  refine ⟨h1, ?_⟩
  have := rd_sub (m := 0) (l := n * 3) h2 (by omega)
  rw [Nat.add_zero, List.drop_zero, tcs_take] at this
  rw [List.length_take, Nat.min_eq_left hn]
  exact this
def maskT (t : Tp) : Tp := ⟨t.o % 8, t.r % 4096, t.v % 64⟩
theorem maskT_ok (t : Tp) : OkT (maskT t) := by
  refine ⟨?_, ?_, ?_, ?_, ?_, ?_⟩ <;> simp only [maskT] <;> omega
theorem m7 (x : Int) : Go.bits .and .u32 x 7 = x % 8 := and_u32 3 (by decide) x
theorem m4095 (x : Int) : Go.bits .and .u64 x 4095 = x % 4096 := and_u64 12 (by decide) x
theorem m63 (x : Int) : Go.bits .and .i64 x 63 = x % 64 := and_i64 6 (by decide) x
theorem m63u (x : Int) : Go.bits .and .u64 x 63 = x % 64 := and_u64 6 (by decide) x
theorem m1023u (x : Int) : Go.bits .and .u64 x 1023 = x % 1024 := and_u64 10 (by decide) x
theorem m65535u (x : Int) : Go.bits .and .u64 x 65535 = x % 65536 := and_u64 16 (by decide) x
theorem m7i (x : Int) : Go.bits .and .i64 x 7 = x % 8 := and_i64 3 (by decide) x
structure I4 (v9 v3 : AV) (p : Option (Nat × Nat × Nat)) (l : List Tp) (Sb : St) (m : Nat) (T : Tm) (S : St) : Prop where
  t9 : T.get 9 = some v9
  t3 : T.get 3 = some v3
  t2 : T.get 2 = some (.slice p l.length 3 none)
  t23 : T.get 23 = some (.int .i64 l.length)
  more : ∃ (j : Nat) (po : Option (Nat × Nat × Nat)) (eo : Nat), T.get 24 = some (.int .i64 j) ∧ j + m = l.length ∧ T.get 10 = some (.slice po j eo none) ∧ Gt Sb S po eo ((l.take j).map maskT)
set_option maxHeartbeats 8000000 in
theorem round4 (k : Nat) {v9 v3 : AV} {p : Option (Nat × Nat × Nat)} {l : List Tp} {Sb : St} (h : Ty Sb p 3 l) (hn : l.length ≤ 1000) (m : Nat) (T : Tm) (S : St) (hI : I4 v9 v3 p l Sb m T S) :
    Goes (evF Y AP (k + 1106)) (k + 1106) af4_l0 T S (Then (fun T' S' => ∃ m', I4 v9 v3 p l Sb m' T' S' ∧ id m' < id m) fun r T' S' => r = .exit 0 ∧ I4 v9 v3 p l Sb 0 T' S') := by
  obtain ⟨t9, t3, t2, t23, j, po, eo, t24, hm, t10, G⟩ := hI
  by_cases c1 : (j : Int) < (l.length : Int)
  rotate_left
  · simp -implicitDefEqProofs -dsimp (maxSteps := 10000000) only [af4_l0, ↓goes_loop, ↓goes_seq, ↓goes_reg, ↓goes_dreg, ↓goes_cond, ↓goes_block, ↓goes_skip, ↓goes_exit, ↓goes_ret, after_some, br_true, br_false, ↓then_normal, ↓then_exit, ↓then_ret, ↓blk_normal, ↓blk_exit, ↓blk_ret, ↓blk_other, ops_nil, ops_some, ops_none, oper_none, oper_some, gd_tt, gd_ff, gd_tf, gd_ft, gd_undef, ↓any_op, ↓any_call, ↓any_callV, ↓any_invoke, xo_t, xo_c, args_nil, args_cons, bin_add, bin_sub, bin_mul, bin_quo, bin_rem, bin_and, bin_or, bin_xor, bin_andNot, bin_eql, bin_neq, bin_lss, bin_leq, bin_gtr, bin_geq, bin_shl, bin_shr, bin_bools, bin_strs, bin_ptrs, bin_slices, bin_aggs, ↓Option.bind_some, ↓Option.map_some, ↓cond_true, ↓cond_false, evC, evOp, XO.lit, setArgs, Tr.get_set, Option.bind_some, Option.map_some, cond_true, cond_false, maxI, maxFrom, minI, minFrom, aConv, aBinE, aEq, eqScal, aUn, evRes, fin, oneOf, if_true, if_false, callee, reduceCtorEq, Nat.reduceEqDiff, and_self, decide_true, decide_false, beq_true, beq_false, Bool.not_true, Bool.not_false, List.getElem?_cons_zero, List.getElem?_cons_succ, beq_self_eq_true, gt_iff_lt, ble_dec, beq_dec, List.head?_cons, AV.undef, eq_self, ne_eq, not_true_eq_false, not_false_eq_true, Int.reduceLT, Int.reduceLE, Int.reduceToNat, Int.reduceEq, Int.reduceNeg, Nat.reduceAdd, Nat.reduceLT, Nat.reduceLeDiff, Nat.reduceMul, Nat.reduceSub, AV.cells, AV.tup, Bool.true_and, true_and, and_true, List.drop_nil, List.append_nil, rd_put, rd_alloc, rdO, St.get_put, St.get_alloc, St.next_put, St.next_alloc, St.wr, Bool.and_self, Bool.and_true, List.length_cons, List.length_nil, List.take_succ_cons, List.take_zero, List.drop_succ_cons, List.drop_zero, List.cons_append, List.nil_append, Nat.zero_add, Nat.add_zero, Nat.reduceMul, t23, t24, c1]
    refine ⟨?_, ?_, ?_, ?_, j, po, eo, ?_, by omega, ?_, G⟩ <;> simp only [Tr.get_set, Nat.reduceEqDiff, if_false, if_true, t2, t3, t9, t10, t23, t24]
  have hj : j < l.length := by omega
  obtain ⟨o, v, i, rfl, _, ho⟩ := h.some_ (by omega)
  have hix : ixOf (.int .i64 (j : Int)) l.length = some j := by rw [ix_ok (by omega) c1]; rfl
  have wj : IntKind.i64.wrap ((j : Int) + 1) = ((j + 1 : Nat) : Int) := w64_id (by omega) (by omega)
  have htk := map_take_succ hj maskT
  have hz : S.rd o v (i + j * 3) 3 = some [.int .u32 l[j].o, .int .u64 l[j].r, .int .i64 l[j].v] := by rw [G.ext.rd ho]; exact h.get hj
  obtain ⟨a, ha⟩ : ∃ a, l[j] = a := ⟨_, rfl⟩
  rw [ha] at hz htk
  have z0 : S.rd o v (i + j * 3) 1 = some [.int .u32 a.o] := rd_sub (m := 0) (l := 1) hz (by show 0 + 1 ≤ 3; decide)
  have z1 : S.rd o v (i + j * 3 + 1) 1 = some [.int .u64 a.r] := rd_sub (m := 1) (l := 1) hz (by show 1 + 1 ≤ 3; decide)
  have z2 : S.rd o v (i + j * 3 + 2) 1 = some [.int .i64 a.v] := rd_sub (m := 2) (l := 1) hz (by show 2 + 1 ≤ 3; decide)
  obtain ⟨B, hB⟩ : ∃ B, S.alloc (.cells [.int .u32 (a.o % 8), .int .u64 (a.r % 4096), .int .i64 (a.v % 64)] 0 0 true) = B := ⟨_, rfl⟩
  have eB : Ext S B := by rw [← hB]; exact .alloc _ _
  have rB : B.rd S.next 0 0 3 = some [.int .u32 (a.o % 8), .int .u64 (a.r % 4096), .int .i64 (a.v % 64)] := by rw [← hB, rd_alloc, if_pos rfl]; rfl
  have hl : ((l.take j).map maskT).length = j := by rw [List.length_map, List.length_take]; omega
  obtain ⟨p', S', hap, G', _⟩ := (G.more eB).app1 (maskT a) (by omega)
  rw [hl] at hap
  have hap : aAppend 3 24 B (.slice po j eo none) 1 [.int .u32 (a.o % 8), .int .u64 (a.r % 4096), .int .i64 (a.v % 64)] = _ := hap
  simp -implicitDefEqProofs -dsimp (maxSteps := 10000000) only [af4_l0, ↓goes_loop, ↓goes_seq, ↓goes_reg, ↓goes_dreg, ↓goes_cond, ↓goes_block, ↓goes_skip, ↓goes_exit, ↓goes_ret, after_some, br_true, br_false, ↓then_normal, ↓then_exit, ↓then_ret, ↓blk_normal, ↓blk_exit, ↓blk_ret, ↓blk_other, ops_nil, ops_some, ops_none, oper_none, oper_some, gd_tt, gd_ff, gd_tf, gd_ft, gd_undef, ↓any_op, ↓any_call, ↓any_callV, ↓any_invoke, xo_t, xo_c, args_nil, args_cons, bin_add, bin_sub, bin_mul, bin_quo, bin_rem, bin_and, bin_or, bin_xor, bin_andNot, bin_eql, bin_neq, bin_lss, bin_leq, bin_gtr, bin_geq, bin_shl, bin_shr, bin_bools, bin_strs, bin_ptrs, bin_slices, bin_aggs, ↓Option.bind_some, ↓Option.map_some, ↓cond_true, ↓cond_false, evC, evOp, XO.lit, setArgs, Tr.get_set, Option.bind_some, Option.map_some, cond_true, cond_false, maxI, maxFrom, minI, minFrom, aConv, aBinE, aEq, eqScal, aUn, evRes, fin, oneOf, if_true, if_false, callee, reduceCtorEq, Nat.reduceEqDiff, and_self, decide_true, decide_false, beq_true, beq_false, Bool.not_true, Bool.not_false, List.getElem?_cons_zero, List.getElem?_cons_succ, beq_self_eq_true, gt_iff_lt, ble_dec, beq_dec, List.head?_cons, AV.undef, eq_self, ne_eq, not_true_eq_false, not_false_eq_true, Int.reduceLT, Int.reduceLE, Int.reduceToNat, Int.reduceEq, Int.reduceNeg, Nat.reduceAdd, Nat.reduceLT, Nat.reduceLeDiff, Nat.reduceMul, Nat.reduceSub, ↓evDraw_nil, bir, putD, evDraw, trace, List.all_cons, List.all_nil, chk, stAt, again, sameV, sameL, sameA, AV.undef, Bool.and_self, Bool.and_true, decide_eq_true_eq, List.getElem?_nil, AV.cells, AV.tup, Bool.true_and, true_and, and_true, List.drop_nil, List.append_nil, rd_put, rd_alloc, rdO, St.get_put, St.get_alloc, St.next_put, St.next_alloc, St.wr, Bool.and_self, Bool.and_true, List.length_cons, List.length_nil, List.take_succ_cons, List.take_zero, List.drop_succ_cons, List.drop_zero, List.cons_append, List.nil_append, Nat.zero_add, Nat.add_zero, Nat.reduceMul, aFill, evParts, rep, List.replicate_succ, List.replicate_zero, List.flatten_cons, List.flatten_nil, List.append_nil, newSl, newVar, t2, t10, t23, t24, c1, hix, z0, z1, z2, m7, m4095, m63, hB, Nat.one_mul, rB, hap, wj]
  refine ⟨m - 1, ⟨?_, ?_, ?_, ?_, j + 1, p', 3, ?_, by omega, ?_, by rw [htk]; exact G'⟩, by show m - 1 < m; omega⟩ <;> simp only [Tr.get_set, Nat.reduceEqDiff, if_false, if_true, t2, t3, t9, t23]
/-- What an append of a row comes to. -/
def AppOp (S : St) (a : AV) (q : Option (Nat × Nat × Nat)) (n f : Nat) (r : Option (AV × St)) : Prop :=
  q = none ∧ aAppend 3 24 S a 0 [] = r ∨ ∃ o v i x, q = some (o, v, i) ∧ f = 3 ∧ S.rd o v i (n * 3) = some x ∧ aAppend 3 24 S a n x = r
theorem Gt.app_op {S0 S : St} {p q : Option (Nat × Nat × Nat)} {e f : Nat} {l m : List Tp} (h : Gt S0 S p e l) (hm : Ty S q f m) (hr : l.length + m.length ≤ 1000000) :
    ∃ p' e' S', AppOp S (.slice p l.length e none) q m.length f (some (.slice p' (l.length + m.length) e' none, S')) ∧ Gt S0 S' p' e' (l ++ m) := by
  obtain ⟨p', e', S', h1, h2, _⟩ := h.app hr
  refine ⟨p', e', S', ?_, h2⟩
  rcases q with _ | ⟨o, v, i⟩
  · obtain rfl := hm.nil rfl
    exact .inl ⟨rfl, h1⟩
  · obtain rfl := hm.ez.resolve_left (by simp)
    obtain ⟨_, h3⟩ := hm.at_ o v i rfl
    exact .inr ⟨o, v, i, _, rfl, rfl, h3, h1⟩
set_option maxHeartbeats 8000000 in
theorem ev4 (k : Nat) {pt : Option (Nat × Nat × Nat)} {lt : Nat} {n : Int} {p : Option (Nat × Nat × Nat)} {l : List Tp} {pk : Int} {S : St} (ht : Sl S pt lt [.int .i64]) (hpt : ∀ o v i, pt = some (o, v, i) → o < S.next) (h : Ty S p 3 l) (hl : ∀ t ∈ l, OkT t) (pk0 : 0 ≤ pk) :
    ∃ S', evF Y AP (k + 1107) 4 [.slice pt lt 1 none, .int .i64 n, .slice p l.length 3 none, .int .u64 pk] S = some (.bool true, S') := by
  suffices hh : ∃ v S', evF Y AP (k + 1107) 4 [.slice pt lt 1 none, .int .i64 n, .slice p l.length 3 none, .int .u64 pk] S = some (v, S') ∧ v = .bool true by
    obtain ⟨v, S', h1, rfl⟩ := hh; exact ⟨S', h1⟩
  have hmx := h.mx
  obtain ⟨nn, hnn⟩ : ∃ nn : Nat, 1 + n % 8 = (nn : Int) := ⟨(1 + n % 8).toNat, by omega⟩
  have w1 : IntKind.i64.wrap (1 + n % 8) = (nn : Int) := by rw [hnn]; exact w64_id (by omega) (by omega)
  obtain ⟨pr, er, row, S1, r8, G1, hrl, okr⟩ := T8 (k + 4) ht hpt (n := nn) (by omega)
  have r8 : evF Y AP (k + 1106) 8 [.slice pt lt 1 none, .int .i64 nn] S = _ := r8
  have okr' : ∀ t ∈ row, OkT t := fun t ht => (okr t ht).ok
  -- the rounds, and what is behind them
  have rest : ∀ (p2 : Option (Nat × Nat × Nat)) (l2 : List Tp), Ty S1 p2 3 l2 → l2.length ≤ 30 → (∀ t ∈ l2, OkT t) → ∀ (T : Tm), T.get 2 = some (.slice p2 l2.length 3 none) → T.get 3 = some (.int .u64 pk) → T.get 9 = some (.slice pr nn er none) →
      ∀ m T2 S2, I4 (.slice pr nn er none) (.int .u64 pk) p2 l2 S1 m T2 S2 → m = 0 → ∃ S3 S4 S5 S6 p5 e5 n5, evF Y AP (k + 1106) 10 [.slice pr nn er none, .int .u64 (pk % 65536)] S2 = some (.bool true, S3) ∧ evF Y AP (k + 1106) 10 [.slice p2 l2.length 3 none, .int .u64 pk] S3 = some (.bool true, S4) ∧
        ∃ po eo, T2.get 10 = some (.slice po l2.length eo none) ∧ evF Y AP (k + 1106) 10 [.slice po l2.length eo none, .int .u64 (pk % 64)] S4 = some (.bool true, S5) ∧
        AppOp S5 (.slice pr nn er none) po l2.length eo (some (.slice p5 n5 e5 none, S6)) ∧ ∃ S7, evF Y AP (k + 1106) 10 [.slice p5 n5 e5 none, .int .u64 (pk % 1024)] S6 = some (.bool true, S7) := by
    intro p2 l2 ty2 hl2 ok2 T _ _ _ m T2 S2 ⟨_, _, _, _, j, po, eo, _, hm, t10, G⟩ hm0
    obtain rfl : j = l2.length := by omega
    rw [List.take_length] at G
    have hml : (l2.map maskT).length = l2.length := List.length_map _
    have okm : ∀ t ∈ l2.map maskT, OkT t := fun t ht => by
      obtain ⟨a, _, rfl⟩ := List.mem_map.1 ht
      exact maskT_ok a
    obtain ⟨S3, r3, x3⟩ := T10 k (c := none) ((G1.ty (by omega)).ext G.ext) (by omega) okr' (n := pk % 65536) (by omega)
    rw [hrl] at r3
    obtain ⟨S4, r4, x4⟩ := T10 k (c := none) (ty2.ext (G.ext.trans x3)) (by omega) ok2 pk0
    have tym := G.ty (by omega)
    obtain ⟨S5, r5, x5⟩ := T10 k (c := none) (tym.ext (x3.trans x4)) (by omega) okm (n := pk % 64) (by omega)
    rw [hml] at r5
    have x35 := x3.trans (x4.trans x5)
    obtain ⟨p5, e5, S6, h6, G6⟩ := (G1.more (G.ext.trans x35)).app_op (tym.ext x35) (by omega)
    rw [hrl, hml] at h6
    have hl6 : (row ++ l2.map maskT).length = nn + l2.length := by rw [List.length_append, hrl, hml]
    obtain ⟨S7, r7, x7⟩ := T10 k (c := none) (G6.ty (by omega)) (by omega) (fun t ht => (List.mem_append.1 ht).elim (okr' t) (okm t)) (n := pk % 1024) (by omega)
    rw [hl6] at r7
    exact ⟨S3, S4, S5, S6, p5, e5, nn + l2.length, r3, r4, po, eo, t10, r5, h6, S7, r7⟩
  refine evF_goes (af := af4) (k := k + 1106) rfl rfl rfl ?_
  have ty1 := h.ext G1.ext
  by_cases c1 : (30 : Int) < (l.length : Int)
  · obtain ⟨o, v, i, rfl, _, ho⟩ := ty1.some_ (by omega)
    have hcut : aCut 3 (.slice (some (o, v, i)) l.length 3 none) none (some (.int .i64 30)) none = some (.slice (some (o, v, i)) 30 3 none) := by
      have c30 : (30 : Int) ≤ (l.length : Int) := by omega
      simp [aCut, bnd, c30]
    have ty2 := ty1.take (n := 30) (by omega)
    have hl2 : (l.take 30).length = 30 := by rw [List.length_take]; omega
    have hm30 : (30 : Nat) ≤ 9223372036854775807 := by decide
    simp -implicitDefEqProofs -dsimp (maxSteps := 10000000) only [af4, ↓goes_loop, ↓goes_seq, ↓goes_reg, ↓goes_dreg, ↓goes_cond, ↓goes_block, ↓goes_skip, ↓goes_exit, ↓goes_ret, after_some, br_true, br_false, ↓then_normal, ↓then_exit, ↓then_ret, ↓blk_normal, ↓blk_exit, ↓blk_ret, ↓blk_other, ops_nil, ops_some, ops_none, oper_none, oper_some, gd_tt, gd_ff, gd_tf, gd_ft, gd_undef, ↓any_op, ↓any_call, ↓any_callV, ↓any_invoke, xo_t, xo_c, args_nil, args_cons, bin_add, bin_sub, bin_mul, bin_quo, bin_rem, bin_and, bin_or, bin_xor, bin_andNot, bin_eql, bin_neq, bin_lss, bin_leq, bin_gtr, bin_geq, bin_shl, bin_shr, bin_bools, bin_strs, bin_ptrs, bin_slices, bin_aggs, ↓Option.bind_some, ↓Option.map_some, ↓cond_true, ↓cond_false, evC, evOp, XO.lit, setArgs, Tr.tabG, Tr.tabS, Tr.tabL, Tr.get_lf, Option.bind_some, Option.map_some, cond_true, cond_false, maxI, maxFrom, minI, minFrom, aConv, aBinE, aEq, eqScal, aUn, evRes, fin, oneOf, if_true, if_false, callee, reduceCtorEq, Nat.reduceEqDiff, and_self, decide_true, decide_false, beq_true, beq_false, Bool.not_true, Bool.not_false, List.getElem?_cons_zero, List.getElem?_cons_succ, beq_self_eq_true, gt_iff_lt, ble_dec, beq_dec, List.head?_cons, AV.undef, eq_self, ne_eq, not_true_eq_false, not_false_eq_true, Int.reduceLT, Int.reduceLE, Int.reduceToNat, Int.reduceEq, Int.reduceNeg, Nat.reduceAdd, Nat.reduceLT, Nat.reduceLeDiff, Nat.reduceMul, Nat.reduceSub, m7i, w1, r8, hmx, c1, evOpt, hcut, hm30]
    refine .while (I4 (.slice pr nn er none) (.int .u64 pk) (some (o, v, i)) (l.take 30) S1) id (l.take 30).length ⟨rfl, rfl, by rw [hl2]; rfl, by rw [hl2]; rfl, 0, none, 0, rfl, by omega, rfl, .zero _ _⟩ (by show (l.take 30).length < k + 1106; omega) fun m2 T2 S2 h2 => (round4 k ty2 (by omega) m2 T2 S2 h2).mono ?_
    intro r T' S' hq
    cases r with
    | normal => exact hq
    | ret => exact absurd hq.1 (by simp)
    | exit i =>
      obtain ⟨hi, hI⟩ := hq
      cases hi
      obtain ⟨S3, S4, S5, S6, p5, e5, n5, r3, r4, po, eo, t10, r5, h6, S7, r7⟩ := rest _ _ ty2 (by omega) (fun t ht => hl t (List.mem_of_mem_take ht)) T' hI.t2 hI.t3 hI.t9 0 T' S' hI rfl
      obtain ⟨t9, t3, t2, _⟩ := hI
      rw [hl2] at r4 t10 r5 h6 t2
      rcases h6 with ⟨rfl, h6⟩ | ⟨o6, v6, i6, x6, rfl, rfl, hx6, h6⟩
      · simp -implicitDefEqProofs -dsimp (maxSteps := 10000000) only [↓goes_loop, ↓goes_seq, ↓goes_reg, ↓goes_dreg, ↓goes_cond, ↓goes_block, ↓goes_skip, ↓goes_exit, ↓goes_ret, after_some, br_true, br_false, ↓then_normal, ↓then_exit, ↓then_ret, ↓blk_normal, ↓blk_exit, ↓blk_ret, ↓blk_other, ops_nil, ops_some, ops_none, oper_none, oper_some, gd_tt, gd_ff, gd_tf, gd_ft, gd_undef, ↓any_op, ↓any_call, ↓any_callV, ↓any_invoke, xo_t, xo_c, args_nil, args_cons, bin_add, bin_sub, bin_mul, bin_quo, bin_rem, bin_and, bin_or, bin_xor, bin_andNot, bin_eql, bin_neq, bin_lss, bin_leq, bin_gtr, bin_geq, bin_shl, bin_shr, bin_bools, bin_strs, bin_ptrs, bin_slices, bin_aggs, ↓Option.bind_some, ↓Option.map_some, ↓cond_true, ↓cond_false, evC, evOp, XO.lit, setArgs, Tr.get_set, Option.bind_some, Option.map_some, cond_true, cond_false, maxI, maxFrom, minI, minFrom, aConv, aBinE, aEq, eqScal, aUn, evRes, fin, oneOf, if_true, if_false, callee, reduceCtorEq, Nat.reduceEqDiff, and_self, decide_true, decide_false, beq_true, beq_false, Bool.not_true, Bool.not_false, List.getElem?_cons_zero, List.getElem?_cons_succ, beq_self_eq_true, gt_iff_lt, ble_dec, beq_dec, List.head?_cons, AV.undef, eq_self, ne_eq, not_true_eq_false, not_false_eq_true, Int.reduceLT, Int.reduceLE, Int.reduceToNat, Int.reduceEq, Int.reduceNeg, Nat.reduceAdd, Nat.reduceLT, Nat.reduceLeDiff, Nat.reduceMul, Nat.reduceSub, t9, t3, t2, t10, m65535u, m63u, m1023u, r3, r4, r5, h6, r7, y11]
        exact ⟨_, _, rfl, rfl⟩
      · simp -implicitDefEqProofs -dsimp (maxSteps := 10000000) only [↓goes_loop, ↓goes_seq, ↓goes_reg, ↓goes_dreg, ↓goes_cond, ↓goes_block, ↓goes_skip, ↓goes_exit, ↓goes_ret, after_some, br_true, br_false, ↓then_normal, ↓then_exit, ↓then_ret, ↓blk_normal, ↓blk_exit, ↓blk_ret, ↓blk_other, ops_nil, ops_some, ops_none, oper_none, oper_some, gd_tt, gd_ff, gd_tf, gd_ft, gd_undef, ↓any_op, ↓any_call, ↓any_callV, ↓any_invoke, xo_t, xo_c, args_nil, args_cons, bin_add, bin_sub, bin_mul, bin_quo, bin_rem, bin_and, bin_or, bin_xor, bin_andNot, bin_eql, bin_neq, bin_lss, bin_leq, bin_gtr, bin_geq, bin_shl, bin_shr, bin_bools, bin_strs, bin_ptrs, bin_slices, bin_aggs, ↓Option.bind_some, ↓Option.map_some, ↓cond_true, ↓cond_false, evC, evOp, XO.lit, setArgs, Tr.get_set, Option.bind_some, Option.map_some, cond_true, cond_false, maxI, maxFrom, minI, minFrom, aConv, aBinE, aEq, eqScal, aUn, evRes, fin, oneOf, if_true, if_false, callee, reduceCtorEq, Nat.reduceEqDiff, and_self, decide_true, decide_false, beq_true, beq_false, Bool.not_true, Bool.not_false, List.getElem?_cons_zero, List.getElem?_cons_succ, beq_self_eq_true, gt_iff_lt, ble_dec, beq_dec, List.head?_cons, AV.undef, eq_self, ne_eq, not_true_eq_false, not_false_eq_true, Int.reduceLT, Int.reduceLE, Int.reduceToNat, Int.reduceEq, Int.reduceNeg, Nat.reduceAdd, Nat.reduceLT, Nat.reduceLeDiff, Nat.reduceMul, Nat.reduceSub, t9, t3, t2, t10, m65535u, m63u, m1023u, r3, r4, r5, hx6, h6, r7, y11]
        exact ⟨_, _, rfl, rfl⟩
  · simp -implicitDefEqProofs -dsimp (maxSteps := 10000000) only [af4, ↓goes_loop, ↓goes_seq, ↓goes_reg, ↓goes_dreg, ↓goes_cond, ↓goes_block, ↓goes_skip, ↓goes_exit, ↓goes_ret, after_some, br_true, br_false, ↓then_normal, ↓then_exit, ↓then_ret, ↓blk_normal, ↓blk_exit, ↓blk_ret, ↓blk_other, ops_nil, ops_some, ops_none, oper_none, oper_some, gd_tt, gd_ff, gd_tf, gd_ft, gd_undef, ↓any_op, ↓any_call, ↓any_callV, ↓any_invoke, xo_t, xo_c, args_nil, args_cons, bin_add, bin_sub, bin_mul, bin_quo, bin_rem, bin_and, bin_or, bin_xor, bin_andNot, bin_eql, bin_neq, bin_lss, bin_leq, bin_gtr, bin_geq, bin_shl, bin_shr, bin_bools, bin_strs, bin_ptrs, bin_slices, bin_aggs, ↓Option.bind_some, ↓Option.map_some, ↓cond_true, ↓cond_false, evC, evOp, XO.lit, setArgs, Tr.tabG, Tr.tabS, Tr.tabL, Tr.get_lf, Option.bind_some, Option.map_some, cond_true, cond_false, maxI, maxFrom, minI, minFrom, aConv, aBinE, aEq, eqScal, aUn, evRes, fin, oneOf, if_true, if_false, callee, reduceCtorEq, Nat.reduceEqDiff, and_self, decide_true, decide_false, beq_true, beq_false, Bool.not_true, Bool.not_false, List.getElem?_cons_zero, List.getElem?_cons_succ, beq_self_eq_true, gt_iff_lt, ble_dec, beq_dec, List.head?_cons, AV.undef, eq_self, ne_eq, not_true_eq_false, not_false_eq_true, Int.reduceLT, Int.reduceLE, Int.reduceToNat, Int.reduceEq, Int.reduceNeg, Nat.reduceAdd, Nat.reduceLT, Nat.reduceLeDiff, Nat.reduceMul, Nat.reduceSub, m7i, w1, r8, hmx, c1]
    refine .while (I4 (.slice pr nn er none) (.int .u64 pk) p l S1) id l.length ⟨rfl, rfl, rfl, rfl, 0, none, 0, rfl, by omega, rfl, .zero _ _⟩ (by show l.length < k + 1106; omega) fun m2 T2 S2 h2 => (round4 k ty1 (by omega) m2 T2 S2 h2).mono ?_
    intro r T' S' hq
    cases r with
    | normal => exact hq
    | ret => exact absurd hq.1 (by simp)
    | exit i =>
      obtain ⟨hi, hI⟩ := hq
      cases hi
      obtain ⟨S3, S4, S5, S6, p5, e5, n5, r3, r4, po, eo, t10, r5, h6, S7, r7⟩ := rest _ _ ty1 (by omega) hl T' hI.t2 hI.t3 hI.t9 0 T' S' hI rfl
      obtain ⟨t9, t3, t2, _⟩ := hI
      rcases h6 with ⟨rfl, h6⟩ | ⟨o6, v6, i6, x6, rfl, rfl, hx6, h6⟩
      · simp -implicitDefEqProofs -dsimp (maxSteps := 10000000) only [↓goes_loop, ↓goes_seq, ↓goes_reg, ↓goes_dreg, ↓goes_cond, ↓goes_block, ↓goes_skip, ↓goes_exit, ↓goes_ret, after_some, br_true, br_false, ↓then_normal, ↓then_exit, ↓then_ret, ↓blk_normal, ↓blk_exit, ↓blk_ret, ↓blk_other, ops_nil, ops_some, ops_none, oper_none, oper_some, gd_tt, gd_ff, gd_tf, gd_ft, gd_undef, ↓any_op, ↓any_call, ↓any_callV, ↓any_invoke, xo_t, xo_c, args_nil, args_cons, bin_add, bin_sub, bin_mul, bin_quo, bin_rem, bin_and, bin_or, bin_xor, bin_andNot, bin_eql, bin_neq, bin_lss, bin_leq, bin_gtr, bin_geq, bin_shl, bin_shr, bin_bools, bin_strs, bin_ptrs, bin_slices, bin_aggs, ↓Option.bind_some, ↓Option.map_some, ↓cond_true, ↓cond_false, evC, evOp, XO.lit, setArgs, Tr.get_set, Option.bind_some, Option.map_some, cond_true, cond_false, maxI, maxFrom, minI, minFrom, aConv, aBinE, aEq, eqScal, aUn, evRes, fin, oneOf, if_true, if_false, callee, reduceCtorEq, Nat.reduceEqDiff, and_self, decide_true, decide_false, beq_true, beq_false, Bool.not_true, Bool.not_false, List.getElem?_cons_zero, List.getElem?_cons_succ, beq_self_eq_true, gt_iff_lt, ble_dec, beq_dec, List.head?_cons, AV.undef, eq_self, ne_eq, not_true_eq_false, not_false_eq_true, Int.reduceLT, Int.reduceLE, Int.reduceToNat, Int.reduceEq, Int.reduceNeg, Nat.reduceAdd, Nat.reduceLT, Nat.reduceLeDiff, Nat.reduceMul, Nat.reduceSub, t9, t3, t2, t10, m65535u, m63u, m1023u, r3, r4, r5, h6, r7, y11]
        exact ⟨_, _, rfl, rfl⟩
      · simp -implicitDefEqProofs -dsimp (maxSteps := 10000000) only [↓goes_loop, ↓goes_seq, ↓goes_reg, ↓goes_dreg, ↓goes_cond, ↓goes_block, ↓goes_skip, ↓goes_exit, ↓goes_ret, after_some, br_true, br_false, ↓then_normal, ↓then_exit, ↓then_ret, ↓blk_normal, ↓blk_exit, ↓blk_ret, ↓blk_other, ops_nil, ops_some, ops_none, oper_none, oper_some, gd_tt, gd_ff, gd_tf, gd_ft, gd_undef, ↓any_op, ↓any_call, ↓any_callV, ↓any_invoke, xo_t, xo_c, args_nil, args_cons, bin_add, bin_sub, bin_mul, bin_quo, bin_rem, bin_and, bin_or, bin_xor, bin_andNot, bin_eql, bin_neq, bin_lss, bin_leq, bin_gtr, bin_geq, bin_shl, bin_shr, bin_bools, bin_strs, bin_ptrs, bin_slices, bin_aggs, ↓Option.bind_some, ↓Option.map_some, ↓cond_true, ↓cond_false, evC, evOp, XO.lit, setArgs, Tr.get_set, Option.bind_some, Option.map_some, cond_true, cond_false, maxI, maxFrom, minI, minFrom, aConv, aBinE, aEq, eqScal, aUn, evRes, fin, oneOf, if_true, if_false, callee, reduceCtorEq, Nat.reduceEqDiff, and_self, decide_true, decide_false, beq_true, beq_false, Bool.not_true, Bool.not_false, List.getElem?_cons_zero, List.getElem?_cons_succ, beq_self_eq_true, gt_iff_lt, ble_dec, beq_dec, List.head?_cons, AV.undef, eq_self, ne_eq, not_true_eq_false, not_false_eq_true, Int.reduceLT, Int.reduceLE, Int.reduceToNat, Int.reduceEq, Int.reduceNeg, Nat.reduceAdd, Nat.reduceLT, Nat.reduceLeDiff, Nat.reduceMul, Nat.reduceSub, t9, t3, t2, t10, m65535u, m63u, m1023u, r3, r4, r5, hx6, h6, r7, y11]
        exact ⟨_, _, rfl, rfl⟩
theorem law4 {n pk : Int} {p1 p2 : Option (Nat × Nat × Nat)} {n1 n2 : Nat} {xs ys : List AV} (h1 : Arg p1 0 n1 [.int .i64] xs) (_ : (Lit.int .i64 n).wf = true) (h2 : Arg p2 1 n2 tup ys) (wk : (Lit.int .u64 pk).wf = true) :
    ∃ S', evF Y AP (0 + 1107) 4 [.slice p1 n1 1 none, .int .i64 n, .slice p2 n2 3 none, .int .u64 pk] ((S0.alloc (.cells xs 0 0 false)).alloc (.cells ys 0 0 false)) = some (.bool true, S') := by
  obtain ⟨l, rfl, ty, ok⟩ := Ty.of_arg h2 (S := (S0.alloc (.cells xs 0 0 false)).alloc (.cells ys 0 0 false)) (by rw [St.get_alloc]; rfl) (by show 1 < 2; decide)
  refine ev4 0 (.of_arg h1 (by simp only [St.get_alloc]; rfl) (by show 0 < 2; decide)) (fun o v i hp => ?_) ty ok (wf_u64 wk).1
  rcases h1.at0 with h0 | h0
  · rw [hp] at h0; cases h0
  · rw [hp] at h0; cases h0; show 0 < 2; decide
end Go.Proofs.YtkbooepiomobdaaA
