/- Chapter 16: what the meter's functions come to. -/
import Derived.Test.YtinnclcheekhpaaClkP
import Derived.Test.YtinnclcheekhpaaAeS8
set_option linter.unusedVariables false
set_option linter.unusedSimpArgs false
set_option maxRecDepth 10000
namespace Go.Proofs.YtinnclcheekhpaaA
open Go.RowKit
attribute [local congr] bind_congr1 map_congr1 cond_congr1 withX_congr after_congr br_congr gd_congr

def sat (a b : Int) : Int := mn (up a + up b) M63
def slot (n : Int) : Int := (if 0 < n then n else 0) / 100000
def nSum (a b : Int) : AV := .int .i64 (mn (up a + up b) M63)
def nMul (a b : Int) : AV := .int .i64 (mn (up a * up b) M63)
def nOver (a b : Int) : AV := .int .i64 (upq (up a) (up b))
theorem slot_bd {n : Int} (h : n ≤ 9223372036854775807) : 0 ≤ slot n ∧ slot n ≤ 92233720368547 := by unfold slot; split <;> omega
theorem ev15 {n : Int} (h : I64 n) : evF X0 AP 3 15 [.int .i64 n] S0 = some (.int .i64 (slot n), S0) := by
  rw [evF_body (af := af15) rfl rfl rfl]
  have hb := slot_bd h.2
  have hne : ¬ ((100000 : Int) = 0) := by decide
  have ht : Int.tdiv (if 0 < n then n else 0) 100000 = slot n := Int.tdiv_eq_ediv_of_nonneg (by split <;> omega)
  have w : IntKind.i64.wrap (slot n) = slot n := w64_id (by omega) (by omega)
  simp -implicitDefEqProofs -dsimp (maxSteps := 10000000) only [af15, ops_nil, ops_some, ops_none, oper_none, oper_some, gd_tt, gd_ff, gd_tf, gd_ft, gd_undef, ↓any_op, ↓any_call, ↓any_callV, ↓any_invoke, xo_t, xo_c, args_nil, args_cons, bin_add, bin_sub, bin_mul, bin_quo, bin_rem, bin_and, bin_or, bin_xor, bin_andNot, bin_eql, bin_neq, bin_lss, bin_leq, bin_gtr, bin_geq, bin_shl, bin_shr, bin_bools, bin_strs, bin_ptrs, bin_slices, bin_aggs, ↓Option.bind_some, ↓Option.map_some, ↓cond_true, ↓cond_false, evC, evOp, XO.lit, setArgs, Tr.tabG, Tr.tabS, Tr.tabL, Tr.get_lf, Option.bind_some, Option.map_some, cond_true, cond_false, maxI, maxFrom, minI, minFrom, aConv, aBinE, aEq, eqScal, aUn, evRes, fin, oneOf, if_true, if_false, callee, evF_eq, withX_some, withX_none, addX, X0, sN0, sN1, sN2, sN3, sN4, reduceCtorEq, Nat.reduceEqDiff, and_self, decide_true, decide_false, beq_true, beq_false, Bool.not_true, Bool.not_false, List.getElem?_cons_zero, List.getElem?_cons_succ, beq_self_eq_true, gt_iff_lt, ble_dec, beq_dec, List.head?_cons, AV.undef, eq_self, ne_eq, not_true_eq_false, not_false_eq_true, Int.reduceLT, Int.reduceLE, Int.reduceToNat, Int.reduceEq, Int.reduceNeg, Nat.reduceAdd, Nat.reduceLT, Nat.reduceLeDiff, Nat.reduceMul, Nat.reduceSub, AV.cells, AV.tup, Bool.true_and, true_and, and_true, List.drop_nil, List.append_nil, rd_put, rd_alloc, rdO, St.get_put, St.get_alloc, St.next_put, St.next_alloc, St.wr, Bool.and_self, Bool.and_true, List.length_cons, List.length_nil, List.take_succ_cons, List.take_zero, List.drop_succ_cons, List.drop_zero, List.cons_append, List.nil_append, Nat.zero_add, Nat.add_zero, Nat.reduceMul, hne, ht, w]
theorem addX_any {X Y : Nat → List AV → Option AV} (hX : XOk Try.prog X) (hY : XOk Try.prog Y) {g : Nat} {s : List AV → Option AV} (h : XOk Try.prog (addX Y g s)) : XOk Try.prog (addX X g s) := by
  intro f args v hv
  unfold addX at hv
  by_cases hf : f = g
  · rw [if_pos hf] at hv
    exact h f args v (by unfold addX; rw [if_pos hf]; exact hv)
  · rw [if_neg hf] at hv
    exact hX f args v hv
def Y1 := addX X3 16 (sN2 .i64 .i64 nSum)
def Y2 := addX Y1 18 (sN2 .i64 .i64 nMul)
def Y3 := addX Y2 17 (sN2 .i64 .i64 nOver)
def Y4 := addX Y3 20 (sN2 .i64 .i64 nSum)
def Y5 := addX Y4 21 (sN2 .i64 .i64 nMul)
def Y6 := addX Y5 11 (sN2 .i64 .i64 nOver)
def Y7 := addX Y6 15 (sN1 .i64 fun n => .int .i64 (slot n))
def Y := addX Y7 7 (sN0 (.bool true))
theorem yk1 : XOk Try.prog Y1 := addX_N2 mixed ok3 apOk (entry_of apOk (af := af16) rfl) (fun _ _ => rfl) fun a b wa wb => ⟨3, S0, ev16 (wf_i64 wa) (wf_i64 wb)⟩
theorem yk2 : XOk Try.prog Y2 := addX_any yk1 ok3 (addX_N2 mixed ok3 apOk (entry_of apOk (af := af18) rfl) (fun _ _ => rfl) fun a b wa wb => ⟨3, S0, ev18 (wf_i64 wa) (wf_i64 wb)⟩)
theorem yk3 : XOk Try.prog Y3 := addX_any yk2 ok3 (addX_N2 mixed ok3 apOk (entry_of apOk (af := af17) rfl) (fun _ _ => rfl) fun a b wa wb => ⟨3, S0, ev17 (wf_i64 wa) (wf_i64 wb)⟩)
theorem yk4 : XOk Try.prog Y4 := addX_any yk3 ok3 (addX_N2 mixed ok3 apOk (entry_of apOk (af := af20) rfl) (fun _ _ => rfl) fun a b wa wb => ⟨3, S0, ev20 (wf_i64 wa) (wf_i64 wb)⟩)
theorem yk5 : XOk Try.prog Y5 := addX_any yk4 ok3 (addX_N2 mixed ok3 apOk (entry_of apOk (af := af21) rfl) (fun _ _ => rfl) fun a b wa wb => ⟨3, S0, ev21 (wf_i64 wa) (wf_i64 wb)⟩)
theorem yk6 : XOk Try.prog Y6 := addX_any yk5 ok3 (addX_N2 mixed ok3 apOk (entry_of apOk (af := af11) rfl) (fun _ _ => rfl) fun a b wa wb => ⟨3, S0, ev11 (wf_i64 wa) (wf_i64 wb)⟩)
theorem yk7 : XOk Try.prog Y7 := addX_any yk6 (X0_ok _) (addX_N1 mixed (X0_ok _) apOk (entry_of apOk (af := af15) rfl) (fun _ => rfl) fun a wa => ⟨3, S0, ev15 (wf_i64 wa)⟩)
theorem ev7 : ∃ S', evF X0 AP 40 7 [] S0 = some (.bool true, S') := by
  have h : (evF X0 AP 40 7 [] S0).map Prod.fst = some (.bool true) := by kernel_rfl
  rw [Option.map_eq_some_iff] at h
  obtain ⟨⟨v, S'⟩, h1, h2⟩ := h
  exact ⟨S', by rw [h1]; cases h2; rfl⟩
theorem yk : XOk Try.prog Y := addX_any yk7 (X0_ok _) (addX_N0 (P := Try.prog) mixed (X0_ok _) apOk (entry_of apOk (af := af7) rfl) rfl ⟨40, ev7⟩)
section
variable (k : Nat) (S : St) (a b : Int)
theorem y16 : evF Y AP (k + 1) 16 [.int .i64 a, .int .i64 b] S = some (.int .i64 (sat a b), S) := rfl
theorem y18 : evF Y AP (k + 1) 18 [.int .i64 a, .int .i64 b] S = some (.int .i64 (mn (up a * up b) M63), S) := rfl
theorem y17 : evF Y AP (k + 1) 17 [.int .i64 a, .int .i64 b] S = some (.int .i64 (upq (up a) (up b)), S) := rfl
theorem y15 : evF Y AP (k + 1) 15 [.int .i64 a] S = some (.int .i64 (slot a), S) := rfl
theorem y7 : evF Y AP (k + 1) 7 [] S = some (.bool true, S) := rfl
end
/-! ### The meter -/
abbrev pt (o : Nat) : AV := .ptr (some ⟨o, 0, 0, 7⟩)
def mc (f : Nat → Int) (l t : Int) : List AV := [.int .i64 (f 0), .int .i64 (f 1), .int .i64 (f 2), .int .i64 (f 3), .int .i64 (f 4), .int .i64 l, .int .i64 t]
def fu (f : Nat → Int) (j : Nat) (x : Int) : Nat → Int := fun i => if i = j then x else f i
theorem mc_len (f : Nat → Int) (l t : Int) : (mc f l t).length = 7 := rfl
theorem mc5 (f : Nat → Int) (l t : Int) : List.take 1 (List.drop 5 (mc f l t)) = [.int .i64 l] := rfl
theorem mc6 (f : Nat → Int) (l t : Int) : List.take 1 (List.drop 6 (mc f l t)) = [.int .i64 t] := rfl
theorem mc_get (f : Nat → Int) (l t : Int) {j : Nat} (h : j < 5) : List.take 1 (List.drop (j * 1) (mc f l t)) = [.int .i64 (f j)] := by
  match j, h with
  | 0, _ | 1, _ | 2, _ | 3, _ | 4, _ => rfl
theorem mc_set (f : Nat → Int) (l t x : Int) {j : Nat} (h : j < 5) : List.take (j * 1) (mc f l t) ++ [.int .i64 x] ++ List.drop (j * 1 + 1) (mc f l t) = mc (fu f j x) l t := by
  match j, h with
  | 0, _ | 1, _ | 2, _ | 3, _ | 4, _ => rfl
theorem mc_set5 (f : Nat → Int) (l t x : Int) : List.take 5 (mc f l t) ++ [.int .i64 x] ++ List.drop 6 (mc f l t) = mc f x t := rfl
theorem mc_set6 (f : Nat → Int) (l t x : Int) : List.take 6 (mc f l t) ++ [.int .i64 x] ++ List.drop 7 (mc f l t) = mc f l x := rfl
abbrev mt (f : Nat → Int) (l t : Int) : AO := .cells (mc f l t) 0 0 true
def clr (f : Nat → Int) (a : Int) : Nat → Nat → Int
  | 0 => f
  | n + 1 => fu (clr f a n) ((a - (n : Int)) % 5).toNat 0
structure I9 (f : Nat → Int) (l t a : Int) (o : Nat) (n w : Int) (Sb : St) (m : Nat) (T : Tm) (S : St) : Prop where
  t0 : T.get 0 = some (pt o)
  t1 : T.get 1 = some (.int .i64 n)
  t6 : T.get 6 = some (.int .i64 a)
  t23 : T.get 23 = some (.int .i64 w)
  more : ∃ i : Nat, T.get 24 = some (.int .i64 i) ∧ Upd Sb S o (mt (clr f a i) l t) ∧ (i : Int) ≤ w ∧ (m : Int) = w - i
set_option maxHeartbeats 4000000 in
theorem T9 (k : Nat) {S : St} {o : Nat} {f : Nat → Int} {l t n now : Int} (hS : S.get o = some (mt f l t)) (l0 : 0 ≤ l) (l1 : l ≤ 92233720368547) (n0 : 0 ≤ n) (hn : I64 now) (a : Int) (ha : (if l < slot now then slot now else l) = a) :
    ∃ S', evF Y AP (k + 20) 9 [pt o, .int .i64 n, .int .i64 now] S = some (.tuple [], S') ∧
      Upd S S' o (mt (fu (clr f a (if 5 < a - l then 5 else a - l).toNat) (a % 5).toNat (sat (clr f a (if 5 < a - l then 5 else a - l).toNat (a % 5).toNat) n)) a (sat t n)) := by
  have hb := slot_bd hn.2
  have a0 : 0 ≤ a ∧ l ≤ a ∧ a ≤ 92233720368547 := by rw [← ha]; split <;> omega
  obtain ⟨w, hw⟩ : ∃ w, (if 5 < a - l then 5 else a - l) = w := ⟨_, rfl⟩
  have hw0 : 0 ≤ w ∧ w ≤ 5 ∧ w ≤ a := by rw [← hw]; split <;> omega
  have w1 : IntKind.i64.wrap (a - l) = a - l := w64_id (by omega) (by omega)
  have hrd : ∀ v i m, S.rd o v i m = rdO (mt f l t) v i m := rd_of hS
  have cn : ¬ n < 0 := by omega
  suffices hs : ∃ v S', evF Y AP (k + 20) 9 [pt o, .int .i64 n, .int .i64 now] S = some (v, S') ∧ (v = .tuple [] ∧ Upd S S' o (mt (fu (clr f a w.toNat) (a % 5).toNat (sat (clr f a w.toNat (a % 5).toNat) n)) a (sat t n))) by
    obtain ⟨v, S', h1, rfl, h2⟩ := hs
    rw [hw]
    exact ⟨S', h1, h2⟩
  refine evF_goes (af := af9) (k := k + 19) rfl rfl rfl ?_
  simp -implicitDefEqProofs -dsimp (maxSteps := 10000000) only [af9, ↓goes_loop, ↓goes_seq, ↓goes_reg, ↓goes_dreg, ↓goes_preg, ↓goes_cond, ↓goes_block, ↓goes_skip, ↓goes_exit, ↓goes_ret, after_some, br_true, br_false, ↓then_normal, ↓then_exit, ↓then_ret, ↓blk_normal, ↓blk_exit, ↓blk_ret, ↓blk_other, ops_nil, ops_some, ops_none, oper_none, oper_some, gd_tt, gd_ff, gd_tf, gd_ft, gd_undef, ↓any_op, ↓any_call, ↓any_callV, ↓any_invoke, xo_t, xo_c, args_nil, args_cons, bin_add, bin_sub, bin_mul, bin_quo, bin_rem, bin_and, bin_or, bin_xor, bin_andNot, bin_eql, bin_neq, bin_lss, bin_leq, bin_gtr, bin_geq, bin_shl, bin_shr, bin_bools, bin_strs, bin_ptrs, bin_slices, bin_aggs, ↓Option.bind_some, ↓Option.map_some, ↓cond_true, ↓cond_false, evC, evOp, XO.lit, setArgs, Tr.tabG, Tr.tabS, Tr.tabL, Tr.get_lf, Option.bind_some, Option.map_some, cond_true, cond_false, maxI, maxFrom, minI, minFrom, aConv, aBinE, aEq, eqScal, aUn, evRes, fin, oneOf, if_true, if_false, callee, reduceCtorEq, Nat.reduceEqDiff, and_self, decide_true, decide_false, beq_true, beq_false, Bool.not_true, Bool.not_false, List.getElem?_cons_zero, List.getElem?_cons_succ, beq_self_eq_true, gt_iff_lt, ble_dec, beq_dec, List.head?_cons, AV.undef, eq_self, ne_eq, not_true_eq_false, not_false_eq_true, Int.reduceLT, Int.reduceLE, Int.reduceToNat, Int.reduceEq, Int.reduceNeg, Nat.reduceAdd, Nat.reduceLT, Nat.reduceLeDiff, Nat.reduceMul, Nat.reduceSub, ↓evDraw_nil, bir, putD, evDraw, trace, List.all_cons, List.all_nil, chk, stAt, again, sameV, sameL, sameA, AV.undef, Bool.and_self, Bool.and_true, decide_eq_true_eq, List.getElem?_nil, AV.cells, AV.tup, Bool.true_and, true_and, and_true, List.drop_nil, List.append_nil, rd_put, rd_alloc, rdO, St.get_put, St.get_alloc, St.next_put, St.next_alloc, St.wr, Bool.and_self, Bool.and_true, List.length_cons, List.length_nil, List.take_succ_cons, List.take_zero, List.drop_succ_cons, List.drop_zero, List.cons_append, List.nil_append, Nat.zero_add, Nat.add_zero, Nat.reduceMul, hrd, mc_len, mc5, cn, y15, ha, w1, hw]
  refine .while (I9 f l t a o n w S) id w.toNat ⟨rfl, rfl, rfl, rfl, 0, rfl, Upd.refl hS, by omega, by omega⟩ (by show w.toNat < k + 19; omega) ?_
  rintro m T S1 ⟨t0, t1, t6, t23, i, t24, hu, hi, hm⟩
  have hS1 := hu.same
  have hrd1 : ∀ v i' m', S1.rd o v i' m' = rdO (mt (clr f a i) l t) v i' m' := rd_of hS1
  by_cases c1 : (i : Int) < w
  · have w2 : IntKind.i64.wrap (a - (i : Int)) = a - i := w64_id (by omega) (by omega)
    have w3 : IntKind.i64.wrap ((i : Int) + 1) = i + 1 := w64_id (by omega) (by omega)
    have ht : Int.tmod (a - (i : Int)) 5 = (a - i) % 5 := Int.tmod_eq_emod_of_nonneg (by omega)
    obtain ⟨x, hx⟩ : ∃ x, (a - (i : Int)) % 5 = x := ⟨_, rfl⟩
    have x0 : 0 ≤ x ∧ x < 5 := by omega
    have hix : ixOf (.int .i64 x) 5 = some x.toNat := ix_ok x0.1 (by omega)
    have h5 : ¬ ((5 : Int) = 0) := by decide
    have hle : x.toNat * 1 + 1 ≤ 7 := by omega
    have hset := mc_set (clr f a i) l t 0 (show x.toNat < 5 by omega)
    simp -implicitDefEqProofs -dsimp (maxSteps := 10000000) only [af9_l0, ↓goes_loop, ↓goes_seq, ↓goes_reg, ↓goes_dreg, ↓goes_preg, ↓goes_cond, ↓goes_block, ↓goes_skip, ↓goes_exit, ↓goes_ret, after_some, br_true, br_false, ↓then_normal, ↓then_exit, ↓then_ret, ↓blk_normal, ↓blk_exit, ↓blk_ret, ↓blk_other, ops_nil, ops_some, ops_none, oper_none, oper_some, gd_tt, gd_ff, gd_tf, gd_ft, gd_undef, ↓any_op, ↓any_call, ↓any_callV, ↓any_invoke, xo_t, xo_c, args_nil, args_cons, bin_add, bin_sub, bin_mul, bin_quo, bin_rem, bin_and, bin_or, bin_xor, bin_andNot, bin_eql, bin_neq, bin_lss, bin_leq, bin_gtr, bin_geq, bin_shl, bin_shr, bin_bools, bin_strs, bin_ptrs, bin_slices, bin_aggs, ↓Option.bind_some, ↓Option.map_some, ↓cond_true, ↓cond_false, evC, evOp, XO.lit, setArgs, Tr.get_set, Option.bind_some, Option.map_some, cond_true, cond_false, maxI, maxFrom, minI, minFrom, aConv, aBinE, aEq, eqScal, aUn, evRes, fin, oneOf, if_true, if_false, callee, reduceCtorEq, Nat.reduceEqDiff, and_self, decide_true, decide_false, beq_true, beq_false, Bool.not_true, Bool.not_false, List.getElem?_cons_zero, List.getElem?_cons_succ, beq_self_eq_true, gt_iff_lt, ble_dec, beq_dec, List.head?_cons, AV.undef, eq_self, ne_eq, not_true_eq_false, not_false_eq_true, Int.reduceLT, Int.reduceLE, Int.reduceToNat, Int.reduceEq, Int.reduceNeg, Nat.reduceAdd, Nat.reduceLT, Nat.reduceLeDiff, Nat.reduceMul, Nat.reduceSub, AV.cells, AV.tup, Bool.true_and, true_and, and_true, List.drop_nil, List.append_nil, rd_put, rd_alloc, rdO, St.get_put, St.get_alloc, St.next_put, St.next_alloc, St.wr, Bool.and_self, Bool.and_true, List.length_cons, List.length_nil, List.take_succ_cons, List.take_zero, List.drop_succ_cons, List.drop_zero, List.cons_append, List.nil_append, Nat.zero_add, Nat.add_zero, Nat.reduceMul, t0, t6, t23, t24, c1, w2, w3, ht, hx, h5, hix, hS1, mc_len, hle, hset]
    refine ⟨m - 1, ⟨?_, ?_, ?_, ?_, i + 1, ?_, ?_, by omega, by omega⟩, by simp only [id]; omega⟩
    rotate_right 1
    · refine (hu.put _).cast ?_
      show mt (fu (clr f a i) x.toNat 0) l t = mt (fu (clr f a i) ((a - (i : Int)) % 5).toNat 0) l t
      rw [hx]
    all_goals simp only [Tr.get_set, Nat.reduceEqDiff, if_false, if_true, t0, t1, t6, t23]
    rfl
  · have hiw : i = w.toNat := by omega
    have ht : Int.tmod a 5 = a % 5 := Int.tmod_eq_emod_of_nonneg a0.1
    obtain ⟨x, hx⟩ : ∃ x, a % 5 = x := ⟨_, rfl⟩
    have x0 : 0 ≤ x ∧ x < 5 := by omega
    have hix : ixOf (.int .i64 x) 5 = some x.toNat := ix_ok x0.1 (by omega)
    have h5 : ¬ ((5 : Int) = 0) := by decide
    have hle : x.toNat * 1 + 1 ≤ 7 := by omega
    obtain ⟨g, hg⟩ : ∃ g, clr f a i = g := ⟨_, rfl⟩
    rw [hg] at hS1 hrd1 hu
    have hget := mc_get g a t (show x.toNat < 5 by omega)
    have hset := mc_set g a t (sat (g x.toNat) n) (show x.toNat < 5 by omega)
    simp -implicitDefEqProofs -dsimp (maxSteps := 10000000) only [af9_l0, ↓goes_loop, ↓goes_seq, ↓goes_reg, ↓goes_dreg, ↓goes_preg, ↓goes_cond, ↓goes_block, ↓goes_skip, ↓goes_exit, ↓goes_ret, after_some, br_true, br_false, ↓then_normal, ↓then_exit, ↓then_ret, ↓blk_normal, ↓blk_exit, ↓blk_ret, ↓blk_other, ops_nil, ops_some, ops_none, oper_none, oper_some, gd_tt, gd_ff, gd_tf, gd_ft, gd_undef, ↓any_op, ↓any_call, ↓any_callV, ↓any_invoke, xo_t, xo_c, args_nil, args_cons, bin_add, bin_sub, bin_mul, bin_quo, bin_rem, bin_and, bin_or, bin_xor, bin_andNot, bin_eql, bin_neq, bin_lss, bin_leq, bin_gtr, bin_geq, bin_shl, bin_shr, bin_bools, bin_strs, bin_ptrs, bin_slices, bin_aggs, ↓Option.bind_some, ↓Option.map_some, ↓cond_true, ↓cond_false, evC, evOp, XO.lit, setArgs, Tr.get_set, Option.bind_some, Option.map_some, cond_true, cond_false, maxI, maxFrom, minI, minFrom, aConv, aBinE, aEq, eqScal, aUn, evRes, fin, oneOf, if_true, if_false, callee, reduceCtorEq, Nat.reduceEqDiff, and_self, decide_true, decide_false, beq_true, beq_false, Bool.not_true, Bool.not_false, List.getElem?_cons_zero, List.getElem?_cons_succ, beq_self_eq_true, gt_iff_lt, ble_dec, beq_dec, List.head?_cons, AV.undef, eq_self, ne_eq, not_true_eq_false, not_false_eq_true, Int.reduceLT, Int.reduceLE, Int.reduceToNat, Int.reduceEq, Int.reduceNeg, Nat.reduceAdd, Nat.reduceLT, Nat.reduceLeDiff, Nat.reduceMul, Nat.reduceSub, ↓evDraw_nil, bir, putD, evDraw, trace, List.all_cons, List.all_nil, chk, stAt, again, sameV, sameL, sameA, AV.undef, Bool.and_self, Bool.and_true, decide_eq_true_eq, List.getElem?_nil, AV.cells, AV.tup, Bool.true_and, true_and, and_true, List.drop_nil, List.append_nil, rd_put, rd_alloc, rdO, St.get_put, St.get_alloc, St.next_put, St.next_alloc, St.wr, Bool.and_self, Bool.and_true, List.length_cons, List.length_nil, List.take_succ_cons, List.take_zero, List.drop_succ_cons, List.drop_zero, List.cons_append, List.nil_append, Nat.zero_add, Nat.add_zero, Nat.reduceMul, t0, t1, t6, t23, t24, c1, ht, hx, h5, hix, hS1, hrd1, mc_len, mc5, mc6, mc_set5, mc_set6, hle, hget, hset, y16]
    refine ⟨_, _, rfl, rfl, ?_⟩
    rw [← hiw, hg]
    exact ((hu.put _).put _).put _
/-- What is summed, from a slot on, so many slots. -/
def rs (f : Nat → Int) (l : Int) : Nat → Int → Int → Int
  | 0, _, s => s
  | n + 1, i, s => rs f l n (i + 1) (if 0 ≤ i ∧ l - 5 < i then sat s (f (i % 5).toNat) else s)
def rate (f : Nat → Int) (l now : Int) : Int :=
  let a := if l < slot now then slot now else l
  upq (up (mn (up (rs f l (l + 1 - (a - 5 + 1)).toNat (a - 5 + 1) 0) * up 1000000) M63)) (up 500000)
structure I10 (f : Nat → Int) (l t : Int) (R : Int) (o : Nat) (Sb : St) (m : Nat) (T : Tm) (S : St) : Prop where
  t0 : T.get 0 = some (pt o)
  st : S = Sb
  more : ∃ i s : Int, T.get 7 = some (.int .i64 i) ∧ T.get 6 = some (.int .i64 s) ∧ rs f l (l + 1 - i).toNat i s = R ∧ -5 ≤ i ∧ i ≤ 92233720368552 ∧ m = (l + 1 - i).toNat
set_option maxHeartbeats 4000000 in
theorem T10 (k : Nat) {S : St} {o : Nat} {f : Nat → Int} {l t now : Int} (hS : S.get o = some (mt f l t)) (l0 : 0 ≤ l) (l1 : l ≤ 92233720368547) (hn : I64 now) :
    evF Y AP (k + 20) 10 [pt o, .int .i64 now] S = some (.int .i64 (rate f l now), S) := by
  have hb := slot_bd hn.2
  obtain ⟨a, ha⟩ : ∃ a, (if l < slot now then slot now else l) = a := ⟨_, rfl⟩
  have a0 : 0 ≤ a ∧ l ≤ a ∧ a ≤ 92233720368547 := by rw [← ha]; split <;> omega
  have w1 : IntKind.i64.wrap (a - 5) = a - 5 := w64_id (by omega) (by omega)
  have w2 : IntKind.i64.wrap (a - 5 + 1) = a - 5 + 1 := w64_id (by omega) (by omega)
  have hrd : ∀ v i m, S.rd o v i m = rdO (mt f l t) v i m := rd_of hS
  obtain ⟨R, hR⟩ : ∃ R, rs f l (l + 1 - (a - 5 + 1)).toNat (a - 5 + 1) 0 = R := ⟨_, rfl⟩
  suffices hs : ∃ v S', evF Y AP (k + 20) 10 [pt o, .int .i64 now] S = some (v, S') ∧ (v = .int .i64 (upq (up (mn (up R * up 1000000) M63)) (up 500000)) ∧ S' = S) by
    obtain ⟨v, S', h1, rfl, rfl⟩ := hs
    rw [h1]
    unfold rate
    dsimp only
    rw [ha, hR]
  refine evF_goes (af := af10) (k := k + 19) rfl rfl rfl ?_
  simp -implicitDefEqProofs -dsimp (maxSteps := 10000000) only [af10, ↓goes_loop, ↓goes_seq, ↓goes_reg, ↓goes_dreg, ↓goes_preg, ↓goes_cond, ↓goes_block, ↓goes_skip, ↓goes_exit, ↓goes_ret, after_some, br_true, br_false, ↓then_normal, ↓then_exit, ↓then_ret, ↓blk_normal, ↓blk_exit, ↓blk_ret, ↓blk_other, ops_nil, ops_some, ops_none, oper_none, oper_some, gd_tt, gd_ff, gd_tf, gd_ft, gd_undef, ↓any_op, ↓any_call, ↓any_callV, ↓any_invoke, xo_t, xo_c, args_nil, args_cons, bin_add, bin_sub, bin_mul, bin_quo, bin_rem, bin_and, bin_or, bin_xor, bin_andNot, bin_eql, bin_neq, bin_lss, bin_leq, bin_gtr, bin_geq, bin_shl, bin_shr, bin_bools, bin_strs, bin_ptrs, bin_slices, bin_aggs, ↓Option.bind_some, ↓Option.map_some, ↓cond_true, ↓cond_false, evC, evOp, XO.lit, setArgs, Tr.tabG, Tr.tabS, Tr.tabL, Tr.get_lf, Option.bind_some, Option.map_some, cond_true, cond_false, maxI, maxFrom, minI, minFrom, aConv, aBinE, aEq, eqScal, aUn, evRes, fin, oneOf, if_true, if_false, callee, reduceCtorEq, Nat.reduceEqDiff, and_self, decide_true, decide_false, beq_true, beq_false, Bool.not_true, Bool.not_false, List.getElem?_cons_zero, List.getElem?_cons_succ, beq_self_eq_true, gt_iff_lt, ble_dec, beq_dec, List.head?_cons, AV.undef, eq_self, ne_eq, not_true_eq_false, not_false_eq_true, Int.reduceLT, Int.reduceLE, Int.reduceToNat, Int.reduceEq, Int.reduceNeg, Nat.reduceAdd, Nat.reduceLT, Nat.reduceLeDiff, Nat.reduceMul, Nat.reduceSub, ↓evDraw_nil, bir, putD, evDraw, trace, List.all_cons, List.all_nil, chk, stAt, again, sameV, sameL, sameA, AV.undef, Bool.and_self, Bool.and_true, decide_eq_true_eq, List.getElem?_nil, AV.cells, AV.tup, Bool.true_and, true_and, and_true, List.drop_nil, List.append_nil, rd_put, rd_alloc, rdO, St.get_put, St.get_alloc, St.next_put, St.next_alloc, St.wr, Bool.and_self, Bool.and_true, List.length_cons, List.length_nil, List.take_succ_cons, List.take_zero, List.drop_succ_cons, List.drop_zero, List.cons_append, List.nil_append, Nat.zero_add, Nat.add_zero, Nat.reduceMul, hrd, mc_len, mc5, y15, ha, w1, w2]
  refine .while (I10 f l t R o S) id (l + 1 - (a - 5 + 1)).toNat ⟨rfl, rfl, a - 5 + 1, 0, rfl, rfl, hR, by omega, by omega, rfl⟩ (by show (l + 1 - (a - 5 + 1)).toNat < k + 19; omega) ?_
  rintro m T S1 ⟨t0, rfl, i, s, t7, t6, hr, i0, i1, hm⟩
  by_cases c1 : i ≤ l
  · obtain ⟨n, hnn⟩ : ∃ n, (l + 1 - i).toNat = n + 1 := ⟨(l + 1 - i).toNat - 1, by omega⟩
    have hn2 : (l + 1 - (i + 1)).toNat = n := by omega
    rw [hnn] at hr
    simp only [rs] at hr
    have w3 : IntKind.i64.wrap (i + 1) = i + 1 := w64_id (by omega) (by omega)
    have w4 : IntKind.i64.wrap (l - 5) = l - 5 := w64_id (by omega) (by omega)
    by_cases c2 : 0 ≤ i
    · by_cases c3 : l - 5 < i
      · rw [if_pos ⟨c2, c3⟩] at hr
        have ht : Int.tmod i 5 = i % 5 := Int.tmod_eq_emod_of_nonneg c2
        obtain ⟨x, hx⟩ : ∃ x, i % 5 = x := ⟨_, rfl⟩
        have x0 : 0 ≤ x ∧ x < 5 := by omega
        have hix : ixOf (.int .i64 x) 5 = some x.toNat := ix_ok x0.1 (by omega)
        have h5 : ¬ ((5 : Int) = 0) := by decide
        have hle : x.toNat * 1 + 1 ≤ 7 := by omega
        have hget := mc_get f l t (show x.toNat < 5 by omega)
        rw [hx] at hr
        simp -implicitDefEqProofs -dsimp (maxSteps := 10000000) only [af10_l0, ↓goes_loop, ↓goes_seq, ↓goes_reg, ↓goes_dreg, ↓goes_preg, ↓goes_cond, ↓goes_block, ↓goes_skip, ↓goes_exit, ↓goes_ret, after_some, br_true, br_false, ↓then_normal, ↓then_exit, ↓then_ret, ↓blk_normal, ↓blk_exit, ↓blk_ret, ↓blk_other, ops_nil, ops_some, ops_none, oper_none, oper_some, gd_tt, gd_ff, gd_tf, gd_ft, gd_undef, ↓any_op, ↓any_call, ↓any_callV, ↓any_invoke, xo_t, xo_c, args_nil, args_cons, bin_add, bin_sub, bin_mul, bin_quo, bin_rem, bin_and, bin_or, bin_xor, bin_andNot, bin_eql, bin_neq, bin_lss, bin_leq, bin_gtr, bin_geq, bin_shl, bin_shr, bin_bools, bin_strs, bin_ptrs, bin_slices, bin_aggs, ↓Option.bind_some, ↓Option.map_some, ↓cond_true, ↓cond_false, evC, evOp, XO.lit, setArgs, Tr.get_set, Option.bind_some, Option.map_some, cond_true, cond_false, maxI, maxFrom, minI, minFrom, aConv, aBinE, aEq, eqScal, aUn, evRes, fin, oneOf, if_true, if_false, callee, reduceCtorEq, Nat.reduceEqDiff, and_self, decide_true, decide_false, beq_true, beq_false, Bool.not_true, Bool.not_false, List.getElem?_cons_zero, List.getElem?_cons_succ, beq_self_eq_true, gt_iff_lt, ble_dec, beq_dec, List.head?_cons, AV.undef, eq_self, ne_eq, not_true_eq_false, not_false_eq_true, Int.reduceLT, Int.reduceLE, Int.reduceToNat, Int.reduceEq, Int.reduceNeg, Nat.reduceAdd, Nat.reduceLT, Nat.reduceLeDiff, Nat.reduceMul, Nat.reduceSub, AV.cells, AV.tup, Bool.true_and, true_and, and_true, List.drop_nil, List.append_nil, rd_put, rd_alloc, rdO, St.get_put, St.get_alloc, St.next_put, St.next_alloc, St.wr, Bool.and_self, Bool.and_true, List.length_cons, List.length_nil, List.take_succ_cons, List.take_zero, List.drop_succ_cons, List.drop_zero, List.cons_append, List.nil_append, Nat.zero_add, Nat.add_zero, Nat.reduceMul, t0, t6, t7, c1, c2, c3, w3, w4, ht, hx, h5, hix, hrd, mc_len, mc5, hle, hget, y16]
        refine ⟨_, ⟨?_, rfl, i + 1, _, ?_, ?_, by rw [hn2]; exact hr, by omega, by omega, rfl⟩, by simp only [id]; omega⟩ <;>
          simp only [Tr.get_set, Nat.reduceEqDiff, if_false, if_true, t0]
      · rw [if_neg (fun h => c3 h.2)] at hr
        simp -implicitDefEqProofs -dsimp (maxSteps := 10000000) only [af10_l0, ↓goes_loop, ↓goes_seq, ↓goes_reg, ↓goes_dreg, ↓goes_preg, ↓goes_cond, ↓goes_block, ↓goes_skip, ↓goes_exit, ↓goes_ret, after_some, br_true, br_false, ↓then_normal, ↓then_exit, ↓then_ret, ↓blk_normal, ↓blk_exit, ↓blk_ret, ↓blk_other, ops_nil, ops_some, ops_none, oper_none, oper_some, gd_tt, gd_ff, gd_tf, gd_ft, gd_undef, ↓any_op, ↓any_call, ↓any_callV, ↓any_invoke, xo_t, xo_c, args_nil, args_cons, bin_add, bin_sub, bin_mul, bin_quo, bin_rem, bin_and, bin_or, bin_xor, bin_andNot, bin_eql, bin_neq, bin_lss, bin_leq, bin_gtr, bin_geq, bin_shl, bin_shr, bin_bools, bin_strs, bin_ptrs, bin_slices, bin_aggs, ↓Option.bind_some, ↓Option.map_some, ↓cond_true, ↓cond_false, evC, evOp, XO.lit, setArgs, Tr.get_set, Option.bind_some, Option.map_some, cond_true, cond_false, maxI, maxFrom, minI, minFrom, aConv, aBinE, aEq, eqScal, aUn, evRes, fin, oneOf, if_true, if_false, callee, reduceCtorEq, Nat.reduceEqDiff, and_self, decide_true, decide_false, beq_true, beq_false, Bool.not_true, Bool.not_false, List.getElem?_cons_zero, List.getElem?_cons_succ, beq_self_eq_true, gt_iff_lt, ble_dec, beq_dec, List.head?_cons, AV.undef, eq_self, ne_eq, not_true_eq_false, not_false_eq_true, Int.reduceLT, Int.reduceLE, Int.reduceToNat, Int.reduceEq, Int.reduceNeg, Nat.reduceAdd, Nat.reduceLT, Nat.reduceLeDiff, Nat.reduceMul, Nat.reduceSub, AV.cells, AV.tup, Bool.true_and, true_and, and_true, List.drop_nil, List.append_nil, rd_put, rd_alloc, rdO, St.get_put, St.get_alloc, St.next_put, St.next_alloc, St.wr, Bool.and_self, Bool.and_true, List.length_cons, List.length_nil, List.take_succ_cons, List.take_zero, List.drop_succ_cons, List.drop_zero, List.cons_append, List.nil_append, Nat.zero_add, Nat.add_zero, Nat.reduceMul, t0, t6, t7, c1, c2, c3, w3, w4, hrd, mc_len, mc5]
        refine ⟨_, ⟨?_, rfl, i + 1, s, ?_, ?_, by rw [hn2]; exact hr, by omega, by omega, rfl⟩, by simp only [id]; omega⟩ <;>
          simp only [Tr.get_set, Nat.reduceEqDiff, if_false, if_true, t0, t6]
    · rw [if_neg (fun h => c2 h.1)] at hr
      simp -implicitDefEqProofs -dsimp (maxSteps := 10000000) only [af10_l0, ↓goes_loop, ↓goes_seq, ↓goes_reg, ↓goes_dreg, ↓goes_preg, ↓goes_cond, ↓goes_block, ↓goes_skip, ↓goes_exit, ↓goes_ret, after_some, br_true, br_false, ↓then_normal, ↓then_exit, ↓then_ret, ↓blk_normal, ↓blk_exit, ↓blk_ret, ↓blk_other, ops_nil, ops_some, ops_none, oper_none, oper_some, gd_tt, gd_ff, gd_tf, gd_ft, gd_undef, ↓any_op, ↓any_call, ↓any_callV, ↓any_invoke, xo_t, xo_c, args_nil, args_cons, bin_add, bin_sub, bin_mul, bin_quo, bin_rem, bin_and, bin_or, bin_xor, bin_andNot, bin_eql, bin_neq, bin_lss, bin_leq, bin_gtr, bin_geq, bin_shl, bin_shr, bin_bools, bin_strs, bin_ptrs, bin_slices, bin_aggs, ↓Option.bind_some, ↓Option.map_some, ↓cond_true, ↓cond_false, evC, evOp, XO.lit, setArgs, Tr.get_set, Option.bind_some, Option.map_some, cond_true, cond_false, maxI, maxFrom, minI, minFrom, aConv, aBinE, aEq, eqScal, aUn, evRes, fin, oneOf, if_true, if_false, callee, reduceCtorEq, Nat.reduceEqDiff, and_self, decide_true, decide_false, beq_true, beq_false, Bool.not_true, Bool.not_false, List.getElem?_cons_zero, List.getElem?_cons_succ, beq_self_eq_true, gt_iff_lt, ble_dec, beq_dec, List.head?_cons, AV.undef, eq_self, ne_eq, not_true_eq_false, not_false_eq_true, Int.reduceLT, Int.reduceLE, Int.reduceToNat, Int.reduceEq, Int.reduceNeg, Nat.reduceAdd, Nat.reduceLT, Nat.reduceLeDiff, Nat.reduceMul, Nat.reduceSub, AV.cells, AV.tup, Bool.true_and, true_and, and_true, List.drop_nil, List.append_nil, rd_put, rd_alloc, rdO, St.get_put, St.get_alloc, St.next_put, St.next_alloc, St.wr, Bool.and_self, Bool.and_true, List.length_cons, List.length_nil, List.take_succ_cons, List.take_zero, List.drop_succ_cons, List.drop_zero, List.cons_append, List.nil_append, Nat.zero_add, Nat.add_zero, Nat.reduceMul, t0, t6, t7, c1, c2, w3, w4, hrd, mc_len, mc5]
      refine ⟨_, ⟨?_, rfl, i + 1, s, ?_, ?_, by rw [hn2]; exact hr, by omega, by omega, rfl⟩, by simp only [id]; omega⟩ <;>
        simp only [Tr.get_set, Nat.reduceEqDiff, if_false, if_true, t0, t6]
  · have h0 : (l + 1 - i).toNat = 0 := by omega
    rw [h0] at hr
    simp only [rs] at hr
    subst hr
    simp -implicitDefEqProofs -dsimp (maxSteps := 10000000) only [af10_l0, ↓goes_loop, ↓goes_seq, ↓goes_reg, ↓goes_dreg, ↓goes_preg, ↓goes_cond, ↓goes_block, ↓goes_skip, ↓goes_exit, ↓goes_ret, after_some, br_true, br_false, ↓then_normal, ↓then_exit, ↓then_ret, ↓blk_normal, ↓blk_exit, ↓blk_ret, ↓blk_other, ops_nil, ops_some, ops_none, oper_none, oper_some, gd_tt, gd_ff, gd_tf, gd_ft, gd_undef, ↓any_op, ↓any_call, ↓any_callV, ↓any_invoke, xo_t, xo_c, args_nil, args_cons, bin_add, bin_sub, bin_mul, bin_quo, bin_rem, bin_and, bin_or, bin_xor, bin_andNot, bin_eql, bin_neq, bin_lss, bin_leq, bin_gtr, bin_geq, bin_shl, bin_shr, bin_bools, bin_strs, bin_ptrs, bin_slices, bin_aggs, ↓Option.bind_some, ↓Option.map_some, ↓cond_true, ↓cond_false, evC, evOp, XO.lit, setArgs, Tr.get_set, Option.bind_some, Option.map_some, cond_true, cond_false, maxI, maxFrom, minI, minFrom, aConv, aBinE, aEq, eqScal, aUn, evRes, fin, oneOf, if_true, if_false, callee, reduceCtorEq, Nat.reduceEqDiff, and_self, decide_true, decide_false, beq_true, beq_false, Bool.not_true, Bool.not_false, List.getElem?_cons_zero, List.getElem?_cons_succ, beq_self_eq_true, gt_iff_lt, ble_dec, beq_dec, List.head?_cons, AV.undef, eq_self, ne_eq, not_true_eq_false, not_false_eq_true, Int.reduceLT, Int.reduceLE, Int.reduceToNat, Int.reduceEq, Int.reduceNeg, Nat.reduceAdd, Nat.reduceLT, Nat.reduceLeDiff, Nat.reduceMul, Nat.reduceSub, AV.cells, AV.tup, Bool.true_and, true_and, and_true, List.drop_nil, List.append_nil, rd_put, rd_alloc, rdO, St.get_put, St.get_alloc, St.next_put, St.next_alloc, St.wr, Bool.and_self, Bool.and_true, List.length_cons, List.length_nil, List.take_succ_cons, List.take_zero, List.drop_succ_cons, List.drop_zero, List.cons_append, List.nil_append, Nat.zero_add, Nat.add_zero, Nat.reduceMul, t0, t6, t7, c1, hrd, mc_len, mc5, y18, y17]
    exact ⟨_, _, rfl, rfl, rfl⟩
theorem T12 (k : Nat) {S : St} {o : Nat} {f : Nat → Int} {l t : Int} (hS : S.get o = some (mt f l t)) : evF Y AP (k + 4) 12 [pt o] S = some (.int .i64 t, S) := by
  rw [evF_body (af := af12) rfl rfl rfl]
  have hrd : ∀ v i m, S.rd o v i m = rdO (mt f l t) v i m := rd_of hS
  simp -implicitDefEqProofs -dsimp (maxSteps := 10000000) only [af12, ops_nil, ops_some, ops_none, oper_none, oper_some, gd_tt, gd_ff, gd_tf, gd_ft, gd_undef, ↓any_op, ↓any_call, ↓any_callV, ↓any_invoke, xo_t, xo_c, args_nil, args_cons, bin_add, bin_sub, bin_mul, bin_quo, bin_rem, bin_and, bin_or, bin_xor, bin_andNot, bin_eql, bin_neq, bin_lss, bin_leq, bin_gtr, bin_geq, bin_shl, bin_shr, bin_bools, bin_strs, bin_ptrs, bin_slices, bin_aggs, ↓Option.bind_some, ↓Option.map_some, ↓cond_true, ↓cond_false, evC, evOp, XO.lit, setArgs, Tr.tabG, Tr.tabS, Tr.tabL, Tr.get_lf, Option.bind_some, Option.map_some, cond_true, cond_false, maxI, maxFrom, minI, minFrom, aConv, aBinE, aEq, eqScal, aUn, evRes, fin, oneOf, if_true, if_false, callee, reduceCtorEq, Nat.reduceEqDiff, and_self, decide_true, decide_false, beq_true, beq_false, Bool.not_true, Bool.not_false, List.getElem?_cons_zero, List.getElem?_cons_succ, beq_self_eq_true, gt_iff_lt, ble_dec, beq_dec, List.head?_cons, AV.undef, eq_self, ne_eq, not_true_eq_false, not_false_eq_true, Int.reduceLT, Int.reduceLE, Int.reduceToNat, Int.reduceEq, Int.reduceNeg, Nat.reduceAdd, Nat.reduceLT, Nat.reduceLeDiff, Nat.reduceMul, Nat.reduceSub, AV.cells, AV.tup, Bool.true_and, true_and, and_true, List.drop_nil, List.append_nil, rd_put, rd_alloc, rdO, St.get_put, St.get_alloc, St.next_put, St.next_alloc, St.wr, Bool.and_self, Bool.and_true, List.length_cons, List.length_nil, List.take_succ_cons, List.take_zero, List.drop_succ_cons, List.drop_zero, List.cons_append, List.nil_append, Nat.zero_add, Nat.add_zero, Nat.reduceMul, hrd, mc_len, mc6]
def zf : Nat → Int := fun _ => 0
theorem T8 (k : Nat) (S : St) : evF Y AP (k + 4) 8 [] S = some (pt S.next, S.alloc (mt zf 0 0)) := by
  rw [evF_body (af := af8) rfl rfl rfl]
  rfl
end Go.Proofs.YtinnclcheekhpaaA
