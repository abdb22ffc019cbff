/- Chapter 21: the reference's Packet; packets held against packets; how the two states stand. -/
import Derived.Test.YtdppaegnmdiheaaWrF
set_option linter.unusedVariables false
set_option linter.unusedSimpArgs false
set_option maxRecDepth 10000
namespace Go.Proofs.YtdppaegnmdiheaaA
open Go.RowKit
attribute [local congr] bind_congr1 map_congr1 cond_congr1 withX_congr after_congr br_congr gd_congr

def Prd (o : Nat) (r : Option Rf) (mk : Bool) (ty : Int) (pl : List Nat) (S : St) (v : AV) (S' : St) : Prop :=
  match r with
  | none => v = .tuple [.agg rtp0, .bool false] ∧ Ext S S'
  | some x' => ∃ u, v = .tuple [.agg (rtp mk ty (x'.n % 65536) (x'.p % 4294967296) x'.s u), .bool true] ∧ Mut S S' o (rf x') ∧ Bs S' u pl
set_option maxHeartbeats 4000000 in
theorem T26 (k : Nat) {o : Nat} {x : Rf} {S : St} (hS : S.get o = some (rf x)) (ho : o < S.next) {L E ty sq tm ss pf : Int} {K mk : Bool} {cs ex : AV} (h0 : 0 ≤ tm) (h1 : tm < 4294967296)
    {o1 v1 i1 : Nat} {c : Option Nat} {pl : List Nat} (hp : By S (some (o1, v1, i1)) 1 pl) (hne : ¬ o1 = o) (hr : pl.length ≤ 1000000) :
    ∃ v S', evF Y AP (k + 10) 26 [pr o, .int .i64 L, .int .i64 E, .bool K, .agg (rin mk ty sq tm ss cs pf ex (.slice (some (o1, v1, i1)) pl.length 1 c))] S = some (v, S') ∧ Prd o (pkR x L E K tm) mk ty pl S v S' := by
  refine evF_goes (af := af26) (k := k + 9) rfl rfl rfl ?_
  rw [body26]
  have n1 : ¬ o = S.next := by omega
  have n2 : ¬ o = S.next + 1 := by omega
  rw [goes_seq]
  simp -implicitDefEqProofs -dsimp (maxSteps := 10000000) only [r26, af26, ↓goes_reg, after_some, ↓then_normal, ops_nil, ops_some, ops_none, oper_none, oper_some, gd_tt, gd_ff, gd_tf, gd_ft, gd_undef, ↓any_op, ↓any_call, ↓any_callV, ↓any_invoke, xo_t, xo_c, args_nil, args_cons, bin_add, bin_sub, bin_mul, bin_quo, bin_rem, bin_and, bin_or, bin_xor, bin_andNot, bin_eql, bin_neq, bin_lss, bin_leq, bin_gtr, bin_geq, bin_shl, bin_shr, bin_bools, bin_strs, bin_ptrs, bin_slices, bin_aggs, ↓Option.bind_some, ↓Option.map_some, ↓cond_true, ↓cond_false, evC, evOp, XO.lit, setArgs, Tr.tabG, Tr.tabS, Tr.tabL, Tr.get_lf, Option.bind_some, Option.map_some, cond_true, cond_false, maxI, maxFrom, minI, minFrom, aConv, aBinE, aEq, eqScal, aUn, evRes, fin, oneOf, if_true, if_false, callee, reduceCtorEq, Nat.reduceEqDiff, and_self, decide_true, decide_false, beq_true, beq_false, Bool.not_true, Bool.not_false, List.getElem?_cons_zero, List.getElem?_cons_succ, beq_self_eq_true, gt_iff_lt, ble_dec, beq_dec, List.head?_cons, AV.undef, eq_self, ne_eq, not_true_eq_false, not_false_eq_true, Int.reduceLT, Int.reduceLE, Int.reduceToNat, Int.reduceEq, Int.reduceNeg, Nat.reduceAdd, Nat.reduceLT, Nat.reduceLeDiff, Nat.reduceMul, Nat.reduceSub, aFill, evParts, rep, List.replicate_succ, List.replicate_zero, List.flatten_cons, List.flatten_nil, List.append_nil, newSl, newVar, rin, AV.tup, AV.cells, List.length_cons, List.length_nil, St.next_alloc]
  obtain ⟨S2, hS2⟩ : ∃ S2, (S.alloc (.cells (rin mk ty sq tm ss cs pf ex (.slice (some (o1, v1, i1)) pl.length 1 c)) 0 0 true)).alloc (.cells rtp0 0 0 true) = S2 := ⟨_, rfl⟩
  have e2 : Ext S S2 := hS2 ▸ (Ext.alloc S _).then_alloc _
  have nx : S2.next = S.next + 1 + 1 := by rw [← hS2]; rfl
  have g1 : S2.get o = some (rf x) := e2.get ho hS
  have g2 : S2.get S.next = some (.cells (rin mk ty sq tm ss cs pf ex (.slice (some (o1, v1, i1)) pl.length 1 c)) 0 0 true) := by
    rw [← hS2, St.get_alloc, if_neg (by simp only [St.next_alloc]; omega), St.get_alloc, if_pos rfl]
  have g3 : S2.get (S.next + 1) = some (.cells rtp0 0 0 true) := by
    rw [← hS2, St.get_alloc, if_pos (by simp only [St.next_alloc])]
  have hS2' : (S.alloc (.cells [.bool mk, .int .i64 ty, .int .u16 sq, .int .u32 tm, .int .u32 ss, cs, .int .u16 pf, ex, .slice (some (o1, v1, i1)) pl.length 1 c] 0 0 true)).alloc (.cells [.bool false, .int .i64 0, .int .u16 0, .int .u32 0, .int .u32 0, .slice none 0 0 none, .int .u16 0, .slice none 0 0 none, .slice none 0 0 none] 0 0 true) = S2 := hS2
  rw [hS2']
  refine blk26 k h0 h1 (ty := ty) (sq := sq) (ss := ss) (mk := mk) (cs := cs) (pf := pf) (ex := ex) (pl := .slice (some (o1, v1, i1)) pl.length 1 c) (o := o) (q := S.next) (x := x) (L := L) (E := E) (K := K) ⟨rfl, rfl, rfl, rfl, rfl, rfl, rfl, g1, g2, g3, ho, by omega⟩ ?_ ?_
  · intro hk T' S' t10 t11 u
    have hrd : ∀ v i m, S'.rd (S.next + 1) v i m = rdO (.cells rtp0 0 0 true) v i m := rd_of u.same
    simp -implicitDefEqProofs -dsimp (maxSteps := 10000000) only [↓goes_loop, ↓goes_seq, ↓goes_reg, ↓goes_dreg, ↓goes_cond, ↓goes_block, ↓goes_skip, ↓goes_exit, ↓goes_ret, after_some, br_true, br_false, ↓then_normal, ↓then_exit, ↓then_ret, ↓blk_normal, ↓blk_exit, ↓blk_ret, ↓blk_other, ops_nil, ops_some, ops_none, oper_none, oper_some, gd_tt, gd_ff, gd_tf, gd_ft, gd_undef, ↓any_op, ↓any_call, ↓any_callV, ↓any_invoke, xo_t, xo_c, args_nil, args_cons, bin_add, bin_sub, bin_mul, bin_quo, bin_rem, bin_and, bin_or, bin_xor, bin_andNot, bin_eql, bin_neq, bin_lss, bin_leq, bin_gtr, bin_geq, bin_shl, bin_shr, bin_bools, bin_strs, bin_ptrs, bin_slices, bin_aggs, ↓Option.bind_some, ↓Option.map_some, ↓cond_true, ↓cond_false, evC, evOp, XO.lit, setArgs, Tr.get_set, Option.bind_some, Option.map_some, cond_true, cond_false, maxI, maxFrom, minI, minFrom, aConv, aBinE, aEq, eqScal, aUn, evRes, fin, oneOf, if_true, if_false, callee, reduceCtorEq, Nat.reduceEqDiff, and_self, decide_true, decide_false, beq_true, beq_false, Bool.not_true, Bool.not_false, List.getElem?_cons_zero, List.getElem?_cons_succ, beq_self_eq_true, gt_iff_lt, ble_dec, beq_dec, List.head?_cons, AV.undef, eq_self, ne_eq, not_true_eq_false, not_false_eq_true, Int.reduceLT, Int.reduceLE, Int.reduceToNat, Int.reduceEq, Int.reduceNeg, Nat.reduceAdd, Nat.reduceLT, Nat.reduceLeDiff, Nat.reduceMul, Nat.reduceSub, AV.cells, AV.tup, Bool.true_and, true_and, and_true, List.drop_nil, List.append_nil, rd_put, rd_alloc, rdO, St.get_put, St.get_alloc, St.next_put, St.next_alloc, St.wr, Bool.and_self, Bool.and_true, List.length_cons, List.length_nil, List.take_succ_cons, List.take_zero, List.drop_succ_cons, List.drop_zero, List.cons_append, List.nil_append, Nat.zero_add, Nat.add_zero, Nat.reduceMul, t10, t11, hrd, rtp0]
    refine ⟨_, _, rfl, ?_⟩
    unfold Prd
    rw [hk]
    exact ⟨rfl, u.ext e2 (by omega)⟩
  · intro x' hk T' S' t0 t9 t10 m
    have hp2 := (hp.ext e2).mut m (fun o' v i h => by cases h; exact hne)
    obtain ⟨h4, h5⟩ := hp2.at_ _ _ _ rfl
    obtain ⟨p', e', S3, h3, g⟩ := (Gr.empty S').app hp2.bd (by simp only [List.length_nil]; omega)
    rw [List.nil_append] at h3 g
    simp only [List.length_nil] at h3
    obtain ⟨B1, hB1⟩ : ∃ B1, S'.alloc (.cells [] 0 0 true) = B1 := ⟨_, rfl⟩
    have eB : Ext S' B1 := by rw [← hB1]; exact .alloc _ _
    rw [hB1] at h3
    have h6 : B1.rd o1 v1 i1 pl.length = some (bv pl) := by rw [eB.rd h4]; exact h5
    have lt1 := m.next
    have gp : S'.get S.next = some (.cells (rin mk ty sq tm ss cs pf ex (.slice (some (o1, v1, i1)) pl.length 1 c)) 0 0 true) := by rw [m.old _ (by omega) (by omega)]; exact g2
    have gr : S'.get (S.next + 1) = some (.cells rtp0 0 0 true) := by rw [m.old _ (by omega) (by omega)]; exact g3
    have hrp : ∀ v i m, S'.rd S.next v i m = rdO (.cells (rin mk ty sq tm ss cs pf ex (.slice (some (o1, v1, i1)) pl.length 1 c)) 0 0 true) v i m := rd_of gp
    have hrw : ∀ v i m, S'.rd o v i m = rdO (rf x') v i m := rd_of m.get
    have hrpB : ∀ v i m, B1.rd S.next v i m = rdO (.cells (rin mk ty sq tm ss cs pf ex (.slice (some (o1, v1, i1)) pl.length 1 c)) 0 0 true) v i m := rd_of (eB.get (by omega) gp)
    have hrwB : ∀ v i m, B1.rd o v i m = rdO (rf x') v i m := rd_of (eB.get (by omega) m.get)
    have hrp3 : ∀ v i m, S3.rd S.next v i m = rdO (.cells (rin mk ty sq tm ss cs pf ex (.slice (some (o1, v1, i1)) pl.length 1 c)) 0 0 true) v i m := rd_of (g.ext.get (by omega) gp)
    have hrw3 : ∀ v i m, S3.rd o v i m = rdO (rf x') v i m := rd_of (g.ext.get (by omega) m.get)
    have gr3 : S3.get (S.next + 1) = some (.cells rtp0 0 0 true) := g.ext.get (by omega) gr
    have nS : ¬ S.next = S'.next := by omega
    have nO : ¬ o = S'.next := by omega
    have nP : ¬ o1 = S'.next := by omega
    simp -implicitDefEqProofs -dsimp (maxSteps := 10000000) only [f26, af26, nS, nO, nP, h5, ↓goes_loop, ↓goes_seq, ↓goes_reg, ↓goes_dreg, ↓goes_cond, ↓goes_block, ↓goes_skip, ↓goes_exit, ↓goes_ret, after_some, br_true, br_false, ↓then_normal, ↓then_exit, ↓then_ret, ↓blk_normal, ↓blk_exit, ↓blk_ret, ↓blk_other, ops_nil, ops_some, ops_none, oper_none, oper_some, gd_tt, gd_ff, gd_tf, gd_ft, gd_undef, ↓any_op, ↓any_call, ↓any_callV, ↓any_invoke, xo_t, xo_c, args_nil, args_cons, bin_add, bin_sub, bin_mul, bin_quo, bin_rem, bin_and, bin_or, bin_xor, bin_andNot, bin_eql, bin_neq, bin_lss, bin_leq, bin_gtr, bin_geq, bin_shl, bin_shr, bin_bools, bin_strs, bin_ptrs, bin_slices, bin_aggs, ↓Option.bind_some, ↓Option.map_some, ↓cond_true, ↓cond_false, evC, evOp, XO.lit, setArgs, Tr.get_set, Option.bind_some, Option.map_some, cond_true, cond_false, maxI, maxFrom, minI, minFrom, aConv, aBinE, aEq, eqScal, aUn, evRes, fin, oneOf, if_true, if_false, callee, reduceCtorEq, Nat.reduceEqDiff, and_self, decide_true, decide_false, beq_true, beq_false, Bool.not_true, Bool.not_false, List.getElem?_cons_zero, List.getElem?_cons_succ, beq_self_eq_true, gt_iff_lt, ble_dec, beq_dec, List.head?_cons, AV.undef, eq_self, ne_eq, not_true_eq_false, not_false_eq_true, Int.reduceLT, Int.reduceLE, Int.reduceToNat, Int.reduceEq, Int.reduceNeg, Nat.reduceAdd, Nat.reduceLT, Nat.reduceLeDiff, Nat.reduceMul, Nat.reduceSub, ↓evDraw_nil, putD, evDraw, trace, List.all_cons, List.all_nil, chk, stAt, again, sameV, sameA, AV.undef, Bool.and_self, Bool.and_true, decide_eq_true_eq, List.getElem?_nil, AV.cells, AV.tup, Bool.true_and, true_and, and_true, List.drop_nil, List.append_nil, rd_put, rd_alloc, rdO, St.get_put, St.get_alloc, St.next_put, St.next_alloc, St.wr, Bool.and_self, Bool.and_true, List.length_cons, List.length_nil, List.take_succ_cons, List.take_zero, List.drop_succ_cons, List.drop_zero, List.cons_append, List.nil_append, Nat.zero_add, Nat.add_zero, Nat.reduceMul, aFill, evParts, rep, List.replicate_succ, List.replicate_zero, List.flatten_cons, List.flatten_nil, List.append_nil, newSl, newVar, t0, t9, t10, hrp, hrw, hB1, hrpB, hrwB, hrp3, hrw3, gr3, rin, rtp0, rf, h3, h6, Nat.mul_one, Nat.zero_mul, wrap_u16, IntKind.wrap_u32]
    have m3 : Mut S S3 o (rf x') := ((Mut.of_ext e2 hS ho).trans m).then_ext ho g.ext
    refine ⟨_, _, rfl, ?_⟩
    unfold Prd
    rw [hk]
    refine ⟨_, rfl, ?_, ?_⟩
    · exact ⟨Nat.le_trans m3.next (by simp only [St.next_put]; exact Nat.le_refl _), by rw [St.get_put, if_neg (by omega)]; exact m3.get, fun j hj hn => by rw [St.get_put, if_neg (by omega)]; exact m3.old j hj hn⟩
    · refine ⟨p', e', none, rfl, (g.by_ (by omega)).mut (Mut.of_upd (Upd.one S3 (S.next + 1) _)) fun o' v i hp' => ?_⟩
      have := g.new o' v i hp'
      omega
section
variable {S : St} (k : Nat)
set_option maxHeartbeats 4000000 in
theorem T27 {u v : AV} {pl : List Nat} {mk : Bool} {ty sq tm ss : Int} (hu : Bs S u pl) (hv : Bs S v pl) :
    ∃ S', evF Y AP (k + 4) 27 [.agg (rtp mk ty sq tm ss u), .agg (rtp mk ty sq tm ss v)] S = some (.bool true, S') ∧ Ext S S' := by
  obtain ⟨S2, hS2⟩ : ∃ S2, (S.alloc (.cells (rtp mk ty sq tm ss u) 0 0 true)).alloc (.cells (rtp mk ty sq tm ss v) 0 0 true) = S2 := ⟨_, rfl⟩
  have e2 : Ext S S2 := hS2 ▸ (Ext.alloc S _).then_alloc _
  have g2 : S2.get S.next = some (.cells (rtp mk ty sq tm ss u) 0 0 true) := by
    rw [← hS2, St.get_alloc, if_neg (by simp only [St.next_alloc]; omega), St.get_alloc, if_pos rfl]
  have g3 : S2.get (S.next + 1) = some (.cells (rtp mk ty sq tm ss v) 0 0 true) := by
    rw [← hS2, St.get_alloc, if_pos (by simp only [St.next_alloc])]
  have r2 : ∀ v' i m, S2.rd S.next v' i m = rdO (.cells (rtp mk ty sq tm ss u) 0 0 true) v' i m := rd_of g2
  have r3 : ∀ v' i m, S2.rd (S.next + 1) v' i m = rdO (.cells (rtp mk ty sq tm ss v) 0 0 true) v' i m := rd_of g3
  have s1 := (hu.ext e2).str
  have s2 := (hv.ext e2).str
  refine ⟨S2, ?_, e2⟩
  rw [evF_body (af := af27) rfl rfl rfl]
  have hS2' : (S.alloc (.cells [.bool mk, .int .i64 ty, .int .u16 sq, .int .u32 tm, .int .u32 ss, .slice none 0 0 none, .int .u16 0, .slice none 0 0 none, u] 0 0 true)).alloc (.cells [.bool mk, .int .i64 ty, .int .u16 sq, .int .u32 tm, .int .u32 ss, .slice none 0 0 none, .int .u16 0, .slice none 0 0 none, v] 0 0 true) = S2 := hS2
  have z : (0 : Nat) ≤ 9223372036854775807 := by omega
  have z0 : ((0 : Nat) : Int) = 0 := rfl
  simp -implicitDefEqProofs -dsimp (maxSteps := 10000000) only [af27, ops_nil, ops_some, ops_none, oper_none, oper_some, gd_tt, gd_ff, gd_tf, gd_ft, gd_undef, ↓any_op, ↓any_call, ↓any_callV, ↓any_invoke, xo_t, xo_c, args_nil, args_cons, bin_add, bin_sub, bin_mul, bin_quo, bin_rem, bin_and, bin_or, bin_xor, bin_andNot, bin_eql, bin_neq, bin_lss, bin_leq, bin_gtr, bin_geq, bin_shl, bin_shr, bin_bools, bin_strs, bin_ptrs, bin_slices, bin_aggs, ↓Option.bind_some, ↓Option.map_some, ↓cond_true, ↓cond_false, evC, evOp, XO.lit, setArgs, Tr.tabG, Tr.tabS, Tr.tabL, Tr.get_lf, Option.bind_some, Option.map_some, cond_true, cond_false, maxI, maxFrom, minI, minFrom, aBinE, aEq, eqScal, aUn, evRes, fin, oneOf, if_true, if_false, callee, reduceCtorEq, Nat.reduceEqDiff, and_self, decide_true, decide_false, beq_true, beq_false, Bool.not_true, Bool.not_false, List.getElem?_cons_zero, List.getElem?_cons_succ, beq_self_eq_true, gt_iff_lt, ble_dec, beq_dec, List.head?_cons, AV.undef, eq_self, ne_eq, not_true_eq_false, not_false_eq_true, Int.reduceLT, Int.reduceLE, Int.reduceToNat, Int.reduceEq, Int.reduceNeg, Nat.reduceAdd, Nat.reduceLT, Nat.reduceLeDiff, Nat.reduceMul, Nat.reduceSub, ↓evDraw_nil, putD, evDraw, trace, List.all_cons, List.all_nil, chk, stAt, again, sameV, sameA, AV.undef, Bool.and_self, Bool.and_true, decide_eq_true_eq, List.getElem?_nil, AV.cells, AV.tup, Bool.true_and, true_and, and_true, List.drop_nil, List.append_nil, rd_put, rd_alloc, rdO, St.get_put, St.get_alloc, St.next_put, St.next_alloc, St.wr, Bool.and_self, Bool.and_true, List.length_cons, List.length_nil, List.take_succ_cons, List.take_zero, List.drop_succ_cons, List.drop_zero, List.cons_append, List.nil_append, Nat.zero_add, Nat.add_zero, Nat.reduceMul, aFill, evParts, rep, List.replicate_succ, List.replicate_zero, List.flatten_cons, List.flatten_nil, List.append_nil, newSl, newVar, rtp, hS2', r2, r3, s1, s2, aStr, eqStr_refl, z, z0]
end
/-! ### How the two stand -/
theorem stp_bd {t n : Int} (h0 : 0 ≤ t) (h1 : t < 1125899906842624) (n0 : 0 ≤ n) (n1 : n < 4294967296) : 0 ≤ stp t n ∧ stp t n ≤ t + 4294967296 := by
  unfold stp ext
  rw [if_neg (by omega)]
  dsimp only
  split <;> split <;> omega
structure RL (j : Int) (x : Wr) (r : Rf) : Prop where
  s : r.s = x.s
  l : r.l = x.l
  w : r.w = x.w
  c : r.c = x.c
  n : r.n = x.n
  b : r.b = decide (0 ≤ x.n)
  n0 : -1 ≤ x.n
  n1 : x.n ≤ 281474976710656 * j
  i0 : 0 ≤ x.i
  i1 : x.i ≤ 140737488355328
  bg : 0 ≤ x.n → r.p = x.p ∧ r.i = x.i ∧ 0 ≤ x.p ∧ x.p ≤ 8589934592 * j
  nb : x.n < 0 → r.p = -1 ∧ x.l = -1
  go : ¬ x.l = -1 → 0 ≤ x.l ∧ 0 ≤ x.n ∧ r.h = x.n - x.i ∧ r.t = x.t ∧ r.u = x.h ∧ 0 ≤ x.t ∧ x.t ≤ 8589934592 * j ∧ -4294967296 ≤ x.h ∧ x.t + x.h ≤ 8589934592 * j
theorem RL.more {j : Int} {x : Wr} {r : Rf} (h : RL j x r) : RL (j + 1) x r :=
  ⟨h.s, h.l, h.w, h.c, h.n, h.b, h.n0, by have := h.n1; omega, h.i0, h.i1, fun a => by obtain ⟨a, b, c, d⟩ := h.bg a; exact ⟨a, b, c, by omega⟩, h.nb, fun a => by
    obtain ⟨a, b, c, d, e, f, g, i, l⟩ := h.go a; exact ⟨a, b, c, d, e, f, by omega, i, by omega⟩⟩
theorem mx_same (n : Int) : mxn n = mx1 n := by unfold mxn mx1; split <;> split <;> omega
theorem mx1_bd (n : Int) : -1 ≤ mx1 n := by unfold mx1; split <;> omega
theorem RL.want {j : Int} {x : Wr} {r : Rf} (h : RL j x r) (n : Int) : wantC r n = wantB x n ∧ RL j (wantW x n) (wantR r n) := by
  have hb := mx1_bd n
  constructor
  · unfold wantC wantB
    rw [mx_same, h.w]
    congr 1
    exact decide_eq_decide.2 (by omega)
  · obtain ⟨s, l, w, c, n', b, n0, n1, i0, i1, bg, nb, go⟩ := h
    refine ⟨s, by simp only [wantR, wantW, mx_same, l], by simp only [wantR, wantW, mx_same], c, n', b, n0, n1, i0, i1, bg, fun h => ⟨(nb h).1, ?_⟩, fun hn => ?_⟩
    · have := (nb h).2
      simp only [wantW, this]; split <;> rfl
    · simp only [wantW] at hn ⊢
      by_cases hl : x.l = mx1 n
      · rw [if_pos hl] at hn ⊢; exact go hn
      · rw [if_neg hl] at hn; exact absurd rfl hn
theorem RL.lost {j : Int} {x : Wr} {r : Rf} (h : RL j x r) : RL j { x with l := -1 } { r with l := -1 } := by
  obtain ⟨s, l, w, c, n', b, n0, n1, i0, i1, bg, nb, go⟩ := h
  exact ⟨s, rfl, w, c, n', b, n0, n1, i0, i1, bg, fun h => ⟨(nb h).1, rfl⟩, fun hn => absurd rfl hn⟩
/-- Both go on alike. -/
theorem RL.step {j : Int} {x : Wr} {r : Rf} (h : RL j x r) (j0 : 0 ≤ j) (j1 : j ≤ 121) {L E tm : Int} {K : Bool} (hE : E ≤ 140737488355328) (t0 : 0 ≤ tm) (t1 : tm < 4294967296) :
    (pkW x L E K tm = none ∧ pkR r L E K tm = none) ∨ ∃ x' r', pkW x L E K tm = some x' ∧ pkR r L E K tm = some r' ∧ RL (j + 1) x' r' := by
  obtain ⟨s, l, w, c, n', b, n0, n1, i0, i1, bg, nb, go⟩ := h
  unfold pkW pkR
  rw [w, l]
  by_cases c1 : L < 0 ∨ ¬ L = x.w ∨ E < 0
  · rw [if_pos c1, if_pos c1]; exact .inl ⟨rfl, rfl⟩
  rw [if_neg c1, if_neg c1]
  by_cases c2 : L = x.l
  · obtain ⟨g1, g2, g3, g4, g5, g6, g7, g8, g9⟩ := go (by omega)
    obtain ⟨b1, b2, b3, b4⟩ := bg g2
    rw [if_pos c2, if_neg (not_not_intro c2.symm), b2]
    by_cases c3 : E ≤ x.i
    · rw [if_pos c3, if_pos c3]; exact .inl ⟨rfl, rfl⟩
    rw [if_neg c3, if_neg c3]
    refine .inr ⟨_, _, rfl, rfl, ?_⟩
    have hs := stp_bd g6 (by omega) t0 t1
    have w1 : IntKind.i64.wrap (E - x.i) = E - x.i := w64_id (by omega) (by omega)
    have sn : sat x.n (E - x.i) = x.n + (E - x.i) := sat_ok g2 (by omega) (by omega)
    have w2 : IntKind.i64.wrap (stp x.t tm + x.h) = stp x.t tm + x.h := w64_id (by omega) (by omega)
    have w3 : IntKind.i64.wrap (E + (x.n - x.i)) = x.n + (E - x.i) := by rw [w64_id (by omega) (by omega)]; omega
    have e1 : goW x E tm = ⟨x.s, x.l, x.w, x.c, x.n + (E - x.i), mxi x.p (stp x.t tm + x.h), E, stp x.t tm, x.h⟩ := by simp only [goW, w1, sn, w2]
    have e2 : comR ⟨r.s, x.l, x.w, r.c, r.n, r.p, x.i, stp r.t tm, r.h, r.u, r.b⟩ E = ⟨x.s, x.l, x.w, x.c, x.n + (E - x.i), mxi x.p (stp x.t tm + x.h), E, stp x.t tm, x.n - x.i, x.h, true⟩ := by
      simp only [comR, g3, g4, g5, b1, w2, w3, s, c]
    rw [e1, e2]
    have m1 : 0 ≤ mxi x.p (stp x.t tm + x.h) ∧ mxi x.p (stp x.t tm + x.h) ≤ 8589934592 * (j + 1) := by unfold mxi; split <;> omega
    refine ⟨rfl, rfl, rfl, rfl, rfl, ?_, ?_, ?_, ?_, hE, fun _ => ⟨rfl, rfl, m1.1, m1.2⟩, ?_, fun _ => ⟨g1, ?_, ?_, rfl, rfl, hs.1, ?_, g8, ?_⟩⟩
    · show true = decide (0 ≤ x.n + (E - x.i)); rw [decide_eq_true (by omega)]
    · show -1 ≤ x.n + (E - x.i); omega
    · show x.n + (E - x.i) ≤ _; omega
    · show 0 ≤ E; omega
    · intro h; exfalso; have : x.n + (E - x.i) < 0 := h; omega
    · show 0 ≤ x.n + (E - x.i); omega
    · show x.n - x.i = x.n + (E - x.i) - E; omega
    · show stp x.t tm ≤ _; omega
    · show stp x.t tm + x.h ≤ _; omega
  · rw [if_neg c2, if_pos (fun h => c2 h.symm)]
    cases K with
    | false => rw [if_neg (by simp), if_neg (by simp)]; exact .inl ⟨rfl, rfl⟩
    | true =>
      rw [if_pos rfl, if_pos rfl]
      refine .inr ⟨_, _, rfl, rfl, ?_⟩
      have sn : nxt x.n = x.n + 1 := by
        unfold nxt
        split
        · omega
        · exact sat_ok (by omega) (by omega) (by omega)
      have w1 : IntKind.i64.wrap (x.n + 1) = x.n + 1 := w64_id (by omega) (by omega)
      have w2 : IntKind.i64.wrap (x.n + 1 - E) = x.n + 1 - E := w64_id (by omega) (by omega)
      have w3 : IntKind.i64.wrap (E + (x.n + 1 - E)) = x.n + 1 := by rw [w64_id (by omega) (by omega)]; omega
      have b9 : decide (0 ≤ x.n + 1) = true := decide_eq_true (by omega)
      by_cases c4 : 0 ≤ x.n
      · obtain ⟨b1, b2, b3, b4⟩ := bg c4
        have sp : sat x.p 1 = x.p + 1 := sat_ok b3 (by omega) (by omega)
        have w4 : IntKind.i64.wrap (x.p + 1) = x.p + 1 := w64_id (by omega) (by omega)
        have w5 : IntKind.i64.wrap (x.p + 1 - tm) = x.p + 1 - tm := w64_id (by omega) (by omega)
        have w6 : IntKind.i64.wrap (tm + (x.p + 1 - tm)) = x.p + 1 := by rw [w64_id (by omega) (by omega)]; omega
        have m1 : mxi x.p (x.p + 1) = x.p + 1 := by unfold mxi; rw [if_pos (by omega)]
        have e1 : begW x L E tm = ⟨x.s, L, x.w, IntKind.i64.wrap (x.c + 1), x.n + 1, x.p + 1, E, tm, x.p + 1 - tm⟩ := by simp only [begW, sn, if_pos c4, sp, w5]
        have hb : r.b = true := by rw [b]; exact decide_eq_true c4
        have e2 : comR (begR r L E tm) E = ⟨x.s, L, x.w, IntKind.i64.wrap (x.c + 1), x.n + 1, x.p + 1, E, tm, x.n + 1 - E, x.p + 1 - tm, true⟩ := by
          simp only [comR, begR, hb, if_true, n', b1, w1, w2, w3, w4, w5, w6, m1, s, w, c]
        rw [e1, e2]
        refine ⟨rfl, rfl, rfl, rfl, rfl, b9.symm, ?_, ?_, ?_, hE, fun _ => ⟨rfl, rfl, ?_, ?_⟩, fun h => ?_, fun _ => ⟨?_, ?_, rfl, rfl, rfl, t0, ?_, ?_, ?_⟩⟩
        · show -1 ≤ x.n + 1; omega
        · show x.n + 1 ≤ _; omega
        · show 0 ≤ E; omega
        · show 0 ≤ x.p + 1; omega
        · show x.p + 1 ≤ _; omega
        · exfalso; have : x.n + 1 < 0 := h; omega
        · show 0 ≤ L; omega
        · show 0 ≤ x.n + 1; omega
        · show tm ≤ _; omega
        · show _ ≤ x.p + 1 - tm; omega
        · show tm + (x.p + 1 - tm) ≤ _; omega
      · obtain ⟨b1, b2⟩ := nb (by omega)
        have w5 : IntKind.i64.wrap (tm - tm) = 0 := by rw [w64_id (by omega) (by omega)]; omega
        have w6 : IntKind.i64.wrap (tm + 0) = tm := by rw [w64_id (by omega) (by omega)]; omega
        have m1 : mxi (-1) tm = tm := by unfold mxi; rw [if_pos (by omega)]
        have e1 : begW x L E tm = ⟨x.s, L, x.w, IntKind.i64.wrap (x.c + 1), x.n + 1, tm, E, tm, 0⟩ := by simp only [begW, sn, if_neg c4, w5]
        have hb : r.b = false := by rw [b]; exact decide_eq_false c4
        have e2 : comR (begR r L E tm) E = ⟨x.s, L, x.w, IntKind.i64.wrap (x.c + 1), x.n + 1, tm, E, tm, x.n + 1 - E, 0, true⟩ := by
          simp only [comR, begR, hb, Bool.false_eq_true, if_false, n', b1, w1, w2, w3, w6, m1, s, w, c]
        rw [e1, e2]
        refine ⟨rfl, rfl, rfl, rfl, rfl, b9.symm, ?_, ?_, ?_, hE, fun _ => ⟨rfl, rfl, t0, ?_⟩, fun h => ?_, fun _ => ⟨?_, ?_, rfl, rfl, rfl, t0, ?_, ?_, ?_⟩⟩
        · show -1 ≤ x.n + 1; omega
        · show x.n + 1 ≤ _; omega
        · show 0 ≤ E; omega
        · show tm ≤ _; omega
        · exfalso; have : x.n + 1 < 0 := h; omega
        · show 0 ≤ L; omega
        · show 0 ≤ x.n + 1; omega
        · show tm ≤ _; omega
        · show _ ≤ (0 : Int); omega
        · show tm + 0 ≤ _; omega
end Go.Proofs.YtdppaegnmdiheaaA
