/- Chapter 13: rows of tuples. -/
import Derived.Test.YtkbooepiomobdaaBdB
set_option linter.unusedVariables false
set_option linter.unusedSimpArgs false
set_option maxRecDepth 10000
namespace Go.Proofs.YtkbooepiomobdaaA
open Go.RowKit
attribute [local congr] bind_congr1 map_congr1 cond_congr1 withX_congr after_congr br_congr gd_congr

abbrev pt3 (o : Nat) : AV := .ptr (some ⟨o, 0, 0, 3⟩)
def cell (t : Tp) : AO := .cells [.int .u32 t.o, .int .u64 t.r, .int .i64 t.v] 0 0 true
def tcs : List Tp → List AV
  | [] => []
  | t :: l => .int .u32 t.o :: .int .u64 t.r :: .int .i64 t.v :: tcs l
theorem tcs_len : ∀ l : List Tp, (tcs l).length = l.length * 3
  | [] => rfl
  | t :: l => by simp only [tcs, List.length_cons, tcs_len l]; omega
theorem tcs_app : ∀ l m : List Tp, tcs (l ++ m) = tcs l ++ tcs m
  | [], m => rfl
  | t :: l, m => by simp only [tcs, List.cons_append, tcs_app l m]
theorem tcs_drop : ∀ (j : Nat) (l : List Tp), (tcs l).drop (j * 3) = tcs (l.drop j)
  | 0, l => by rw [Nat.zero_mul, List.drop_zero, List.drop_zero]
  | j + 1, [] => by simp [tcs]
  | j + 1, t :: l => by
    rw [show (j + 1) * 3 = j * 3 + 3 by omega]
    simp only [tcs, List.drop_succ_cons, tcs_drop j l]
theorem tcs_take : ∀ (j : Nat) (l : List Tp), (tcs l).take (j * 3) = tcs (l.take j)
  | 0, l => by rw [Nat.zero_mul, List.take_zero, List.take_zero]; rfl
  | j + 1, [] => by simp [tcs]
  | j + 1, t :: l => by
    rw [show (j + 1) * 3 = j * 3 + 3 by omega]
    simp only [tcs, List.take_succ_cons, tcs_take j l]
/-- A row that is read. -/
structure Ty (S : St) (p : Option (Nat × Nat × Nat)) (e : Nat) (l : List Tp) : Prop where
  ez : p = none ∨ e = 3
  nil : p = none → l = []
  at_ : ∀ o v i, p = some (o, v, i) → o < S.next ∧ S.rd o v i (l.length * 3) = some (tcs l)
  mx : l.length ≤ 9223372036854775807
theorem Ty.ext {S S' : St} {p : Option (Nat × Nat × Nat)} {e : Nat} {l : List Tp} (h : Ty S p e l) (x : Ext S S') : Ty S' p e l :=
  ⟨h.ez, h.nil, fun o v i hp => by obtain ⟨h1, h2⟩ := h.at_ o v i hp; exact ⟨Nat.lt_of_lt_of_le h1 x.next, by rw [x.rd h1]; exact h2⟩, h.mx⟩
theorem Ty.zero (S : St) (e : Nat) : Ty S none e [] := ⟨.inl rfl, fun _ => rfl, fun _ _ _ h => (by cases h), by simp⟩
/-- One tuple of a row. -/
theorem Ty.get {S : St} {o v i e : Nat} {l : List Tp} (h : Ty S (some (o, v, i)) e l) {j : Nat} (hj : j < l.length) : S.rd o v (i + j * 3) 3 = some [.int .u32 l[j].o, .int .u64 l[j].r, .int .i64 l[j].v] := by
  obtain ⟨_, h2⟩ := h.at_ o v i rfl
  rw [rd_sub h2 (by omega), tcs_drop, List.drop_eq_getElem_cons hj]
  rfl
theorem Ty.some_ {S : St} {p : Option (Nat × Nat × Nat)} {e : Nat} {l : List Tp} (h : Ty S p e l) (hl : 0 < l.length) : ∃ o v i, p = some (o, v, i) ∧ e = 3 ∧ o < S.next := by
  rcases p with _ | ⟨o, v, i⟩
  · rw [h.nil rfl] at hl; exact absurd hl (Nat.lt_irrefl _)
  · exact ⟨o, v, i, rfl, h.ez.resolve_left (by simp), (h.at_ o v i rfl).1⟩
/-- A row that grows, made since S0. -/
structure Gt (S0 S : St) (p : Option (Nat × Nat × Nat)) (e : Nat) (l : List Tp) : Prop where
  vec : Vec S p l.length 3 e (tcs l)
  ext : Ext S0 S
  new : ∀ o v i, p = some (o, v, i) → S0.next ≤ o
theorem Gt.ty {S0 S : St} {p : Option (Nat × Nat × Nat)} {e : Nat} {l : List Tp} (h : Gt S0 S p e l) (hm : l.length ≤ 1000000) : Ty S p e l := by
  refine ⟨h.vec.ez, fun hp => ?_, fun o v i hp => ?_, by omega⟩
  · rcases h.vec.at_ with ⟨_, h0⟩ | ⟨o, ver, minv, hp', _⟩
    · exact List.length_eq_zero_iff.1 h0
    · rw [hp] at hp'; cases hp'
  · rcases h.vec.at_ with ⟨hp', _⟩ | ⟨o', ver, minv, hp', h1, h2, h3⟩
    · rw [hp] at hp'; cases hp'
    · rw [hp] at hp'; cases hp'
      refine ⟨h1, ?_⟩
      rw [rd_cells h2 h3 (by rw [tcs_len]; omega), List.drop_zero, List.take_of_length_le (by rw [tcs_len]; exact Nat.le_refl _)]
theorem Gt.zero (S0 : St) (e : Nat) : Gt S0 S0 none e [] := ⟨.nil _ _ _, .refl _, fun _ _ _ h => (by cases h)⟩
theorem Gt.more {S0 S S' : St} {p : Option (Nat × Nat × Nat)} {e : Nat} {l : List Tp} (h : Gt S0 S p e l) (x : Ext S S') : Gt S0 S' p e l := ⟨h.vec.ext x, h.ext.trans x, h.new⟩
theorem Gt.app {S0 S : St} {p : Option (Nat × Nat × Nat)} {e : Nat} {l : List Tp} (h : Gt S0 S p e l) {m : List Tp} (hr : l.length + m.length ≤ 1000000) :
    ∃ p' e' S', aAppend 3 24 S (.slice p l.length e none) m.length (tcs m) = some (.slice p' (l.length + m.length) e' none, S') ∧ Gt S0 S' p' e' (l ++ m) ∧ ∀ j, j < S.next → (∀ v i, p ≠ some (j, v, i)) → S'.get j = S.get j := by
  by_cases h0 : m.length = 0
  · have : m = [] := List.length_eq_zero_iff.1 h0
    subst this
    refine ⟨p, e, S, ?_, by rw [List.append_nil]; exact h, fun _ _ _ => rfl⟩
    rcases p with _ | ⟨o, v, i⟩
    · simp [aAppend]
    · obtain rfl := h.vec.ez.resolve_left (by simp)
      simp [aAppend]
  · obtain ⟨p', S', h1, h2, h3, h4⟩ := h.vec.append (bytes := 24) (xs := tcs m) (n := m.length) (tcs_len m) h0 (by omega)
    refine ⟨p', 3, S', h1, ⟨by rw [List.length_append, tcs_app]; exact h2, ⟨Nat.le_trans h.ext.next h3.next, fun o ho => ?_⟩, fun o v i hp => ?_⟩, h3.old⟩
    · rw [h3.old o (Nat.lt_of_lt_of_le ho h.ext.next) (fun v i hp => by have := h.new o v i hp; omega)]
      exact h.ext.old o ho
    · rcases h4 o v i hp with h5 | ⟨v', i', h5⟩
      · exact Nat.le_trans h.ext.next h5
      · exact h.new _ _ _ h5
/-- One more. -/
theorem Gt.app1 {S0 S : St} {p : Option (Nat × Nat × Nat)} {e : Nat} {l : List Tp} (h : Gt S0 S p e l) (t : Tp) (hr : l.length ≤ 100000) :
    ∃ p' S', aAppend 3 24 S (.slice p l.length e none) 1 [.int .u32 t.o, .int .u64 t.r, .int .i64 t.v] = some (.slice p' (l.length + 1) 3 none, S') ∧ Gt S0 S' p' 3 (l ++ [t]) ∧ ∀ j, j < S.next → (∀ v i, p ≠ some (j, v, i)) → S'.get j = S.get j := by
  obtain ⟨p', e', S', h1, h2, h3⟩ := h.app (m := [t]) (by simp only [List.length_cons, List.length_nil]; omega)
  have hl : (l ++ [t]).length = l.length + 1 := by rw [List.length_append]; rfl
  obtain ⟨o, v, i, hp, rfl, _⟩ := (h2.ty (by omega)).some_ (by omega)
  exact ⟨p', S', h1, h2, h3⟩
/-- The least of a row. -/
def minF (lt : Tp → Tp → Bool) (m : Tp) (l : List Tp) : Tp := l.foldl (fun m t => if lt t m = true then t else m) m
def t0 : Tp := ⟨0, 0, 0⟩
def minL (lt : Tp → Tp → Bool) : List Tp → Tp
  | [] => t0
  | t :: l => minF lt t l
theorem minL_snoc {lt : Tp → Tp → Bool} {l : List Tp} (h : l ≠ []) (t : Tp) : minL lt (l ++ [t]) = if lt t (minL lt l) = true then t else minL lt l := by
  cases l with
  | nil => exact absurd rfl h
  | cons a l => simp only [List.cons_append, minL, minF, List.foldl_append, List.foldl_cons, List.foldl_nil]; rfl
theorem minL_take {lt : Tp → Tp → Bool} {l : List Tp} {j : Nat} (h0 : 0 < j) (hj : j < l.length) : minL lt (l.take (j + 1)) = if lt l[j] (minL lt (l.take j)) = true then l[j] else minL lt (l.take j) := by
  rw [List.take_succ_eq_append_getElem hj, minL_snoc]
  intro h
  have := congrArg List.length h
  rw [List.length_take, List.length_nil] at this
  omega
def ltI (f : Tp → Tp → Int) (a b : Tp) : Bool := decide (f a b < 0)
/-- slices.MinFunc -/
structure I22 (p : Option (Nat × Nat × Nat)) (c : Option Nat) (e g : Nat) (caps : List AV) (f : Tp → Tp → Int) (l : List Tp) (Sb : St) (m : Nat) (T : Tm) (S : St) : Prop where
  t0 : T.get 0 = some (.slice p l.length e c)
  t1 : T.get 1 = some (.func g caps)
  t4 : T.get 4 = some (pt3 Sb.next)
  t5 : T.get 5 = some (pt3 (Sb.next + 1))
  ext : Ext Sb S
  nx : Sb.next + 2 ≤ S.next
  g4 : S.get Sb.next = some (cell ⟨0, 0, 0⟩)
  more : ∃ j : Nat, T.get 6 = some (.int .i64 j) ∧ 0 < j ∧ j + m = l.length ∧ S.get (Sb.next + 1) = some (cell (minL (ltI f) (l.take j)))
set_option maxHeartbeats 4000000 in
theorem round22 (k : Nat) {p : Option (Nat × Nat × Nat)} {c : Option Nat} {e g : Nat} {caps : List AV} {f : Tp → Tp → Int} {l : List Tp} {Sb : St} (h : Ty Sb p e l) (hml : ∀ j, 0 < j → j ≤ l.length → minL (ltI f) (l.take j) ∈ l)
    (hf : ∀ a b S1, a ∈ l → b ∈ l → Ext Sb S1 → ∃ S2, evF Y AP (k + 1099) g ([tpv a, tpv b] ++ caps) S1 = some (.int .i64 (f a b), S2) ∧ Ext S1 S2) (m : Nat) (T : Tm) (S : St) (hI : I22 p c e g caps f l Sb m T S) :
    Goes (evF Y AP (k + 1099)) (k + 1099) af22_l0 T S (Then (fun T' S' => ∃ m', I22 p c e g caps f l Sb m' T' S' ∧ id m' < id m) fun r T' S' => r = .exit 0 ∧ I22 p c e g caps f l Sb 0 T' S') := by
  have hmx := h.mx
  obtain ⟨t0, t1, t4, t5, ex, nx, g4, j, t6, j0, hm, g5⟩ := hI
  by_cases c1 : (j : Int) < (l.length : Int)
  rotate_left
  · simp -implicitDefEqProofs -dsimp (maxSteps := 10000000) only [af22_l0, ↓goes_loop, ↓goes_seq, ↓goes_reg, ↓goes_dreg, ↓goes_cond, ↓goes_block, ↓goes_skip, ↓goes_exit, ↓goes_ret, after_some, br_true, br_false, ↓then_normal, ↓then_exit, ↓then_ret, ↓blk_normal, ↓blk_exit, ↓blk_ret, ↓blk_other, ops_nil, ops_some, ops_none, oper_none, oper_some, gd_tt, gd_ff, gd_tf, gd_ft, gd_undef, ↓any_op, ↓any_call, ↓any_callV, ↓any_invoke, xo_t, xo_c, args_nil, args_cons, bin_add, bin_sub, bin_mul, bin_quo, bin_rem, bin_and, bin_or, bin_xor, bin_andNot, bin_eql, bin_neq, bin_lss, bin_leq, bin_gtr, bin_geq, bin_shl, bin_shr, bin_bools, bin_strs, bin_ptrs, bin_slices, bin_aggs, ↓Option.bind_some, ↓Option.map_some, ↓cond_true, ↓cond_false, evC, evOp, XO.lit, setArgs, Tr.get_set, Option.bind_some, Option.map_some, cond_true, cond_false, maxI, maxFrom, minI, minFrom, aConv, aBinE, aEq, eqScal, aUn, evRes, fin, oneOf, if_true, if_false, callee, reduceCtorEq, Nat.reduceEqDiff, and_self, decide_true, decide_false, beq_true, beq_false, Bool.not_true, Bool.not_false, List.getElem?_cons_zero, List.getElem?_cons_succ, beq_self_eq_true, gt_iff_lt, ble_dec, beq_dec, List.head?_cons, AV.undef, eq_self, ne_eq, not_true_eq_false, not_false_eq_true, Int.reduceLT, Int.reduceLE, Int.reduceToNat, Int.reduceEq, Int.reduceNeg, Nat.reduceAdd, Nat.reduceLT, Nat.reduceLeDiff, Nat.reduceMul, Nat.reduceSub, AV.cells, AV.tup, Bool.true_and, true_and, and_true, List.drop_nil, List.append_nil, rd_put, rd_alloc, rdO, St.get_put, St.get_alloc, St.next_put, St.next_alloc, St.wr, Bool.and_self, Bool.and_true, List.length_cons, List.length_nil, List.take_succ_cons, List.take_zero, List.drop_succ_cons, List.drop_zero, List.cons_append, List.nil_append, Nat.zero_add, Nat.add_zero, Nat.reduceMul, t0, t6, hmx, c1]
    refine ⟨?_, ?_, ?_, ?_, ex, nx, g4, j, ?_, j0, by omega, g5⟩ <;> simp only [Tr.get_set, Nat.reduceEqDiff, if_false, if_true, t0, t1, t4, t5, t6]
  have hj : j < l.length := by omega
  obtain ⟨o, v, i, rfl, rfl, ho⟩ := h.some_ (by omega)
  have hix : ixOf (.int .i64 (j : Int)) l.length = some j := by rw [ix_ok (by omega) c1]; rfl
  have wj : IntKind.i64.wrap ((j : Int) + 1) = ((j + 1 : Nat) : Int) := w64_id (by omega) (by omega)
  have hz : S.rd o v (i + j * 3) 3 = some [.int .u32 l[j].o, .int .u64 l[j].r, .int .i64 l[j].v] := by rw [ex.rd ho]; exact h.get hj
  obtain ⟨a, ha⟩ : ∃ a, l[j] = a := ⟨_, rfl⟩
  have hal : a ∈ l := ha ▸ List.getElem_mem hj
  obtain ⟨b, hb⟩ : ∃ b, minL (ltI f) (l.take j) = b := ⟨_, rfl⟩
  have hbl : b ∈ l := hb ▸ hml j j0 (by omega)
  have htk := minL_take (lt := ltI f) j0 hj
  rw [hb, ha] at htk
  rw [ha] at hz
  rw [hb] at g5
  have r5 : ∀ v i m, S.rd (Sb.next + 1) v i m = rdO (cell b) v i m := rd_of g5
  obtain ⟨S2, hc, x2⟩ := hf a b S hal hbl ex
  simp only [List.cons_append, List.nil_append] at hc
  have z2 : S2.rd o v (i + j * 3) 3 = some [.int .u32 a.o, .int .u64 a.r, .int .i64 a.v] := by rw [x2.rd (Nat.lt_of_lt_of_le ho ex.next)]; exact hz
  have g52 : S2.get (Sb.next + 1) = some (cell b) := x2.get (by omega) g5
  have g42 : S2.get Sb.next = some (cell ⟨0, 0, 0⟩) := x2.get (by omega) g4
  by_cases c2 : f a b < 0
  · have hlt : ltI f a b = true := decide_eq_true c2
    rw [hlt, if_pos rfl] at htk
    simp -implicitDefEqProofs -dsimp (maxSteps := 10000000) only [af22_l0, ↓goes_loop, ↓goes_seq, ↓goes_reg, ↓goes_dreg, ↓goes_cond, ↓goes_block, ↓goes_skip, ↓goes_exit, ↓goes_ret, after_some, br_true, br_false, ↓then_normal, ↓then_exit, ↓then_ret, ↓blk_normal, ↓blk_exit, ↓blk_ret, ↓blk_other, ops_nil, ops_some, ops_none, oper_none, oper_some, gd_tt, gd_ff, gd_tf, gd_ft, gd_undef, ↓any_op, ↓any_call, ↓any_callV, ↓any_invoke, xo_t, xo_c, args_nil, args_cons, bin_add, bin_sub, bin_mul, bin_quo, bin_rem, bin_and, bin_or, bin_xor, bin_andNot, bin_eql, bin_neq, bin_lss, bin_leq, bin_gtr, bin_geq, bin_shl, bin_shr, bin_bools, bin_strs, bin_ptrs, bin_slices, bin_aggs, ↓Option.bind_some, ↓Option.map_some, ↓cond_true, ↓cond_false, evC, evOp, XO.lit, setArgs, Tr.get_set, Option.bind_some, Option.map_some, cond_true, cond_false, maxI, maxFrom, minI, minFrom, aConv, aBinE, aEq, eqScal, aUn, evRes, fin, oneOf, if_true, if_false, callee, reduceCtorEq, Nat.reduceEqDiff, and_self, decide_true, decide_false, beq_true, beq_false, Bool.not_true, Bool.not_false, List.getElem?_cons_zero, List.getElem?_cons_succ, beq_self_eq_true, gt_iff_lt, ble_dec, beq_dec, List.head?_cons, AV.undef, eq_self, ne_eq, not_true_eq_false, not_false_eq_true, Int.reduceLT, Int.reduceLE, Int.reduceToNat, Int.reduceEq, Int.reduceNeg, Nat.reduceAdd, Nat.reduceLT, Nat.reduceLeDiff, Nat.reduceMul, Nat.reduceSub, ↓evDraw_nil, bir, putD, evDraw, trace, List.all_cons, List.all_nil, chk, stAt, again, sameV, sameL, sameA, AV.undef, Bool.and_self, Bool.and_true, decide_eq_true_eq, List.getElem?_nil, AV.cells, AV.tup, Bool.true_and, true_and, and_true, List.drop_nil, List.append_nil, rd_put, rd_alloc, rdO, St.get_put, St.get_alloc, St.next_put, St.next_alloc, St.wr, Bool.and_self, Bool.and_true, List.length_cons, List.length_nil, List.take_succ_cons, List.take_zero, List.drop_succ_cons, List.drop_zero, List.cons_append, List.nil_append, Nat.zero_add, Nat.add_zero, Nat.reduceMul, t0, t1, t4, t5, t6, hmx, c1, hix, hz, r5, cell, hc, c2, z2, g52, wj]
    refine ⟨m - 1, ⟨?_, ?_, ?_, ?_, (ex.trans x2).then_put (by omega) _, by show Sb.next + 2 ≤ S2.next; have := x2.next; omega, ?_, j + 1, ?_, by omega, by omega, ?_⟩, by show m - 1 < m; omega⟩
    iterate 4 (first | focus (simp only [Tr.get_set, Nat.reduceEqDiff, if_false, if_true, t0, t1, t4, t5, t6]; done) | skip)
    · rw [St.get_put, if_neg (by omega)]; exact g42
    · simp only [Tr.get_set, Nat.reduceEqDiff, if_false, if_true]
    · rw [St.get_put, if_pos rfl, htk]; rfl
  · have hlt : ltI f a b = false := decide_eq_false c2
    rw [hlt, if_neg (by decide)] at htk
    simp -implicitDefEqProofs -dsimp (maxSteps := 10000000) only [af22_l0, ↓goes_loop, ↓goes_seq, ↓goes_reg, ↓goes_dreg, ↓goes_cond, ↓goes_block, ↓goes_skip, ↓goes_exit, ↓goes_ret, after_some, br_true, br_false, ↓then_normal, ↓then_exit, ↓then_ret, ↓blk_normal, ↓blk_exit, ↓blk_ret, ↓blk_other, ops_nil, ops_some, ops_none, oper_none, oper_some, gd_tt, gd_ff, gd_tf, gd_ft, gd_undef, ↓any_op, ↓any_call, ↓any_callV, ↓any_invoke, xo_t, xo_c, args_nil, args_cons, bin_add, bin_sub, bin_mul, bin_quo, bin_rem, bin_and, bin_or, bin_xor, bin_andNot, bin_eql, bin_neq, bin_lss, bin_leq, bin_gtr, bin_geq, bin_shl, bin_shr, bin_bools, bin_strs, bin_ptrs, bin_slices, bin_aggs, ↓Option.bind_some, ↓Option.map_some, ↓cond_true, ↓cond_false, evC, evOp, XO.lit, setArgs, Tr.get_set, Option.bind_some, Option.map_some, cond_true, cond_false, maxI, maxFrom, minI, minFrom, aConv, aBinE, aEq, eqScal, aUn, evRes, fin, oneOf, if_true, if_false, callee, reduceCtorEq, Nat.reduceEqDiff, and_self, decide_true, decide_false, beq_true, beq_false, Bool.not_true, Bool.not_false, List.getElem?_cons_zero, List.getElem?_cons_succ, beq_self_eq_true, gt_iff_lt, ble_dec, beq_dec, List.head?_cons, AV.undef, eq_self, ne_eq, not_true_eq_false, not_false_eq_true, Int.reduceLT, Int.reduceLE, Int.reduceToNat, Int.reduceEq, Int.reduceNeg, Nat.reduceAdd, Nat.reduceLT, Nat.reduceLeDiff, Nat.reduceMul, Nat.reduceSub, ↓evDraw_nil, bir, putD, evDraw, trace, List.all_cons, List.all_nil, chk, stAt, again, sameV, sameL, sameA, AV.undef, Bool.and_self, Bool.and_true, decide_eq_true_eq, List.getElem?_nil, AV.cells, AV.tup, Bool.true_and, true_and, and_true, List.drop_nil, List.append_nil, rd_put, rd_alloc, rdO, St.get_put, St.get_alloc, St.next_put, St.next_alloc, St.wr, Bool.and_self, Bool.and_true, List.length_cons, List.length_nil, List.take_succ_cons, List.take_zero, List.drop_succ_cons, List.drop_zero, List.cons_append, List.nil_append, Nat.zero_add, Nat.add_zero, Nat.reduceMul, t0, t1, t4, t5, t6, hmx, c1, hix, hz, r5, cell, hc, c2, wj]
    refine ⟨m - 1, ⟨?_, ?_, ?_, ?_, ex.trans x2, by have := x2.next; omega, g42, j + 1, ?_, by omega, by omega, ?_⟩, by show m - 1 < m; omega⟩
    iterate 5 (first | focus (simp only [Tr.get_set, Nat.reduceEqDiff, if_false, if_true, t0, t1, t4, t5, t6]; done) | skip)
    rw [htk]; exact g52
theorem minF_mem (lt : Tp → Tp → Bool) : ∀ (l : List Tp) (m : Tp), minF lt m l = m ∨ minF lt m l ∈ l
  | [], m => .inl rfl
  | t :: l, m => by
    show minF lt (if lt t m = true then t else m) l = m ∨ _
    rcases minF_mem lt l (if lt t m = true then t else m) with h | h
    · by_cases c : lt t m = true
      · rw [if_pos c] at h ⊢
        exact .inr (by show minF lt (if lt t m = true then t else m) l ∈ _; rw [if_pos c, h]; exact List.mem_cons_self)
      · rw [if_neg c] at h ⊢
        exact .inl h
    · exact .inr (List.mem_cons_of_mem _ h)
theorem minL_mem (lt : Tp → Tp → Bool) {l : List Tp} (h : l ≠ []) : minL lt l ∈ l := by
  cases l with
  | nil => exact absurd rfl h
  | cons t l =>
    rcases minF_mem lt l t with h | h
    · show minF lt t l ∈ _; rw [h]; exact List.mem_cons_self
    · exact List.mem_cons_of_mem _ h
set_option maxHeartbeats 4000000 in
theorem T22 (k : Nat) {S : St} {p : Option (Nat × Nat × Nat)} {c : Option Nat} {e g : Nat} {caps : List AV} {f : Tp → Tp → Int} {l : List Tp} (h : Ty S p e l) (h0 : 0 < l.length) (hn : l.length ≤ 1000)
    (hf : ∀ a b S1, a ∈ l → b ∈ l → Ext S S1 → ∃ S2, evF Y AP (k + 1099) g ([tpv a, tpv b] ++ caps) S1 = some (.int .i64 (f a b), S2) ∧ Ext S1 S2) :
    ∃ S', evF Y AP (k + 1100) 22 [.slice p l.length e c, .func g caps] S = some (tpv (minL (ltI f) l), S') ∧ Ext S S' := by
  have hmx := h.mx
  have hml : ∀ j, 0 < j → j ≤ l.length → minL (ltI f) (l.take j) ∈ l := fun j j0 hj => List.mem_of_mem_take (minL_mem _ (by intro h; have := congrArg List.length h; rw [List.length_take, List.length_nil] at this; omega))
  obtain ⟨o, v, i, rfl, rfl, ho⟩ := h.some_ h0
  have c1 : ¬ (l.length : Int) < 1 := by omega
  have hix : ixOf (.int .i64 0) l.length = some 0 := by rw [ix_ok (by omega) (by omega)]; rfl
  obtain ⟨A, hA⟩ : ∃ A, S.alloc (.cells [.int .u32 0, .int .u64 0, .int .i64 0] 0 0 true) = A := ⟨_, rfl⟩
  have eA : Ext S A := by rw [← hA]; exact .alloc _ _
  have nA : A.next = S.next + 1 := by rw [← hA]; rfl
  have hz : S.rd o v (i + 0 * 3) 3 = some [.int .u32 l[0].o, .int .u64 l[0].r, .int .i64 l[0].v] := h.get h0
  rw [Nat.zero_mul, Nat.add_zero] at hz
  have hzA : A.rd o v i 3 = some [.int .u32 l[0].o, .int .u64 l[0].r, .int .i64 l[0].v] := by rw [eA.rd ho]; exact hz
  obtain ⟨B, hB⟩ : ∃ B, (A.alloc (.cells [.int .u32 0, .int .u64 0, .int .i64 0] 0 0 true)).put A.next (.cells [.int .u32 l[0].o, .int .u64 l[0].r, .int .i64 l[0].v] 0 0 true) = B := ⟨_, rfl⟩
  have eB : Ext S B := by rw [← hB]; exact eA.trans ((Ext.alloc A _).then_put (Nat.le_refl _) _)
  have nB : B.next = S.next + 2 := by rw [← hB]; show A.next + 1 = _; omega
  have g4 : B.get S.next = some (cell ⟨0, 0, 0⟩) := by
    rw [← hB, St.get_put, if_neg (by omega), St.get_alloc, if_neg (by omega), ← hA, St.get_alloc, if_pos rfl]; rfl
  have g5 : B.get (S.next + 1) = some (cell (minL (ltI f) (l.take 1))) := by
    rw [← hB, St.get_put, if_pos nA.symm]
    cases l with
    | nil => exact absurd h0 (Nat.lt_irrefl _)
    | cons t l => rfl
  suffices hh : ∃ v' S', evF Y AP (k + 1100) 22 [.slice (some (o, v, i)) l.length 3 c, .func g caps] S = some (v', S') ∧ v' = tpv (minL (ltI f) l) ∧ Ext S S' by
    obtain ⟨v', S', h1, rfl, h2⟩ := hh; exact ⟨S', h1, h2⟩
  refine evF_goes (af := af22) (k := k + 1099) rfl rfl rfl ?_
  simp -implicitDefEqProofs -dsimp (maxSteps := 10000000) only [af22, ↓goes_loop, ↓goes_seq, ↓goes_reg, ↓goes_dreg, ↓goes_cond, ↓goes_block, ↓goes_skip, ↓goes_exit, ↓goes_ret, after_some, br_true, br_false, ↓then_normal, ↓then_exit, ↓then_ret, ↓blk_normal, ↓blk_exit, ↓blk_ret, ↓blk_other, ops_nil, ops_some, ops_none, oper_none, oper_some, gd_tt, gd_ff, gd_tf, gd_ft, gd_undef, ↓any_op, ↓any_call, ↓any_callV, ↓any_invoke, xo_t, xo_c, args_nil, args_cons, bin_add, bin_sub, bin_mul, bin_quo, bin_rem, bin_and, bin_or, bin_xor, bin_andNot, bin_eql, bin_neq, bin_lss, bin_leq, bin_gtr, bin_geq, bin_shl, bin_shr, bin_bools, bin_strs, bin_ptrs, bin_slices, bin_aggs, ↓Option.bind_some, ↓Option.map_some, ↓cond_true, ↓cond_false, evC, evOp, XO.lit, setArgs, Tr.tabG, Tr.tabS, Tr.tabL, Tr.get_lf, Option.bind_some, Option.map_some, cond_true, cond_false, maxI, maxFrom, minI, minFrom, aConv, aBinE, aEq, eqScal, aUn, evRes, fin, oneOf, if_true, if_false, callee, reduceCtorEq, Nat.reduceEqDiff, and_self, decide_true, decide_false, beq_true, beq_false, Bool.not_true, Bool.not_false, List.getElem?_cons_zero, List.getElem?_cons_succ, beq_self_eq_true, gt_iff_lt, ble_dec, beq_dec, List.head?_cons, AV.undef, eq_self, ne_eq, not_true_eq_false, not_false_eq_true, Int.reduceLT, Int.reduceLE, Int.reduceToNat, Int.reduceEq, Int.reduceNeg, Nat.reduceAdd, Nat.reduceLT, Nat.reduceLeDiff, Nat.reduceMul, Nat.reduceSub, AV.cells, AV.tup, Bool.true_and, true_and, and_true, List.drop_nil, List.append_nil, rd_put, rd_alloc, rdO, St.get_put, St.get_alloc, St.next_put, St.next_alloc, St.wr, Bool.and_self, Bool.and_true, List.length_cons, List.length_nil, List.take_succ_cons, List.take_zero, List.drop_succ_cons, List.drop_zero, List.cons_append, List.nil_append, Nat.zero_add, Nat.add_zero, Nat.reduceMul, aFill, evParts, rep, List.replicate_succ, List.replicate_zero, List.flatten_cons, List.flatten_nil, List.append_nil, newSl, newVar, hmx, c1, hix, Nat.zero_mul, Nat.add_zero, hA, hzA, hB]
  refine .while (I22 (some (o, v, i)) c 3 g caps f l S) id (l.length - 1) ⟨rfl, rfl, rfl, by rw [← nA]; rfl, eB, by omega, g4, 1, rfl, by decide, by omega, g5⟩ (by show l.length - 1 < k + 1099; omega) fun m2 T2 S2 h2 => (round22 k h hml hf m2 T2 S2 h2).mono ?_
  intro r T' S' hq
  cases r with
  | normal => exact hq
  | ret => exact absurd hq.1 (by simp)
  | exit i =>
    obtain ⟨hi, t0, t1, t4, t5, ex, nx, g4, j, t6, j0, hm, g5⟩ := hq
    cases hi
    obtain rfl : j = l.length := by omega
    rw [List.take_length] at g5
    have r5 : ∀ v i m, S'.rd (S.next + 1) v i m = rdO (cell (minL (ltI f) l)) v i m := rd_of g5
    simp -implicitDefEqProofs -dsimp (maxSteps := 10000000) only [↓goes_loop, ↓goes_seq, ↓goes_reg, ↓goes_dreg, ↓goes_cond, ↓goes_block, ↓goes_skip, ↓goes_exit, ↓goes_ret, after_some, br_true, br_false, ↓then_normal, ↓then_exit, ↓then_ret, ↓blk_normal, ↓blk_exit, ↓blk_ret, ↓blk_other, ops_nil, ops_some, ops_none, oper_none, oper_some, gd_tt, gd_ff, gd_tf, gd_ft, gd_undef, ↓any_op, ↓any_call, ↓any_callV, ↓any_invoke, xo_t, xo_c, args_nil, args_cons, bin_add, bin_sub, bin_mul, bin_quo, bin_rem, bin_and, bin_or, bin_xor, bin_andNot, bin_eql, bin_neq, bin_lss, bin_leq, bin_gtr, bin_geq, bin_shl, bin_shr, bin_bools, bin_strs, bin_ptrs, bin_slices, bin_aggs, ↓Option.bind_some, ↓Option.map_some, ↓cond_true, ↓cond_false, evC, evOp, XO.lit, setArgs, Tr.get_set, Option.bind_some, Option.map_some, cond_true, cond_false, maxI, maxFrom, minI, minFrom, aConv, aBinE, aEq, eqScal, aUn, evRes, fin, oneOf, if_true, if_false, callee, reduceCtorEq, Nat.reduceEqDiff, and_self, decide_true, decide_false, beq_true, beq_false, Bool.not_true, Bool.not_false, List.getElem?_cons_zero, List.getElem?_cons_succ, beq_self_eq_true, gt_iff_lt, ble_dec, beq_dec, List.head?_cons, AV.undef, eq_self, ne_eq, not_true_eq_false, not_false_eq_true, Int.reduceLT, Int.reduceLE, Int.reduceToNat, Int.reduceEq, Int.reduceNeg, Nat.reduceAdd, Nat.reduceLT, Nat.reduceLeDiff, Nat.reduceMul, Nat.reduceSub, AV.cells, AV.tup, Bool.true_and, true_and, and_true, List.drop_nil, List.append_nil, rd_put, rd_alloc, rdO, St.get_put, St.get_alloc, St.next_put, St.next_alloc, St.wr, Bool.and_self, Bool.and_true, List.length_cons, List.length_nil, List.take_succ_cons, List.take_zero, List.drop_succ_cons, List.drop_zero, List.cons_append, List.nil_append, Nat.zero_add, Nat.add_zero, Nat.reduceMul, t4, t5, r5, cell, g4]
    exact ⟨_, _, rfl, rfl, ex.then_put (by omega) _⟩
end Go.Proofs.YtkbooepiomobdaaA
