/- Chapter 11: the queue's Go, whole; the reference's queue: New, Put. -/
import Derived.Test.YtkjmhhoioanolaaPcE
set_option linter.unusedVariables false
set_option linter.unusedSimpArgs false
set_option maxRecDepth 10000
namespace Go.Proofs.YtkjmhhoioanolaaA
open Go.RowKit
attribute [local congr] bind_congr1 map_congr1 cond_congr1 withX_congr after_congr br_congr gd_congr

theorem Rl.one {S : St} {F : Nat → Prop} {p : Option (Nat × Nat × Nat)} {e : Nat} {rows : List (List Nat)} (h : Rl S F p e rows) : Rl S F p 1 rows :=
  h.imp_right fun ⟨o, v, i, xs, h1, _, h3⟩ => ⟨o, v, i, xs, h1, rfl, h3⟩
theorem goL_len : ∀ (rows : List (List Nat)) (b : Bk), (goL rows b).1.length + (goL rows b).2.1.length = rows.length := fun rows b => by
  rw [← List.length_append, goL_cat]
set_option maxHeartbeats 4000000 in
theorem T11 (k : Nat) {S : St} {F : Nat → Prop} {q ob : Nat} {rows : List (List Nat)} {b : Bk} {cut : Int} (h : Qu S F q ob rows b cut) :
    ∃ p c S', evF Y AP (k + 20) 11 [pt q] S = some (.slice p (goL rows b).1.length 1 c, S') ∧ Rl S' (Own S S' F) p 1 (goL rows b).1 ∧ Fr S S' F ∧ Qu S' F q ob (goL rows b).2.1 (goL rows b).2.2 cut := by
  have n16 := h.n16
  have hlen := goL_len rows b
  suffices hh : ∃ v S', evF Y AP (k + 20) 11 [pt q] S = some (v, S') ∧ ∃ p c, v = .slice p (goL rows b).1.length 1 c ∧ Rl S' (Own S S' F) p 1 (goL rows b).1 ∧ Fr S S' F ∧ Qu S' F q ob (goL rows b).2.1 (goL rows b).2.2 cut by
    obtain ⟨v, S', h1, p, c, rfl, h2⟩ := hh
    exact ⟨p, c, S', h1, h2⟩
  refine evF_goes (af := af11) (k := k + 19) rfl rfl rfl ?_
  simp -implicitDefEqProofs -dsimp (maxSteps := 10000000) only [af11, ↓goes_loop, ↓goes_seq, ↓goes_reg, ↓goes_dreg, ↓goes_cond, ↓goes_block, ↓goes_skip, ↓goes_exit, ↓goes_ret, after_some, br_true, br_false, ↓then_normal, ↓then_exit, ↓then_ret, ↓blk_normal, ↓blk_exit, ↓blk_ret, ↓blk_other, ops_nil, ops_some, ops_none, oper_none, oper_some, gd_tt, gd_ff, gd_tf, gd_ft, gd_undef, ↓any_op, ↓any_call, ↓any_callV, ↓any_invoke, xo_t, xo_c, args_nil, args_cons, bin_add, bin_sub, bin_mul, bin_quo, bin_rem, bin_and, bin_or, bin_xor, bin_andNot, bin_eql, bin_neq, bin_lss, bin_leq, bin_gtr, bin_geq, bin_shl, bin_shr, bin_bools, bin_strs, bin_ptrs, bin_slices, bin_aggs, ↓Option.bind_some, ↓Option.map_some, ↓cond_true, ↓cond_false, evC, evOp, XO.lit, setArgs, Tr.tabG, Tr.tabS, Tr.tabL, Tr.get_lf, Option.bind_some, Option.map_some, cond_true, cond_false, maxI, maxFrom, minI, minFrom, aConv, aBinE, aEq, eqScal, aUn, evRes, fin, oneOf, if_true, if_false, callee, reduceCtorEq, Nat.reduceEqDiff, and_self, decide_true, decide_false, beq_true, beq_false, Bool.not_true, Bool.not_false, List.getElem?_cons_zero, List.getElem?_cons_succ, beq_self_eq_true, gt_iff_lt, ble_dec, beq_dec, List.head?_cons, AV.undef, eq_self, ne_eq, not_true_eq_false, not_false_eq_true, Int.reduceLT, Int.reduceLE, Int.reduceToNat, Int.reduceEq, Int.reduceNeg, Nat.reduceAdd, Nat.reduceLT, Nat.reduceLeDiff, Nat.reduceMul, Nat.reduceSub]
  refine .while (IG F q ob rows b cut S) id rows.length ⟨rfl, .refl _ _, [], rows, b, none, 0, rfl, rfl, rfl, h, .nil _ _ _ _, by simpa using n16⟩ (by show rows.length < k + 19; omega) fun m2 T2 S2 h2 => (roundG k h.bd m2 T2 S2 h2).mono ?_
  intro r T' S' hq
  cases r with
  | normal => exact hq
  | ret => exact absurd hq.1 (by simp)
  | exit i =>
    obtain ⟨hi, t0, fr, po, eo, t3, Q, ro⟩ := hq
    cases hi
    obtain ⟨c', r22⟩ := T22 (k + 16) ro (by omega)
    have r22 : evF Y AP (k + 19) 22 [.slice po (goL rows b).1.length eo none] S' = _ := r22
    simp -implicitDefEqProofs -dsimp (maxSteps := 10000000) only [↓goes_loop, ↓goes_seq, ↓goes_reg, ↓goes_dreg, ↓goes_cond, ↓goes_block, ↓goes_skip, ↓goes_exit, ↓goes_ret, after_some, br_true, br_false, ↓then_normal, ↓then_exit, ↓then_ret, ↓blk_normal, ↓blk_exit, ↓blk_ret, ↓blk_other, ops_nil, ops_some, ops_none, oper_none, oper_some, gd_tt, gd_ff, gd_tf, gd_ft, gd_undef, ↓any_op, ↓any_call, ↓any_callV, ↓any_invoke, xo_t, xo_c, args_nil, args_cons, bin_add, bin_sub, bin_mul, bin_quo, bin_rem, bin_and, bin_or, bin_xor, bin_andNot, bin_eql, bin_neq, bin_lss, bin_leq, bin_gtr, bin_geq, bin_shl, bin_shr, bin_bools, bin_strs, bin_ptrs, bin_slices, bin_aggs, ↓Option.bind_some, ↓Option.map_some, ↓cond_true, ↓cond_false, evC, evOp, XO.lit, setArgs, Tr.get_set, Option.bind_some, Option.map_some, cond_true, cond_false, maxI, maxFrom, minI, minFrom, aConv, aBinE, aEq, eqScal, aUn, evRes, fin, oneOf, if_true, if_false, callee, reduceCtorEq, Nat.reduceEqDiff, and_self, decide_true, decide_false, beq_true, beq_false, Bool.not_true, Bool.not_false, List.getElem?_cons_zero, List.getElem?_cons_succ, beq_self_eq_true, gt_iff_lt, ble_dec, beq_dec, List.head?_cons, AV.undef, eq_self, ne_eq, not_true_eq_false, not_false_eq_true, Int.reduceLT, Int.reduceLE, Int.reduceToNat, Int.reduceEq, Int.reduceNeg, Nat.reduceAdd, Nat.reduceLT, Nat.reduceLeDiff, Nat.reduceMul, Nat.reduceSub, AV.cells, AV.tup, Bool.true_and, true_and, and_true, List.drop_nil, List.append_nil, rd_put, rd_alloc, rdO, St.get_put, St.get_alloc, St.next_put, St.next_alloc, St.wr, Bool.and_self, Bool.and_true, List.length_cons, List.length_nil, List.take_succ_cons, List.take_zero, List.drop_succ_cons, List.drop_zero, List.cons_append, List.nil_append, Nat.zero_add, Nat.add_zero, Nat.reduceMul, t3, r22]
    exact ⟨_, _, rfl, po, c', rfl, (ro.rl (fun j hj hl => .inr ⟨hl, hj⟩) (fun j _ hj => .inl hj.1)).one, fr, Q⟩
/-! ### The reference's queue -/
def sv (rows : List (List Nat)) : List AV := rows.map AV.str
theorem sv_len (l : List (List Nat)) : (sv l).length = l.length := List.length_map _
theorem sv_app (l m : List (List Nat)) : sv (l ++ m) = sv l ++ sv m := List.map_append
/-- A list of texts that is read. -/
def Ss (S : St) (G : Nat → Prop) (p : Option (Nat × Nat × Nat)) (e : Nat) (rows : List (List Nat)) : Prop :=
  p = none ∧ rows = [] ∨ ∃ o v i, p = some (o, v, i) ∧ e = 1 ∧ G o ∧ o < S.next ∧ S.rd o v i rows.length = some (sv rows)
theorem Ss.fr {S S' : St} {F G : Nat → Prop} {p : Option (Nat × Nat × Nat)} {e : Nat} {rows : List (List Nat)} (h : Ss S F p e rows) (f : Fr S S' G) (hd : ∀ j, j < S.next → F j → ¬ G j) : Ss S' F p e rows :=
  h.imp_right fun ⟨o, v, i, h1, h2, h3, h4, h5⟩ => ⟨o, v, i, h1, h2, h3, Nat.lt_of_lt_of_le h4 f.next, by rw [f.rd h4 (hd o h4 h3)]; exact h5⟩
theorem Ss.mono {S : St} {F F' : Nat → Prop} {p : Option (Nat × Nat × Nat)} {e : Nat} {rows : List (List Nat)} (h : Ss S F p e rows) (hd : ∀ j, j < S.next → F j → F' j) : Ss S F' p e rows :=
  h.imp_right fun ⟨o, v, i, h1, h2, h3, h4, h5⟩ => ⟨o, v, i, h1, h2, hd o h4 h3, h4, h5⟩
/-- A list of texts that grows, made since S0. -/
structure Gs (S0 S : St) (p : Option (Nat × Nat × Nat)) (e : Nat) (rows : List (List Nat)) : Prop where
  vec : Vec S p rows.length 1 e (sv rows)
  ext : Ext S0 S
  new : ∀ o v i, p = some (o, v, i) → S0.next ≤ o
theorem Gs.nil (S0 : St) (e : Nat) : Gs S0 S0 none e [] := ⟨.nil _ _ _, .refl _, fun _ _ _ h => (by cases h)⟩
theorem Gs.empty (S0 : St) : Gs S0 (S0.alloc (.cells [] 0 0 true)) (some (S0.next, 0, 0)) 1 [] :=
  ⟨⟨.inr rfl, rfl, .inr ⟨S0.next, 0, 0, rfl, Nat.lt_succ_self _, by rw [St.get_alloc, if_pos rfl]; rfl, Nat.le_refl _⟩⟩, .alloc _ _, fun o v i h => by cases h; exact Nat.le_refl _⟩
theorem Gs.more {S0 S S' : St} {p : Option (Nat × Nat × Nat)} {e : Nat} {rows : List (List Nat)} (h : Gs S0 S p e rows) (x : Ext S S') : Gs S0 S' p e rows := ⟨h.vec.ext x, h.ext.trans x, h.new⟩
theorem Gs.ss {S0 S : St} {G : Nat → Prop} {p : Option (Nat × Nat × Nat)} {e : Nat} {rows : List (List Nat)} (h : Gs S0 S p e rows) (hG : ∀ j, S0.next ≤ j → j < S.next → G j) : Ss S G p e rows := by
  rcases h.vec.at_ with ⟨h1, h2⟩ | ⟨o, ver, minv, h1, h2, h3, h4⟩
  · exact .inl ⟨h1, List.length_eq_zero_iff.1 h2⟩
  · refine .inr ⟨o, ver, 0, h1, h.vec.ez.resolve_left (by rw [h1]; simp), hG o (h.new _ _ _ h1) h2, h2, ?_⟩
    rw [rd_cells h3 h4 (by rw [sv_len]; omega), List.drop_zero, List.take_of_length_le (by rw [sv_len]; exact Nat.le_refl _)]
theorem Gs.app {S0 S : St} {p : Option (Nat × Nat × Nat)} {e : Nat} {rows : List (List Nat)} (h : Gs S0 S p e rows) {m : List (List Nat)} (hr : rows.length + m.length ≤ 1000000) :
    ∃ p' e' S', aAppend 1 16 S (.slice p rows.length e none) m.length (sv m) = some (.slice p' (rows.length + m.length) e' none, S') ∧ Gs S0 S' p' e' (rows ++ m) := by
  by_cases h0 : m.length = 0
  · have : m = [] := List.length_eq_zero_iff.1 h0
    subst this
    refine ⟨p, e, S, ?_, by rw [List.append_nil]; exact h⟩
    rcases p with _ | ⟨o, v, i⟩
    · simp [aAppend]
    · obtain rfl := h.vec.ez.resolve_left (by simp)
      simp [aAppend]
  · obtain ⟨p', S', h1, h2, h3, h4⟩ := h.vec.append (bytes := 16) (xs := sv m) (n := m.length) (by rw [sv_len, Nat.mul_one]) h0 (by omega)
    refine ⟨p', 1, S', h1, ⟨by rw [List.length_append, sv_app]; exact h2, ⟨Nat.le_trans h.ext.next h3.next, fun o ho => ?_⟩, fun o v i hp => ?_⟩⟩
    · rw [h3.old o (Nat.lt_of_lt_of_le ho h.ext.next) (fun v i hp => by have := h.new o v i hp; omega)]
      exact h.ext.old o ho
    · rcases h4 o v i hp with h5 | ⟨v', i', h5⟩
      · exact Nat.le_trans h.ext.next h5
      · exact h.new _ _ _ h5
/-- The reference's queue w, its bucket ow; G: what it owns. -/
structure Rq (S : St) (G : Nat → Prop) (w ow : Nat) (rows : List (List Nat)) (b : Bk) (cut : Int) : Prop where
  fq : G w
  fb : G ow
  ne : ¬ w = ow
  bd : ∀ j, G j → j < S.next
  gb : S.get ow = some (bk b)
  ok : OkB b
  n16 : rows.length ≤ 16
  sz : ∀ l ∈ rows, l.length ≤ 140737488355328
  li : ∃ p e, S.get w = some (.cells [pt ow, .slice p rows.length e none, .int .i64 cut] 0 0 true) ∧ Ss S (fun j => G j ∧ ¬ j = w ∧ ¬ j = ow) p e rows
theorem Rq.fr {S S' : St} {F G : Nat → Prop} {q ob : Nat} {rows : List (List Nat)} {b : Bk} {cut : Int} (h : Rq S F q ob rows b cut) (f : Fr S S' G) (hd : ∀ j, F j → ¬ G j) : Rq S' F q ob rows b cut := by
  obtain ⟨p, e, g, r⟩ := h.li
  exact ⟨h.fq, h.fb, h.ne, fun j hj => Nat.lt_of_lt_of_le (h.bd j hj) f.next, f.get (h.bd _ h.fb) (hd _ h.fb) h.gb, h.ok, h.n16, h.sz, p, e, f.get (h.bd _ h.fq) (hd _ h.fq) g, r.fr f (fun j _ hj => hd j hj.1)⟩
theorem Rq.mono {S : St} {F F' : Nat → Prop} {q ob : Nat} {rows : List (List Nat)} {b : Bk} {cut : Int} (h : Rq S F q ob rows b cut) (hF : ∀ j, F j → F' j) (hb : ∀ j, F' j → j < S.next) : Rq S F' q ob rows b cut := by
  obtain ⟨p, e, g, r⟩ := h.li
  exact ⟨hF _ h.fq, hF _ h.fb, h.ne, hb, h.gb, h.ok, h.n16, h.sz, p, e, g, r.mono (fun j _ hj => ⟨hF j hj.1, hj.2⟩)⟩
theorem Rq.bucket {S S' : St} {F : Nat → Prop} {q ob : Nat} {rows : List (List Nat)} {b b' : Bk} {cut : Int} (h : Rq S F q ob rows b cut) (u : Upd S S' ob (bk b')) (ok : OkB b') : Rq S' F q ob rows b' cut := by
  obtain ⟨p, e, g, r⟩ := h.li
  have f : Fr S S' (fun j => j = ob) := .of_upd u rfl
  exact ⟨h.fq, h.fb, h.ne, fun j hj => Nat.lt_of_lt_of_le (h.bd j hj) f.next, u.same, ok, h.n16, h.sz, p, e, by rw [u.else h.ne]; exact g, r.fr f (fun j _ hj => hj.2.2)⟩
theorem Rq.cells {S S' : St} {F : Nat → Prop} {q ob : Nat} {rows : List (List Nat)} {b : Bk} {cut cut' : Int} {p : Option (Nat × Nat × Nat)} {e : Nat} {rows' : List (List Nat)} (h : Rq S F q ob rows b cut)
    (u : Upd S S' q (.cells [pt ob, .slice p rows'.length e none, .int .i64 cut'] 0 0 true)) (n16 : rows'.length ≤ 16) (sz : ∀ l ∈ rows', l.length ≤ 140737488355328) (r : Ss S (fun j => F j ∧ ¬ j = q ∧ ¬ j = ob) p e rows') : Rq S' F q ob rows' b cut' := by
  have f : Fr S S' (fun j => j = q) := .of_upd u rfl
  exact ⟨h.fq, h.fb, h.ne, fun j hj => Nat.lt_of_lt_of_le (h.bd j hj) f.next, by rw [u.else fun e => h.ne e.symm]; exact h.gb, h.ok, n16, sz, p, e, u.same, r.fr f (fun j _ hj => hj.2.1)⟩
section
variable {S : St} {F : Nat → Prop} {q ob : Nat} {rows : List (List Nat)} {b : Bk} {cut : Int} (k : Nat)
theorem T25 (r u : Int) : ∃ S', evF Y AP (k + 8) 25 [.int .i64 r, .int .i64 u] S = some (pt (S.next + 1), S') ∧ Ext S S' ∧ S'.next = S.next + 2 ∧ Rq S' (fun j => S.next ≤ j ∧ j < S.next + 2) (S.next + 1) S.next [] (newB r u) 0 := by
  obtain ⟨S1, r1, b1⟩ := T35 (S := S) (k + 3) r u
  have r1 : evF Y AP (k + 7) 35 [.int .i64 r, .int .i64 u] S = _ := r1
  have n1 := b1.next
  have b2 := Born.one S1 (.cells [pt S.next, .slice none 0 0 none, .int .i64 0] 0 0 true)
  have n2 := b2.next
  have hne : ¬ S.next = S1.next := by omega
  refine ⟨S1.alloc (.cells [pt S.next, .slice none 0 0 none, .int .i64 0] 0 0 true), ?_, b1.ext.trans b2.ext, by omega, by show S.next ≤ S.next + 1 ∧ _; omega, by show S.next ≤ S.next ∧ _; omega, by omega, fun j hj => by omega, by rw [b2.else hne]; exact b1.same, newB_ok r u, by simp, by simp, none, 0, by rw [← n1]; exact b2.same, .inl ⟨rfl, rfl⟩⟩
  rw [evF_body (af := af25) rfl rfl rfl]
  simp -implicitDefEqProofs -dsimp (maxSteps := 10000000) only [af25, ops_nil, ops_some, ops_none, oper_none, oper_some, gd_tt, gd_ff, gd_tf, gd_ft, gd_undef, ↓any_op, ↓any_call, ↓any_callV, ↓any_invoke, xo_t, xo_c, args_nil, args_cons, bin_add, bin_sub, bin_mul, bin_quo, bin_rem, bin_and, bin_or, bin_xor, bin_andNot, bin_eql, bin_neq, bin_lss, bin_leq, bin_gtr, bin_geq, bin_shl, bin_shr, bin_bools, bin_strs, bin_ptrs, bin_slices, bin_aggs, ↓Option.bind_some, ↓Option.map_some, ↓cond_true, ↓cond_false, evC, evOp, XO.lit, setArgs, Tr.tabG, Tr.tabS, Tr.tabL, Tr.get_lf, Option.bind_some, Option.map_some, cond_true, cond_false, maxI, maxFrom, minI, minFrom, aConv, aBinE, aEq, eqScal, aUn, evRes, fin, oneOf, if_true, if_false, callee, reduceCtorEq, Nat.reduceEqDiff, and_self, decide_true, decide_false, beq_true, beq_false, Bool.not_true, Bool.not_false, List.getElem?_cons_zero, List.getElem?_cons_succ, beq_self_eq_true, gt_iff_lt, ble_dec, beq_dec, List.head?_cons, AV.undef, eq_self, ne_eq, not_true_eq_false, not_false_eq_true, Int.reduceLT, Int.reduceLE, Int.reduceToNat, Int.reduceEq, Int.reduceNeg, Nat.reduceAdd, Nat.reduceLT, Nat.reduceLeDiff, Nat.reduceMul, Nat.reduceSub, ↓evDraw_nil, bir, putD, evDraw, trace, List.all_cons, List.all_nil, chk, stAt, again, sameV, sameL, sameA, AV.undef, Bool.and_self, Bool.and_true, decide_eq_true_eq, List.getElem?_nil, AV.cells, AV.tup, Bool.true_and, true_and, and_true, List.drop_nil, List.append_nil, rd_put, rd_alloc, rdO, St.get_put, St.get_alloc, St.next_put, St.next_alloc, St.wr, Bool.and_self, Bool.and_true, List.length_cons, List.length_nil, List.take_succ_cons, List.take_zero, List.drop_succ_cons, List.drop_zero, List.cons_append, List.nil_append, Nat.zero_add, Nat.add_zero, Nat.reduceMul, aFill, evParts, rep, List.replicate_succ, List.replicate_zero, List.flatten_cons, List.flatten_nil, List.append_nil, newSl, newVar, r1, n1]
set_option maxHeartbeats 4000000 in
theorem T31 (h : Rq S F q ob rows b cut) {p : Option (Nat × Nat × Nat)} {e : Nat} {c : Option Nat} {l : List Nat} (hb : By S p e l) (hl : l.length ≤ 140737488355328) :
    ∃ S', evF Y AP (k + 8) 31 [pt q, .slice p l.length e c] S = some (.bool (putB rows b l), S') ∧ Fr S S' F ∧ Rq S' (Own S S' F) q ob (putR rows b l) b (putC rows b l cut) := by
  obtain ⟨pl, el, g, rg⟩ := h.li
  obtain ⟨n, hn⟩ : ∃ n, rows.length = n := ⟨_, rfl⟩
  rw [hn] at g
  have hrd : ∀ v' i' m', S.rd q v' i' m' = rdO (.cells [pt ob, .slice pl n el none, .int .i64 cut] 0 0 true) v' i' m' := rd_of g
  have hrb : ∀ v' i' m', S.rd ob v' i' m' = rdO (bk b) v' i' m' := rd_of h.gb
  have n16 := h.n16
  have hm : n ≤ 9223372036854775807 := by omega
  have hm2 : l.length ≤ 9223372036854775807 := by omega
  have w28 : IntKind.i64.wrap ((l.length : Int) + 28) = (l.length : Int) + 28 := w64_id (by omega) (by omega)
  have ownb : ∀ S', S.next ≤ S'.next → ∀ j, Own S S' F j → j < S'.next := fun S' hn j hj => hj.elim (fun hj => Nat.lt_of_lt_of_le (h.bd j hj) hn) fun hj => hj.2
  by_cases c1 : (16 : Int) ≤ n
  · have hp : putB rows b l = false := by simp only [putB, decide_eq_false_iff_not]; omega
    have u := Upd.one S q (.cells [pt ob, .slice pl n el none, .int .i64 (IntKind.i64.wrap (cut + 1))] 0 0 true)
    have Q := h.cells (rows' := rows) (by rw [hn]; exact u) n16 h.sz rg
    refine ⟨_, ?_, .of_upd u h.fq, ?_⟩
    · rw [evF_body (af := af31) rfl rfl rfl, hp]
      simp -implicitDefEqProofs -dsimp (maxSteps := 10000000) only [af31, ops_nil, ops_some, ops_none, oper_none, oper_some, gd_tt, gd_ff, gd_tf, gd_ft, gd_undef, ↓any_op, ↓any_call, ↓any_callV, ↓any_invoke, xo_t, xo_c, args_nil, args_cons, bin_add, bin_sub, bin_mul, bin_quo, bin_rem, bin_and, bin_or, bin_xor, bin_andNot, bin_eql, bin_neq, bin_lss, bin_leq, bin_gtr, bin_geq, bin_shl, bin_shr, bin_bools, bin_strs, bin_ptrs, bin_slices, bin_aggs, ↓Option.bind_some, ↓Option.map_some, ↓cond_true, ↓cond_false, evC, evOp, XO.lit, setArgs, Tr.tabG, Tr.tabS, Tr.tabL, Tr.get_lf, Option.bind_some, Option.map_some, cond_true, cond_false, maxI, maxFrom, minI, minFrom, aBinE, aEq, eqScal, aUn, evRes, fin, oneOf, if_true, if_false, callee, reduceCtorEq, Nat.reduceEqDiff, and_self, decide_true, decide_false, beq_true, beq_false, Bool.not_true, Bool.not_false, List.getElem?_cons_zero, List.getElem?_cons_succ, beq_self_eq_true, gt_iff_lt, ble_dec, beq_dec, List.head?_cons, AV.undef, eq_self, ne_eq, not_true_eq_false, not_false_eq_true, Int.reduceLT, Int.reduceLE, Int.reduceToNat, Int.reduceEq, Int.reduceNeg, Nat.reduceAdd, Nat.reduceLT, Nat.reduceLeDiff, Nat.reduceMul, Nat.reduceSub, ↓evDraw_nil, bir, putD, evDraw, trace, List.all_cons, List.all_nil, chk, stAt, again, sameV, sameL, sameA, AV.undef, Bool.and_self, Bool.and_true, decide_eq_true_eq, List.getElem?_nil, AV.cells, AV.tup, Bool.true_and, true_and, and_true, List.drop_nil, List.append_nil, rd_put, rd_alloc, rdO, St.get_put, St.get_alloc, St.next_put, St.next_alloc, St.wr, Bool.and_self, Bool.and_true, List.length_cons, List.length_nil, List.take_succ_cons, List.take_zero, List.drop_succ_cons, List.drop_zero, List.cons_append, List.nil_append, Nat.zero_add, Nat.add_zero, Nat.reduceMul, aFill, evParts, rep, List.replicate_succ, List.replicate_zero, List.flatten_cons, List.flatten_nil, List.append_nil, newSl, newVar, hrd, hm, c1, g]
    · simp only [putR, putC, hp, Bool.false_eq_true, if_false]
      exact Q.mono (fun _ hj => .inl hj) (ownb _ (by rw [u.next]; exact Nat.le_refl _))
  by_cases c2 : b.u < (l.length : Int) + 28
  · have hp : putB rows b l = false := by simp only [putB, decide_eq_false_iff_not]; omega
    have u := Upd.one S q (.cells [pt ob, .slice pl n el none, .int .i64 (IntKind.i64.wrap (cut + 1))] 0 0 true)
    have Q := h.cells (rows' := rows) (by rw [hn]; exact u) n16 h.sz rg
    refine ⟨_, ?_, .of_upd u h.fq, ?_⟩
    · rw [evF_body (af := af31) rfl rfl rfl, hp]
      simp -implicitDefEqProofs -dsimp (maxSteps := 10000000) only [af31, ops_nil, ops_some, ops_none, oper_none, oper_some, gd_tt, gd_ff, gd_tf, gd_ft, gd_undef, ↓any_op, ↓any_call, ↓any_callV, ↓any_invoke, xo_t, xo_c, args_nil, args_cons, bin_add, bin_sub, bin_mul, bin_quo, bin_rem, bin_and, bin_or, bin_xor, bin_andNot, bin_eql, bin_neq, bin_lss, bin_leq, bin_gtr, bin_geq, bin_shl, bin_shr, bin_bools, bin_strs, bin_ptrs, bin_slices, bin_aggs, ↓Option.bind_some, ↓Option.map_some, ↓cond_true, ↓cond_false, evC, evOp, XO.lit, setArgs, Tr.tabG, Tr.tabS, Tr.tabL, Tr.get_lf, Option.bind_some, Option.map_some, cond_true, cond_false, maxI, maxFrom, minI, minFrom, aBinE, aEq, eqScal, aUn, evRes, fin, oneOf, if_true, if_false, callee, reduceCtorEq, Nat.reduceEqDiff, and_self, decide_true, decide_false, beq_true, beq_false, Bool.not_true, Bool.not_false, List.getElem?_cons_zero, List.getElem?_cons_succ, beq_self_eq_true, gt_iff_lt, ble_dec, beq_dec, List.head?_cons, AV.undef, eq_self, ne_eq, not_true_eq_false, not_false_eq_true, Int.reduceLT, Int.reduceLE, Int.reduceToNat, Int.reduceEq, Int.reduceNeg, Nat.reduceAdd, Nat.reduceLT, Nat.reduceLeDiff, Nat.reduceMul, Nat.reduceSub, ↓evDraw_nil, bir, putD, evDraw, trace, List.all_cons, List.all_nil, chk, stAt, again, sameV, sameL, sameA, AV.undef, Bool.and_self, Bool.and_true, decide_eq_true_eq, List.getElem?_nil, AV.cells, AV.tup, Bool.true_and, true_and, and_true, List.drop_nil, List.append_nil, rd_put, rd_alloc, rdO, St.get_put, St.get_alloc, St.next_put, St.next_alloc, St.wr, Bool.and_self, Bool.and_true, List.length_cons, List.length_nil, List.take_succ_cons, List.take_zero, List.drop_succ_cons, List.drop_zero, List.cons_append, List.nil_append, Nat.zero_add, Nat.add_zero, Nat.reduceMul, aFill, evParts, rep, List.replicate_succ, List.replicate_zero, List.flatten_cons, List.flatten_nil, List.append_nil, newSl, newVar, hrd, hrb, bk, hm, hm2, w28, c1, c2, g]
    · simp only [putR, putC, hp, Bool.false_eq_true, if_false]
      exact Q.mono (fun _ hj => .inl hj) (ownb _ (by rw [u.next]; exact Nat.le_refl _))
  have hp : putB rows b l = true := by simp only [putB, decide_eq_true_eq]; omega
  have fq := h.bd _ h.fq
  obtain ⟨A, hA⟩ : ∃ A, S.alloc (.cells [] 0 0 true) = A := ⟨_, rfl⟩
  have eA : Ext S A := by rw [← hA]; exact .alloc _ _
  have nA : A.next = S.next + 1 := by rw [← hA]; rfl
  have gs0 : Gs S A (some (S.next, 0, 0)) 1 [] := by rw [← hA]; exact .empty S
  have no1 : ¬ q = S.next := by omega
  obtain ⟨p1, e1, S1, r1, gs1⟩ := gs0.app (m := rows) (by simp only [List.length_nil]; omega)
  simp only [List.length_nil, List.nil_append, Nat.zero_add] at r1 gs1
  rw [hn] at r1
  have n1 := gs1.ext.next
  obtain ⟨A2, hA2⟩ : ∃ A2, S1.alloc (.cells [.str l] 0 0 true) = A2 := ⟨_, rfl⟩
  have eA2 : Ext S1 A2 := by rw [← hA2]; exact .alloc _ _
  have nA2 : A2.next = S1.next + 1 := by rw [← hA2]; rfl
  obtain ⟨p3, e3, S3, r3, gs3⟩ := (gs1.more eA2).app (m := [l]) (by simp only [List.length_cons, List.length_nil]; omega)
  rw [hn] at r3
  have r3 : aAppend 1 16 A2 (.slice p1 n e1 none) 1 [.str l] = some (.slice p3 (n + 1) e3 none, S3) := r3
  have g3 : S3.get q = some (.cells [pt ob, .slice pl n el none, .int .i64 cut] 0 0 true) := gs3.ext.get fq g
  have s0 : aConv .bytesStr (.slice p l.length e c) S = some (.str l, S) := hb.str c
  have s1 : aConv .bytesStr (.slice p l.length e c) A = some (.str l, A) := (hb.ext eA).str c
  have s2 : aConv .bytesStr (.slice p l.length e c) S1 = some (.str l, S1) := (hb.ext gs1.ext).str c
  have s3 : aConv .bytesStr (.slice p l.length e c) A2 = some (.str l, A2) := (hb.ext (gs1.ext.trans eA2)).str c
  have hrdA : ∀ v' i' m', A.rd q v' i' m' = rdO (.cells [pt ob, .slice pl n el none, .int .i64 cut] 0 0 true) v' i' m' := rd_of (eA.get fq g)
  have hrd1 : ∀ v' i' m', S1.rd q v' i' m' = rdO (.cells [pt ob, .slice pl n el none, .int .i64 cut] 0 0 true) v' i' m' := rd_of (gs1.ext.get fq g)
  have hrdA2 : ∀ v' i' m', A2.rd q v' i' m' = rdO (.cells [pt ob, .slice pl n el none, .int .i64 cut] 0 0 true) v' i' m' := rd_of ((gs1.ext.trans eA2).get fq g)
  have hee : eqStr l l = true := by rw [eqStr_iff]; exact decide_eq_true rfl
  have hch : ∀ T : Tm, Tr.get T 39 = some (.str l) → chkB ⟨some 40, none, .buildSlice 1 [(.str [])] 1 [(0, (1, (.t 39)))]⟩ T = true := fun T h => by
    simp [chkB, AOper.tmps, AOp.tmps, tmpsP, XO.tmps, h, AV.pure, AV.pures, evOper, wanted, evOp, evParts, XO.ev, aFill, rep, newSl, St.get_alloc, putD, AV.cells, AV.tup, evAny, AOp.calls]
  have hrdS : A2.rd S1.next 0 0 1 = some [.str l] := by rw [← hA2, rd_alloc, if_pos rfl]; rfl
  have u := Upd.one S3 q (.cells [pt ob, .slice p3 (n + 1) e3 none, .int .i64 cut] 0 0 true)
  have fF : Fr S (S3.put q (.cells [pt ob, .slice p3 (n + 1) e3 none, .int .i64 cut] 0 0 true)) F := (Fr.of_ext gs3.ext F).then (.of_upd u h.fq)
  have n3 := gs3.ext.next
  refine ⟨_, ?_, fF, ?_⟩
  · rw [evF_body (af := af31) rfl rfl rfl, hp]
    rcases rg with ⟨rfl, rfl⟩ | ⟨o, v, i, rfl, rfl, ho, ho2, hx⟩
    · have r1 : aAppend 1 16 A (.slice (some (S.next, 0, 0)) 0 1 none) 0 [] = some (.slice p1 n e1 none, S1) := by rw [← r1, ← hn]; rfl
      simp -implicitDefEqProofs -dsimp (maxSteps := 10000000) only [af31, ops_nil, ops_some, ops_none, oper_none, oper_some, gd_tt, gd_ff, gd_tf, gd_ft, gd_undef, ↓any_op, ↓any_call, ↓any_callV, ↓any_invoke, xo_t, xo_c, args_nil, args_cons, bin_add, bin_sub, bin_mul, bin_quo, bin_rem, bin_and, bin_or, bin_xor, bin_andNot, bin_eql, bin_neq, bin_lss, bin_leq, bin_gtr, bin_geq, bin_shl, bin_shr, bin_bools, bin_strs, bin_ptrs, bin_slices, bin_aggs, ↓Option.bind_some, ↓Option.map_some, ↓cond_true, ↓cond_false, evC, evOp, XO.lit, setArgs, Tr.tabG, Tr.tabS, Tr.tabL, Tr.get_lf, Option.bind_some, Option.map_some, cond_true, cond_false, maxI, maxFrom, minI, minFrom, aBinE, aEq, eqScal, aUn, evRes, fin, oneOf, if_true, if_false, callee, reduceCtorEq, Nat.reduceEqDiff, and_self, decide_true, decide_false, beq_true, beq_false, Bool.not_true, Bool.not_false, List.getElem?_cons_zero, List.getElem?_cons_succ, beq_self_eq_true, gt_iff_lt, ble_dec, beq_dec, List.head?_cons, AV.undef, eq_self, ne_eq, not_true_eq_false, not_false_eq_true, Int.reduceLT, Int.reduceLE, Int.reduceToNat, Int.reduceEq, Int.reduceNeg, Nat.reduceAdd, Nat.reduceLT, Nat.reduceLeDiff, Nat.reduceMul, Nat.reduceSub, ↓evDraw_nil, bir, putD, evDraw, trace, List.all_cons, List.all_nil, chk, stAt, again, sameV, sameL, sameA, AV.undef, Bool.and_self, Bool.and_true, decide_eq_true_eq, List.getElem?_nil, AV.cells, AV.tup, Bool.true_and, true_and, and_true, List.drop_nil, List.append_nil, rd_put, rd_alloc, rdO, St.get_put, St.get_alloc, St.next_put, St.next_alloc, St.wr, Bool.and_self, Bool.and_true, List.length_cons, List.length_nil, List.take_succ_cons, List.take_zero, List.drop_succ_cons, List.drop_zero, List.cons_append, List.nil_append, Nat.zero_add, Nat.add_zero, Nat.reduceMul, aFill, evParts, rep, List.replicate_succ, List.replicate_zero, List.flatten_cons, List.flatten_nil, List.append_nil, newSl, newVar, hrd, hrb, bk, hm, hm2, w28, c1, c2, g, hA, no1, r1, hA2, r3, g3, s0, s1, s2, s3, hrdA, hrd1, hrdA2, hrdS, hee, hch]
    · rw [hn] at hx
      have hx' : A.rd o v i n = some (sv rows) := by rw [eA.rd ho2]; exact hx
      simp -implicitDefEqProofs -dsimp (maxSteps := 10000000) only [af31, ops_nil, ops_some, ops_none, oper_none, oper_some, gd_tt, gd_ff, gd_tf, gd_ft, gd_undef, ↓any_op, ↓any_call, ↓any_callV, ↓any_invoke, xo_t, xo_c, args_nil, args_cons, bin_add, bin_sub, bin_mul, bin_quo, bin_rem, bin_and, bin_or, bin_xor, bin_andNot, bin_eql, bin_neq, bin_lss, bin_leq, bin_gtr, bin_geq, bin_shl, bin_shr, bin_bools, bin_strs, bin_ptrs, bin_slices, bin_aggs, ↓Option.bind_some, ↓Option.map_some, ↓cond_true, ↓cond_false, evC, evOp, XO.lit, setArgs, Tr.tabG, Tr.tabS, Tr.tabL, Tr.get_lf, Option.bind_some, Option.map_some, cond_true, cond_false, maxI, maxFrom, minI, minFrom, aBinE, aEq, eqScal, aUn, evRes, fin, oneOf, if_true, if_false, callee, reduceCtorEq, Nat.reduceEqDiff, and_self, decide_true, decide_false, beq_true, beq_false, Bool.not_true, Bool.not_false, List.getElem?_cons_zero, List.getElem?_cons_succ, beq_self_eq_true, gt_iff_lt, ble_dec, beq_dec, List.head?_cons, AV.undef, eq_self, ne_eq, not_true_eq_false, not_false_eq_true, Int.reduceLT, Int.reduceLE, Int.reduceToNat, Int.reduceEq, Int.reduceNeg, Nat.reduceAdd, Nat.reduceLT, Nat.reduceLeDiff, Nat.reduceMul, Nat.reduceSub, ↓evDraw_nil, bir, putD, evDraw, trace, List.all_cons, List.all_nil, chk, stAt, again, sameV, sameL, sameA, AV.undef, Bool.and_self, Bool.and_true, decide_eq_true_eq, List.getElem?_nil, AV.cells, AV.tup, Bool.true_and, true_and, and_true, List.drop_nil, List.append_nil, rd_put, rd_alloc, rdO, St.get_put, St.get_alloc, St.next_put, St.next_alloc, St.wr, Bool.and_self, Bool.and_true, List.length_cons, List.length_nil, List.take_succ_cons, List.take_zero, List.drop_succ_cons, List.drop_zero, List.cons_append, List.nil_append, Nat.zero_add, Nat.add_zero, Nat.reduceMul, aFill, evParts, rep, List.replicate_succ, List.replicate_zero, List.flatten_cons, List.flatten_nil, List.append_nil, newSl, newVar, hrd, hrb, bk, hm, hm2, w28, c1, c2, g, hA, no1, r1, hA2, r3, g3, s0, s1, s2, s3, hrdA, hrd1, hrdA2, hrdS, hx, hx', Nat.mul_one, hee, hch]
  · simp only [putR, putC, hp, if_true]
    have Q := (h.fr (.of_ext gs3.ext fun _ => False) fun _ _ h => h).mono (F' := Own S S3 F) (fun _ hj => .inl hj) (ownb _ n3)
    refine Q.cells (p := p3) (e := e3) (rows' := rows ++ [l]) (by rw [List.length_append, hn]; exact u) (by rw [List.length_append]; simp only [List.length_cons, List.length_nil]; omega) ?_ ?_
    · intro x hx
      rcases List.mem_append.1 hx with hx | hx
      · exact h.sz x hx
      · rw [List.mem_singleton.1 hx]; exact hl
    · exact gs3.ss fun j h1 h2 => ⟨.inr ⟨h1, h2⟩, by omega, by have := h.bd _ h.fb; omega⟩
end
end Go.Proofs.YtkjmhhoioanolaaA
