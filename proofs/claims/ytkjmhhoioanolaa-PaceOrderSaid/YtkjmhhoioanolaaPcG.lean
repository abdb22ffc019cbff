/- Chapter 11: the reference's queue: Go; rows held against texts. -/
import Derived.Test.YtkjmhhoioanolaaPcF
set_option linter.unusedVariables false
set_option linter.unusedSimpArgs false
set_option maxRecDepth 10000
namespace Go.Proofs.YtkjmhhoioanolaaA
open Go.RowKit
attribute [local congr] bind_congr1 map_congr1 cond_congr1 withX_congr after_congr br_congr gd_congr

theorem Vec.fr {S S' : St} {G : Nat → Prop} {p : Option (Nat × Nat × Nat)} {len esz z : Nat} {c : List AV} (h : Vec S p len esz z c) (f : Fr S S' G) (hd : ∀ o v i, p = some (o, v, i) → ¬ G o) : Vec S' p len esz z c :=
  ⟨h.ez, h.sz, h.at_.imp_right fun ⟨o, ver, minv, h1, h2, h3, h4⟩ => ⟨o, ver, minv, h1, Nat.lt_of_lt_of_le h2 f.next, f.get h2 (hd _ _ _ h1) h3, h4⟩⟩
/-- A text more in a list of texts, that lies in N. -/
theorem vs_app {S : St} {N : Nat → Prop} {p : Option (Nat × Nat × Nat)} {e : Nat} {rows : List (List Nat)} (h : Vec S p rows.length 1 e (sv rows)) (hp : ∀ o v i, p = some (o, v, i) → N o) (hN : ∀ j, S.next ≤ j → N j) (l : List Nat) (hr : rows.length ≤ 100000) :
    ∃ p' S', aAppend 1 16 S (.slice p rows.length e none) 1 [.str l] = some (.slice p' (rows.length + 1) 1 none, S') ∧ Vec S' p' (rows ++ [l]).length 1 1 (sv (rows ++ [l])) ∧ (∀ o v i, p' = some (o, v, i) → N o) ∧ Fr S S' N := by
  obtain ⟨p', S', h1, h2, h3, h4⟩ := h.append (bytes := 16) (xs := [.str l]) (n := 1) rfl (by decide) (by omega)
  refine ⟨p', S', h1, by rw [List.length_append, sv_app]; exact h2, fun o v i e => ?_, h3.next, fun j hj hn => h3.old j hj fun v i e => hn (hp _ _ _ e)⟩
  rcases h4 o v i e with h5 | ⟨v', i', h5⟩
  · exact hN o h5
  · exact hp _ _ _ h5
structure IR (G : Nat → Prop) (q ob : Nat) (rows : List (List Nat)) (b : Bk) (cut : Int) (Sb : St) (m : Nat) (T : Tm) (S : St) : Prop where
  t0 : T.get 0 = some (pt q)
  fr : Fr Sb S G
  more : ∃ (out rest : List (List Nat)) (b' : Bk) (po : Option (Nat × Nat × Nat)) (eo : Nat) (G' : Nat → Prop), T.get 3 = some (.slice po out.length eo none) ∧ rest.length = m ∧ goL rows b = (out ++ (goL rest b').1, (goL rest b').2) ∧ Rq S G' q ob rest b' cut ∧
    Vec S po out.length 1 eo (sv out) ∧ (∀ o v i, po = some (o, v, i) → Sb.next ≤ o ∧ ¬ G' o) ∧ (∀ j, G' j → G j ∨ Sb.next ≤ j) ∧ (∀ j, G j → G' j) ∧ out.length + rest.length ≤ 16
set_option maxHeartbeats 8000000 in
theorem roundR (k : Nat) {G : Nat → Prop} {q ob : Nat} {rows : List (List Nat)} {b : Bk} {cut : Int} {Sb : St} (hF : ∀ j, G j → j < Sb.next) (hq : G q) (hob : G ob) (m : Nat) (T : Tm) (S : St) (hI : IR G q ob rows b cut Sb m T S) :
    Goes (evF Y AP (k + 19)) (k + 19) af27_l0 T S (Then (fun T' S' => ∃ m', IR G q ob rows b cut Sb m' T' S' ∧ id m' < id m) fun r T' S' => r = .exit 0 ∧ Fr Sb S' G ∧
      ∃ (po : Option (Nat × Nat × Nat)) (eo : Nat) (G' : Nat → Prop), T'.get 3 = some (.slice po (goL rows b).1.length eo none) ∧ Rq S' G' q ob (goL rows b).2.1 (goL rows b).2.2 cut ∧ Vec S' po (goL rows b).1.length 1 eo (sv (goL rows b).1) ∧ (∀ o v i, po = some (o, v, i) → Sb.next ≤ o) ∧ (∀ j, G' j → G j ∨ Sb.next ≤ j) ∧ (∀ j, G j → G' j)) := by
  obtain ⟨t0, fr, out, rest, b', po, eo, G', t3, hm, hg, h, vo, dis, gx, gs, hn⟩ := hI
  obtain ⟨p, e, g, rg⟩ := h.li
  obtain ⟨n, hl⟩ : ∃ n, rest.length = n := ⟨_, rfl⟩
  rw [hl] at g hn
  have hrd : ∀ v' i' m', S.rd q v' i' m' = rdO (.cells [pt ob, .slice p n e none, .int .i64 cut] 0 0 true) v' i' m' := rd_of g
  have hmx : n ≤ 9223372036854775807 := by omega
  rcases rest with _ | ⟨l, ls⟩
  · have c1 : ¬ (0 : Int) < (n : Int) := by rw [List.length_nil] at hl; omega
    simp -implicitDefEqProofs -dsimp (maxSteps := 10000000) only [af27_l0, ↓goes_loop, ↓goes_seq, ↓goes_reg, ↓goes_dreg, ↓goes_cond, ↓goes_block, ↓goes_skip, ↓goes_exit, ↓goes_ret, after_some, br_true, br_false, ↓then_normal, ↓then_exit, ↓then_ret, ↓blk_normal, ↓blk_exit, ↓blk_ret, ↓blk_other, ops_nil, ops_some, ops_none, oper_none, oper_some, gd_tt, gd_ff, gd_tf, gd_ft, gd_undef, ↓any_op, ↓any_call, ↓any_callV, ↓any_invoke, xo_t, xo_c, args_nil, args_cons, bin_add, bin_sub, bin_mul, bin_quo, bin_rem, bin_and, bin_or, bin_xor, bin_andNot, bin_eql, bin_neq, bin_lss, bin_leq, bin_gtr, bin_geq, bin_shl, bin_shr, bin_bools, bin_strs, bin_ptrs, bin_slices, bin_aggs, ↓Option.bind_some, ↓Option.map_some, ↓cond_true, ↓cond_false, evC, evOp, XO.lit, setArgs, Tr.get_set, Option.bind_some, Option.map_some, cond_true, cond_false, maxI, maxFrom, minI, minFrom, aConv, aBinE, aEq, eqScal, aUn, evRes, fin, oneOf, if_true, if_false, callee, reduceCtorEq, Nat.reduceEqDiff, and_self, decide_true, decide_false, beq_true, beq_false, Bool.not_true, Bool.not_false, List.getElem?_cons_zero, List.getElem?_cons_succ, beq_self_eq_true, gt_iff_lt, ble_dec, beq_dec, List.head?_cons, AV.undef, eq_self, ne_eq, not_true_eq_false, not_false_eq_true, Int.reduceLT, Int.reduceLE, Int.reduceToNat, Int.reduceEq, Int.reduceNeg, Nat.reduceAdd, Nat.reduceLT, Nat.reduceLeDiff, Nat.reduceMul, Nat.reduceSub, ↓evDraw_nil, bir, putD, evDraw, trace, List.all_cons, List.all_nil, chk, stAt, again, sameV, sameL, sameA, AV.undef, Bool.and_self, Bool.and_true, decide_eq_true_eq, List.getElem?_nil, AV.cells, AV.tup, Bool.true_and, true_and, and_true, List.drop_nil, List.append_nil, rd_put, rd_alloc, rdO, St.get_put, St.get_alloc, St.next_put, St.next_alloc, St.wr, Bool.and_self, Bool.and_true, List.length_cons, List.length_nil, List.take_succ_cons, List.take_zero, List.drop_succ_cons, List.drop_zero, List.cons_append, List.nil_append, Nat.zero_add, Nat.add_zero, Nat.reduceMul, aFill, evParts, rep, List.replicate_succ, List.replicate_zero, List.flatten_cons, List.flatten_nil, List.append_nil, newSl, newVar, t0, hrd, hmx, c1]
    have e1 : (goL rows b).1 = out := by rw [hg]; exact List.append_nil _
    have e2 : (goL rows b).2.1 = [] := by rw [hg]; rfl
    have e3 : (goL rows b).2.2 = b' := by rw [hg]; rfl
    rw [e1, e2, e3]
    exact ⟨fr, po, eo, G', t3, h, vo, fun o v i hp => (dis o v i hp).1, gx, gs⟩
  · rcases rg with ⟨_, hh⟩ | ⟨o, v, i, rfl, rfl, lo, ho, hx⟩
    · cases hh
    have hsz := h.sz l List.mem_cons_self
    have hm2 : l.length ≤ 9223372036854775807 := by omega
    have w28 : IntKind.i64.wrap ((l.length : Int) + 28) = (l.length : Int) + 28 := w64_id (by omega) (by omega)
    obtain ⟨S2, r2, u2⟩ := T36 (k + 15) h.ok h.gb (n := (l.length : Int) + 28) ⟨by omega, by omega⟩
    have r2 : evF Y AP (k + 19) 36 [pt ob, .int .i64 ((l.length : Int) + 28)] S = _ := r2
    have Q2 := h.bucket u2 (takeB_ok h.ok _)
    have f2 : Fr S S2 G := .of_upd u2 hob
    have n2 := u2.next
    have hl' : n = ls.length + 1 := by rw [← hl, List.length_cons]
    have c1 : (0 : Int) < (n : Int) := by omega
    have hix : ixOf (.int .i64 0) n = some 0 := by rw [ix_ok (by omega) (by omega)]; rfl
    rw [hl] at hx
    have hx1 : S.rd o v i 1 = some [.str l] := rd_sub (m := 0) (l := 1) hx (by omega)
    have hxt : S.rd o v (i + 1) ls.length = some (sv ls) := by
      have := rd_sub (m := 1) (l := ls.length) hx (by omega)
      rw [this]
      show some ((sv ls).take ls.length) = _
      rw [List.take_of_length_le (by rw [sv_len]; exact Nat.le_refl _)]
    have f2' : Fr S S2 (fun j => j = ob) := .of_upd u2 rfl
    have hx2 : S2.rd o v i 1 = some [.str l] := by rw [f2'.rd ho lo.2.2]; exact hx1
    have g2 : S2.get q = some (.cells [pt ob, .slice (some (o, v, i)) n 1 none, .int .i64 cut] 0 0 true) := by rw [u2.else h.ne]; exact g
    have hrd2 : ∀ v' i' m', S2.rd q v' i' m' = rdO (.cells [pt ob, .slice (some (o, v, i)) n 1 none, .int .i64 cut] 0 0 true) v' i' m' := rd_of g2
    have vo2 := vo.fr f2' (fun o v i hp he => (dis o v i hp).2 (he ▸ h.fb))
    by_cases c2 : goB b' ((l.length : Int) + 28) = true
    rotate_left
    · have c2' : goB b' ((l.length : Int) + 28) = false := by simpa using c2
      rw [c2'] at r2
      simp -implicitDefEqProofs -dsimp (maxSteps := 10000000) only [af27_l0, ↓goes_loop, ↓goes_seq, ↓goes_reg, ↓goes_dreg, ↓goes_cond, ↓goes_block, ↓goes_skip, ↓goes_exit, ↓goes_ret, after_some, br_true, br_false, ↓then_normal, ↓then_exit, ↓then_ret, ↓blk_normal, ↓blk_exit, ↓blk_ret, ↓blk_other, ops_nil, ops_some, ops_none, oper_none, oper_some, gd_tt, gd_ff, gd_tf, gd_ft, gd_undef, ↓any_op, ↓any_call, ↓any_callV, ↓any_invoke, xo_t, xo_c, args_nil, args_cons, bin_add, bin_sub, bin_mul, bin_quo, bin_rem, bin_and, bin_or, bin_xor, bin_andNot, bin_eql, bin_neq, bin_lss, bin_leq, bin_gtr, bin_geq, bin_shl, bin_shr, bin_bools, bin_strs, bin_ptrs, bin_slices, bin_aggs, ↓Option.bind_some, ↓Option.map_some, ↓cond_true, ↓cond_false, evC, evOp, XO.lit, setArgs, Tr.get_set, Option.bind_some, Option.map_some, cond_true, cond_false, maxI, maxFrom, minI, minFrom, aConv, aBinE, aEq, eqScal, aUn, evRes, fin, oneOf, if_true, if_false, callee, reduceCtorEq, Nat.reduceEqDiff, and_self, decide_true, decide_false, beq_true, beq_false, Bool.not_true, Bool.not_false, List.getElem?_cons_zero, List.getElem?_cons_succ, beq_self_eq_true, gt_iff_lt, ble_dec, beq_dec, List.head?_cons, AV.undef, eq_self, ne_eq, not_true_eq_false, not_false_eq_true, Int.reduceLT, Int.reduceLE, Int.reduceToNat, Int.reduceEq, Int.reduceNeg, Nat.reduceAdd, Nat.reduceLT, Nat.reduceLeDiff, Nat.reduceMul, Nat.reduceSub, ↓evDraw_nil, bir, putD, evDraw, trace, List.all_cons, List.all_nil, chk, stAt, again, sameV, sameL, sameA, AV.undef, Bool.and_self, Bool.and_true, decide_eq_true_eq, List.getElem?_nil, AV.cells, AV.tup, Bool.true_and, true_and, and_true, List.drop_nil, List.append_nil, rd_put, rd_alloc, rdO, St.get_put, St.get_alloc, St.next_put, St.next_alloc, St.wr, Bool.and_self, Bool.and_true, List.length_cons, List.length_nil, List.take_succ_cons, List.take_zero, List.drop_succ_cons, List.drop_zero, List.cons_append, List.nil_append, Nat.zero_add, Nat.add_zero, Nat.reduceMul, aFill, evParts, rep, List.replicate_succ, List.replicate_zero, List.flatten_cons, List.flatten_nil, List.append_nil, newSl, newVar, t0, hrd, hmx, hm2, w28, c1, hix, hx1, r2]
      have eg : goL (l :: ls) b' = ([], l :: ls, b') := by rw [goL, if_neg c2]
      have et : takeB b' ((l.length : Int) + 28) = b' := by rw [takeB, if_neg c2]
      have e1 : (goL rows b).1 = out := by rw [hg, eg]; exact List.append_nil _
      have e2 : (goL rows b).2.1 = l :: ls := by rw [hg, eg]
      have e3 : (goL rows b).2.2 = b' := by rw [hg, eg]
      rw [e1, e2, e3]
      rw [et] at Q2
      exact ⟨fr.then f2, po, eo, G', t3, Q2, vo2, fun o v i hp => (dis o v i hp).1, gx, gs⟩
    rw [c2] at r2
    have hq' := hF _ hq
    have hbn := fr.next
    have bd' := h.bd
    obtain ⟨A, hA⟩ : ∃ A, S2.alloc (.cells [.str l] 0 0 true) = A := ⟨_, rfl⟩
    have eA : Ext S2 A := by rw [← hA]; exact .alloc _ _
    have nA : A.next = S2.next + 1 := by rw [← hA]; rfl
    obtain ⟨p3, S3, r3, vo3, dis3, f3⟩ := vs_app (N := fun j => Sb.next ≤ j ∧ ¬ G' j) (vo2.ext eA) dis (fun j hj => ⟨by omega, fun hh => by have := bd' j hh; omega⟩) l (by omega)
    have n3 := f3.next
    have Q3 := (Q2.fr (.of_ext eA (fun _ => False)) fun _ _ h => h).fr f3 (fun j hj hh => hh.2 hj)
    have gA : A.get q = some (.cells [pt ob, .slice (some (o, v, i)) n 1 none, .int .i64 cut] 0 0 true) := eA.get (by omega) g2
    have g3 : S3.get q = some (.cells [pt ob, .slice (some (o, v, i)) n 1 none, .int .i64 cut] 0 0 true) := f3.get (by omega) (fun hh => hh.2 h.fq) gA
    have hrdA : A.rd S2.next 0 0 1 = some [.str l] := by rw [← hA, rd_alloc, if_pos rfl]; rfl
    obtain ⟨A3, hA3⟩ : ∃ A3, S3.alloc (.cells [] 0 0 true) = A3 := ⟨_, rfl⟩
    have eA3 : Ext S3 A3 := by rw [← hA3]; exact .alloc _ _
    have gA3 : A3.get q = some (.cells [pt ob, .slice (some (o, v, i)) n 1 none, .int .i64 cut] 0 0 true) := eA3.get (by omega) g3
    have hrd3 : ∀ v' i' m', A3.rd q v' i' m' = rdO (.cells [pt ob, .slice (some (o, v, i)) n 1 none, .int .i64 cut] 0 0 true) v' i' m' := rd_of gA3
    have hxt3 : A3.rd o v (i + 1) ls.length = some (sv ls) := by
      rw [eA3.rd (by omega), f3.rd (by omega) (fun hh => hh.2 lo.1), eA.rd (by omega), f2'.rd ho lo.2.2]
      exact hxt
    have gs0 : Gs S3 A3 (some (S3.next, 0, 0)) 1 [] := by rw [← hA3]; exact .empty S3
    obtain ⟨p4, e4, S4, r4, gs4⟩ := gs0.app (m := ls) (by simp only [List.length_nil]; omega)
    simp only [List.length_nil, List.nil_append, Nat.zero_add] at r4 gs4
    have n4 := gs4.ext.next
    have g4 : S4.get q = some (.cells [pt ob, .slice (some (o, v, i)) n 1 none, .int .i64 cut] 0 0 true) := gs4.ext.get (by omega) g3
    have u5 := Upd.one S4 q (.cells [pt ob, .slice p4 ls.length e4 none, .int .i64 cut] 0 0 true)
    have bd4 : ∀ j, (G' j ∨ S3.next ≤ j ∧ j < S4.next) → j < S4.next := fun j hj => by
      rcases hj with hj | hj
      · have := bd' j hj; omega
      · exact hj.2
    have Q4 := (Q3.fr (.of_ext gs4.ext (fun _ => False)) fun _ _ h => h).mono (F' := fun j => G' j ∨ S3.next ≤ j ∧ j < S4.next) (fun _ hj => .inl hj) bd4
    have Q5 := Q4.cells u5 (by omega) (fun y hy => h.sz y (List.mem_cons_of_mem _ hy)) (gs4.ss fun j h1 h2 => ⟨.inr ⟨h1, h2⟩, by omega, by have := bd' _ h.fb; omega⟩)
    have hc1 : aCut 1 (.slice (some (o, v, i)) n 1 none) (some (.int .i64 1)) none none = some (.slice (some (o, v, i + 1)) ls.length 1 none) := by rw [hl']; exact cut_one (by omega)
    have no1 : ¬ q = S3.next := by omega
    simp -implicitDefEqProofs -dsimp (maxSteps := 10000000) only [af27_l0, ↓goes_loop, ↓goes_seq, ↓goes_reg, ↓goes_dreg, ↓goes_cond, ↓goes_block, ↓goes_skip, ↓goes_exit, ↓goes_ret, after_some, br_true, br_false, ↓then_normal, ↓then_exit, ↓then_ret, ↓blk_normal, ↓blk_exit, ↓blk_ret, ↓blk_other, ops_nil, ops_some, ops_none, oper_none, oper_some, gd_tt, gd_ff, gd_tf, gd_ft, gd_undef, ↓any_op, ↓any_call, ↓any_callV, ↓any_invoke, xo_t, xo_c, args_nil, args_cons, bin_add, bin_sub, bin_mul, bin_quo, bin_rem, bin_and, bin_or, bin_xor, bin_andNot, bin_eql, bin_neq, bin_lss, bin_leq, bin_gtr, bin_geq, bin_shl, bin_shr, bin_bools, bin_strs, bin_ptrs, bin_slices, bin_aggs, ↓Option.bind_some, ↓Option.map_some, ↓cond_true, ↓cond_false, evC, evOp, XO.lit, setArgs, Tr.get_set, Option.bind_some, Option.map_some, cond_true, cond_false, maxI, maxFrom, minI, minFrom, aConv, aBinE, aEq, eqScal, aUn, evRes, fin, oneOf, if_true, if_false, callee, reduceCtorEq, Nat.reduceEqDiff, and_self, decide_true, decide_false, beq_true, beq_false, Bool.not_true, Bool.not_false, List.getElem?_cons_zero, List.getElem?_cons_succ, beq_self_eq_true, gt_iff_lt, ble_dec, beq_dec, List.head?_cons, AV.undef, eq_self, ne_eq, not_true_eq_false, not_false_eq_true, Int.reduceLT, Int.reduceLE, Int.reduceToNat, Int.reduceEq, Int.reduceNeg, Nat.reduceAdd, Nat.reduceLT, Nat.reduceLeDiff, Nat.reduceMul, Nat.reduceSub, ↓evDraw_nil, bir, putD, evDraw, trace, List.all_cons, List.all_nil, chk, stAt, again, sameV, sameL, sameA, AV.undef, Bool.and_self, Bool.and_true, decide_eq_true_eq, List.getElem?_nil, AV.cells, AV.tup, Bool.true_and, true_and, and_true, List.drop_nil, List.append_nil, rd_put, rd_alloc, rdO, St.get_put, St.get_alloc, St.next_put, St.next_alloc, St.wr, Bool.and_self, Bool.and_true, List.length_cons, List.length_nil, List.take_succ_cons, List.take_zero, List.drop_succ_cons, List.drop_zero, List.cons_append, List.nil_append, Nat.zero_add, Nat.add_zero, Nat.reduceMul, aFill, evParts, rep, List.replicate_succ, List.replicate_zero, List.flatten_cons, List.flatten_nil, List.append_nil, newSl, newVar, evOpt, t0, t3, hrd, hrd2, hrd3, hmx, hm2, w28, c1, hix, hx1, hx2, r2, hA, hrdA, r3, hA3, hc1, hxt3, r4, g4, no1, Nat.mul_one]
    refine ⟨ls.length, ⟨?_, ?_, out ++ [l], ls, takeB b' ((l.length : Int) + 28), p3, 1, fun j => G' j ∨ S3.next ≤ j ∧ j < S4.next, ?_, rfl, ?_, Q5, ?_, ?_, ?_, fun j hj => .inl (gs j hj), ?_⟩, by show ls.length < m; omega⟩
    · simp only [Tr.get_set, Nat.reduceEqDiff, if_false, if_true, t0]
    · exact (((fr.then f2).then (Fr.of_ext eA G)).trans (f3.mono fun j hj hl => .inr ⟨hl.1, hj⟩)).then ((Fr.of_ext gs4.ext G).then (.of_upd u5 hq))
    · simp only [Tr.get_set, Nat.reduceEqDiff, if_false, if_true, List.length_append, List.length_cons, List.length_nil]
    · rw [hg, goL, if_pos c2, List.append_assoc]; rfl
    · exact (vo3.ext gs4.ext).fr (.of_upd (G := fun j => j = q) u5 rfl) (fun o v i hp he => (dis3 o v i hp).2 (he ▸ h.fq))
    · intro o' v' i' hp
      obtain ⟨d1, d2⟩ := dis3 o' v' i' hp
      refine ⟨d1, fun hh => hh.elim d2 fun hh => ?_⟩
      rcases vo3.at_ with ⟨h1, _⟩ | ⟨o2, ver, minv, h1, h2, _⟩
      · rw [h1] at hp; cases hp
      · rw [h1] at hp; cases hp; omega
    · intro j hj
      rcases hj with hj | hj
      · exact gx j hj
      · exact .inr (by omega)
    · rw [List.length_append]; simp only [List.length_cons, List.length_nil]; omega
set_option maxHeartbeats 4000000 in
theorem T27 (k : Nat) {S : St} {G : Nat → Prop} {q ob : Nat} {rows : List (List Nat)} {b : Bk} {cut : Int} (h : Rq S G q ob rows b cut) :
    ∃ p e S', evF Y AP (k + 20) 27 [pt q] S = some (.slice p (goL rows b).1.length e none, S') ∧ Ss S' (Own S S' G) p e (goL rows b).1 ∧ Fr S S' G ∧ Rq S' (Own S S' G) q ob (goL rows b).2.1 (goL rows b).2.2 cut := by
  have n16 := h.n16
  suffices hh : ∃ v S', evF Y AP (k + 20) 27 [pt q] S = some (v, S') ∧ ∃ p e, v = .slice p (goL rows b).1.length e none ∧ Ss S' (Own S S' G) p e (goL rows b).1 ∧ Fr S S' G ∧ Rq S' (Own S S' G) q ob (goL rows b).2.1 (goL rows b).2.2 cut by
    obtain ⟨v, S', h1, p, e, rfl, h2⟩ := hh
    exact ⟨p, e, S', h1, h2⟩
  refine evF_goes (af := af27) (k := k + 19) rfl rfl rfl ?_
  simp -implicitDefEqProofs -dsimp (maxSteps := 10000000) only [af27, ↓goes_loop, ↓goes_seq, ↓goes_reg, ↓goes_dreg, ↓goes_cond, ↓goes_block, ↓goes_skip, ↓goes_exit, ↓goes_ret, after_some, br_true, br_false, ↓then_normal, ↓then_exit, ↓then_ret, ↓blk_normal, ↓blk_exit, ↓blk_ret, ↓blk_other, ops_nil, ops_some, ops_none, oper_none, oper_some, gd_tt, gd_ff, gd_tf, gd_ft, gd_undef, ↓any_op, ↓any_call, ↓any_callV, ↓any_invoke, xo_t, xo_c, args_nil, args_cons, bin_add, bin_sub, bin_mul, bin_quo, bin_rem, bin_and, bin_or, bin_xor, bin_andNot, bin_eql, bin_neq, bin_lss, bin_leq, bin_gtr, bin_geq, bin_shl, bin_shr, bin_bools, bin_strs, bin_ptrs, bin_slices, bin_aggs, ↓Option.bind_some, ↓Option.map_some, ↓cond_true, ↓cond_false, evC, evOp, XO.lit, setArgs, Tr.tabG, Tr.tabS, Tr.tabL, Tr.get_lf, Option.bind_some, Option.map_some, cond_true, cond_false, maxI, maxFrom, minI, minFrom, aConv, aBinE, aEq, eqScal, aUn, evRes, fin, oneOf, if_true, if_false, callee, reduceCtorEq, Nat.reduceEqDiff, and_self, decide_true, decide_false, beq_true, beq_false, Bool.not_true, Bool.not_false, List.getElem?_cons_zero, List.getElem?_cons_succ, beq_self_eq_true, gt_iff_lt, ble_dec, beq_dec, List.head?_cons, AV.undef, eq_self, ne_eq, not_true_eq_false, not_false_eq_true, Int.reduceLT, Int.reduceLE, Int.reduceToNat, Int.reduceEq, Int.reduceNeg, Nat.reduceAdd, Nat.reduceLT, Nat.reduceLeDiff, Nat.reduceMul, Nat.reduceSub]
  refine .while (IR G q ob rows b cut S) id rows.length ⟨rfl, .refl _ _, [], rows, b, none, 0, G, rfl, rfl, rfl, h, .nil _ _ _, fun o v i hp => (by cases hp), fun j hj => .inl hj, fun j hj => hj, by simpa using n16⟩ (by show rows.length < k + 19; omega) fun m2 T2 S2 h2 => (roundR k h.bd h.fq h.fb m2 T2 S2 h2).mono ?_
  intro r T' S' hq
  cases r with
  | normal => exact hq
  | ret => exact absurd hq.1 (by simp)
  | exit i =>
    obtain ⟨hi, fr, po, eo, G', t3, Q, vo, dis, gx, gs⟩ := hq
    cases hi
    simp -implicitDefEqProofs -dsimp (maxSteps := 10000000) only [↓goes_loop, ↓goes_seq, ↓goes_reg, ↓goes_dreg, ↓goes_cond, ↓goes_block, ↓goes_skip, ↓goes_exit, ↓goes_ret, after_some, br_true, br_false, ↓then_normal, ↓then_exit, ↓then_ret, ↓blk_normal, ↓blk_exit, ↓blk_ret, ↓blk_other, ops_nil, ops_some, ops_none, oper_none, oper_some, gd_tt, gd_ff, gd_tf, gd_ft, gd_undef, ↓any_op, ↓any_call, ↓any_callV, ↓any_invoke, xo_t, xo_c, args_nil, args_cons, bin_add, bin_sub, bin_mul, bin_quo, bin_rem, bin_and, bin_or, bin_xor, bin_andNot, bin_eql, bin_neq, bin_lss, bin_leq, bin_gtr, bin_geq, bin_shl, bin_shr, bin_bools, bin_strs, bin_ptrs, bin_slices, bin_aggs, ↓Option.bind_some, ↓Option.map_some, ↓cond_true, ↓cond_false, evC, evOp, XO.lit, setArgs, Tr.get_set, Option.bind_some, Option.map_some, cond_true, cond_false, maxI, maxFrom, minI, minFrom, aConv, aBinE, aEq, eqScal, aUn, evRes, fin, oneOf, if_true, if_false, callee, reduceCtorEq, Nat.reduceEqDiff, and_self, decide_true, decide_false, beq_true, beq_false, Bool.not_true, Bool.not_false, List.getElem?_cons_zero, List.getElem?_cons_succ, beq_self_eq_true, gt_iff_lt, ble_dec, beq_dec, List.head?_cons, AV.undef, eq_self, ne_eq, not_true_eq_false, not_false_eq_true, Int.reduceLT, Int.reduceLE, Int.reduceToNat, Int.reduceEq, Int.reduceNeg, Nat.reduceAdd, Nat.reduceLT, Nat.reduceLeDiff, Nat.reduceMul, Nat.reduceSub, AV.cells, AV.tup, Bool.true_and, true_and, and_true, List.drop_nil, List.append_nil, rd_put, rd_alloc, rdO, St.get_put, St.get_alloc, St.next_put, St.next_alloc, St.wr, Bool.and_self, Bool.and_true, List.length_cons, List.length_nil, List.take_succ_cons, List.take_zero, List.drop_succ_cons, List.drop_zero, List.cons_append, List.nil_append, Nat.zero_add, Nat.add_zero, Nat.reduceMul, t3]
    refine ⟨_, _, rfl, po, eo, rfl, ?_, fr, Q.mono (fun j hj => (gx j hj).imp_right fun hl => ⟨hl, Q.bd j hj⟩) fun j hj => hj.elim (fun hj => Q.bd j (gs j hj)) fun hj => hj.2⟩
    rcases vo.at_ with ⟨h1, h2⟩ | ⟨o, ver, minv, h1, h2, h3, h4⟩
    · exact .inl ⟨h1, List.length_eq_zero_iff.1 h2⟩
    · refine .inr ⟨o, ver, 0, h1, vo.ez.resolve_left (by rw [h1]; simp), .inr ⟨dis _ _ _ h1, h2⟩, h2, ?_⟩
      rw [rd_cells h3 h4 (by rw [sv_len]; omega), List.drop_zero, List.take_of_length_le (by rw [sv_len]; exact Nat.le_refl _)]
end Go.Proofs.YtkjmhhoioanolaaA
