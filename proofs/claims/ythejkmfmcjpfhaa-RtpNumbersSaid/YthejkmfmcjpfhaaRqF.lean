/- Chapter 3: RtpNumbers. Chapter 3: RtpNumbers. -/
import Derived.Test.YthejkmfmcjpfhaaRqE
set_option linter.unusedVariables false
set_option linter.unusedSimpArgs false
set_option maxRecDepth 10000
namespace Go.Proofs.YthejkmfmcjpfhaaA
open Go.RowKit
attribute [local congr] bind_congr1 map_congr1 cond_congr1 withX_congr after_congr br_congr gd_congr
theorem bv_set : ∀ (l : List Nat) (j : Nat) (f : Nat), j < l.length → List.take j (bv l) ++ AV.int .u8 (f : Int) :: List.drop (j + 1) (bv l) = bv (l.set j f)
  | b :: l, 0, f, _ => rfl
  | b :: l, j + 1, f, h => by
    have := bv_set l j f (by rw [List.length_cons] at h; omega)
    show AV.int .u8 (b : Int) :: (List.take j (bv l) ++ AV.int .u8 (f : Int) :: List.drop (j + 1) (bv l)) = AV.int .u8 (b : Int) :: bv (l.set j f)
    rw [this]
/-- A byte laid into a row. -/
theorem Gr.set {S0 S : St} {p : Option (Nat × Nat × Nat)} {e : Nat} {l : List Nat} (h : Gr S0 S p e l) {j f : Nat} (hj : j < l.length) (hf : f < 256) :
    ∃ o ver minv, p = some (o, ver, 0) ∧ e = 1 ∧ S0.next ≤ o ∧ o < S.next ∧ S.get o = some (.cells (bv l) ver minv true) ∧ minv ≤ ver ∧ Gr S0 (S.put o (.cells (bv (l.set j f)) ver ver true)) p e (l.set j f) := by
  rcases h.vec.at_ with ⟨_, h0⟩ | ⟨o, ver, minv, rfl, ho, hg, hv⟩
  · omega
  · have hz := h.vec.ez.resolve_left (by simp)
    have hn := h.new o ver 0 rfl
    refine ⟨o, ver, minv, rfl, hz, hn, ho, hg, hv, ⟨⟨.inr hz, by rw [bv_len, Nat.mul_one], .inr ⟨o, ver, ver, rfl, ho, by rw [St.get_put, if_pos rfl], Nat.le_refl _⟩⟩, h.ext.then_put hn _, h.new, fun y hy => ?_⟩⟩
    rcases List.mem_or_eq_of_mem_set hy with hy | rfl
    · exact h.bd y hy
    · exact hf
section
variable {Sq : St} {o2 : Nat} {P : Pk} {c e l : AV} (hq : Pv Sq P c e l) (gq : Sq.get o2 = some (.cells (pkc P c e l) 0 0 true)) (nq : o2 < Sq.next) (sz : P.cs.length ≤ 3 ∧ P.ex.length ≤ 80 ∧ P.pl.length ≤ 30)
/-! ### Each thing turned -/
structure I3b (Sq : St) (o2 : Nat) (kk : Int) (wh : Nat) (pl : Option (Nat × Nat × Nat)) (m : Nat) (T : Tm) (S : St) : Prop where
  ext : Ext Sq S
  t1 : T.get 1 = some (.int .i64 kk)
  t2 : T.get 2 = some (.ptr (some ⟨o2, 0, 0, 9⟩))
  t3 : T.get 3 = some (.int .i64 wh)
  t24 : T.get 24 = some (.slice pl 10 1 none)
  t25 : T.get 25 = some (.int .i64 10)
  sl : Sl S pl 10 [.int .i64]
  more : ∃ i : Nat, T.get 26 = some (.int .i64 i) ∧ i + m = 10
include hq gq nq sz in
set_option maxHeartbeats 4000000 in
theorem round3b (k : Nat) {kk : Int} {wh : Nat} {pl : Option (Nat × Nat × Nat)} (m : Nat) (T : Tm) (S : St) (hI : I3b Sq o2 kk wh pl m T S) :
    Goes (evF Y AP (k + 8000)) (k + 8000) af3_l2 T S (Then (fun T' S' => ∃ m', I3b Sq o2 kk wh pl m' T' S' ∧ id m' < id m) fun r T' S' => r = .exit 4 ∧ I3b Sq o2 kk wh pl 0 T' S') := by
  obtain ⟨ex, t1, t2, t3, t24, t25, sl, i, t26, hm⟩ := hI
  by_cases c1 : (i : Int) < 10
  rotate_left
  · obtain rfl : m = 0 := by omega
    simp -implicitDefEqProofs -dsimp (maxSteps := 10000000) only [af3_l2, ↓kS, after_some, br_true, br_false, kC, ↓kQ, ↓Option.bind_some, ↓Option.map_some, ↓cond_true, ↓cond_false, evC, evOp, XO.lit, setArgs, Tr.get_set, Option.bind_some, Option.map_some, cond_true, cond_false, maxI, maxFrom, minI, minFrom, aConv, aBinE, aEq, eqScal, aUn, evRes, fin, oneOf, if_true, if_false, callee, reduceCtorEq, Nat.reduceEqDiff, List.getElem?_cons_zero, List.getElem?_cons_succ, beq_self_eq_true, gt_iff_lt, List.head?_cons, AV.undef, eq_self, ne_eq, Int.reduceLT, Int.reduceLE, Int.reduceToNat, Int.reduceEq, Int.reduceNeg, Nat.reduceAdd, Nat.reduceLT, Nat.reduceLeDiff, Nat.reduceMul, Nat.reduceSub, kM, AV.cells, AV.tup, List.drop_nil, List.append_nil, rdO, St.wr, List.length_cons, List.length_nil, List.take_succ_cons, List.take_zero, List.drop_succ_cons, List.drop_zero, List.cons_append, List.nil_append, Nat.reduceMul, t25, t26, c1]
    refine ⟨ex, ?_, ?_, ?_, ?_, ?_, sl, i, ?_, hm⟩ <;> simp only [Tr.get_set, Nat.reduceEqDiff, if_false, if_true, t1, t2, t3, t24, t25, t26]
  have wi : IntKind.i64.wrap ((i : Int) + 1) = ((i + 1 : Nat) : Int) := w64_id (by omega) (by omega)
  have hix : ixOf (.int .i64 (i : Nat)) 10 = some i := by rw [ix_ok (by omega) (by omega)]; rfl
  obtain ⟨oo, vv, ii, rfl, ho⟩ := sl.at_ (by decide)
  obtain ⟨n, hz, wn⟩ := sl.int (j := (i : Int)) (by omega) (by omega)
  rw [show ((i : Nat) : Int).toNat = i from rfl, Nat.mul_one] at hz
  have r2 : ∀ {X : St}, Ext Sq X → ∀ v i m, X.rd o2 v i m = rdO (.cells (pkc P c e l) 0 0 true) v i m := fun x => rd_of (x.get nq gq)
  have q2 := r2 ex
  obtain ⟨p', c', e', l', S1, q11, h1, x1, s1, s2, s3⟩ := T11 (k + 7970) (hq.ext ex) (by omega) (what := (wh : Int)) (wf_i64 wn)
  have q11 : evF Y AP (k + 8000) 11 [.agg (pkc P c e l), .int .i64 (wh : Int), .int .i64 n] S = _ := q11
  obtain ⟨S2, q10, x2⟩ := T10 (k + 3000 - p'.cs.length - p'.ex.length - p'.pl.length) h1
  rw [show k + 3000 - p'.cs.length - p'.ex.length - p'.pl.length + p'.cs.length + p'.ex.length + p'.pl.length + 5000 = k + 8000 by omega] at q10
  have q2' := r2 (ex.trans (x1.trans x2))
  obtain ⟨S3, q10', x3⟩ := T10 (k + 3000 - P.cs.length - P.ex.length - P.pl.length) (hq.ext (ex.trans (x1.trans x2)))
  rw [show k + 3000 - P.cs.length - P.ex.length - P.pl.length + P.cs.length + P.ex.length + P.pl.length + 5000 = k + 8000 by omega] at q10'
  simp -implicitDefEqProofs -dsimp (maxSteps := 10000000) only [af3_l2, ↓kS, after_some, br_true, br_false, kC, ↓kQ, ↓Option.bind_some, ↓Option.map_some, ↓cond_true, ↓cond_false, evC, evOp, XO.lit, setArgs, Tr.get_set, Option.bind_some, Option.map_some, cond_true, cond_false, maxI, maxFrom, minI, minFrom, aConv, aBinE, aEq, eqScal, aUn, evRes, fin, oneOf, if_true, if_false, callee, reduceCtorEq, Nat.reduceEqDiff, List.getElem?_cons_zero, List.getElem?_cons_succ, beq_self_eq_true, gt_iff_lt, List.head?_cons, AV.undef, eq_self, ne_eq, Int.reduceLT, Int.reduceLE, Int.reduceToNat, Int.reduceEq, Int.reduceNeg, Nat.reduceAdd, Nat.reduceLT, Nat.reduceLeDiff, Nat.reduceMul, Nat.reduceSub, ↓evDraw_nil, bir, putD, evDraw, trace, List.all_cons, List.all_nil, chk, stAt, again, sameV, sameL, sameA, AV.undef, Bool.and_self, Bool.and_true, decide_eq_true_eq, List.getElem?_nil, kM, AV.cells, AV.tup, List.drop_nil, List.append_nil, rdO, St.wr, List.length_cons, List.length_nil, List.take_succ_cons, List.take_zero, List.drop_succ_cons, List.drop_zero, List.cons_append, List.nil_append, Nat.reduceMul, aFill, evParts, rep, List.replicate_succ, List.replicate_zero, List.flatten_cons, List.flatten_nil, List.append_nil, newSl, newVar, t2, t3, t24, t25, t26, c1, hix, Nat.mul_one, hz, q2, q11, q10, q2', q10', wi]
  refine ⟨m - 1, ⟨ex.trans (x1.trans (x2.trans x3)), ?_, ?_, ?_, ?_, ?_, sl.ext (x1.trans (x2.trans x3)), i + 1, ?_, by omega⟩, by show m - 1 < m; omega⟩ <;> simp only [Tr.get_set, Nat.reduceEqDiff, if_false, if_true, t1, t2, t3, t24, t25]
structure I3c (Sq : St) (o2 : Nat) (kk : Int) (m : Nat) (T : Tm) (S : St) : Prop where
  ext : Ext Sq S
  t1 : T.get 1 = some (.int .i64 kk)
  t2 : T.get 2 = some (.ptr (some ⟨o2, 0, 0, 9⟩))
  more : ∃ i : Nat, T.get 3 = some (.int .i64 i) ∧ i + m = 6
include hq gq nq sz in
set_option maxHeartbeats 4000000 in
theorem round3c (k : Nat) {kk : Int} (m : Nat) (T : Tm) (S : St) (hI : I3c Sq o2 kk m T S) :
    Goes (evF Y AP (k + 8000)) (k + 8000) af3_l3 T S (Then (fun T' S' => ∃ m', I3c Sq o2 kk m' T' S' ∧ id m' < id m) fun r T' S' => r = .exit 2 ∧ I3c Sq o2 kk 0 T' S') := by
  obtain ⟨ex, t1, t2, i, t3, hm⟩ := hI
  by_cases c1 : (i : Int) < 6
  rotate_left
  · obtain rfl : m = 0 := by omega
    simp -implicitDefEqProofs -dsimp (maxSteps := 10000000) only [af3_l3, ↓kS, after_some, br_true, br_false, kC, ↓kQ, ↓Option.bind_some, ↓Option.map_some, ↓cond_true, ↓cond_false, evC, evOp, XO.lit, setArgs, Tr.get_set, Option.bind_some, Option.map_some, cond_true, cond_false, maxI, maxFrom, minI, minFrom, aConv, aBinE, aEq, eqScal, aUn, evRes, fin, oneOf, if_true, if_false, callee, reduceCtorEq, Nat.reduceEqDiff, List.getElem?_cons_zero, List.getElem?_cons_succ, beq_self_eq_true, gt_iff_lt, List.head?_cons, AV.undef, eq_self, ne_eq, Int.reduceLT, Int.reduceLE, Int.reduceToNat, Int.reduceEq, Int.reduceNeg, Nat.reduceAdd, Nat.reduceLT, Nat.reduceLeDiff, Nat.reduceMul, Nat.reduceSub, kM, AV.cells, AV.tup, List.drop_nil, List.append_nil, rdO, St.wr, List.length_cons, List.length_nil, List.take_succ_cons, List.take_zero, List.drop_succ_cons, List.drop_zero, List.cons_append, List.nil_append, Nat.reduceMul, t3, c1]
    refine ⟨ex, ?_, ?_, i, ?_, hm⟩ <;> simp only [Tr.get_set, Nat.reduceEqDiff, if_false, if_true, t1, t2, t3]
  have wi : IntKind.i64.wrap ((i : Int) + 1) = ((i + 1 : Nat) : Int) := w64_id (by omega) (by omega)
  obtain ⟨B, hB⟩ : ∃ B, S.alloc (.cells [.int .i64 (-1), .int .i64 0, .int .i64 1, .int .i64 15, .int .i64 16, .int .i64 127, .int .i64 128, .int .i64 1200, .int .i64 1488, .int .i64 1489] 0 0 true) = B := ⟨_, rfl⟩
  have eB : Ext S B := by rw [← hB]; exact .alloc _ _
  have slB : Sl B (some (S.next, 0, 0)) 10 [.int .i64] := by rw [← hB]; exact Sl.lit S _ 10 [.int .i64] (by decide) rfl (by decide)
  simp -implicitDefEqProofs -dsimp (maxSteps := 10000000) only [af3_l3, ↓kS, after_some, br_true, br_false, kC, ↓kQ, ↓Option.bind_some, ↓Option.map_some, ↓cond_true, ↓cond_false, evC, evOp, XO.lit, setArgs, Tr.get_set, Option.bind_some, Option.map_some, cond_true, cond_false, maxI, maxFrom, minI, minFrom, aConv, aBinE, aEq, eqScal, aUn, evRes, fin, oneOf, if_true, if_false, callee, reduceCtorEq, Nat.reduceEqDiff, List.getElem?_cons_zero, List.getElem?_cons_succ, beq_self_eq_true, gt_iff_lt, List.head?_cons, AV.undef, eq_self, ne_eq, Int.reduceLT, Int.reduceLE, Int.reduceToNat, Int.reduceEq, Int.reduceNeg, Nat.reduceAdd, Nat.reduceLT, Nat.reduceLeDiff, Nat.reduceMul, Nat.reduceSub, ↓evDraw_nil, bir, putD, evDraw, trace, List.all_cons, List.all_nil, chk, stAt, again, sameV, sameL, sameA, AV.undef, Bool.and_self, Bool.and_true, decide_eq_true_eq, List.getElem?_nil, kM, AV.cells, AV.tup, List.drop_nil, List.append_nil, rdO, St.wr, List.length_cons, List.length_nil, List.take_succ_cons, List.take_zero, List.drop_succ_cons, List.drop_zero, List.cons_append, List.nil_append, Nat.reduceMul, aFill, evParts, rep, List.replicate_succ, List.replicate_zero, List.flatten_cons, List.flatten_nil, List.append_nil, newSl, newVar, t3, c1, hB]
  refine .while (I3b Sq o2 kk i (some (S.next, 0, 0))) id 10 ⟨ex.trans eB, ?_, ?_, ?_, ?_, ?_, slB, 0, ?_, rfl⟩ (by show 10 < k + 8000; omega) fun m2 T2 S2 h2 => (round3b hq gq nq sz k m2 T2 S2 h2).mono ?_
  rotate_right
  · intro r T' S' hx
    cases r with
    | normal => exact hx
    | ret => exact absurd hx.1 (by simp)
    | exit x =>
      obtain ⟨hi, ex', t1, t2, t3, t24, t25, sl, j, t26, hj⟩ := hx
      cases hi
      simp -implicitDefEqProofs -dsimp (maxSteps := 10000000) only [↓kS, after_some, br_true, br_false, kC, ↓kQ, ↓Option.bind_some, ↓Option.map_some, ↓cond_true, ↓cond_false, evC, evOp, XO.lit, setArgs, Tr.get_set, Option.bind_some, Option.map_some, cond_true, cond_false, maxI, maxFrom, minI, minFrom, aConv, aBinE, aEq, eqScal, aUn, evRes, fin, oneOf, if_true, if_false, callee, reduceCtorEq, Nat.reduceEqDiff, List.getElem?_cons_zero, List.getElem?_cons_succ, beq_self_eq_true, gt_iff_lt, List.head?_cons, AV.undef, eq_self, ne_eq, Int.reduceLT, Int.reduceLE, Int.reduceToNat, Int.reduceEq, Int.reduceNeg, Nat.reduceAdd, Nat.reduceLT, Nat.reduceLeDiff, Nat.reduceMul, Nat.reduceSub, ↓evDraw_nil, bir, putD, evDraw, trace, List.all_cons, List.all_nil, chk, stAt, again, sameV, sameL, sameA, AV.undef, Bool.and_self, Bool.and_true, decide_eq_true_eq, List.getElem?_nil, kM, AV.cells, AV.tup, List.drop_nil, List.append_nil, rdO, St.wr, List.length_cons, List.length_nil, List.take_succ_cons, List.take_zero, List.drop_succ_cons, List.drop_zero, List.cons_append, List.nil_append, Nat.reduceMul, aFill, evParts, rep, List.replicate_succ, List.replicate_zero, List.flatten_cons, List.flatten_nil, List.append_nil, newSl, newVar, t3, wi]
      refine ⟨m - 1, ⟨ex', ?_, ?_, i + 1, ?_, by omega⟩, by show m - 1 < m; omega⟩ <;> simp only [Tr.get_set, Nat.reduceEqDiff, if_false, if_true, t1, t2]
  all_goals simp only [Tr.get_set, Nat.reduceEqDiff, if_false, if_true, t1, t2, t3]
  all_goals rfl
end
/-! ### Cut off -/
structure I3d (Sq : St) (kk : Int) (pb : Option (Nat × Nat × Nat)) (eb : Nat) (cb : Option Nat) (b : List Nat) (m : Nat) (T : Tm) (S : St) : Prop where
  ext : Ext Sq S
  t1 : T.get 1 = some (.int .i64 kk)
  t6 : T.get 6 = some (.slice pb b.length eb cb)
  more : ∃ i : Nat, T.get 8 = some (.int .i64 i) ∧ i + m = b.length + 1
set_option maxHeartbeats 4000000 in
theorem round3d (k : Nat) {Sq : St} {kk : Int} {pb : Option (Nat × Nat × Nat)} {eb : Nat} {cb : Option Nat} {b : List Nat} (hb : By Sq pb eb b) (hl : b.length ≤ 1500) (m : Nat) (T : Tm) (S : St) (hI : I3d Sq kk pb eb cb b m T S) :
    Goes (evF Y AP (k + 8000)) (k + 8000) af3_l1 T S (Then (fun T' S' => ∃ m', I3d Sq kk pb eb cb b m' T' S' ∧ id m' < id m) fun r T' S' => r = .exit 6 ∧ ∃ m', I3d Sq kk pb eb cb b m' T' S') := by
  obtain ⟨ex, t1, t6, i, t8, hm⟩ := hI
  have hmx : b.length ≤ 9223372036854775807 := by omega
  by_cases c1 : (i : Int) ≤ (b.length : Int)
  rotate_left
  · simp -implicitDefEqProofs -dsimp (maxSteps := 10000000) only [af3_l1, ↓kS, after_some, br_true, br_false, kC, ↓kQ, ↓Option.bind_some, ↓Option.map_some, ↓cond_true, ↓cond_false, evC, evOp, XO.lit, setArgs, Tr.get_set, Option.bind_some, Option.map_some, cond_true, cond_false, maxI, maxFrom, minI, minFrom, aConv, aBinE, aEq, eqScal, aUn, evRes, fin, oneOf, if_true, if_false, callee, reduceCtorEq, Nat.reduceEqDiff, List.getElem?_cons_zero, List.getElem?_cons_succ, beq_self_eq_true, gt_iff_lt, List.head?_cons, AV.undef, eq_self, ne_eq, Int.reduceLT, Int.reduceLE, Int.reduceToNat, Int.reduceEq, Int.reduceNeg, Nat.reduceAdd, Nat.reduceLT, Nat.reduceLeDiff, Nat.reduceMul, Nat.reduceSub, kM, AV.cells, AV.tup, List.drop_nil, List.append_nil, rdO, St.wr, List.length_cons, List.length_nil, List.take_succ_cons, List.take_zero, List.drop_succ_cons, List.drop_zero, List.cons_append, List.nil_append, Nat.reduceMul, t1, t6, t8, hmx, c1]
    refine ⟨m, ex, ?_, ?_, i, ?_, hm⟩ <;> simp only [Tr.get_set, Nat.reduceEqDiff, if_false, if_true, t1, t6, t8]
  by_cases c2 : kk < 20
  rotate_left
  · simp -implicitDefEqProofs -dsimp (maxSteps := 10000000) only [af3_l1, ↓kS, after_some, br_true, br_false, kC, ↓kQ, ↓Option.bind_some, ↓Option.map_some, ↓cond_true, ↓cond_false, evC, evOp, XO.lit, setArgs, Tr.get_set, Option.bind_some, Option.map_some, cond_true, cond_false, maxI, maxFrom, minI, minFrom, aConv, aBinE, aEq, eqScal, aUn, evRes, fin, oneOf, if_true, if_false, callee, reduceCtorEq, Nat.reduceEqDiff, List.getElem?_cons_zero, List.getElem?_cons_succ, beq_self_eq_true, gt_iff_lt, List.head?_cons, AV.undef, eq_self, ne_eq, Int.reduceLT, Int.reduceLE, Int.reduceToNat, Int.reduceEq, Int.reduceNeg, Nat.reduceAdd, Nat.reduceLT, Nat.reduceLeDiff, Nat.reduceMul, Nat.reduceSub, kM, AV.cells, AV.tup, List.drop_nil, List.append_nil, rdO, St.wr, List.length_cons, List.length_nil, List.take_succ_cons, List.take_zero, List.drop_succ_cons, List.drop_zero, List.cons_append, List.nil_append, Nat.reduceMul, t1, t6, t8, hmx, c1, c2]
    refine ⟨m, ex, ?_, ?_, i, ?_, hm⟩ <;> simp only [Tr.get_set, Nat.reduceEqDiff, if_false, if_true, t1, t6, t8]
  have wi : IntKind.i64.wrap ((i : Int) + 1) = ((i + 1 : Nat) : Int) := w64_id (by omega) (by omega)
  obtain ⟨p', e', c', hcut, hy⟩ := (hb.ext ex).cut cb (lo := none) (hi := some (.int .i64 (i : Nat))) (a := 0) (b := i) (by rw [bnd_some (by omega) (by omega)]; rfl) (bnd_none _ _) (by omega) (by omega)
  rw [List.drop_zero, Nat.sub_zero] at hcut hy
  obtain ⟨S1, q13, x1⟩ := T13 (k + 4000) (c := c') hy
  have q13 : evF Y AP (k + 8000) 13 [.slice p' (List.take i b).length e' c'] S = _ := q13
  simp -implicitDefEqProofs -dsimp (maxSteps := 10000000) only [af3_l1, ↓kS, after_some, br_true, br_false, kC, ↓kQ, ↓Option.bind_some, ↓Option.map_some, ↓cond_true, ↓cond_false, evC, evOp, XO.lit, setArgs, Tr.get_set, Option.bind_some, Option.map_some, cond_true, cond_false, maxI, maxFrom, minI, minFrom, aConv, aBinE, aEq, eqScal, aUn, evRes, fin, oneOf, if_true, if_false, callee, reduceCtorEq, Nat.reduceEqDiff, List.getElem?_cons_zero, List.getElem?_cons_succ, beq_self_eq_true, gt_iff_lt, List.head?_cons, AV.undef, eq_self, ne_eq, Int.reduceLT, Int.reduceLE, Int.reduceToNat, Int.reduceEq, Int.reduceNeg, Nat.reduceAdd, Nat.reduceLT, Nat.reduceLeDiff, Nat.reduceMul, Nat.reduceSub, ↓evDraw_nil, bir, putD, evDraw, trace, List.all_cons, List.all_nil, chk, stAt, again, sameV, sameL, sameA, AV.undef, Bool.and_self, Bool.and_true, decide_eq_true_eq, List.getElem?_nil, kM, AV.cells, AV.tup, List.drop_nil, List.append_nil, rdO, St.wr, List.length_cons, List.length_nil, List.take_succ_cons, List.take_zero, List.drop_succ_cons, List.drop_zero, List.cons_append, List.nil_append, Nat.reduceMul, t1, t6, t8, hmx, c1, c2, evOpt, hcut, q13, wi]
  refine ⟨m - 1, ⟨ex.trans x1, ?_, ?_, i + 1, ?_, by omega⟩, by show m - 1 < m; omega⟩ <;> simp only [Tr.get_set, Nat.reduceEqDiff, if_false, if_true, t1, t6]
structure I3e (Sq : St) (kk : Int) (pb : Option (Nat × Nat × Nat)) (eb : Nat) (cb : Option Nat) (b : List Nat) (m : Nat) (T : Tm) (S : St) : Prop where
  ext : Ext Sq S
  t1 : T.get 1 = some (.int .i64 kk)
  t6 : T.get 6 = some (.slice pb b.length eb cb)
  more : ∃ f : Nat, T.get 9 = some (.int .i64 f) ∧ f + m = 300 ∧ f ≤ 290
set_option maxHeartbeats 8000000 in
theorem round3e (k : Nat) {Sq : St} {kk : Int} (hk : 0 ≤ kk ∧ kk < 60) {pb : Option (Nat × Nat × Nat)} {eb : Nat} {cb : Option Nat} {b : List Nat} (hb : By Sq pb eb b) (h0 : 12 ≤ b.length) (hl : b.length ≤ 1500) (m : Nat) (T : Tm) (S : St) (hI : I3e Sq kk pb eb cb b m T S) :
    Goes (evF Y AP (k + 8000)) (k + 8000) af3_l0 T S (Then (fun T' S' => ∃ m', I3e Sq kk pb eb cb b m' T' S' ∧ id m' < id m) fun r T' S' => r = .exit 8 ∧ ∃ m', I3e Sq kk pb eb cb b m' T' S') := by
  obtain ⟨ex, t1, t6, f, t9, hm, hf⟩ := hI
  by_cases c1 : (f : Int) < 256
  rotate_left
  · simp -implicitDefEqProofs -dsimp (maxSteps := 10000000) only [af3_l0, ↓kS, after_some, br_true, br_false, kC, ↓kQ, ↓Option.bind_some, ↓Option.map_some, ↓cond_true, ↓cond_false, evC, evOp, XO.lit, setArgs, Tr.get_set, Option.bind_some, Option.map_some, cond_true, cond_false, maxI, maxFrom, minI, minFrom, aConv, aBinE, aEq, eqScal, aUn, evRes, fin, oneOf, if_true, if_false, callee, reduceCtorEq, Nat.reduceEqDiff, List.getElem?_cons_zero, List.getElem?_cons_succ, beq_self_eq_true, gt_iff_lt, List.head?_cons, AV.undef, eq_self, ne_eq, Int.reduceLT, Int.reduceLE, Int.reduceToNat, Int.reduceEq, Int.reduceNeg, Nat.reduceAdd, Nat.reduceLT, Nat.reduceLeDiff, Nat.reduceMul, Nat.reduceSub, kM, AV.cells, AV.tup, List.drop_nil, List.append_nil, rdO, St.wr, List.length_cons, List.length_nil, List.take_succ_cons, List.take_zero, List.drop_succ_cons, List.drop_zero, List.cons_append, List.nil_append, Nat.reduceMul, t1, t6, t9, c1]
    refine ⟨m, ex, ?_, ?_, f, ?_, hm, hf⟩ <;> simp only [Tr.get_set, Nat.reduceEqDiff, if_false, if_true, t1, t6, t9]
  have hmx : b.length ≤ 9223372036854775807 := by omega
  have hbS := hb.ext ex
  obtain ⟨o, v, i, rfl, rfl, ho⟩ := hbS.some_ (by omega)
  obtain ⟨B, hB⟩ : ∃ B, S.alloc (.cells [] 0 0 true) = B := ⟨_, rfl⟩
  have eB : Ext S B := by rw [← hB]; exact .alloc _ _
  have hr := ((hbS.ext eB).at_ o v i rfl).2
  obtain ⟨p1, e1, S1, q1, G1⟩ := (Gr.empty S).app (m := b) hb.bd (by simp only [List.length_nil]; omega)
  rw [List.nil_append, hB] at q1
  rw [List.nil_append] at G1
  have q1 : aAppend 1 1 B (.slice (some (S.next, 0, 0)) 0 1 none) b.length (bv b) = _ := q1
  obtain ⟨b1, w1, hb1⟩ := u8_n (f : Int)
  obtain ⟨b2, w2, hb2⟩ := u8_n (IntKind.i64.wrap (kk * (f : Int)))
  obtain ⟨ox, ver, minv, rfl, rfl, hn, hox, g1, hv, G2⟩ := G1.set (j := 0) (f := b1) (by omega) hb1
  obtain ⟨S2, hS2⟩ : ∃ S2, S1.put ox (.cells (AV.int .u8 (b1 : Int) :: List.drop 1 (bv b)) ver ver true) = S2 := ⟨_, rfl⟩
  have hbs := bv_set b 0 b1 (by omega)
  rw [← hbs] at G2
  rw [show List.take 0 (bv b) ++ AV.int .u8 (b1 : Int) :: List.drop (0 + 1) (bv b) = AV.int .u8 (b1 : Int) :: List.drop 1 (bv b) from rfl, hS2] at G2
  have g2 : S2.get ox = some (.cells (bv (b.set 0 b1)) ver ver true) := by rw [← hS2, St.get_put, if_pos rfl, ← hbs]; rfl
  obtain ⟨b', hb'⟩ : ∃ b', b.set 0 b1 = b' := ⟨_, rfl⟩
  rw [hb'] at G2 g2
  have hl' : b'.length = b.length := by rw [← hb', List.length_set]
  obtain ⟨ox', ver', minv', hp', _, _, _, _, _, G3⟩ := G2.set (j := b.length - 1) (f := b2) (by omega) hb2
  cases hp'
  have hbs' := bv_set b' (b.length - 1) b2 (by omega)
  rw [← hbs'] at G3
  obtain ⟨S3, hS3⟩ : ∃ S3, S2.put ox (.cells (List.take (b.length - 1) (bv b') ++ AV.int .u8 (b2 : Int) :: List.drop (b.length - 1 + 1) (bv b')) ver ver true) = S3 := ⟨_, rfl⟩
  rw [hS3] at G3
  obtain ⟨b'', hb''⟩ : ∃ b'', b'.set (b.length - 1) b2 = b'' := ⟨_, rfl⟩
  rw [hb''] at G3
  have hl'' : b''.length = b.length := by rw [← hb'', List.length_set, hl']
  have l1 := eq_true (show 1 ≤ (bv b).length by rw [bv_len]; omega)
  have l2 := eq_true (show b.length - 1 + 1 ≤ (bv b').length by rw [bv_len]; omega)
  have wl : IntKind.i64.wrap ((b.length : Int) - 1) = ((b.length - 1 : Nat) : Int) := by rw [w64_id (by omega) (by omega)]; omega
  have hx0 : ixOf (.int .i64 0) b.length = some 0 := by rw [ix_ok (by omega) (by omega)]; rfl
  have hx1 : ixOf (.int .i64 ((b.length - 1 : Nat) : Int)) b.length = some (b.length - 1) := by rw [ix_ok (by omega) (by omega)]; rfl
  obtain ⟨S4, q4, x4⟩ := T13 (k + 4000) (c := none) (G3.by_ (by omega))
  rw [hl''] at q4
  have q4 : evF Y AP (k + 8000) 13 [.slice (some (ox, ver, 0)) b.length 1 none] S3 = _ := q4
  have g7 : ∃ g : Nat, Go.bits .and .i64 (f : Int) 7 = (g : Int) ∧ g < 256 := ⟨f % 8, by rw [show Go.bits .and .i64 (f : Int) 7 = (f : Int) % 8 from and_i64 3 (by decide) _]; omega, by omega⟩
  obtain ⟨g, hg, hg'⟩ := g7
  have w3 : IntKind.u8.wrap (g : Int) = (g : Int) := by rw [IntKind.wrap_u8]; omega
  obtain ⟨C, hC⟩ : ∃ C, S4.alloc (.cells [.int .u8 (g : Int)] 0 0 true) = C := ⟨_, rfl⟩
  have eC : Ext S4 C := by rw [← hC]; exact .alloc _ _
  have rC : C.rd S4.next 0 0 1 = some [.int .u8 (g : Int)] := by rw [← hC, rd_alloc, if_pos rfl]; rfl
  obtain ⟨p5, e5, S5, q5, G5⟩ := ((G3.more x4).more eC).app1 (b := g) hg' (by omega)
  rw [hl''] at q5
  obtain ⟨S6, q6, x6⟩ := T13 (k + 4000) (c := none) (G5.by_ (by rw [List.length_append, hl'']; simp only [List.length_cons, List.length_nil]; omega))
  have q6 : evF Y AP (k + 8000) 13 [.slice p5 (b.length + 1) e5 none] S5 = some (.bool true, S6) := by
    have h : (b'' ++ [g]).length = b.length + 1 := by rw [List.length_append, hl'']; rfl
    rw [h] at q6; exact q6
  have z3 : ¬ (3 : Int) = 0 := by decide
  obtain ⟨d, hd, hd'⟩ : ∃ d : Nat, Int.tmod kk 3 = (d : Int) ∧ d < 3 := ⟨(kk % 3).toNat, by rw [Int.tmod_eq_emod_of_nonneg hk.1]; omega, by omega⟩
  have wf1 : IntKind.i64.wrap ((f : Int) + 1) = ((f + 1 : Nat) : Int) := w64_id (by omega) (by omega)
  have wf2 : IntKind.i64.wrap (((f + 1 : Nat) : Int) + (d : Int)) = ((f + 1 + d : Nat) : Int) := w64_id (by omega) (by omega)
  simp -implicitDefEqProofs -dsimp (maxSteps := 10000000) only [af3_l0, ↓kS, after_some, br_true, br_false, kC, ↓kQ, ↓Option.bind_some, ↓Option.map_some, ↓cond_true, ↓cond_false, evC, evOp, XO.lit, setArgs, Tr.get_set, Option.bind_some, Option.map_some, cond_true, cond_false, maxI, maxFrom, minI, minFrom, aConv, aBinE, aEq, eqScal, aUn, evRes, fin, oneOf, if_true, if_false, callee, reduceCtorEq, Nat.reduceEqDiff, List.getElem?_cons_zero, List.getElem?_cons_succ, beq_self_eq_true, gt_iff_lt, List.head?_cons, AV.undef, eq_self, ne_eq, Int.reduceLT, Int.reduceLE, Int.reduceToNat, Int.reduceEq, Int.reduceNeg, Nat.reduceAdd, Nat.reduceLT, Nat.reduceLeDiff, Nat.reduceMul, Nat.reduceSub, ↓evDraw_nil, bir, putD, evDraw, trace, List.all_cons, List.all_nil, chk, stAt, again, sameV, sameL, sameA, AV.undef, Bool.and_self, Bool.and_true, decide_eq_true_eq, List.getElem?_nil, kM, AV.cells, AV.tup, List.drop_nil, List.append_nil, rdO, St.wr, List.length_cons, List.length_nil, List.take_succ_cons, List.take_zero, List.drop_succ_cons, List.drop_zero, List.cons_append, List.nil_append, Nat.reduceMul, aFill, evParts, rep, List.replicate_succ, List.replicate_zero, List.flatten_cons, List.flatten_nil, List.append_nil, newSl, newVar, t1, t6, t9, c1, hB, Nat.mul_one, hr, q1, w1, hmx, hx0, g1, hv, l1, hS2, wl, w2, hx1, g2, l2, hS3, q4, hg, w3, hC, rC, q5, q6, z3, hd, wf1, wf2, Nat.le_refl, List.append_assoc]
  refine ⟨m - 1 - d, ⟨ex.trans ((G5.ext).trans x6), ?_, ?_, f + 1 + d, ?_, by omega, by omega⟩, by show m - 1 - d < m; omega⟩ <;> simp only [Tr.get_set, Nat.reduceEqDiff, if_false, if_true, t1, t6]
structure I3f (S0 : St) (m : Nat) (T : Tm) (S : St) : Prop where
  ext : Ext S0 S
  more : ∃ n : Nat, T.get 1 = some (.int .i64 n) ∧ n + m = 60
theorem sizeP_rng {P : Pk} (ok : Ok0 P) : 12 ≤ (bytesP P).length ∧ (bytesP P).length ≤ 1500 := by
  have h := bytesP_len ok
  have h2 := ok.sz
  unfold sizeP at h h2
  split at h <;> simp_all <;> omega
set_option maxHeartbeats 8000000 in
theorem round3f (k : Nat) {S0 : St} (m : Nat) (T : Tm) (S : St) (hI : I3f S0 m T S) :
    Goes (evF Y AP (k + 8000)) (k + 8000) af3_l4 T S (Then (fun T' S' => ∃ m', I3f S0 m' T' S' ∧ id m' < id m) fun r T' S' => r = .exit 0 ∧ I3f S0 0 T' S') := by
  obtain ⟨ex, n, t1, hm⟩ := hI
  by_cases c1 : (n : Int) < 60
  rotate_left
  · obtain rfl : m = 0 := by omega
    simp -implicitDefEqProofs -dsimp (maxSteps := 10000000) only [af3_l4, ↓kS, after_some, br_true, br_false, kC, ↓kQ, ↓Option.bind_some, ↓Option.map_some, ↓cond_true, ↓cond_false, evC, evOp, XO.lit, setArgs, Tr.get_set, Option.bind_some, Option.map_some, cond_true, cond_false, maxI, maxFrom, minI, minFrom, aConv, aBinE, aEq, eqScal, aUn, evRes, fin, oneOf, if_true, if_false, callee, reduceCtorEq, Nat.reduceEqDiff, List.getElem?_cons_zero, List.getElem?_cons_succ, beq_self_eq_true, gt_iff_lt, List.head?_cons, AV.undef, eq_self, ne_eq, Int.reduceLT, Int.reduceLE, Int.reduceToNat, Int.reduceEq, Int.reduceNeg, Nat.reduceAdd, Nat.reduceLT, Nat.reduceLeDiff, Nat.reduceMul, Nat.reduceSub, kM, AV.cells, AV.tup, List.drop_nil, List.append_nil, rdO, St.wr, List.length_cons, List.length_nil, List.take_succ_cons, List.take_zero, List.drop_succ_cons, List.drop_zero, List.cons_append, List.nil_append, Nat.reduceMul, t1, c1]
    refine ⟨ex, n, ?_, hm⟩
    simp only [Tr.get_set, Nat.reduceEqDiff, if_false, if_true, t1]
  have wn : IntKind.i64.wrap ((n : Int) + 1) = ((n + 1 : Nat) : Int) := w64_id (by omega) (by omega)
  obtain ⟨pt, e, S1, q8, rfl, sl, hp, x1⟩ := T8 (k + 7499) S (n : Int)
  have q8 : evF Y AP (k + 8000) 8 [.int .i64 (n : Int)] S = _ := q8
  obtain ⟨A, hA⟩ : ∃ A, S1.alloc (.cells [.slice pt 400 1 none, .int .i64 0] 0 0 true) = A := ⟨_, rfl⟩
  have eA : Ext S1 A := by rw [← hA]; exact .alloc _ _
  have nA : A.next = S1.next + 1 := by rw [← hA]; rfl
  have tp : Tpe A pt 400 S1.next := ⟨sl.ext eA, fun o v i h => by have := (hp o v i h).2; omega, ⟨0, by rw [← hA, St.get_alloc, if_pos rfl]; rfl, by omega⟩, by omega⟩
  obtain ⟨w, S2, q9, P, c, e, l, rfl, hP, ok, s1, s2, s3, oT⟩ := T9 (k + 7870) tp fun o v i h => by have := (hp o v i h).2; omega
  have q9 : evF Y AP (k + 8000) 9 [.ptr (some ⟨S1.next, 0, 0, 2⟩)] A = _ := q9
  have x2 : Ext S S2 := oT.ext (x1.trans eA) fun o h => by rw [h]; exact x1.next
  obtain ⟨C, hC⟩ : ∃ C, S2.alloc (.cells [.bool false, .int .i64 0, .int .u16 0, .int .u32 0, .int .u32 0, .slice none 0 0 none, .int .u16 0, .slice none 0 0 none, .slice none 0 0 none] 0 0 true) = C := ⟨_, rfl⟩
  have gC : C.get S2.next = some (.cells [.bool false, .int .i64 0, .int .u16 0, .int .u32 0, .int .u32 0, .slice none 0 0 none, .int .u16 0, .slice none 0 0 none, .slice none 0 0 none] 0 0 true) := by rw [← hC, St.get_alloc, if_pos rfl]
  obtain ⟨D, hD⟩ : ∃ D, C.put S2.next (.cells (pkc P c e l) 0 0 true) = D := ⟨_, rfl⟩
  obtain ⟨xD, gD, nD⟩ : Ext S2 D ∧ D.get S2.next = some (.cells (pkc P c e l) 0 0 true) ∧ S2.next < D.next := by rw [← hD, ← hC]; exact put_new _ _ _
  have hD' := hP.ext xD
  simp -implicitDefEqProofs -dsimp (maxSteps := 10000000) only [af3_l4, ↓kS, after_some, br_true, br_false, kC, ↓kQ, ↓Option.bind_some, ↓Option.map_some, ↓cond_true, ↓cond_false, evC, evOp, XO.lit, setArgs, Tr.get_set, Option.bind_some, Option.map_some, cond_true, cond_false, maxI, maxFrom, minI, minFrom, aConv, aBinE, aEq, eqScal, aUn, evRes, fin, oneOf, if_true, if_false, callee, reduceCtorEq, Nat.reduceEqDiff, List.getElem?_cons_zero, List.getElem?_cons_succ, beq_self_eq_true, gt_iff_lt, List.head?_cons, AV.undef, eq_self, ne_eq, Int.reduceLT, Int.reduceLE, Int.reduceToNat, Int.reduceEq, Int.reduceNeg, Nat.reduceAdd, Nat.reduceLT, Nat.reduceLeDiff, Nat.reduceMul, Nat.reduceSub, ↓evDraw_nil, bir, putD, evDraw, trace, List.all_cons, List.all_nil, chk, stAt, again, sameV, sameL, sameA, AV.undef, Bool.and_self, Bool.and_true, decide_eq_true_eq, List.getElem?_nil, kM, AV.cells, AV.tup, List.drop_nil, List.append_nil, rdO, St.wr, List.length_cons, List.length_nil, List.take_succ_cons, List.take_zero, List.drop_succ_cons, List.drop_zero, List.cons_append, List.nil_append, Nat.reduceMul, aFill, evParts, rep, List.replicate_succ, List.replicate_zero, List.flatten_cons, List.flatten_nil, List.append_nil, newSl, newVar, t1, c1, q8, hA, q9, hC, gC, hD]
  refine .while (I3c D S2.next (n : Int)) id 6 ⟨.refl D, ?_, ?_, 0, ?_, rfl⟩ (by show 6 < k + 8000; omega) fun m2 T2 S3 h2 => (round3c hD' gD nD ⟨s1, s2, s3⟩ k m2 T2 S3 h2).mono ?_
  rotate_right
  · intro r T3 S3 hx
    cases r with
    | normal => exact hx
    | ret => exact absurd hx.1 (by simp)
    | exit x =>
      obtain ⟨hi, x3, t1, t2, j, t3, hj⟩ := hx
      cases hi
      have r3 : ∀ v i m, S3.rd S2.next v i m = rdO (.cells (pkc P c e l) 0 0 true) v i m := rd_of (x3.get nD gD)
      obtain ⟨v', S4, q12, N4⟩ := T12 (k + 7975) (hD'.ext x3)
      rw [if_pos (right_ok ok)] at N4
      rw [right_ok ok] at q12
      have q12 : evF Y AP (k + 8000) 12 [.agg (pkc P c e l)] S3 = _ := q12
      obtain ⟨pb, eb, cb, rfl, hb⟩ := N4.bs
      have hln := sizeP_rng ok
      simp -implicitDefEqProofs -dsimp (maxSteps := 10000000) only [↓kS, after_some, br_true, br_false, kC, ↓kQ, ↓Option.bind_some, ↓Option.map_some, ↓cond_true, ↓cond_false, evC, evOp, XO.lit, setArgs, Tr.get_set, Option.bind_some, Option.map_some, cond_true, cond_false, maxI, maxFrom, minI, minFrom, aConv, aBinE, aEq, eqScal, aUn, evRes, fin, oneOf, if_true, if_false, callee, reduceCtorEq, Nat.reduceEqDiff, List.getElem?_cons_zero, List.getElem?_cons_succ, beq_self_eq_true, gt_iff_lt, List.head?_cons, AV.undef, eq_self, ne_eq, Int.reduceLT, Int.reduceLE, Int.reduceToNat, Int.reduceEq, Int.reduceNeg, Nat.reduceAdd, Nat.reduceLT, Nat.reduceLeDiff, Nat.reduceMul, Nat.reduceSub, ↓evDraw_nil, bir, putD, evDraw, trace, List.all_cons, List.all_nil, chk, stAt, again, sameV, sameL, sameA, AV.undef, Bool.and_self, Bool.and_true, decide_eq_true_eq, List.getElem?_nil, kM, AV.cells, AV.tup, List.drop_nil, List.append_nil, rdO, St.wr, List.length_cons, List.length_nil, List.take_succ_cons, List.take_zero, List.drop_succ_cons, List.drop_zero, List.cons_append, List.nil_append, Nat.reduceMul, aFill, evParts, rep, List.replicate_succ, List.replicate_zero, List.flatten_cons, List.flatten_nil, List.append_nil, newSl, newVar, t1, t2, r3, q12]
      refine .while (I3d S4 (n : Int) pb eb cb (bytesP P)) id ((bytesP P).length + 1) ⟨.refl S4, ?_, ?_, 0, ?_, by omega⟩ (by show (bytesP P).length + 1 < k + 8000; omega) fun m5 T5 S5 h5 => (round3d k hb hln.2 m5 T5 S5 h5).mono ?_
      rotate_right
      · intro r T5 S5 hx
        cases r with
        | normal => exact hx
        | ret => exact absurd hx.1 (by simp)
        | exit x =>
          obtain ⟨hi, m5', x5, t1, t6, j, t8, hj⟩ := hx
          cases hi
          simp -implicitDefEqProofs -dsimp (maxSteps := 10000000) only [↓kS, after_some, br_true, br_false, kC, ↓kQ, ↓Option.bind_some, ↓Option.map_some, ↓cond_true, ↓cond_false, evC, evOp, XO.lit, setArgs, Tr.get_set, Option.bind_some, Option.map_some, cond_true, cond_false, maxI, maxFrom, minI, minFrom, aConv, aBinE, aEq, eqScal, aUn, evRes, fin, oneOf, if_true, if_false, callee, reduceCtorEq, Nat.reduceEqDiff, List.getElem?_cons_zero, List.getElem?_cons_succ, beq_self_eq_true, gt_iff_lt, List.head?_cons, AV.undef, eq_self, ne_eq, Int.reduceLT, Int.reduceLE, Int.reduceToNat, Int.reduceEq, Int.reduceNeg, Nat.reduceAdd, Nat.reduceLT, Nat.reduceLeDiff, Nat.reduceMul, Nat.reduceSub, ↓evDraw_nil, bir, putD, evDraw, trace, List.all_cons, List.all_nil, chk, stAt, again, sameV, sameL, sameA, AV.undef, Bool.and_self, Bool.and_true, decide_eq_true_eq, List.getElem?_nil, kM, AV.cells, AV.tup, List.drop_nil, List.append_nil, rdO, St.wr, List.length_cons, List.length_nil, List.take_succ_cons, List.take_zero, List.drop_succ_cons, List.drop_zero, List.cons_append, List.nil_append, Nat.reduceMul, aFill, evParts, rep, List.replicate_succ, List.replicate_zero, List.flatten_cons, List.flatten_nil, List.append_nil, newSl, newVar]
          refine .while (I3e S4 (n : Int) pb eb cb (bytesP P)) id 300 ⟨x5, ?_, ?_, 0, ?_, by omega, by omega⟩ (by show 300 < k + 8000; omega) fun m6 T6 S6 h6 => (round3e k ⟨by omega, c1⟩ hb hln.1 hln.2 m6 T6 S6 h6).mono ?_
          rotate_right
          · intro r T6 S6 hx
            cases r with
            | normal => exact hx
            | ret => exact absurd hx.1 (by simp)
            | exit x =>
              obtain ⟨hi, m6', x6, t1, t6, j, t9, hj⟩ := hx
              cases hi
              simp -implicitDefEqProofs -dsimp (maxSteps := 10000000) only [↓kS, after_some, br_true, br_false, kC, ↓kQ, ↓Option.bind_some, ↓Option.map_some, ↓cond_true, ↓cond_false, evC, evOp, XO.lit, setArgs, Tr.get_set, Option.bind_some, Option.map_some, cond_true, cond_false, maxI, maxFrom, minI, minFrom, aConv, aBinE, aEq, eqScal, aUn, evRes, fin, oneOf, if_true, if_false, callee, reduceCtorEq, Nat.reduceEqDiff, List.getElem?_cons_zero, List.getElem?_cons_succ, beq_self_eq_true, gt_iff_lt, List.head?_cons, AV.undef, eq_self, ne_eq, Int.reduceLT, Int.reduceLE, Int.reduceToNat, Int.reduceEq, Int.reduceNeg, Nat.reduceAdd, Nat.reduceLT, Nat.reduceLeDiff, Nat.reduceMul, Nat.reduceSub, ↓evDraw_nil, bir, putD, evDraw, trace, List.all_cons, List.all_nil, chk, stAt, again, sameV, sameL, sameA, AV.undef, Bool.and_self, Bool.and_true, decide_eq_true_eq, List.getElem?_nil, kM, AV.cells, AV.tup, List.drop_nil, List.append_nil, rdO, St.wr, List.length_cons, List.length_nil, List.take_succ_cons, List.take_zero, List.drop_succ_cons, List.drop_zero, List.cons_append, List.nil_append, Nat.reduceMul, aFill, evParts, rep, List.replicate_succ, List.replicate_zero, List.flatten_cons, List.flatten_nil, List.append_nil, newSl, newVar, t1, wn]
              refine ⟨m - 1, ⟨ex.trans (x2.trans (xD.trans (x3.trans (N4.ext.trans x6)))), n + 1, ?_, by omega⟩, by show m - 1 < m; omega⟩
              simp only [Tr.get_set, Nat.reduceEqDiff, if_false, if_true]
          all_goals simp only [Tr.get_set, Nat.reduceEqDiff, if_false, if_true, t1, t6]
          all_goals rfl
      all_goals simp only [Tr.get_set, Nat.reduceEqDiff, if_false, if_true, t1]
      all_goals rfl
  all_goals simp only [Tr.get_set, Nat.reduceEqDiff, if_false, if_true, t1]
  all_goals rfl
theorem rep1 (x : AV) : rep 1 [x] = [x] := rfl
theorem repb (j : Nat) : rep j [AV.int .u8 0] = bv (List.replicate j 0) := bv_rep j
set_option maxHeartbeats 8000000 in
theorem ev3 (k : Nat) (S : St) : ∃ S', evF Y AP (k + 8001) 3 [] S = some (.bool true, S') ∧ Ext S S' := by
  suffices hh : ∃ w S', evF Y AP (k + 8001) 3 [] S = some (w, S') ∧ w = .bool true ∧ Ext S S' by
    obtain ⟨w, S', h1, rfl, h2⟩ := hh; exact ⟨S', h1, h2⟩
  refine evF_goes (af := af3) (k := k + 8000) rfl rfl rfl ?_
  simp -implicitDefEqProofs -dsimp (maxSteps := 10000000) only [af3, ↓kS, after_some, br_true, br_false, kC, ↓kQ, ↓Option.bind_some, ↓Option.map_some, ↓cond_true, ↓cond_false, evC, evOp, XO.lit, setArgs, Tr.tabG, Tr.tabS, Tr.tabL, Tr.get_lf, Option.bind_some, Option.map_some, cond_true, cond_false, maxI, maxFrom, minI, minFrom, aConv, aBinE, aEq, eqScal, aUn, evRes, fin, oneOf, if_true, if_false, callee, reduceCtorEq, Nat.reduceEqDiff, List.getElem?_cons_zero, List.getElem?_cons_succ, beq_self_eq_true, gt_iff_lt, List.head?_cons, AV.undef, eq_self, ne_eq, Int.reduceLT, Int.reduceLE, Int.reduceToNat, Int.reduceEq, Int.reduceNeg, Nat.reduceAdd, Nat.reduceLT, Nat.reduceLeDiff, Nat.reduceMul, Nat.reduceSub]
  refine .while (I3f S) id 60 ⟨.refl S, 0, rfl, rfl⟩ (by show 60 < k + 8000; omega) fun m2 T2 S2 h2 => (round3f k m2 T2 S2 h2).mono ?_
  intro r T' S1 hq
  cases r with
  | normal => exact hq
  | ret => exact absurd hq.1 (by simp)
  | exit x =>
    obtain ⟨hi, x1, n, t1, hn⟩ := hq
    cases hi
    obtain ⟨z1, hz1⟩ : ∃ z, List.replicate 1501 0 = z := ⟨_, rfl⟩
    obtain ⟨z2, hz2⟩ : ∃ z, List.replicate 1499 0 = z := ⟨_, rfl⟩
    have l1 : z1.length = 1501 := by rw [← hz1, List.length_replicate]
    have l2 : z2.length = 1499 := by rw [← hz2, List.length_replicate]
    have b1 : Byt z1 := hz1 ▸ byt_rep 1501
    have b2 : Byt z2 := hz2 ▸ byt_rep 1499
    have p1 : rep 1501 [AV.int .u8 0] = bv z1 := by rw [repb, hz1]
    have p2 : rep 1499 [AV.int .u8 0] = bv z2 := by rw [repb, hz2]
    obtain ⟨A, hA⟩ : ∃ A, S1.alloc (.cells (bv z1) 0 0 true) = A := ⟨_, rfl⟩
    have eA : Ext S1 A := by rw [← hA]; exact .alloc _ _
    have bA : By A (some (S1.next, 0, 0)) 1 z1 := by rw [← hA]; exact .new S1 b1 (by omega)
    obtain ⟨S2, q2, x2⟩ := T13 (k + 4000) (c := none) bA
    rw [l1] at q2
    have q2 : evF Y AP (k + 8000) 13 [.slice (some (S1.next, 0, 0)) 1501 1 none] A = _ := q2
    obtain ⟨B, hB⟩ : ∃ B, S2.alloc (.cells [.int .u8 128] 0 0 true) = B := ⟨_, rfl⟩
    have gB : Gr S2 B (some (S2.next, 0, 0)) 1 [128] := by
      rw [← hB]
      exact ⟨⟨.inr rfl, rfl, .inr ⟨S2.next, 0, 0, rfl, Nat.lt_succ_self _, by rw [St.get_alloc, if_pos rfl]; rfl, Nat.le_refl _⟩⟩, .alloc _ _, fun o v i h => by cases h; exact Nat.le_refl _, fun y hy => by rw [List.mem_singleton] at hy; omega⟩
    obtain ⟨p3, e3, S3, q3, G3⟩ := gB.app b2 (by simp only [List.length_cons, List.length_nil]; omega)
    rw [List.length_append, l2] at q3
    have q3 : aAppend 1 1 B (.slice (some (S2.next, 0, 0)) 1 1 none) 1499 (bv z2) = some (.slice p3 1500 e3 none, S3) := q3
    obtain ⟨S4, q4, x4⟩ := T13 (k + 4000) (c := none) (G3.by_ (by rw [List.length_append, l2]; simp only [List.length_cons, List.length_nil]; omega))
    rw [List.length_append, l2] at q4
    have q4 : evF Y AP (k + 8000) 13 [.slice p3 1500 e3 none] S3 = _ := q4
    have q5 : evF Y AP (k + 8000) 14 [] S4 = _ := y14 (k + 7999) S4
    have h1501 : (1501 : Int) * ((1 : Nat) : Int) ≤ 281474976710656 := by decide
    simp -implicitDefEqProofs -dsimp (maxSteps := 10000000) only [↓kS, after_some, br_true, br_false, kC, ↓kQ, ↓Option.bind_some, ↓Option.map_some, ↓cond_true, ↓cond_false, evC, evOp, XO.lit, setArgs, Tr.get_set, Option.bind_some, Option.map_some, cond_true, cond_false, maxI, maxFrom, minI, minFrom, aConv, aBinE, aEq, eqScal, aUn, evRes, fin, oneOf, if_true, if_false, callee, reduceCtorEq, Nat.reduceEqDiff, List.getElem?_cons_zero, List.getElem?_cons_succ, beq_self_eq_true, gt_iff_lt, List.head?_cons, AV.undef, eq_self, ne_eq, Int.reduceLT, Int.reduceLE, Int.reduceToNat, Int.reduceEq, Int.reduceNeg, Nat.reduceAdd, Nat.reduceLT, Nat.reduceLeDiff, Nat.reduceMul, Nat.reduceSub, ↓evDraw_nil, bir, putD, evDraw, trace, List.all_cons, List.all_nil, chk, stAt, again, sameV, sameL, sameA, AV.undef, Bool.and_self, Bool.and_true, decide_eq_true_eq, List.getElem?_nil, kM, AV.cells, AV.tup, List.drop_nil, List.append_nil, rdO, St.wr, List.length_cons, List.length_nil, List.take_succ_cons, List.take_zero, List.drop_succ_cons, List.drop_zero, List.cons_append, List.nil_append, Nat.reduceMul, aFill, evParts, newSl, newVar, rep1, p1, p2, List.append_nil, hA, q2, hB, q3, q4, q5, h1501]
    exact ⟨_, _, rfl, rfl, x1.trans (eA.trans (x2.trans (G3.ext.trans x4)))⟩
theorem law3 : ∃ S', evF Y AP 8001 3 [] S0 = some (.bool true, S') := let ⟨S', h, _⟩ := ev3 0 S0; ⟨S', h⟩
end Go.Proofs.YthejkmfmcjpfhaaA
