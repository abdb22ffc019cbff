/- Chapter 3: what is read is in bounds; reads, same. Chapter 3: a tape that is read. Chapter 3: elements made of a tape, and written. -/
import Derived.Test.YthejkmfmcjpfhaaRqC
set_option linter.unusedVariables false
set_option linter.unusedSimpArgs false
set_option maxRecDepth 10000
namespace Go.Proofs.YthejkmfmcjpfhaaA
open Go.RowKit
attribute [local congr] bind_congr1 map_congr1 cond_congr1 withX_congr after_congr br_congr gd_congr
structure Rng (P : Pk) : Prop where
  ty : 0 ≤ P.ty ∧ P.ty ≤ 127
  sq : 0 ≤ P.sq ∧ P.sq < 65536
  tm : 0 ≤ P.tm ∧ P.tm < 4294967296
  ss : 0 ≤ P.ss ∧ P.ss < 4294967296
  pf : 0 ≤ P.pf ∧ P.pf < 65536
  cl : P.cs.length ≤ 15
  el : P.ex.length ≤ 1500
  ll : P.pl.length ≤ 1500
theorem zP_rng : Rng zP := ⟨by decide, by decide, by decide, by decide, by decide, by decide, by decide, by decide⟩
theorem finC_rng {l : List Nat} (hl : l.length ≤ 1500) {P : Pk} (h : Rng P) (n m : Nat) : Rng (finC l P n m).1 := by
  unfold finC
  split
  · exact zP_rng
  · exact ⟨h.ty, h.sq, h.tm, h.ss, h.pf, h.cl, h.el, by show (List.take _ _).length ≤ 1500; rw [List.length_take, List.length_drop]; omega⟩
theorem finB_rng {l : List Nat} (hl : l.length ≤ 1500) {P : Pk} (h : Rng P) (n : Nat) : Rng (finB l P n).1 := by
  unfold finB
  split
  · split
    · exact zP_rng
    · exact finC_rng hl h _ _
  · exact finC_rng hl h _ _
theorem finA_rng {l : List Nat} (hb : Byt l) (hl : l.length ≤ 1500) {P : Pk} (h : Rng P) (n : Nat) : Rng (finA l P n).1 := by
  unfold finA
  split
  · split
    · refine finB_rng hl (P := { P with pf := ((getL l (n : Int) 2 : Nat) : Int), ex := cutL l ((n + 4 : Nat) : Int) ((4 * getL l ((n + 2 : Nat) : Int) 2 : Nat) : Int) }) ⟨h.ty, h.sq, h.tm, h.ss, ?_, h.cl, ?_, h.ll⟩ _
      · have := getL_lt2 hb (n : Int)
        exact ⟨by show (0 : Int) ≤ ((getL l n 2 : Nat) : Int); omega, by show ((getL l n 2 : Nat) : Int) < 65536; omega⟩
      · show (cutL l _ _).length ≤ 1500
        have : (cutL l ((n + 4 : Nat) : Int) ((4 * getL l ((n + 2 : Nat) : Int) 2 : Nat) : Int)).length ≤ l.length := by
          by_cases hk : cutOk l ((n + 4 : Nat) : Int) ((4 * getL l ((n + 2 : Nat) : Int) 2 : Nat) : Int)
          · rw [cutL, if_pos hk]; exact Nat.le_trans (by rw [List.length_take]; exact Nat.min_le_right _ _) (by rw [List.length_drop]; exact Nat.sub_le _ _)
          · rw [cutL, if_neg hk]; exact Nat.zero_le _
        exact Nat.le_trans this hl
    · exact zP_rng
  · exact finB_rng hl h _
theorem readP_rng {l : List Nat} (hb : Byt l) : Rng (readP l).1 := by
  unfold readP
  split
  · exact zP_rng
  · split
    · exact zP_rng
    · split
      · exact zP_rng
      · split
        · exact zP_rng
        · refine finA_rng hb (by omega) ⟨?_, ?_, ?_, ?_, ⟨by show (0 : Int) ≤ 0; omega, by show (0 : Int) < 65536; omega⟩, ?_, by show 0 ≤ 1500; omega, by show 0 ≤ 1500; omega⟩ _
          · show (0 : Int) ≤ ((l.getD 1 0 % 128 : Nat) : Int) ∧ ((l.getD 1 0 % 128 : Nat) : Int) ≤ 127; omega
          · have := getL_lt2 hb 2; show (0 : Int) ≤ ((getL l 2 2 : Nat) : Int) ∧ ((getL l 2 2 : Nat) : Int) < 65536; omega
          · have := getL_lt4 hb 4; show (0 : Int) ≤ ((getL l 4 4 : Nat) : Int) ∧ ((getL l 4 4 : Nat) : Int) < 4294967296; omega
          · have := getL_lt4 hb 8; show (0 : Int) ≤ ((getL l 8 4 : Nat) : Int) ∧ ((getL l 8 4 : Nat) : Int) < 4294967296; omega
          · show (csP l (b0 l % 16)).length ≤ 15; rw [csP_len]; omega
theorem Rng.pv {P : Pk} (h : Rng P) {S : St} {c e l : AV} (hc : Us S c P.cs) (he : Bs S e P.ex) (hl : Bs S l P.pl) : Pv S P c e l :=
  ⟨hc, he, hl, ⟨by have := h.ty; omega, by have := h.ty; omega⟩, h.sq, h.tm, h.ss, h.pf, by have := h.cl; omega, by have := h.el; omega, by have := h.ll; omega⟩
/-- A new object that is filled at once. -/
theorem put_new (S : St) (x y : AO) : Ext S ((S.alloc x).put S.next y) ∧ ((S.alloc x).put S.next y).get S.next = some y ∧ S.next < ((S.alloc x).put S.next y).next :=
  ⟨(Ext.alloc S x).then_put (Nat.le_refl _) _, by rw [St.get_put, if_pos rfl], Nat.lt_succ_self _⟩
set_option maxHeartbeats 4000000 in
/-- reads -/
theorem T13 (k : Nat) {S : St} {p : Option (Nat × Nat × Nat)} {e : Nat} {c : Option Nat} {l : List Nat} (h : By S p e l) :
    ∃ S', evF Y AP (k + 4000) 13 [.slice p l.length e c] S = some (.bool true, S') ∧ Ext S S' := by
  have rng := readP_rng h.bd
  obtain ⟨w1, S1, q1, a1⟩ := T19 (k + 3977) (c := c) h
  obtain ⟨r, hr⟩ : ∃ r, readP l = r := ⟨_, rfl⟩
  rw [hr] at a1 rng
  obtain ⟨c1, e1, l1, rfl, u1, b1, y1, x1⟩ := a1
  obtain ⟨A, hA⟩ : ∃ A, S1.alloc (.cells [.bool false, .int .i64 0, .int .u16 0, .int .u32 0, .int .u32 0, .slice none 0 0 none, .int .u16 0, .slice none 0 0 none, .slice none 0 0 none] 0 0 true) = A := ⟨_, rfl⟩
  have gA : A.get S1.next = some (.cells [.bool false, .int .i64 0, .int .u16 0, .int .u32 0, .int .u32 0, .slice none 0 0 none, .int .u16 0, .slice none 0 0 none, .slice none 0 0 none] 0 0 true) := by rw [← hA, St.get_alloc, if_pos rfl]
  obtain ⟨A', hA'⟩ : ∃ A', A.put S1.next (.cells (pkc r.1 c1 e1 l1) 0 0 true) = A' := ⟨_, rfl⟩
  obtain ⟨xA, gA', nA⟩ : Ext S1 A' ∧ A'.get S1.next = some (.cells (pkc r.1 c1 e1 l1) 0 0 true) ∧ S1.next < A'.next := by rw [← hA', ← hA]; exact put_new _ _ _
  obtain ⟨w2, S2, q2, a2⟩ := T30 (k + 3977) (c := c) (h.ext (x1.trans xA))
  rw [hr] at a2
  obtain ⟨c2, e2, l2, rfl, u2, b2, y2, x2⟩ := a2
  obtain ⟨B, hB⟩ : ∃ B, S2.alloc (.cells [.bool false, .int .i64 0, .int .u16 0, .int .u32 0, .int .u32 0, .slice none 0 0 none, .int .u16 0, .slice none 0 0 none, .slice none 0 0 none] 0 0 true) = B := ⟨_, rfl⟩
  have gB : B.get S2.next = some (.cells [.bool false, .int .i64 0, .int .u16 0, .int .u32 0, .int .u32 0, .slice none 0 0 none, .int .u16 0, .slice none 0 0 none, .slice none 0 0 none] 0 0 true) := by rw [← hB, St.get_alloc, if_pos rfl]
  obtain ⟨B', hB'⟩ : ∃ B', B.put S2.next (.cells (pkc r.1 c2 e2 l2) 0 0 true) = B' := ⟨_, rfl⟩
  obtain ⟨xB, gB', nB⟩ : Ext S2 B' ∧ B'.get S2.next = some (.cells (pkc r.1 c2 e2 l2) 0 0 true) ∧ S2.next < B'.next := by rw [← hB', ← hB]; exact put_new _ _ _
  have x3 : Ext S1 B' := xA.trans (x2.trans xB)
  obtain ⟨f, hf⟩ : ∃ f, k + 3999 = f + r.1.cs.length + r.1.ex.length + r.1.pl.length + 4 := ⟨k + 3995 - r.1.cs.length - r.1.ex.length - r.1.pl.length, by have := rng.cl; have := rng.el; have := rng.ll; omega⟩
  obtain ⟨S3, q3, xS3⟩ := T17 f (rng.pv (u1.ext x3) (b1.ext x3) (y1.ext x3)) (rng.pv (u2.ext xB) (b2.ext xB) (y2.ext xB))
  rw [← hf] at q3
  have r1 : ∀ v i m, B'.rd S1.next v i m = rdO (.cells (pkc r.1 c1 e1 l1) 0 0 true) v i m := rd_of ((x2.trans xB).get nA gA')
  have r2 : ∀ v i m, B'.rd S2.next v i m = rdO (.cells (pkc r.1 c2 e2 l2) 0 0 true) v i m := rd_of gB'
  refine ⟨S3, ?_, x1.trans (x3.trans xS3)⟩
  rw [evF_body (af := af13) rfl rfl rfl]
  simp -implicitDefEqProofs -dsimp (maxSteps := 10000000) only [af13, kC, ↓kQ, ↓Option.bind_some, ↓Option.map_some, ↓cond_true, ↓cond_false, evC, evOp, XO.lit, setArgs, Tr.tabG, Tr.tabS, Tr.tabL, Tr.get_lf, Option.bind_some, Option.map_some, cond_true, cond_false, maxI, maxFrom, minI, minFrom, aConv, aBinE, aEq, eqScal, aUn, evRes, fin, oneOf, if_true, if_false, callee, reduceCtorEq, Nat.reduceEqDiff, List.getElem?_cons_zero, List.getElem?_cons_succ, beq_self_eq_true, gt_iff_lt, List.head?_cons, AV.undef, eq_self, ne_eq, Int.reduceLT, Int.reduceLE, Int.reduceToNat, Int.reduceEq, Int.reduceNeg, Nat.reduceAdd, Nat.reduceLT, Nat.reduceLeDiff, Nat.reduceMul, Nat.reduceSub, ↓evDraw_nil, bir, putD, evDraw, trace, List.all_cons, List.all_nil, chk, stAt, again, sameV, sameL, sameA, AV.undef, Bool.and_self, Bool.and_true, decide_eq_true_eq, List.getElem?_nil, kM, AV.cells, AV.tup, List.drop_nil, List.append_nil, rdO, St.wr, List.length_cons, List.length_nil, List.take_succ_cons, List.take_zero, List.drop_succ_cons, List.drop_zero, List.cons_append, List.nil_append, Nat.reduceMul, aFill, evParts, rep, List.replicate_succ, List.replicate_zero, List.flatten_cons, List.flatten_nil, List.append_nil, newSl, newVar, q1, hA, gA, hA', q2, hB, gB, hB', r1, r2, q3]
section
variable {S : St} {p : Pk} {c e l : AV}
set_option maxHeartbeats 4000000 in
/-- Size -/
theorem T20 (k : Nat) (h : Pv S p c e l) : ∃ S', evF Y AP (k + 5) 20 [.agg (pkc p c e l)] S = some (.int .i64 (if rightP p = 0 then sizeP p else 0), S') ∧ Ext S S' := by
  obtain ⟨A, hA⟩ : ∃ A, S.alloc (.cells (pkc p c e l) 0 0 true) = A := ⟨_, rfl⟩
  have eA : Ext S A := by rw [← hA]; exact .alloc _ _
  have nA : A.next = S.next + 1 := by rw [← hA]; rfl
  have rA : ∀ v i m, A.rd S.next v i m = rdO (.cells (pkc p c e l) 0 0 true) v i m := rd_of (by rw [← hA, St.get_alloc, if_pos rfl])
  obtain ⟨S1, q1, x1⟩ := T27 k (h.ext eA)
  have r1 : ∀ v i m, S1.rd S.next v i m = rdO (.cells (pkc p c e l) 0 0 true) v i m := fun v i m => by rw [x1.rd (by omega)]; exact rA v i m
  obtain ⟨S2, q2, x2⟩ := T37 (k + 1) (h.ext (eA.trans x1))
  by_cases c1 : rightP p = 0
  · rw [if_pos c1]
    refine ⟨S2, ?_, eA.trans (x1.trans x2)⟩
    rw [c1] at q1
    rw [evF_body (af := af20) rfl rfl rfl]
    simp -implicitDefEqProofs -dsimp (maxSteps := 10000000) only [af20, kC, ↓kQ, ↓Option.bind_some, ↓Option.map_some, ↓cond_true, ↓cond_false, evC, evOp, XO.lit, setArgs, Tr.tabG, Tr.tabS, Tr.tabL, Tr.get_lf, Option.bind_some, Option.map_some, cond_true, cond_false, maxI, maxFrom, minI, minFrom, aConv, aBinE, aEq, eqScal, aUn, evRes, fin, oneOf, if_true, if_false, callee, reduceCtorEq, Nat.reduceEqDiff, List.getElem?_cons_zero, List.getElem?_cons_succ, beq_self_eq_true, gt_iff_lt, List.head?_cons, AV.undef, eq_self, ne_eq, Int.reduceLT, Int.reduceLE, Int.reduceToNat, Int.reduceEq, Int.reduceNeg, Nat.reduceAdd, Nat.reduceLT, Nat.reduceLeDiff, Nat.reduceMul, Nat.reduceSub, ↓evDraw_nil, bir, putD, evDraw, trace, List.all_cons, List.all_nil, chk, stAt, again, sameV, sameL, sameA, AV.undef, Bool.and_self, Bool.and_true, decide_eq_true_eq, List.getElem?_nil, kM, AV.cells, AV.tup, List.drop_nil, List.append_nil, rdO, St.wr, List.length_cons, List.length_nil, List.take_succ_cons, List.take_zero, List.drop_succ_cons, List.drop_zero, List.cons_append, List.nil_append, Nat.reduceMul, aFill, evParts, rep, List.replicate_succ, List.replicate_zero, List.flatten_cons, List.flatten_nil, List.append_nil, newSl, newVar, hA, rA, q1, r1, q2]
  · rw [if_neg c1]
    refine ⟨S1, ?_, eA.trans x1⟩
    rw [evF_body (af := af20) rfl rfl rfl]
    simp -implicitDefEqProofs -dsimp (maxSteps := 10000000) only [af20, kC, ↓kQ, ↓Option.bind_some, ↓Option.map_some, ↓cond_true, ↓cond_false, evC, evOp, XO.lit, setArgs, Tr.tabG, Tr.tabS, Tr.tabL, Tr.get_lf, Option.bind_some, Option.map_some, cond_true, cond_false, maxI, maxFrom, minI, minFrom, aConv, aBinE, aEq, eqScal, aUn, evRes, fin, oneOf, if_true, if_false, callee, reduceCtorEq, Nat.reduceEqDiff, List.getElem?_cons_zero, List.getElem?_cons_succ, beq_self_eq_true, gt_iff_lt, List.head?_cons, AV.undef, eq_self, ne_eq, Int.reduceLT, Int.reduceLE, Int.reduceToNat, Int.reduceEq, Int.reduceNeg, Nat.reduceAdd, Nat.reduceLT, Nat.reduceLeDiff, Nat.reduceMul, Nat.reduceSub, ↓evDraw_nil, bir, putD, evDraw, trace, List.all_cons, List.all_nil, chk, stAt, again, sameV, sameL, sameA, AV.undef, Bool.and_self, Bool.and_true, decide_eq_true_eq, List.getElem?_nil, kM, AV.cells, AV.tup, List.drop_nil, List.append_nil, rdO, St.wr, List.length_cons, List.length_nil, List.take_succ_cons, List.take_zero, List.drop_succ_cons, List.drop_zero, List.cons_append, List.nil_append, Nat.reduceMul, aFill, evParts, rep, List.replicate_succ, List.replicate_zero, List.flatten_cons, List.flatten_nil, List.append_nil, newSl, newVar, hA, rA, q1, c1]
set_option maxHeartbeats 8000000 in
/-- same -/
theorem T10 (k : Nat) (h : Pv S p c e l) : ∃ S', evF Y AP (k + p.cs.length + p.ex.length + p.pl.length + 5000) 10 [.agg (pkc p c e l)] S = some (.bool true, S') ∧ Ext S S' := by
  obtain ⟨f, hf⟩ : ∃ f, k + p.cs.length + p.ex.length + p.pl.length + 5000 = f + 1 := ⟨_, rfl⟩
  rw [hf]
  obtain ⟨pc, ec, cc, rfl, _⟩ := h.c
  obtain ⟨pe, ee, ce, rfl, _⟩ := h.e
  obtain ⟨ql, el, cl, rfl, _⟩ := h.l
  obtain ⟨A, hA⟩ : ∃ A, S.alloc (.cells (pkc p (.slice pc p.cs.length ec cc) (.slice pe p.ex.length ee ce) (.slice ql p.pl.length el cl)) 0 0 true) = A := ⟨_, rfl⟩
  have eA : Ext S A := by rw [← hA]; exact .alloc _ _
  have nA : A.next = S.next + 1 := by rw [← hA]; rfl
  have rA : ∀ {S' : St}, Ext A S' → ∀ v i m, S'.rd S.next v i m = rdO (.cells (pkc p (.slice pc p.cs.length ec cc) (.slice pe p.ex.length ee ce) (.slice ql p.pl.length el cl)) 0 0 true) v i m := fun x v i m => by rw [x.rd (by omega)]; exact rd_of (by rw [← hA, St.get_alloc, if_pos rfl]) v i m
  have rA0 := rA (.refl A)
  obtain ⟨v1, S1, q1, n1⟩ := T18 (f - 25) (h.ext eA)
  rw [show f - 25 + 25 = f by omega] at q1
  have x1 := n1.ext
  obtain ⟨v2, S2, q2, n2⟩ := T12 (f - 25) (h.ext (eA.trans x1))
  rw [show f - 25 + 25 = f by omega] at q2
  have x2 := n2.ext
  obtain ⟨X, hX⟩ : ∃ X, (if rightP p = 0 then bytesP p else []) = X := ⟨_, rfl⟩
  rw [hX] at n1 n2
  have xA2 := x1.trans x2
  obtain ⟨S3, q3, x3⟩ := T27 (f - 4) (h.ext (eA.trans xA2))
  rw [show f - 4 + 4 = f by omega] at q3
  have xA3 := xA2.trans x3
  obtain ⟨S4, q4, x4⟩ := T28 (f - 4) (h.ext (eA.trans xA3))
  rw [show f - 4 + 4 = f by omega] at q4
  have xA4 := xA3.trans x4
  obtain ⟨S5, q5, x5⟩ := T20 (f - 5) (h.ext (eA.trans xA4))
  rw [show f - 5 + 5 = f by omega] at q5
  have xA5 := xA4.trans x5
  obtain ⟨S6, q6, x6⟩ := T16 (f - p.cs.length - p.ex.length - p.pl.length - 4) (h.ext (eA.trans xA5)) (h.ext (eA.trans xA5))
  rw [show f - p.cs.length - p.ex.length - p.pl.length - 4 + p.cs.length + p.ex.length + p.pl.length + 4 = f by omega] at q6
  have xA6 := xA5.trans x6
  have r1 := rA x1; have r2 := rA xA2; have r3 := rA xA3; have r4 := rA xA4; have r5 := rA xA5
  have s1 := (n1.bs.ext (x2.trans (x3.trans x4))).str
  have s2 := (n2.bs.ext (x3.trans x4)).str
  obtain ⟨p2, e2, c2, rfl, y2⟩ := n2.bs
  have hmx := y2.mx
  obtain ⟨S7, q7, x7⟩ := T13 (f - 4000) (c := c2) (y2.ext (x3.trans (x4.trans (x5.trans x6))))
  rw [show f - 4000 + 4000 = f by omega] at q7
  have hst : aStr .eql X X = some (.bool true) := by simp [aStr, eqStr_dec]
  by_cases c1 : rightP p = 0
  · have hl : sizeP p = (X.length : Int) := by rw [← hX, if_pos c1, bytesP_len (right0 c1)]
    rw [if_pos c1, hl] at q5
    refine ⟨S7, ?_, eA.trans (xA6.trans x7)⟩
    rw [c1] at q1 q2 q3 q4
    rw [evF_body (af := af10) rfl rfl rfl]
    simp -implicitDefEqProofs -dsimp (maxSteps := 10000000) only [af10, kC, ↓kQ, ↓Option.bind_some, ↓Option.map_some, ↓cond_true, ↓cond_false, evC, evOp, XO.lit, setArgs, Tr.tabG, Tr.tabS, Tr.tabL, Tr.get_lf, Option.bind_some, Option.map_some, cond_true, cond_false, maxI, maxFrom, minI, minFrom, aBinE, aEq, eqScal, aUn, evRes, fin, oneOf, if_true, if_false, callee, reduceCtorEq, Nat.reduceEqDiff, List.getElem?_cons_zero, List.getElem?_cons_succ, beq_self_eq_true, gt_iff_lt, List.head?_cons, AV.undef, eq_self, ne_eq, Int.reduceLT, Int.reduceLE, Int.reduceToNat, Int.reduceEq, Int.reduceNeg, Nat.reduceAdd, Nat.reduceLT, Nat.reduceLeDiff, Nat.reduceMul, Nat.reduceSub, ↓evDraw_nil, bir, putD, evDraw, trace, List.all_cons, List.all_nil, chk, stAt, again, sameV, sameL, sameA, AV.undef, Bool.and_self, Bool.and_true, decide_eq_true_eq, List.getElem?_nil, kM, AV.cells, AV.tup, List.drop_nil, List.append_nil, rdO, St.wr, List.length_cons, List.length_nil, List.take_succ_cons, List.take_zero, List.drop_succ_cons, List.drop_zero, List.cons_append, List.nil_append, Nat.reduceMul, aFill, evParts, rep, List.replicate_succ, List.replicate_zero, List.flatten_cons, List.flatten_nil, List.append_nil, newSl, newVar, hA, rA0, q1, r1, q2, r2, q3, r3, q4, s1, s2, hst, r4, hmx, q5, r5, q6, q7]
  · have hl : X = [] := by rw [← hX, if_neg c1]
    have hl0 : (0 : Int) = (X.length : Int) := by rw [hl]; rfl
    rw [if_neg c1, hl0] at q5
    refine ⟨S6, ?_, eA.trans xA6⟩
    rw [evF_body (af := af10) rfl rfl rfl]
    simp -implicitDefEqProofs -dsimp (maxSteps := 10000000) only [af10, kC, ↓kQ, ↓Option.bind_some, ↓Option.map_some, ↓cond_true, ↓cond_false, evC, evOp, XO.lit, setArgs, Tr.tabG, Tr.tabS, Tr.tabL, Tr.get_lf, Option.bind_some, Option.map_some, cond_true, cond_false, maxI, maxFrom, minI, minFrom, aBinE, aEq, eqScal, aUn, evRes, fin, oneOf, if_true, if_false, callee, reduceCtorEq, Nat.reduceEqDiff, List.getElem?_cons_zero, List.getElem?_cons_succ, beq_self_eq_true, gt_iff_lt, List.head?_cons, AV.undef, eq_self, ne_eq, Int.reduceLT, Int.reduceLE, Int.reduceToNat, Int.reduceEq, Int.reduceNeg, Nat.reduceAdd, Nat.reduceLT, Nat.reduceLeDiff, Nat.reduceMul, Nat.reduceSub, ↓evDraw_nil, bir, putD, evDraw, trace, List.all_cons, List.all_nil, chk, stAt, again, sameV, sameL, sameA, AV.undef, Bool.and_self, Bool.and_true, decide_eq_true_eq, List.getElem?_nil, kM, AV.cells, AV.tup, List.drop_nil, List.append_nil, rdO, St.wr, List.length_cons, List.length_nil, List.take_succ_cons, List.take_zero, List.drop_succ_cons, List.drop_zero, List.cons_append, List.nil_append, Nat.reduceMul, aFill, evParts, rep, List.replicate_succ, List.replicate_zero, List.flatten_cons, List.flatten_nil, List.append_nil, newSl, newVar, hA, rA0, q1, r1, q2, r2, q3, r3, q4, s1, s2, hst, r4, hmx, q5, r5, q6, c1]
end
theorem padL4 {l : List Nat} : (padL l 4).length % 4 = 0 ∧ (padL l 4).length ≤ l.length + 3 := by
  unfold padL
  rw [if_neg (by decide), List.length_append, List.length_replicate]
  exact ⟨padN_end l.length (t := 4) (by decide), by have := padN_lt l.length (t := 4) (by decide); have h4 : (4 : Int).toNat = 4 := rfl; rw [h4]; omega⟩
/-! ### A tape -/
abbrev pt2 (o : Nat) : AV := .ptr (some ⟨o, 0, 0, 2⟩)
def tape (p : Option (Nat × Nat × Nat)) (len : Nat) (j : Nat) : AO := .cells [.slice p len 1 none, .int .i64 j] 0 0 true
/-- A tape that lies in ot. -/
structure Tpe (S : St) (p : Option (Nat × Nat × Nat)) (len ot : Nat) : Prop where
  sl : Sl S p len [.int .i64]
  ne : ∀ o v i, p = some (o, v, i) → ¬ o = ot
  g : ∃ j, S.get ot = some (tape p len j) ∧ j ≤ len
  lt : ot < S.next
theorem Sl.old {N : Nat → Prop} {S S' : St} {p : Option (Nat × Nat × Nat)} {len : Nat} {ks : List Sc} (h : Sl S p len ks) (m : Old N S S') (hne : ∀ o' v i, p = some (o', v, i) → ¬ N o') : Sl S' p len ks := by
  refine ⟨fun h0 => ?_, h.max, fun o' v i hp j hj => ?_⟩
  · obtain ⟨o', v, i, hp, ho⟩ := h.at_ h0
    exact ⟨o', v, i, hp, Nat.lt_of_lt_of_le ho m.1⟩
  · obtain ⟨o2, v', i', hp', ho⟩ := h.at_ (by omega)
    rw [hp] at hp'
    cases hp'
    have := h.el o' v i hp j hj
    unfold St.rd at this ⊢
    rw [m.2 o' ho (hne _ _ _ hp)]
    exact this
theorem Tpe.old {N : Nat → Prop} {S S' : St} {p : Option (Nat × Nat × Nat)} {len ot : Nat} (h : Tpe S p len ot) (m : Old N S S') (h1 : ¬ N ot) (hne : ∀ o' v i, p = some (o', v, i) → ¬ N o') : Tpe S' p len ot :=
  ⟨h.sl.old m hne, h.ne, let ⟨j, g, hj⟩ := h.g; ⟨j, (m.2 ot h.lt h1).trans g, hj⟩, Nat.lt_of_lt_of_le h.lt m.1⟩
theorem Tpe.ext {S S' : St} {p : Option (Nat × Nat × Nat)} {len ot : Nat} (h : Tpe S p len ot) (x : Ext S S') : Tpe S' p len ot :=
  h.old (N := fun _ => False) (.of_ext x) (fun h => h) fun _ _ _ _ h => h
theorem Old.imp {N M : Nat → Prop} {S S' : St} (h : Old N S S') (hi : ∀ o, o < S.next → N o → M o) : Old M S S' := ⟨h.1, fun j hj hn => h.2 j hj fun hN => hn (hi j hj hN)⟩
theorem Old.ext {N : Nat → Prop} {Sb S S' : St} (h : Old N S S') (x : Ext Sb S) (hn : ∀ o, N o → Sb.next ≤ o) : Ext Sb S' :=
  ⟨Nat.le_trans x.next h.1, fun j hj => (h.2 j (Nat.lt_of_lt_of_le hj x.next) fun hN => by have := hn j hN; omega).trans (x.old j hj)⟩
theorem Old.grow {S S' : St} {p : Option (Nat × Nat × Nat)} (h : Grow S S' p) : Old (fun o => ∃ v i, p = some (o, v, i)) S S' := ⟨h.next, fun j hj hn => h.old j hj fun v i hp => hn ⟨v, i, hp⟩⟩
set_option maxHeartbeats 4000000 in
/-- Next -/
theorem T21 (k : Nat) {S : St} {p : Option (Nat × Nat × Nat)} {len ot : Nat} (h : Tpe S p len ot) {n : Int} (n0 : 1 ≤ n) (n1 : n ≤ 1073741824) :
    ∃ x S', evF Y AP (k + 6) 21 [pt2 ot, .int .i64 n] S = some (.int .i64 x, S') ∧ 0 ≤ x ∧ x < n ∧ Old (· = ot) S S' ∧ Tpe S' p len ot := by
  have hmx := h.sl.max
  obtain ⟨j, hg, hle⟩ := h.g
  have hrd : ∀ v i m, S.rd ot v i m = rdO (tape p len j) v i m := rd_of hg
  have n2 : ¬ n < 1 := by omega
  have n3 : ¬ n = 0 := by omega
  by_cases c1 : (len : Int) ≤ (j : Int)
  · refine ⟨0, S, ?_, by omega, by omega, .refl _ _, h⟩
    rw [evF_body (af := af21) rfl rfl rfl]
    simp -implicitDefEqProofs -dsimp (maxSteps := 10000000) only [af21, kC, ↓kQ, ↓Option.bind_some, ↓Option.map_some, ↓cond_true, ↓cond_false, evC, evOp, XO.lit, setArgs, Tr.tabG, Tr.tabS, Tr.tabL, Tr.get_lf, Option.bind_some, Option.map_some, cond_true, cond_false, maxI, maxFrom, minI, minFrom, aConv, aBinE, aEq, eqScal, aUn, evRes, fin, oneOf, if_true, if_false, callee, reduceCtorEq, Nat.reduceEqDiff, List.getElem?_cons_zero, List.getElem?_cons_succ, beq_self_eq_true, gt_iff_lt, List.head?_cons, AV.undef, eq_self, ne_eq, Int.reduceLT, Int.reduceLE, Int.reduceToNat, Int.reduceEq, Int.reduceNeg, Nat.reduceAdd, Nat.reduceLT, Nat.reduceLeDiff, Nat.reduceMul, Nat.reduceSub, ↓evDraw_nil, bir, putD, evDraw, trace, List.all_cons, List.all_nil, chk, stAt, again, sameV, sameL, sameA, AV.undef, Bool.and_self, Bool.and_true, decide_eq_true_eq, List.getElem?_nil, kM, AV.cells, AV.tup, List.drop_nil, List.append_nil, rdO, St.wr, List.length_cons, List.length_nil, List.take_succ_cons, List.take_zero, List.drop_succ_cons, List.drop_zero, List.cons_append, List.nil_append, Nat.reduceMul, aFill, evParts, rep, List.replicate_succ, List.replicate_zero, List.flatten_cons, List.flatten_nil, List.append_nil, newSl, newVar, hrd, tape, hmx, c1]
  · have hj : j < len := by omega
    obtain ⟨o, v, i, rfl, ho⟩ := h.sl.at_ (by omega)
    obtain ⟨x, hx, wx⟩ := h.sl.int (j := (j : Int)) (by omega) (by omega)
    rw [show ((j : Nat) : Int).toNat = j from rfl, Nat.mul_one] at hx
    have wj : IntKind.i64.wrap ((j : Int) + 1) = ((j + 1 : Nat) : Int) := w64_id (by omega) (by omega)
    have wj2 : IntKind.i64.wrap (((j + 1 : Nat) : Int) - 1) = (j : Int) := by rw [show ((j + 1 : Nat) : Int) - 1 = (j : Int) by omega]; exact w64_id (by omega) (by omega)
    have hix : ixOf (.int .i64 (j : Int)) len = some j := by rw [ix_ok (by omega) (by omega)]; rfl
    obtain ⟨A, hA⟩ : ∃ A, S.put ot (.cells [.slice (some (o, v, i)) len 1 none, .int .i64 ((j + 1 : Nat) : Int)] 0 0 true) = A := ⟨_, rfl⟩
    have gA : A.get ot = some (tape (some (o, v, i)) len (j + 1)) := by rw [← hA, St.get_put, if_pos rfl]; rfl
    have oA : Old (· = ot) S A := by rw [← hA]; exact .put (N := (· = ot)) _ rfl _
    have rA : ∀ v' i' m, A.rd ot v' i' m = rdO (tape (some (o, v, i)) len (j + 1)) v' i' m := rd_of gA
    have sA := h.sl.old oA h.ne
    have hxA : A.rd o v (i + j) 1 = some [.int .i64 x] := by unfold St.rd at hx ⊢; rw [oA.2 o ho (h.ne _ _ _ rfl)]; exact hx
    have r40 : evF Y AP (k + 5) 15 [.int .i64 x, .int .i64 0, .int .i64 1073741824] A = some (.int .i64 (within x 0 1073741824), A) := T15 (k + 1) A (by decide) (by decide) (by decide)
    have bw := within_bd x (show (0 : Int) ≤ 1073741824 by decide)
    obtain ⟨y, hy⟩ : ∃ y, within x 0 1073741824 = y := ⟨_, rfl⟩
    rw [hy] at r40 bw
    unfold tape at hg
    refine ⟨Int.tmod y n, A, ?_, Int.tmod_nonneg _ bw.1, Int.tmod_lt_of_pos _ (by omega), oA, ⟨sA, h.ne, ⟨j + 1, gA, by omega⟩, Nat.lt_of_lt_of_le h.lt oA.1⟩⟩
    rw [evF_body (af := af21) rfl rfl rfl]
    simp -implicitDefEqProofs -dsimp (maxSteps := 10000000) only [af21, kC, ↓kQ, ↓Option.bind_some, ↓Option.map_some, ↓cond_true, ↓cond_false, evC, evOp, XO.lit, setArgs, Tr.tabG, Tr.tabS, Tr.tabL, Tr.get_lf, Option.bind_some, Option.map_some, cond_true, cond_false, maxI, maxFrom, minI, minFrom, aConv, aBinE, aEq, eqScal, aUn, evRes, fin, oneOf, if_true, if_false, callee, reduceCtorEq, Nat.reduceEqDiff, List.getElem?_cons_zero, List.getElem?_cons_succ, beq_self_eq_true, gt_iff_lt, List.head?_cons, AV.undef, eq_self, ne_eq, Int.reduceLT, Int.reduceLE, Int.reduceToNat, Int.reduceEq, Int.reduceNeg, Nat.reduceAdd, Nat.reduceLT, Nat.reduceLeDiff, Nat.reduceMul, Nat.reduceSub, ↓evDraw_nil, bir, putD, evDraw, trace, List.all_cons, List.all_nil, chk, stAt, again, sameV, sameL, sameA, AV.undef, Bool.and_self, Bool.and_true, decide_eq_true_eq, List.getElem?_nil, kM, AV.cells, AV.tup, List.drop_nil, List.append_nil, rdO, St.wr, List.length_cons, List.length_nil, List.take_succ_cons, List.take_zero, List.drop_succ_cons, List.drop_zero, List.cons_append, List.nil_append, Nat.reduceMul, aFill, evParts, rep, List.replicate_succ, List.replicate_zero, List.flatten_cons, List.flatten_nil, List.append_nil, newSl, newVar, hrd, tape, hmx, c1, n2, n3, hg, wj, hA, rA, wj2, hix, Nat.mul_one, hxA, r40]
theorem u32_rng (n : Int) : 0 ≤ IntKind.u32.wrap n ∧ IntKind.u32.wrap n < 4294967296 := by rw [IntKind.wrap_u32]; omega
/-- Word -/
theorem T22 (k : Nat) {S : St} {p : Option (Nat × Nat × Nat)} {len ot : Nat} (h : Tpe S p len ot) :
    ∃ x S', evF Y AP (k + 7) 22 [pt2 ot] S = some (.int .u32 x, S') ∧ (0 ≤ x ∧ x < 4294967296) ∧ Old (· = ot) S S' ∧ Tpe S' p len ot := by
  obtain ⟨x1, S1, r1, a1, b1, o1, h1⟩ := T21 k h (n := 1048576) (by decide) (by decide)
  obtain ⟨x2, S2, r2, a2, b2, o2, h2⟩ := T21 k h1 (n := 4096) (by decide) (by decide)
  obtain ⟨x3, S3, r3, a3, b3, o3, h3⟩ := T21 k h2 (n := 5) (by decide) (by decide)
  suffices hh : ∃ w S', evF Y AP (k + 7) 22 [pt2 ot] S = some (w, S') ∧ S' = S3 ∧ ∃ x, w = .int .u32 (IntKind.u32.wrap x) by
    obtain ⟨_, _, h1, rfl, x, rfl⟩ := hh; exact ⟨_, _, h1, u32_rng _, (o1.trans o2).trans o3, h3⟩
  rw [evF_body (af := af22) rfl rfl rfl]
  simp -implicitDefEqProofs -dsimp (maxSteps := 10000000) only [af22, kC, ↓kQ, ↓Option.bind_some, ↓Option.map_some, ↓cond_true, ↓cond_false, evC, evOp, XO.lit, setArgs, Tr.tabG, Tr.tabS, Tr.tabL, Tr.get_lf, Option.bind_some, Option.map_some, cond_true, cond_false, maxI, maxFrom, minI, minFrom, aConv, aBinE, aEq, eqScal, aUn, evRes, fin, oneOf, if_true, if_false, callee, reduceCtorEq, Nat.reduceEqDiff, List.getElem?_cons_zero, List.getElem?_cons_succ, beq_self_eq_true, gt_iff_lt, List.head?_cons, AV.undef, eq_self, ne_eq, Int.reduceLT, Int.reduceLE, Int.reduceToNat, Int.reduceEq, Int.reduceNeg, Nat.reduceAdd, Nat.reduceLT, Nat.reduceLeDiff, Nat.reduceMul, Nat.reduceSub, kM, AV.cells, AV.tup, List.drop_nil, List.append_nil, rdO, St.wr, List.length_cons, List.length_nil, List.take_succ_cons, List.take_zero, List.drop_succ_cons, List.drop_zero, List.cons_append, List.nil_append, Nat.reduceMul, r1, r2, r3]
  exact ⟨_, _, rfl, rfl, _, rfl⟩
/-- A row that was made while a tape was read. -/
structure Gt (Sb S : St) (ot : Nat) (p : Option (Nat × Nat × Nat)) (e : Nat) (l : List Nat) : Prop where
  vec : Vec S p l.length 1 e (bv l)
  old : Old (· = ot) Sb S
  new : ∀ o v i, p = some (o, v, i) → Sb.next ≤ o
  bd : Byt l
theorem Vec.els' {N : Nat → Prop} {S S' : St} {p : Option (Nat × Nat × Nat)} {len esz z : Nat} {c : List AV} (h : Vec S p len esz z c) (m : Old N S S') (hn : ∀ o v i, p = some (o, v, i) → ¬ N o) : Vec S' p len esz z c :=
  h.els m.1 fun o v i hp ho => m.2 o ho (hn o v i hp)
theorem Gt.by_ {Sb S : St} {ot : Nat} {p : Option (Nat × Nat × Nat)} {e : Nat} {l : List Nat} (h : Gt Sb S ot p e l) (hm : l.length ≤ 9223372036854775807) : By S p e l := by
  refine ⟨h.vec.ez, fun hp => ?_, fun o v i hp => ?_, h.bd, hm⟩
  · rcases h.vec.at_ with ⟨_, h0⟩ | ⟨o, ver, minv, hp', _⟩
    · exact List.length_eq_zero_iff.1 h0
    · rw [hp] at hp'; cases hp'
  · rcases h.vec.at_ with ⟨hp', _⟩ | ⟨o', ver, minv, hp', h1, h2, h3⟩
    · rw [hp] at hp'; cases hp'
    · rw [hp] at hp'; cases hp'
      refine ⟨h1, ?_⟩
      rw [rd_cells h2 h3 (by rw [bv_len]; omega), List.drop_zero, List.take_of_length_le (by rw [bv_len]; exact Nat.le_refl _)]
theorem Gt.then_old {Sb S S' : St} {ot : Nat} {p : Option (Nat × Nat × Nat)} {e : Nat} {l : List Nat} (h : Gt Sb S ot p e l) (hot : ot < Sb.next) (o : Old (· = ot) S S') : Gt Sb S' ot p e l :=
  ⟨h.vec.els' o fun o' v i hp he => by have := h.new o' v i hp; omega, h.old.trans o, h.new, h.bd⟩
theorem Gt.then_ext {Sb S S' : St} {ot : Nat} {p : Option (Nat × Nat × Nat)} {e : Nat} {l : List Nat} (h : Gt Sb S ot p e l) (x : Ext S S') : Gt Sb S' ot p e l :=
  ⟨h.vec.ext x, h.old.trans (.of_ext x), h.new, h.bd⟩
/-- More bytes, at least one. -/
theorem Gt.app {Sb S : St} {ot : Nat} {p : Option (Nat × Nat × Nat)} {e : Nat} {l : List Nat} (h : Gt Sb S ot p e l) {m : List Nat} (hm : Byt m) (hr : l.length + m.length ≤ 140737488355328) {pt : Option (Nat × Nat × Nat)} {len : Nat} (t : Tpe S pt len ot) (hot : ot < Sb.next) (hpt : ∀ o v i, pt = some (o, v, i) → o < Sb.next) :
    ∃ p' e' S', aAppend 1 1 S (.slice p l.length e none) m.length (bv m) = some (.slice p' (l ++ m).length e' none, S') ∧ Gt Sb S' ot p' e' (l ++ m) ∧ Tpe S' pt len ot := by
  by_cases h0 : m.length = 0
  · have : m = [] := List.length_eq_zero_iff.1 h0
    subst this
    refine ⟨p, e, S, ?_, by rw [List.append_nil]; exact h, t⟩
    rw [List.append_nil]
    rcases p with _ | ⟨o, v, i⟩
    · simp [aAppend]
    · obtain rfl := h.vec.ez.resolve_left (by simp)
      simp [aAppend]
  · obtain ⟨p', S', h1, h2, h3, h4⟩ := h.vec.append (bytes := 1) (xs := bv m) (n := m.length) (by rw [bv_len, Nat.mul_one]) h0 (by omega)
    have hg := Old.grow h3
    have hN : ∀ o, o < Sb.next → ¬ ∃ v i, p = some (o, v, i) := fun o ho ⟨v, i, hp⟩ => by have := h.new o v i hp; omega
    refine ⟨p', 1, S', by rw [h1, List.length_append], ⟨by rw [List.length_append, bv_app]; exact h2, ⟨Nat.le_trans h.old.1 h3.next, fun o ho hne => ?_⟩, fun o v i hp => ?_, h.bd.app hm⟩, t.old hg (hN _ hot) fun o v i hp => hN _ (hpt o v i hp)⟩
    · rw [hg.2 o (Nat.lt_of_lt_of_le ho h.old.1) (hN o ho)]
      exact h.old.2 o ho hne
    · rcases h4 o v i hp with h5 | ⟨v', i', h5⟩
      · exact Nat.le_trans h.old.1 h5
      · exact h.new _ _ _ h5
structure I23 (Sb : St) (pt : Option (Nat × Nat × Nat)) (len ot n : Nat) (m : Nat) (T : Tm) (S : St) : Prop where
  t0 : T.get 0 = some (pt2 ot)
  t6 : T.get 6 = some (.int .i64 m)
  tp : Tpe S pt len ot
  more : ∃ p e l, T.get 5 = some (.slice p l.length e none) ∧ l.length + m = n ∧ Gt Sb S ot p e l
set_option maxHeartbeats 4000000 in
theorem round23 (k : Nat) {Sb : St} {pt : Option (Nat × Nat × Nat)} {len ot n : Nat} (hot : ot < Sb.next) (hpt : ∀ o v i, pt = some (o, v, i) → o < Sb.next) (hn : n ≤ 100) (m : Nat) (T : Tm) (S : St) (hI : I23 Sb pt len ot n m T S) :
    Goes (evF Y AP (k + 106)) (k + 106) af23_l0 T S (Then (fun T' S' => ∃ m', I23 Sb pt len ot n m' T' S' ∧ id m' < id m) fun r T' S' => r = .exit 0 ∧ I23 Sb pt len ot n 0 T' S') := by
  obtain ⟨t0, t6, tp, p, e, l, t5, hl, G⟩ := hI
  by_cases c1 : (0 : Int) < (m : Int)
  rotate_left
  · obtain rfl : m = 0 := by omega
    simp -implicitDefEqProofs -dsimp (maxSteps := 10000000) only [af23_l0, ↓kS, after_some, br_true, br_false, kC, ↓kQ, ↓Option.bind_some, ↓Option.map_some, ↓cond_true, ↓cond_false, evC, evOp, XO.lit, setArgs, Tr.get_set, Option.bind_some, Option.map_some, cond_true, cond_false, maxI, maxFrom, minI, minFrom, aConv, aBinE, aEq, eqScal, aUn, evRes, fin, oneOf, if_true, if_false, callee, reduceCtorEq, Nat.reduceEqDiff, List.getElem?_cons_zero, List.getElem?_cons_succ, beq_self_eq_true, gt_iff_lt, List.head?_cons, AV.undef, eq_self, ne_eq, Int.reduceLT, Int.reduceLE, Int.reduceToNat, Int.reduceEq, Int.reduceNeg, Nat.reduceAdd, Nat.reduceLT, Nat.reduceLeDiff, Nat.reduceMul, Nat.reduceSub, kM, AV.cells, AV.tup, List.drop_nil, List.append_nil, rdO, St.wr, List.length_cons, List.length_nil, List.take_succ_cons, List.take_zero, List.drop_succ_cons, List.drop_zero, List.cons_append, List.nil_append, Nat.reduceMul, t6, c1]
    refine ⟨?_, ?_, tp, p, e, l, ?_, hl, G⟩ <;> simp only [Tr.get_set, Nat.reduceEqDiff, if_false, if_true, t0, t5, t6]
  obtain ⟨x, S1, r1, a1, b1, o1, h1⟩ := T21 (k + 100) tp (n := 256) (by decide) (by decide)
  have r1 : evF Y AP (k + 106) 21 [pt2 ot, .int .i64 256] S = _ := r1
  obtain ⟨b, rfl⟩ : ∃ b : Nat, x = (b : Int) := ⟨x.toNat, by omega⟩
  have w1 : IntKind.u8.wrap (b : Int) = (b : Int) := by rw [IntKind.wrap_u8]; omega
  have w2 : IntKind.i64.wrap ((m : Int) - 1) = ((m - 1 : Nat) : Int) := by rw [w64_id (by omega) (by omega)]; omega
  obtain ⟨B, hB⟩ : ∃ B, S1.alloc (.cells [.int .u8 (b : Int)] 0 0 true) = B := ⟨_, rfl⟩
  have eB : Ext S1 B := by rw [← hB]; exact .alloc _ _
  have rB : B.rd S1.next 0 0 1 = some [.int .u8 (b : Int)] := by rw [← hB, rd_alloc, if_pos rfl]; rfl
  obtain ⟨p', e', S', ha, G', t'⟩ := ((G.then_old hot o1).then_ext eB).app (m := [b]) (fun y hy => by rw [List.mem_singleton] at hy; omega) (by simp only [List.length_cons, List.length_nil]; omega) (h1.ext eB) hot hpt
  have ha : aAppend 1 1 B (.slice p l.length e none) 1 [.int .u8 (b : Int)] = some (.slice p' (l ++ [b]).length e' none, S') := ha
  simp -implicitDefEqProofs -dsimp (maxSteps := 10000000) only [af23_l0, ↓kS, after_some, br_true, br_false, kC, ↓kQ, ↓Option.bind_some, ↓Option.map_some, ↓cond_true, ↓cond_false, evC, evOp, XO.lit, setArgs, Tr.get_set, Option.bind_some, Option.map_some, cond_true, cond_false, maxI, maxFrom, minI, minFrom, aConv, aBinE, aEq, eqScal, aUn, evRes, fin, oneOf, if_true, if_false, callee, reduceCtorEq, Nat.reduceEqDiff, List.getElem?_cons_zero, List.getElem?_cons_succ, beq_self_eq_true, gt_iff_lt, List.head?_cons, AV.undef, eq_self, ne_eq, Int.reduceLT, Int.reduceLE, Int.reduceToNat, Int.reduceEq, Int.reduceNeg, Nat.reduceAdd, Nat.reduceLT, Nat.reduceLeDiff, Nat.reduceMul, Nat.reduceSub, ↓evDraw_nil, bir, putD, evDraw, trace, List.all_cons, List.all_nil, chk, stAt, again, sameV, sameL, sameA, AV.undef, Bool.and_self, Bool.and_true, decide_eq_true_eq, List.getElem?_nil, kM, AV.cells, AV.tup, List.drop_nil, List.append_nil, rdO, St.wr, List.length_cons, List.length_nil, List.take_succ_cons, List.take_zero, List.drop_succ_cons, List.drop_zero, List.cons_append, List.nil_append, Nat.reduceMul, aFill, evParts, rep, List.replicate_succ, List.replicate_zero, List.flatten_cons, List.flatten_nil, List.append_nil, newSl, newVar, t0, t5, t6, c1, r1, w1, hB, Nat.mul_one, rB, ha, w2]
  refine ⟨m - 1, ⟨?_, ?_, t', p', e', l ++ [b], ?_, by rw [List.length_append]; simp only [List.length_cons, List.length_nil]; omega, G'⟩, by show m - 1 < m; omega⟩ <;> simp only [Tr.get_set, Nat.reduceEqDiff, if_false, if_true, t0]
set_option maxHeartbeats 4000000 in
/-- Bytes -/
theorem T23 (k : Nat) {S : St} {pt : Option (Nat × Nat × Nat)} {len ot : Nat} (h : Tpe S pt len ot) (hpt : ∀ o v i, pt = some (o, v, i) → o < S.next) {n : Nat} (hn : n ≤ 90) :
    ∃ p e l S', evF Y AP (k + 107) 23 [pt2 ot, .int .i64 n] S = some (.slice p l.length e none, S') ∧ l.length ≤ n ∧ Gt S S' ot p e l ∧ Tpe S' pt len ot := by
  suffices hh : ∃ w S', evF Y AP (k + 107) 23 [pt2 ot, .int .i64 n] S = some (w, S') ∧ ∃ p e l, w = .slice p l.length e none ∧ l.length ≤ n ∧ Gt S S' ot p e l ∧ Tpe S' pt len ot by
    obtain ⟨w, S', h1, p, e, l, rfl, h2, h3, h4⟩ := hh; exact ⟨p, e, l, S', h1, h2, h3, h4⟩
  have w1 : IntKind.i64.wrap ((n : Int) + 1) = ((n + 1 : Nat) : Int) := w64_id (by omega) (by omega)
  obtain ⟨x, S1, r1, a1, b1, o1, h1⟩ := T21 (k + 100) h (n := ((n + 1 : Nat) : Int)) (by omega) (by omega)
  have r1 : evF Y AP (k + 106) 21 [pt2 ot, .int .i64 ((n + 1 : Nat) : Int)] S = _ := r1
  obtain ⟨b, rfl⟩ : ∃ b : Nat, x = (b : Int) := ⟨x.toNat, by omega⟩
  refine evF_goes (af := af23) (k := k + 106) rfl rfl rfl ?_
  simp -implicitDefEqProofs -dsimp (maxSteps := 10000000) only [af23, ↓kS, after_some, br_true, br_false, kC, ↓kQ, ↓Option.bind_some, ↓Option.map_some, ↓cond_true, ↓cond_false, evC, evOp, XO.lit, setArgs, Tr.tabG, Tr.tabS, Tr.tabL, Tr.get_lf, Option.bind_some, Option.map_some, cond_true, cond_false, maxI, maxFrom, minI, minFrom, aConv, aBinE, aEq, eqScal, aUn, evRes, fin, oneOf, if_true, if_false, callee, reduceCtorEq, Nat.reduceEqDiff, List.getElem?_cons_zero, List.getElem?_cons_succ, beq_self_eq_true, gt_iff_lt, List.head?_cons, AV.undef, eq_self, ne_eq, Int.reduceLT, Int.reduceLE, Int.reduceToNat, Int.reduceEq, Int.reduceNeg, Nat.reduceAdd, Nat.reduceLT, Nat.reduceLeDiff, Nat.reduceMul, Nat.reduceSub, ↓evDraw_nil, bir, putD, evDraw, trace, List.all_cons, List.all_nil, chk, stAt, again, sameV, sameL, sameA, AV.undef, Bool.and_self, Bool.and_true, decide_eq_true_eq, List.getElem?_nil, kM, AV.cells, AV.tup, List.drop_nil, List.append_nil, rdO, St.wr, List.length_cons, List.length_nil, List.take_succ_cons, List.take_zero, List.drop_succ_cons, List.drop_zero, List.cons_append, List.nil_append, Nat.reduceMul, aFill, evParts, rep, List.replicate_succ, List.replicate_zero, List.flatten_cons, List.flatten_nil, List.append_nil, newSl, newVar, w1, r1]
  refine .while (I23 S pt len ot b) id b ⟨rfl, rfl, h1, none, 0, [], rfl, by simp, ⟨.nil _ _ _, o1, fun _ _ _ hp => (by cases hp), .nil⟩⟩ (by show b < k + 106; omega) fun m2 T2 S5 h2 => (round23 k h.lt hpt (by omega) m2 T2 S5 h2).mono ?_
  intro r T' S' hq
  cases r with
  | normal => exact hq
  | ret => exact absurd hq.1 (by simp)
  | exit x =>
    obtain ⟨hi, t0, t6, tp, p, e, l, t5, hl, G⟩ := hq
    cases hi
    simp -implicitDefEqProofs -dsimp (maxSteps := 10000000) only [↓kS, after_some, br_true, br_false, kC, ↓kQ, ↓Option.bind_some, ↓Option.map_some, ↓cond_true, ↓cond_false, evC, evOp, XO.lit, setArgs, Tr.get_set, Option.bind_some, Option.map_some, cond_true, cond_false, maxI, maxFrom, minI, minFrom, aConv, aBinE, aEq, eqScal, aUn, evRes, fin, oneOf, if_true, if_false, callee, reduceCtorEq, Nat.reduceEqDiff, List.getElem?_cons_zero, List.getElem?_cons_succ, beq_self_eq_true, gt_iff_lt, List.head?_cons, AV.undef, eq_self, ne_eq, Int.reduceLT, Int.reduceLE, Int.reduceToNat, Int.reduceEq, Int.reduceNeg, Nat.reduceAdd, Nat.reduceLT, Nat.reduceLeDiff, Nat.reduceMul, Nat.reduceSub, ↓evDraw_nil, bir, putD, evDraw, trace, List.all_cons, List.all_nil, chk, stAt, again, sameV, sameL, sameA, AV.undef, Bool.and_self, Bool.and_true, decide_eq_true_eq, List.getElem?_nil, kM, AV.cells, AV.tup, List.drop_nil, List.append_nil, rdO, St.wr, List.length_cons, List.length_nil, List.take_succ_cons, List.take_zero, List.drop_succ_cons, List.drop_zero, List.cons_append, List.nil_append, Nat.reduceMul, t5]
    exact ⟨_, _, rfl, p, e, l, rfl, by omega, G, tp⟩
set_option maxHeartbeats 1000000 in
theorem T26n (k : Nat) {S : St} {p : Option (Nat × Nat × Nat)} {e : Nat} {c : Option Nat} {l : List Nat} (h : By S p e l) (hr : l.length ≤ 140737488351500) {to : Int} :
    ∃ p3 e3 S', evF Y AP (k + 70) 26 [.slice p l.length e c, .int .i64 to] S = some (.slice p3 (padL l to).length e3 none, S') ∧ Gr S S' p3 e3 (padL l to) := by
  suffices hh : ∃ w S', evF Y AP (k + 70) 26 [.slice p l.length e c, .int .i64 to] S = some (w, S') ∧ ∃ p3 e3, w = .slice p3 (padL l to).length e3 none ∧ Gr S S' p3 e3 (padL l to) by
    obtain ⟨w, S', h1, p3, e3, rfl, h2⟩ := hh; exact ⟨p3, e3, S', h1, h2⟩
  obtain ⟨p1, e1, S1, h3, g1⟩ := fresh_app h (by omega) c
  refine evF_goes (af := af26) (k := k + 69) rfl rfl rfl ?_
  have b1 := g1.by_ (by omega)
  have hpl := padL_len (l := l) to
  rcases p with _ | ⟨o, v, i⟩
  all_goals
    simp only [evOp, XO.ev, Option.bind_some] at h3
    simp -implicitDefEqProofs -dsimp (maxSteps := 10000000) only [af26, ↓kS, after_some, br_true, br_false, kC, ↓kQ, ↓Option.bind_some, ↓Option.map_some, ↓cond_true, ↓cond_false, evC, evOp, XO.lit, setArgs, Tr.tabG, Tr.tabS, Tr.tabL, Tr.get_lf, Option.bind_some, Option.map_some, cond_true, cond_false, maxI, maxFrom, minI, minFrom, aConv, aBinE, aEq, eqScal, aUn, evRes, fin, oneOf, if_true, if_false, callee, reduceCtorEq, Nat.reduceEqDiff, List.getElem?_cons_zero, List.getElem?_cons_succ, beq_self_eq_true, gt_iff_lt, List.head?_cons, AV.undef, eq_self, ne_eq, Int.reduceLT, Int.reduceLE, Int.reduceToNat, Int.reduceEq, Int.reduceNeg, Nat.reduceAdd, Nat.reduceLT, Nat.reduceLeDiff, Nat.reduceMul, Nat.reduceSub, aFill, evParts, rep, List.replicate_succ, List.replicate_zero, List.flatten_cons, List.flatten_nil, List.append_nil, newSl, newVar, h3]
    refine wh26 k hr (to := to) rfl rfl g1 ?_
    rintro T' S' ⟨p3, e3, t5, g3⟩
    simp -implicitDefEqProofs -dsimp (maxSteps := 10000000) only [↓kS, after_some, br_true, br_false, kC, ↓kQ, ↓Option.bind_some, ↓Option.map_some, ↓cond_true, ↓cond_false, evC, evOp, XO.lit, setArgs, Tr.get_set, Option.bind_some, Option.map_some, cond_true, cond_false, maxI, maxFrom, minI, minFrom, aConv, aBinE, aEq, eqScal, aUn, evRes, fin, oneOf, if_true, if_false, callee, reduceCtorEq, Nat.reduceEqDiff, List.getElem?_cons_zero, List.getElem?_cons_succ, beq_self_eq_true, gt_iff_lt, List.head?_cons, AV.undef, eq_self, ne_eq, Int.reduceLT, Int.reduceLE, Int.reduceToNat, Int.reduceEq, Int.reduceNeg, Nat.reduceAdd, Nat.reduceLT, Nat.reduceLeDiff, Nat.reduceMul, Nat.reduceSub, t5]
    exact ⟨_, _, rfl, p3, e3, rfl, g3⟩
/-! ### Elements -/
structure El where
  id : Int
  p : Option (Nat × Nat × Nat)
  e : Nat
  l : List Nat
def ecs : List El → List AV
  | [] => []
  | x :: t => .int .i64 x.id :: .slice x.p x.l.length x.e none :: ecs t
theorem ecs_len : ∀ L : List El, (ecs L).length = L.length * 2
  | [] => rfl
  | x :: t => by rw [ecs, List.length_cons, List.length_cons, ecs_len t, List.length_cons]; omega
theorem ecs_app : ∀ L M : List El, ecs (L ++ M) = ecs L ++ ecs M
  | [], M => rfl
  | x :: t, M => by rw [List.cons_append, ecs, ecs, ecs_app t M]; rfl
theorem ecs_get : ∀ (L : List El) (i : Nat) (h : i < L.length), ((ecs L).drop (i * 2)).take 2 = [.int .i64 L[i].id, .slice L[i].p L[i].l.length L[i].e none]
  | x :: t, 0, _ => rfl
  | x :: t, i + 1, h => by
    rw [show (i + 1) * 2 = i * 2 + 1 + 1 by omega, ecs, List.drop_succ_cons, List.drop_succ_cons, ecs_get t i (by rw [List.length_cons] at h; omega)]
    simp only [List.getElem_cons_succ]
def EOk (two : Bool) (x : El) : Prop := 1 ≤ x.id ∧ x.id ≤ 255 ∧ x.l.length ≤ 20 ∧ (two = false → x.id ≤ 14 ∧ 1 ≤ x.l.length ∧ x.l.length ≤ 10)
/-- A row of elements that grows while a tape is read. -/
structure Es (Sb S : St) (pt : Option (Nat × Nat × Nat)) (len ot : Nat) (two : Bool) (po : Option (Nat × Nat × Nat)) (eo : Nat) (L : List El) : Prop where
  tp : Tpe S pt len ot
  vec : Vec S po L.length 2 eo (ecs L)
  old : Old (· = ot) Sb S
  new : ∀ o v i, po = some (o, v, i) → Sb.next ≤ o
  el : ∀ x ∈ L, EOk two x ∧ By S x.p x.e x.l ∧ ∀ o v i, x.p = some (o, v, i) → Sb.next ≤ o ∧ ∀ v' i', po ≠ some (o, v', i')
section
variable {Sb S : St} {pt : Option (Nat × Nat × Nat)} {len ot : Nat} {two : Bool} {po : Option (Nat × Nat × Nat)} {eo : Nat} {L : List El}
theorem Es.step (h : Es Sb S pt len ot two po eo L) (hot : ot < Sb.next) {S' : St} (o : Old (· = ot) S S') (t : Tpe S' pt len ot) : Es Sb S' pt len ot two po eo L :=
  ⟨t, h.vec.els' o fun o' v i hp he => by have := h.new o' v i hp; omega, h.old.trans o, h.new, fun x hx => by
    obtain ⟨a, b, c⟩ := h.el x hx
    exact ⟨a, o.by_ b fun o' v i hp he => by have := (c o' v i hp).1; omega, c⟩⟩
theorem Es.app (h : Es Sb S pt len ot two po eo L) (hot : ot < Sb.next) (hpt : ∀ o v i, pt = some (o, v, i) → o < Sb.next) (hl : L.length ≤ 100) {x : El} (ok : EOk two x) (b : By S x.p x.e x.l) (hx : ∀ o v i, x.p = some (o, v, i) → Sb.next ≤ o ∧ ∀ v' i', po ≠ some (o, v', i')) :
    ∃ p' S', aAppend 2 32 S (.slice po L.length eo none) 1 [.int .i64 x.id, .slice x.p x.l.length x.e none] = some (.slice p' (L.length + 1) 2 none, S') ∧ Es Sb S' pt len ot two p' 2 (L ++ [x]) := by
  obtain ⟨p', S', h1, h2, h3, h4⟩ := h.vec.append (bytes := 32) (xs := [.int .i64 x.id, .slice x.p x.l.length x.e none]) (n := 1) rfl (by decide) (by omega)
  have hg := Old.grow h3
  have hN : ∀ o, o < Sb.next → ¬ ∃ v i, po = some (o, v, i) := fun o ho ⟨v, i, hp⟩ => by have := h.new o v i hp; omega
  have hll : (L ++ [x]).length = L.length + 1 := by rw [List.length_append]; rfl
  have keep : ∀ y : El, By S y.p y.e y.l → (∀ o v i, y.p = some (o, v, i) → Sb.next ≤ o ∧ ∀ v' i', po ≠ some (o, v', i')) → By S' y.p y.e y.l ∧ ∀ o v i, y.p = some (o, v, i) → Sb.next ≤ o ∧ ∀ v' i', p' ≠ some (o, v', i') := fun y by_ hy =>
    ⟨hg.by_ by_ fun o v i hp ⟨v', i', he⟩ => (hy o v i hp).2 v' i' he, fun o v i hp => ⟨(hy o v i hp).1, fun v' i' he => by
      rcases h4 o v' i' he with h5 | ⟨v2, i2, h5⟩
      · have := (by_.at_ o v i hp).1; omega
      · exact (hy o v i hp).2 _ _ h5⟩⟩
  refine ⟨p', S', h1, h.tp.old hg (hN _ hot) fun o v i hp => hN _ (hpt o v i hp), by rw [hll, ecs_app]; exact h2, ⟨Nat.le_trans h.old.1 h3.next, fun o ho hne => (hg.2 o (Nat.lt_of_lt_of_le ho h.old.1) (hN o ho)).trans (h.old.2 o ho hne)⟩, fun o v i hp => ?_, fun y hy => ?_⟩
  · rcases h4 o v i hp with h5 | ⟨v', i', h5⟩
    · exact Nat.le_trans h.old.1 h5
    · exact h.new _ _ _ h5
  · rcases List.mem_append.1 hy with hy | hy
    · obtain ⟨a, b', c⟩ := h.el y hy
      exact ⟨a, keep y b' c⟩
    · rw [List.mem_singleton] at hy
      rw [hy]
      exact ⟨ok, keep x b hx⟩
end
structure I25 (Sb : St) (pt : Option (Nat × Nat × Nat)) (len ot : Nat) (two : Bool) (n : Nat) (m : Nat) (T : Tm) (S : St) : Prop where
  t0 : T.get 0 = some (pt2 ot)
  t1 : T.get 1 = some (.bool two)
  t6 : T.get 6 = some (.int .i64 m)
  more : ∃ po eo L, T.get 5 = some (.slice po L.length eo none) ∧ L.length + m = n ∧ Es Sb S pt len ot two po eo L
theorem By.read {S : St} {p : Option (Nat × Nat × Nat)} {e : Nat} {l : List Nat} (b : By S p e l) {a : AV} {w : AV × St} {x : XO} {T : Tm} {c : Option Nat} (hx : x.ev T = some (.slice p l.length e c)) {s : XO} (hs : s.ev T = some a) (h : aAppend 1 1 S a l.length (bv l) = some w) :
    evOp (.append 1 1 s x) T S = some w := by
  rcases p with _ | ⟨o, v, i⟩
  · obtain rfl := b.nil rfl
    simp only [evOp, hs, hx, Option.bind_some]
    exact h
  · obtain rfl := b.ez.resolve_left (by simp)
    simp only [evOp, hs, hx, Option.bind_some, if_true, Nat.mul_one, (b.at_ o v i rfl).2]
    exact h
set_option maxHeartbeats 16000000 in
theorem round25 (k : Nat) {Sb : St} {pt : Option (Nat × Nat × Nat)} {len ot : Nat} {two : Bool} {n : Nat} (hot : ot < Sb.next) (hpt : ∀ o v i, pt = some (o, v, i) → o < Sb.next) (hn : n ≤ 50) (m : Nat) (T : Tm) (S : St) (hI : I25 Sb pt len ot two n m T S) :
    Goes (evF Y AP (k + 120)) (k + 120) af25_l0 T S (Then (fun T' S' => ∃ m', I25 Sb pt len ot two n m' T' S' ∧ id m' < id m) fun r T' S' => r = .exit 0 ∧ I25 Sb pt len ot two n 0 T' S') := by
  obtain ⟨t0, t1, t6, po, eo, L, t5, hl, E⟩ := hI
  by_cases c1 : (0 : Int) < (m : Int)
  rotate_left
  · obtain rfl : m = 0 := by omega
    simp -implicitDefEqProofs -dsimp (maxSteps := 10000000) only [af25_l0, ↓kS, after_some, br_true, br_false, kC, ↓kQ, ↓Option.bind_some, ↓Option.map_some, ↓cond_true, ↓cond_false, evC, evOp, XO.lit, setArgs, Tr.get_set, Option.bind_some, Option.map_some, cond_true, cond_false, maxI, maxFrom, minI, minFrom, aConv, aBinE, aEq, eqScal, aUn, evRes, fin, oneOf, if_true, if_false, callee, reduceCtorEq, Nat.reduceEqDiff, List.getElem?_cons_zero, List.getElem?_cons_succ, beq_self_eq_true, gt_iff_lt, List.head?_cons, AV.undef, eq_self, ne_eq, Int.reduceLT, Int.reduceLE, Int.reduceToNat, Int.reduceEq, Int.reduceNeg, Nat.reduceAdd, Nat.reduceLT, Nat.reduceLeDiff, Nat.reduceMul, Nat.reduceSub, kM, AV.cells, AV.tup, List.drop_nil, List.append_nil, rdO, St.wr, List.length_cons, List.length_nil, List.take_succ_cons, List.take_zero, List.drop_succ_cons, List.drop_zero, List.cons_append, List.nil_append, Nat.reduceMul, t6, c1]
    refine ⟨?_, ?_, ?_, po, eo, L, ?_, hl, E⟩ <;> simp only [Tr.get_set, Nat.reduceEqDiff, if_false, if_true, t0, t1, t5, t6]
  have hSb := E.old.1
  obtain ⟨x1, S1, r1, a1, b1, o1, h1⟩ := T21 (k + 114) E.tp (n := 14) (by decide) (by decide)
  obtain ⟨x2, S2, r2, a2, b2, o2, h2⟩ := T21 (k + 114) h1 (n := 256) (by decide) (by decide)
  have r1 : evF Y AP (k + 120) 21 [pt2 ot, .int .i64 14] S = _ := r1
  have r2 : evF Y AP (k + 120) 21 [pt2 ot, .int .i64 256] S1 = _ := r2
  obtain ⟨b, rfl⟩ : ∃ b : Nat, x2 = (b : Int) := ⟨x2.toNat, by omega⟩
  have w1 : IntKind.i64.wrap (1 + x1) = 1 + x1 := w64_id (by omega) (by omega)
  have w2 : IntKind.u8.wrap (b : Int) = (b : Int) := by rw [IntKind.wrap_u8]; omega
  have w3 : IntKind.i64.wrap ((m : Int) - 1) = ((m - 1 : Nat) : Int) := by rw [w64_id (by omega) (by omega)]; omega
  have n2 : S.next ≤ S2.next := (o1.trans o2).1
  obtain ⟨B, hB⟩ : ∃ B, S2.alloc (.cells [.int .u8 (b : Int)] 0 0 true) = B := ⟨_, rfl⟩
  have eB : Ext S2 B := by rw [← hB]; exact .alloc _ _
  have gtB : Gt S2 B ot (some (S2.next, 0, 0)) 1 [b] :=
    ⟨⟨.inr rfl, rfl, .inr ⟨S2.next, 0, 0, rfl, by rw [← hB]; exact Nat.lt_succ_self _, by rw [← hB, St.get_alloc, if_pos rfl]; rfl, Nat.le_refl _⟩⟩, .of_ext eB, fun o v i h => by cases h; exact Nat.le_refl _, fun y hy => by rw [List.mem_singleton] at hy; omega⟩
  have hptB : ∀ o v i, pt = some (o, v, i) → o < B.next := fun o v i hp => by have := hpt o v i hp; have := eB.next; omega
  have hpt2 : ∀ o v i, pt = some (o, v, i) → o < S2.next := fun o v i hp => by have := hpt o v i hp; omega
  obtain ⟨p3, e3, l3, S3, r3, hl3, G3, h3⟩ := T23 (k + 13) (h2.ext eB) hptB (n := 9) (by decide)
  have r3 : evF Y AP (k + 120) 23 [pt2 ot, .int .i64 9] B = _ := r3
  have b3 := G3.by_ (by omega)
  obtain ⟨p4, e4, S4, q4, G4, h4⟩ := (gtB.then_old (by omega) G3.old).app G3.bd (by simp only [List.length_cons, List.length_nil]; omega) h3 (by omega) hpt2
  have q4 : aAppend 1 1 S3 (.slice (some (S2.next, 0, 0)) 1 1 none) l3.length (bv l3) = some (.slice p4 ([b] ++ l3).length e4 none, S4) := q4
  obtain ⟨l4, hl4⟩ : ∃ l4, [b] ++ l3 = l4 := ⟨_, rfl⟩
  have hl4l : l4.length = 1 + l3.length := by rw [← hl4, List.length_append]; rfl
  rw [hl4] at q4 G4
  have E4 : Es Sb S4 pt len ot two po eo L := E.step hot ((o1.trans o2).trans (Old.imp G4.old fun _ _ h => h)) h4
  have b4 := G4.by_ (by omega)
  have n4 : S2.next ≤ S4.next := G4.old.1
  have lto : ∀ o v i, po = some (o, v, i) → o < S.next := fun o v i hp => by
    rcases E.vec.at_ with ⟨hz, _⟩ | ⟨o', ver, minv, hz, ho, _⟩
    · rw [hp] at hz; cases hz
    · rw [hp] at hz; cases hz; exact ho
  obtain ⟨C, hC⟩ : ∃ C, S4.alloc (.cells [.int .i64 0, .slice none 0 0 none] 0 0 true) = C := ⟨_, rfl⟩
  have gC : C.get S4.next = some (.cells [.int .i64 0, .slice none 0 0 none] 0 0 true) := by rw [← hC, St.get_alloc, if_pos rfl]
  obtain ⟨D, hD⟩ : ∃ D, C.put S4.next (.cells [.int .i64 (1 + x1), .slice p4 l4.length e4 none] 0 0 true) = D := ⟨_, rfl⟩
  obtain ⟨xD, gD, nD⟩ : Ext S4 D ∧ D.get S4.next = some (.cells [.int .i64 (1 + x1), .slice p4 l4.length e4 none] 0 0 true) ∧ S4.next < D.next := by rw [← hD, ← hC]; exact put_new _ _ _
  -- whatever element lies there, it is taken into the row
  have last : ∀ (X : St) (x : El), Old (· = ot) S4 X → Tpe X pt len ot → X.get S4.next = some (.cells [.int .i64 x.id, .slice x.p x.l.length x.e none] 0 0 true) → EOk two x → By X x.p x.e x.l → (∀ o v i, x.p = some (o, v, i) → S2.next ≤ o) →
      ∃ F p' S', X.alloc (.cells [.int .i64 x.id, .slice x.p x.l.length x.e none] 0 0 true) = F ∧ F.rd X.next 0 0 2 = some [.int .i64 x.id, .slice x.p x.l.length x.e none] ∧ aAppend 2 32 F (.slice po L.length eo none) 1 [.int .i64 x.id, .slice x.p x.l.length x.e none] = some (.slice p' (L ++ [x]).length 2 none, S') ∧ Es Sb S' pt len ot two p' 2 (L ++ [x]) := by
    intro X x oX tX gX okx bx hx
    have xF : Ext X (X.alloc (.cells [.int .i64 x.id, .slice x.p x.l.length x.e none] 0 0 true)) := .alloc _ _
    obtain ⟨p', S', q, E'⟩ := ((E4.step hot oX tX).step hot (.of_ext xF) (tX.ext xF)).app hot hpt (by omega) okx (bx.ext xF) fun o v i hp => ⟨by have := hx o v i hp; omega, fun v' i' he => by have := hx o v i hp; have := lto _ _ _ he; omega⟩
    exact ⟨_, p', S', rfl, by rw [rd_alloc, if_pos rfl]; rfl, by rw [List.length_append]; exact q, E'⟩
  have c0 : (0 : Int) ≤ 1 + x1 := by omega
  cases two with
  | false =>
    obtain ⟨F, p', S', hF, rF, q, E'⟩ := last D ⟨1 + x1, p4, e4, l4⟩ (.of_ext xD) (h4.ext xD) gD ⟨by show 1 ≤ 1 + x1; omega, by show 1 + x1 ≤ 255; omega, by show l4.length ≤ 20; omega, fun _ => ⟨by show 1 + x1 ≤ 14; omega, by show 1 ≤ l4.length; omega, by show l4.length ≤ 10; omega⟩⟩ (b4.ext xD) fun o v i hp => G4.new o v i hp
    have rD : ∀ v i m, D.rd S4.next v i m = rdO (.cells [.int .i64 (1 + x1), .slice p4 l4.length e4 none] 0 0 true) v i m := rd_of gD
    have hF : D.alloc (.cells [.int .i64 (1 + x1), .slice p4 l4.length e4 none] 0 0 true) = F := hF
    have rF : F.rd D.next 0 0 2 = some [.int .i64 (1 + x1), .slice p4 l4.length e4 none] := rF
    have q : aAppend 2 32 F (.slice po L.length eo none) 1 [.int .i64 (1 + x1), .slice p4 l4.length e4 none] = _ := q
    rcases p3 with _ | ⟨oo, vv, ii⟩
    · obtain rfl := b3.nil rfl
      have q4 : aAppend 1 1 S3 (.slice (some (S2.next, 0, 0)) 1 1 none) 0 [] = some (.slice p4 l4.length e4 none, S4) := q4
      simp -implicitDefEqProofs -dsimp (maxSteps := 10000000) only [af25_l0, ↓kS, after_some, br_true, br_false, kC, ↓kQ, ↓Option.bind_some, ↓Option.map_some, ↓cond_true, ↓cond_false, evC, evOp, XO.lit, setArgs, Tr.get_set, Option.bind_some, Option.map_some, cond_true, cond_false, maxI, maxFrom, minI, minFrom, aConv, aBinE, aEq, eqScal, aUn, evRes, fin, oneOf, if_true, if_false, callee, reduceCtorEq, Nat.reduceEqDiff, List.getElem?_cons_zero, List.getElem?_cons_succ, beq_self_eq_true, gt_iff_lt, List.head?_cons, AV.undef, eq_self, ne_eq, Int.reduceLT, Int.reduceLE, Int.reduceToNat, Int.reduceEq, Int.reduceNeg, Nat.reduceAdd, Nat.reduceLT, Nat.reduceLeDiff, Nat.reduceMul, Nat.reduceSub, ↓evDraw_nil, bir, putD, evDraw, trace, List.all_cons, List.all_nil, chk, stAt, again, sameV, sameL, sameA, AV.undef, Bool.and_self, Bool.and_true, decide_eq_true_eq, List.getElem?_nil, kM, AV.cells, AV.tup, List.drop_nil, List.append_nil, rdO, St.wr, List.length_cons, List.length_nil, List.take_succ_cons, List.take_zero, List.drop_succ_cons, List.drop_zero, List.cons_append, List.nil_append, Nat.reduceMul, aFill, evParts, rep, List.replicate_succ, List.replicate_zero, List.flatten_cons, List.flatten_nil, List.append_nil, newSl, newVar, t0, t1, t5, t6, c1, r1, w1, r2, w2, hB, r3, q4, hC, gC, hD, rD, hF, rF, q, w3]
      refine ⟨m - 1, ⟨?_, ?_, ?_, p', 2, L ++ [⟨1 + x1, p4, e4, l4⟩], ?_, by rw [List.length_append]; simp only [List.length_cons, List.length_nil]; omega, E'⟩, by show m - 1 < m; omega⟩ <;> simp only [Tr.get_set, Nat.reduceEqDiff, if_false, if_true, t0, t1]
    · obtain rfl := b3.ez.resolve_left (by simp)
      have hr3 := (b3.at_ oo vv ii rfl).2
      simp -implicitDefEqProofs -dsimp (maxSteps := 10000000) only [af25_l0, ↓kS, after_some, br_true, br_false, kC, ↓kQ, ↓Option.bind_some, ↓Option.map_some, ↓cond_true, ↓cond_false, evC, evOp, XO.lit, setArgs, Tr.get_set, Option.bind_some, Option.map_some, cond_true, cond_false, maxI, maxFrom, minI, minFrom, aConv, aBinE, aEq, eqScal, aUn, evRes, fin, oneOf, if_true, if_false, callee, reduceCtorEq, Nat.reduceEqDiff, List.getElem?_cons_zero, List.getElem?_cons_succ, beq_self_eq_true, gt_iff_lt, List.head?_cons, AV.undef, eq_self, ne_eq, Int.reduceLT, Int.reduceLE, Int.reduceToNat, Int.reduceEq, Int.reduceNeg, Nat.reduceAdd, Nat.reduceLT, Nat.reduceLeDiff, Nat.reduceMul, Nat.reduceSub, ↓evDraw_nil, bir, putD, evDraw, trace, List.all_cons, List.all_nil, chk, stAt, again, sameV, sameL, sameA, AV.undef, Bool.and_self, Bool.and_true, decide_eq_true_eq, List.getElem?_nil, kM, AV.cells, AV.tup, List.drop_nil, List.append_nil, rdO, St.wr, List.length_cons, List.length_nil, List.take_succ_cons, List.take_zero, List.drop_succ_cons, List.drop_zero, List.cons_append, List.nil_append, Nat.reduceMul, aFill, evParts, rep, List.replicate_succ, List.replicate_zero, List.flatten_cons, List.flatten_nil, List.append_nil, newSl, newVar, t0, t1, t5, t6, c1, r1, w1, r2, w2, hB, r3, Nat.mul_one, hr3, q4, hC, gC, hD, rD, hF, rF, q, w3]
      refine ⟨m - 1, ⟨?_, ?_, ?_, p', 2, L ++ [⟨1 + x1, p4, e4, l4⟩], ?_, by rw [List.length_append]; simp only [List.length_cons, List.length_nil]; omega, E'⟩, by show m - 1 < m; omega⟩ <;> simp only [Tr.get_set, Nat.reduceEqDiff, if_false, if_true, t0, t1]
  | true =>
    obtain ⟨x5, S5, r5, a5, b5, o5, h5⟩ := T21 (k + 114) (h4.ext xD) (n := 3) (by decide) (by decide)
    have r5 : evF Y AP (k + 120) 21 [pt2 ot, .int .i64 3] D = _ := r5
    have n5 := o5.1
    have ltn : ot < S4.next := by omega
    have g5 : S5.get S4.next = some (.cells [.int .i64 (1 + x1), .slice p4 l4.length e4 none] 0 0 true) := (o5.2 _ nD (by omega)).trans gD
    have oS5 : Old (· = ot) S4 S5 := (Old.of_ext xD).trans o5
    by_cases c5 : x5 = 0
    · obtain ⟨x6, S6, r6, a6, b6, o6, h6⟩ := T21 (k + 114) h5 (n := 255) (by decide) (by decide)
      have r6 : evF Y AP (k + 120) 21 [pt2 ot, .int .i64 255] S5 = _ := r6
      have n6 := o6.1
      obtain ⟨p7, e7, l7, S7, r7, hl7, G7, h7⟩ := T23 (k + 13) h6 (fun o v i hp => by have := hpt o v i hp; omega) (n := 20) (by decide)
      have r7 : evF Y AP (k + 120) 23 [pt2 ot, .int .i64 20] S6 = _ := r7
      have n7 := G7.old.1
      have w6 : IntKind.i64.wrap (1 + x6) = 1 + x6 := w64_id (by omega) (by omega)
      have g7 : S7.get S4.next = some (.cells [.int .i64 (1 + x1), .slice p4 l4.length e4 none] 0 0 true) := (G7.old.2 _ (by omega) (by omega)).trans ((o6.2 _ (by omega) (by omega)).trans g5)
      obtain ⟨H, hH⟩ : ∃ H, S7.put S4.next (.cells [.int .i64 (1 + x6), .slice p7 l7.length e7 none] 0 0 true) = H := ⟨_, rfl⟩
      have gH : H.get S4.next = some (.cells [.int .i64 (1 + x6), .slice p7 l7.length e7 none] 0 0 true) := by rw [← hH, St.get_put, if_pos rfl]
      have oH7 : Old (· = S4.next) S7 H := by rw [← hH]; exact .put (N := (· = S4.next)) _ rfl _
      have oS7 : Old (· = ot) S4 S7 := (oS5.trans o6).trans G7.old
      have oH : Old (· = ot) S4 H := ⟨Nat.le_trans oS7.1 oH7.1, fun j hj hne => (oH7.2 j (Nat.lt_of_lt_of_le hj oS7.1) (by omega)).trans (oS7.2 j hj hne)⟩
      have tH : Tpe H pt len ot := h7.old oH7 (by omega) fun o v i hp => by have := hpt o v i hp; omega
      obtain ⟨F, p', S', hF, rF, q, E'⟩ := last H ⟨1 + x6, p7, e7, l7⟩ oH tH gH ⟨by show 1 ≤ 1 + x6; omega, by show 1 + x6 ≤ 255; omega, by show l7.length ≤ 20; omega, fun h => by cases h⟩ (oH7.by_ (G7.by_ (by omega)) fun o v i hp he => by have := G7.new o v i hp; omega) fun o v i hp => by have := G7.new o v i hp; omega
      have rH : ∀ v i m, H.rd S4.next v i m = rdO (.cells [.int .i64 (1 + x6), .slice p7 l7.length e7 none] 0 0 true) v i m := rd_of gH
      have hF : H.alloc (.cells [.int .i64 (1 + x6), .slice p7 l7.length e7 none] 0 0 true) = F := hF
      have rF : F.rd H.next 0 0 2 = some [.int .i64 (1 + x6), .slice p7 l7.length e7 none] := rF
      have q : aAppend 2 32 F (.slice po L.length eo none) 1 [.int .i64 (1 + x6), .slice p7 l7.length e7 none] = _ := q
      have c5' := eq_true c5
      rcases p3 with _ | ⟨oo, vv, ii⟩
      · obtain rfl := b3.nil rfl
        have q4 : aAppend 1 1 S3 (.slice (some (S2.next, 0, 0)) 1 1 none) 0 [] = some (.slice p4 l4.length e4 none, S4) := q4
        simp -implicitDefEqProofs -dsimp (maxSteps := 10000000) only [af25_l0, ↓kS, after_some, br_true, br_false, kC, ↓kQ, ↓Option.bind_some, ↓Option.map_some, ↓cond_true, ↓cond_false, evC, evOp, XO.lit, setArgs, Tr.get_set, Option.bind_some, Option.map_some, cond_true, cond_false, maxI, maxFrom, minI, minFrom, aConv, aBinE, aEq, eqScal, aUn, evRes, fin, oneOf, if_true, if_false, callee, reduceCtorEq, Nat.reduceEqDiff, List.getElem?_cons_zero, List.getElem?_cons_succ, beq_self_eq_true, gt_iff_lt, List.head?_cons, AV.undef, eq_self, ne_eq, Int.reduceLT, Int.reduceLE, Int.reduceToNat, Int.reduceEq, Int.reduceNeg, Nat.reduceAdd, Nat.reduceLT, Nat.reduceLeDiff, Nat.reduceMul, Nat.reduceSub, ↓evDraw_nil, bir, putD, evDraw, trace, List.all_cons, List.all_nil, chk, stAt, again, sameV, sameL, sameA, AV.undef, Bool.and_self, Bool.and_true, decide_eq_true_eq, List.getElem?_nil, kM, AV.cells, AV.tup, List.drop_nil, List.append_nil, rdO, St.wr, List.length_cons, List.length_nil, List.take_succ_cons, List.take_zero, List.drop_succ_cons, List.drop_zero, List.cons_append, List.nil_append, Nat.reduceMul, aFill, evParts, rep, List.replicate_succ, List.replicate_zero, List.flatten_cons, List.flatten_nil, List.append_nil, newSl, newVar, t0, t1, t5, t6, c1, r1, w1, r2, w2, hB, r3, q4, hC, gC, hD, r5, c5', r6, w6, r7, g7, hH, rH, hF, rF, q, w3]
        refine ⟨m - 1, ⟨?_, ?_, ?_, p', 2, L ++ [⟨1 + x6, p7, e7, l7⟩], ?_, by rw [List.length_append]; simp only [List.length_cons, List.length_nil]; omega, E'⟩, by show m - 1 < m; omega⟩ <;> simp only [Tr.get_set, Nat.reduceEqDiff, if_false, if_true, t0, t1]
      · obtain rfl := b3.ez.resolve_left (by simp)
        have hr3 := (b3.at_ oo vv ii rfl).2
        simp -implicitDefEqProofs -dsimp (maxSteps := 10000000) only [af25_l0, ↓kS, after_some, br_true, br_false, kC, ↓kQ, ↓Option.bind_some, ↓Option.map_some, ↓cond_true, ↓cond_false, evC, evOp, XO.lit, setArgs, Tr.get_set, Option.bind_some, Option.map_some, cond_true, cond_false, maxI, maxFrom, minI, minFrom, aConv, aBinE, aEq, eqScal, aUn, evRes, fin, oneOf, if_true, if_false, callee, reduceCtorEq, Nat.reduceEqDiff, List.getElem?_cons_zero, List.getElem?_cons_succ, beq_self_eq_true, gt_iff_lt, List.head?_cons, AV.undef, eq_self, ne_eq, Int.reduceLT, Int.reduceLE, Int.reduceToNat, Int.reduceEq, Int.reduceNeg, Nat.reduceAdd, Nat.reduceLT, Nat.reduceLeDiff, Nat.reduceMul, Nat.reduceSub, ↓evDraw_nil, bir, putD, evDraw, trace, List.all_cons, List.all_nil, chk, stAt, again, sameV, sameL, sameA, AV.undef, Bool.and_self, Bool.and_true, decide_eq_true_eq, List.getElem?_nil, kM, AV.cells, AV.tup, List.drop_nil, List.append_nil, rdO, St.wr, List.length_cons, List.length_nil, List.take_succ_cons, List.take_zero, List.drop_succ_cons, List.drop_zero, List.cons_append, List.nil_append, Nat.reduceMul, aFill, evParts, rep, List.replicate_succ, List.replicate_zero, List.flatten_cons, List.flatten_nil, List.append_nil, newSl, newVar, t0, t1, t5, t6, c1, r1, w1, r2, w2, hB, r3, Nat.mul_one, hr3, q4, hC, gC, hD, r5, c5', r6, w6, r7, g7, hH, rH, hF, rF, q, w3]
        refine ⟨m - 1, ⟨?_, ?_, ?_, p', 2, L ++ [⟨1 + x6, p7, e7, l7⟩], ?_, by rw [List.length_append]; simp only [List.length_cons, List.length_nil]; omega, E'⟩, by show m - 1 < m; omega⟩ <;> simp only [Tr.get_set, Nat.reduceEqDiff, if_false, if_true, t0, t1]
    · obtain ⟨F, p', S', hF, rF, q, E'⟩ := last S5 ⟨1 + x1, p4, e4, l4⟩ oS5 h5 g5 ⟨by show 1 ≤ 1 + x1; omega, by show 1 + x1 ≤ 255; omega, by show l4.length ≤ 20; omega, fun h => by cases h⟩ (oS5.by_ b4 fun o v i hp he => by have := G4.new o v i hp; omega) fun o v i hp => G4.new o v i hp
      have rH : ∀ v i m, S5.rd S4.next v i m = rdO (.cells [.int .i64 (1 + x1), .slice p4 l4.length e4 none] 0 0 true) v i m := rd_of g5
      have hF : S5.alloc (.cells [.int .i64 (1 + x1), .slice p4 l4.length e4 none] 0 0 true) = F := hF
      have rF : F.rd S5.next 0 0 2 = some [.int .i64 (1 + x1), .slice p4 l4.length e4 none] := rF
      have q : aAppend 2 32 F (.slice po L.length eo none) 1 [.int .i64 (1 + x1), .slice p4 l4.length e4 none] = _ := q
      rcases p3 with _ | ⟨oo, vv, ii⟩
      · obtain rfl := b3.nil rfl
        have q4 : aAppend 1 1 S3 (.slice (some (S2.next, 0, 0)) 1 1 none) 0 [] = some (.slice p4 l4.length e4 none, S4) := q4
        simp -implicitDefEqProofs -dsimp (maxSteps := 10000000) only [af25_l0, ↓kS, after_some, br_true, br_false, kC, ↓kQ, ↓Option.bind_some, ↓Option.map_some, ↓cond_true, ↓cond_false, evC, evOp, XO.lit, setArgs, Tr.get_set, Option.bind_some, Option.map_some, cond_true, cond_false, maxI, maxFrom, minI, minFrom, aConv, aBinE, aEq, eqScal, aUn, evRes, fin, oneOf, if_true, if_false, callee, reduceCtorEq, Nat.reduceEqDiff, List.getElem?_cons_zero, List.getElem?_cons_succ, beq_self_eq_true, gt_iff_lt, List.head?_cons, AV.undef, eq_self, ne_eq, Int.reduceLT, Int.reduceLE, Int.reduceToNat, Int.reduceEq, Int.reduceNeg, Nat.reduceAdd, Nat.reduceLT, Nat.reduceLeDiff, Nat.reduceMul, Nat.reduceSub, ↓evDraw_nil, bir, putD, evDraw, trace, List.all_cons, List.all_nil, chk, stAt, again, sameV, sameL, sameA, AV.undef, Bool.and_self, Bool.and_true, decide_eq_true_eq, List.getElem?_nil, kM, AV.cells, AV.tup, List.drop_nil, List.append_nil, rdO, St.wr, List.length_cons, List.length_nil, List.take_succ_cons, List.take_zero, List.drop_succ_cons, List.drop_zero, List.cons_append, List.nil_append, Nat.reduceMul, aFill, evParts, rep, List.replicate_succ, List.replicate_zero, List.flatten_cons, List.flatten_nil, List.append_nil, newSl, newVar, t0, t1, t5, t6, c1, r1, w1, r2, w2, hB, r3, q4, hC, gC, hD, r5, c5, rH, hF, rF, q, w3]
        refine ⟨m - 1, ⟨?_, ?_, ?_, p', 2, L ++ [⟨1 + x1, p4, e4, l4⟩], ?_, by rw [List.length_append]; simp only [List.length_cons, List.length_nil]; omega, E'⟩, by show m - 1 < m; omega⟩ <;> simp only [Tr.get_set, Nat.reduceEqDiff, if_false, if_true, t0, t1]
      · obtain rfl := b3.ez.resolve_left (by simp)
        have hr3 := (b3.at_ oo vv ii rfl).2
        simp -implicitDefEqProofs -dsimp (maxSteps := 10000000) only [af25_l0, ↓kS, after_some, br_true, br_false, kC, ↓kQ, ↓Option.bind_some, ↓Option.map_some, ↓cond_true, ↓cond_false, evC, evOp, XO.lit, setArgs, Tr.get_set, Option.bind_some, Option.map_some, cond_true, cond_false, maxI, maxFrom, minI, minFrom, aConv, aBinE, aEq, eqScal, aUn, evRes, fin, oneOf, if_true, if_false, callee, reduceCtorEq, Nat.reduceEqDiff, List.getElem?_cons_zero, List.getElem?_cons_succ, beq_self_eq_true, gt_iff_lt, List.head?_cons, AV.undef, eq_self, ne_eq, Int.reduceLT, Int.reduceLE, Int.reduceToNat, Int.reduceEq, Int.reduceNeg, Nat.reduceAdd, Nat.reduceLT, Nat.reduceLeDiff, Nat.reduceMul, Nat.reduceSub, ↓evDraw_nil, bir, putD, evDraw, trace, List.all_cons, List.all_nil, chk, stAt, again, sameV, sameL, sameA, AV.undef, Bool.and_self, Bool.and_true, decide_eq_true_eq, List.getElem?_nil, kM, AV.cells, AV.tup, List.drop_nil, List.append_nil, rdO, St.wr, List.length_cons, List.length_nil, List.take_succ_cons, List.take_zero, List.drop_succ_cons, List.drop_zero, List.cons_append, List.nil_append, Nat.reduceMul, aFill, evParts, rep, List.replicate_succ, List.replicate_zero, List.flatten_cons, List.flatten_nil, List.append_nil, newSl, newVar, t0, t1, t5, t6, c1, r1, w1, r2, w2, hB, r3, Nat.mul_one, hr3, q4, hC, gC, hD, r5, c5, rH, hF, rF, q, w3]
        refine ⟨m - 1, ⟨?_, ?_, ?_, p', 2, L ++ [⟨1 + x1, p4, e4, l4⟩], ?_, by rw [List.length_append]; simp only [List.length_cons, List.length_nil]; omega, E'⟩, by show m - 1 < m; omega⟩ <;> simp only [Tr.get_set, Nat.reduceEqDiff, if_false, if_true, t0, t1]
set_option maxHeartbeats 4000000 in
/-- Elems, of a tape -/
theorem T25 (k : Nat) {S : St} {pt : Option (Nat × Nat × Nat)} {len ot : Nat} (h : Tpe S pt len ot) (hpt : ∀ o v i, pt = some (o, v, i) → o < S.next) (two : Bool) :
    ∃ po eo L S', evF Y AP (k + 121) 25 [pt2 ot, .bool two] S = some (.slice po L.length eo none, S') ∧ L.length ≤ 3 ∧ Es S S' pt len ot two po eo L := by
  suffices hh : ∃ w S', evF Y AP (k + 121) 25 [pt2 ot, .bool two] S = some (w, S') ∧ ∃ po eo L, w = .slice po L.length eo none ∧ L.length ≤ 3 ∧ Es S S' pt len ot two po eo L by
    obtain ⟨w, S', h1, p, e, l, rfl, h2, h3⟩ := hh; exact ⟨p, e, l, S', h1, h2, h3⟩
  obtain ⟨x, S1, r1, a1, b1, o1, h1⟩ := T21 (k + 114) h (n := 4) (by decide) (by decide)
  have r1 : evF Y AP (k + 120) 21 [pt2 ot, .int .i64 4] S = _ := r1
  obtain ⟨b, rfl⟩ : ∃ b : Nat, x = (b : Int) := ⟨x.toNat, by omega⟩
  refine evF_goes (af := af25) (k := k + 120) rfl rfl rfl ?_
  simp -implicitDefEqProofs -dsimp (maxSteps := 10000000) only [af25, ↓kS, after_some, br_true, br_false, kC, ↓kQ, ↓Option.bind_some, ↓Option.map_some, ↓cond_true, ↓cond_false, evC, evOp, XO.lit, setArgs, Tr.tabG, Tr.tabS, Tr.tabL, Tr.get_lf, Option.bind_some, Option.map_some, cond_true, cond_false, maxI, maxFrom, minI, minFrom, aConv, aBinE, aEq, eqScal, aUn, evRes, fin, oneOf, if_true, if_false, callee, reduceCtorEq, Nat.reduceEqDiff, List.getElem?_cons_zero, List.getElem?_cons_succ, beq_self_eq_true, gt_iff_lt, List.head?_cons, AV.undef, eq_self, ne_eq, Int.reduceLT, Int.reduceLE, Int.reduceToNat, Int.reduceEq, Int.reduceNeg, Nat.reduceAdd, Nat.reduceLT, Nat.reduceLeDiff, Nat.reduceMul, Nat.reduceSub, ↓evDraw_nil, bir, putD, evDraw, trace, List.all_cons, List.all_nil, chk, stAt, again, sameV, sameL, sameA, AV.undef, Bool.and_self, Bool.and_true, decide_eq_true_eq, List.getElem?_nil, kM, AV.cells, AV.tup, List.drop_nil, List.append_nil, rdO, St.wr, List.length_cons, List.length_nil, List.take_succ_cons, List.take_zero, List.drop_succ_cons, List.drop_zero, List.cons_append, List.nil_append, Nat.reduceMul, aFill, evParts, rep, List.replicate_succ, List.replicate_zero, List.flatten_cons, List.flatten_nil, List.append_nil, newSl, newVar, r1]
  refine .while (I25 S pt len ot two b) id b ⟨rfl, rfl, rfl, none, 0, [], rfl, by simp, ⟨h1, .nil _ _ _, o1, fun _ _ _ hp => (by cases hp), fun _ hx => (by cases hx)⟩⟩ (by show b < k + 120; omega) fun m2 T2 S5 h2 => (round25 k h.lt hpt (by omega) m2 T2 S5 h2).mono ?_
  intro r T' S' hq
  cases r with
  | normal => exact hq
  | ret => exact absurd hq.1 (by simp)
  | exit x =>
    obtain ⟨hi, t0, t1, t6, po, eo, L, t5, hl, E⟩ := hq
    cases hi
    simp -implicitDefEqProofs -dsimp (maxSteps := 10000000) only [↓kS, after_some, br_true, br_false, kC, ↓kQ, ↓Option.bind_some, ↓Option.map_some, ↓cond_true, ↓cond_false, evC, evOp, XO.lit, setArgs, Tr.get_set, Option.bind_some, Option.map_some, cond_true, cond_false, maxI, maxFrom, minI, minFrom, aConv, aBinE, aEq, eqScal, aUn, evRes, fin, oneOf, if_true, if_false, callee, reduceCtorEq, Nat.reduceEqDiff, List.getElem?_cons_zero, List.getElem?_cons_succ, beq_self_eq_true, gt_iff_lt, List.head?_cons, AV.undef, eq_self, ne_eq, Int.reduceLT, Int.reduceLE, Int.reduceToNat, Int.reduceEq, Int.reduceNeg, Nat.reduceAdd, Nat.reduceLT, Nat.reduceLeDiff, Nat.reduceMul, Nat.reduceSub, ↓evDraw_nil, bir, putD, evDraw, trace, List.all_cons, List.all_nil, chk, stAt, again, sameV, sameL, sameA, AV.undef, Bool.and_self, Bool.and_true, decide_eq_true_eq, List.getElem?_nil, kM, AV.cells, AV.tup, List.drop_nil, List.append_nil, rdO, St.wr, List.length_cons, List.length_nil, List.take_succ_cons, List.take_zero, List.drop_succ_cons, List.drop_zero, List.cons_append, List.nil_append, Nat.reduceMul, t5]
    exact ⟨_, _, rfl, po, eo, L, rfl, by omega, E⟩
end Go.Proofs.YthejkmfmcjpfhaaA
