/- Chapter 7: layers that are right; rows of layers. -/
import Derived.Test.YtbfkhnpginlpdaaVaR
set_option linter.unusedVariables false
set_option linter.unusedSimpArgs false
set_option maxRecDepth 10000
namespace Go.Proofs.YtbfkhnpginlpdaaA
open Go.RowKit
attribute [local congr] bind_congr1 map_congr1 cond_congr1 withX_congr after_congr br_congr gd_congr

theorem ev10 : ∃ S', evF X0 AP 60 10 [] S0 = some (.bool true, S') := by
  have h : (evF X0 AP 60 10 [] S0).map Prod.fst = some (.bool true) := by kernel_rfl
  rw [Option.map_eq_some_iff] at h
  obtain ⟨⟨v, S'⟩, h1, h2⟩ := h
  exact ⟨S', by rw [h1]; cases h2; rfl⟩
def X4 := addX X3 25 (sS1 fun s => .bool (right s))
def X5 := addX X4 22 (sS1 fun s => .bool (right s))
def X6 := addX X5 26 (sS1 fun s => .int .i64 (count s))
def Y := addX X6 10 (sN0 (.bool true))
theorem ok4 : XOk Try.prog X4 := addX_any ok3 ok3 (addX_S1 ok3 (entry_of apOk (af := af25) rfl) (fun _ => rfl) fun s hs => ⟨_, ev12 0 hs⟩)
theorem ok5 : XOk Try.prog X5 := addX_any ok4 ok3 (addX_S1 ok3 (entry_of apOk (af := af22) rfl) (fun _ => rfl) fun s hs => ⟨_, ev15 0 hs⟩)
theorem ok6 : XOk Try.prog X6 := addX_any ok5 (X0_ok _) (addX_S1 (X0_ok _) (entry_of apOk (af := af26) rfl) (fun _ => rfl) fun s hs => ⟨_, ev11 0 hs⟩)
theorem yk : XOk Try.prog Y := addX_any ok6 (X0_ok _) (addX_N0 (P := Try.prog) mixed (X0_ok _) apOk (entry_of apOk (af := af10) rfl) rfl ⟨60, ev10⟩)
theorem y10 (k : Nat) (S : St) : evF Y AP (k + 1) 10 [] S = some (.bool true, S) := rfl
theorem y25 (k : Nat) (S : St) {s : List Nat} (hs : s.length ≤ 9223372036854775807) : evF Y AP (k + 1) 25 [.str s] S = some (.bool (right s), S) := evF_known (if_pos hs)
theorem y22 (k : Nat) (S : St) {s : List Nat} (hs : s.length ≤ 9223372036854775807) : evF Y AP (k + 1) 22 [.str s] S = some (.bool (right s), S) := evF_known (if_pos hs)
theorem y26 (k : Nat) (S : St) {s : List Nat} (hs : s.length ≤ 9223372036854775807) : evF Y AP (k + 1) 26 [.str s] S = some (.int .i64 (count s), S) := evF_known (if_pos hs)
theorem y13 (k : Nat) (S : St) {s : List Nat} (hs : s.length ≤ 9223372036854775807) : evF Y AP (k + 1) 13 [.str s] S = some (.int .i64 (count s), S) := evF_known (if_pos hs)
/-! ### Layers -/
structure Ly where
  r : List Nat
  u : Int
  h : Int
abbrev lyc (x : Ly) : List AV := [.str x.r, .int .u32 x.u, .int .i64 x.h]
def lcs : List Ly → List AV
  | [] => []
  | x :: t => .str x.r :: .int .u32 x.u :: .int .i64 x.h :: lcs t
theorem lcs_len : ∀ L : List Ly, (lcs L).length = L.length * 3
  | [] => rfl
  | x :: t => by rw [lcs, List.length_cons, List.length_cons, List.length_cons, lcs_len t, List.length_cons]; omega
theorem lcs_app : ∀ L M : List Ly, lcs (L ++ M) = lcs L ++ lcs M
  | [], M => rfl
  | x :: t, M => by rw [List.cons_append, lcs, lcs, lcs_app t M]; rfl
theorem lcs_get : ∀ (L : List Ly) (i : Nat) (h : i < L.length), ((lcs L).drop (i * 3)).take 3 = lyc L[i]
  | x :: t, 0, _ => rfl
  | x :: t, i + 1, h => by
    rw [show (i + 1) * 3 = i * 3 + 1 + 1 + 1 by omega, lcs, List.drop_succ_cons, List.drop_succ_cons, List.drop_succ_cons, lcs_get t i (by rw [List.length_cons] at h; omega)]
    simp only [List.getElem_cons_succ]
def okL (x : Ly) : Bool := right x.r && decide (1 ≤ x.h) && decide (x.h ≤ 8192)
/-- A row of layers, as it is read. -/
structure Lr (S : St) (p : Option (Nat × Nat × Nat)) (e : Nat) (L : List Ly) : Prop where
  ez : p = none ∨ e = 3
  nil : p = none → L = []
  at_ : ∀ o v i, p = some (o, v, i) → o < S.next ∧ S.rd o v i (L.length * 3) = some (lcs L)
  mx : L.length ≤ 9223372036854775807
  st : ∀ x ∈ L, x.r.length ≤ 9223372036854775807
theorem Lr.ext {S S' : St} {p : Option (Nat × Nat × Nat)} {e : Nat} {L : List Ly} (h : Lr S p e L) (x : Ext S S') : Lr S' p e L :=
  ⟨h.ez, h.nil, fun o v i hp => ⟨Nat.lt_of_lt_of_le (h.at_ o v i hp).1 x.next, by rw [x.rd (h.at_ o v i hp).1]; exact (h.at_ o v i hp).2⟩, h.mx, h.st⟩
theorem Lr.get {S : St} {o v i e : Nat} {L : List Ly} (h : Lr S (some (o, v, i)) e L) {j : Nat} (hj : j < L.length) : S.rd o v (i + j * 3) 3 = some (lyc L[j]) := by
  have h1 := rd_sub (m := j * 3) (l := 3) (h.at_ o v i rfl).2 (by omega)
  rw [h1, lcs_get L j hj]
theorem Lr.of_vec {S : St} {p : Option (Nat × Nat × Nat)} {e : Nat} {L : List Ly} (h : Vec S p L.length 3 e (lcs L)) (hm : L.length ≤ 1000000) (st : ∀ x ∈ L, x.r.length ≤ 9223372036854775807) : Lr S p e L := by
  refine ⟨h.ez, fun hp => ?_, fun o v i hp => ?_, by omega, st⟩
  · rcases h.at_ with ⟨_, h0⟩ | ⟨o, ver, minv, hp', _⟩
    · exact List.length_eq_zero_iff.1 h0
    · rw [hp] at hp'; cases hp'
  · rcases h.at_ with ⟨hp', _⟩ | ⟨o', ver, minv, hp', h1, h2, h3⟩
    · rw [hp] at hp'; cases hp'
    · rw [hp] at hp'; cases hp'
      refine ⟨h1, ?_⟩
      rw [rd_cells h2 h3 (by rw [lcs_len]; omega), List.drop_zero, List.take_of_length_le (by rw [lcs_len]; exact Nat.le_refl _)]
set_option maxHeartbeats 2000000 in
/-- right -/
theorem T19 (k : Nat) (S : St) {x : Ly} (hs : x.r.length ≤ 9223372036854775807) : ∃ S', evF Y AP (k + 3) 19 [.agg (lyc x)] S = some (.bool (okL x), S') ∧ Ext S S' := by
  obtain ⟨A, hA⟩ : ∃ A, S.alloc (.cells (lyc x) 0 0 true) = A := ⟨_, rfl⟩
  have eA : Ext S A := by rw [← hA]; exact .alloc _ _
  have rA : ∀ v i m, A.rd S.next v i m = rdO (.cells (lyc x) 0 0 true) v i m := rd_of (by rw [← hA, St.get_alloc, if_pos rfl])
  have q := y25 (k + 1) A hs
  refine ⟨A, ?_, eA⟩
  unfold okL
  rw [evF_body (af := af19) rfl rfl rfl]
  cases hr : right x.r with
  | false =>
    rw [hr] at q
    simp -implicitDefEqProofs -dsimp (maxSteps := 10000000) only [af19, kC, ↓kQ, ↓Option.bind_some, ↓Option.map_some, ↓cond_true, ↓cond_false, evC, evOp, XO.lit, setArgs, Tr.tabG, Tr.tabS, Tr.tabL, Tr.get_lf, Option.bind_some, Option.map_some, cond_true, cond_false, maxI, maxFrom, minI, minFrom, aConv, aBinE, aEq, eqScal, aUn, evRes, fin, oneOf, if_true, if_false, callee, reduceCtorEq, Nat.reduceEqDiff, List.getElem?_cons_zero, List.getElem?_cons_succ, beq_self_eq_true, gt_iff_lt, List.head?_cons, AV.undef, eq_self, ne_eq, Int.reduceLT, Int.reduceLE, Int.reduceToNat, Int.reduceEq, Int.reduceNeg, Nat.reduceAdd, Nat.reduceLT, Nat.reduceLeDiff, Nat.reduceMul, Nat.reduceSub, ↓evDraw_nil, bir, putD, evDraw, trace, List.all_cons, List.all_nil, chk, stAt, again, sameV, sameL, sameA, AV.undef, Bool.and_self, Bool.and_true, decide_eq_true_eq, List.getElem?_nil, kM, AV.cells, AV.tup, List.drop_nil, List.append_nil, rdO, St.wr, List.length_cons, List.length_nil, List.take_succ_cons, List.take_zero, List.drop_succ_cons, List.drop_zero, List.cons_append, List.nil_append, Nat.reduceMul, aFill, evParts, rep, List.replicate_succ, List.replicate_zero, List.flatten_cons, List.flatten_nil, List.append_nil, newSl, newVar, hA, rA, q, Bool.false_and]
  | true =>
    rw [hr] at q
    by_cases c1 : 1 ≤ x.h
    · by_cases c2 : x.h ≤ 8192
      · simp -implicitDefEqProofs -dsimp (maxSteps := 10000000) only [af19, kC, ↓kQ, ↓Option.bind_some, ↓Option.map_some, ↓cond_true, ↓cond_false, evC, evOp, XO.lit, setArgs, Tr.tabG, Tr.tabS, Tr.tabL, Tr.get_lf, Option.bind_some, Option.map_some, cond_true, cond_false, maxI, maxFrom, minI, minFrom, aConv, aBinE, aEq, eqScal, aUn, evRes, fin, oneOf, if_true, if_false, callee, reduceCtorEq, Nat.reduceEqDiff, List.getElem?_cons_zero, List.getElem?_cons_succ, beq_self_eq_true, gt_iff_lt, List.head?_cons, AV.undef, eq_self, ne_eq, Int.reduceLT, Int.reduceLE, Int.reduceToNat, Int.reduceEq, Int.reduceNeg, Nat.reduceAdd, Nat.reduceLT, Nat.reduceLeDiff, Nat.reduceMul, Nat.reduceSub, ↓evDraw_nil, bir, putD, evDraw, trace, List.all_cons, List.all_nil, chk, stAt, again, sameV, sameL, sameA, AV.undef, Bool.and_self, Bool.and_true, decide_eq_true_eq, List.getElem?_nil, kM, AV.cells, AV.tup, List.drop_nil, List.append_nil, rdO, St.wr, List.length_cons, List.length_nil, List.take_succ_cons, List.take_zero, List.drop_succ_cons, List.drop_zero, List.cons_append, List.nil_append, Nat.reduceMul, aFill, evParts, rep, List.replicate_succ, List.replicate_zero, List.flatten_cons, List.flatten_nil, List.append_nil, newSl, newVar, hA, rA, q, c1, c2, Bool.true_and, decide_true]
      · simp -implicitDefEqProofs -dsimp (maxSteps := 10000000) only [af19, kC, ↓kQ, ↓Option.bind_some, ↓Option.map_some, ↓cond_true, ↓cond_false, evC, evOp, XO.lit, setArgs, Tr.tabG, Tr.tabS, Tr.tabL, Tr.get_lf, Option.bind_some, Option.map_some, cond_true, cond_false, maxI, maxFrom, minI, minFrom, aConv, aBinE, aEq, eqScal, aUn, evRes, fin, oneOf, if_true, if_false, callee, reduceCtorEq, Nat.reduceEqDiff, List.getElem?_cons_zero, List.getElem?_cons_succ, beq_self_eq_true, gt_iff_lt, List.head?_cons, AV.undef, eq_self, ne_eq, Int.reduceLT, Int.reduceLE, Int.reduceToNat, Int.reduceEq, Int.reduceNeg, Nat.reduceAdd, Nat.reduceLT, Nat.reduceLeDiff, Nat.reduceMul, Nat.reduceSub, ↓evDraw_nil, bir, putD, evDraw, trace, List.all_cons, List.all_nil, chk, stAt, again, sameV, sameL, sameA, AV.undef, Bool.and_self, Bool.and_true, decide_eq_true_eq, List.getElem?_nil, kM, AV.cells, AV.tup, List.drop_nil, List.append_nil, rdO, St.wr, List.length_cons, List.length_nil, List.take_succ_cons, List.take_zero, List.drop_succ_cons, List.drop_zero, List.cons_append, List.nil_append, Nat.reduceMul, aFill, evParts, rep, List.replicate_succ, List.replicate_zero, List.flatten_cons, List.flatten_nil, List.append_nil, newSl, newVar, hA, rA, q, c1, c2, Bool.true_and, decide_true, decide_false]
    · simp -implicitDefEqProofs -dsimp (maxSteps := 10000000) only [af19, kC, ↓kQ, ↓Option.bind_some, ↓Option.map_some, ↓cond_true, ↓cond_false, evC, evOp, XO.lit, setArgs, Tr.tabG, Tr.tabS, Tr.tabL, Tr.get_lf, Option.bind_some, Option.map_some, cond_true, cond_false, maxI, maxFrom, minI, minFrom, aConv, aBinE, aEq, eqScal, aUn, evRes, fin, oneOf, if_true, if_false, callee, reduceCtorEq, Nat.reduceEqDiff, List.getElem?_cons_zero, List.getElem?_cons_succ, beq_self_eq_true, gt_iff_lt, List.head?_cons, AV.undef, eq_self, ne_eq, Int.reduceLT, Int.reduceLE, Int.reduceToNat, Int.reduceEq, Int.reduceNeg, Nat.reduceAdd, Nat.reduceLT, Nat.reduceLeDiff, Nat.reduceMul, Nat.reduceSub, ↓evDraw_nil, bir, putD, evDraw, trace, List.all_cons, List.all_nil, chk, stAt, again, sameV, sameL, sameA, AV.undef, Bool.and_self, Bool.and_true, decide_eq_true_eq, List.getElem?_nil, kM, AV.cells, AV.tup, List.drop_nil, List.append_nil, rdO, St.wr, List.length_cons, List.length_nil, List.take_succ_cons, List.take_zero, List.drop_succ_cons, List.drop_zero, List.cons_append, List.nil_append, Nat.reduceMul, aFill, evParts, rep, List.replicate_succ, List.replicate_zero, List.flatten_cons, List.flatten_nil, List.append_nil, newSl, newVar, hA, rA, q, c1, Bool.true_and, decide_false, Bool.false_and]
set_option maxHeartbeats 2000000 in
/-- next's closure -/
theorem T24 (k : Nat) (S : St) {x : Ly} (hs : x.r.length ≤ 9223372036854775807) : ∃ S', evF Y AP (k + 4) 24 [.agg (lyc x)] S = some (.bool (!okL x), S') ∧ Ext S S' := by
  obtain ⟨A, hA⟩ : ∃ A, S.alloc (.cells (lyc x) 0 0 true) = A := ⟨_, rfl⟩
  have eA : Ext S A := by rw [← hA]; exact .alloc _ _
  have rA : ∀ v i m, A.rd S.next v i m = rdO (.cells (lyc x) 0 0 true) v i m := rd_of (by rw [← hA, St.get_alloc, if_pos rfl])
  obtain ⟨S', q, x'⟩ := T19 k A hs
  refine ⟨S', ?_, eA.trans x'⟩
  rw [evF_body (af := af24) rfl rfl rfl]
  simp -implicitDefEqProofs -dsimp (maxSteps := 10000000) only [af24, kC, ↓kQ, ↓Option.bind_some, ↓Option.map_some, ↓cond_true, ↓cond_false, evC, evOp, XO.lit, setArgs, Tr.tabG, Tr.tabS, Tr.tabL, Tr.get_lf, Option.bind_some, Option.map_some, cond_true, cond_false, maxI, maxFrom, minI, minFrom, aConv, aBinE, aEq, eqScal, aUn, evRes, fin, oneOf, if_true, if_false, callee, reduceCtorEq, Nat.reduceEqDiff, List.getElem?_cons_zero, List.getElem?_cons_succ, beq_self_eq_true, gt_iff_lt, List.head?_cons, AV.undef, eq_self, ne_eq, Int.reduceLT, Int.reduceLE, Int.reduceToNat, Int.reduceEq, Int.reduceNeg, Nat.reduceAdd, Nat.reduceLT, Nat.reduceLeDiff, Nat.reduceMul, Nat.reduceSub, ↓evDraw_nil, bir, putD, evDraw, trace, List.all_cons, List.all_nil, chk, stAt, again, sameV, sameL, sameA, AV.undef, Bool.and_self, Bool.and_true, decide_eq_true_eq, List.getElem?_nil, kM, AV.cells, AV.tup, List.drop_nil, List.append_nil, rdO, St.wr, List.length_cons, List.length_nil, List.take_succ_cons, List.take_zero, List.drop_succ_cons, List.drop_zero, List.cons_append, List.nil_append, Nat.reduceMul, aFill, evParts, rep, List.replicate_succ, List.replicate_zero, List.flatten_cons, List.flatten_nil, List.append_nil, newSl, newVar, hA, rA, q]
structure I28 (Sb : St) (p : Option (Nat × Nat × Nat)) (e : Nat) (c : Option Nat) (L : List Ly) (m : Nat) (T : Tm) (S : St) : Prop where
  t0 : T.get 0 = some (.slice p L.length e c)
  t1 : T.get 1 = some (.func 24 [])
  t7 : T.get 7 = some (.int .i64 L.length)
  ext : Ext Sb S
  more : ∃ i : Nat, T.get 8 = some (.int .i64 i) ∧ i + m = L.length ∧ (L.take i).all okL = true
set_option maxHeartbeats 4000000 in
theorem round28 (k : Nat) {Sb : St} {p : Option (Nat × Nat × Nat)} {e : Nat} {c : Option Nat} {L : List Ly} (hL : Lr Sb p e L) (m : Nat) (T : Tm) (S : St) (hI : I28 Sb p e c L m T S) :
    Goes (evF Y AP (k + 4)) (k + 4) af28_l0 T S (Then (fun T' S' => ∃ m', I28 Sb p e c L m' T' S' ∧ id m' < id m) fun r T' S' => (r = .exit 0 ∧ I28 Sb p e c L 0 T' S') ∨ (r = .ret ∧ Ext Sb S' ∧ L.all okL = false ∧ ∃ n : Nat, T'.get 4 = some (.int .i64 n))) := by
  obtain ⟨t0, t1, t7, ex, i, t8, hm, ha⟩ := hI
  have hmx := hL.mx
  by_cases c1 : (i : Int) < (L.length : Int)
  rotate_left
  · obtain rfl : m = 0 := by omega
    simp -implicitDefEqProofs -dsimp (maxSteps := 10000000) only [af28_l0, ↓kS, after_some, br_true, br_false, kC, ↓kQ, ↓Option.bind_some, ↓Option.map_some, ↓cond_true, ↓cond_false, evC, evOp, XO.lit, setArgs, Tr.get_set, Option.bind_some, Option.map_some, cond_true, cond_false, maxI, maxFrom, minI, minFrom, aConv, aBinE, aEq, eqScal, aUn, evRes, fin, oneOf, if_true, if_false, callee, reduceCtorEq, Nat.reduceEqDiff, List.getElem?_cons_zero, List.getElem?_cons_succ, beq_self_eq_true, gt_iff_lt, List.head?_cons, AV.undef, eq_self, ne_eq, Int.reduceLT, Int.reduceLE, Int.reduceToNat, Int.reduceEq, Int.reduceNeg, Nat.reduceAdd, Nat.reduceLT, Nat.reduceLeDiff, Nat.reduceMul, Nat.reduceSub, kM, AV.cells, AV.tup, List.drop_nil, List.append_nil, rdO, St.wr, List.length_cons, List.length_nil, List.take_succ_cons, List.take_zero, List.drop_succ_cons, List.drop_zero, List.cons_append, List.nil_append, Nat.reduceMul, t7, t8, c1]
    refine .inl ⟨?_, ?_, ?_, ex, i, ?_, hm, ha⟩ <;> simp only [Tr.get_set, Nat.reduceEqDiff, if_false, if_true, t0, t1, t7, t8]
  have hi : i < L.length := by omega
  have hLS := hL.ext ex
  rcases p with _ | ⟨o, v, j⟩
  · have := hL.nil rfl; rw [this] at hi; exact absurd hi (Nat.not_lt_zero _)
  obtain rfl := hL.ez.resolve_left (by simp)
  have hz := hLS.get hi
  have hst := hL.st _ (List.getElem_mem hi)
  obtain ⟨x, hx⟩ : ∃ x, L[i] = x := ⟨_, rfl⟩
  rw [hx] at hz hst
  obtain ⟨S', q, x'⟩ := T24 k S hst
  have hix : ixOf (.int .i64 (i : Nat)) L.length = some i := by rw [ix_ok (by omega) (by omega)]; rfl
  have wi : IntKind.i64.wrap ((i : Int) + 1) = ((i + 1 : Nat) : Int) := w64_id (by omega) (by omega)
  cases ho : okL x with
  | true =>
    rw [ho] at q
    simp -implicitDefEqProofs -dsimp (maxSteps := 10000000) only [af28_l0, ↓kS, after_some, br_true, br_false, kC, ↓kQ, ↓Option.bind_some, ↓Option.map_some, ↓cond_true, ↓cond_false, evC, evOp, XO.lit, setArgs, Tr.get_set, Option.bind_some, Option.map_some, cond_true, cond_false, maxI, maxFrom, minI, minFrom, aConv, aBinE, aEq, eqScal, aUn, evRes, fin, oneOf, if_true, if_false, callee, reduceCtorEq, Nat.reduceEqDiff, List.getElem?_cons_zero, List.getElem?_cons_succ, beq_self_eq_true, gt_iff_lt, List.head?_cons, AV.undef, eq_self, ne_eq, Int.reduceLT, Int.reduceLE, Int.reduceToNat, Int.reduceEq, Int.reduceNeg, Nat.reduceAdd, Nat.reduceLT, Nat.reduceLeDiff, Nat.reduceMul, Nat.reduceSub, ↓evDraw_nil, bir, putD, evDraw, trace, List.all_cons, List.all_nil, chk, stAt, again, sameV, sameL, sameA, AV.undef, Bool.and_self, Bool.and_true, decide_eq_true_eq, List.getElem?_nil, kM, AV.cells, AV.tup, List.drop_nil, List.append_nil, rdO, St.wr, List.length_cons, List.length_nil, List.take_succ_cons, List.take_zero, List.drop_succ_cons, List.drop_zero, List.cons_append, List.nil_append, Nat.reduceMul, aFill, evParts, rep, List.replicate_succ, List.replicate_zero, List.flatten_cons, List.flatten_nil, List.append_nil, newSl, newVar, t0, t1, t7, t8, c1, hix, hz, q, wi]
    refine ⟨m - 1, ⟨?_, ?_, ?_, ex.trans x', i + 1, ?_, by omega, ?_⟩, by show m - 1 < m; omega⟩
    rotate_right
    · rw [List.take_succ_eq_append_getElem hi, List.all_append, ha, hx]
      simp only [List.all_cons, List.all_nil, ho, Bool.and_self]
    all_goals simp only [Tr.get_set, Nat.reduceEqDiff, if_false, if_true, t0, t1, t7]
  | false =>
    rw [ho] at q
    simp -implicitDefEqProofs -dsimp (maxSteps := 10000000) only [af28_l0, ↓kS, after_some, br_true, br_false, kC, ↓kQ, ↓Option.bind_some, ↓Option.map_some, ↓cond_true, ↓cond_false, evC, evOp, XO.lit, setArgs, Tr.get_set, Option.bind_some, Option.map_some, cond_true, cond_false, maxI, maxFrom, minI, minFrom, aConv, aBinE, aEq, eqScal, aUn, evRes, fin, oneOf, if_true, if_false, callee, reduceCtorEq, Nat.reduceEqDiff, List.getElem?_cons_zero, List.getElem?_cons_succ, beq_self_eq_true, gt_iff_lt, List.head?_cons, AV.undef, eq_self, ne_eq, Int.reduceLT, Int.reduceLE, Int.reduceToNat, Int.reduceEq, Int.reduceNeg, Nat.reduceAdd, Nat.reduceLT, Nat.reduceLeDiff, Nat.reduceMul, Nat.reduceSub, ↓evDraw_nil, bir, putD, evDraw, trace, List.all_cons, List.all_nil, chk, stAt, again, sameV, sameL, sameA, AV.undef, Bool.and_self, Bool.and_true, decide_eq_true_eq, List.getElem?_nil, kM, AV.cells, AV.tup, List.drop_nil, List.append_nil, rdO, St.wr, List.length_cons, List.length_nil, List.take_succ_cons, List.take_zero, List.drop_succ_cons, List.drop_zero, List.cons_append, List.nil_append, Nat.reduceMul, aFill, evParts, rep, List.replicate_succ, List.replicate_zero, List.flatten_cons, List.flatten_nil, List.append_nil, newSl, newVar, t0, t1, t7, t8, c1, hix, hz, q]
    refine .inr ⟨ex.trans x', ?_, i, ?_⟩
    · rw [List.all_eq_false]; exact ⟨x, hx ▸ List.getElem_mem hi, by rw [ho]; decide⟩
    · simp only [Tr.get_set, Nat.reduceEqDiff, if_false, if_true]
set_option maxHeartbeats 4000000 in
/-- IndexFunc -/
theorem T28 (k : Nat) {S : St} {p : Option (Nat × Nat × Nat)} {e : Nat} {c : Option Nat} {L : List Ly} (hL : Lr S p e L) :
    ∃ n S', evF Y AP (k + L.length + 5) 28 [.slice p L.length e c, .func 24 []] S = some (.int .i64 n, S') ∧ Ext S S' ∧ decide (0 ≤ n) = !(L.all okL) := by
  suffices hh : ∃ w S', evF Y AP (k + L.length + 5) 28 [.slice p L.length e c, .func 24 []] S = some (w, S') ∧ ∃ n, w = .int .i64 n ∧ Ext S S' ∧ decide (0 ≤ n) = !(L.all okL) by
    obtain ⟨w, S', h1, n, rfl, h2⟩ := hh; exact ⟨n, S', h1, h2⟩
  have hmx := hL.mx
  refine evF_goes (af := af28) (k := k + L.length + 4) rfl rfl rfl ?_
  simp -implicitDefEqProofs -dsimp (maxSteps := 10000000) only [af28, ↓kS, after_some, br_true, br_false, kC, ↓kQ, ↓Option.bind_some, ↓Option.map_some, ↓cond_true, ↓cond_false, evC, evOp, XO.lit, setArgs, Tr.tabG, Tr.tabS, Tr.tabL, Tr.get_lf, Option.bind_some, Option.map_some, cond_true, cond_false, maxI, maxFrom, minI, minFrom, aConv, aBinE, aEq, eqScal, aUn, evRes, fin, oneOf, if_true, if_false, callee, reduceCtorEq, Nat.reduceEqDiff, List.getElem?_cons_zero, List.getElem?_cons_succ, beq_self_eq_true, gt_iff_lt, List.head?_cons, AV.undef, eq_self, ne_eq, Int.reduceLT, Int.reduceLE, Int.reduceToNat, Int.reduceEq, Int.reduceNeg, Nat.reduceAdd, Nat.reduceLT, Nat.reduceLeDiff, Nat.reduceMul, Nat.reduceSub, ↓evDraw_nil, bir, putD, evDraw, trace, List.all_cons, List.all_nil, chk, stAt, again, sameV, sameL, sameA, AV.undef, Bool.and_self, Bool.and_true, decide_eq_true_eq, List.getElem?_nil, kM, AV.cells, AV.tup, List.drop_nil, List.append_nil, rdO, St.wr, List.length_cons, List.length_nil, List.take_succ_cons, List.take_zero, List.drop_succ_cons, List.drop_zero, List.cons_append, List.nil_append, Nat.reduceMul, aFill, evParts, rep, List.replicate_succ, List.replicate_zero, List.flatten_cons, List.flatten_nil, List.append_nil, newSl, newVar, hmx]
  refine .while (I28 S p e c L) id L.length ⟨rfl, rfl, rfl, .refl S, 0, rfl, by omega, rfl⟩ (by show L.length < k + L.length + 4; omega) fun m2 T2 S2 h2 => (round28 (k + L.length) hL m2 T2 S2 h2).mono ?_
  intro r T' S' hq
  cases r with
  | normal => exact hq
  | ret =>
    rcases hq with ⟨h, _⟩ | ⟨_, ex, ha, n, t4⟩
    · cases h
    · simp -implicitDefEqProofs -dsimp (maxSteps := 10000000) only [↓kS, after_some, br_true, br_false, kC, ↓kQ, ↓Option.bind_some, ↓Option.map_some, ↓cond_true, ↓cond_false, evC, evOp, XO.lit, setArgs, Tr.get_set, Option.bind_some, Option.map_some, cond_true, cond_false, maxI, maxFrom, minI, minFrom, aConv, aBinE, aEq, eqScal, aUn, evRes, fin, oneOf, if_true, if_false, callee, reduceCtorEq, Nat.reduceEqDiff, List.getElem?_cons_zero, List.getElem?_cons_succ, beq_self_eq_true, gt_iff_lt, List.head?_cons, AV.undef, eq_self, ne_eq, Int.reduceLT, Int.reduceLE, Int.reduceToNat, Int.reduceEq, Int.reduceNeg, Nat.reduceAdd, Nat.reduceLT, Nat.reduceLeDiff, Nat.reduceMul, Nat.reduceSub, ↓evDraw_nil, bir, putD, evDraw, trace, List.all_cons, List.all_nil, chk, stAt, again, sameV, sameL, sameA, AV.undef, Bool.and_self, Bool.and_true, decide_eq_true_eq, List.getElem?_nil, kM, AV.cells, AV.tup, List.drop_nil, List.append_nil, rdO, St.wr, List.length_cons, List.length_nil, List.take_succ_cons, List.take_zero, List.drop_succ_cons, List.drop_zero, List.cons_append, List.nil_append, Nat.reduceMul, t4]
      exact ⟨_, _, rfl, n, rfl, ex, by rw [ha]; simp⟩
  | exit i =>
    rcases hq with ⟨h, _, _, _, ex, i, _, hm, ha⟩ | ⟨h, _⟩
    · cases h
      simp -implicitDefEqProofs -dsimp (maxSteps := 10000000) only [↓kS, after_some, br_true, br_false, kC, ↓kQ, ↓Option.bind_some, ↓Option.map_some, ↓cond_true, ↓cond_false, evC, evOp, XO.lit, setArgs, Tr.get_set, Option.bind_some, Option.map_some, cond_true, cond_false, maxI, maxFrom, minI, minFrom, aConv, aBinE, aEq, eqScal, aUn, evRes, fin, oneOf, if_true, if_false, callee, reduceCtorEq, Nat.reduceEqDiff, List.getElem?_cons_zero, List.getElem?_cons_succ, beq_self_eq_true, gt_iff_lt, List.head?_cons, AV.undef, eq_self, ne_eq, Int.reduceLT, Int.reduceLE, Int.reduceToNat, Int.reduceEq, Int.reduceNeg, Nat.reduceAdd, Nat.reduceLT, Nat.reduceLeDiff, Nat.reduceMul, Nat.reduceSub, ↓evDraw_nil, bir, putD, evDraw, trace, List.all_cons, List.all_nil, chk, stAt, again, sameV, sameL, sameA, AV.undef, Bool.and_self, Bool.and_true, decide_eq_true_eq, List.getElem?_nil, kM, AV.cells, AV.tup, List.drop_nil, List.append_nil, rdO, St.wr, List.length_cons, List.length_nil, List.take_succ_cons, List.take_zero, List.drop_succ_cons, List.drop_zero, List.cons_append, List.nil_append, Nat.reduceMul]
      refine ⟨_, _, rfl, _, rfl, ex, ?_⟩
      obtain rfl : i = L.length := by omega
      rw [List.take_length] at ha
      rw [ha]; rfl
    · cases h
set_option maxHeartbeats 4000000 in
/-- ContainsFunc -/
theorem T23 (k : Nat) {S : St} {p : Option (Nat × Nat × Nat)} {e : Nat} {c : Option Nat} {L : List Ly} (hL : Lr S p e L) :
    ∃ S', evF Y AP (k + L.length + 6) 23 [.slice p L.length e c, .func 24 []] S = some (.bool (!(L.all okL)), S') ∧ Ext S S' := by
  obtain ⟨n, S', q, x, h⟩ := T28 k (c := c) hL
  refine ⟨S', ?_, x⟩
  rw [← h, evF_body (af := af23) rfl rfl rfl]
  simp -implicitDefEqProofs -dsimp (maxSteps := 10000000) only [af23, kC, ↓kQ, ↓Option.bind_some, ↓Option.map_some, ↓cond_true, ↓cond_false, evC, evOp, XO.lit, setArgs, Tr.tabG, Tr.tabS, Tr.tabL, Tr.get_lf, Option.bind_some, Option.map_some, cond_true, cond_false, maxI, maxFrom, minI, minFrom, aConv, aBinE, aEq, eqScal, aUn, evRes, fin, oneOf, if_true, if_false, callee, reduceCtorEq, Nat.reduceEqDiff, List.getElem?_cons_zero, List.getElem?_cons_succ, beq_self_eq_true, gt_iff_lt, List.head?_cons, AV.undef, eq_self, ne_eq, Int.reduceLT, Int.reduceLE, Int.reduceToNat, Int.reduceEq, Int.reduceNeg, Nat.reduceAdd, Nat.reduceLT, Nat.reduceLeDiff, Nat.reduceMul, Nat.reduceSub, ↓evDraw_nil, bir, putD, evDraw, trace, List.all_cons, List.all_nil, chk, stAt, again, sameV, sameL, sameA, AV.undef, Bool.and_self, Bool.and_true, decide_eq_true_eq, List.getElem?_nil, kM, AV.cells, AV.tup, List.drop_nil, List.append_nil, rdO, St.wr, List.length_cons, List.length_nil, List.take_succ_cons, List.take_zero, List.drop_succ_cons, List.drop_zero, List.cons_append, List.nil_append, Nat.reduceMul, q]
end Go.Proofs.YtbfkhnpginlpdaaA
