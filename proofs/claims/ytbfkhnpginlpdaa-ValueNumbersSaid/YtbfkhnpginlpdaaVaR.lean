/- Chapter 2: names: what each function comes to. -/
import Derived.Test.YtbfkhnpginlpdaaAf
import Derived.Test.YtbfkhnpginlpdaaAeNum
import Derived.Test.YtbfkhnpginlpdaaAeS9
set_option linter.unusedVariables false
set_option linter.unusedSimpArgs false
set_option maxRecDepth 10000
namespace Go.Proofs.YtbfkhnpginlpdaaA
open Go.RowKit
attribute [local congr] bind_congr1 map_congr1 cond_congr1 withX_congr after_congr br_congr gd_congr

/-! ### Texts by runes -/
def rns : Nat → Nat → List Nat → List (Nat × Nat)
  | 0, _, _ => []
  | _ + 1, _, [] => []
  | f + 1, pos, b :: l => (pos, (decR (b :: l)).1) :: rns f (pos + (decR (b :: l)).2) ((b :: l).drop (decR (b :: l)).2)
theorem rns_agree : ∀ (f g pos : Nat) (l : List Nat), l.length ≤ f → l.length ≤ g → rns f pos l = rns g pos l := by
  intro f
  induction f with
  | zero =>
    intro g pos l h _
    obtain rfl : l = [] := List.length_eq_zero_iff.1 (by omega)
    cases g <;> rfl
  | succ f ih =>
    intro g pos l h hg
    cases g with
    | zero =>
      obtain rfl : l = [] := List.length_eq_zero_iff.1 (by omega)
      rfl
    | succ g =>
      cases l with
      | nil => rfl
      | cons b l =>
        have hb := decR_bound (b :: l)
        have hd : ((b :: l).drop (decR (b :: l)).2).length ≤ l.length := by rw [List.length_drop, List.length_cons]; omega
        rw [List.length_cons] at h hg
        simp only [rns]
        rw [ih g _ _ (by omega) (by omega)]
/-- The runes of a text from a place on. -/
def Rr (pos : Nat) (l : List Nat) : List (Nat × Nat) := rns l.length pos l
theorem Rr_nil (pos : Nat) : Rr pos [] = [] := rfl
theorem Rr_cons (pos b : Nat) (l : List Nat) : Rr pos (b :: l) = (pos, (decR (b :: l)).1) :: Rr (pos + (decR (b :: l)).2) ((b :: l).drop (decR (b :: l)).2) := by
  have hb := decR_bound (b :: l)
  unfold Rr
  simp only [List.length_cons, rns]
  rw [rns_agree l.length _ _ _ (by rw [List.length_drop, List.length_cons]; omega) (Nat.le_refl _)]
def lower (r : Nat) : Int := if 65 ≤ (r : Int) ∧ (r : Int) ≤ 90 then r + 32 else r
def isOne (r : Int) : Bool := decide (97 ≤ r ∧ r ≤ 122 ∨ 65 ≤ r ∧ r ≤ 90 ∨ 48 ≤ r ∧ r ≤ 57 ∨ r = 45 ∨ r = 95)
def count (s : List Nat) : Int := (Rr 0 s).length
def fold (s : List Nat) : List Nat := (Rr 0 s).flatMap fun p => encR (lower p.2)
def right (s : List Nat) : Bool := (Rr 0 s).all (fun p => isOne p.2) && decide (1 ≤ count s ∧ count s ≤ 8)
abbrev itp : AV := .ptr (some ⟨0, 0, 0, 1⟩)
theorem Rr_len (pos : Nat) (l : List Nat) : (Rr pos l).length ≤ l.length := by
  have : ∀ f p m, (rns f p m).length ≤ f := by
    intro f
    induction f with
    | zero => intro p m; simp [rns]
    | succ f ih =>
      intro p m
      cases m with
      | nil => simp [rns]
      | cons b m => simp only [rns, List.length_cons]; have := ih (p + (decR (b :: m)).2) ((b :: m).drop (decR (b :: m)).2); omega
  exact this _ _ _
/-- A step along a text. -/
theorem step_drop {s : List Nat} {pos b : Nat} {l : List Nat} (h : s.drop pos = b :: l) : s.drop (pos + (decR (b :: l)).2) = (b :: l).drop (decR (b :: l)).2 ∧ pos < s.length ∧ (s.drop (pos + (decR (b :: l)).2)).length < (s.drop pos).length := by
  have hb := decR_bound (b :: l)
  have hl : pos < s.length := by
    rcases Nat.lt_or_ge pos s.length with h' | h'
    · exact h'
    · rw [List.drop_eq_nil_of_le h'] at h; cases h
  refine ⟨by rw [← List.drop_drop, h], hl, ?_⟩
  rw [List.length_drop, List.length_drop]
  omega
/-! ### Counts -/
structure IC (s : List Nat) (n : Nat) (T : Tm) (S : St) : Prop where
  t5 : T.get 5 = some itp
  more : ∃ (pos : Nat) (c : Int), S.get 0 = some (.iter s pos) ∧ T.get 3 = some (.int .i64 c) ∧ 0 ≤ c ∧ c + (Rr pos (s.drop pos)).length = count s ∧ n = (s.drop pos).length
theorem roundC (X : Nat → List AV → Option AV) (k : Nat) (s : List Nat) (hs : s.length ≤ 9223372036854775807) (n : Nat) (T : Tm) (S : St) (h : IC s n T S) :
    Goes (evF X AP (k + 2)) (k + 2) af26_l0 T S (Then (fun T' S' => ∃ n', IC s n' T' S' ∧ id n' < id n) fun r T' S' => r = .exit 0 ∧ T'.get 3 = some (.int .i64 (count s))) := by
  obtain ⟨t5, pos, c, hit, t3, c0, hc, hn⟩ := h
  have hcl : count s ≤ 9223372036854775807 := by have := Rr_len 0 s; unfold count; omega
  rcases hd : s.drop pos with _ | ⟨b, l⟩
  · rw [hd] at hc
    simp only [Rr_nil, List.length_nil] at hc
    simp -implicitDefEqProofs -dsimp (maxSteps := 10000000) only [af26_l0, ↓kS, after_some, br_true, br_false, kC, ↓kQ, ↓Option.bind_some, ↓Option.map_some, ↓cond_true, ↓cond_false, evC, evOp, XO.lit, setArgs, Tr.get_set, Option.bind_some, Option.map_some, cond_true, cond_false, maxI, maxFrom, minI, minFrom, aConv, aBinE, aEq, eqScal, aUn, evRes, fin, oneOf, if_true, if_false, callee, reduceCtorEq, Nat.reduceEqDiff, List.getElem?_cons_zero, List.getElem?_cons_succ, beq_self_eq_true, gt_iff_lt, List.head?_cons, AV.undef, eq_self, ne_eq, Int.reduceLT, Int.reduceLE, Int.reduceToNat, Int.reduceEq, Int.reduceNeg, Nat.reduceAdd, Nat.reduceLT, Nat.reduceLeDiff, Nat.reduceMul, Nat.reduceSub, kM, AV.cells, AV.tup, List.drop_nil, List.append_nil, rdO, St.wr, List.length_cons, List.length_nil, List.take_succ_cons, List.take_zero, List.drop_succ_cons, List.drop_zero, List.cons_append, List.nil_append, Nat.reduceMul, t5, hit, hd]
    simp only [Tr.get_set, Nat.reduceEqDiff, if_false, if_true, t3]
    congr 2; omega
  · obtain ⟨h1, h2, h3⟩ := step_drop hd
    have hp : ¬ 9223372036854775807 < pos := by omega
    rw [hd, Rr_cons, List.length_cons] at hc
    have w : IntKind.i64.wrap (c + 1) = c + 1 := w64_id (by omega) (by omega)
    simp -implicitDefEqProofs -dsimp (maxSteps := 10000000) only [af26_l0, ↓kS, after_some, br_true, br_false, kC, ↓kQ, ↓Option.bind_some, ↓Option.map_some, ↓cond_true, ↓cond_false, evC, evOp, XO.lit, setArgs, Tr.get_set, Option.bind_some, Option.map_some, cond_true, cond_false, maxI, maxFrom, minI, minFrom, aConv, aBinE, aEq, eqScal, aUn, evRes, fin, oneOf, if_true, if_false, callee, reduceCtorEq, Nat.reduceEqDiff, List.getElem?_cons_zero, List.getElem?_cons_succ, beq_self_eq_true, gt_iff_lt, List.head?_cons, AV.undef, eq_self, ne_eq, Int.reduceLT, Int.reduceLE, Int.reduceToNat, Int.reduceEq, Int.reduceNeg, Nat.reduceAdd, Nat.reduceLT, Nat.reduceLeDiff, Nat.reduceMul, Nat.reduceSub, kM, AV.cells, AV.tup, List.drop_nil, List.append_nil, rdO, St.wr, List.length_cons, List.length_nil, List.take_succ_cons, List.take_zero, List.drop_succ_cons, List.drop_zero, List.cons_append, List.nil_append, Nat.reduceMul, t5, t3, hit, hd, hp, w]
    refine ⟨_, ⟨?_, pos + (decR (b :: l)).2, c + 1, ?_, ?_, by omega, by rw [h1]; omega, rfl⟩, by simp only [id]; rw [hn]; exact h3⟩
    · simp only [Tr.get_set, Nat.reduceEqDiff, if_false, if_true, t5]
    · simp only [St.get_put, if_true]
    · simp only [Tr.get_set, Nat.reduceEqDiff, if_false, if_true]
theorem start0 (s : List Nat) (n : Nat) (S : St) : (S.alloc (.iter s 0)).get S.next = some (.iter s 0) := by rw [St.get_alloc, if_pos rfl]
theorem ev11 (k : Nat) {s : List Nat} (hs : s.length ≤ 9223372036854775807) : ∃ S', evF X0 AP (k + s.length + 3) 26 [.str s] S0 = some (.int .i64 (count s), S') := by
  suffices hh : ∃ v S', evF X0 AP (k + s.length + 3) 26 [.str s] S0 = some (v, S') ∧ v = .int .i64 (count s) by
    obtain ⟨v, S', h1, rfl⟩ := hh; exact ⟨S', h1⟩
  refine evF_goes (af := af26) (k := k + s.length + 2) rfl rfl rfl ?_
  simp -implicitDefEqProofs -dsimp (maxSteps := 10000000) only [af26, ↓kS, after_some, br_true, br_false, kC, ↓kQ, ↓Option.bind_some, ↓Option.map_some, ↓cond_true, ↓cond_false, evC, evOp, XO.lit, setArgs, Tr.tabG, Tr.tabS, Tr.tabL, Tr.get_lf, Option.bind_some, Option.map_some, cond_true, cond_false, maxI, maxFrom, minI, minFrom, aConv, aBinE, aEq, eqScal, aUn, evRes, fin, oneOf, if_true, if_false, callee, reduceCtorEq, Nat.reduceEqDiff, List.getElem?_cons_zero, List.getElem?_cons_succ, beq_self_eq_true, gt_iff_lt, List.head?_cons, AV.undef, eq_self, ne_eq, Int.reduceLT, Int.reduceLE, Int.reduceToNat, Int.reduceEq, Int.reduceNeg, Nat.reduceAdd, Nat.reduceLT, Nat.reduceLeDiff, Nat.reduceMul, Nat.reduceSub, kM, AV.cells, AV.tup, List.drop_nil, List.append_nil, rdO, St.wr, List.length_cons, List.length_nil, List.take_succ_cons, List.take_zero, List.drop_succ_cons, List.drop_zero, List.cons_append, List.nil_append, Nat.reduceMul]
  refine .while (IC s) id s.length ⟨rfl, 0, 0, rfl, rfl, by decide, by simp [count], rfl⟩ (by show s.length < k + s.length + 2; omega) fun n2 T2 S2 h2 => (roundC X0 (k + s.length) s hs n2 T2 S2 h2).mono ?_
  intro r T' S' hr
  cases r with
  | normal => exact hr
  | ret => exact absurd hr.1 (by intro h; cases h)
  | exit id =>
    obtain ⟨hid, t3⟩ := hr
    cases hid
    simp -implicitDefEqProofs -dsimp (maxSteps := 10000000) only [↓kS, after_some, br_true, br_false, kC, ↓kQ, ↓Option.bind_some, ↓Option.map_some, ↓cond_true, ↓cond_false, evC, evOp, XO.lit, setArgs, Tr.get_set, Option.bind_some, Option.map_some, cond_true, cond_false, maxI, maxFrom, minI, minFrom, aConv, aBinE, aEq, eqScal, aUn, evRes, fin, oneOf, if_true, if_false, callee, reduceCtorEq, Nat.reduceEqDiff, List.getElem?_cons_zero, List.getElem?_cons_succ, beq_self_eq_true, gt_iff_lt, List.head?_cons, AV.undef, eq_self, ne_eq, Int.reduceLT, Int.reduceLE, Int.reduceToNat, Int.reduceEq, Int.reduceNeg, Nat.reduceAdd, Nat.reduceLT, Nat.reduceLeDiff, Nat.reduceMul, Nat.reduceSub, kM, AV.cells, AV.tup, List.drop_nil, List.append_nil, rdO, St.wr, List.length_cons, List.length_nil, List.take_succ_cons, List.take_zero, List.drop_succ_cons, List.drop_zero, List.cons_append, List.nil_append, Nat.reduceMul, t3]
    exact ⟨_, _, rfl, rfl⟩
theorem ev14 (k : Nat) {s : List Nat} (hs : s.length ≤ 9223372036854775807) : ∃ S', evF X0 AP (k + s.length + 3) 13 [.str s] S0 = some (.int .i64 (count s), S') := by
  suffices hh : ∃ v S', evF X0 AP (k + s.length + 3) 13 [.str s] S0 = some (v, S') ∧ v = .int .i64 (count s) by
    obtain ⟨v, S', h1, rfl⟩ := hh; exact ⟨S', h1⟩
  refine evF_goes (af := af13) (k := k + s.length + 2) rfl rfl rfl ?_
  simp -implicitDefEqProofs -dsimp (maxSteps := 10000000) only [af13, ↓kS, after_some, br_true, br_false, kC, ↓kQ, ↓Option.bind_some, ↓Option.map_some, ↓cond_true, ↓cond_false, evC, evOp, XO.lit, setArgs, Tr.tabG, Tr.tabS, Tr.tabL, Tr.get_lf, Option.bind_some, Option.map_some, cond_true, cond_false, maxI, maxFrom, minI, minFrom, aConv, aBinE, aEq, eqScal, aUn, evRes, fin, oneOf, if_true, if_false, callee, reduceCtorEq, Nat.reduceEqDiff, List.getElem?_cons_zero, List.getElem?_cons_succ, beq_self_eq_true, gt_iff_lt, List.head?_cons, AV.undef, eq_self, ne_eq, Int.reduceLT, Int.reduceLE, Int.reduceToNat, Int.reduceEq, Int.reduceNeg, Nat.reduceAdd, Nat.reduceLT, Nat.reduceLeDiff, Nat.reduceMul, Nat.reduceSub, kM, AV.cells, AV.tup, List.drop_nil, List.append_nil, rdO, St.wr, List.length_cons, List.length_nil, List.take_succ_cons, List.take_zero, List.drop_succ_cons, List.drop_zero, List.cons_append, List.nil_append, Nat.reduceMul]
  refine .while (IC s) id s.length ⟨rfl, 0, 0, rfl, rfl, by decide, by simp [count], rfl⟩ (by show s.length < k + s.length + 2; omega) fun n2 T2 S2 h2 => (roundC X0 (k + s.length) s hs n2 T2 S2 h2).mono ?_
  intro r T' S' hr
  cases r with
  | normal => exact hr
  | ret => exact absurd hr.1 (by intro h; cases h)
  | exit id =>
    obtain ⟨hid, t3⟩ := hr
    cases hid
    simp -implicitDefEqProofs -dsimp (maxSteps := 10000000) only [↓kS, after_some, br_true, br_false, kC, ↓kQ, ↓Option.bind_some, ↓Option.map_some, ↓cond_true, ↓cond_false, evC, evOp, XO.lit, setArgs, Tr.get_set, Option.bind_some, Option.map_some, cond_true, cond_false, maxI, maxFrom, minI, minFrom, aConv, aBinE, aEq, eqScal, aUn, evRes, fin, oneOf, if_true, if_false, callee, reduceCtorEq, Nat.reduceEqDiff, List.getElem?_cons_zero, List.getElem?_cons_succ, beq_self_eq_true, gt_iff_lt, List.head?_cons, AV.undef, eq_self, ne_eq, Int.reduceLT, Int.reduceLE, Int.reduceToNat, Int.reduceEq, Int.reduceNeg, Nat.reduceAdd, Nat.reduceLT, Nat.reduceLeDiff, Nat.reduceMul, Nat.reduceSub, kM, AV.cells, AV.tup, List.drop_nil, List.append_nil, rdO, St.wr, List.length_cons, List.length_nil, List.take_succ_cons, List.take_zero, List.drop_succ_cons, List.drop_zero, List.cons_append, List.nil_append, Nat.reduceMul, t3]
    exact ⟨_, _, rfl, rfl⟩
/-! ### Letters -/
theorem ev18 (r : Int) : evF X0 AP 3 29 [.int .i32 r] S0 = some (.bool (isOne r), S0) := by
  rw [evF_body (af := af29) rfl rfl rfl]
  by_cases a1 : 97 ≤ r
  · by_cases a2 : r ≤ 122
    · have e : isOne r = true := by simp only [isOne, decide_eq_true_eq]; omega
      simp -implicitDefEqProofs -dsimp (maxSteps := 10000000) only [af29, kC, ↓kQ, ↓Option.bind_some, ↓Option.map_some, ↓cond_true, ↓cond_false, evC, evOp, XO.lit, setArgs, Tr.tabG, Tr.tabS, Tr.tabL, Tr.get_lf, Option.bind_some, Option.map_some, cond_true, cond_false, maxI, maxFrom, minI, minFrom, aConv, aBinE, aEq, eqScal, aUn, evRes, fin, oneOf, if_true, if_false, callee, reduceCtorEq, Nat.reduceEqDiff, List.getElem?_cons_zero, List.getElem?_cons_succ, beq_self_eq_true, gt_iff_lt, List.head?_cons, AV.undef, eq_self, ne_eq, Int.reduceLT, Int.reduceLE, Int.reduceToNat, Int.reduceEq, Int.reduceNeg, Nat.reduceAdd, Nat.reduceLT, Nat.reduceLeDiff, Nat.reduceMul, Nat.reduceSub, kM, AV.cells, AV.tup, List.drop_nil, List.append_nil, rdO, St.wr, List.length_cons, List.length_nil, List.take_succ_cons, List.take_zero, List.drop_succ_cons, List.drop_zero, List.cons_append, List.nil_append, Nat.reduceMul, a1, a2, e]
    · have e : isOne r = false := by simp only [isOne, decide_eq_false_iff_not]; omega
      simp -implicitDefEqProofs -dsimp (maxSteps := 10000000) only [af29, kC, ↓kQ, ↓Option.bind_some, ↓Option.map_some, ↓cond_true, ↓cond_false, evC, evOp, XO.lit, setArgs, Tr.tabG, Tr.tabS, Tr.tabL, Tr.get_lf, Option.bind_some, Option.map_some, cond_true, cond_false, maxI, maxFrom, minI, minFrom, aConv, aBinE, aEq, eqScal, aUn, evRes, fin, oneOf, if_true, if_false, callee, reduceCtorEq, Nat.reduceEqDiff, List.getElem?_cons_zero, List.getElem?_cons_succ, beq_self_eq_true, gt_iff_lt, List.head?_cons, AV.undef, eq_self, ne_eq, Int.reduceLT, Int.reduceLE, Int.reduceToNat, Int.reduceEq, Int.reduceNeg, Nat.reduceAdd, Nat.reduceLT, Nat.reduceLeDiff, Nat.reduceMul, Nat.reduceSub, kM, AV.cells, AV.tup, List.drop_nil, List.append_nil, rdO, St.wr, List.length_cons, List.length_nil, List.take_succ_cons, List.take_zero, List.drop_succ_cons, List.drop_zero, List.cons_append, List.nil_append, Nat.reduceMul, a1, a2, e, show 65 ≤ r by omega, show ¬ r ≤ 90 by omega, show 48 ≤ r by omega, show ¬ r ≤ 57 by omega, show ¬ r = 45 by omega, show ¬ r = 95 by omega]
  · by_cases b1 : 65 ≤ r
    · by_cases b2 : r ≤ 90
      · have e : isOne r = true := by simp only [isOne, decide_eq_true_eq]; omega
        simp -implicitDefEqProofs -dsimp (maxSteps := 10000000) only [af29, kC, ↓kQ, ↓Option.bind_some, ↓Option.map_some, ↓cond_true, ↓cond_false, evC, evOp, XO.lit, setArgs, Tr.tabG, Tr.tabS, Tr.tabL, Tr.get_lf, Option.bind_some, Option.map_some, cond_true, cond_false, maxI, maxFrom, minI, minFrom, aConv, aBinE, aEq, eqScal, aUn, evRes, fin, oneOf, if_true, if_false, callee, reduceCtorEq, Nat.reduceEqDiff, List.getElem?_cons_zero, List.getElem?_cons_succ, beq_self_eq_true, gt_iff_lt, List.head?_cons, AV.undef, eq_self, ne_eq, Int.reduceLT, Int.reduceLE, Int.reduceToNat, Int.reduceEq, Int.reduceNeg, Nat.reduceAdd, Nat.reduceLT, Nat.reduceLeDiff, Nat.reduceMul, Nat.reduceSub, kM, AV.cells, AV.tup, List.drop_nil, List.append_nil, rdO, St.wr, List.length_cons, List.length_nil, List.take_succ_cons, List.take_zero, List.drop_succ_cons, List.drop_zero, List.cons_append, List.nil_append, Nat.reduceMul, a1, b1, b2, e]
      · by_cases f : r = 95
        · subst f
          rfl
        · have e : isOne r = false := by simp only [isOne, decide_eq_false_iff_not]; omega
          simp -implicitDefEqProofs -dsimp (maxSteps := 10000000) only [af29, kC, ↓kQ, ↓Option.bind_some, ↓Option.map_some, ↓cond_true, ↓cond_false, evC, evOp, XO.lit, setArgs, Tr.tabG, Tr.tabS, Tr.tabL, Tr.get_lf, Option.bind_some, Option.map_some, cond_true, cond_false, maxI, maxFrom, minI, minFrom, aConv, aBinE, aEq, eqScal, aUn, evRes, fin, oneOf, if_true, if_false, callee, reduceCtorEq, Nat.reduceEqDiff, List.getElem?_cons_zero, List.getElem?_cons_succ, beq_self_eq_true, gt_iff_lt, List.head?_cons, AV.undef, eq_self, ne_eq, Int.reduceLT, Int.reduceLE, Int.reduceToNat, Int.reduceEq, Int.reduceNeg, Nat.reduceAdd, Nat.reduceLT, Nat.reduceLeDiff, Nat.reduceMul, Nat.reduceSub, kM, AV.cells, AV.tup, List.drop_nil, List.append_nil, rdO, St.wr, List.length_cons, List.length_nil, List.take_succ_cons, List.take_zero, List.drop_succ_cons, List.drop_zero, List.cons_append, List.nil_append, Nat.reduceMul, a1, b1, b2, f, e, show 48 ≤ r by omega, show ¬ r ≤ 57 by omega, show ¬ r = 45 by omega]
    · by_cases d1 : 48 ≤ r
      · by_cases d2 : r ≤ 57
        · have e : isOne r = true := by simp only [isOne, decide_eq_true_eq]; omega
          simp -implicitDefEqProofs -dsimp (maxSteps := 10000000) only [af29, kC, ↓kQ, ↓Option.bind_some, ↓Option.map_some, ↓cond_true, ↓cond_false, evC, evOp, XO.lit, setArgs, Tr.tabG, Tr.tabS, Tr.tabL, Tr.get_lf, Option.bind_some, Option.map_some, cond_true, cond_false, maxI, maxFrom, minI, minFrom, aConv, aBinE, aEq, eqScal, aUn, evRes, fin, oneOf, if_true, if_false, callee, reduceCtorEq, Nat.reduceEqDiff, List.getElem?_cons_zero, List.getElem?_cons_succ, beq_self_eq_true, gt_iff_lt, List.head?_cons, AV.undef, eq_self, ne_eq, Int.reduceLT, Int.reduceLE, Int.reduceToNat, Int.reduceEq, Int.reduceNeg, Nat.reduceAdd, Nat.reduceLT, Nat.reduceLeDiff, Nat.reduceMul, Nat.reduceSub, kM, AV.cells, AV.tup, List.drop_nil, List.append_nil, rdO, St.wr, List.length_cons, List.length_nil, List.take_succ_cons, List.take_zero, List.drop_succ_cons, List.drop_zero, List.cons_append, List.nil_append, Nat.reduceMul, a1, b1, d1, d2, e]
        · have e : isOne r = false := by simp only [isOne, decide_eq_false_iff_not]; omega
          simp -implicitDefEqProofs -dsimp (maxSteps := 10000000) only [af29, kC, ↓kQ, ↓Option.bind_some, ↓Option.map_some, ↓cond_true, ↓cond_false, evC, evOp, XO.lit, setArgs, Tr.tabG, Tr.tabS, Tr.tabL, Tr.get_lf, Option.bind_some, Option.map_some, cond_true, cond_false, maxI, maxFrom, minI, minFrom, aConv, aBinE, aEq, eqScal, aUn, evRes, fin, oneOf, if_true, if_false, callee, reduceCtorEq, Nat.reduceEqDiff, List.getElem?_cons_zero, List.getElem?_cons_succ, beq_self_eq_true, gt_iff_lt, List.head?_cons, AV.undef, eq_self, ne_eq, Int.reduceLT, Int.reduceLE, Int.reduceToNat, Int.reduceEq, Int.reduceNeg, Nat.reduceAdd, Nat.reduceLT, Nat.reduceLeDiff, Nat.reduceMul, Nat.reduceSub, kM, AV.cells, AV.tup, List.drop_nil, List.append_nil, rdO, St.wr, List.length_cons, List.length_nil, List.take_succ_cons, List.take_zero, List.drop_succ_cons, List.drop_zero, List.cons_append, List.nil_append, Nat.reduceMul, a1, b1, d1, d2, e, show ¬ r = 45 by omega, show ¬ r = 95 by omega]
      · by_cases f : r = 45
        · subst f
          rfl
        · have e : isOne r = false := by simp only [isOne, decide_eq_false_iff_not]; omega
          simp -implicitDefEqProofs -dsimp (maxSteps := 10000000) only [af29, kC, ↓kQ, ↓Option.bind_some, ↓Option.map_some, ↓cond_true, ↓cond_false, evC, evOp, XO.lit, setArgs, Tr.tabG, Tr.tabS, Tr.tabL, Tr.get_lf, Option.bind_some, Option.map_some, cond_true, cond_false, maxI, maxFrom, minI, minFrom, aConv, aBinE, aEq, eqScal, aUn, evRes, fin, oneOf, if_true, if_false, callee, reduceCtorEq, Nat.reduceEqDiff, List.getElem?_cons_zero, List.getElem?_cons_succ, beq_self_eq_true, gt_iff_lt, List.head?_cons, AV.undef, eq_self, ne_eq, Int.reduceLT, Int.reduceLE, Int.reduceToNat, Int.reduceEq, Int.reduceNeg, Nat.reduceAdd, Nat.reduceLT, Nat.reduceLeDiff, Nat.reduceMul, Nat.reduceSub, kM, AV.cells, AV.tup, List.drop_nil, List.append_nil, rdO, St.wr, List.length_cons, List.length_nil, List.take_succ_cons, List.take_zero, List.drop_succ_cons, List.drop_zero, List.cons_append, List.nil_append, Nat.reduceMul, a1, b1, d1, f, e, show ¬ r = 95 by omega]
theorem ev19 (r : Int) : evF X0 AP 3 27 [.int .i32 r] S0 = some (.bool (isOne r), S0) := by
  rw [evF_body (af := af27) rfl rfl rfl]
  by_cases a1 : 97 ≤ r
  · by_cases a2 : r ≤ 122
    · have e : isOne r = true := by simp only [isOne, decide_eq_true_eq]; omega
      simp -implicitDefEqProofs -dsimp (maxSteps := 10000000) only [af27, kC, ↓kQ, ↓Option.bind_some, ↓Option.map_some, ↓cond_true, ↓cond_false, evC, evOp, XO.lit, setArgs, Tr.tabG, Tr.tabS, Tr.tabL, Tr.get_lf, Option.bind_some, Option.map_some, cond_true, cond_false, maxI, maxFrom, minI, minFrom, aConv, aBinE, aEq, eqScal, aUn, evRes, fin, oneOf, if_true, if_false, callee, reduceCtorEq, Nat.reduceEqDiff, List.getElem?_cons_zero, List.getElem?_cons_succ, beq_self_eq_true, gt_iff_lt, List.head?_cons, AV.undef, eq_self, ne_eq, Int.reduceLT, Int.reduceLE, Int.reduceToNat, Int.reduceEq, Int.reduceNeg, Nat.reduceAdd, Nat.reduceLT, Nat.reduceLeDiff, Nat.reduceMul, Nat.reduceSub, kM, AV.cells, AV.tup, List.drop_nil, List.append_nil, rdO, St.wr, List.length_cons, List.length_nil, List.take_succ_cons, List.take_zero, List.drop_succ_cons, List.drop_zero, List.cons_append, List.nil_append, Nat.reduceMul, a1, a2, e]
    · have e : isOne r = false := by simp only [isOne, decide_eq_false_iff_not]; omega
      simp -implicitDefEqProofs -dsimp (maxSteps := 10000000) only [af27, kC, ↓kQ, ↓Option.bind_some, ↓Option.map_some, ↓cond_true, ↓cond_false, evC, evOp, XO.lit, setArgs, Tr.tabG, Tr.tabS, Tr.tabL, Tr.get_lf, Option.bind_some, Option.map_some, cond_true, cond_false, maxI, maxFrom, minI, minFrom, aConv, aBinE, aEq, eqScal, aUn, evRes, fin, oneOf, if_true, if_false, callee, reduceCtorEq, Nat.reduceEqDiff, List.getElem?_cons_zero, List.getElem?_cons_succ, beq_self_eq_true, gt_iff_lt, List.head?_cons, AV.undef, eq_self, ne_eq, Int.reduceLT, Int.reduceLE, Int.reduceToNat, Int.reduceEq, Int.reduceNeg, Nat.reduceAdd, Nat.reduceLT, Nat.reduceLeDiff, Nat.reduceMul, Nat.reduceSub, kM, AV.cells, AV.tup, List.drop_nil, List.append_nil, rdO, St.wr, List.length_cons, List.length_nil, List.take_succ_cons, List.take_zero, List.drop_succ_cons, List.drop_zero, List.cons_append, List.nil_append, Nat.reduceMul, a1, a2, e, show 65 ≤ r by omega, show ¬ r ≤ 90 by omega, show 48 ≤ r by omega, show ¬ r ≤ 57 by omega, show ¬ r = 45 by omega, show ¬ r = 95 by omega]
  · by_cases b1 : 65 ≤ r
    · by_cases b2 : r ≤ 90
      · have e : isOne r = true := by simp only [isOne, decide_eq_true_eq]; omega
        simp -implicitDefEqProofs -dsimp (maxSteps := 10000000) only [af27, kC, ↓kQ, ↓Option.bind_some, ↓Option.map_some, ↓cond_true, ↓cond_false, evC, evOp, XO.lit, setArgs, Tr.tabG, Tr.tabS, Tr.tabL, Tr.get_lf, Option.bind_some, Option.map_some, cond_true, cond_false, maxI, maxFrom, minI, minFrom, aConv, aBinE, aEq, eqScal, aUn, evRes, fin, oneOf, if_true, if_false, callee, reduceCtorEq, Nat.reduceEqDiff, List.getElem?_cons_zero, List.getElem?_cons_succ, beq_self_eq_true, gt_iff_lt, List.head?_cons, AV.undef, eq_self, ne_eq, Int.reduceLT, Int.reduceLE, Int.reduceToNat, Int.reduceEq, Int.reduceNeg, Nat.reduceAdd, Nat.reduceLT, Nat.reduceLeDiff, Nat.reduceMul, Nat.reduceSub, kM, AV.cells, AV.tup, List.drop_nil, List.append_nil, rdO, St.wr, List.length_cons, List.length_nil, List.take_succ_cons, List.take_zero, List.drop_succ_cons, List.drop_zero, List.cons_append, List.nil_append, Nat.reduceMul, a1, b1, b2, e]
      · by_cases f : r = 95
        · subst f
          rfl
        · have e : isOne r = false := by simp only [isOne, decide_eq_false_iff_not]; omega
          simp -implicitDefEqProofs -dsimp (maxSteps := 10000000) only [af27, kC, ↓kQ, ↓Option.bind_some, ↓Option.map_some, ↓cond_true, ↓cond_false, evC, evOp, XO.lit, setArgs, Tr.tabG, Tr.tabS, Tr.tabL, Tr.get_lf, Option.bind_some, Option.map_some, cond_true, cond_false, maxI, maxFrom, minI, minFrom, aConv, aBinE, aEq, eqScal, aUn, evRes, fin, oneOf, if_true, if_false, callee, reduceCtorEq, Nat.reduceEqDiff, List.getElem?_cons_zero, List.getElem?_cons_succ, beq_self_eq_true, gt_iff_lt, List.head?_cons, AV.undef, eq_self, ne_eq, Int.reduceLT, Int.reduceLE, Int.reduceToNat, Int.reduceEq, Int.reduceNeg, Nat.reduceAdd, Nat.reduceLT, Nat.reduceLeDiff, Nat.reduceMul, Nat.reduceSub, kM, AV.cells, AV.tup, List.drop_nil, List.append_nil, rdO, St.wr, List.length_cons, List.length_nil, List.take_succ_cons, List.take_zero, List.drop_succ_cons, List.drop_zero, List.cons_append, List.nil_append, Nat.reduceMul, a1, b1, b2, f, e, show 48 ≤ r by omega, show ¬ r ≤ 57 by omega, show ¬ r = 45 by omega]
    · by_cases d1 : 48 ≤ r
      · by_cases d2 : r ≤ 57
        · have e : isOne r = true := by simp only [isOne, decide_eq_true_eq]; omega
          simp -implicitDefEqProofs -dsimp (maxSteps := 10000000) only [af27, kC, ↓kQ, ↓Option.bind_some, ↓Option.map_some, ↓cond_true, ↓cond_false, evC, evOp, XO.lit, setArgs, Tr.tabG, Tr.tabS, Tr.tabL, Tr.get_lf, Option.bind_some, Option.map_some, cond_true, cond_false, maxI, maxFrom, minI, minFrom, aConv, aBinE, aEq, eqScal, aUn, evRes, fin, oneOf, if_true, if_false, callee, reduceCtorEq, Nat.reduceEqDiff, List.getElem?_cons_zero, List.getElem?_cons_succ, beq_self_eq_true, gt_iff_lt, List.head?_cons, AV.undef, eq_self, ne_eq, Int.reduceLT, Int.reduceLE, Int.reduceToNat, Int.reduceEq, Int.reduceNeg, Nat.reduceAdd, Nat.reduceLT, Nat.reduceLeDiff, Nat.reduceMul, Nat.reduceSub, kM, AV.cells, AV.tup, List.drop_nil, List.append_nil, rdO, St.wr, List.length_cons, List.length_nil, List.take_succ_cons, List.take_zero, List.drop_succ_cons, List.drop_zero, List.cons_append, List.nil_append, Nat.reduceMul, a1, b1, d1, d2, e]
        · have e : isOne r = false := by simp only [isOne, decide_eq_false_iff_not]; omega
          simp -implicitDefEqProofs -dsimp (maxSteps := 10000000) only [af27, kC, ↓kQ, ↓Option.bind_some, ↓Option.map_some, ↓cond_true, ↓cond_false, evC, evOp, XO.lit, setArgs, Tr.tabG, Tr.tabS, Tr.tabL, Tr.get_lf, Option.bind_some, Option.map_some, cond_true, cond_false, maxI, maxFrom, minI, minFrom, aConv, aBinE, aEq, eqScal, aUn, evRes, fin, oneOf, if_true, if_false, callee, reduceCtorEq, Nat.reduceEqDiff, List.getElem?_cons_zero, List.getElem?_cons_succ, beq_self_eq_true, gt_iff_lt, List.head?_cons, AV.undef, eq_self, ne_eq, Int.reduceLT, Int.reduceLE, Int.reduceToNat, Int.reduceEq, Int.reduceNeg, Nat.reduceAdd, Nat.reduceLT, Nat.reduceLeDiff, Nat.reduceMul, Nat.reduceSub, kM, AV.cells, AV.tup, List.drop_nil, List.append_nil, rdO, St.wr, List.length_cons, List.length_nil, List.take_succ_cons, List.take_zero, List.drop_succ_cons, List.drop_zero, List.cons_append, List.nil_append, Nat.reduceMul, a1, b1, d1, d2, e, show ¬ r = 45 by omega, show ¬ r = 95 by omega]
      · by_cases f : r = 45
        · subst f
          rfl
        · have e : isOne r = false := by simp only [isOne, decide_eq_false_iff_not]; omega
          simp -implicitDefEqProofs -dsimp (maxSteps := 10000000) only [af27, kC, ↓kQ, ↓Option.bind_some, ↓Option.map_some, ↓cond_true, ↓cond_false, evC, evOp, XO.lit, setArgs, Tr.tabG, Tr.tabS, Tr.tabL, Tr.get_lf, Option.bind_some, Option.map_some, cond_true, cond_false, maxI, maxFrom, minI, minFrom, aConv, aBinE, aEq, eqScal, aUn, evRes, fin, oneOf, if_true, if_false, callee, reduceCtorEq, Nat.reduceEqDiff, List.getElem?_cons_zero, List.getElem?_cons_succ, beq_self_eq_true, gt_iff_lt, List.head?_cons, AV.undef, eq_self, ne_eq, Int.reduceLT, Int.reduceLE, Int.reduceToNat, Int.reduceEq, Int.reduceNeg, Nat.reduceAdd, Nat.reduceLT, Nat.reduceLeDiff, Nat.reduceMul, Nat.reduceSub, kM, AV.cells, AV.tup, List.drop_nil, List.append_nil, rdO, St.wr, List.length_cons, List.length_nil, List.take_succ_cons, List.take_zero, List.drop_succ_cons, List.drop_zero, List.cons_append, List.nil_append, Nat.reduceMul, a1, b1, d1, f, e, show ¬ r = 95 by omega]
/-! ### Summaries of texts -/
def sS1 (F : List Nat → AV) : List AV → Option AV
  | [.str s] => if s.length ≤ 9223372036854775807 then some (F s) else none
  | _ => none
theorem addX_S1 {X : Nat → List AV → Option AV} (hX : XOk Try.prog X) {g : Nat} {F : List Nat → AV} (hg : EntryOk Try.prog g) (hv : ∀ s, (F s).pure = true) (he : ∀ s, s.length ≤ 9223372036854775807 → ∃ k S', evF X AP k g [.str s] S0 = some (F s, S')) : XOk Try.prog (addX X g (sS1 F)) := by
  refine addX_ok mixed hX apOk hg fun args v h => ?_
  match args, h with
  | [.str s], h =>
    replace h : (if s.length ≤ 9223372036854775807 then some (F s) else none) = some v := h
    by_cases hs : s.length ≤ 9223372036854775807
    · rw [if_pos hs] at h
      cases h
      exact ⟨rfl, hv s, fun _ => he s hs⟩
    · rw [if_neg hs] at h; cases h
theorem addX_any {X Y : Nat → List AV → Option AV} (hX : XOk Try.prog X) (hY : XOk Try.prog Y) {g : Nat} {s : List AV → Option AV} (h : XOk Try.prog (addX Y g s)) : XOk Try.prog (addX X g s) := by
  intro f args v hv
  unfold addX at hv
  by_cases hf : f = g
  · rw [if_pos hf] at hv
    exact h f args v (by unfold addX; rw [if_pos hf]; exact hv)
  · rw [if_neg hf] at hv
    exact hX f args v hv
def X1 := addX X0 29 (sN1 .i32 fun r => .bool (isOne r))
def X2 := addX X1 27 (sN1 .i32 fun r => .bool (isOne r))
def X3 := addX X2 13 (sS1 fun s => .int .i64 (count s))
theorem ok1 : XOk Try.prog X1 := addX_N1 mixed (X0_ok _) apOk (entry_of apOk (af := af29) rfl) (fun _ => rfl) fun a _ => ⟨3, S0, ev18 a⟩
theorem ok2 : XOk Try.prog X2 := addX_any ok1 (X0_ok _) (addX_N1 mixed (X0_ok _) apOk (entry_of apOk (af := af27) rfl) (fun _ => rfl) fun a _ => ⟨3, S0, ev19 a⟩)
theorem ok3 : XOk Try.prog X3 := addX_any ok2 (X0_ok _) (addX_S1 (X0_ok _) (entry_of apOk (af := af13) rfl) (fun _ => rfl) fun s hs => ⟨_, ev14 0 hs⟩)
theorem x18 (k : Nat) (S : St) (a : Int) : evF X3 AP (k + 1) 29 [.int .i32 a] S = some (.bool (isOne a), S) := rfl
theorem x19 (k : Nat) (S : St) (a : Int) : evF X3 AP (k + 1) 27 [.int .i32 a] S = some (.bool (isOne a), S) := rfl
theorem x14 (k : Nat) (S : St) {s : List Nat} (hs : s.length ≤ 9223372036854775807) : evF X3 AP (k + 1) 13 [.str s] S = some (.int .i64 (count s), S) := by
  exact evF_known (if_pos hs)
/-! ### Names that are right -/
structure IR (i : Nat) (s : List Nat) (n : Nat) (T : Tm) (S : St) : Prop where
  ti : T.get i = some itp
  t0 : T.get 0 = some (.str s)
  more : ∃ (pos : Nat), S.get 0 = some (.iter s pos) ∧ ((Rr pos (s.drop pos)).all (fun p => isOne p.2)) = ((Rr 0 s).all (fun p => isOne p.2)) ∧ n = (s.drop pos).length
structure IR2 (s : List Nat) (n : Nat) (T : Tm) (S : St) : Prop where
  t7 : T.get 7 = some itp
  more : ∃ (pos : Nat) (c : Int), S.get 0 = some (.iter s pos) ∧ T.get 3 = some (.int .i64 c) ∧ 0 ≤ c ∧ c + (Rr pos (s.drop pos)).length = count s ∧ ((Rr pos (s.drop pos)).all (fun p => isOne p.2)) = ((Rr 0 s).all (fun p => isOne p.2)) ∧ n = (s.drop pos).length
theorem ev12 (k : Nat) {s : List Nat} (hs : s.length ≤ 9223372036854775807) : ∃ S', evF X3 AP (k + s.length + 3) 25 [.str s] S0 = some (.bool (right s), S') := by
  have hcl : count s ≤ 9223372036854775807 := by have := Rr_len 0 s; unfold count; omega
  suffices hh : ∃ v S', evF X3 AP (k + s.length + 3) 25 [.str s] S0 = some (v, S') ∧ v = .bool (right s) by
    obtain ⟨v, S', h1, rfl⟩ := hh; exact ⟨S', h1⟩
  refine evF_goes (af := af25) (k := k + s.length + 2) rfl rfl rfl ?_
  simp -implicitDefEqProofs -dsimp (maxSteps := 10000000) only [af25, ↓kS, after_some, br_true, br_false, kC, ↓kQ, ↓Option.bind_some, ↓Option.map_some, ↓cond_true, ↓cond_false, evC, evOp, XO.lit, setArgs, Tr.tabG, Tr.tabS, Tr.tabL, Tr.get_lf, Option.bind_some, Option.map_some, cond_true, cond_false, maxI, maxFrom, minI, minFrom, aConv, aBinE, aEq, eqScal, aUn, evRes, fin, oneOf, if_true, if_false, callee, reduceCtorEq, Nat.reduceEqDiff, List.getElem?_cons_zero, List.getElem?_cons_succ, beq_self_eq_true, gt_iff_lt, List.head?_cons, AV.undef, eq_self, ne_eq, Int.reduceLT, Int.reduceLE, Int.reduceToNat, Int.reduceEq, Int.reduceNeg, Nat.reduceAdd, Nat.reduceLT, Nat.reduceLeDiff, Nat.reduceMul, Nat.reduceSub, kM, AV.cells, AV.tup, List.drop_nil, List.append_nil, rdO, St.wr, List.length_cons, List.length_nil, List.take_succ_cons, List.take_zero, List.drop_succ_cons, List.drop_zero, List.cons_append, List.nil_append, Nat.reduceMul]
  refine .while (IR2 s) id s.length ⟨rfl, 0, 0, rfl, rfl, by decide, by simp [count], by simp, rfl⟩ (by show s.length < k + s.length + 2; omega) ?_
  rintro n T S ⟨t7, pos, c, hit, t3, c0, hc, hall, hn⟩
  rcases hd : s.drop pos with _ | ⟨b, l⟩
  · rw [hd] at hc hall
    simp only [Rr_nil, List.length_nil, List.all_nil] at hc hall
    have hc' : c = count s := by omega
    subst hc'
    by_cases c1 : 1 ≤ count s
    · by_cases c2 : count s ≤ 8
      · simp -implicitDefEqProofs -dsimp (maxSteps := 10000000) only [af25_l0, ↓kS, after_some, br_true, br_false, kC, ↓kQ, ↓Option.bind_some, ↓Option.map_some, ↓cond_true, ↓cond_false, evC, evOp, XO.lit, setArgs, Tr.get_set, Option.bind_some, Option.map_some, cond_true, cond_false, maxI, maxFrom, minI, minFrom, aConv, aBinE, aEq, eqScal, aUn, evRes, fin, oneOf, if_true, if_false, callee, reduceCtorEq, Nat.reduceEqDiff, List.getElem?_cons_zero, List.getElem?_cons_succ, beq_self_eq_true, gt_iff_lt, List.head?_cons, AV.undef, eq_self, ne_eq, Int.reduceLT, Int.reduceLE, Int.reduceToNat, Int.reduceEq, Int.reduceNeg, Nat.reduceAdd, Nat.reduceLT, Nat.reduceLeDiff, Nat.reduceMul, Nat.reduceSub, kM, AV.cells, AV.tup, List.drop_nil, List.append_nil, rdO, St.wr, List.length_cons, List.length_nil, List.take_succ_cons, List.take_zero, List.drop_succ_cons, List.drop_zero, List.cons_append, List.nil_append, Nat.reduceMul, t7, t3, hit, hd, c1, c2]
        exact ⟨_, _, rfl, by simp [right, ← hall, c1, c2]⟩
      · simp -implicitDefEqProofs -dsimp (maxSteps := 10000000) only [af25_l0, ↓kS, after_some, br_true, br_false, kC, ↓kQ, ↓Option.bind_some, ↓Option.map_some, ↓cond_true, ↓cond_false, evC, evOp, XO.lit, setArgs, Tr.get_set, Option.bind_some, Option.map_some, cond_true, cond_false, maxI, maxFrom, minI, minFrom, aConv, aBinE, aEq, eqScal, aUn, evRes, fin, oneOf, if_true, if_false, callee, reduceCtorEq, Nat.reduceEqDiff, List.getElem?_cons_zero, List.getElem?_cons_succ, beq_self_eq_true, gt_iff_lt, List.head?_cons, AV.undef, eq_self, ne_eq, Int.reduceLT, Int.reduceLE, Int.reduceToNat, Int.reduceEq, Int.reduceNeg, Nat.reduceAdd, Nat.reduceLT, Nat.reduceLeDiff, Nat.reduceMul, Nat.reduceSub, kM, AV.cells, AV.tup, List.drop_nil, List.append_nil, rdO, St.wr, List.length_cons, List.length_nil, List.take_succ_cons, List.take_zero, List.drop_succ_cons, List.drop_zero, List.cons_append, List.nil_append, Nat.reduceMul, t7, t3, hit, hd, c1, c2]
        exact ⟨_, _, rfl, by simp [right, c2]⟩
    · simp -implicitDefEqProofs -dsimp (maxSteps := 10000000) only [af25_l0, ↓kS, after_some, br_true, br_false, kC, ↓kQ, ↓Option.bind_some, ↓Option.map_some, ↓cond_true, ↓cond_false, evC, evOp, XO.lit, setArgs, Tr.get_set, Option.bind_some, Option.map_some, cond_true, cond_false, maxI, maxFrom, minI, minFrom, aConv, aBinE, aEq, eqScal, aUn, evRes, fin, oneOf, if_true, if_false, callee, reduceCtorEq, Nat.reduceEqDiff, List.getElem?_cons_zero, List.getElem?_cons_succ, beq_self_eq_true, gt_iff_lt, List.head?_cons, AV.undef, eq_self, ne_eq, Int.reduceLT, Int.reduceLE, Int.reduceToNat, Int.reduceEq, Int.reduceNeg, Nat.reduceAdd, Nat.reduceLT, Nat.reduceLeDiff, Nat.reduceMul, Nat.reduceSub, kM, AV.cells, AV.tup, List.drop_nil, List.append_nil, rdO, St.wr, List.length_cons, List.length_nil, List.take_succ_cons, List.take_zero, List.drop_succ_cons, List.drop_zero, List.cons_append, List.nil_append, Nat.reduceMul, t7, t3, hit, hd, c1]
      exact ⟨_, _, rfl, by simp [right, c1]⟩
  · obtain ⟨h1, h2, h3⟩ := step_drop hd
    have hp : ¬ 9223372036854775807 < pos := by omega
    rw [hd, Rr_cons] at hc hall
    rw [List.length_cons] at hc
    rw [List.all_cons] at hall
    have w : IntKind.i64.wrap (c + 1) = c + 1 := w64_id (by omega) (by omega)
    cases ho : isOne (decR (b :: l)).1 with
    | true =>
      rw [ho, Bool.true_and] at hall
      simp -implicitDefEqProofs -dsimp (maxSteps := 10000000) only [af25_l0, ↓kS, after_some, br_true, br_false, kC, ↓kQ, ↓Option.bind_some, ↓Option.map_some, ↓cond_true, ↓cond_false, evC, evOp, XO.lit, setArgs, Tr.get_set, Option.bind_some, Option.map_some, cond_true, cond_false, maxI, maxFrom, minI, minFrom, aConv, aBinE, aEq, eqScal, aUn, evRes, fin, oneOf, if_true, if_false, callee, reduceCtorEq, Nat.reduceEqDiff, List.getElem?_cons_zero, List.getElem?_cons_succ, beq_self_eq_true, gt_iff_lt, List.head?_cons, AV.undef, eq_self, ne_eq, Int.reduceLT, Int.reduceLE, Int.reduceToNat, Int.reduceEq, Int.reduceNeg, Nat.reduceAdd, Nat.reduceLT, Nat.reduceLeDiff, Nat.reduceMul, Nat.reduceSub, kM, AV.cells, AV.tup, List.drop_nil, List.append_nil, rdO, St.wr, List.length_cons, List.length_nil, List.take_succ_cons, List.take_zero, List.drop_succ_cons, List.drop_zero, List.cons_append, List.nil_append, Nat.reduceMul, t7, t3, hit, hd, hp, w, x18, ho]
      refine ⟨_, ⟨?_, pos + (decR (b :: l)).2, c + 1, ?_, ?_, by omega, by rw [h1]; omega, by rw [h1]; exact hall, rfl⟩, by simp only [id]; rw [hn]; exact h3⟩
      · simp only [Tr.get_set, Nat.reduceEqDiff, if_false, if_true, t7]
      · simp only [St.get_put, if_true]
      · simp only [Tr.get_set, Nat.reduceEqDiff, if_false, if_true]
    | false =>
      rw [ho, Bool.false_and] at hall
      simp -implicitDefEqProofs -dsimp (maxSteps := 10000000) only [af25_l0, ↓kS, after_some, br_true, br_false, kC, ↓kQ, ↓Option.bind_some, ↓Option.map_some, ↓cond_true, ↓cond_false, evC, evOp, XO.lit, setArgs, Tr.get_set, Option.bind_some, Option.map_some, cond_true, cond_false, maxI, maxFrom, minI, minFrom, aConv, aBinE, aEq, eqScal, aUn, evRes, fin, oneOf, if_true, if_false, callee, reduceCtorEq, Nat.reduceEqDiff, List.getElem?_cons_zero, List.getElem?_cons_succ, beq_self_eq_true, gt_iff_lt, List.head?_cons, AV.undef, eq_self, ne_eq, Int.reduceLT, Int.reduceLE, Int.reduceToNat, Int.reduceEq, Int.reduceNeg, Nat.reduceAdd, Nat.reduceLT, Nat.reduceLeDiff, Nat.reduceMul, Nat.reduceSub, kM, AV.cells, AV.tup, List.drop_nil, List.append_nil, rdO, St.wr, List.length_cons, List.length_nil, List.take_succ_cons, List.take_zero, List.drop_succ_cons, List.drop_zero, List.cons_append, List.nil_append, Nat.reduceMul, t7, t3, hit, hd, hp, w, x18, ho]
      exact ⟨_, _, rfl, by simp [right, ← hall]⟩
theorem ev15 (k : Nat) {s : List Nat} (hs : s.length ≤ 9223372036854775807) : ∃ S', evF X3 AP (k + s.length + 3) 22 [.str s] S0 = some (.bool (right s), S') := by
  have hcl : count s ≤ 9223372036854775807 := by have := Rr_len 0 s; unfold count; omega
  suffices hh : ∃ v S', evF X3 AP (k + s.length + 3) 22 [.str s] S0 = some (v, S') ∧ v = .bool (right s) by
    obtain ⟨v, S', h1, rfl⟩ := hh; exact ⟨S', h1⟩
  refine evF_goes (af := af22) (k := k + s.length + 2) rfl rfl rfl ?_
  simp -implicitDefEqProofs -dsimp (maxSteps := 10000000) only [af22, ↓kS, after_some, br_true, br_false, kC, ↓kQ, ↓Option.bind_some, ↓Option.map_some, ↓cond_true, ↓cond_false, evC, evOp, XO.lit, setArgs, Tr.tabG, Tr.tabS, Tr.tabL, Tr.get_lf, Option.bind_some, Option.map_some, cond_true, cond_false, maxI, maxFrom, minI, minFrom, aConv, aBinE, aEq, eqScal, aUn, evRes, fin, oneOf, if_true, if_false, callee, reduceCtorEq, Nat.reduceEqDiff, List.getElem?_cons_zero, List.getElem?_cons_succ, beq_self_eq_true, gt_iff_lt, List.head?_cons, AV.undef, eq_self, ne_eq, Int.reduceLT, Int.reduceLE, Int.reduceToNat, Int.reduceEq, Int.reduceNeg, Nat.reduceAdd, Nat.reduceLT, Nat.reduceLeDiff, Nat.reduceMul, Nat.reduceSub, kM, AV.cells, AV.tup, List.drop_nil, List.append_nil, rdO, St.wr, List.length_cons, List.length_nil, List.take_succ_cons, List.take_zero, List.drop_succ_cons, List.drop_zero, List.cons_append, List.nil_append, Nat.reduceMul]
  refine .while (IR 6 s) id s.length ⟨rfl, rfl, 0, rfl, by simp, rfl⟩ (by show s.length < k + s.length + 2; omega) ?_
  rintro n T S ⟨t6, t0, pos, hit, hall, hn⟩
  rcases hd : s.drop pos with _ | ⟨b, l⟩
  · rw [hd] at hall
    simp only [Rr_nil, List.all_nil] at hall
    have e14 := fun S => x14 (k + s.length + 1) S hs
    by_cases c1 : 1 ≤ count s
    · by_cases c2 : count s ≤ 8
      · simp -implicitDefEqProofs -dsimp (maxSteps := 10000000) only [af22_l0, ↓kS, after_some, br_true, br_false, kC, ↓kQ, ↓Option.bind_some, ↓Option.map_some, ↓cond_true, ↓cond_false, evC, evOp, XO.lit, setArgs, Tr.get_set, Option.bind_some, Option.map_some, cond_true, cond_false, maxI, maxFrom, minI, minFrom, aConv, aBinE, aEq, eqScal, aUn, evRes, fin, oneOf, if_true, if_false, callee, reduceCtorEq, Nat.reduceEqDiff, List.getElem?_cons_zero, List.getElem?_cons_succ, beq_self_eq_true, gt_iff_lt, List.head?_cons, AV.undef, eq_self, ne_eq, Int.reduceLT, Int.reduceLE, Int.reduceToNat, Int.reduceEq, Int.reduceNeg, Nat.reduceAdd, Nat.reduceLT, Nat.reduceLeDiff, Nat.reduceMul, Nat.reduceSub, kM, AV.cells, AV.tup, List.drop_nil, List.append_nil, rdO, St.wr, List.length_cons, List.length_nil, List.take_succ_cons, List.take_zero, List.drop_succ_cons, List.drop_zero, List.cons_append, List.nil_append, Nat.reduceMul, t6, t0, hit, hd, c1, c2, e14]
        exact ⟨_, _, rfl, by simp [right, ← hall, c1, c2]⟩
      · simp -implicitDefEqProofs -dsimp (maxSteps := 10000000) only [af22_l0, ↓kS, after_some, br_true, br_false, kC, ↓kQ, ↓Option.bind_some, ↓Option.map_some, ↓cond_true, ↓cond_false, evC, evOp, XO.lit, setArgs, Tr.get_set, Option.bind_some, Option.map_some, cond_true, cond_false, maxI, maxFrom, minI, minFrom, aConv, aBinE, aEq, eqScal, aUn, evRes, fin, oneOf, if_true, if_false, callee, reduceCtorEq, Nat.reduceEqDiff, List.getElem?_cons_zero, List.getElem?_cons_succ, beq_self_eq_true, gt_iff_lt, List.head?_cons, AV.undef, eq_self, ne_eq, Int.reduceLT, Int.reduceLE, Int.reduceToNat, Int.reduceEq, Int.reduceNeg, Nat.reduceAdd, Nat.reduceLT, Nat.reduceLeDiff, Nat.reduceMul, Nat.reduceSub, kM, AV.cells, AV.tup, List.drop_nil, List.append_nil, rdO, St.wr, List.length_cons, List.length_nil, List.take_succ_cons, List.take_zero, List.drop_succ_cons, List.drop_zero, List.cons_append, List.nil_append, Nat.reduceMul, t6, t0, hit, hd, c1, c2, e14]
        exact ⟨_, _, rfl, by simp [right, c2]⟩
    · simp -implicitDefEqProofs -dsimp (maxSteps := 10000000) only [af22_l0, ↓kS, after_some, br_true, br_false, kC, ↓kQ, ↓Option.bind_some, ↓Option.map_some, ↓cond_true, ↓cond_false, evC, evOp, XO.lit, setArgs, Tr.get_set, Option.bind_some, Option.map_some, cond_true, cond_false, maxI, maxFrom, minI, minFrom, aConv, aBinE, aEq, eqScal, aUn, evRes, fin, oneOf, if_true, if_false, callee, reduceCtorEq, Nat.reduceEqDiff, List.getElem?_cons_zero, List.getElem?_cons_succ, beq_self_eq_true, gt_iff_lt, List.head?_cons, AV.undef, eq_self, ne_eq, Int.reduceLT, Int.reduceLE, Int.reduceToNat, Int.reduceEq, Int.reduceNeg, Nat.reduceAdd, Nat.reduceLT, Nat.reduceLeDiff, Nat.reduceMul, Nat.reduceSub, kM, AV.cells, AV.tup, List.drop_nil, List.append_nil, rdO, St.wr, List.length_cons, List.length_nil, List.take_succ_cons, List.take_zero, List.drop_succ_cons, List.drop_zero, List.cons_append, List.nil_append, Nat.reduceMul, t6, t0, hit, hd, c1, e14]
      exact ⟨_, _, rfl, by simp [right, c1]⟩
  · obtain ⟨h1, h2, h3⟩ := step_drop hd
    have hp : ¬ 9223372036854775807 < pos := by omega
    rw [hd, Rr_cons] at hall
    rw [List.all_cons] at hall
    cases ho : isOne (decR (b :: l)).1 with
    | true =>
      rw [ho, Bool.true_and] at hall
      simp -implicitDefEqProofs -dsimp (maxSteps := 10000000) only [af22_l0, ↓kS, after_some, br_true, br_false, kC, ↓kQ, ↓Option.bind_some, ↓Option.map_some, ↓cond_true, ↓cond_false, evC, evOp, XO.lit, setArgs, Tr.get_set, Option.bind_some, Option.map_some, cond_true, cond_false, maxI, maxFrom, minI, minFrom, aConv, aBinE, aEq, eqScal, aUn, evRes, fin, oneOf, if_true, if_false, callee, reduceCtorEq, Nat.reduceEqDiff, List.getElem?_cons_zero, List.getElem?_cons_succ, beq_self_eq_true, gt_iff_lt, List.head?_cons, AV.undef, eq_self, ne_eq, Int.reduceLT, Int.reduceLE, Int.reduceToNat, Int.reduceEq, Int.reduceNeg, Nat.reduceAdd, Nat.reduceLT, Nat.reduceLeDiff, Nat.reduceMul, Nat.reduceSub, kM, AV.cells, AV.tup, List.drop_nil, List.append_nil, rdO, St.wr, List.length_cons, List.length_nil, List.take_succ_cons, List.take_zero, List.drop_succ_cons, List.drop_zero, List.cons_append, List.nil_append, Nat.reduceMul, t6, t0, hit, hd, hp, x19, ho]
      refine ⟨_, ⟨?_, ?_, pos + (decR (b :: l)).2, ?_, by rw [h1]; exact hall, rfl⟩, by simp only [id]; rw [hn]; exact h3⟩
      · simp only [Tr.get_set, Nat.reduceEqDiff, if_false, if_true, t6]
      · simp only [Tr.get_set, Nat.reduceEqDiff, if_false, if_true, t0]
      · simp only [St.get_put, if_true]
    | false =>
      rw [ho, Bool.false_and] at hall
      simp -implicitDefEqProofs -dsimp (maxSteps := 10000000) only [af22_l0, ↓kS, after_some, br_true, br_false, kC, ↓kQ, ↓Option.bind_some, ↓Option.map_some, ↓cond_true, ↓cond_false, evC, evOp, XO.lit, setArgs, Tr.get_set, Option.bind_some, Option.map_some, cond_true, cond_false, maxI, maxFrom, minI, minFrom, aConv, aBinE, aEq, eqScal, aUn, evRes, fin, oneOf, if_true, if_false, callee, reduceCtorEq, Nat.reduceEqDiff, List.getElem?_cons_zero, List.getElem?_cons_succ, beq_self_eq_true, gt_iff_lt, List.head?_cons, AV.undef, eq_self, ne_eq, Int.reduceLT, Int.reduceLE, Int.reduceToNat, Int.reduceEq, Int.reduceNeg, Nat.reduceAdd, Nat.reduceLT, Nat.reduceLeDiff, Nat.reduceMul, Nat.reduceSub, kM, AV.cells, AV.tup, List.drop_nil, List.append_nil, rdO, St.wr, List.length_cons, List.length_nil, List.take_succ_cons, List.take_zero, List.drop_succ_cons, List.drop_zero, List.cons_append, List.nil_append, Nat.reduceMul, t6, t0, hit, hd, hp, x19, ho]
      exact ⟨_, _, rfl, by simp [right, ← hall]⟩
end Go.Proofs.YtbfkhnpginlpdaaA
