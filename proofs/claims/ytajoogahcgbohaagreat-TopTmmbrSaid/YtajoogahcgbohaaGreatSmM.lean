/- Numbers that are not known: what is known of calls; a function whose first part is closed, and whose rest has forms. -/
import Derived.Test.YtajoogahcgbohaaGreatSmE
import Derived.Test.YtajoogahcgbohaaGreatTkX
set_option linter.unusedVariables false
set_option linter.unusedSimpArgs false
set_option maxRecDepth 10000
namespace Go.Proofs.YtajoogahcgbohaaGreatA
open Go.RowKit
attribute [local congr] bind_congr1 map_congr1 cond_congr1 withX_congr

/-! ### Products of two words -/
theorem and_u64_32 (x : Int) : Go.bits .and .u64 x 4294967295 = x % 4294967296 := and_u64 32 (by decide) x
theorem prod_bd {x y : Int} (hx0 : 0 ≤ x) (hx : x ≤ 4294967295) (hy0 : 0 ≤ y) (hy : y ≤ 4294967295) : 0 ≤ x * y ∧ x * y ≤ 18446744065119617025 :=
  ⟨Int.mul_nonneg hx0 hy0, by have := Int.mul_le_mul hx hy hy0 (by decide); omega⟩
theorem halves (a b : Int) : a * b = (a / 4294967296) * (b / 4294967296) * 18446744073709551616 + (a / 4294967296) * (b % 4294967296) * 4294967296 + (a % 4294967296) * (b / 4294967296) * 4294967296 + (a % 4294967296) * (b % 4294967296) := by
  have ha : a = (a / 4294967296) * 4294967296 + a % 4294967296 := by omega
  have hb : b = (b / 4294967296) * 4294967296 + b % 4294967296 := by omega
  generalize a / 4294967296 = x at *
  generalize a % 4294967296 = y at *
  generalize b / 4294967296 = z at *
  generalize b % 4294967296 = u at *
  subst ha hb
  grind
theorem two_pow_32 : ((2 : Int) ^ min 32 (IntKind.bits .u64)) = 4294967296 := by decide
theorem lt64 {a : Int} (h : (Lit.int .u64 a).wf = true) : 0 ≤ a ∧ a < 18446744073709551616 := by have := wf_u64 h; omega
def wd (a b : Int) : AV := .tuple [.int .u64 (a * b / 18446744073709551616), .int .u64 (a * b % 18446744073709551616)]
theorem evM {a b : Int} (ha : 0 ≤ a) (ha' : a < 18446744073709551616) (hb : 0 ≤ b) (hb' : b < 18446744073709551616) :
    evF XT AP 3 184 [.int .u64 a, .int .u64 b] S0 = some (wd a b, S0) := by
  have h := halves a b
  have p1 := prod_bd (x := a / 4294967296) (y := b / 4294967296) (by omega) (by omega) (by omega) (by omega)
  have p2 := prod_bd (x := a / 4294967296) (y := b % 4294967296) (by omega) (by omega) (by omega) (by omega)
  have p3 := prod_bd (x := a % 4294967296) (y := b / 4294967296) (by omega) (by omega) (by omega) (by omega)
  have p4 := prod_bd (x := a % 4294967296) (y := b % 4294967296) (by omega) (by omega) (by omega) (by omega)
  rw [evF_body (af := af184) rfl rfl rfl]
  simp -implicitDefEqProofs only [af184, evC, evOps, evOper, wanted, evAny, AOp.calls, evOp, XO.ev, XO.lit, setArgs, putD, Tr.get_set, Option.bind_some, Option.map_some, cond_true, cond_false, evArgs, maxI, maxFrom, minI, minFrom, aConv, aBin, aBinE, aEq, eqScal, aUn, aInt, evRes, fin, oneOf, if_true, if_false, callee, evF_eq, withX_some, withX_none, addX, X0, sN0, sN1, sN2, sN3, sN4, reduceCtorEq, Nat.reduceEqDiff, and_self, decide_true, decide_false, beq_true, beq_false, Bool.not_true, Bool.not_false, List.getElem?_cons_zero, List.getElem?_cons_succ, beq_self_eq_true, gt_iff_lt, ble_dec, beq_dec, List.head?_cons, AV.undef, eq_self, ne_eq, not_true_eq_false, not_false_eq_true, Int.reduceLT, Int.reduceLE, Int.reduceToNat, Int.reduceEq, Int.reduceNeg, Nat.reduceAdd, Nat.reduceLT, Nat.reduceLeDiff, Nat.reduceMul, Nat.reduceSub, XT, two_pow_32, and_u64_32, wrap_u64, wd]
  rw [h]
  generalize (a / 4294967296) * (b / 4294967296) = p at *
  generalize (a / 4294967296) * (b % 4294967296) = q at *
  generalize (a % 4294967296) * (b / 4294967296) = r at *
  generalize (a % 4294967296) * (b % 4294967296) = s at *
  rw [Int.emod_eq_of_lt p1.1 (by omega), Int.emod_eq_of_lt p2.1 (by omega), Int.emod_eq_of_lt p3.1 (by omega), Int.emod_eq_of_lt p4.1 (by omega)]
  rw [Int.emod_eq_of_lt (a := q + s / 4294967296) (by omega) (by omega)]
  rw [Int.emod_eq_of_lt (a := (q + s / 4294967296) % 4294967296 + r) (by omega) (by omega)]
  congr 5
  omega
/-! ### A number held to a span, a budget -/
theorem evW {n : Int} (hn : I64 n) : evF XT AP 3 6 [.int .i64 n, .int .i64 0, .int .i64 511] S0 = some (.int .i64 (n % 512), S0) := by
  have hn1 := hn.1
  have hn2 := hn.2
  rw [evF_body (af := af6) rfl rfl rfl]
  have w1 : IntKind.i64.wrap ((511 : Int) - 0) = 511 := rfl
  have w2 : IntKind.i64.wrap ((511 : Int) + 1) = 512 := rfl
  obtain ⟨q, hq⟩ : ∃ q, n.tmod 512 = q := ⟨_, rfl⟩
  have b1 := Int.tmod_lt_of_pos n (show (0 : Int) < 512 by decide)
  have b2 := Int.lt_tmod_of_pos n (show (0 : Int) < 512 by decide)
  rw [hq] at b1 b2
  have hne : ¬ (512 : Int) = 0 := by decide
  have hm : n % 512 = if q < 0 then q + 512 else q := by
    rw [← hq, Int.tmod_eq_emod]
    have h0 := Int.emod_nonneg n (show (512 : Int) ≠ 0 by decide)
    have h1 := Int.emod_lt_of_pos n (show (0 : Int) < 512 by decide)
    have hd : (512 : Int) ∣ n ↔ n % 512 = 0 := Int.dvd_iff_emod_eq_zero
    split <;> split <;> simp_all <;> omega
  have w3 : IntKind.i64.wrap (q + 511) = q + 511 := w64_id (by omega) (by omega)
  have w4 : IntKind.i64.wrap (q + 511 - 0) = q + 511 := by rw [Int.sub_zero]; exact w3
  have w5 : IntKind.i64.wrap (q + 511 + 1) = q + 512 := by rw [w64_id (by omega) (by omega)]; omega
  have w6 : IntKind.i64.wrap (0 + q) = q := by rw [w64_id (by omega) (by omega)]; omega
  have w7 : IntKind.i64.wrap (0 + (q + 512)) = q + 512 := by rw [w64_id (by omega) (by omega)]; omega
  by_cases c1 : 0 ≤ n
  · by_cases c2 : n ≤ 511
    · rw [show n % 512 = n by omega]
      simp -implicitDefEqProofs only [af6, evC, evOps, evOper, wanted, evAny, AOp.calls, evOp, XO.ev, XO.lit, setArgs, putD, Tr.get_set, Option.bind_some, Option.map_some, cond_true, cond_false, evArgs, maxI, maxFrom, minI, minFrom, aConv, aBin, aBinE, aEq, eqScal, aUn, aInt, evRes, fin, oneOf, if_true, if_false, callee, evF_eq, withX_some, withX_none, addX, X0, sN0, sN1, sN2, sN3, sN4, reduceCtorEq, Nat.reduceEqDiff, and_self, decide_true, decide_false, beq_true, beq_false, Bool.not_true, Bool.not_false, List.getElem?_cons_zero, List.getElem?_cons_succ, beq_self_eq_true, gt_iff_lt, ble_dec, beq_dec, List.head?_cons, AV.undef, eq_self, ne_eq, not_true_eq_false, not_false_eq_true, Int.reduceLT, Int.reduceLE, Int.reduceToNat, Int.reduceEq, Int.reduceNeg, Nat.reduceAdd, Nat.reduceLT, Nat.reduceLeDiff, Nat.reduceMul, Nat.reduceSub, XT, c1, c2]
    · by_cases c3 : q < 0
      · rw [hm, if_pos c3]
        simp -implicitDefEqProofs only [af6, evC, evOps, evOper, wanted, evAny, AOp.calls, evOp, XO.ev, XO.lit, setArgs, putD, Tr.get_set, Option.bind_some, Option.map_some, cond_true, cond_false, evArgs, maxI, maxFrom, minI, minFrom, aConv, aBin, aBinE, aEq, eqScal, aUn, aInt, evRes, fin, oneOf, if_true, if_false, callee, evF_eq, withX_some, withX_none, addX, X0, sN0, sN1, sN2, sN3, sN4, reduceCtorEq, Nat.reduceEqDiff, and_self, decide_true, decide_false, beq_true, beq_false, Bool.not_true, Bool.not_false, List.getElem?_cons_zero, List.getElem?_cons_succ, beq_self_eq_true, gt_iff_lt, ble_dec, beq_dec, List.head?_cons, AV.undef, eq_self, ne_eq, not_true_eq_false, not_false_eq_true, Int.reduceLT, Int.reduceLE, Int.reduceToNat, Int.reduceEq, Int.reduceNeg, Nat.reduceAdd, Nat.reduceLT, Nat.reduceLeDiff, Nat.reduceMul, Nat.reduceSub, XT, c1, c2, c3, w1, w2, hne, hq, w3, w4, w5, w7]
      · rw [hm, if_neg c3]
        simp -implicitDefEqProofs only [af6, evC, evOps, evOper, wanted, evAny, AOp.calls, evOp, XO.ev, XO.lit, setArgs, putD, Tr.get_set, Option.bind_some, Option.map_some, cond_true, cond_false, evArgs, maxI, maxFrom, minI, minFrom, aConv, aBin, aBinE, aEq, eqScal, aUn, aInt, evRes, fin, oneOf, if_true, if_false, callee, evF_eq, withX_some, withX_none, addX, X0, sN0, sN1, sN2, sN3, sN4, reduceCtorEq, Nat.reduceEqDiff, and_self, decide_true, decide_false, beq_true, beq_false, Bool.not_true, Bool.not_false, List.getElem?_cons_zero, List.getElem?_cons_succ, beq_self_eq_true, gt_iff_lt, ble_dec, beq_dec, List.head?_cons, AV.undef, eq_self, ne_eq, not_true_eq_false, not_false_eq_true, Int.reduceLT, Int.reduceLE, Int.reduceToNat, Int.reduceEq, Int.reduceNeg, Nat.reduceAdd, Nat.reduceLT, Nat.reduceLeDiff, Nat.reduceMul, Nat.reduceSub, XT, c1, c2, c3, w1, w2, hne, hq, w6]
  · by_cases c3 : q < 0
    · rw [hm, if_pos c3]
      simp -implicitDefEqProofs only [af6, evC, evOps, evOper, wanted, evAny, AOp.calls, evOp, XO.ev, XO.lit, setArgs, putD, Tr.get_set, Option.bind_some, Option.map_some, cond_true, cond_false, evArgs, maxI, maxFrom, minI, minFrom, aConv, aBin, aBinE, aEq, eqScal, aUn, aInt, evRes, fin, oneOf, if_true, if_false, callee, evF_eq, withX_some, withX_none, addX, X0, sN0, sN1, sN2, sN3, sN4, reduceCtorEq, Nat.reduceEqDiff, and_self, decide_true, decide_false, beq_true, beq_false, Bool.not_true, Bool.not_false, List.getElem?_cons_zero, List.getElem?_cons_succ, beq_self_eq_true, gt_iff_lt, ble_dec, beq_dec, List.head?_cons, AV.undef, eq_self, ne_eq, not_true_eq_false, not_false_eq_true, Int.reduceLT, Int.reduceLE, Int.reduceToNat, Int.reduceEq, Int.reduceNeg, Nat.reduceAdd, Nat.reduceLT, Nat.reduceLeDiff, Nat.reduceMul, Nat.reduceSub, XT, c1, c3, w1, w2, hne, hq, w3, w4, w5, w7]
    · rw [hm, if_neg c3]
      simp -implicitDefEqProofs only [af6, evC, evOps, evOper, wanted, evAny, AOp.calls, evOp, XO.ev, XO.lit, setArgs, putD, Tr.get_set, Option.bind_some, Option.map_some, cond_true, cond_false, evArgs, maxI, maxFrom, minI, minFrom, aConv, aBin, aBinE, aEq, eqScal, aUn, aInt, evRes, fin, oneOf, if_true, if_false, callee, evF_eq, withX_some, withX_none, addX, X0, sN0, sN1, sN2, sN3, sN4, reduceCtorEq, Nat.reduceEqDiff, and_self, decide_true, decide_false, beq_true, beq_false, Bool.not_true, Bool.not_false, List.getElem?_cons_zero, List.getElem?_cons_succ, beq_self_eq_true, gt_iff_lt, ble_dec, beq_dec, List.head?_cons, AV.undef, eq_self, ne_eq, not_true_eq_false, not_false_eq_true, Int.reduceLT, Int.reduceLE, Int.reduceToNat, Int.reduceEq, Int.reduceNeg, Nat.reduceAdd, Nat.reduceLT, Nat.reduceLeDiff, Nat.reduceMul, Nat.reduceSub, XT, c1, c3, w1, w2, hne, hq, w6]
def budF (r : Int) : Int := if 0 < (if 4096 < IntKind.i64.wrap (r.tdiv 1000) then 4096 else IntKind.i64.wrap (r.tdiv 1000)) then (if 4096 < IntKind.i64.wrap (r.tdiv 1000) then 4096 else IntKind.i64.wrap (r.tdiv 1000)) else 0
theorem evB {n : Int} : evF XT AP 3 175 [.int .i64 n] S0 = some (.int .i64 (budF n), S0) := by
  rw [evF_body (af := af175) rfl rfl rfl]
  have hne : ¬ (1000 : Int) = 0 := by decide
  unfold budF
  simp -implicitDefEqProofs only [af175, evC, evOps, evOper, wanted, evAny, AOp.calls, evOp, XO.ev, XO.lit, setArgs, putD, Tr.get_set, Option.bind_some, Option.map_some, cond_true, cond_false, evArgs, maxI, maxFrom, minI, minFrom, aConv, aBin, aBinE, aEq, eqScal, aUn, aInt, evRes, fin, oneOf, if_true, if_false, callee, evF_eq, withX_some, withX_none, addX, X0, sN0, sN1, sN2, sN3, sN4, reduceCtorEq, Nat.reduceEqDiff, and_self, decide_true, decide_false, beq_true, beq_false, Bool.not_true, Bool.not_false, List.getElem?_cons_zero, List.getElem?_cons_succ, beq_self_eq_true, gt_iff_lt, ble_dec, beq_dec, List.head?_cons, AV.undef, eq_self, ne_eq, not_true_eq_false, not_false_eq_true, Int.reduceLT, Int.reduceLE, Int.reduceToNat, Int.reduceEq, Int.reduceNeg, Nat.reduceAdd, Nat.reduceLT, Nat.reduceLeDiff, Nat.reduceMul, Nat.reduceSub, XT, hne]
theorem budF_in (r : Int) : 0 ≤ budF r ∧ budF r ≤ 4096 := by
  unfold budF
  generalize IntKind.i64.wrap (r.tdiv 1000) = q
  by_cases h1 : 4096 < q
  · simp [h1]
  · simp only [if_neg h1]
    split <;> omega
def sW (l : List AV) : Option AV := match l with
  | [.int .i64 n, .int .i64 0, .int .i64 511] => some (.int .i64 (n % 512))
  | _ => none
def X1 : Nat → List AV → Option AV := addX XT 184 (sN2 .u64 .u64 wd)
theorem ok1 : XOk Tryz.prog X1 := addX_N2 mixed okT apOk (entry_of apOk (af := af184) rfl) (fun _ _ => rfl) fun a b wa wb => ⟨3, S0, evM (lt64 wa).1 (lt64 wa).2 (lt64 wb).1 (lt64 wb).2⟩
theorem addX_any' {X Z : Nat → List AV → Option AV} (hX : XOk Tryz.prog X) {g : Nat} {s : List AV → Option AV} (h : XOk Tryz.prog (addX Z g s)) : XOk Tryz.prog (addX X g s) := by
  intro f args v e
  unfold addX at e
  by_cases hf : f = g
  · rw [if_pos hf] at e
    exact h f args v (by unfold addX; rw [if_pos hf]; exact e)
  · rw [if_neg hf] at e
    exact hX f args v e
def X2 : Nat → List AV → Option AV := addX X1 6 sW
theorem ok2 : XOk Tryz.prog X2 := by
  refine addX_any' ok1 (Z := XT) (addX_ok mixed okT apOk (entry_of apOk (af := af6) rfl) fun args v h => ?_)
  unfold sW at h
  split at h
  · rename_i n
    cases h
    exact ⟨rfl, rfl, fun w => ⟨3, S0, evW (wf_i64 (w _ (List.mem_cons_self ..)))⟩⟩
  · cases h
def XF : Nat → List AV → Option AV := addX X2 175 (sN1 .i64 fun n => .int .i64 (budF n))
theorem okXF : XOk Tryz.prog XF := addX_any' ok2 (Z := XT) (addX_N1 mixed okT apOk (entry_of apOk (af := af175) rfl) (fun _ => rfl) fun n _ => ⟨3, S0, evB⟩)
/-! ### What is known of calls, of forms -/
def mulS (s : Sp) (l : List AV) : Option AV :=
  match l with
  | [x, y] => (lnOf x).bind fun a => (lnOf y).bind fun b => match a.k with
    | .u64 => (binL s .mul a b).map fun v => .tuple [.int .u64 0, v]
    | _ => none
  | _ => none
def witS (s : Sp) (l : List AV) : Option AV :=
  match l with
  | [x, .int .i64 0, .int .i64 511] => (lnOf x).bind fun a => match a.k with
    | .i64 => (qrL s a 512).bind fun p => mkL s p.2
    | _ => none
  | _ => none
def budS (rn qn : Nat) (l : List AV) : Option AV :=
  match l with
  | [.int .i64 n] => some (.int .i64 (budF n))
  | [.float .f64 m] => bif Nat.beq m rn then some (.float .f64 qn) else none
  | _ => none
def Xs (rn qn : Nat) (s : Sp) (f : Nat) (l : List AV) : Option AV :=
  bif Nat.beq f 13 then (match l with | [] => some (.bool true) | _ => none) else bif Nat.beq f 184 then mulS s l else bif Nat.beq f 6 then witS s l else bif Nat.beq f 175 then budS rn qn l else none
def nX (f : Nat) : Bool := !(Nat.beq f 13) && !(Nat.beq f 184) && !(Nat.beq f 6) && !(Nat.beq f 175)
/-- The budget of a rate, as a number of its own. -/
structure BudOk (s : Sp) (rn qn : Nat) : Prop where
  kr : (decL rn).k = .i64
  kq : (decL qn).k = .i64
  eq : ∀ u, s.ex u → (decL qn).at u = budF ((decL rn).at u)
theorem mulS_g {u : Asg} {s : Sp} (hu : s.has u) {l : List AV} {v : AV} (h : mulS s l = some v) : sN2 .u64 .u64 wd (l.map (gV u)) = some (gV u v) := by
  unfold mulS at h
  split at h
  · rename_i x y
    obtain ⟨a, ha, h⟩ := Option.bind_eq_some_iff.1 h
    obtain ⟨b, hb, h⟩ := Option.bind_eq_some_iff.1 h
    cases hk : a.k <;> rw [hk] at h <;> first | (cases h; done) | skip
    obtain ⟨w, hw, h⟩ := Option.map_eq_some_iff.1 h
    cases h
    have hk2 : a.k = b.k := by
      by_cases e : a.k = b.k
      · exact e
      · simp only [binL, if_neg e] at hw; cases hw
    have mg : ∃ q : Ln, mkL s q = some w ∧ q.k = a.k ∧ q.at u = a.at u * b.at u := by
      simp only [binL, if_pos hk2] at hw
      cases hy : b.c.isEmpty with
      | true => rw [hy] at hw; exact ⟨_, hw, rfl, by rw [mulL_at, at_c hy]⟩
      | false =>
        rw [hy] at hw
        simp only [cond_false] at hw
        cases hx : a.c.isEmpty with
        | false => rw [hx] at hw; cases hw
        | true => rw [hx] at hw; exact ⟨_, hw, hk2.symm, by rw [mulL_at, at_c hx, Int.mul_comm]⟩
    obtain ⟨q, q1, q2, q3⟩ := mg
    obtain ⟨e2, e3, e4⟩ := mkL_g hu q1
    rw [q2, hk, q3] at e2 e3 e4
    rw [hk] at hk2
    have m0 : IntKind.u64.min = 0 := rfl
    have m1 : IntKind.u64.max = 18446744073709551615 := rfl
    rw [m0] at e3
    rw [m1] at e4
    simp only [List.map_cons, List.map_nil, lnOf_g ha, lnOf_g hb, hk, ← hk2, g_tuple, g_int, e2, sN2]
    simp only [and_self, if_true]
    unfold wd
    rw [Int.ediv_eq_zero_of_lt e3 (by omega), Int.emod_eq_of_lt e3 (by omega)]
  · cases h
theorem witS_g {u : Asg} {s : Sp} (hu : s.has u) {l : List AV} {v : AV} (h : witS s l = some v) : sW (l.map (gV u)) = some (gV u v) := by
  unfold witS at h
  split at h
  · rename_i x
    obtain ⟨a, ha, h⟩ := Option.bind_eq_some_iff.1 h
    cases hk : a.k <;> rw [hk] at h <;> first | (cases h; done) | skip
    obtain ⟨p, hq, h⟩ := Option.bind_eq_some_iff.1 h
    obtain ⟨q, r⟩ := p
    obtain ⟨q1, q2, q3, q4, q5⟩ := qrL_g hu hq
    obtain ⟨h1, h2, h3⟩ := mkL_g hu h
    simp only [List.map_cons, List.map_nil, lnOf_g ha, g_int, hk, sW, h1, q5, q3]
  · cases h
theorem xsF {rn qn : Nat} {s : Sp} (hb : BudOk s rn qn) : XsOk s XF (Xs rn qn s) nX := by
  constructor
  · intro f l v h u hu
    unfold Xs at h
    cases h1 : Nat.beq f 13 with
    | true =>
      rw [h1] at h
      have := Nat.eq_of_beq_eq_true h1
      subst this
      cases l with
      | nil => cases h; rfl
      | cons a r => cases h
    | false =>
      rw [h1] at h
      cases h2 : Nat.beq f 184 with
      | true =>
        rw [h2] at h
        have := Nat.eq_of_beq_eq_true h2
        subst this
        exact (show sN2 .u64 .u64 wd (l.map (gV u)) = _ from mulS_g hu h)
      | false =>
        rw [h2] at h
        cases h3 : Nat.beq f 6 with
        | true =>
          rw [h3] at h
          have := Nat.eq_of_beq_eq_true h3
          subst this
          exact (show sW (l.map (gV u)) = _ from witS_g hu h)
        | false =>
          rw [h3] at h
          cases h4 : Nat.beq f 175 with
          | false => rw [h4] at h; cases h
          | true =>
            rw [h4] at h
            have := Nat.eq_of_beq_eq_true h4
            subst this
            replace h : budS rn qn l = some v := h
            show sN1 .i64 (fun n => .int .i64 (budF n)) (l.map (gV u)) = some (gV u v)
            unfold budS at h
            split at h
            · cases h; simp [sN1]
            · rename_i m
              cases hm : Nat.beq m rn with
              | false => rw [hm] at h; cases h
              | true =>
                rw [hm] at h
                have e := Nat.eq_of_beq_eq_true hm
                subst e
                cases h
                simp only [List.map_cons, List.map_nil, g_f64, hb.kr, hb.kq, sN1, if_true, hb.eq u hu.2]
            · cases h
  · intro f h l
    unfold nX at h
    simp only [Bool.and_eq_true, Bool.not_eq_true'] at h
    have h1 : ¬ f = 13 := fun e => by subst e; simp at h
    have h2 : ¬ f = 184 := fun e => by subst e; simp at h
    have h3 : ¬ f = 6 := fun e => by subst e; simp at h
    have h4 : ¬ f = 175 := fun e => by subst e; simp at h
    unfold XF X2 X1 XT addX
    rw [if_neg h4, if_neg h3, if_neg h2, if_neg h1]; rfl
theorem baseF : CallOk Tryz.prog (evFK XF AP 300) := base_ok mixed okXF apOk 300
/-! ### Values without lines -/
def nfA : AO → Bool
  | .cells c _ _ _ | .fork c _ _ _ => AV.nfs c
  | _ => true
def nfOp {α : Type} (p : α → Bool) : Option α → Bool
  | some x => p x
  | none => true
noncomputable def nfTr {α : Type} (p : α → Bool) (t : Tr α) : Bool :=
  Tr.rec (motive := fun _ => Bool) true (fun _ v _ a b => nfOp p v && (a && b)) t
theorem map_id_of {α : Type} (p : α → Bool) (f : α → α) (h : ∀ x, p x = true → f x = x) : ∀ (t : Tr α), nfTr p t = true → t.map f = t
  | .lf, _ => rfl
  | .nd l v r, e => by
    replace e : (nfOp p v && (nfTr p l && nfTr p r)) = true := e
    simp only [Bool.and_eq_true] at e
    simp only [Tr.map, map_id_of p f h l e.2.1, map_id_of p f h r e.2.2]
    cases v with
    | none => rfl
    | some x => simp only [Option.map_some, h x e.1]
theorem nfT_g (u : Asg) {T : Tm} (h : nfTr AV.nf T = true) : gT u T = T := map_id_of AV.nf (gV u) (nf_g u) T h
theorem nfA_g (u : Asg) (x : AO) (h : nfA x = true) : gO u x = x := by
  cases x <;> first | rfl | (simp only [nfA] at h; simp only [gO, nfl_g u h])
theorem nfS_g (u : Asg) {S : St} (h : nfTr nfA S.objs = true) : gS u S = S := by
  unfold gS
  rw [map_id_of nfA (gO u) (nfA_g u) S.objs h]
/-- A call whose rest has lines. -/
theorem con_sym {s : Sp} {rn qn : Nat} (hb : BudOk s rn qn) {u : Asg} (hu : s.has u) {f : Nat} {af : AFunc} (haf : AP f = some af) {args : List AV} (hle : Nat.ble args.length af.ntmps = true) {S S1 : St} {T1 : Tm} {c : AC}
    (h1 : evC (evFK XF AP 300) 300 af.body (setArgs args 0 .lf) S = evC (evFK XF AP 300) 300 c (gT u T1) (gS u S1))
    (h : rootChk af.results (.bool true) (evCS s (evFS s (Xs rn qn s) nX AP 300) 300 c T1 S1) = true) : EntryOk Tryz.prog f ∧ ∃ S2, Con Tryz.prog f args S (.bool true) S2 := by
  cases hr : evCS s (evFS s (Xs rn qn s) nX AP 300) 300 c T1 S1 with
  | none => rw [hr] at h; cases h
  | some r =>
    rw [hr] at h
    replace h : (match fin af.results r with
      | some (v, _) => eqV v (.bool true)
      | none => false) = true := h
    cases hf : fin af.results r with
    | none => rw [hf] at h; cases h
    | some q =>
      obtain ⟨v, S2⟩ := q
      rw [hf] at h
      replace h : eqV v (.bool true) = true := h
      have hv := eqV_eq h
      subst hv
      have hcal : CalG u (evFS s (Xs rn qn s) nX AP 300) (evFK XF AP 300) := by rw [evFK_eq]; exact evFS_g (xsF hb) AP hu 300
      have hc := ev_c_g hu hcal 300 c T1 S1 r hr
      rw [hc] at h1
      have he : evBK (evFK XF AP 300) 300 af args S = some (.bool true, gS u S2) := by
        unfold evBK
        rw [hle]
        show Option.casesOn (motive := fun _ => Res) (evCK (evFK XF AP 300) 300 af.body (setArgsK args 0 .lf) S) none (fin af.results) = _
        rw [ob, evCK_eq, setArgsK_eq, h1, Option.bind_some]
        have := fin_g (u := u) hf
        simpa using this
      obtain ⟨h3, h4⟩ := con_step mixed baseF apOk haf he
      exact ⟨h3, _, h4⟩
end Go.Proofs.YtajoogahcgbohaaGreatA
