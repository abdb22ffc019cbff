/- Top: the choice of layers, told in numbers. Top: the choice of layers: the small functions. Top: the choice of layers: what a choice costs, how good it is. Top: the choice of layers: how good a choice is. -/
import Derived.Test.YtajakdllbpnnpaaGreatAeS8
import Derived.Test.YtajakdllbpnnpaaGreatAeNum
import Derived.Test.YtajakdllbpnnpaaGreatTkX
set_option linter.unusedVariables false
set_option linter.unusedSimpArgs false
set_option maxRecDepth 10000
namespace Go.Proofs.YtajakdllbpnnpaaGreatA
open Go.RowKit
attribute [local congr] bind_congr1 map_congr1 cond_congr1 withX_congr after_congr br_congr gd_congr
structure Ch where
  s : Int
  c0 : Int
  c1 : Int
  g0 : Int
  g1 : Int
structure OkC (c : Ch) : Prop where
  s : c.s = 0 ∨ c.s = 1
  c0 : 0 ≤ c.c0 ∧ c.c0 ≤ 1000
  c1 : 0 ≤ c.c1 ∧ c.c1 ≤ 1000
  g0 : 0 ≤ c.g0 ∧ c.g0 ≤ 1000
  g1 : 0 ≤ c.g1 ∧ c.g1 ≤ 1000
def Ch.co (c : Ch) (p : Int) : Int := if p = 0 then c.c0 else c.c1
def Ch.go (c : Ch) (p : Int) : Int := if p = 0 then c.g0 else c.g1
theorem OkC.co {c : Ch} (h : OkC c) (p : Int) : 0 ≤ c.co p ∧ c.co p ≤ 1000 := by
  unfold Ch.co
  split
  · exact h.c0
  · exact h.c1
theorem OkC.go {c : Ch} (h : OkC c) (p : Int) : 0 ≤ c.go p ∧ c.go p ≤ 1000 := by
  unfold Ch.go
  split
  · exact h.g0
  · exact h.g1
/-- A place that is chosen, or none. -/
def Pos (p : Int) : Prop := p = -1 ∨ p = 0 ∨ p = 1
section
variable (L : Nat → Ch) (m : Nat) (N : Nat → Int)
def costTo : Nat → Int
  | 0 => 0
  | j + 1 => if 0 ≤ N j then costTo j + (L j).co (N j) else costTo j
def goodTo : Nat → Int × Int
  | 0 => (0, 0)
  | j + 1 => if 0 ≤ N j then (if (L j).s = 0 then ((goodTo j).1 + (L j).go (N j), (goodTo j).2) else ((goodTo j).1, (goodTo j).2 + (L j).go (N j))) else goodTo j
end
structure Bs where
  set : Bool
  M : Nat → Int
  g : Int × Int
  c : Int
def bet (a b : Int × Int) : Bool := decide (b.1 < a.1) || (decide (a.1 = b.1) && decide (b.2 < a.2))
def leafF (L : Nat → Ch) (m : Nat) (N : Nat → Int) (b : Bs) : Bs :=
  if b.set = false ∨ bet (goodTo L N m) b.g = true ∨ (goodTo L N m = b.g ∧ costTo L N m < b.c) then ⟨true, N, goodTo L N m, costTo L N m⟩ else b
def upd (N : Nat → Int) (i : Nat) (p : Int) : Nat → Int := fun j => if j = i then p else N j
def tryF (L : Nat → Ch) (m : Nat) : Nat → Nat → Int → (Nat → Int) → Bs → (Nat → Int) × Bs
  | 0, i, left, N, b => (N, leafF L m N b)
  | r + 1, i, left, N, b =>
    let s1 := tryF L m r (i + 1) left (upd N i (-1)) b
    let s2 := if (L i).c0 ≤ left then tryF L m r (i + 1) (left - (L i).c0) (upd s1.1 i 0) s1.2 else s1
    if (L i).c1 ≤ left then tryF L m r (i + 1) (left - (L i).c1) (upd s2.1 i 1) s2.2 else s2
section
variable (L : Nat → Ch) (m r i : Nat) (left : Int) (N : Nat → Int) (b : Bs)
def qA : (Nat → Int) × Bs := tryF L m r (i + 1) left (upd N i (-1)) b
def qB : (Nat → Int) × Bs := if (L i).c0 ≤ left then tryF L m r (i + 1) (left - (L i).c0) (upd (qA L m r i left N b).1 i 0) (qA L m r i left N b).2 else qA L m r i left N b
def qC : (Nat → Int) × Bs := if (L i).c1 ≤ left then tryF L m r (i + 1) (left - (L i).c1) (upd (qB L m r i left N b).1 i 1) (qB L m r i left N b).2 else qB L m r i left N b
/-- How it stands behind the first q places of a choice. -/
def qF (q : Nat) : (Nat → Int) × Bs := match q with
  | 0 => (N, b)
  | 1 => qA L m r i left N b
  | 2 => qB L m r i left N b
  | _ + 3 => qC L m r i left N b
end
theorem tryF_q (L : Nat → Ch) (m r i : Nat) (left : Int) (N : Nat → Int) (b : Bs) : tryF L m (r + 1) i left N b = qF L m r i left N b 5 := rfl
/-! ### What it keeps -/
theorem costTo_congr {L : Nat → Ch} {N N' : Nat → Int} : ∀ {i : Nat}, (∀ j, j < i → N j = N' j) → costTo L N i = costTo L N' i
  | 0, _ => rfl
  | i + 1, h => by
    simp only [costTo]
    rw [h i (Nat.lt_succ_self i), costTo_congr fun j hj => h j (Nat.lt_succ_of_lt hj)]
theorem goodTo_congr {L : Nat → Ch} {N N' : Nat → Int} : ∀ {i : Nat}, (∀ j, j < i → N j = N' j) → goodTo L N i = goodTo L N' i
  | 0, _ => rfl
  | i + 1, h => by
    simp only [goodTo]
    rw [h i (Nat.lt_succ_self i), goodTo_congr fun j hj => h j (Nat.lt_succ_of_lt hj)]
theorem upd_lt {N : Nat → Int} {i : Nat} {p : Int} {j : Nat} (h : j < i) : upd N i p j = N j := if_neg (Nat.ne_of_lt h)
theorem upd_at {N : Nat → Int} {i : Nat} {p : Int} : upd N i p i = p := if_pos rfl
/-- What is chosen so far. -/
structure Inv (L : Nat → Ch) (k : Int) (i : Nat) (left : Int) (N : Nat → Int) : Prop where
  pos : ∀ j, j < i → Pos (N j)
  cost : costTo L N i + left = k
  left : 0 ≤ left
def OkB (L : Nat → Ch) (m : Nat) (k : Int) (b : Bs) : Prop := b.set = true → (∀ j, j < m → Pos (b.M j)) ∧ costTo L b.M m ≤ k
theorem Inv.congr {L : Nat → Ch} {k : Int} {i : Nat} {left : Int} {N N' : Nat → Int} (h : Inv L k i left N) (e : ∀ j, j < i → N' j = N j) : Inv L k i left N' :=
  ⟨fun j hj => by rw [e j hj]; exact h.pos j hj, by rw [costTo_congr e]; exact h.cost, h.left⟩
theorem Inv.snoc {L : Nat → Ch} {k : Int} {i : Nat} {left : Int} {N : Nat → Int} (h : Inv L k i left N) {p : Int} (hp : Pos p) {l' : Int} (hl : l' = if 0 ≤ p then left - (L i).co p else left) (h0 : 0 ≤ l') : Inv L k (i + 1) l' (upd N i p) := by
  refine ⟨fun j hj => ?_, ?_, h0⟩
  · by_cases e : j = i
    · subst e; rw [upd_at]; exact hp
    · rw [upd_lt (by omega)]; exact h.pos j (by omega)
  · simp only [costTo, upd_at]
    rw [costTo_congr (N' := N) fun j hj => upd_lt hj]
    have := h.cost
    subst hl
    split <;> omega
theorem tryF_ok {L : Nat → Ch} {m : Nat} {k : Int} : ∀ (r i : Nat) (left : Int) (N : Nat → Int) (b : Bs), i + r = m → Inv L k i left N → OkB L m k b →
    OkB L m k (tryF L m r i left N b).2 ∧ (tryF L m r i left N b).2.set = true ∧ ∀ j, j < i → (tryF L m r i left N b).1 j = N j
  | 0, i, left, N, b, hi, hN, hb => by
    obtain rfl : i = m := by omega
    refine ⟨?_, ?_, fun j hj => rfl⟩
    · show OkB L i k (leafF L i N b)
      unfold leafF
      split
      · intro _; exact ⟨hN.pos, by have := hN.cost; have := hN.left; show costTo L N i ≤ k; omega⟩
      · exact hb
    · show (leafF L i N b).set = true
      unfold leafF
      split
      · rfl
      · rename_i h
        cases hs : b.set with
        | true => rfl
        | false => exact absurd (.inl hs) h
  | r + 1, i, left, N, b, hi, hN, hb => by
    obtain ⟨a1, a2, a3⟩ := tryF_ok r (i + 1) left (upd N i (-1)) b (by omega) (hN.snoc (.inl rfl) (by simp) hN.left) hb
    have e1 : ∀ j, j < i → (tryF L m r (i + 1) left (upd N i (-1)) b).1 j = N j := fun j hj => by rw [a3 j (by omega), upd_lt hj]
    generalize h1 : tryF L m r (i + 1) left (upd N i (-1)) b = s1 at a1 a2 a3 e1
    have two : ∀ s2, s2 = (if (L i).c0 ≤ left then tryF L m r (i + 1) (left - (L i).c0) (upd s1.1 i 0) s1.2 else s1) → OkB L m k s2.2 ∧ s2.2.set = true ∧ ∀ j, j < i → s2.1 j = N j := by
      intro s2 hs
      split at hs
      · rename_i hc
        obtain ⟨b1, b2, b3⟩ := tryF_ok r (i + 1) (left - (L i).c0) (upd s1.1 i 0) s1.2 (by omega) ((hN.congr e1).snoc (.inr (.inl rfl)) (by simp [Ch.co]) (by omega)) a1
        rw [hs]
        exact ⟨b1, b2, fun j hj => by rw [b3 j (by omega), upd_lt hj, e1 j hj]⟩
      · rw [hs]; exact ⟨a1, a2, e1⟩
    obtain ⟨s2, h2⟩ : ∃ s2, s2 = (if (L i).c0 ≤ left then tryF L m r (i + 1) (left - (L i).c0) (upd s1.1 i 0) s1.2 else s1) := ⟨_, rfl⟩
    obtain ⟨c1, c2, c3⟩ := two s2 h2
    have he : tryF L m (r + 1) i left N b = if (L i).c1 ≤ left then tryF L m r (i + 1) (left - (L i).c1) (upd s2.1 i 1) s2.2 else s2 := by
      simp only [tryF]
      rw [h1, ← h2]
    rw [he]
    split
    · rename_i hc
      obtain ⟨b1, b2, b3⟩ := tryF_ok r (i + 1) (left - (L i).c1) (upd s2.1 i 1) s2.2 (by omega) ((hN.congr c3).snoc (.inr (.inr rfl)) (by simp [Ch.co]) (by omega)) c1
      exact ⟨b1, b2, fun j hj => by rw [b3 j (by omega), upd_lt hj, c3 j hj]⟩
    · exact ⟨c1, c2, c3⟩
/-- The best choice. -/
def bestF (L : Nat → Ch) (m : Nat) (k : Int) : Bs := (tryF L m m 0 k (fun _ => 0) ⟨false, fun _ => 0, (0, 0), 0⟩).2
theorem bestF_ok (L : Nat → Ch) (m : Nat) {k : Int} (hk : 0 ≤ k) : (bestF L m k).set = true ∧ (∀ j, j < m → Pos ((bestF L m k).M j)) ∧ costTo L (bestF L m k).M m ≤ k := by
  obtain ⟨h1, h2, _⟩ := tryF_ok (L := L) (m := m) (k := k) m 0 k (fun _ => 0) ⟨false, fun _ => 0, (0, 0), 0⟩ (by omega) ⟨fun j hj => absurd hj (Nat.not_lt_zero _), by simp [costTo], hk⟩ (fun h => by cases h)
  exact ⟨h2, h1 h2⟩
theorem goodTo_nn {L : Nat → Ch} {N : Nat → Int} : ∀ {m : Nat}, (∀ j, j < m → OkC (L j)) → (0 ≤ (goodTo L N m).1 ∧ (goodTo L N m).1 ≤ 1000 * m) ∧ 0 ≤ (goodTo L N m).2 ∧ (goodTo L N m).2 ≤ 1000 * m
  | 0, _ => by simp [goodTo]
  | m + 1, h => by
    have ih := goodTo_nn (L := L) (N := N) (m := m) fun j hj => h j (Nat.lt_succ_of_lt hj)
    have := (h m (Nat.lt_succ_self m)).go (N m)
    simp only [goodTo]
    split
    · split <;> (simp only []; omega)
    · omega
theorem costTo_bd {L : Nat → Ch} {N : Nat → Int} : ∀ {m : Nat}, (∀ j, j < m → OkC (L j)) → 0 ≤ costTo L N m ∧ costTo L N m ≤ 1000 * m
  | 0, _ => by simp [costTo]
  | m + 1, h => by
    have ih := costTo_bd (L := L) (N := N) (m := m) fun j hj => h j (Nat.lt_succ_of_lt hj)
    have := (h m (Nat.lt_succ_self m)).co (N m)
    simp only [costTo]
    split <;> omega
theorem goodTo_none {L : Nat → Ch} {N : Nat → Int} : ∀ {m : Nat}, (∀ j, j < m → N j = -1) → goodTo L N m = (0, 0)
  | 0, _ => rfl
  | m + 1, h => by
    simp only [goodTo]
    rw [if_neg (by rw [h m (Nat.lt_succ_self m)]; decide)]
    exact goodTo_none fun j hj => h j (Nat.lt_succ_of_lt hj)
/-! ### Rows of numbers -/
def rowL (N : Nat → Int) (m : Nat) : List AV := (List.range m).map fun j => AV.int .i64 (N j)
theorem rowL_len (N : Nat → Int) (m : Nat) : (rowL N m).length = m := by simp [rowL]
theorem rowL_get {N : Nat → Int} {m j : Nat} (h : j < m) : (rowL N m)[j]? = some (.int .i64 (N j)) := by simp [rowL, h]
theorem rowL_one {N : Nat → Int} {m j : Nat} (h : j < m) : ((rowL N m).drop j).take 1 = [.int .i64 (N j)] := by
  have hl : j < (rowL N m).length := by rw [rowL_len]; exact h
  have hg : (rowL N m)[j] = .int .i64 (N j) := by simp [rowL]
  rw [List.drop_eq_getElem_cons hl, List.take_succ_cons, List.take_zero, hg]
theorem rowL_congr {N N' : Nat → Int} {m : Nat} (h : ∀ j, j < m → N j = N' j) : rowL N m = rowL N' m := by
  unfold rowL
  apply List.map_congr_left
  intro j hj
  rw [h j (List.mem_range.1 hj)]
theorem rowL_upd {N : Nat → Int} {m i : Nat} (p : Int) (h : i < m) : (rowL N m).take i ++ [AV.int .i64 p] ++ (rowL N m).drop (i + 1) = rowL (upd N i p) m := by
  apply List.ext_getElem?
  intro j
  by_cases hj : j < m
  · rw [rowL_get hj]
    by_cases h1 : j < i
    · rw [List.getElem?_append_left (by simp [rowL_len]; omega), List.getElem?_append_left (by simp [rowL_len]; omega), List.getElem?_take_of_lt h1, rowL_get hj, upd_lt h1]
    · by_cases h2 : j = i
      · subst h2
        rw [List.getElem?_append_left (by simp [rowL_len]; omega), List.getElem?_append_right (by simp [rowL_len]; omega)]
        simp [rowL_len, upd_at, Nat.min_eq_left (Nat.le_of_lt h)]
      · rw [List.getElem?_append_right (by simp [rowL_len]; omega)]
        rw [List.getElem?_drop]
        have e : i + 1 + (j - ((rowL N m).take i ++ [AV.int .i64 p]).length) = j := by simp [rowL_len]; omega
        rw [e, rowL_get hj]
        simp [upd, h2]
  · rw [List.getElem?_eq_none (by simp [rowL_len]; omega), List.getElem?_eq_none (by simp [rowL_len]; omega)]
theorem rowL_zero (m : Nat) : rep m [AV.int .i64 0] = rowL (fun _ => 0) m := by
  simp [rep, rowL, List.map_const']
def Y : Nat → List AV → Option AV := XT
def ch3 (c : Ch) (oc og : Nat) : List AV := [.int .i64 c.s, .slice (some (oc, 0, 0)) 2 1 none, .slice (some (og, 0, 0)) 2 1 none]
def cI (a b : Int) : AO := .cells [.int .i64 a, .int .i64 b] 0 0 true
theorem c2n : ((2 : Nat) : Int) = 2 := rfl
section
variable {S : St} (k : Nat)
theorem T27 {a b : Int} (ha : 0 ≤ a ∧ a ≤ 100000) (hb : 0 ≤ b ∧ b ≤ 100000) : evF Y AP (k + 1) 27 [.int .i64 a, .int .i64 b] S = some (.int .i64 (a + b), S) := by
  rw [evF_body (af := af27) rfl rfl rfl]
  have w1 : IntKind.i64.wrap (9223372036854775807 - b) = 9223372036854775807 - b := w64_id (by omega) (by omega)
  have w2 : IntKind.i64.wrap (a + b) = a + b := w64_id (by omega) (by omega)
  have h : ¬ (9223372036854775807 - b < a) := by omega
  simp -implicitDefEqProofs -dsimp (maxSteps := 10000000) only [af27, ops_nil, ops_some, ops_none, oper_none, oper_some, gd_tt, gd_ff, gd_tf, gd_ft, gd_undef, ↓any_op, ↓any_call, ↓any_callV, ↓any_invoke, xo_t, xo_c, args_nil, args_cons, bin_add, bin_sub, bin_mul, bin_quo, bin_rem, bin_and, bin_or, bin_xor, bin_andNot, bin_eql, bin_neq, bin_lss, bin_leq, bin_gtr, bin_geq, bin_shl, bin_shr, bin_bools, bin_strs, bin_ptrs, bin_slices, bin_aggs, ↓Option.bind_some, ↓Option.map_some, ↓cond_true, ↓cond_false, evC, evOp, XO.lit, setArgs, Tr.tabG, Tr.tabS, Tr.tabL, Tr.get_lf, Option.bind_some, Option.map_some, cond_true, cond_false, maxI, maxFrom, minI, minFrom, aConv, aBinE, aEq, eqScal, aUn, evRes, fin, oneOf, if_true, if_false, callee, reduceCtorEq, Nat.reduceEqDiff, and_self, decide_true, decide_false, beq_true, beq_false, Bool.not_true, Bool.not_false, List.getElem?_cons_zero, List.getElem?_cons_succ, beq_self_eq_true, gt_iff_lt, ble_dec, beq_dec, List.head?_cons, AV.undef, eq_self, ne_eq, not_true_eq_false, not_false_eq_true, Int.reduceLT, Int.reduceLE, Int.reduceToNat, Int.reduceEq, Int.reduceNeg, Nat.reduceAdd, Nat.reduceLT, Nat.reduceLeDiff, Nat.reduceMul, Nat.reduceSub, w1, w2, h]
theorem T48 {a : Int} : evF Y AP (k + 1) 48 [.int .i64 a] S = some (.bool false, S) := by
  rw [evF_body (af := af48) rfl rfl rfl]
  simp -implicitDefEqProofs -dsimp (maxSteps := 10000000) only [af48, ops_nil, ops_some, ops_none, oper_none, oper_some, gd_tt, gd_ff, gd_tf, gd_ft, gd_undef, ↓any_op, ↓any_call, ↓any_callV, ↓any_invoke, xo_t, xo_c, args_nil, args_cons, bin_add, bin_sub, bin_mul, bin_quo, bin_rem, bin_and, bin_or, bin_xor, bin_andNot, bin_eql, bin_neq, bin_lss, bin_leq, bin_gtr, bin_geq, bin_shl, bin_shr, bin_bools, bin_strs, bin_ptrs, bin_slices, bin_aggs, ↓Option.bind_some, ↓Option.map_some, ↓cond_true, ↓cond_false, evC, evOp, XO.lit, setArgs, Tr.tabG, Tr.tabS, Tr.tabL, Tr.get_lf, Option.bind_some, Option.map_some, cond_true, cond_false, maxI, maxFrom, minI, minFrom, aConv, aBinE, aEq, eqScal, aUn, evRes, fin, oneOf, if_true, if_false, callee, reduceCtorEq, Nat.reduceEqDiff, and_self, decide_true, decide_false, beq_true, beq_false, Bool.not_true, Bool.not_false, List.getElem?_cons_zero, List.getElem?_cons_succ, beq_self_eq_true, gt_iff_lt, ble_dec, beq_dec, List.head?_cons, AV.undef, eq_self, ne_eq, not_true_eq_false, not_false_eq_true, Int.reduceLT, Int.reduceLE, Int.reduceToNat, Int.reduceEq, Int.reduceNeg, Nat.reduceAdd, Nat.reduceLT, Nat.reduceLeDiff, Nat.reduceMul, Nat.reduceSub]
def cmpI (a b : Int) : Int := if a < b then -1 else if b < a then 1 else 0
theorem T28 {a b : Int} : evF Y AP (k + 2) 28 [.int .i64 a, .int .i64 b] S = some (.int .i64 (cmpI a b), S) := by
  rw [evF_body (af := af28) rfl rfl rfl]
  have q : ∀ a, evF Y AP (k + 1) 48 [.int .i64 a] S = some (.bool false, S) := fun a => T48 k
  unfold cmpI
  by_cases h1 : a < b
  · rw [if_pos h1]
    simp -implicitDefEqProofs -dsimp (maxSteps := 10000000) only [af28, ops_nil, ops_some, ops_none, oper_none, oper_some, gd_tt, gd_ff, gd_tf, gd_ft, gd_undef, ↓any_op, ↓any_call, ↓any_callV, ↓any_invoke, xo_t, xo_c, args_nil, args_cons, bin_add, bin_sub, bin_mul, bin_quo, bin_rem, bin_and, bin_or, bin_xor, bin_andNot, bin_eql, bin_neq, bin_lss, bin_leq, bin_gtr, bin_geq, bin_shl, bin_shr, bin_bools, bin_strs, bin_ptrs, bin_slices, bin_aggs, ↓Option.bind_some, ↓Option.map_some, ↓cond_true, ↓cond_false, evC, evOp, XO.lit, setArgs, Tr.tabG, Tr.tabS, Tr.tabL, Tr.get_lf, Option.bind_some, Option.map_some, cond_true, cond_false, maxI, maxFrom, minI, minFrom, aConv, aBinE, aEq, eqScal, aUn, evRes, fin, oneOf, if_true, if_false, callee, reduceCtorEq, Nat.reduceEqDiff, and_self, decide_true, decide_false, beq_true, beq_false, Bool.not_true, Bool.not_false, List.getElem?_cons_zero, List.getElem?_cons_succ, beq_self_eq_true, gt_iff_lt, ble_dec, beq_dec, List.head?_cons, AV.undef, eq_self, ne_eq, not_true_eq_false, not_false_eq_true, Int.reduceLT, Int.reduceLE, Int.reduceToNat, Int.reduceEq, Int.reduceNeg, Nat.reduceAdd, Nat.reduceLT, Nat.reduceLeDiff, Nat.reduceMul, Nat.reduceSub, q, h1]
  · rw [if_neg h1]
    by_cases h2 : b < a
    · rw [if_pos h2]
      simp -implicitDefEqProofs -dsimp (maxSteps := 10000000) only [af28, ops_nil, ops_some, ops_none, oper_none, oper_some, gd_tt, gd_ff, gd_tf, gd_ft, gd_undef, ↓any_op, ↓any_call, ↓any_callV, ↓any_invoke, xo_t, xo_c, args_nil, args_cons, bin_add, bin_sub, bin_mul, bin_quo, bin_rem, bin_and, bin_or, bin_xor, bin_andNot, bin_eql, bin_neq, bin_lss, bin_leq, bin_gtr, bin_geq, bin_shl, bin_shr, bin_bools, bin_strs, bin_ptrs, bin_slices, bin_aggs, ↓Option.bind_some, ↓Option.map_some, ↓cond_true, ↓cond_false, evC, evOp, XO.lit, setArgs, Tr.tabG, Tr.tabS, Tr.tabL, Tr.get_lf, Option.bind_some, Option.map_some, cond_true, cond_false, maxI, maxFrom, minI, minFrom, aConv, aBinE, aEq, eqScal, aUn, evRes, fin, oneOf, if_true, if_false, callee, reduceCtorEq, Nat.reduceEqDiff, and_self, decide_true, decide_false, beq_true, beq_false, Bool.not_true, Bool.not_false, List.getElem?_cons_zero, List.getElem?_cons_succ, beq_self_eq_true, gt_iff_lt, ble_dec, beq_dec, List.head?_cons, AV.undef, eq_self, ne_eq, not_true_eq_false, not_false_eq_true, Int.reduceLT, Int.reduceLE, Int.reduceToNat, Int.reduceEq, Int.reduceNeg, Nat.reduceAdd, Nat.reduceLT, Nat.reduceLeDiff, Nat.reduceMul, Nat.reduceSub, q, h1, h2]
    · rw [if_neg h2]
      simp -implicitDefEqProofs -dsimp (maxSteps := 10000000) only [af28, ops_nil, ops_some, ops_none, oper_none, oper_some, gd_tt, gd_ff, gd_tf, gd_ft, gd_undef, ↓any_op, ↓any_call, ↓any_callV, ↓any_invoke, xo_t, xo_c, args_nil, args_cons, bin_add, bin_sub, bin_mul, bin_quo, bin_rem, bin_and, bin_or, bin_xor, bin_andNot, bin_eql, bin_neq, bin_lss, bin_leq, bin_gtr, bin_geq, bin_shl, bin_shr, bin_bools, bin_strs, bin_ptrs, bin_slices, bin_aggs, ↓Option.bind_some, ↓Option.map_some, ↓cond_true, ↓cond_false, evC, evOp, XO.lit, setArgs, Tr.tabG, Tr.tabS, Tr.tabL, Tr.get_lf, Option.bind_some, Option.map_some, cond_true, cond_false, maxI, maxFrom, minI, minFrom, aConv, aBinE, aEq, eqScal, aUn, evRes, fin, oneOf, if_true, if_false, callee, reduceCtorEq, Nat.reduceEqDiff, and_self, decide_true, decide_false, beq_true, beq_false, Bool.not_true, Bool.not_false, List.getElem?_cons_zero, List.getElem?_cons_succ, beq_self_eq_true, gt_iff_lt, ble_dec, beq_dec, List.head?_cons, AV.undef, eq_self, ne_eq, not_true_eq_false, not_false_eq_true, Int.reduceLT, Int.reduceLE, Int.reduceToNat, Int.reduceEq, Int.reduceNeg, Nat.reduceAdd, Nat.reduceLT, Nat.reduceLeDiff, Nat.reduceMul, Nat.reduceSub, q, h1, h2]
theorem T26 {c : Ch} {oc og : Nat} {p : Int} (h : OkC c) (hl : oc < S.next) (hg : S.get oc = some (cI c.c0 c.c1)) (hp : p = -1 ∨ p = 0 ∨ p = 1 ∨ p = 2 ∨ p = 3) :
    ∃ S', evF Y AP (k + 1) 26 [.agg (ch3 c oc og), .int .i64 p] S = some (.bool (decide (p = 0 ∨ p = 1)), S') ∧ Ext S S' := by
  rw [evF_body (af := af26) rfl rfl rfl]
  obtain ⟨A, hA⟩ : ∃ A, S.alloc (.cells (ch3 c oc og) 0 0 true) = A := ⟨_, rfl⟩
  have eA : Ext S A := hA ▸ .alloc _ _
  have rA : ∀ v i n, A.rd S.next v i n = rdO (.cells (ch3 c oc og) 0 0 true) v i n := rd_of (by rw [← hA, St.get_alloc, if_pos rfl])
  have rC : ∀ v i n, A.rd oc v i n = rdO (cI c.c0 c.c1) v i n := rd_of (eA.get hl hg)
  have d0 := h.c0.1
  have d1 := h.c1.1
  unfold ch3 at hA rA
  refine ⟨A, ?_, eA⟩
  rcases hp with rfl | rfl | rfl | rfl | rfl
  · rw [show decide ((-1 : Int) = 0 ∨ (-1 : Int) = 1) = false from rfl]
    simp -implicitDefEqProofs -dsimp (maxSteps := 10000000) only [af26, ops_nil, ops_some, ops_none, oper_none, oper_some, gd_tt, gd_ff, gd_tf, gd_ft, gd_undef, ↓any_op, ↓any_call, ↓any_callV, ↓any_invoke, xo_t, xo_c, args_nil, args_cons, bin_add, bin_sub, bin_mul, bin_quo, bin_rem, bin_and, bin_or, bin_xor, bin_andNot, bin_eql, bin_neq, bin_lss, bin_leq, bin_gtr, bin_geq, bin_shl, bin_shr, bin_bools, bin_strs, bin_ptrs, bin_slices, bin_aggs, ↓Option.bind_some, ↓Option.map_some, ↓cond_true, ↓cond_false, evC, evOp, XO.lit, setArgs, Tr.tabG, Tr.tabS, Tr.tabL, Tr.get_lf, Option.bind_some, Option.map_some, cond_true, cond_false, maxI, maxFrom, minI, minFrom, aConv, aBinE, aEq, eqScal, aUn, evRes, fin, oneOf, if_true, if_false, callee, reduceCtorEq, Nat.reduceEqDiff, and_self, decide_true, decide_false, beq_true, beq_false, Bool.not_true, Bool.not_false, List.getElem?_cons_zero, List.getElem?_cons_succ, beq_self_eq_true, gt_iff_lt, ble_dec, beq_dec, List.head?_cons, AV.undef, eq_self, ne_eq, not_true_eq_false, not_false_eq_true, Int.reduceLT, Int.reduceLE, Int.reduceToNat, Int.reduceEq, Int.reduceNeg, Nat.reduceAdd, Nat.reduceLT, Nat.reduceLeDiff, Nat.reduceMul, Nat.reduceSub, AV.cells, AV.tup, Bool.true_and, true_and, and_true, List.drop_nil, List.append_nil, rd_put, rd_alloc, rdO, St.get_put, St.get_alloc, St.next_put, St.next_alloc, St.wr, Bool.and_self, Bool.and_true, List.length_cons, List.length_nil, List.take_succ_cons, List.take_zero, List.drop_succ_cons, List.drop_zero, List.cons_append, List.nil_append, Nat.zero_add, Nat.add_zero, Nat.reduceMul, aFill, evParts, rep, List.replicate_succ, List.replicate_zero, List.flatten_cons, List.flatten_nil, List.append_nil, newSl, newVar, ch3, hA, rA, rC, cI, c2n]
  · rw [show decide ((0 : Int) = 0 ∨ (0 : Int) = 1) = true from rfl]
    simp -implicitDefEqProofs -dsimp (maxSteps := 10000000) only [af26, ops_nil, ops_some, ops_none, oper_none, oper_some, gd_tt, gd_ff, gd_tf, gd_ft, gd_undef, ↓any_op, ↓any_call, ↓any_callV, ↓any_invoke, xo_t, xo_c, args_nil, args_cons, bin_add, bin_sub, bin_mul, bin_quo, bin_rem, bin_and, bin_or, bin_xor, bin_andNot, bin_eql, bin_neq, bin_lss, bin_leq, bin_gtr, bin_geq, bin_shl, bin_shr, bin_bools, bin_strs, bin_ptrs, bin_slices, bin_aggs, ↓Option.bind_some, ↓Option.map_some, ↓cond_true, ↓cond_false, evC, evOp, XO.lit, setArgs, Tr.tabG, Tr.tabS, Tr.tabL, Tr.get_lf, Option.bind_some, Option.map_some, cond_true, cond_false, maxI, maxFrom, minI, minFrom, aConv, aBinE, aEq, eqScal, aUn, evRes, fin, oneOf, if_true, if_false, callee, reduceCtorEq, Nat.reduceEqDiff, and_self, decide_true, decide_false, beq_true, beq_false, Bool.not_true, Bool.not_false, List.getElem?_cons_zero, List.getElem?_cons_succ, beq_self_eq_true, gt_iff_lt, ble_dec, beq_dec, List.head?_cons, AV.undef, eq_self, ne_eq, not_true_eq_false, not_false_eq_true, Int.reduceLT, Int.reduceLE, Int.reduceToNat, Int.reduceEq, Int.reduceNeg, Nat.reduceAdd, Nat.reduceLT, Nat.reduceLeDiff, Nat.reduceMul, Nat.reduceSub, AV.cells, AV.tup, Bool.true_and, true_and, and_true, List.drop_nil, List.append_nil, rd_put, rd_alloc, rdO, St.get_put, St.get_alloc, St.next_put, St.next_alloc, St.wr, Bool.and_self, Bool.and_true, List.length_cons, List.length_nil, List.take_succ_cons, List.take_zero, List.drop_succ_cons, List.drop_zero, List.cons_append, List.nil_append, Nat.zero_add, Nat.add_zero, Nat.reduceMul, aFill, evParts, rep, List.replicate_succ, List.replicate_zero, List.flatten_cons, List.flatten_nil, List.append_nil, newSl, newVar, ch3, hA, rA, rC, cI, c2n, d0, ixOf]
  · rw [show decide ((1 : Int) = 0 ∨ (1 : Int) = 1) = true from rfl]
    simp -implicitDefEqProofs -dsimp (maxSteps := 10000000) only [af26, ops_nil, ops_some, ops_none, oper_none, oper_some, gd_tt, gd_ff, gd_tf, gd_ft, gd_undef, ↓any_op, ↓any_call, ↓any_callV, ↓any_invoke, xo_t, xo_c, args_nil, args_cons, bin_add, bin_sub, bin_mul, bin_quo, bin_rem, bin_and, bin_or, bin_xor, bin_andNot, bin_eql, bin_neq, bin_lss, bin_leq, bin_gtr, bin_geq, bin_shl, bin_shr, bin_bools, bin_strs, bin_ptrs, bin_slices, bin_aggs, ↓Option.bind_some, ↓Option.map_some, ↓cond_true, ↓cond_false, evC, evOp, XO.lit, setArgs, Tr.tabG, Tr.tabS, Tr.tabL, Tr.get_lf, Option.bind_some, Option.map_some, cond_true, cond_false, maxI, maxFrom, minI, minFrom, aConv, aBinE, aEq, eqScal, aUn, evRes, fin, oneOf, if_true, if_false, callee, reduceCtorEq, Nat.reduceEqDiff, and_self, decide_true, decide_false, beq_true, beq_false, Bool.not_true, Bool.not_false, List.getElem?_cons_zero, List.getElem?_cons_succ, beq_self_eq_true, gt_iff_lt, ble_dec, beq_dec, List.head?_cons, AV.undef, eq_self, ne_eq, not_true_eq_false, not_false_eq_true, Int.reduceLT, Int.reduceLE, Int.reduceToNat, Int.reduceEq, Int.reduceNeg, Nat.reduceAdd, Nat.reduceLT, Nat.reduceLeDiff, Nat.reduceMul, Nat.reduceSub, AV.cells, AV.tup, Bool.true_and, true_and, and_true, List.drop_nil, List.append_nil, rd_put, rd_alloc, rdO, St.get_put, St.get_alloc, St.next_put, St.next_alloc, St.wr, Bool.and_self, Bool.and_true, List.length_cons, List.length_nil, List.take_succ_cons, List.take_zero, List.drop_succ_cons, List.drop_zero, List.cons_append, List.nil_append, Nat.zero_add, Nat.add_zero, Nat.reduceMul, aFill, evParts, rep, List.replicate_succ, List.replicate_zero, List.flatten_cons, List.flatten_nil, List.append_nil, newSl, newVar, ch3, hA, rA, rC, cI, c2n, d1, ixOf]
  · rw [show decide ((2 : Int) = 0 ∨ (2 : Int) = 1) = false from rfl]
    simp -implicitDefEqProofs -dsimp (maxSteps := 10000000) only [af26, ops_nil, ops_some, ops_none, oper_none, oper_some, gd_tt, gd_ff, gd_tf, gd_ft, gd_undef, ↓any_op, ↓any_call, ↓any_callV, ↓any_invoke, xo_t, xo_c, args_nil, args_cons, bin_add, bin_sub, bin_mul, bin_quo, bin_rem, bin_and, bin_or, bin_xor, bin_andNot, bin_eql, bin_neq, bin_lss, bin_leq, bin_gtr, bin_geq, bin_shl, bin_shr, bin_bools, bin_strs, bin_ptrs, bin_slices, bin_aggs, ↓Option.bind_some, ↓Option.map_some, ↓cond_true, ↓cond_false, evC, evOp, XO.lit, setArgs, Tr.tabG, Tr.tabS, Tr.tabL, Tr.get_lf, Option.bind_some, Option.map_some, cond_true, cond_false, maxI, maxFrom, minI, minFrom, aConv, aBinE, aEq, eqScal, aUn, evRes, fin, oneOf, if_true, if_false, callee, reduceCtorEq, Nat.reduceEqDiff, and_self, decide_true, decide_false, beq_true, beq_false, Bool.not_true, Bool.not_false, List.getElem?_cons_zero, List.getElem?_cons_succ, beq_self_eq_true, gt_iff_lt, ble_dec, beq_dec, List.head?_cons, AV.undef, eq_self, ne_eq, not_true_eq_false, not_false_eq_true, Int.reduceLT, Int.reduceLE, Int.reduceToNat, Int.reduceEq, Int.reduceNeg, Nat.reduceAdd, Nat.reduceLT, Nat.reduceLeDiff, Nat.reduceMul, Nat.reduceSub, AV.cells, AV.tup, Bool.true_and, true_and, and_true, List.drop_nil, List.append_nil, rd_put, rd_alloc, rdO, St.get_put, St.get_alloc, St.next_put, St.next_alloc, St.wr, Bool.and_self, Bool.and_true, List.length_cons, List.length_nil, List.take_succ_cons, List.take_zero, List.drop_succ_cons, List.drop_zero, List.cons_append, List.nil_append, Nat.zero_add, Nat.add_zero, Nat.reduceMul, aFill, evParts, rep, List.replicate_succ, List.replicate_zero, List.flatten_cons, List.flatten_nil, List.append_nil, newSl, newVar, ch3, hA, rA, rC, cI, c2n]
  · rw [show decide ((3 : Int) = 0 ∨ (3 : Int) = 1) = false from rfl]
    simp -implicitDefEqProofs -dsimp (maxSteps := 10000000) only [af26, ops_nil, ops_some, ops_none, oper_none, oper_some, gd_tt, gd_ff, gd_tf, gd_ft, gd_undef, ↓any_op, ↓any_call, ↓any_callV, ↓any_invoke, xo_t, xo_c, args_nil, args_cons, bin_add, bin_sub, bin_mul, bin_quo, bin_rem, bin_and, bin_or, bin_xor, bin_andNot, bin_eql, bin_neq, bin_lss, bin_leq, bin_gtr, bin_geq, bin_shl, bin_shr, bin_bools, bin_strs, bin_ptrs, bin_slices, bin_aggs, ↓Option.bind_some, ↓Option.map_some, ↓cond_true, ↓cond_false, evC, evOp, XO.lit, setArgs, Tr.tabG, Tr.tabS, Tr.tabL, Tr.get_lf, Option.bind_some, Option.map_some, cond_true, cond_false, maxI, maxFrom, minI, minFrom, aConv, aBinE, aEq, eqScal, aUn, evRes, fin, oneOf, if_true, if_false, callee, reduceCtorEq, Nat.reduceEqDiff, and_self, decide_true, decide_false, beq_true, beq_false, Bool.not_true, Bool.not_false, List.getElem?_cons_zero, List.getElem?_cons_succ, beq_self_eq_true, gt_iff_lt, ble_dec, beq_dec, List.head?_cons, AV.undef, eq_self, ne_eq, not_true_eq_false, not_false_eq_true, Int.reduceLT, Int.reduceLE, Int.reduceToNat, Int.reduceEq, Int.reduceNeg, Nat.reduceAdd, Nat.reduceLT, Nat.reduceLeDiff, Nat.reduceMul, Nat.reduceSub, AV.cells, AV.tup, Bool.true_and, true_and, and_true, List.drop_nil, List.append_nil, rd_put, rd_alloc, rdO, St.get_put, St.get_alloc, St.next_put, St.next_alloc, St.wr, Bool.and_self, Bool.and_true, List.length_cons, List.length_nil, List.take_succ_cons, List.take_zero, List.drop_succ_cons, List.drop_zero, List.cons_append, List.nil_append, Nat.zero_add, Nat.add_zero, Nat.reduceMul, aFill, evParts, rep, List.replicate_succ, List.replicate_zero, List.flatten_cons, List.flatten_nil, List.append_nil, newSl, newVar, ch3, hA, rA, rC, cI, c2n]
theorem T17 {c : Ch} {oc og : Nat} {p : Int} (h : OkC c) (hl : oc < S.next) (hg : S.get oc = some (cI c.c0 c.c1)) (hp : p = -1 ∨ p = 0 ∨ p = 1 ∨ p = 2 ∨ p = 3) :
    ∃ S', evF Y AP (k + 2) 17 [.agg (ch3 c oc og), .int .i64 p] S = some (.bool (decide (p = -1 ∨ p = 0 ∨ p = 1)), S') ∧ Ext S S' := by
  rw [evF_body (af := af17) rfl rfl rfl]
  obtain ⟨A, hA⟩ : ∃ A, S.alloc (.cells (ch3 c oc og) 0 0 true) = A := ⟨_, rfl⟩
  have eA : Ext S A := hA ▸ .alloc _ _
  have nA : A.next = S.next + 1 := by rw [← hA]; rfl
  have gA : A.get S.next = some (.cells (ch3 c oc og) 0 0 true) := by rw [← hA, St.get_alloc, if_pos rfl]
  have rA : ∀ v i n, A.rd S.next v i n = rdO (.cells (ch3 c oc og) 0 0 true) v i n := rd_of gA
  obtain ⟨S1, q, x1⟩ := T26 k (S := A) (og := og) h (by omega) (eA.get hl hg) hp
  have r1 : ∀ v i n, S1.rd S.next v i n = rdO (.cells (ch3 c oc og) 0 0 true) v i n := rd_of (x1.get (by omega) gA)
  have s0 : 0 ≤ c.s := by rcases h.s with e | e <;> omega
  have s4 : c.s < 4 := by rcases h.s with e | e <;> omega
  unfold ch3 at hA rA r1 q
  rcases hp with rfl | rfl | rfl | rfl | rfl
  · refine ⟨A, ?_, eA⟩
    rw [show decide ((-1 : Int) = -1 ∨ (-1 : Int) = 0 ∨ (-1 : Int) = 1) = true from rfl]
    simp -implicitDefEqProofs -dsimp (maxSteps := 10000000) only [af17, ops_nil, ops_some, ops_none, oper_none, oper_some, gd_tt, gd_ff, gd_tf, gd_ft, gd_undef, ↓any_op, ↓any_call, ↓any_callV, ↓any_invoke, xo_t, xo_c, args_nil, args_cons, bin_add, bin_sub, bin_mul, bin_quo, bin_rem, bin_and, bin_or, bin_xor, bin_andNot, bin_eql, bin_neq, bin_lss, bin_leq, bin_gtr, bin_geq, bin_shl, bin_shr, bin_bools, bin_strs, bin_ptrs, bin_slices, bin_aggs, ↓Option.bind_some, ↓Option.map_some, ↓cond_true, ↓cond_false, evC, evOp, XO.lit, setArgs, Tr.tabG, Tr.tabS, Tr.tabL, Tr.get_lf, Option.bind_some, Option.map_some, cond_true, cond_false, maxI, maxFrom, minI, minFrom, aConv, aBinE, aEq, eqScal, aUn, evRes, fin, oneOf, if_true, if_false, callee, reduceCtorEq, Nat.reduceEqDiff, and_self, decide_true, decide_false, beq_true, beq_false, Bool.not_true, Bool.not_false, List.getElem?_cons_zero, List.getElem?_cons_succ, beq_self_eq_true, gt_iff_lt, ble_dec, beq_dec, List.head?_cons, AV.undef, eq_self, ne_eq, not_true_eq_false, not_false_eq_true, Int.reduceLT, Int.reduceLE, Int.reduceToNat, Int.reduceEq, Int.reduceNeg, Nat.reduceAdd, Nat.reduceLT, Nat.reduceLeDiff, Nat.reduceMul, Nat.reduceSub, AV.cells, AV.tup, Bool.true_and, true_and, and_true, List.drop_nil, List.append_nil, rd_put, rd_alloc, rdO, St.get_put, St.get_alloc, St.next_put, St.next_alloc, St.wr, Bool.and_self, Bool.and_true, List.length_cons, List.length_nil, List.take_succ_cons, List.take_zero, List.drop_succ_cons, List.drop_zero, List.cons_append, List.nil_append, Nat.zero_add, Nat.add_zero, Nat.reduceMul, aFill, evParts, rep, List.replicate_succ, List.replicate_zero, List.flatten_cons, List.flatten_nil, List.append_nil, newSl, newVar, ch3, hA, rA]
  · refine ⟨S1, ?_, eA.trans x1⟩
    rw [show decide ((0 : Int) = 0 ∨ (0 : Int) = 1) = true from rfl] at q
    rw [show decide ((0 : Int) = -1 ∨ (0 : Int) = 0 ∨ (0 : Int) = 1) = true from rfl]
    simp -implicitDefEqProofs -dsimp (maxSteps := 10000000) only [af17, ops_nil, ops_some, ops_none, oper_none, oper_some, gd_tt, gd_ff, gd_tf, gd_ft, gd_undef, ↓any_op, ↓any_call, ↓any_callV, ↓any_invoke, xo_t, xo_c, args_nil, args_cons, bin_add, bin_sub, bin_mul, bin_quo, bin_rem, bin_and, bin_or, bin_xor, bin_andNot, bin_eql, bin_neq, bin_lss, bin_leq, bin_gtr, bin_geq, bin_shl, bin_shr, bin_bools, bin_strs, bin_ptrs, bin_slices, bin_aggs, ↓Option.bind_some, ↓Option.map_some, ↓cond_true, ↓cond_false, evC, evOp, XO.lit, setArgs, Tr.tabG, Tr.tabS, Tr.tabL, Tr.get_lf, Option.bind_some, Option.map_some, cond_true, cond_false, maxI, maxFrom, minI, minFrom, aConv, aBinE, aEq, eqScal, aUn, evRes, fin, oneOf, if_true, if_false, callee, reduceCtorEq, Nat.reduceEqDiff, and_self, decide_true, decide_false, beq_true, beq_false, Bool.not_true, Bool.not_false, List.getElem?_cons_zero, List.getElem?_cons_succ, beq_self_eq_true, gt_iff_lt, ble_dec, beq_dec, List.head?_cons, AV.undef, eq_self, ne_eq, not_true_eq_false, not_false_eq_true, Int.reduceLT, Int.reduceLE, Int.reduceToNat, Int.reduceEq, Int.reduceNeg, Nat.reduceAdd, Nat.reduceLT, Nat.reduceLeDiff, Nat.reduceMul, Nat.reduceSub, AV.cells, AV.tup, Bool.true_and, true_and, and_true, List.drop_nil, List.append_nil, rd_put, rd_alloc, rdO, St.get_put, St.get_alloc, St.next_put, St.next_alloc, St.wr, Bool.and_self, Bool.and_true, List.length_cons, List.length_nil, List.take_succ_cons, List.take_zero, List.drop_succ_cons, List.drop_zero, List.cons_append, List.nil_append, Nat.zero_add, Nat.add_zero, Nat.reduceMul, aFill, evParts, rep, List.replicate_succ, List.replicate_zero, List.flatten_cons, List.flatten_nil, List.append_nil, newSl, newVar, ch3, hA, rA, q, r1, s0, s4, c2n]
  · refine ⟨S1, ?_, eA.trans x1⟩
    rw [show decide ((1 : Int) = 0 ∨ (1 : Int) = 1) = true from rfl] at q
    rw [show decide ((1 : Int) = -1 ∨ (1 : Int) = 0 ∨ (1 : Int) = 1) = true from rfl]
    simp -implicitDefEqProofs -dsimp (maxSteps := 10000000) only [af17, ops_nil, ops_some, ops_none, oper_none, oper_some, gd_tt, gd_ff, gd_tf, gd_ft, gd_undef, ↓any_op, ↓any_call, ↓any_callV, ↓any_invoke, xo_t, xo_c, args_nil, args_cons, bin_add, bin_sub, bin_mul, bin_quo, bin_rem, bin_and, bin_or, bin_xor, bin_andNot, bin_eql, bin_neq, bin_lss, bin_leq, bin_gtr, bin_geq, bin_shl, bin_shr, bin_bools, bin_strs, bin_ptrs, bin_slices, bin_aggs, ↓Option.bind_some, ↓Option.map_some, ↓cond_true, ↓cond_false, evC, evOp, XO.lit, setArgs, Tr.tabG, Tr.tabS, Tr.tabL, Tr.get_lf, Option.bind_some, Option.map_some, cond_true, cond_false, maxI, maxFrom, minI, minFrom, aConv, aBinE, aEq, eqScal, aUn, evRes, fin, oneOf, if_true, if_false, callee, reduceCtorEq, Nat.reduceEqDiff, and_self, decide_true, decide_false, beq_true, beq_false, Bool.not_true, Bool.not_false, List.getElem?_cons_zero, List.getElem?_cons_succ, beq_self_eq_true, gt_iff_lt, ble_dec, beq_dec, List.head?_cons, AV.undef, eq_self, ne_eq, not_true_eq_false, not_false_eq_true, Int.reduceLT, Int.reduceLE, Int.reduceToNat, Int.reduceEq, Int.reduceNeg, Nat.reduceAdd, Nat.reduceLT, Nat.reduceLeDiff, Nat.reduceMul, Nat.reduceSub, AV.cells, AV.tup, Bool.true_and, true_and, and_true, List.drop_nil, List.append_nil, rd_put, rd_alloc, rdO, St.get_put, St.get_alloc, St.next_put, St.next_alloc, St.wr, Bool.and_self, Bool.and_true, List.length_cons, List.length_nil, List.take_succ_cons, List.take_zero, List.drop_succ_cons, List.drop_zero, List.cons_append, List.nil_append, Nat.zero_add, Nat.add_zero, Nat.reduceMul, aFill, evParts, rep, List.replicate_succ, List.replicate_zero, List.flatten_cons, List.flatten_nil, List.append_nil, newSl, newVar, ch3, hA, rA, q, r1, s0, s4, c2n]
  · refine ⟨S1, ?_, eA.trans x1⟩
    rw [show decide ((2 : Int) = 0 ∨ (2 : Int) = 1) = false from rfl] at q
    rw [show decide ((2 : Int) = -1 ∨ (2 : Int) = 0 ∨ (2 : Int) = 1) = false from rfl]
    simp -implicitDefEqProofs -dsimp (maxSteps := 10000000) only [af17, ops_nil, ops_some, ops_none, oper_none, oper_some, gd_tt, gd_ff, gd_tf, gd_ft, gd_undef, ↓any_op, ↓any_call, ↓any_callV, ↓any_invoke, xo_t, xo_c, args_nil, args_cons, bin_add, bin_sub, bin_mul, bin_quo, bin_rem, bin_and, bin_or, bin_xor, bin_andNot, bin_eql, bin_neq, bin_lss, bin_leq, bin_gtr, bin_geq, bin_shl, bin_shr, bin_bools, bin_strs, bin_ptrs, bin_slices, bin_aggs, ↓Option.bind_some, ↓Option.map_some, ↓cond_true, ↓cond_false, evC, evOp, XO.lit, setArgs, Tr.tabG, Tr.tabS, Tr.tabL, Tr.get_lf, Option.bind_some, Option.map_some, cond_true, cond_false, maxI, maxFrom, minI, minFrom, aConv, aBinE, aEq, eqScal, aUn, evRes, fin, oneOf, if_true, if_false, callee, reduceCtorEq, Nat.reduceEqDiff, and_self, decide_true, decide_false, beq_true, beq_false, Bool.not_true, Bool.not_false, List.getElem?_cons_zero, List.getElem?_cons_succ, beq_self_eq_true, gt_iff_lt, ble_dec, beq_dec, List.head?_cons, AV.undef, eq_self, ne_eq, not_true_eq_false, not_false_eq_true, Int.reduceLT, Int.reduceLE, Int.reduceToNat, Int.reduceEq, Int.reduceNeg, Nat.reduceAdd, Nat.reduceLT, Nat.reduceLeDiff, Nat.reduceMul, Nat.reduceSub, AV.cells, AV.tup, Bool.true_and, true_and, and_true, List.drop_nil, List.append_nil, rd_put, rd_alloc, rdO, St.get_put, St.get_alloc, St.next_put, St.next_alloc, St.wr, Bool.and_self, Bool.and_true, List.length_cons, List.length_nil, List.take_succ_cons, List.take_zero, List.drop_succ_cons, List.drop_zero, List.cons_append, List.nil_append, Nat.zero_add, Nat.add_zero, Nat.reduceMul, aFill, evParts, rep, List.replicate_succ, List.replicate_zero, List.flatten_cons, List.flatten_nil, List.append_nil, newSl, newVar, ch3, hA, rA, q]
  · refine ⟨S1, ?_, eA.trans x1⟩
    rw [show decide ((3 : Int) = 0 ∨ (3 : Int) = 1) = false from rfl] at q
    rw [show decide ((3 : Int) = -1 ∨ (3 : Int) = 0 ∨ (3 : Int) = 1) = false from rfl]
    simp -implicitDefEqProofs -dsimp (maxSteps := 10000000) only [af17, ops_nil, ops_some, ops_none, oper_none, oper_some, gd_tt, gd_ff, gd_tf, gd_ft, gd_undef, ↓any_op, ↓any_call, ↓any_callV, ↓any_invoke, xo_t, xo_c, args_nil, args_cons, bin_add, bin_sub, bin_mul, bin_quo, bin_rem, bin_and, bin_or, bin_xor, bin_andNot, bin_eql, bin_neq, bin_lss, bin_leq, bin_gtr, bin_geq, bin_shl, bin_shr, bin_bools, bin_strs, bin_ptrs, bin_slices, bin_aggs, ↓Option.bind_some, ↓Option.map_some, ↓cond_true, ↓cond_false, evC, evOp, XO.lit, setArgs, Tr.tabG, Tr.tabS, Tr.tabL, Tr.get_lf, Option.bind_some, Option.map_some, cond_true, cond_false, maxI, maxFrom, minI, minFrom, aConv, aBinE, aEq, eqScal, aUn, evRes, fin, oneOf, if_true, if_false, callee, reduceCtorEq, Nat.reduceEqDiff, and_self, decide_true, decide_false, beq_true, beq_false, Bool.not_true, Bool.not_false, List.getElem?_cons_zero, List.getElem?_cons_succ, beq_self_eq_true, gt_iff_lt, ble_dec, beq_dec, List.head?_cons, AV.undef, eq_self, ne_eq, not_true_eq_false, not_false_eq_true, Int.reduceLT, Int.reduceLE, Int.reduceToNat, Int.reduceEq, Int.reduceNeg, Nat.reduceAdd, Nat.reduceLT, Nat.reduceLeDiff, Nat.reduceMul, Nat.reduceSub, AV.cells, AV.tup, Bool.true_and, true_and, and_true, List.drop_nil, List.append_nil, rd_put, rd_alloc, rdO, St.get_put, St.get_alloc, St.next_put, St.next_alloc, St.wr, Bool.and_self, Bool.and_true, List.length_cons, List.length_nil, List.take_succ_cons, List.take_zero, List.drop_succ_cons, List.drop_zero, List.cons_append, List.nil_append, Nat.zero_add, Nat.add_zero, Nat.reduceMul, aFill, evParts, rep, List.replicate_succ, List.replicate_zero, List.flatten_cons, List.flatten_nil, List.append_nil, newSl, newVar, ch3, hA, rA, q]
/-! ### Rows of four -/
def r4 (a : Int × Int) : List AV := [.int .i64 a.1, .int .i64 a.2, .int .i64 0, .int .i64 0]
def cmp4 (a b : Int × Int) : Int := if a.1 = b.1 then cmpI a.2 b.2 else cmpI a.1 b.1
theorem cmp4_pos (a b : Int × Int) : decide (0 < cmp4 a b) = bet a b := by
  rw [Bool.eq_iff_iff]
  simp only [decide_eq_true_eq, bet, Bool.or_eq_true, Bool.and_eq_true]
  unfold cmp4 cmpI
  by_cases h1 : a.1 = b.1
  · rw [if_pos h1]
    by_cases h2 : a.2 < b.2
    · rw [if_pos h2]; constructor <;> intro h <;> omega
    · rw [if_neg h2]
      by_cases h3 : b.2 < a.2
      · rw [if_pos h3]; constructor <;> intro h <;> omega
      · rw [if_neg h3]; constructor <;> intro h <;> omega
  · rw [if_neg h1]
    by_cases h2 : a.1 < b.1
    · rw [if_pos h2]; constructor <;> intro h <;> omega
    · rw [if_neg h2, if_pos (by omega)]; constructor <;> intro h <;> omega
theorem T18 {a b : Int × Int} {oa ob : Nat} (ga : S.get oa = some (.cells (r4 a) 0 0 true)) (gb : S.get ob = some (.cells (r4 b) 0 0 true)) :
    evF Y AP (k + 8) 18 [.slice (some (oa, 0, 0)) 4 1 (some 4), .slice (some (ob, 0, 0)) 4 1 (some 4)] S = some (.int .i64 (cmp4 a b), S) := by
  rw [evF_body (af := af18) rfl rfl rfl]
  have ra : ∀ v i n, S.rd oa v i n = rdO (.cells (r4 a) 0 0 true) v i n := rd_of ga
  have rb : ∀ v i n, S.rd ob v i n = rdO (.cells (r4 b) 0 0 true) v i n := rd_of gb
  have q : ∀ a b, evF Y AP (k + 7) 28 [.int .i64 a, .int .i64 b] S = some (.int .i64 (cmpI a b), S) := fun a b => T28 (k + 5)
  have z : cmpI 0 0 = 0 := rfl
  have c4n : ((4 : Nat) : Int) = 4 := rfl
  unfold r4 at ra rb
  obtain ⟨x, hx⟩ : ∃ x, cmpI a.1 b.1 = x := ⟨_, rfl⟩
  obtain ⟨y, hy⟩ : ∃ y, cmpI a.2 b.2 = y := ⟨_, rfl⟩
  unfold cmp4
  have ne : ¬ a.1 = b.1 → ¬ x = 0 := by
    intro h e
    rw [← hx] at e
    unfold cmpI at e
    split at e
    · cases e
    · split at e
      · cases e
      · omega
  have eq : a.1 = b.1 → x = 0 := by intro h; rw [← hx, h]; unfold cmpI; simp
  have v0 : IntKind.i64.wrap ((0 : Int) + 1) = 1 := rfl
  have v1 : IntKind.i64.wrap ((1 : Int) + 1) = 2 := rfl
  have v2 : IntKind.i64.wrap ((2 : Int) + 1) = 3 := rfl
  have v3 : IntKind.i64.wrap ((3 : Int) + 1) = 4 := rfl
  by_cases h1 : a.1 = b.1
  · have x0 := eq h1
    rw [if_pos h1, hy]
    by_cases h2 : y = 0
    · simp -implicitDefEqProofs -dsimp (maxSteps := 10000000) only [af18, af18_l0, ops_nil, ops_some, ops_none, oper_none, oper_some, gd_tt, gd_ff, gd_tf, gd_ft, gd_undef, ↓any_op, ↓any_call, ↓any_callV, ↓any_invoke, xo_t, xo_c, args_nil, args_cons, bin_add, bin_sub, bin_mul, bin_quo, bin_rem, bin_and, bin_or, bin_xor, bin_andNot, bin_eql, bin_neq, bin_lss, bin_leq, bin_gtr, bin_geq, bin_shl, bin_shr, bin_bools, bin_strs, bin_ptrs, bin_slices, bin_aggs, ↓Option.bind_some, ↓Option.map_some, ↓cond_true, ↓cond_false, evC, evOp, XO.lit, setArgs, Tr.tabG, Tr.tabS, Tr.tabL, Tr.get_lf, Option.bind_some, Option.map_some, cond_true, cond_false, maxI, maxFrom, minI, minFrom, aConv, aBinE, aEq, eqScal, aUn, evRes, fin, oneOf, if_true, if_false, callee, reduceCtorEq, Nat.reduceEqDiff, and_self, decide_true, decide_false, beq_true, beq_false, Bool.not_true, Bool.not_false, List.getElem?_cons_zero, List.getElem?_cons_succ, beq_self_eq_true, gt_iff_lt, ble_dec, beq_dec, List.head?_cons, AV.undef, eq_self, ne_eq, not_true_eq_false, not_false_eq_true, Int.reduceLT, Int.reduceLE, Int.reduceToNat, Int.reduceEq, Int.reduceNeg, Nat.reduceAdd, Nat.reduceLT, Nat.reduceLeDiff, Nat.reduceMul, Nat.reduceSub, AV.cells, AV.tup, Bool.true_and, true_and, and_true, List.drop_nil, List.append_nil, rd_put, rd_alloc, rdO, St.get_put, St.get_alloc, St.next_put, St.next_alloc, St.wr, Bool.and_self, Bool.and_true, List.length_cons, List.length_nil, List.take_succ_cons, List.take_zero, List.drop_succ_cons, List.drop_zero, List.cons_append, List.nil_append, Nat.zero_add, Nat.add_zero, Nat.reduceMul, iter, ra, rb, q, hx, hy, x0, h2, z, c4n, v0, v1, v2, v3, ixOf]
    · simp -implicitDefEqProofs -dsimp (maxSteps := 10000000) only [af18, af18_l0, ops_nil, ops_some, ops_none, oper_none, oper_some, gd_tt, gd_ff, gd_tf, gd_ft, gd_undef, ↓any_op, ↓any_call, ↓any_callV, ↓any_invoke, xo_t, xo_c, args_nil, args_cons, bin_add, bin_sub, bin_mul, bin_quo, bin_rem, bin_and, bin_or, bin_xor, bin_andNot, bin_eql, bin_neq, bin_lss, bin_leq, bin_gtr, bin_geq, bin_shl, bin_shr, bin_bools, bin_strs, bin_ptrs, bin_slices, bin_aggs, ↓Option.bind_some, ↓Option.map_some, ↓cond_true, ↓cond_false, evC, evOp, XO.lit, setArgs, Tr.tabG, Tr.tabS, Tr.tabL, Tr.get_lf, Option.bind_some, Option.map_some, cond_true, cond_false, maxI, maxFrom, minI, minFrom, aConv, aBinE, aEq, eqScal, aUn, evRes, fin, oneOf, if_true, if_false, callee, reduceCtorEq, Nat.reduceEqDiff, and_self, decide_true, decide_false, beq_true, beq_false, Bool.not_true, Bool.not_false, List.getElem?_cons_zero, List.getElem?_cons_succ, beq_self_eq_true, gt_iff_lt, ble_dec, beq_dec, List.head?_cons, AV.undef, eq_self, ne_eq, not_true_eq_false, not_false_eq_true, Int.reduceLT, Int.reduceLE, Int.reduceToNat, Int.reduceEq, Int.reduceNeg, Nat.reduceAdd, Nat.reduceLT, Nat.reduceLeDiff, Nat.reduceMul, Nat.reduceSub, AV.cells, AV.tup, Bool.true_and, true_and, and_true, List.drop_nil, List.append_nil, rd_put, rd_alloc, rdO, St.get_put, St.get_alloc, St.next_put, St.next_alloc, St.wr, Bool.and_self, Bool.and_true, List.length_cons, List.length_nil, List.take_succ_cons, List.take_zero, List.drop_succ_cons, List.drop_zero, List.cons_append, List.nil_append, Nat.zero_add, Nat.add_zero, Nat.reduceMul, iter, ra, rb, q, hx, hy, x0, h2, z, c4n, v0, v1, v2, v3, ixOf]
  · have x0 := ne h1
    rw [if_neg h1, hx]
    simp -implicitDefEqProofs -dsimp (maxSteps := 10000000) only [af18, af18_l0, ops_nil, ops_some, ops_none, oper_none, oper_some, gd_tt, gd_ff, gd_tf, gd_ft, gd_undef, ↓any_op, ↓any_call, ↓any_callV, ↓any_invoke, xo_t, xo_c, args_nil, args_cons, bin_add, bin_sub, bin_mul, bin_quo, bin_rem, bin_and, bin_or, bin_xor, bin_andNot, bin_eql, bin_neq, bin_lss, bin_leq, bin_gtr, bin_geq, bin_shl, bin_shr, bin_bools, bin_strs, bin_ptrs, bin_slices, bin_aggs, ↓Option.bind_some, ↓Option.map_some, ↓cond_true, ↓cond_false, evC, evOp, XO.lit, setArgs, Tr.tabG, Tr.tabS, Tr.tabL, Tr.get_lf, Option.bind_some, Option.map_some, cond_true, cond_false, maxI, maxFrom, minI, minFrom, aConv, aBinE, aEq, eqScal, aUn, evRes, fin, oneOf, if_true, if_false, callee, reduceCtorEq, Nat.reduceEqDiff, and_self, decide_true, decide_false, beq_true, beq_false, Bool.not_true, Bool.not_false, List.getElem?_cons_zero, List.getElem?_cons_succ, beq_self_eq_true, gt_iff_lt, ble_dec, beq_dec, List.head?_cons, AV.undef, eq_self, ne_eq, not_true_eq_false, not_false_eq_true, Int.reduceLT, Int.reduceLE, Int.reduceToNat, Int.reduceEq, Int.reduceNeg, Nat.reduceAdd, Nat.reduceLT, Nat.reduceLeDiff, Nat.reduceMul, Nat.reduceSub, AV.cells, AV.tup, Bool.true_and, true_and, and_true, List.drop_nil, List.append_nil, rd_put, rd_alloc, rdO, St.get_put, St.get_alloc, St.next_put, St.next_alloc, St.wr, Bool.and_self, Bool.and_true, List.length_cons, List.length_nil, List.take_succ_cons, List.take_zero, List.drop_succ_cons, List.drop_zero, List.cons_append, List.nil_append, Nat.zero_add, Nat.add_zero, Nat.reduceMul, iter, ra, rb, q, hx, hy, x0, z, c4n, v0, v1, v2, v3, ixOf]
theorem any_cutArr {call : Nat → List AV → St → Option (AV × St)} {n e : Nat} {x : XO} {lo hi : Option XO} {T : Tm} : evAny call (.cutArr n e x lo hi) T S = evOp (.cutArr n e x lo hi) T S := rfl
theorem T7 {a b : Int × Int} : ∃ S', evF Y AP (k + 9) 7 [.agg (r4 a), .agg (r4 b)] S = some (.bool (bet a b), S') ∧ Ext S S' := by
  rw [evF_body (af := af7) rfl rfl rfl]
  obtain ⟨A, hA⟩ : ∃ A, S.alloc (.cells (r4 a) 0 0 true) = A := ⟨_, rfl⟩
  have eA : Ext S A := hA ▸ .alloc _ _
  have nA : A.next = S.next + 1 := by rw [← hA]; rfl
  obtain ⟨B, hB⟩ : ∃ B, A.alloc (.cells (r4 b) 0 0 true) = B := ⟨_, rfl⟩
  have eB : Ext A B := hB ▸ .alloc _ _
  have ga : B.get S.next = some (.cells (r4 a) 0 0 true) := eB.get (by omega) (by rw [← hA, St.get_alloc, if_pos rfl])
  have gb : B.get A.next = some (.cells (r4 b) 0 0 true) := by rw [← hB, St.get_alloc, if_pos rfl]
  have ra : ∀ v i n, B.rd S.next v i n = rdO (.cells (r4 a) 0 0 true) v i n := rd_of ga
  have rb : ∀ v i n, B.rd A.next v i n = rdO (.cells (r4 b) 0 0 true) v i n := rd_of gb
  have q := T18 k ga gb
  have hp := cmp4_pos a b
  refine ⟨B, ?_, eA.trans eB⟩
  rw [← hp]
  unfold r4 at hA hB ra rb
  simp -implicitDefEqProofs -dsimp (maxSteps := 10000000) only [af7, ops_nil, ops_some, ops_none, oper_none, oper_some, gd_tt, gd_ff, gd_tf, gd_ft, gd_undef, ↓any_op, ↓any_call, ↓any_callV, ↓any_invoke, xo_t, xo_c, args_nil, args_cons, bin_add, bin_sub, bin_mul, bin_quo, bin_rem, bin_and, bin_or, bin_xor, bin_andNot, bin_eql, bin_neq, bin_lss, bin_leq, bin_gtr, bin_geq, bin_shl, bin_shr, bin_bools, bin_strs, bin_ptrs, bin_slices, bin_aggs, ↓Option.bind_some, ↓Option.map_some, ↓cond_true, ↓cond_false, evC, evOp, XO.lit, setArgs, Tr.tabG, Tr.tabS, Tr.tabL, Tr.get_lf, Option.bind_some, Option.map_some, cond_true, cond_false, maxI, maxFrom, minI, minFrom, aConv, aBinE, aEq, eqScal, aUn, evRes, fin, oneOf, if_true, if_false, callee, reduceCtorEq, Nat.reduceEqDiff, and_self, decide_true, decide_false, beq_true, beq_false, Bool.not_true, Bool.not_false, List.getElem?_cons_zero, List.getElem?_cons_succ, beq_self_eq_true, gt_iff_lt, ble_dec, beq_dec, List.head?_cons, AV.undef, eq_self, ne_eq, not_true_eq_false, not_false_eq_true, Int.reduceLT, Int.reduceLE, Int.reduceToNat, Int.reduceEq, Int.reduceNeg, Nat.reduceAdd, Nat.reduceLT, Nat.reduceLeDiff, Nat.reduceMul, Nat.reduceSub, ↓evDraw_nil, bir, putD, evDraw, trace, List.all_cons, List.all_nil, chk, stAt, again, sameV, sameL, sameA, AV.undef, Bool.and_self, Bool.and_true, decide_eq_true_eq, List.getElem?_nil, AV.cells, AV.tup, Bool.true_and, true_and, and_true, List.drop_nil, List.append_nil, rd_put, rd_alloc, rdO, St.get_put, St.get_alloc, St.next_put, St.next_alloc, St.wr, Bool.and_self, Bool.and_true, List.length_cons, List.length_nil, List.take_succ_cons, List.take_zero, List.drop_succ_cons, List.drop_zero, List.cons_append, List.nil_append, Nat.zero_add, Nat.add_zero, Nat.reduceMul, aFill, evParts, rep, List.replicate_succ, List.replicate_zero, List.flatten_cons, List.flatten_nil, List.append_nil, newSl, newVar, r4, hA, hB, ra, rb, q, any_cutArr, evOpt, bnd, Nat.sub_zero, Nat.zero_mul, Nat.add_zero]
/-! ### A copy -/
theorem app0 {A : St} {o m : Nat} {xs : List AV} (hg : A.get o = some (.cells [] 0 0 true)) (h0 : m ≠ 0) (hm : m ≤ 1000) : aAppend 1 8 A (.slice (some (o, 0, 0)) 0 1 none) m xs = some (.slice (some (o, 1, 0)) m 1 none, A.put o (.cells xs 1 0 true)) := by
  have hb : ((0 + m) + (0 + m) / 4 + 256) * 8 ≤ 281474976710656 := by omega
  simp only [aAppend, ne_eq, not_true_eq_false, if_false, if_neg h0, if_neg (not_not_intro hb), hg]
  simp
theorem T16 {o m : Nat} {cl : Option Nat} {N : Nat → Int} (h0 : m ≠ 0) (hm : m ≤ 1000) (hg : S.rd o 0 0 m = some (rowL N m)) (ho : o < S.next) :
    ∃ S', evF Y AP (k + 1) 16 [.slice (some (o, 0, 0)) m 1 cl] S = some (.slice (some (S.next, 1, 0)) m 1 none, S') ∧ Ext S S' ∧ S'.next = S.next + 1 ∧ S'.get S.next = some (.cells (rowL N m) 1 0 true) := by
  rw [evF_body (af := af16) rfl rfl rfl]
  obtain ⟨A, hA⟩ : ∃ A, S.alloc (.cells [] 0 0 true) = A := ⟨_, rfl⟩
  have eA : Ext S A := hA ▸ .alloc _ _
  have nA : A.next = S.next + 1 := by rw [← hA]; rfl
  have gA : A.get S.next = some (.cells [] 0 0 true) := by rw [← hA, St.get_alloc, if_pos rfl]
  have hz : A.rd o 0 0 (m * 1) = some (rowL N m) := by rw [eA.rd ho, Nat.mul_one]; exact hg
  have q := app0 (xs := rowL N m) gA h0 hm
  refine ⟨A.put S.next (.cells (rowL N m) 1 0 true), ?_, eA.then_put (Nat.le_refl _) _, nA, by rw [St.get_put, if_pos rfl]⟩
  simp -implicitDefEqProofs -dsimp (maxSteps := 10000000) only [af16, ops_nil, ops_some, ops_none, oper_none, oper_some, gd_tt, gd_ff, gd_tf, gd_ft, gd_undef, ↓any_op, ↓any_call, ↓any_callV, ↓any_invoke, xo_t, xo_c, args_nil, args_cons, bin_add, bin_sub, bin_mul, bin_quo, bin_rem, bin_and, bin_or, bin_xor, bin_andNot, bin_eql, bin_neq, bin_lss, bin_leq, bin_gtr, bin_geq, bin_shl, bin_shr, bin_bools, bin_strs, bin_ptrs, bin_slices, bin_aggs, ↓Option.bind_some, ↓Option.map_some, ↓cond_true, ↓cond_false, evC, evOp, XO.lit, setArgs, Tr.tabG, Tr.tabS, Tr.tabL, Tr.get_lf, Option.bind_some, Option.map_some, cond_true, cond_false, maxI, maxFrom, minI, minFrom, aConv, aBinE, aEq, eqScal, aUn, evRes, fin, oneOf, if_true, if_false, callee, reduceCtorEq, Nat.reduceEqDiff, and_self, decide_true, decide_false, beq_true, beq_false, Bool.not_true, Bool.not_false, List.getElem?_cons_zero, List.getElem?_cons_succ, beq_self_eq_true, gt_iff_lt, ble_dec, beq_dec, List.head?_cons, AV.undef, eq_self, ne_eq, not_true_eq_false, not_false_eq_true, Int.reduceLT, Int.reduceLE, Int.reduceToNat, Int.reduceEq, Int.reduceNeg, Nat.reduceAdd, Nat.reduceLT, Nat.reduceLeDiff, Nat.reduceMul, Nat.reduceSub, aFill, evParts, rep, List.replicate_succ, List.replicate_zero, List.flatten_cons, List.flatten_nil, List.append_nil, newSl, newVar, hA, hz, q]
end
/-- Choices in memory: their row, their costs, what they are worth; all of it older than B. -/
structure Lay (S : St) (o v m : Nat) (L : Nat → Ch) (C G : Nat → Nat) (B : Nat) : Prop where
  lt : o < B
  el : ∀ j, j < m → S.rd o v (j * 3) 3 = some (ch3 (L j) (C j) (G j))
  co : ∀ j, j < m → C j < B ∧ S.get (C j) = some (cI (L j).c0 (L j).c1)
  go : ∀ j, j < m → G j < B ∧ S.get (G j) = some (cI (L j).g0 (L j).g1)
  ok : ∀ j, j < m → OkC (L j)
/-- What is older than B stays. -/
structure Stay (B : Nat) (S S' : St) : Prop where
  next : S.next ≤ S'.next
  old : ∀ o, o < B → S'.get o = S.get o
theorem Stay.trans {B : Nat} {S S' S'' : St} (h : Stay B S S') (h' : Stay B S' S'') : Stay B S S'' := ⟨Nat.le_trans h.next h'.next, fun o ho => (h'.old o ho).trans (h.old o ho)⟩
theorem Ext.stay {B : Nat} {S S' : St} (h : Ext S S') (hB : B ≤ S.next) : Stay B S S' := ⟨h.next, fun o ho => h.old o (Nat.lt_of_lt_of_le ho hB)⟩
theorem Stay.refl (B : Nat) (S : St) : Stay B S S := ⟨Nat.le_refl _, fun _ _ => rfl⟩
theorem Lay.stay {S S' : St} {o v m : Nat} {L : Nat → Ch} {C G : Nat → Nat} {B : Nat} (h : Lay S o v m L C G B) (e : Stay B S S') : Lay S' o v m L C G B := by
  refine ⟨h.lt, fun j hj => ?_, fun j hj => ⟨(h.co j hj).1, ?_⟩, fun j hj => ⟨(h.go j hj).1, ?_⟩, h.ok⟩
  · rw [← h.el j hj]; unfold St.rd; rw [e.old o h.lt]
  · rw [e.old _ (h.co j hj).1]; exact (h.co j hj).2
  · rw [e.old _ (h.go j hj).1]; exact (h.go j hj).2
/-- The parts of an element. -/
theorem Lay.part {S : St} {o v m : Nat} {L : Nat → Ch} {C G : Nat → Nat} {B : Nat} (h : Lay S o v m L C G B) {j : Nat} (hj : j < m) :
    S.rd o v (j * 3) 1 = some [.int .i64 (L j).s] ∧ S.rd o v (j * 3 + 1) 1 = some [.slice (some (C j, 0, 0)) 2 1 none] ∧ S.rd o v (j * 3 + 2) 1 = some [.slice (some (G j, 0, 0)) 2 1 none] :=
  ⟨rd_sub (m := 0) (l := 1) (h.el j hj) (by decide), rd_sub (m := 1) (l := 1) (h.el j hj) (by decide), rd_sub (m := 2) (l := 1) (h.el j hj) (by decide)⟩
/-- A row of numbers in memory. -/
structure Rw (S : St) (o v m : Nat) (N : Nat → Int) : Prop where
  lt : o < S.next
  rd : S.rd o v 0 m = some (rowL N m)
theorem Rw.ext {S S' : St} {o v m : Nat} {N : Nat → Int} (h : Rw S o v m N) (e : Ext S S') : Rw S' o v m N := ⟨Nat.lt_of_lt_of_le h.lt e.next, by rw [e.rd h.lt]; exact h.rd⟩
theorem Rw.one {S : St} {o v m : Nat} {N : Nat → Int} (h : Rw S o v m N) {j : Nat} (hj : j < m) : S.rd o v (j * 1) 1 = some [.int .i64 (N j)] := by
  have := rd_sub (m := j) (l := 1) h.rd (by omega)
  rw [Nat.zero_add] at this
  rw [Nat.mul_one, this, rowL_one hj]
theorem i20 : ixOf (.int .i64 0) 2 = some 0 := rfl
theorem i21 : ixOf (.int .i64 1) 2 = some 1 := rfl
theorem i40 : ixOf (.int .i64 0) 4 = some 0 := rfl
theorem i41 : ixOf (.int .i64 1) 4 = some 1 := rfl
structure I179 (o v on vn m : Nat) (cl cn : Option Nat) (w4 : AV) (L : Nat → Ch) (N : Nat → Int) (Sb : St) (r : Nat) (T : Tm) (S : St) : Prop where
  t0 : T.get 0 = some (.slice (some (o, v, 0)) m 3 cl)
  t14 : T.get 14 = some (.slice (some (on, vn, 0)) m 1 cn)
  t15 : T.get 15 = some (.int .i64 m)
  t4 : T.get 4 = some w4
  ext : Ext Sb S
  more : ∃ j : Nat, T.get 16 = some (.int .i64 j) ∧ j + r = m ∧ T.get 5 = some (.int .i64 (costTo L N j))
set_option maxHeartbeats 4000000 in
theorem round179 (k : Nat) {o v on vn m : Nat} {cl cn : Option Nat} {w4 : AV} {L : Nat → Ch} {C G : Nat → Nat} {N : Nat → Int} {B : Nat} {Sb : St} (hm : m ≤ 8) (hB : B ≤ Sb.next) (hL : Lay Sb o v m L C G B) (hN : Rw Sb on vn m N) (hp : ∀ j, j < m → Pos (N j)) (r : Nat) (T : Tm) (S : St) (hI : I179 o v on vn m cl cn w4 L N Sb r T S) :
    Goes (evF Y AP (k + 10)) (k + 10) af14_l0 T S (Then (fun T' S' => ∃ r', I179 o v on vn m cl cn w4 L N Sb r' T' S' ∧ id r' < id r) fun e T' S' => e = .exit 0 ∧ I179 o v on vn m cl cn w4 L N Sb 0 T' S') := by
  obtain ⟨t0, t14, t15, t4, ex, j, t16, hr, t5⟩ := hI
  by_cases c1 : (j : Int) < (m : Int)
  rotate_left
  · obtain rfl : r = 0 := by omega
    simp -implicitDefEqProofs -dsimp (maxSteps := 10000000) only [af14_l0, ↓goes_loop, ↓goes_seq, ↓goes_reg, ↓goes_dreg, ↓goes_preg, ↓goes_cond, ↓goes_block, ↓goes_skip, ↓goes_exit, ↓goes_ret, after_some, br_true, br_false, ↓then_normal, ↓then_exit, ↓then_ret, ↓blk_normal, ↓blk_exit, ↓blk_ret, ↓blk_other, ops_nil, ops_some, ops_none, oper_none, oper_some, gd_tt, gd_ff, gd_tf, gd_ft, gd_undef, ↓any_op, ↓any_call, ↓any_callV, ↓any_invoke, xo_t, xo_c, args_nil, args_cons, bin_add, bin_sub, bin_mul, bin_quo, bin_rem, bin_and, bin_or, bin_xor, bin_andNot, bin_eql, bin_neq, bin_lss, bin_leq, bin_gtr, bin_geq, bin_shl, bin_shr, bin_bools, bin_strs, bin_ptrs, bin_slices, bin_aggs, ↓Option.bind_some, ↓Option.map_some, ↓cond_true, ↓cond_false, evC, evOp, XO.lit, setArgs, Tr.get_set, Option.bind_some, Option.map_some, cond_true, cond_false, maxI, maxFrom, minI, minFrom, aConv, aBinE, aEq, eqScal, aUn, evRes, fin, oneOf, if_true, if_false, callee, reduceCtorEq, Nat.reduceEqDiff, and_self, decide_true, decide_false, beq_true, beq_false, Bool.not_true, Bool.not_false, List.getElem?_cons_zero, List.getElem?_cons_succ, beq_self_eq_true, gt_iff_lt, ble_dec, beq_dec, List.head?_cons, AV.undef, eq_self, ne_eq, not_true_eq_false, not_false_eq_true, Int.reduceLT, Int.reduceLE, Int.reduceToNat, Int.reduceEq, Int.reduceNeg, Nat.reduceAdd, Nat.reduceLT, Nat.reduceLeDiff, Nat.reduceMul, Nat.reduceSub, AV.cells, AV.tup, Bool.true_and, true_and, and_true, List.drop_nil, List.append_nil, rd_put, rd_alloc, rdO, St.get_put, St.get_alloc, St.next_put, St.next_alloc, St.wr, Bool.and_self, Bool.and_true, List.length_cons, List.length_nil, List.take_succ_cons, List.take_zero, List.drop_succ_cons, List.drop_zero, List.cons_append, List.nil_append, Nat.zero_add, Nat.add_zero, Nat.reduceMul, t15, t16, c1]
    refine ⟨?_, ?_, ?_, ?_, ex, j, ?_, hr, ?_⟩ <;> simp only [Tr.get_set, Nat.reduceEqDiff, if_false, if_true, t0, t4, t5, t14, t15, t16]
  have hj : j < m := by omega
  have hL1 := hL.stay (ex.stay hB)
  have hz := hL1.el j hj
  have hn := (hN.ext ex).one hj
  have hix : ixOf (.int .i64 (j : Int)) m = some j := by rw [ix_ok (by omega) (by omega)]; rfl
  have wj : IntKind.i64.wrap ((j : Int) + 1) = ((j + 1 : Nat) : Int) := w64_id (by omega) (by omega)
  have hBS : B ≤ S.next := Nat.le_trans hB ex.next
  have hc := hL1.co j hj
  have ok := hL.ok j hj
  have bd := costTo_bd (L := L) (N := N) (m := j) fun i hi => hL.ok i (by omega)
  have nx : costTo L N (j + 1) = if 0 ≤ N j then costTo L N j + (L j).co (N j) else costTo L N j := rfl
  obtain ⟨S1, q, x1⟩ := T26 (k + 9) (S := S) (og := G j) (p := N j) ok (by omega) hc.2 (by rcases hp j hj with h | h | h <;> simp [h])
  have hL2 := hL1.stay (x1.stay hBS)
  obtain ⟨z0, z1, z2⟩ := hL2.part hj
  have rC : ∀ v i n, S1.rd (C j) v i n = rdO (cI (L j).c0 (L j).c1) v i n := rd_of (hL2.co j hj).2
  have bc0 := ok.c0
  have bc1 := ok.c1
  have s0 : evF Y AP (k + 10) 27 [.int .i64 (costTo L N j), .int .i64 (L j).c0] S1 = some (.int .i64 (costTo L N j + (L j).c0), S1) := T27 (k + 9) ⟨by omega, by omega⟩ ⟨by omega, by omega⟩
  have s1 : evF Y AP (k + 10) 27 [.int .i64 (costTo L N j), .int .i64 (L j).c1] S1 = some (.int .i64 (costTo L N j + (L j).c1), S1) := T27 (k + 9) ⟨by omega, by omega⟩ ⟨by omega, by omega⟩
  rcases hp j hj with h | h | h <;> rw [h] at hn q nx
  · rw [show decide ((-1 : Int) = 0 ∨ (-1 : Int) = 1) = false from rfl] at q
    rw [if_neg (by decide)] at nx
    simp -implicitDefEqProofs -dsimp (maxSteps := 10000000) only [af14_l0, ↓goes_loop, ↓goes_seq, ↓goes_reg, ↓goes_dreg, ↓goes_preg, ↓goes_cond, ↓goes_block, ↓goes_skip, ↓goes_exit, ↓goes_ret, after_some, br_true, br_false, ↓then_normal, ↓then_exit, ↓then_ret, ↓blk_normal, ↓blk_exit, ↓blk_ret, ↓blk_other, ops_nil, ops_some, ops_none, oper_none, oper_some, gd_tt, gd_ff, gd_tf, gd_ft, gd_undef, ↓any_op, ↓any_call, ↓any_callV, ↓any_invoke, xo_t, xo_c, args_nil, args_cons, bin_add, bin_sub, bin_mul, bin_quo, bin_rem, bin_and, bin_or, bin_xor, bin_andNot, bin_eql, bin_neq, bin_lss, bin_leq, bin_gtr, bin_geq, bin_shl, bin_shr, bin_bools, bin_strs, bin_ptrs, bin_slices, bin_aggs, ↓Option.bind_some, ↓Option.map_some, ↓cond_true, ↓cond_false, evC, evOp, XO.lit, setArgs, Tr.get_set, Option.bind_some, Option.map_some, cond_true, cond_false, maxI, maxFrom, minI, minFrom, aConv, aBinE, aEq, eqScal, aUn, evRes, fin, oneOf, if_true, if_false, callee, reduceCtorEq, Nat.reduceEqDiff, and_self, decide_true, decide_false, beq_true, beq_false, Bool.not_true, Bool.not_false, List.getElem?_cons_zero, List.getElem?_cons_succ, beq_self_eq_true, gt_iff_lt, ble_dec, beq_dec, List.head?_cons, AV.undef, eq_self, ne_eq, not_true_eq_false, not_false_eq_true, Int.reduceLT, Int.reduceLE, Int.reduceToNat, Int.reduceEq, Int.reduceNeg, Nat.reduceAdd, Nat.reduceLT, Nat.reduceLeDiff, Nat.reduceMul, Nat.reduceSub, AV.cells, AV.tup, Bool.true_and, true_and, and_true, List.drop_nil, List.append_nil, rd_put, rd_alloc, rdO, St.get_put, St.get_alloc, St.next_put, St.next_alloc, St.wr, Bool.and_self, Bool.and_true, List.length_cons, List.length_nil, List.take_succ_cons, List.take_zero, List.drop_succ_cons, List.drop_zero, List.cons_append, List.nil_append, Nat.zero_add, Nat.add_zero, Nat.reduceMul, t0, t14, t15, t16, c1, hix, hz, hn, q, wj]
    refine ⟨r - 1, ⟨?_, ?_, ?_, ?_, ex.trans x1, j + 1, ?_, by omega, ?_⟩, by show r - 1 < r; omega⟩ <;> simp only [Tr.get_set, Nat.reduceEqDiff, if_false, if_true, t0, t4, t5, t14, t15, nx]
  · rw [show decide ((0 : Int) = 0 ∨ (0 : Int) = 1) = true from rfl] at q
    rw [if_pos (by decide)] at nx
    simp only [Ch.co, if_true] at nx
    simp -implicitDefEqProofs -dsimp (maxSteps := 10000000) only [af14_l0, ↓goes_loop, ↓goes_seq, ↓goes_reg, ↓goes_dreg, ↓goes_preg, ↓goes_cond, ↓goes_block, ↓goes_skip, ↓goes_exit, ↓goes_ret, after_some, br_true, br_false, ↓then_normal, ↓then_exit, ↓then_ret, ↓blk_normal, ↓blk_exit, ↓blk_ret, ↓blk_other, ops_nil, ops_some, ops_none, oper_none, oper_some, gd_tt, gd_ff, gd_tf, gd_ft, gd_undef, ↓any_op, ↓any_call, ↓any_callV, ↓any_invoke, xo_t, xo_c, args_nil, args_cons, bin_add, bin_sub, bin_mul, bin_quo, bin_rem, bin_and, bin_or, bin_xor, bin_andNot, bin_eql, bin_neq, bin_lss, bin_leq, bin_gtr, bin_geq, bin_shl, bin_shr, bin_bools, bin_strs, bin_ptrs, bin_slices, bin_aggs, ↓Option.bind_some, ↓Option.map_some, ↓cond_true, ↓cond_false, evC, evOp, XO.lit, setArgs, Tr.get_set, Option.bind_some, Option.map_some, cond_true, cond_false, maxI, maxFrom, minI, minFrom, aConv, aBinE, aEq, eqScal, aUn, evRes, fin, oneOf, if_true, if_false, callee, reduceCtorEq, Nat.reduceEqDiff, and_self, decide_true, decide_false, beq_true, beq_false, Bool.not_true, Bool.not_false, List.getElem?_cons_zero, List.getElem?_cons_succ, beq_self_eq_true, gt_iff_lt, ble_dec, beq_dec, List.head?_cons, AV.undef, eq_self, ne_eq, not_true_eq_false, not_false_eq_true, Int.reduceLT, Int.reduceLE, Int.reduceToNat, Int.reduceEq, Int.reduceNeg, Nat.reduceAdd, Nat.reduceLT, Nat.reduceLeDiff, Nat.reduceMul, Nat.reduceSub, AV.cells, AV.tup, Bool.true_and, true_and, and_true, List.drop_nil, List.append_nil, rd_put, rd_alloc, rdO, St.get_put, St.get_alloc, St.next_put, St.next_alloc, St.wr, Bool.and_self, Bool.and_true, List.length_cons, List.length_nil, List.take_succ_cons, List.take_zero, List.drop_succ_cons, List.drop_zero, List.cons_append, List.nil_append, Nat.zero_add, Nat.add_zero, Nat.reduceMul, t0, t5, t14, t15, t16, c1, hix, hz, hn, q, z1, rC, cI, s0, wj, i20, i21, c2n]
    refine ⟨r - 1, ⟨?_, ?_, ?_, ?_, ex.trans x1, j + 1, ?_, by omega, ?_⟩, by show r - 1 < r; omega⟩ <;> simp only [Tr.get_set, Nat.reduceEqDiff, if_false, if_true, t0, t4, t5, t14, t15, nx]
  · rw [show decide ((1 : Int) = 0 ∨ (1 : Int) = 1) = true from rfl] at q
    rw [if_pos (by decide)] at nx
    simp only [Ch.co, show ¬ (1 : Int) = 0 from by decide, if_false] at nx
    simp -implicitDefEqProofs -dsimp (maxSteps := 10000000) only [af14_l0, ↓goes_loop, ↓goes_seq, ↓goes_reg, ↓goes_dreg, ↓goes_preg, ↓goes_cond, ↓goes_block, ↓goes_skip, ↓goes_exit, ↓goes_ret, after_some, br_true, br_false, ↓then_normal, ↓then_exit, ↓then_ret, ↓blk_normal, ↓blk_exit, ↓blk_ret, ↓blk_other, ops_nil, ops_some, ops_none, oper_none, oper_some, gd_tt, gd_ff, gd_tf, gd_ft, gd_undef, ↓any_op, ↓any_call, ↓any_callV, ↓any_invoke, xo_t, xo_c, args_nil, args_cons, bin_add, bin_sub, bin_mul, bin_quo, bin_rem, bin_and, bin_or, bin_xor, bin_andNot, bin_eql, bin_neq, bin_lss, bin_leq, bin_gtr, bin_geq, bin_shl, bin_shr, bin_bools, bin_strs, bin_ptrs, bin_slices, bin_aggs, ↓Option.bind_some, ↓Option.map_some, ↓cond_true, ↓cond_false, evC, evOp, XO.lit, setArgs, Tr.get_set, Option.bind_some, Option.map_some, cond_true, cond_false, maxI, maxFrom, minI, minFrom, aConv, aBinE, aEq, eqScal, aUn, evRes, fin, oneOf, if_true, if_false, callee, reduceCtorEq, Nat.reduceEqDiff, and_self, decide_true, decide_false, beq_true, beq_false, Bool.not_true, Bool.not_false, List.getElem?_cons_zero, List.getElem?_cons_succ, beq_self_eq_true, gt_iff_lt, ble_dec, beq_dec, List.head?_cons, AV.undef, eq_self, ne_eq, not_true_eq_false, not_false_eq_true, Int.reduceLT, Int.reduceLE, Int.reduceToNat, Int.reduceEq, Int.reduceNeg, Nat.reduceAdd, Nat.reduceLT, Nat.reduceLeDiff, Nat.reduceMul, Nat.reduceSub, AV.cells, AV.tup, Bool.true_and, true_and, and_true, List.drop_nil, List.append_nil, rd_put, rd_alloc, rdO, St.get_put, St.get_alloc, St.next_put, St.next_alloc, St.wr, Bool.and_self, Bool.and_true, List.length_cons, List.length_nil, List.take_succ_cons, List.take_zero, List.drop_succ_cons, List.drop_zero, List.cons_append, List.nil_append, Nat.zero_add, Nat.add_zero, Nat.reduceMul, t0, t5, t14, t15, t16, c1, hix, hz, hn, q, z1, rC, cI, s1, wj, i20, i21, c2n]
    refine ⟨r - 1, ⟨?_, ?_, ?_, ?_, ex.trans x1, j + 1, ?_, by omega, ?_⟩, by show r - 1 < r; omega⟩ <;> simp only [Tr.get_set, Nat.reduceEqDiff, if_false, if_true, t0, t4, t5, t14, t15, nx]
theorem mnL {m : Nat} : (if (m : Int) < (m : Int) then (m : Int) else (m : Int)) = (m : Int) := by split <;> rfl
set_option maxHeartbeats 4000000 in
theorem T14 (k : Nat) {S : St} {o v on vn m : Nat} {cl cn : Option Nat} {L : Nat → Ch} {C G : Nat → Nat} {N : Nat → Int} {B : Nat} (hm : m ≤ 8) (hB : B ≤ S.next) (hL : Lay S o v m L C G B) (hN : Rw S on vn m N) (hp : ∀ j, j < m → Pos (N j)) :
    ∃ w S', evF Y AP (k + 11) 14 [.slice (some (o, v, 0)) m 3 cl, .slice (some (on, vn, 0)) m 1 cn] S = some (w, S') ∧ (w = .int .i64 (costTo L N m) ∧ Ext S S') := by
  refine evF_goes (af := af14) (k := k + 10) rfl rfl rfl ?_
  have mx : m ≤ 9223372036854775807 := by omega
  have h0 : 0 ≤ (m : Int) := by omega
  have hll : (m : Int) ≤ (m : Int) := Int.le_refl _
  simp -implicitDefEqProofs -dsimp (maxSteps := 10000000) only [af14, ↓goes_loop, ↓goes_seq, ↓goes_reg, ↓goes_dreg, ↓goes_preg, ↓goes_cond, ↓goes_block, ↓goes_skip, ↓goes_exit, ↓goes_ret, after_some, br_true, br_false, ↓then_normal, ↓then_exit, ↓then_ret, ↓blk_normal, ↓blk_exit, ↓blk_ret, ↓blk_other, ops_nil, ops_some, ops_none, oper_none, oper_some, gd_tt, gd_ff, gd_tf, gd_ft, gd_undef, ↓any_op, ↓any_call, ↓any_callV, ↓any_invoke, xo_t, xo_c, args_nil, args_cons, bin_add, bin_sub, bin_mul, bin_quo, bin_rem, bin_and, bin_or, bin_xor, bin_andNot, bin_eql, bin_neq, bin_lss, bin_leq, bin_gtr, bin_geq, bin_shl, bin_shr, bin_bools, bin_strs, bin_ptrs, bin_slices, bin_aggs, ↓Option.bind_some, ↓Option.map_some, ↓cond_true, ↓cond_false, evC, evOp, XO.lit, setArgs, Tr.tabG, Tr.tabS, Tr.tabL, Tr.get_lf, Option.bind_some, Option.map_some, cond_true, cond_false, maxI, maxFrom, minI, minFrom, aConv, aBinE, aEq, eqScal, aUn, evRes, fin, oneOf, if_true, if_false, callee, reduceCtorEq, Nat.reduceEqDiff, and_self, decide_true, decide_false, beq_true, beq_false, Bool.not_true, Bool.not_false, List.getElem?_cons_zero, List.getElem?_cons_succ, beq_self_eq_true, gt_iff_lt, ble_dec, beq_dec, List.head?_cons, AV.undef, eq_self, ne_eq, not_true_eq_false, not_false_eq_true, Int.reduceLT, Int.reduceLE, Int.reduceToNat, Int.reduceEq, Int.reduceNeg, Nat.reduceAdd, Nat.reduceLT, Nat.reduceLeDiff, Nat.reduceMul, Nat.reduceSub, mx, mnL, aCut, bnd, evOpt, and_self, if_true, h0, hll, Int.toNat_natCast, Option.isSome_none, Nat.zero_mul, Nat.add_zero, Nat.sub_zero]
  refine .while (I179 o v on vn m cl _ _ L N S) id m ⟨rfl, rfl, rfl, rfl, Ext.refl S, 0, rfl, by omega, rfl⟩ (by show m < k + 10; omega) fun r2 T2 S2 h2 => (round179 k hm hB hL hN hp r2 T2 S2 h2).mono ?_
  intro e T' S' h
  cases e with
  | normal => exact h
  | ret => exact absurd h.1 (by simp)
  | exit i =>
    obtain ⟨e1, ⟨t0, t14, t15, t4, ex, j, t16, hr, t5⟩⟩ := h
    cases e1
    obtain rfl : j = m := by omega
    simp -implicitDefEqProofs -dsimp (maxSteps := 10000000) only [↓goes_loop, ↓goes_seq, ↓goes_reg, ↓goes_dreg, ↓goes_preg, ↓goes_cond, ↓goes_block, ↓goes_skip, ↓goes_exit, ↓goes_ret, after_some, br_true, br_false, ↓then_normal, ↓then_exit, ↓then_ret, ↓blk_normal, ↓blk_exit, ↓blk_ret, ↓blk_other, ops_nil, ops_some, ops_none, oper_none, oper_some, gd_tt, gd_ff, gd_tf, gd_ft, gd_undef, ↓any_op, ↓any_call, ↓any_callV, ↓any_invoke, xo_t, xo_c, args_nil, args_cons, bin_add, bin_sub, bin_mul, bin_quo, bin_rem, bin_and, bin_or, bin_xor, bin_andNot, bin_eql, bin_neq, bin_lss, bin_leq, bin_gtr, bin_geq, bin_shl, bin_shr, bin_bools, bin_strs, bin_ptrs, bin_slices, bin_aggs, ↓Option.bind_some, ↓Option.map_some, ↓cond_true, ↓cond_false, evC, evOp, XO.lit, setArgs, Tr.get_set, Option.bind_some, Option.map_some, cond_true, cond_false, maxI, maxFrom, minI, minFrom, aConv, aBinE, aEq, eqScal, aUn, evRes, fin, oneOf, if_true, if_false, callee, reduceCtorEq, Nat.reduceEqDiff, and_self, decide_true, decide_false, beq_true, beq_false, Bool.not_true, Bool.not_false, List.getElem?_cons_zero, List.getElem?_cons_succ, beq_self_eq_true, gt_iff_lt, ble_dec, beq_dec, List.head?_cons, AV.undef, eq_self, ne_eq, not_true_eq_false, not_false_eq_true, Int.reduceLT, Int.reduceLE, Int.reduceToNat, Int.reduceEq, Int.reduceNeg, Nat.reduceAdd, Nat.reduceLT, Nat.reduceLeDiff, Nat.reduceMul, Nat.reduceSub, t5]
    exact ⟨_, _, rfl, rfl, ex⟩
def r4O (a : Int × Int) : AO := .cells (r4 a) 0 0 true
structure I276 (o v on vn m : Nat) (cl cn : Option Nat) (L : Nat → Ch) (N : Nat → Int) (Sb : St) (r : Nat) (T : Tm) (S : St) : Prop where
  t0 : T.get 0 = some (.slice (some (o, v, 0)) m 3 cl)
  t14 : T.get 14 = some (.slice (some (on, vn, 0)) m 1 cn)
  t15 : T.get 15 = some (.int .i64 m)
  t4 : T.get 4 = some (.ptr (some ⟨Sb.next, 0, 0, 4⟩))
  t5 : T.get 5 = some (.ptr (some ⟨Sb.next + 1, 0, 0, 4⟩))
  ext : Ext Sb S
  nx : Sb.next + 2 ≤ S.next
  g4 : S.get Sb.next = some (r4O (0, 0))
  more : ∃ j : Nat, T.get 16 = some (.int .i64 j) ∧ j + r = m ∧ S.get (Sb.next + 1) = some (r4O (goodTo L N j))
set_option maxHeartbeats 8000000 in
theorem round276 (k : Nat) {o v on vn m : Nat} {cl cn : Option Nat} {L : Nat → Ch} {C G : Nat → Nat} {N : Nat → Int} {B : Nat} {Sb : St} (hm : m ≤ 8) (hB : B ≤ Sb.next) (hL : Lay Sb o v m L C G B) (hN : Rw Sb on vn m N) (hp : ∀ j, j < m → Pos (N j)) (r : Nat) (T : Tm) (S : St) (hI : I276 o v on vn m cl cn L N Sb r T S) :
    Goes (evF Y AP (k + 10)) (k + 10) af8_l0 T S (Then (fun T' S' => ∃ r', I276 o v on vn m cl cn L N Sb r' T' S' ∧ id r' < id r) fun e T' S' => e = .exit 0 ∧ I276 o v on vn m cl cn L N Sb 0 T' S') := by
  obtain ⟨t0, t14, t15, t4, t5, ex, nx, g4, j, t16, hr, g5⟩ := hI
  by_cases c1 : (j : Int) < (m : Int)
  rotate_left
  · obtain rfl : r = 0 := by omega
    simp -implicitDefEqProofs -dsimp (maxSteps := 10000000) only [af8_l0, ↓goes_loop, ↓goes_seq, ↓goes_reg, ↓goes_dreg, ↓goes_preg, ↓goes_cond, ↓goes_block, ↓goes_skip, ↓goes_exit, ↓goes_ret, after_some, br_true, br_false, ↓then_normal, ↓then_exit, ↓then_ret, ↓blk_normal, ↓blk_exit, ↓blk_ret, ↓blk_other, ops_nil, ops_some, ops_none, oper_none, oper_some, gd_tt, gd_ff, gd_tf, gd_ft, gd_undef, ↓any_op, ↓any_call, ↓any_callV, ↓any_invoke, xo_t, xo_c, args_nil, args_cons, bin_add, bin_sub, bin_mul, bin_quo, bin_rem, bin_and, bin_or, bin_xor, bin_andNot, bin_eql, bin_neq, bin_lss, bin_leq, bin_gtr, bin_geq, bin_shl, bin_shr, bin_bools, bin_strs, bin_ptrs, bin_slices, bin_aggs, ↓Option.bind_some, ↓Option.map_some, ↓cond_true, ↓cond_false, evC, evOp, XO.lit, setArgs, Tr.get_set, Option.bind_some, Option.map_some, cond_true, cond_false, maxI, maxFrom, minI, minFrom, aConv, aBinE, aEq, eqScal, aUn, evRes, fin, oneOf, if_true, if_false, callee, reduceCtorEq, Nat.reduceEqDiff, and_self, decide_true, decide_false, beq_true, beq_false, Bool.not_true, Bool.not_false, List.getElem?_cons_zero, List.getElem?_cons_succ, beq_self_eq_true, gt_iff_lt, ble_dec, beq_dec, List.head?_cons, AV.undef, eq_self, ne_eq, not_true_eq_false, not_false_eq_true, Int.reduceLT, Int.reduceLE, Int.reduceToNat, Int.reduceEq, Int.reduceNeg, Nat.reduceAdd, Nat.reduceLT, Nat.reduceLeDiff, Nat.reduceMul, Nat.reduceSub, AV.cells, AV.tup, Bool.true_and, true_and, and_true, List.drop_nil, List.append_nil, rd_put, rd_alloc, rdO, St.get_put, St.get_alloc, St.next_put, St.next_alloc, St.wr, Bool.and_self, Bool.and_true, List.length_cons, List.length_nil, List.take_succ_cons, List.take_zero, List.drop_succ_cons, List.drop_zero, List.cons_append, List.nil_append, Nat.zero_add, Nat.add_zero, Nat.reduceMul, t15, t16, c1]
    refine ⟨?_, ?_, ?_, ?_, ?_, ex, nx, g4, j, ?_, hr, g5⟩ <;> simp only [Tr.get_set, Nat.reduceEqDiff, if_false, if_true, t0, t4, t5, t14, t15, t16]
  have hj : j < m := by omega
  have hL1 := hL.stay (ex.stay hB)
  have hz := hL1.el j hj
  have hn := (hN.ext ex).one hj
  have hix : ixOf (.int .i64 (j : Int)) m = some j := by rw [ix_ok (by omega) (by omega)]; rfl
  have wj : IntKind.i64.wrap ((j : Int) + 1) = ((j + 1 : Nat) : Int) := w64_id (by omega) (by omega)
  have hBS : B ≤ S.next := Nat.le_trans hB ex.next
  have hc := hL1.co j hj
  have ok := hL.ok j hj
  have bd := goodTo_nn (L := L) (N := N) (m := j) fun i hi => hL.ok i (by omega)
  have gn : goodTo L N (j + 1) = if 0 ≤ N j then (if (L j).s = 0 then ((goodTo L N j).1 + (L j).go (N j), (goodTo L N j).2) else ((goodTo L N j).1, (goodTo L N j).2 + (L j).go (N j))) else goodTo L N j := rfl
  obtain ⟨S1, q, x1⟩ := T17 (k + 8) (S := S) (og := G j) (p := N j) ok (by omega) hc.2 (by rcases hp j hj with h | h | h <;> simp [h])
  have hL2 := hL1.stay (x1.stay hBS)
  obtain ⟨z0, z1, z2⟩ := hL2.part hj
  have rG : ∀ v i n, S1.rd (G j) v i n = rdO (cI (L j).g0 (L j).g1) v i n := rd_of (hL2.go j hj).2
  have g5' := x1.get (by omega) g5
  have r5 : ∀ v i n, S1.rd (Sb.next + 1) v i n = rdO (r4O (goodTo L N j)) v i n := rd_of g5'
  obtain ⟨x, hx⟩ : ∃ x, goodTo L N j = x := ⟨_, rfl⟩
  rw [hx] at gn r5 g5' bd g5
  have b0 := ok.g0
  have b1 := ok.g1
  have n0 : ¬ 1073741824 < (L j).g0 := by omega
  have n1 : ¬ 1073741824 < (L j).g1 := by omega
  have m0 : (if 0 < (L j).g0 then (L j).g0 else 0) = (L j).g0 := by split <;> omega
  have m1 : (if 0 < (L j).g1 then (L j).g1 else 0) = (L j).g1 := by split <;> omega
  have w10 : IntKind.i64.wrap (x.1 + (L j).g0) = x.1 + (L j).g0 := w64_id (by omega) (by omega)
  have w11 : IntKind.i64.wrap (x.1 + (L j).g1) = x.1 + (L j).g1 := w64_id (by omega) (by omega)
  have w20 : IntKind.i64.wrap (x.2 + (L j).g0) = x.2 + (L j).g0 := w64_id (by omega) (by omega)
  have w21 : IntKind.i64.wrap (x.2 + (L j).g1) = x.2 + (L j).g1 := w64_id (by omega) (by omega)
  unfold r4O r4 at g5' r5
  have fin : ∀ {y : Int × Int}, goodTo L N (j + 1) = y → ∀ {T' : Tm}, T'.get 0 = some (.slice (some (o, v, 0)) m 3 cl) → T'.get 14 = some (.slice (some (on, vn, 0)) m 1 cn) → T'.get 15 = some (.int .i64 m) →
      T'.get 4 = some (.ptr (some ⟨Sb.next, 0, 0, 4⟩)) → T'.get 5 = some (.ptr (some ⟨Sb.next + 1, 0, 0, 4⟩)) → T'.get 16 = some (.int .i64 ((j + 1 : Nat) : Int)) →
      ∃ r', I276 o v on vn m cl cn L N Sb r' T' (S1.put (Sb.next + 1) (.cells [.int .i64 y.1, .int .i64 y.2, .int .i64 0, .int .i64 0] 0 0 true)) ∧ id r' < id r := by
    intro y hy T' a0 a14 a15 a4 a5 a16
    have e1 : Ext Sb S1 := ex.trans x1
    have := x1.next
    refine ⟨r - 1, ⟨a0, a14, a15, a4, a5, e1.then_put (by omega) _, by show Sb.next + 2 ≤ S1.next; omega, by rw [St.get_put, if_neg (by omega)]; exact x1.get (by omega) g4, j + 1, a16, by omega, by rw [St.get_put, if_pos rfl, hy]; rfl⟩, by show r - 1 < r; omega⟩
  rcases hp j hj with h | h | h <;> rw [h] at hn q gn
  · rw [if_neg (by decide)] at gn
    simp -implicitDefEqProofs -dsimp (maxSteps := 10000000) only [af8_l0, ↓goes_loop, ↓goes_seq, ↓goes_reg, ↓goes_dreg, ↓goes_preg, ↓goes_cond, ↓goes_block, ↓goes_skip, ↓goes_exit, ↓goes_ret, after_some, br_true, br_false, ↓then_normal, ↓then_exit, ↓then_ret, ↓blk_normal, ↓blk_exit, ↓blk_ret, ↓blk_other, ops_nil, ops_some, ops_none, oper_none, oper_some, gd_tt, gd_ff, gd_tf, gd_ft, gd_undef, ↓any_op, ↓any_call, ↓any_callV, ↓any_invoke, xo_t, xo_c, args_nil, args_cons, bin_add, bin_sub, bin_mul, bin_quo, bin_rem, bin_and, bin_or, bin_xor, bin_andNot, bin_eql, bin_neq, bin_lss, bin_leq, bin_gtr, bin_geq, bin_shl, bin_shr, bin_bools, bin_strs, bin_ptrs, bin_slices, bin_aggs, ↓Option.bind_some, ↓Option.map_some, ↓cond_true, ↓cond_false, evC, evOp, XO.lit, setArgs, Tr.get_set, Option.bind_some, Option.map_some, cond_true, cond_false, maxI, maxFrom, minI, minFrom, aConv, aBinE, aEq, eqScal, aUn, evRes, fin, oneOf, if_true, if_false, callee, reduceCtorEq, Nat.reduceEqDiff, and_self, decide_true, decide_false, beq_true, beq_false, Bool.not_true, Bool.not_false, List.getElem?_cons_zero, List.getElem?_cons_succ, beq_self_eq_true, gt_iff_lt, ble_dec, beq_dec, List.head?_cons, AV.undef, eq_self, ne_eq, not_true_eq_false, not_false_eq_true, Int.reduceLT, Int.reduceLE, Int.reduceToNat, Int.reduceEq, Int.reduceNeg, Nat.reduceAdd, Nat.reduceLT, Nat.reduceLeDiff, Nat.reduceMul, Nat.reduceSub, AV.cells, AV.tup, Bool.true_and, true_and, and_true, List.drop_nil, List.append_nil, rd_put, rd_alloc, rdO, St.get_put, St.get_alloc, St.next_put, St.next_alloc, St.wr, Bool.and_self, Bool.and_true, List.length_cons, List.length_nil, List.take_succ_cons, List.take_zero, List.drop_succ_cons, List.drop_zero, List.cons_append, List.nil_append, Nat.zero_add, Nat.add_zero, Nat.reduceMul, t0, t14, t15, t16, c1, hix, hz, hn, q, wj]
    refine ⟨r - 1, ⟨?_, ?_, ?_, ?_, ?_, ex, nx, g4, j + 1, ?_, by omega, by rw [gn]; exact g5⟩, by show r - 1 < r; omega⟩ <;> simp only [Tr.get_set, Nat.reduceEqDiff, if_false, if_true, t0, t4, t5, t14, t15]
  · rw [show decide ((0 : Int) = -1 ∨ (0 : Int) = 0 ∨ (0 : Int) = 1) = true from rfl] at q
    rw [if_pos (by decide)] at gn
    simp only [Ch.go, if_true] at gn
    rcases ok.s with hs | hs
    · rw [if_pos hs] at gn
      rw [hs] at z0
      simp -implicitDefEqProofs -dsimp (maxSteps := 10000000) only [af8_l0, ↓goes_loop, ↓goes_seq, ↓goes_reg, ↓goes_dreg, ↓goes_preg, ↓goes_cond, ↓goes_block, ↓goes_skip, ↓goes_exit, ↓goes_ret, after_some, br_true, br_false, ↓then_normal, ↓then_exit, ↓then_ret, ↓blk_normal, ↓blk_exit, ↓blk_ret, ↓blk_other, ops_nil, ops_some, ops_none, oper_none, oper_some, gd_tt, gd_ff, gd_tf, gd_ft, gd_undef, ↓any_op, ↓any_call, ↓any_callV, ↓any_invoke, xo_t, xo_c, args_nil, args_cons, bin_add, bin_sub, bin_mul, bin_quo, bin_rem, bin_and, bin_or, bin_xor, bin_andNot, bin_eql, bin_neq, bin_lss, bin_leq, bin_gtr, bin_geq, bin_shl, bin_shr, bin_bools, bin_strs, bin_ptrs, bin_slices, bin_aggs, ↓Option.bind_some, ↓Option.map_some, ↓cond_true, ↓cond_false, evC, evOp, XO.lit, setArgs, Tr.get_set, Option.bind_some, Option.map_some, cond_true, cond_false, maxI, maxFrom, minI, minFrom, aConv, aBinE, aEq, eqScal, aUn, evRes, fin, oneOf, if_true, if_false, callee, reduceCtorEq, Nat.reduceEqDiff, and_self, decide_true, decide_false, beq_true, beq_false, Bool.not_true, Bool.not_false, List.getElem?_cons_zero, List.getElem?_cons_succ, beq_self_eq_true, gt_iff_lt, ble_dec, beq_dec, List.head?_cons, AV.undef, eq_self, ne_eq, not_true_eq_false, not_false_eq_true, Int.reduceLT, Int.reduceLE, Int.reduceToNat, Int.reduceEq, Int.reduceNeg, Nat.reduceAdd, Nat.reduceLT, Nat.reduceLeDiff, Nat.reduceMul, Nat.reduceSub, ↓evDraw_nil, bir, putD, evDraw, trace, List.all_cons, List.all_nil, chk, stAt, again, sameV, sameL, sameA, AV.undef, Bool.and_self, Bool.and_true, decide_eq_true_eq, List.getElem?_nil, AV.cells, AV.tup, Bool.true_and, true_and, and_true, List.drop_nil, List.append_nil, rd_put, rd_alloc, rdO, St.get_put, St.get_alloc, St.next_put, St.next_alloc, St.wr, Bool.and_self, Bool.and_true, List.length_cons, List.length_nil, List.take_succ_cons, List.take_zero, List.drop_succ_cons, List.drop_zero, List.cons_append, List.nil_append, Nat.zero_add, Nat.add_zero, Nat.reduceMul, t0, t5, t14, t15, t16, c1, hix, hz, hn, q, z0, z2, rG, cI, r5, g5', n0, m0, w10, wj, i20, i21, i40, i41, c2n]
      refine fin gn ?_ ?_ ?_ ?_ ?_ ?_ <;> simp only [Tr.get_set, Nat.reduceEqDiff, if_false, if_true, t0, t4, t5, t14, t15]
    · rw [if_neg (by rw [hs]; decide)] at gn
      rw [hs] at z0
      simp -implicitDefEqProofs -dsimp (maxSteps := 10000000) only [af8_l0, ↓goes_loop, ↓goes_seq, ↓goes_reg, ↓goes_dreg, ↓goes_preg, ↓goes_cond, ↓goes_block, ↓goes_skip, ↓goes_exit, ↓goes_ret, after_some, br_true, br_false, ↓then_normal, ↓then_exit, ↓then_ret, ↓blk_normal, ↓blk_exit, ↓blk_ret, ↓blk_other, ops_nil, ops_some, ops_none, oper_none, oper_some, gd_tt, gd_ff, gd_tf, gd_ft, gd_undef, ↓any_op, ↓any_call, ↓any_callV, ↓any_invoke, xo_t, xo_c, args_nil, args_cons, bin_add, bin_sub, bin_mul, bin_quo, bin_rem, bin_and, bin_or, bin_xor, bin_andNot, bin_eql, bin_neq, bin_lss, bin_leq, bin_gtr, bin_geq, bin_shl, bin_shr, bin_bools, bin_strs, bin_ptrs, bin_slices, bin_aggs, ↓Option.bind_some, ↓Option.map_some, ↓cond_true, ↓cond_false, evC, evOp, XO.lit, setArgs, Tr.get_set, Option.bind_some, Option.map_some, cond_true, cond_false, maxI, maxFrom, minI, minFrom, aConv, aBinE, aEq, eqScal, aUn, evRes, fin, oneOf, if_true, if_false, callee, reduceCtorEq, Nat.reduceEqDiff, and_self, decide_true, decide_false, beq_true, beq_false, Bool.not_true, Bool.not_false, List.getElem?_cons_zero, List.getElem?_cons_succ, beq_self_eq_true, gt_iff_lt, ble_dec, beq_dec, List.head?_cons, AV.undef, eq_self, ne_eq, not_true_eq_false, not_false_eq_true, Int.reduceLT, Int.reduceLE, Int.reduceToNat, Int.reduceEq, Int.reduceNeg, Nat.reduceAdd, Nat.reduceLT, Nat.reduceLeDiff, Nat.reduceMul, Nat.reduceSub, ↓evDraw_nil, bir, putD, evDraw, trace, List.all_cons, List.all_nil, chk, stAt, again, sameV, sameL, sameA, AV.undef, Bool.and_self, Bool.and_true, decide_eq_true_eq, List.getElem?_nil, AV.cells, AV.tup, Bool.true_and, true_and, and_true, List.drop_nil, List.append_nil, rd_put, rd_alloc, rdO, St.get_put, St.get_alloc, St.next_put, St.next_alloc, St.wr, Bool.and_self, Bool.and_true, List.length_cons, List.length_nil, List.take_succ_cons, List.take_zero, List.drop_succ_cons, List.drop_zero, List.cons_append, List.nil_append, Nat.zero_add, Nat.add_zero, Nat.reduceMul, t0, t5, t14, t15, t16, c1, hix, hz, hn, q, z0, z2, rG, cI, r5, g5', n0, m0, w20, wj, i20, i21, i40, i41, c2n]
      refine fin gn ?_ ?_ ?_ ?_ ?_ ?_ <;> simp only [Tr.get_set, Nat.reduceEqDiff, if_false, if_true, t0, t4, t5, t14, t15]
  · rw [show decide ((1 : Int) = -1 ∨ (1 : Int) = 0 ∨ (1 : Int) = 1) = true from rfl] at q
    rw [if_pos (by decide)] at gn
    simp only [Ch.go, show ¬ (1 : Int) = 0 from by decide, if_false] at gn
    rcases ok.s with hs | hs
    · rw [if_pos hs] at gn
      rw [hs] at z0
      simp -implicitDefEqProofs -dsimp (maxSteps := 10000000) only [af8_l0, ↓goes_loop, ↓goes_seq, ↓goes_reg, ↓goes_dreg, ↓goes_preg, ↓goes_cond, ↓goes_block, ↓goes_skip, ↓goes_exit, ↓goes_ret, after_some, br_true, br_false, ↓then_normal, ↓then_exit, ↓then_ret, ↓blk_normal, ↓blk_exit, ↓blk_ret, ↓blk_other, ops_nil, ops_some, ops_none, oper_none, oper_some, gd_tt, gd_ff, gd_tf, gd_ft, gd_undef, ↓any_op, ↓any_call, ↓any_callV, ↓any_invoke, xo_t, xo_c, args_nil, args_cons, bin_add, bin_sub, bin_mul, bin_quo, bin_rem, bin_and, bin_or, bin_xor, bin_andNot, bin_eql, bin_neq, bin_lss, bin_leq, bin_gtr, bin_geq, bin_shl, bin_shr, bin_bools, bin_strs, bin_ptrs, bin_slices, bin_aggs, ↓Option.bind_some, ↓Option.map_some, ↓cond_true, ↓cond_false, evC, evOp, XO.lit, setArgs, Tr.get_set, Option.bind_some, Option.map_some, cond_true, cond_false, maxI, maxFrom, minI, minFrom, aConv, aBinE, aEq, eqScal, aUn, evRes, fin, oneOf, if_true, if_false, callee, reduceCtorEq, Nat.reduceEqDiff, and_self, decide_true, decide_false, beq_true, beq_false, Bool.not_true, Bool.not_false, List.getElem?_cons_zero, List.getElem?_cons_succ, beq_self_eq_true, gt_iff_lt, ble_dec, beq_dec, List.head?_cons, AV.undef, eq_self, ne_eq, not_true_eq_false, not_false_eq_true, Int.reduceLT, Int.reduceLE, Int.reduceToNat, Int.reduceEq, Int.reduceNeg, Nat.reduceAdd, Nat.reduceLT, Nat.reduceLeDiff, Nat.reduceMul, Nat.reduceSub, ↓evDraw_nil, bir, putD, evDraw, trace, List.all_cons, List.all_nil, chk, stAt, again, sameV, sameL, sameA, AV.undef, Bool.and_self, Bool.and_true, decide_eq_true_eq, List.getElem?_nil, AV.cells, AV.tup, Bool.true_and, true_and, and_true, List.drop_nil, List.append_nil, rd_put, rd_alloc, rdO, St.get_put, St.get_alloc, St.next_put, St.next_alloc, St.wr, Bool.and_self, Bool.and_true, List.length_cons, List.length_nil, List.take_succ_cons, List.take_zero, List.drop_succ_cons, List.drop_zero, List.cons_append, List.nil_append, Nat.zero_add, Nat.add_zero, Nat.reduceMul, t0, t5, t14, t15, t16, c1, hix, hz, hn, q, z0, z2, rG, cI, r5, g5', n1, m1, w11, wj, i20, i21, i40, i41, c2n]
      refine fin gn ?_ ?_ ?_ ?_ ?_ ?_ <;> simp only [Tr.get_set, Nat.reduceEqDiff, if_false, if_true, t0, t4, t5, t14, t15]
    · rw [if_neg (by rw [hs]; decide)] at gn
      rw [hs] at z0
      simp -implicitDefEqProofs -dsimp (maxSteps := 10000000) only [af8_l0, ↓goes_loop, ↓goes_seq, ↓goes_reg, ↓goes_dreg, ↓goes_preg, ↓goes_cond, ↓goes_block, ↓goes_skip, ↓goes_exit, ↓goes_ret, after_some, br_true, br_false, ↓then_normal, ↓then_exit, ↓then_ret, ↓blk_normal, ↓blk_exit, ↓blk_ret, ↓blk_other, ops_nil, ops_some, ops_none, oper_none, oper_some, gd_tt, gd_ff, gd_tf, gd_ft, gd_undef, ↓any_op, ↓any_call, ↓any_callV, ↓any_invoke, xo_t, xo_c, args_nil, args_cons, bin_add, bin_sub, bin_mul, bin_quo, bin_rem, bin_and, bin_or, bin_xor, bin_andNot, bin_eql, bin_neq, bin_lss, bin_leq, bin_gtr, bin_geq, bin_shl, bin_shr, bin_bools, bin_strs, bin_ptrs, bin_slices, bin_aggs, ↓Option.bind_some, ↓Option.map_some, ↓cond_true, ↓cond_false, evC, evOp, XO.lit, setArgs, Tr.get_set, Option.bind_some, Option.map_some, cond_true, cond_false, maxI, maxFrom, minI, minFrom, aConv, aBinE, aEq, eqScal, aUn, evRes, fin, oneOf, if_true, if_false, callee, reduceCtorEq, Nat.reduceEqDiff, and_self, decide_true, decide_false, beq_true, beq_false, Bool.not_true, Bool.not_false, List.getElem?_cons_zero, List.getElem?_cons_succ, beq_self_eq_true, gt_iff_lt, ble_dec, beq_dec, List.head?_cons, AV.undef, eq_self, ne_eq, not_true_eq_false, not_false_eq_true, Int.reduceLT, Int.reduceLE, Int.reduceToNat, Int.reduceEq, Int.reduceNeg, Nat.reduceAdd, Nat.reduceLT, Nat.reduceLeDiff, Nat.reduceMul, Nat.reduceSub, ↓evDraw_nil, bir, putD, evDraw, trace, List.all_cons, List.all_nil, chk, stAt, again, sameV, sameL, sameA, AV.undef, Bool.and_self, Bool.and_true, decide_eq_true_eq, List.getElem?_nil, AV.cells, AV.tup, Bool.true_and, true_and, and_true, List.drop_nil, List.append_nil, rd_put, rd_alloc, rdO, St.get_put, St.get_alloc, St.next_put, St.next_alloc, St.wr, Bool.and_self, Bool.and_true, List.length_cons, List.length_nil, List.take_succ_cons, List.take_zero, List.drop_succ_cons, List.drop_zero, List.cons_append, List.nil_append, Nat.zero_add, Nat.add_zero, Nat.reduceMul, t0, t5, t14, t15, t16, c1, hix, hz, hn, q, z0, z2, rG, cI, r5, g5', n1, m1, w21, wj, i20, i21, i40, i41, c2n]
      refine fin gn ?_ ?_ ?_ ?_ ?_ ?_ <;> simp only [Tr.get_set, Nat.reduceEqDiff, if_false, if_true, t0, t4, t5, t14, t15]
set_option maxHeartbeats 4000000 in
theorem T8 (k : Nat) {S : St} {o v on vn m : Nat} {cl cn : Option Nat} {L : Nat → Ch} {C G : Nat → Nat} {N : Nat → Int} {B : Nat} (hm : m ≤ 8) (hB : B ≤ S.next) (hL : Lay S o v m L C G B) (hN : Rw S on vn m N) (hp : ∀ j, j < m → Pos (N j)) :
    ∃ w S', evF Y AP (k + 11) 8 [.slice (some (o, v, 0)) m 3 cl, .slice (some (on, vn, 0)) m 1 cn] S = some (w, S') ∧ (w = .agg (r4 (goodTo L N m)) ∧ Ext S S') := by
  refine evF_goes (af := af8) (k := k + 10) rfl rfl rfl ?_
  have mx : m ≤ 9223372036854775807 := by omega
  have h0 : 0 ≤ (m : Int) := by omega
  have hll : (m : Int) ≤ (m : Int) := Int.le_refl _
  obtain ⟨A, hA⟩ : ∃ A, S.alloc (.cells [.int .i64 0, .int .i64 0, .int .i64 0, .int .i64 0] 0 0 true) = A := ⟨_, rfl⟩
  have eA : Ext S A := hA ▸ .alloc _ _
  have nA : A.next = S.next + 1 := by rw [← hA]; rfl
  have gA : A.get S.next = some (r4O (0, 0)) := by rw [← hA, St.get_alloc, if_pos rfl]; rfl
  obtain ⟨D, hD⟩ : ∃ D, A.alloc (.cells [.int .i64 0, .int .i64 0, .int .i64 0, .int .i64 0] 0 0 true) = D := ⟨_, rfl⟩
  have eD : Ext A D := hD ▸ .alloc _ _
  have nD : D.next = S.next + 2 := by rw [← hD]; show A.next + 1 = _; omega
  have gD : D.get (S.next + 1) = some (r4O (0, 0)) := by rw [← nA, ← hD, St.get_alloc, if_pos rfl]; rfl
  simp -implicitDefEqProofs -dsimp (maxSteps := 10000000) only [af8, ↓goes_loop, ↓goes_seq, ↓goes_reg, ↓goes_dreg, ↓goes_preg, ↓goes_cond, ↓goes_block, ↓goes_skip, ↓goes_exit, ↓goes_ret, after_some, br_true, br_false, ↓then_normal, ↓then_exit, ↓then_ret, ↓blk_normal, ↓blk_exit, ↓blk_ret, ↓blk_other, ops_nil, ops_some, ops_none, oper_none, oper_some, gd_tt, gd_ff, gd_tf, gd_ft, gd_undef, ↓any_op, ↓any_call, ↓any_callV, ↓any_invoke, xo_t, xo_c, args_nil, args_cons, bin_add, bin_sub, bin_mul, bin_quo, bin_rem, bin_and, bin_or, bin_xor, bin_andNot, bin_eql, bin_neq, bin_lss, bin_leq, bin_gtr, bin_geq, bin_shl, bin_shr, bin_bools, bin_strs, bin_ptrs, bin_slices, bin_aggs, ↓Option.bind_some, ↓Option.map_some, ↓cond_true, ↓cond_false, evC, evOp, XO.lit, setArgs, Tr.tabG, Tr.tabS, Tr.tabL, Tr.get_lf, Option.bind_some, Option.map_some, cond_true, cond_false, maxI, maxFrom, minI, minFrom, aConv, aBinE, aEq, eqScal, aUn, evRes, fin, oneOf, if_true, if_false, callee, reduceCtorEq, Nat.reduceEqDiff, and_self, decide_true, decide_false, beq_true, beq_false, Bool.not_true, Bool.not_false, List.getElem?_cons_zero, List.getElem?_cons_succ, beq_self_eq_true, gt_iff_lt, ble_dec, beq_dec, List.head?_cons, AV.undef, eq_self, ne_eq, not_true_eq_false, not_false_eq_true, Int.reduceLT, Int.reduceLE, Int.reduceToNat, Int.reduceEq, Int.reduceNeg, Nat.reduceAdd, Nat.reduceLT, Nat.reduceLeDiff, Nat.reduceMul, Nat.reduceSub, aFill, evParts, rep, List.replicate_succ, List.replicate_zero, List.flatten_cons, List.flatten_nil, List.append_nil, newSl, newVar, List.length_cons, List.length_nil, Nat.zero_add, hA, hD, nA, mx, mnL, aCut, bnd, evOpt, and_self, if_true, h0, hll, Int.toNat_natCast, Option.isSome_none, Nat.zero_mul, Nat.add_zero, Nat.sub_zero]
  refine .while (I276 o v on vn m cl _ L N S) id m ⟨rfl, rfl, rfl, rfl, rfl, eA.trans eD, by omega, eD.get (by omega) gA, 0, rfl, by omega, gD⟩ (by show m < k + 10; omega) fun r2 T2 S2 h2 => (round276 k hm hB hL hN hp r2 T2 S2 h2).mono ?_
  intro e T' S' h
  cases e with
  | normal => exact h
  | ret => exact absurd h.1 (by simp)
  | exit i =>
    obtain ⟨e1, ⟨t0, t14, t15, t4, t5, ex, nx, g4, j, t16, hr, g5⟩⟩ := h
    cases e1
    obtain rfl : j = m := by omega
    have r5 : ∀ v i n, S'.rd (S.next + 1) v i n = rdO (r4O (goodTo L N j)) v i n := rd_of g5
    unfold r4O r4 at r5
    have g4' := g4
    unfold r4O r4 at g4'
    simp -implicitDefEqProofs -dsimp (maxSteps := 10000000) only [↓goes_loop, ↓goes_seq, ↓goes_reg, ↓goes_dreg, ↓goes_preg, ↓goes_cond, ↓goes_block, ↓goes_skip, ↓goes_exit, ↓goes_ret, after_some, br_true, br_false, ↓then_normal, ↓then_exit, ↓then_ret, ↓blk_normal, ↓blk_exit, ↓blk_ret, ↓blk_other, ops_nil, ops_some, ops_none, oper_none, oper_some, gd_tt, gd_ff, gd_tf, gd_ft, gd_undef, ↓any_op, ↓any_call, ↓any_callV, ↓any_invoke, xo_t, xo_c, args_nil, args_cons, bin_add, bin_sub, bin_mul, bin_quo, bin_rem, bin_and, bin_or, bin_xor, bin_andNot, bin_eql, bin_neq, bin_lss, bin_leq, bin_gtr, bin_geq, bin_shl, bin_shr, bin_bools, bin_strs, bin_ptrs, bin_slices, bin_aggs, ↓Option.bind_some, ↓Option.map_some, ↓cond_true, ↓cond_false, evC, evOp, XO.lit, setArgs, Tr.get_set, Option.bind_some, Option.map_some, cond_true, cond_false, maxI, maxFrom, minI, minFrom, aConv, aBinE, aEq, eqScal, aUn, evRes, fin, oneOf, if_true, if_false, callee, reduceCtorEq, Nat.reduceEqDiff, and_self, decide_true, decide_false, beq_true, beq_false, Bool.not_true, Bool.not_false, List.getElem?_cons_zero, List.getElem?_cons_succ, beq_self_eq_true, gt_iff_lt, ble_dec, beq_dec, List.head?_cons, AV.undef, eq_self, ne_eq, not_true_eq_false, not_false_eq_true, Int.reduceLT, Int.reduceLE, Int.reduceToNat, Int.reduceEq, Int.reduceNeg, Nat.reduceAdd, Nat.reduceLT, Nat.reduceLeDiff, Nat.reduceMul, Nat.reduceSub, AV.cells, AV.tup, Bool.true_and, true_and, and_true, List.drop_nil, List.append_nil, rd_put, rd_alloc, rdO, St.get_put, St.get_alloc, St.next_put, St.next_alloc, St.wr, Bool.and_self, Bool.and_true, List.length_cons, List.length_nil, List.take_succ_cons, List.take_zero, List.drop_succ_cons, List.drop_zero, List.cons_append, List.nil_append, Nat.zero_add, Nat.add_zero, Nat.reduceMul, t4, t5, r5, g4']
    exact ⟨_, _, rfl, rfl, ex.then_put (Nat.le_refl _) _⟩
end Go.Proofs.YtajakdllbpnnpaaGreatA
