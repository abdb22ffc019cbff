/- Chapter 1: rows of bytes: that are read, that grow; what the functions come to. -/
import Derived.Test.YtkjmhhoioanolaaAeS8
import Derived.Test.YtkjmhhoioanolaaPcB
set_option linter.unusedVariables false
set_option linter.unusedSimpArgs false
set_option maxRecDepth 10000
namespace Go.Proofs.YtkjmhhoioanolaaA
open Go.RowKit
attribute [local congr] bind_congr1 map_congr1 cond_congr1 withX_congr after_congr br_congr gd_congr

/-- Bytes as cells. -/
def bv (l : List Nat) : List AV := l.map fun b : Nat => .int .u8 (b : Int)
theorem bv_len (l : List Nat) : (bv l).length = l.length := List.length_map _
theorem bv_app (l m : List Nat) : bv (l ++ m) = bv l ++ bv m := List.map_append
theorem bv_drop (l : List Nat) (n : Nat) : (bv l).drop n = bv (l.drop n) := List.map_drop.symm
theorem bv_take (l : List Nat) (n : Nat) : (bv l).take n = bv (l.take n) := List.map_take.symm
def Byt (l : List Nat) : Prop := ∀ b ∈ l, b < 256
theorem strOf_bv : ∀ {l : List Nat}, Byt l → strOf (bv l) = some l
  | [], _ => rfl
  | b :: l, h => by
    have hb := h b List.mem_cons_self
    have := strOf_bv (l := l) fun x hx => h x (List.mem_cons_of_mem _ hx)
    show (byteOf (.int .u8 (b : Int))).bind (fun b => (strOf (bv l)).map (b :: ·)) = _
    rw [this]
    simp only [byteOf, Int.toNat_natCast, Nat.mod_eq_of_lt hb, Option.bind_some, Option.map_some]
theorem Byt.app {l m : List Nat} (h : Byt l) (h' : Byt m) : Byt (l ++ m) := fun b hb => (List.mem_append.1 hb).elim (h b) (h' b)
theorem Byt.sub {l : List Nat} (h : Byt l) (m n : Nat) : Byt ((l.drop m).take n) := fun b hb => h b (List.mem_of_mem_drop (List.mem_of_mem_take hb))
theorem Byt.nil : Byt [] := fun b hb => by cases hb
/-- A row of bytes that is read. -/
structure By (S : St) (p : Option (Nat × Nat × Nat)) (e : Nat) (l : List Nat) : Prop where
  ez : p = none ∨ e = 1
  nil : p = none → l = []
  at_ : ∀ o v i, p = some (o, v, i) → o < S.next ∧ S.rd o v i l.length = some (bv l)
  bd : Byt l
  mx : l.length ≤ 9223372036854775807
theorem By.ext {S S' : St} {p : Option (Nat × Nat × Nat)} {e : Nat} {l : List Nat} (h : By S p e l) (x : Ext S S') : By S' p e l :=
  ⟨h.ez, h.nil, fun o v i hp => by obtain ⟨h1, h2⟩ := h.at_ o v i hp; exact ⟨Nat.lt_of_lt_of_le h1 x.next, by rw [x.rd h1]; exact h2⟩, h.bd, h.mx⟩
theorem By.zero (S : St) (e : Nat) : By S none e [] := ⟨.inl rfl, fun _ => rfl, fun _ _ _ h => (by cases h), .nil, by simp⟩
theorem By.sub {S : St} {o v i e : Nat} {l : List Nat} (h : By S (some (o, v, i)) e l) (m n : Nat) (hm : m + n ≤ l.length) : By S (some (o, v, i + m)) e ((l.drop m).take n) := by
  obtain ⟨h1, h2⟩ := h.at_ o v i rfl
  have hl : ((l.drop m).take n).length = n := by rw [List.length_take, List.length_drop]; omega
  refine ⟨.inr (h.ez.resolve_left (by simp)), fun e => (by cases e), fun o' v' i' e => ?_, h.bd.sub m n, by have := h.mx; omega⟩
  cases e
  refine ⟨h1, ?_⟩
  rw [hl, rd_sub h2 hm, bv_drop, bv_take]
/-- A text of bytes. -/
theorem By.str {S : St} {p : Option (Nat × Nat × Nat)} {e : Nat} {l : List Nat} (h : By S p e l) (c : Option Nat) : aConv .bytesStr (.slice p l.length e c) S = some (.str l, S) := by
  rcases p with _ | ⟨o, v, i⟩
  · rw [h.nil rfl]; rfl
  · obtain rfl := h.ez.resolve_left (by simp)
    obtain ⟨_, h2⟩ := h.at_ o v i rfl
    simp only [aConv, h2, Option.bind_some, strOf_bv h.bd, Option.map_some]
/-- One byte of a row. -/
theorem By.get {S : St} {o v i e : Nat} {l : List Nat} (h : By S (some (o, v, i)) e l) {j : Nat} (hj : j < l.length) : S.rd o v (i + j) 1 = some [.int .u8 ((l[j] : Nat) : Int)] := by
  obtain ⟨_, h2⟩ := h.at_ o v i rfl
  rw [rd_sub h2 (by omega), bv_drop, bv_take, List.drop_eq_getElem_cons hj]
  rfl
/-- A part of a row. -/
theorem By.cut {S : St} {p : Option (Nat × Nat × Nat)} {e : Nat} {l : List Nat} (h : By S p e l) (c : Option Nat) {lo hi : Option AV} {a b : Nat} (hhi : bnd hi l.length l.length = some b) (hlo : bnd lo 0 b = some a) (hab : a ≤ b) (hb : b ≤ l.length) :
    ∃ p' e' c', aCut 1 (.slice p l.length e c) lo hi none = some (.slice p' ((l.drop a).take (b - a)).length e' c') ∧ By S p' e' ((l.drop a).take (b - a)) := by
  have hl : ((l.drop a).take (b - a)).length = b - a := by rw [List.length_take, List.length_drop]; omega
  rcases p with _ | ⟨o, v, i⟩
  · obtain rfl := h.nil rfl
    simp only [List.length_nil] at hhi hb
    obtain rfl : b = 0 := by omega
    obtain rfl : a = 0 := by omega
    refine ⟨none, 1, none, ?_, .zero S 1⟩
    have b0 : bnd none 0 0 = some 0 := rfl
    simp [aCut, hhi, hlo, b0]
  · obtain rfl := h.ez.resolve_left (by simp)
    have hs := h.sub a (b - a) (by omega)
    refine ⟨some (o, v, i + a), 1, c.map (· - a), ?_, hs⟩
    rw [hl]
    simp [aCut, hhi, hlo, beq_dec]
theorem bnd_some {k : IntKind} {n : Int} {d y : Nat} (h0 : 0 ≤ n) (h1 : n ≤ y) : bnd (some (.int k n)) d y = some n.toNat := by simp only [bnd]; rw [if_pos ⟨h0, h1⟩]
theorem bnd_none (d y : Nat) : bnd none d y = some d := rfl
/-- A row that grows, made since S0. -/
structure Gr (S0 S : St) (p : Option (Nat × Nat × Nat)) (e : Nat) (l : List Nat) : Prop where
  vec : Vec S p l.length 1 e (bv l)
  ext : Ext S0 S
  new : ∀ o v i, p = some (o, v, i) → S0.next ≤ o
  bd : Byt l
theorem Gr.by_ {S0 S : St} {p : Option (Nat × Nat × Nat)} {e : Nat} {l : List Nat} (h : Gr S0 S p e l) (hm : l.length ≤ 9223372036854775807) : By S p e l := by
  refine ⟨h.vec.ez, fun hp => ?_, fun o v i hp => ?_, h.bd, hm⟩
  · rcases h.vec.at_ with ⟨_, h0⟩ | ⟨o, ver, minv, hp', _⟩
    · exact List.length_eq_zero_iff.1 h0
    · rw [hp] at hp'; cases hp'
  · rcases h.vec.at_ with ⟨hp', _⟩ | ⟨o', ver, minv, hp', h1, h2, h3⟩
    · rw [hp] at hp'; cases hp'
    · rw [hp] at hp'; cases hp'
      refine ⟨h1, ?_⟩
      rw [rd_cells h2 h3 (by rw [bv_len]; omega), List.drop_zero, List.take_of_length_le (by rw [bv_len]; exact Nat.le_refl _)]
theorem Gr.zero (S0 : St) (e : Nat) : Gr S0 S0 none e [] := ⟨.nil _ _ _, .refl _, fun _ _ _ h => (by cases h), .nil⟩
theorem Gr.empty (S0 : St) : Gr S0 (S0.alloc (.cells [] 0 0 true)) (some (S0.next, 0, 0)) 1 [] :=
  ⟨⟨.inr rfl, rfl, .inr ⟨S0.next, 0, 0, rfl, Nat.lt_succ_self _, by rw [St.get_alloc, if_pos rfl]; rfl, Nat.le_refl _⟩⟩, .alloc _ _, fun o v i h => by cases h; exact Nat.le_refl _, .nil⟩
theorem Gr.more {S0 S S' : St} {p : Option (Nat × Nat × Nat)} {e : Nat} {l : List Nat} (h : Gr S0 S p e l) (x : Ext S S') : Gr S0 S' p e l := ⟨h.vec.ext x, h.ext.trans x, h.new, h.bd⟩
/-- Bytes more. -/
theorem Gr.app {S0 S : St} {p : Option (Nat × Nat × Nat)} {e : Nat} {l : List Nat} (h : Gr S0 S p e l) {m : List Nat} (hm : Byt m) (hr : l.length + m.length ≤ 140737488355328) :
    ∃ p' e' S', aAppend 1 1 S (.slice p l.length e none) m.length (bv m) = some (.slice p' (l ++ m).length e' none, S') ∧ Gr S0 S' p' e' (l ++ m) := by
  by_cases h0 : m.length = 0
  · have : m = [] := List.length_eq_zero_iff.1 h0
    subst this
    refine ⟨p, e, S, ?_, by rw [List.append_nil]; exact h⟩
    rw [List.append_nil]
    rcases p with _ | ⟨o, v, i⟩
    · simp [aAppend]
    · obtain rfl := h.vec.ez.resolve_left (by simp)
      simp [aAppend]
  · obtain ⟨p', S', h1, h2, h3, h4⟩ := h.vec.append (bytes := 1) (xs := bv m) (n := m.length) (by rw [bv_len, Nat.mul_one]) h0 (by omega)
    refine ⟨p', 1, S', by rw [h1, List.length_append], ⟨by rw [List.length_append, bv_app]; exact h2, ⟨Nat.le_trans h.ext.next h3.next, fun o ho => ?_⟩, fun o v i hp => ?_, h.bd.app hm⟩⟩
    · rw [h3.old o (Nat.lt_of_lt_of_le ho h.ext.next) (fun v i hp => by have := h.new o v i hp; omega)]
      exact h.ext.old o ho
    · rcases h4 o v i hp with h5 | ⟨v', i', h5⟩
      · exact Nat.le_trans h.ext.next h5
      · exact h.new _ _ _ h5
/-- One byte more, that lies in a row of its own. -/
theorem Gr.app1 {S0 S : St} {p : Option (Nat × Nat × Nat)} {e : Nat} {l : List Nat} (h : Gr S0 S p e l) {b : Nat} (hb : b < 256) (hr : l.length + 1 ≤ 140737488355328) :
    ∃ p' e' S', aAppend 1 1 S (.slice p l.length e none) 1 [.int .u8 (b : Int)] = some (.slice p' (l.length + 1) e' none, S') ∧ Gr S0 S' p' e' (l ++ [b]) := by
  obtain ⟨p', e', S', h1, h2⟩ := h.app (m := [b]) (fun x hx => by rw [List.mem_singleton] at hx; omega) hr
  rw [List.length_append] at h1
  exact ⟨p', e', S', h1, h2⟩
/-- A row as a value. -/
def Bs (S : St) (v : AV) (l : List Nat) : Prop := ∃ p e c, v = .slice p l.length e c ∧ By S p e l
theorem Bs.ext {S S' : St} {v : AV} {l : List Nat} (h : Bs S v l) (x : Ext S S') : Bs S' v l := let ⟨p, e, c, h1, h2⟩ := h; ⟨p, e, c, h1, h2.ext x⟩
theorem Bs.str {S : St} {v : AV} {l : List Nat} (h : Bs S v l) : aConv .bytesStr v S = some (.str l, S) := by
  obtain ⟨p, e, c, rfl, h⟩ := h
  exact h.str c
theorem Bs.zero (S : St) (e : Nat) : Bs S (.slice none 0 e none) [] := ⟨none, e, none, rfl, .zero S e⟩
section
variable {S : St} {p : Option (Nat × Nat × Nat)} {e : Nat} {c : Option Nat} {l : List Nat} (k : Nat)
/-- slices.Clone -/
theorem T19 (h : By S p e l) (hr : l.length ≤ 140737488355328) : ∃ p' e' S', evF Y AP (k + 3) 19 [.slice p l.length e c] S = some (.slice p' l.length e' none, S') ∧ Gr S S' p' e' l := by
  rcases p with _ | ⟨o, v, i⟩
  · obtain rfl := h.nil rfl
    refine ⟨none, 0, S, ?_, .zero _ _⟩
    rw [evF_body (af := af19) rfl rfl rfl]
    simp -implicitDefEqProofs -dsimp (maxSteps := 10000000) only [af19, ops_nil, ops_some, ops_none, oper_none, oper_some, gd_tt, gd_ff, gd_tf, gd_ft, gd_undef, ↓any_op, ↓any_call, ↓any_callV, ↓any_invoke, xo_t, xo_c, args_nil, args_cons, bin_add, bin_sub, bin_mul, bin_quo, bin_rem, bin_and, bin_or, bin_xor, bin_andNot, bin_eql, bin_neq, bin_lss, bin_leq, bin_gtr, bin_geq, bin_shl, bin_shr, bin_bools, bin_strs, bin_ptrs, bin_slices, bin_aggs, ↓Option.bind_some, ↓Option.map_some, ↓cond_true, ↓cond_false, evC, evOp, XO.lit, setArgs, Tr.tabG, Tr.tabS, Tr.tabL, Tr.get_lf, Option.bind_some, Option.map_some, cond_true, cond_false, maxI, maxFrom, minI, minFrom, aConv, aBinE, aEq, eqScal, aUn, evRes, fin, oneOf, if_true, if_false, callee, reduceCtorEq, Nat.reduceEqDiff, and_self, decide_true, decide_false, beq_true, beq_false, Bool.not_true, Bool.not_false, List.getElem?_cons_zero, List.getElem?_cons_succ, beq_self_eq_true, gt_iff_lt, ble_dec, beq_dec, List.head?_cons, AV.undef, eq_self, ne_eq, not_true_eq_false, not_false_eq_true, Int.reduceLT, Int.reduceLE, Int.reduceToNat, Int.reduceEq, Int.reduceNeg, Nat.reduceAdd, Nat.reduceLT, Nat.reduceLeDiff, Nat.reduceMul, Nat.reduceSub, ↓evDraw_nil, bir, putD, evDraw, trace, List.all_cons, List.all_nil, chk, stAt, again, sameV, sameL, sameA, AV.undef, Bool.and_self, Bool.and_true, decide_eq_true_eq, List.getElem?_nil, aFill, evParts, rep, List.replicate_succ, List.replicate_zero, List.flatten_cons, List.flatten_nil, List.append_nil, newSl, newVar, Option.isNone_none, List.length_nil]
  · obtain rfl := h.ez.resolve_left (by simp)
    obtain ⟨h1, h2⟩ := h.at_ o v i rfl
    obtain ⟨p', e', S', h3, h4⟩ := (Gr.empty S).app h.bd (by simpa using hr)
    rw [List.nil_append] at h3 h4
    have h5 : (S.alloc (.cells [] 0 0 true)).rd o v i l.length = some (bv l) := by
      rw [rd_alloc, if_neg (by omega)]; exact h2
    refine ⟨p', e', S', ?_, h4⟩
    rw [evF_body (af := af19) rfl rfl rfl]
    simp only [List.length_nil] at h3
    simp -implicitDefEqProofs -dsimp (maxSteps := 10000000) only [af19, ops_nil, ops_some, ops_none, oper_none, oper_some, gd_tt, gd_ff, gd_tf, gd_ft, gd_undef, ↓any_op, ↓any_call, ↓any_callV, ↓any_invoke, xo_t, xo_c, args_nil, args_cons, bin_add, bin_sub, bin_mul, bin_quo, bin_rem, bin_and, bin_or, bin_xor, bin_andNot, bin_eql, bin_neq, bin_lss, bin_leq, bin_gtr, bin_geq, bin_shl, bin_shr, bin_bools, bin_strs, bin_ptrs, bin_slices, bin_aggs, ↓Option.bind_some, ↓Option.map_some, ↓cond_true, ↓cond_false, evC, evOp, XO.lit, setArgs, Tr.tabG, Tr.tabS, Tr.tabL, Tr.get_lf, Option.bind_some, Option.map_some, cond_true, cond_false, maxI, maxFrom, minI, minFrom, aConv, aBinE, aEq, eqScal, aUn, evRes, fin, oneOf, if_true, if_false, callee, reduceCtorEq, Nat.reduceEqDiff, and_self, decide_true, decide_false, beq_true, beq_false, Bool.not_true, Bool.not_false, List.getElem?_cons_zero, List.getElem?_cons_succ, beq_self_eq_true, gt_iff_lt, ble_dec, beq_dec, List.head?_cons, AV.undef, eq_self, ne_eq, not_true_eq_false, not_false_eq_true, Int.reduceLT, Int.reduceLE, Int.reduceToNat, Int.reduceEq, Int.reduceNeg, Nat.reduceAdd, Nat.reduceLT, Nat.reduceLeDiff, Nat.reduceMul, Nat.reduceSub, ↓evDraw_nil, bir, putD, evDraw, trace, List.all_cons, List.all_nil, chk, stAt, again, sameV, sameL, sameA, AV.undef, Bool.and_self, Bool.and_true, decide_eq_true_eq, List.getElem?_nil, aFill, evParts, rep, List.replicate_succ, List.replicate_zero, List.flatten_cons, List.flatten_nil, List.append_nil, newSl, newVar, Option.isNone_some, h3, h5, h2, Nat.mul_one, Nat.zero_mul]
end
end Go.Proofs.YtkjmhhoioanolaaA
