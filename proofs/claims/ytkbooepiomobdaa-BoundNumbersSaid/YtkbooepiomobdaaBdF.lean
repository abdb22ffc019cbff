/- Chapter 13: what bounds. -/
import Derived.Test.YtkbooepiomobdaaBdE
set_option linter.unusedVariables false
set_option linter.unusedSimpArgs false
set_option maxRecDepth 10000
namespace Go.Proofs.YtkbooepiomobdaaA
open Go.RowKit
attribute [local congr] bind_congr1 map_congr1 cond_congr1 withX_congr after_congr br_congr gd_congr

theorem Vec.else_ {S S' : St} {p : Option (Nat × Nat × Nat)} {len esz z : Nat} {c : List AV} (h : Vec S p len esz z c) (hn : S.next ≤ S'.next) (hg : ∀ o v i, p = some (o, v, i) → S'.get o = S.get o) : Vec S' p len esz z c :=
  ⟨h.ez, h.sz, h.at_.imp_right fun ⟨o, ver, minv, h1, h2, h3, h4⟩ => ⟨o, ver, minv, h1, Nat.lt_of_lt_of_le h2 hn, by rw [hg o ver 0 h1]; exact h3, h4⟩⟩
/-- A row that grows beside an object om that is turned. -/
structure Go2 (Sb S : St) (om : Nat) (t : Tp) (p : Option (Nat × Nat × Nat)) (e : Nat) (l : List Tp) : Prop where
  vec : Vec S p l.length 3 e (tcs l)
  ext : Ext Sb S
  new : ∀ o v i, p = some (o, v, i) → Sb.next ≤ o ∧ ¬ o = om
  gm : S.get om = some (cell t)
  om0 : Sb.next ≤ om
  om1 : om < S.next
theorem Go2.more {Sb S S' : St} {om : Nat} {t : Tp} {p : Option (Nat × Nat × Nat)} {e : Nat} {l : List Tp} (h : Go2 Sb S om t p e l) (x : Ext S S') : Go2 Sb S' om t p e l :=
  ⟨h.vec.ext x, h.ext.trans x, h.new, x.get h.om1 h.gm, h.om0, Nat.lt_of_lt_of_le h.om1 x.next⟩
theorem Go2.put {Sb S : St} {om : Nat} {t : Tp} {p : Option (Nat × Nat × Nat)} {e : Nat} {l : List Tp} (h : Go2 Sb S om t p e l) (u : Tp) : Go2 Sb (S.put om (cell u)) om u p e l :=
  ⟨h.vec.else_ (Nat.le_refl _) fun o v i hp => by rw [St.get_put, if_neg (h.new o v i hp).2], h.ext.then_put h.om0 _, h.new, by rw [St.get_put, if_pos rfl], h.om0, h.om1⟩
theorem Go2.app1 {Sb S : St} {om : Nat} {u : Tp} {p : Option (Nat × Nat × Nat)} {e : Nat} {l : List Tp} (h : Go2 Sb S om u p e l) (t : Tp) (hr : l.length ≤ 100000) :
    ∃ p' S', aAppend 3 24 S (.slice p l.length e none) 1 [.int .u32 t.o, .int .u64 t.r, .int .i64 t.v] = some (.slice p' (l.length + 1) 3 none, S') ∧ Go2 Sb S' om u p' 3 (l ++ [t]) := by
  obtain ⟨p', S', h1, h2, h3, h4⟩ := h.vec.append (bytes := 24) (xs := tcs [t]) (n := 1) (tcs_len [t]) (by decide) (by omega)
  have hne : ∀ v i, p ≠ some (om, v, i) := fun v i hp => (h.new _ _ _ hp).2 rfl
  refine ⟨p', S', h1, ⟨by rw [List.length_append, tcs_app]; exact h2, ⟨Nat.le_trans h.ext.next h3.next, fun o ho => ?_⟩, fun o v i hp => ?_, by rw [h3.old _ h.om1 hne]; exact h.gm, h.om0, Nat.lt_of_lt_of_le h.om1 h3.next⟩⟩
  · rw [h3.old o (Nat.lt_of_lt_of_le ho h.ext.next) (fun v i hp => by have := (h.new o v i hp).1; omega)]
    exact h.ext.old o ho
  · rcases h4 o v i hp with h5 | ⟨v', i', h5⟩
    · have := h.om1; have := h.ext.next; exact ⟨by omega, by omega⟩
    · exact h.new _ _ _ h5
theorem Go2.gt {Sb S : St} {om : Nat} {t : Tp} {p : Option (Nat × Nat × Nat)} {e : Nat} {l : List Tp} (h : Go2 Sb S om t p e l) : Gt Sb S p e l := ⟨h.vec, h.ext, fun o v i hp => (h.new o v i hp).1⟩
/-- Where a chain stands. -/
inductive Stand (l : List Tp) (s0 : Tp) : List Tp → Tp → Bool → Nat → Prop
  | go (done : List Tp) (s : Tp) (m : Nat) (h1 : s ∈ l) (h2 : InvL l s) (h3 : (m : Int) = 512 - s.v) (h4 : done.length + m ≤ 512) (h5 : ∀ c, Chain l s c → Chain l s0 (done ++ c)) : Stand l s0 done s true m
  | stop (done : List Tp) (s : Tp) (h : Chain l s0 done) (h4 : done.length ≤ 512) : Stand l s0 done s false 0
/-- A step. -/
theorem Stand.step {l : List Tp} {s0 s : Tp} {done : List Tp} {m : Nat} (hl : ∀ t ∈ l, OkH t) (h1 : s ∈ l) (h2 : InvL l s) (h3 : (m : Int) = 512 - s.v) (h4 : done.length + m ≤ 512) (h5 : ∀ c, Chain l s c → Chain l s0 (done ++ c)) :
    ∃ m', Stand l s0 (done ++ [s]) (nextT l s) (nextB l s) m' ∧ m' < m := by
  have hs1 := (hl s h1).v1
  have hln : (done ++ [s]).length = done.length + 1 := by rw [List.length_append]; rfl
  cases hb : nextB l s with
  | false =>
    refine ⟨0, .stop _ _ (h5 [s] (.stop s ?_)) (by omega), by omega⟩
    rw [← Bool.not_eq_true, nextB_iff] at hb
    by_cases h0 : restP l s = []
    · exact .inl h0
    · exact .inr fun hm => hb ⟨h0, hm⟩
  | true =>
    obtain ⟨h0, hm⟩ := nextB_iff.1 hb
    have ht : nextT l s = bestP l s := by unfold nextT; rw [List.isEmpty_eq_false_iff.2 h0]; rfl
    obtain ⟨hb1, hb2⟩ := best_mem h0
    have hb3 := (hl _ hb1).v1
    refine ⟨(512 - (bestP l s).v).toNat, ?_, by omega⟩
    rw [ht]
    refine .go _ _ _ hb1 (best_inv h0 h2) (by omega) (by omega) fun c hc => ?_
    have := h5 (s :: c) (.step s c h0 hm hc)
    rw [List.append_assoc]; exact this
/-- What bounds a row. -/
def SetP (l r : List Tp) : Prop := l = [] ∧ r = [] ∨ l ≠ [] ∧ Chain (l.map heldT) (minL (ltI leastI) (l.map heldT)) r
theorem SetP.det {l r r' : List Tp} (h : SetP l r) (h' : SetP l r') : r = r' := by
  rcases h with ⟨h0, h1⟩ | ⟨h0, h1⟩ <;> rcases h' with ⟨h0', h1'⟩ | ⟨h0', h1'⟩
  · rw [h1, h1']
  · exact absurd h0 h0'
  · exact absurd h0' h0
  · exact h1.det h1'
structure I12 (p : Option (Nat × Nat × Nat)) (e om : Nat) (l : List Tp) (s0 : Tp) (Sb : St) (m : Nat) (T : Tm) (S : St) : Prop where
  t3 : T.get 3 = some (.slice p l.length e none)
  t4 : T.get 4 = some (pt3 om)
  more : ∃ (n : Nat) (done : List Tp) (s : Tp) (ok : Bool) (po : Option (Nat × Nat × Nat)) (eo : Nat), T.get 6 = some (.bool ok) ∧ T.get 5 = some (.slice po n eo none) ∧ n = done.length ∧ Go2 Sb S om s po eo done ∧ Stand l s0 done s ok m
set_option maxHeartbeats 4000000 in
theorem round12 (k : Nat) {p : Option (Nat × Nat × Nat)} {e om : Nat} {l : List Tp} {s0 : Tp} {Sb : St} (h : Ty Sb p e l) (hn : l.length ≤ 1000) (hl : ∀ t ∈ l, OkH t) (m : Nat) (T : Tm) (S : St) (hI : I12 p e om l s0 Sb m T S) :
    Goes (evF Y AP (k + 1101)) (k + 1101) af12_l0 T S (Then (fun T' S' => ∃ m', I12 p e om l s0 Sb m' T' S' ∧ id m' < id m) fun r T' S' => r = .exit 0 ∧ ∃ n done po eo, T'.get 5 = some (.slice po n eo none) ∧ n = done.length ∧ Gt Sb S' po eo done ∧ Chain l s0 done ∧ done.length ≤ 512) := by
  obtain ⟨t3, t4, n, done, s, ok, po, eo, t6, t5, hnn, G, st⟩ := hI
  cases st with
  | stop hc h4 =>
    simp -implicitDefEqProofs -dsimp (maxSteps := 10000000) only [af12_l0, ↓goes_loop, ↓goes_seq, ↓goes_reg, ↓goes_dreg, ↓goes_cond, ↓goes_block, ↓goes_skip, ↓goes_exit, ↓goes_ret, after_some, br_true, br_false, ↓then_normal, ↓then_exit, ↓then_ret, ↓blk_normal, ↓blk_exit, ↓blk_ret, ↓blk_other, ops_nil, ops_some, ops_none, oper_none, oper_some, gd_tt, gd_ff, gd_tf, gd_ft, gd_undef, ↓any_op, ↓any_call, ↓any_callV, ↓any_invoke, xo_t, xo_c, args_nil, args_cons, bin_add, bin_sub, bin_mul, bin_quo, bin_rem, bin_and, bin_or, bin_xor, bin_andNot, bin_eql, bin_neq, bin_lss, bin_leq, bin_gtr, bin_geq, bin_shl, bin_shr, bin_bools, bin_strs, bin_ptrs, bin_slices, bin_aggs, ↓Option.bind_some, ↓Option.map_some, ↓cond_true, ↓cond_false, evC, evOp, XO.lit, setArgs, Tr.get_set, Option.bind_some, Option.map_some, cond_true, cond_false, maxI, maxFrom, minI, minFrom, aConv, aBinE, aEq, eqScal, aUn, evRes, fin, oneOf, if_true, if_false, callee, reduceCtorEq, Nat.reduceEqDiff, and_self, decide_true, decide_false, beq_true, beq_false, Bool.not_true, Bool.not_false, List.getElem?_cons_zero, List.getElem?_cons_succ, beq_self_eq_true, gt_iff_lt, ble_dec, beq_dec, List.head?_cons, AV.undef, eq_self, ne_eq, not_true_eq_false, not_false_eq_true, Int.reduceLT, Int.reduceLE, Int.reduceToNat, Int.reduceEq, Int.reduceNeg, Nat.reduceAdd, Nat.reduceLT, Nat.reduceLeDiff, Nat.reduceMul, Nat.reduceSub, AV.cells, AV.tup, Bool.true_and, true_and, and_true, List.drop_nil, List.append_nil, rd_put, rd_alloc, rdO, St.get_put, St.get_alloc, St.next_put, St.next_alloc, St.wr, Bool.and_self, Bool.and_true, List.length_cons, List.length_nil, List.take_succ_cons, List.take_zero, List.drop_succ_cons, List.drop_zero, List.cons_append, List.nil_append, Nat.zero_add, Nat.add_zero, Nat.reduceMul, t6]
    exact ⟨n, done, po, eo, t5, hnn, G.gt, hc, h4⟩
  | go _ h1 h2 h3 h4 h5 =>
    obtain ⟨m', st', hm'⟩ := Stand.step (s0 := s0) hl h1 h2 h3 h4 h5
    have ks := hl s h1
    have rs : ∀ v i m, S.rd om v i m = rdO (cell s) v i m := rd_of G.gm
    have om1 := G.om1
    obtain ⟨B, hB⟩ : ∃ B, S.alloc (.cells [.int .u32 s.o, .int .u64 s.r, .int .i64 s.v] 0 0 true) = B := ⟨_, rfl⟩
    have eB : Ext S B := by rw [← hB]; exact .alloc _ _
    have rB : B.rd S.next 0 0 3 = some [.int .u32 s.o, .int .u64 s.r, .int .i64 s.v] := by rw [← hB, rd_alloc, if_pos rfl]; rfl
    obtain ⟨p', S2, hap, G2⟩ := (G.more eB).app1 s (by omega)
    rw [← hnn] at hap
    have rs2 : ∀ v i m, S2.rd om v i m = rdO (cell s) v i m := rd_of G2.gm
    obtain ⟨S3, h27, x3⟩ := T27 k (c := none) (h.ext G2.ext) hn hl ks h2
    have h27 : evF Y AP (k + 1101) 27 [.slice p l.length e none, .agg [.int .u32 s.o, .int .u64 s.r, .int .i64 s.v]] S2 = _ := h27
    obtain ⟨b, hb⟩ : ∃ b, nextT l s = b := ⟨_, rfl⟩
    obtain ⟨ok', hok⟩ : ∃ b, nextB l s = b := ⟨_, rfl⟩
    rw [hb, hok] at h27 st'
    have G3 := G2.more x3
    have gm3 := G3.gm
    simp -implicitDefEqProofs -dsimp (maxSteps := 10000000) only [af12_l0, ↓goes_loop, ↓goes_seq, ↓goes_reg, ↓goes_dreg, ↓goes_cond, ↓goes_block, ↓goes_skip, ↓goes_exit, ↓goes_ret, after_some, br_true, br_false, ↓then_normal, ↓then_exit, ↓then_ret, ↓blk_normal, ↓blk_exit, ↓blk_ret, ↓blk_other, ops_nil, ops_some, ops_none, oper_none, oper_some, gd_tt, gd_ff, gd_tf, gd_ft, gd_undef, ↓any_op, ↓any_call, ↓any_callV, ↓any_invoke, xo_t, xo_c, args_nil, args_cons, bin_add, bin_sub, bin_mul, bin_quo, bin_rem, bin_and, bin_or, bin_xor, bin_andNot, bin_eql, bin_neq, bin_lss, bin_leq, bin_gtr, bin_geq, bin_shl, bin_shr, bin_bools, bin_strs, bin_ptrs, bin_slices, bin_aggs, ↓Option.bind_some, ↓Option.map_some, ↓cond_true, ↓cond_false, evC, evOp, XO.lit, setArgs, Tr.get_set, Option.bind_some, Option.map_some, cond_true, cond_false, maxI, maxFrom, minI, minFrom, aConv, aBinE, aEq, eqScal, aUn, evRes, fin, oneOf, if_true, if_false, callee, reduceCtorEq, Nat.reduceEqDiff, and_self, decide_true, decide_false, beq_true, beq_false, Bool.not_true, Bool.not_false, List.getElem?_cons_zero, List.getElem?_cons_succ, beq_self_eq_true, gt_iff_lt, ble_dec, beq_dec, List.head?_cons, AV.undef, eq_self, ne_eq, not_true_eq_false, not_false_eq_true, Int.reduceLT, Int.reduceLE, Int.reduceToNat, Int.reduceEq, Int.reduceNeg, Nat.reduceAdd, Nat.reduceLT, Nat.reduceLeDiff, Nat.reduceMul, Nat.reduceSub, AV.cells, AV.tup, Bool.true_and, true_and, and_true, List.drop_nil, List.append_nil, rd_put, rd_alloc, rdO, St.get_put, St.get_alloc, St.next_put, St.next_alloc, St.wr, Bool.and_self, Bool.and_true, List.length_cons, List.length_nil, List.take_succ_cons, List.take_zero, List.drop_succ_cons, List.drop_zero, List.cons_append, List.nil_append, Nat.zero_add, Nat.add_zero, Nat.reduceMul, aFill, evParts, rep, List.replicate_succ, List.replicate_zero, List.flatten_cons, List.flatten_nil, List.append_nil, newSl, newVar, t3, t4, t5, t6, rs, cell, hB, Nat.one_mul, rB, hap, rs2, h27, gm3]
    refine ⟨m', ⟨?_, ?_, n + 1, done ++ [s], b, ok', p', 3, ?_, ?_, by rw [List.length_append, hnn]; rfl, G3.put b, st'⟩, hm'⟩ <;> simp only [Tr.get_set, Nat.reduceEqDiff, if_false, if_true, t3, t4]
theorem Chain.exists {l : List Tp} (hl : ∀ t ∈ l, OkH t) : ∀ (n : Nat) (s : Tp), s ∈ l → 512 - s.v ≤ n → ∃ c, Chain l s c := by
  intro n
  induction n with
  | zero => intro s hs hv; have := (hl s hs).v1; omega
  | succ n ih =>
    intro s hs hv
    by_cases h : restP l s = [] ∨ ¬ meets l s
    · exact ⟨_, .stop s h⟩
    · have h0 : restP l s ≠ [] := fun e => h (.inl e)
      have h1 : meets l s := Classical.not_not.1 fun e => h (.inr e)
      obtain ⟨hb1, hb2⟩ := best_mem h0
      obtain ⟨c, hc⟩ := ih _ hb1 (by omega)
      exact ⟨_, .step s c h0 h1 hc⟩
set_option maxHeartbeats 4000000 in
theorem T12 (k : Nat) {S : St} {p : Option (Nat × Nat × Nat)} {c : Option Nat} {e : Nat} {l : List Tp} (h : Ty S p e l) (hn : l.length ≤ 1000) (hl : ∀ t ∈ l, OkT t) :
    ∃ p' e' c' S' r, evF Y AP (k + 1102) 12 [.slice p l.length e c] S = some (.slice p' r.length e' c', S') ∧ Ty S' p' e' r ∧ Ext S S' ∧ SetP l r ∧ r.length ≤ 512 := by
  have hmx := h.mx
  suffices hh : ∃ v' S', evF Y AP (k + 1102) 12 [.slice p l.length e c] S = some (v', S') ∧ ∃ p' e' c' r, v' = .slice p' r.length e' c' ∧ Ty S' p' e' r ∧ Ext S S' ∧ SetP l r ∧ r.length ≤ 512 by
    obtain ⟨v', S', h1, p', e', c', r, rfl, h2⟩ := hh; exact ⟨p', e', c', S', r, h1, h2⟩
  obtain ⟨p1, e1, S1, h21, G1⟩ := T21 (k + 1) (c := c) h hn
  have h21 : evF Y AP (k + 1101) 21 [.slice p l.length e c] S = _ := h21
  have hlen : (l.map heldT).length = l.length := List.length_map _
  have ty := G1.ty (by omega)
  have hl' : ∀ t ∈ l.map heldT, OkH t := fun t ht => by
    obtain ⟨a, ha, rfl⟩ := List.mem_map.1 ht
    exact (hl a ha).held
  refine evF_goes (af := af12) (k := k + 1101) rfl rfl rfl ?_
  by_cases c1 : l = []
  · subst c1
    rw [List.length_nil] at h21
    simp -implicitDefEqProofs -dsimp (maxSteps := 10000000) only [af12, ↓goes_loop, ↓goes_seq, ↓goes_reg, ↓goes_dreg, ↓goes_cond, ↓goes_block, ↓goes_skip, ↓goes_exit, ↓goes_ret, after_some, br_true, br_false, ↓then_normal, ↓then_exit, ↓then_ret, ↓blk_normal, ↓blk_exit, ↓blk_ret, ↓blk_other, ops_nil, ops_some, ops_none, oper_none, oper_some, gd_tt, gd_ff, gd_tf, gd_ft, gd_undef, ↓any_op, ↓any_call, ↓any_callV, ↓any_invoke, xo_t, xo_c, args_nil, args_cons, bin_add, bin_sub, bin_mul, bin_quo, bin_rem, bin_and, bin_or, bin_xor, bin_andNot, bin_eql, bin_neq, bin_lss, bin_leq, bin_gtr, bin_geq, bin_shl, bin_shr, bin_bools, bin_strs, bin_ptrs, bin_slices, bin_aggs, ↓Option.bind_some, ↓Option.map_some, ↓cond_true, ↓cond_false, evC, evOp, XO.lit, setArgs, Tr.tabG, Tr.tabS, Tr.tabL, Tr.get_lf, Option.bind_some, Option.map_some, cond_true, cond_false, maxI, maxFrom, minI, minFrom, aConv, aBinE, aEq, eqScal, aUn, evRes, fin, oneOf, if_true, if_false, callee, reduceCtorEq, Nat.reduceEqDiff, and_self, decide_true, decide_false, beq_true, beq_false, Bool.not_true, Bool.not_false, List.getElem?_cons_zero, List.getElem?_cons_succ, beq_self_eq_true, gt_iff_lt, ble_dec, beq_dec, List.head?_cons, AV.undef, eq_self, ne_eq, not_true_eq_false, not_false_eq_true, Int.reduceLT, Int.reduceLE, Int.reduceToNat, Int.reduceEq, Int.reduceNeg, Nat.reduceAdd, Nat.reduceLT, Nat.reduceLeDiff, Nat.reduceMul, Nat.reduceSub, AV.cells, AV.tup, Bool.true_and, true_and, and_true, List.drop_nil, List.append_nil, rd_put, rd_alloc, rdO, St.get_put, St.get_alloc, St.next_put, St.next_alloc, St.wr, Bool.and_self, Bool.and_true, List.length_cons, List.length_nil, List.take_succ_cons, List.take_zero, List.drop_succ_cons, List.drop_zero, List.cons_append, List.nil_append, Nat.zero_add, Nat.add_zero, Nat.reduceMul, h21, Int.natCast_zero]
    exact ⟨_, _, rfl, none, 0, none, [], rfl, .zero _ _, G1.ext, .inl ⟨rfl, rfl⟩, Nat.zero_le _⟩
  · have h0 : 0 < l.length := List.length_pos_iff.2 c1
    have hz : ¬ (l.length : Int) = 0 := by omega
    obtain ⟨S2, h22, x2⟩ := T22 (k := k + 1) (c := none) (g := 23) (caps := []) (f := leastI) ty (by omega) (by omega) fun a b S1 _ _ _ => ⟨S1, y23 (k + 1099) S1 a b, .refl _⟩
    rw [hlen] at h22
    have h22 : evF Y AP (k + 1101) 22 [.slice p1 l.length e1 none, .func 23 []] S1 = _ := h22
    have hne : l.map heldT ≠ [] := fun e => by have := congrArg List.length e; rw [hlen, List.length_nil] at this; omega
    have hmem := minL_mem (ltI leastI) hne
    have hinv := least_inv (l := l.map heldT)
    obtain ⟨L, hL⟩ : ∃ L, l.map heldT = L := ⟨_, rfl⟩
    rw [hL] at h22 hmem hinv hl' hlen
    obtain ⟨s, hs⟩ : ∃ s, minL (ltI leastI) L = s := ⟨_, rfl⟩
    rw [hs] at h22 hmem hinv
    have ks := hl' s hmem
    have := ks.v0; have := ks.v1
    obtain ⟨A, hA⟩ : ∃ A, (S2.alloc (.cells [.int .u32 0, .int .u64 0, .int .i64 0] 0 0 true)).put S2.next (.cells [.int .u32 s.o, .int .u64 s.r, .int .i64 s.v] 0 0 true) = A := ⟨_, rfl⟩
    have eA : Ext S2 A := by rw [← hA]; exact (Ext.alloc S2 _).then_put (Nat.le_refl _) _
    have nA : A.next = S2.next + 1 := by rw [← hA]; rfl
    have gA : A.get S2.next = some (cell s) := by rw [← hA, St.get_put, if_pos rfl]; rfl
    rw [hL] at ty
    simp -implicitDefEqProofs -dsimp (maxSteps := 10000000) only [af12, ↓goes_loop, ↓goes_seq, ↓goes_reg, ↓goes_dreg, ↓goes_cond, ↓goes_block, ↓goes_skip, ↓goes_exit, ↓goes_ret, after_some, br_true, br_false, ↓then_normal, ↓then_exit, ↓then_ret, ↓blk_normal, ↓blk_exit, ↓blk_ret, ↓blk_other, ops_nil, ops_some, ops_none, oper_none, oper_some, gd_tt, gd_ff, gd_tf, gd_ft, gd_undef, ↓any_op, ↓any_call, ↓any_callV, ↓any_invoke, xo_t, xo_c, args_nil, args_cons, bin_add, bin_sub, bin_mul, bin_quo, bin_rem, bin_and, bin_or, bin_xor, bin_andNot, bin_eql, bin_neq, bin_lss, bin_leq, bin_gtr, bin_geq, bin_shl, bin_shr, bin_bools, bin_strs, bin_ptrs, bin_slices, bin_aggs, ↓Option.bind_some, ↓Option.map_some, ↓cond_true, ↓cond_false, evC, evOp, XO.lit, setArgs, Tr.tabG, Tr.tabS, Tr.tabL, Tr.get_lf, Option.bind_some, Option.map_some, cond_true, cond_false, maxI, maxFrom, minI, minFrom, aConv, aBinE, aEq, eqScal, aUn, evRes, fin, oneOf, if_true, if_false, callee, reduceCtorEq, Nat.reduceEqDiff, and_self, decide_true, decide_false, beq_true, beq_false, Bool.not_true, Bool.not_false, List.getElem?_cons_zero, List.getElem?_cons_succ, beq_self_eq_true, gt_iff_lt, ble_dec, beq_dec, List.head?_cons, AV.undef, eq_self, ne_eq, not_true_eq_false, not_false_eq_true, Int.reduceLT, Int.reduceLE, Int.reduceToNat, Int.reduceEq, Int.reduceNeg, Nat.reduceAdd, Nat.reduceLT, Nat.reduceLeDiff, Nat.reduceMul, Nat.reduceSub, AV.cells, AV.tup, Bool.true_and, true_and, and_true, List.drop_nil, List.append_nil, rd_put, rd_alloc, rdO, St.get_put, St.get_alloc, St.next_put, St.next_alloc, St.wr, Bool.and_self, Bool.and_true, List.length_cons, List.length_nil, List.take_succ_cons, List.take_zero, List.drop_succ_cons, List.drop_zero, List.cons_append, List.nil_append, Nat.zero_add, Nat.add_zero, Nat.reduceMul, aFill, evParts, rep, List.replicate_succ, List.replicate_zero, List.flatten_cons, List.flatten_nil, List.append_nil, newSl, newVar, h21, hmx, hz, h22, hA]
    refine .while (I12 p1 e1 S2.next L s S2) id (512 - s.v).toNat ⟨by rw [hlen]; rfl, rfl, 0, [], s, true, none, 0, rfl, rfl, rfl, ⟨.nil _ _ _, eA, fun _ _ _ h => (by cases h), gA, Nat.le_refl _, by omega⟩, .go _ _ _ hmem hinv (by omega) (by simp only [List.length_nil]; omega) fun c hc => hc⟩ (by show (512 - s.v).toNat < k + 1101; omega) fun m2 T2 S3 h2 => (round12 k (ty.ext x2) (by omega) hl' m2 T2 S3 h2).mono ?_
    intro r T' S' hq
    cases r with
    | normal => exact hq
    | ret => exact absurd hq.1 (by simp)
    | exit i =>
      obtain ⟨hi2, n, done, po, eo, t5, hnn, G, hc, hd⟩ := hq
      cases hi2
      obtain ⟨p', e', c', h28, ty'⟩ := T28 (k + 1098) G (by omega)
      have h28 : evF Y AP (k + 1101) 28 [.slice po done.length eo none] S' = _ := h28
      rw [← hnn] at h28
      simp -implicitDefEqProofs -dsimp (maxSteps := 10000000) only [↓goes_loop, ↓goes_seq, ↓goes_reg, ↓goes_dreg, ↓goes_cond, ↓goes_block, ↓goes_skip, ↓goes_exit, ↓goes_ret, after_some, br_true, br_false, ↓then_normal, ↓then_exit, ↓then_ret, ↓blk_normal, ↓blk_exit, ↓blk_ret, ↓blk_other, ops_nil, ops_some, ops_none, oper_none, oper_some, gd_tt, gd_ff, gd_tf, gd_ft, gd_undef, ↓any_op, ↓any_call, ↓any_callV, ↓any_invoke, xo_t, xo_c, args_nil, args_cons, bin_add, bin_sub, bin_mul, bin_quo, bin_rem, bin_and, bin_or, bin_xor, bin_andNot, bin_eql, bin_neq, bin_lss, bin_leq, bin_gtr, bin_geq, bin_shl, bin_shr, bin_bools, bin_strs, bin_ptrs, bin_slices, bin_aggs, ↓Option.bind_some, ↓Option.map_some, ↓cond_true, ↓cond_false, evC, evOp, XO.lit, setArgs, Tr.get_set, Option.bind_some, Option.map_some, cond_true, cond_false, maxI, maxFrom, minI, minFrom, aConv, aBinE, aEq, eqScal, aUn, evRes, fin, oneOf, if_true, if_false, callee, reduceCtorEq, Nat.reduceEqDiff, and_self, decide_true, decide_false, beq_true, beq_false, Bool.not_true, Bool.not_false, List.getElem?_cons_zero, List.getElem?_cons_succ, beq_self_eq_true, gt_iff_lt, ble_dec, beq_dec, List.head?_cons, AV.undef, eq_self, ne_eq, not_true_eq_false, not_false_eq_true, Int.reduceLT, Int.reduceLE, Int.reduceToNat, Int.reduceEq, Int.reduceNeg, Nat.reduceAdd, Nat.reduceLT, Nat.reduceLeDiff, Nat.reduceMul, Nat.reduceSub, AV.cells, AV.tup, Bool.true_and, true_and, and_true, List.drop_nil, List.append_nil, rd_put, rd_alloc, rdO, St.get_put, St.get_alloc, St.next_put, St.next_alloc, St.wr, Bool.and_self, Bool.and_true, List.length_cons, List.length_nil, List.take_succ_cons, List.take_zero, List.drop_succ_cons, List.drop_zero, List.cons_append, List.nil_append, Nat.zero_add, Nat.add_zero, Nat.reduceMul, t5, h28]
      refine ⟨_, _, rfl, p', e', c', done, by rw [hnn], ty', (G1.ext.trans x2).trans G.ext, .inr ⟨c1, ?_⟩, hd⟩
      rw [hL, hs]; exact hc
end Go.Proofs.YtkbooepiomobdaaA
