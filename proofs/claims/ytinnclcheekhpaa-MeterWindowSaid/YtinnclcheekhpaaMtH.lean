/- Chapter 16: what came in the last slots counts, each as much: the walk. -/
import Derived.Test.YtinnclcheekhpaaMtG
set_option linter.unusedVariables false
set_option linter.unusedSimpArgs false
set_option maxRecDepth 10000
namespace Go.Proofs.YtinnclcheekhpaaA
open Go.RowKit
attribute [local congr] bind_congr1 map_congr1 cond_congr1 withX_congr after_congr br_congr gd_congr

theorem m17 (x : Int) : Go.bits .and .i64 x 131071 = x % 131072 := and_i64 17 (by decide) x
theorem m11 (x : Int) : Go.bits .and .i64 x 2047 = x % 2048 := and_i64 11 (by decide) x
theorem y11 (k : Nat) (S : St) (a b : Int) : evF Y AP (k + 1) 11 [.int .i64 a, .int .i64 b] S = some (.int .i64 (upq (up a) (up b)), S) := rfl
theorem Vec.keep {S S' : St} {p : Option (Nat × Nat × Nat)} {len esz z : Nat} {c : List AV} (h : Vec S p len esz z c) (hn : S.next ≤ S'.next) (hg : ∀ o v i, p = some (o, v, i) → o < S.next → S'.get o = S.get o) : Vec S' p len esz z c :=
  ⟨h.ez, h.sz, h.at_.imp_right fun ⟨o, ver, minv, h1, h2, h3, h4⟩ => ⟨o, ver, minv, h1, Nat.lt_of_lt_of_le h2 hn, by rw [hg o ver 0 h1 h2]; exact h3, h4⟩⟩
def r1 (L : List (Int × Int)) : List AV := L.map fun e => .int .i64 e.1
def r2 (L : List (Int × Int)) : List AV := L.map fun e => .int .i64 e.2
theorem r1_at {L : List (Int × Int)} {k : Nat} {e : Int × Int} (h : L[k]? = some e) : ((r1 L).drop (k * 1)).take 1 = [.int .i64 e.1] := by
  have hk : k < L.length := (List.getElem?_eq_some_iff.1 h).1
  have he : L[k] = e := (List.getElem?_eq_some_iff.1 h).2
  rw [Nat.mul_one, List.drop_eq_getElem_cons (by simpa [r1] using hk)]
  simp [r1, he]
theorem r2_at {L : List (Int × Int)} {k : Nat} {e : Int × Int} (h : L[k]? = some e) : ((r2 L).drop (k * 1)).take 1 = [.int .i64 e.2] := by
  have hk : k < L.length := (List.getElem?_eq_some_iff.1 h).1
  have he : L[k] = e := (List.getElem?_eq_some_iff.1 h).2
  rw [Nat.mul_one, List.drop_eq_getElem_cons (by simpa [r2] using hk)]
  simp [r2, he]
structure W0 (L : List (Int × Int)) (a now s i : Int) (o : Nat) (p0 p1 q1 q2 : Option (Nat × Nat × Nat)) (len0 len1 n : Nat) (Sb : St) (m : Nat) (T : Tm) (S : St) : Prop where
  st : S = Sb
  t0 : T.get 0 = some (.slice p0 len0 1 none)
  t1 : T.get 1 = some (.slice p1 len1 1 none)
  t5 : T.get 5 = some (pt o)
  t6 : T.get 6 = some (.int .i64 now)
  t7 : T.get 7 = some (.int .i64 s)
  t8 : T.get 8 = some (.slice q1 n 1 none)
  t9 : T.get 9 = some (.slice q2 n 1 none)
  t10 : T.get 10 = some (.int .i64 i)
  t68 : T.get 68 = some (.int .i64 n)
  more : ∃ k : Nat, T.get 69 = some (.int .i64 k) ∧ T.get 11 = some (.int .i64 (inS (L.take k) (a - 5))) ∧ k ≤ n ∧ m = n - k
set_option maxHeartbeats 4000000 in
theorem roundW0 (k0 : Nat) {L : List (Int × Int)} {a now s i : Int} {o : Nat} {p0 p1 : Option (Nat × Nat × Nat)} {o1 v1 j1 o2 v2 j2 len0 len1 : Nat} {Sb : St} (hL : L.length ≤ 60) (nn : ∀ e ∈ L, 0 ≤ e.2 ∧ e.2 ≤ 2047) (hq : Int.tdiv now 100000 = a) (ha : 0 ≤ a ∧ a ≤ 92233720368547)
    (g1 : ∀ k e, L[k]? = some e → Sb.rd o1 v1 (j1 + k * 1) 1 = some [.int .i64 e.1]) (g2 : ∀ k e, L[k]? = some e → Sb.rd o2 v2 (j2 + k * 1) 1 = some [.int .i64 e.2])
    (m : Nat) (T : Tm) (S : St) (hI : W0 L a now s i o p0 p1 (some (o1, v1, j1)) (some (o2, v2, j2)) len0 len1 L.length Sb m T S) :
    Goes (evF Y AP (k0 + 199)) (k0 + 199) af4_l0 T S (Then (fun T' S' => ∃ m', W0 L a now s i o p0 p1 (some (o1, v1, j1)) (some (o2, v2, j2)) len0 len1 L.length Sb m' T' S' ∧ id m' < id m)
      fun r T' S' => r = .exit 2 ∧ ∃ m', W0 L a now s i o p0 p1 (some (o1, v1, j1)) (some (o2, v2, j2)) len0 len1 L.length Sb m' T' S' ∧ T'.get 11 = some (.int .i64 (inS L (a - 5)))) := by
  obtain ⟨rfl, t0, t1, t5, t6, t7, t8, t9, t10, t68, k, t69, t11, hk, hm⟩ := hI
  have h5 : ¬ ((100000 : Int) = 0) := by decide
  have w1 : IntKind.i64.wrap a = a := w64_id (by omega) (by omega)
  have w2 : IntKind.i64.wrap (a - 5) = a - 5 := w64_id (by omega) (by omega)
  by_cases c : (k : Int) < L.length
  · have hlt : k < L.length := by omega
    obtain ⟨e, he⟩ : ∃ e, L[k]? = some e := ⟨_, List.getElem?_eq_getElem hlt⟩
    have w3 : IntKind.i64.wrap ((k : Int) + 1) = k + 1 := w64_id (by omega) (by omega)
    have hix : ixOf (.int .i64 (k : Int)) L.length = some k := by
      have := ix_ok (k := .i64) (i := (k : Int)) (n := L.length) (by omega) c
      rwa [Int.toNat_natCast] at this
    have ht := inS_take he (a - 5)
    have hen := nn e (List.mem_of_getElem? he)
    have hb := inS_bd (a - 5) (L := L.take k) fun x hx => nn x (List.mem_of_mem_take hx)
    have hlen : (L.take k).length ≤ 60 := by rw [List.length_take]; omega
    by_cases c2 : a - 5 < e.1
    · rw [if_pos c2] at ht
      have w4 : IntKind.i64.wrap (inS (L.take k) (a - 5) + e.2) = inS (L.take k) (a - 5) + e.2 := w64_id (by omega) (by omega)
      simp -implicitDefEqProofs -dsimp (maxSteps := 10000000) only [af4_l0, ↓goes_loop, ↓goes_seq, ↓goes_reg, ↓goes_dreg, ↓goes_preg, ↓goes_cond, ↓goes_block, ↓goes_skip, ↓goes_exit, ↓goes_ret, after_some, br_true, br_false, ↓then_normal, ↓then_exit, ↓then_ret, ↓blk_normal, ↓blk_exit, ↓blk_ret, ↓blk_other, ops_nil, ops_some, ops_none, oper_none, oper_some, gd_tt, gd_ff, gd_tf, gd_ft, gd_undef, ↓any_op, ↓any_call, ↓any_callV, ↓any_invoke, xo_t, xo_c, args_nil, args_cons, bin_add, bin_sub, bin_mul, bin_quo, bin_rem, bin_and, bin_or, bin_xor, bin_andNot, bin_eql, bin_neq, bin_lss, bin_leq, bin_gtr, bin_geq, bin_shl, bin_shr, bin_bools, bin_strs, bin_ptrs, bin_slices, bin_aggs, ↓Option.bind_some, ↓Option.map_some, ↓cond_true, ↓cond_false, evC, evOp, XO.lit, setArgs, Tr.get_set, Option.bind_some, Option.map_some, cond_true, cond_false, maxI, maxFrom, minI, minFrom, aConv, aBinE, aEq, eqScal, aUn, evRes, fin, oneOf, if_true, if_false, callee, reduceCtorEq, Nat.reduceEqDiff, and_self, decide_true, decide_false, beq_true, beq_false, Bool.not_true, Bool.not_false, List.getElem?_cons_zero, List.getElem?_cons_succ, beq_self_eq_true, gt_iff_lt, ble_dec, beq_dec, List.head?_cons, AV.undef, eq_self, ne_eq, not_true_eq_false, not_false_eq_true, Int.reduceLT, Int.reduceLE, Int.reduceToNat, Int.reduceEq, Int.reduceNeg, Nat.reduceAdd, Nat.reduceLT, Nat.reduceLeDiff, Nat.reduceMul, Nat.reduceSub, AV.cells, AV.tup, Bool.true_and, true_and, and_true, List.drop_nil, List.append_nil, rd_put, rd_alloc, rdO, St.get_put, St.get_alloc, St.next_put, St.next_alloc, St.wr, Bool.and_self, Bool.and_true, List.length_cons, List.length_nil, List.take_succ_cons, List.take_zero, List.drop_succ_cons, List.drop_zero, List.cons_append, List.nil_append, Nat.zero_add, Nat.add_zero, Nat.reduceMul, t6, t8, t9, t11, t68, t69, c, hix, g1 k e he, g2 k e he, hq, h5, w1, w2, w3, w4, c2]
      refine ⟨m - 1, ⟨rfl, ?_, ?_, ?_, ?_, ?_, ?_, ?_, ?_, ?_, k + 1, ?_, ?_, by omega, by omega⟩, by simp only [id]; omega⟩
      all_goals simp only [Tr.get_set, Nat.reduceEqDiff, if_false, if_true, t0, t1, t5, t6, t7, t8, t9, t10, t68, ht]
      rfl
    · rw [if_neg c2, Int.add_zero] at ht
      simp -implicitDefEqProofs -dsimp (maxSteps := 10000000) only [af4_l0, ↓goes_loop, ↓goes_seq, ↓goes_reg, ↓goes_dreg, ↓goes_preg, ↓goes_cond, ↓goes_block, ↓goes_skip, ↓goes_exit, ↓goes_ret, after_some, br_true, br_false, ↓then_normal, ↓then_exit, ↓then_ret, ↓blk_normal, ↓blk_exit, ↓blk_ret, ↓blk_other, ops_nil, ops_some, ops_none, oper_none, oper_some, gd_tt, gd_ff, gd_tf, gd_ft, gd_undef, ↓any_op, ↓any_call, ↓any_callV, ↓any_invoke, xo_t, xo_c, args_nil, args_cons, bin_add, bin_sub, bin_mul, bin_quo, bin_rem, bin_and, bin_or, bin_xor, bin_andNot, bin_eql, bin_neq, bin_lss, bin_leq, bin_gtr, bin_geq, bin_shl, bin_shr, bin_bools, bin_strs, bin_ptrs, bin_slices, bin_aggs, ↓Option.bind_some, ↓Option.map_some, ↓cond_true, ↓cond_false, evC, evOp, XO.lit, setArgs, Tr.get_set, Option.bind_some, Option.map_some, cond_true, cond_false, maxI, maxFrom, minI, minFrom, aConv, aBinE, aEq, eqScal, aUn, evRes, fin, oneOf, if_true, if_false, callee, reduceCtorEq, Nat.reduceEqDiff, and_self, decide_true, decide_false, beq_true, beq_false, Bool.not_true, Bool.not_false, List.getElem?_cons_zero, List.getElem?_cons_succ, beq_self_eq_true, gt_iff_lt, ble_dec, beq_dec, List.head?_cons, AV.undef, eq_self, ne_eq, not_true_eq_false, not_false_eq_true, Int.reduceLT, Int.reduceLE, Int.reduceToNat, Int.reduceEq, Int.reduceNeg, Nat.reduceAdd, Nat.reduceLT, Nat.reduceLeDiff, Nat.reduceMul, Nat.reduceSub, AV.cells, AV.tup, Bool.true_and, true_and, and_true, List.drop_nil, List.append_nil, rd_put, rd_alloc, rdO, St.get_put, St.get_alloc, St.next_put, St.next_alloc, St.wr, Bool.and_self, Bool.and_true, List.length_cons, List.length_nil, List.take_succ_cons, List.take_zero, List.drop_succ_cons, List.drop_zero, List.cons_append, List.nil_append, Nat.zero_add, Nat.add_zero, Nat.reduceMul, t6, t8, t9, t11, t68, t69, c, hix, g1 k e he, g2 k e he, hq, h5, w1, w2, w3, c2]
      refine ⟨m - 1, ⟨rfl, ?_, ?_, ?_, ?_, ?_, ?_, ?_, ?_, ?_, k + 1, ?_, ?_, by omega, by omega⟩, by simp only [id]; omega⟩
      all_goals simp only [Tr.get_set, Nat.reduceEqDiff, if_false, if_true, t0, t1, t5, t6, t7, t8, t9, t10, t11, t68, ht]
      rfl
  · have hk2 : k = L.length := by omega
    subst hk2
    rw [List.take_length] at t11
    simp -implicitDefEqProofs -dsimp (maxSteps := 10000000) only [af4_l0, ↓goes_loop, ↓goes_seq, ↓goes_reg, ↓goes_dreg, ↓goes_preg, ↓goes_cond, ↓goes_block, ↓goes_skip, ↓goes_exit, ↓goes_ret, after_some, br_true, br_false, ↓then_normal, ↓then_exit, ↓then_ret, ↓blk_normal, ↓blk_exit, ↓blk_ret, ↓blk_other, ops_nil, ops_some, ops_none, oper_none, oper_some, gd_tt, gd_ff, gd_tf, gd_ft, gd_undef, ↓any_op, ↓any_call, ↓any_callV, ↓any_invoke, xo_t, xo_c, args_nil, args_cons, bin_add, bin_sub, bin_mul, bin_quo, bin_rem, bin_and, bin_or, bin_xor, bin_andNot, bin_eql, bin_neq, bin_lss, bin_leq, bin_gtr, bin_geq, bin_shl, bin_shr, bin_bools, bin_strs, bin_ptrs, bin_slices, bin_aggs, ↓Option.bind_some, ↓Option.map_some, ↓cond_true, ↓cond_false, evC, evOp, XO.lit, setArgs, Tr.get_set, Option.bind_some, Option.map_some, cond_true, cond_false, maxI, maxFrom, minI, minFrom, aConv, aBinE, aEq, eqScal, aUn, evRes, fin, oneOf, if_true, if_false, callee, reduceCtorEq, Nat.reduceEqDiff, and_self, decide_true, decide_false, beq_true, beq_false, Bool.not_true, Bool.not_false, List.getElem?_cons_zero, List.getElem?_cons_succ, beq_self_eq_true, gt_iff_lt, ble_dec, beq_dec, List.head?_cons, AV.undef, eq_self, ne_eq, not_true_eq_false, not_false_eq_true, Int.reduceLT, Int.reduceLE, Int.reduceToNat, Int.reduceEq, Int.reduceNeg, Nat.reduceAdd, Nat.reduceLT, Nat.reduceLeDiff, Nat.reduceMul, Nat.reduceSub, AV.cells, AV.tup, Bool.true_and, true_and, and_true, List.drop_nil, List.append_nil, rd_put, rd_alloc, rdO, St.get_put, St.get_alloc, St.next_put, St.next_alloc, St.wr, Bool.and_self, Bool.and_true, List.length_cons, List.length_nil, List.take_succ_cons, List.take_zero, List.drop_succ_cons, List.drop_zero, List.cons_append, List.nil_append, Nat.zero_add, Nat.add_zero, Nat.reduceMul, t68, t69, c]
    refine ⟨m, ⟨rfl, ?_, ?_, ?_, ?_, ?_, ?_, ?_, ?_, ?_, L.length, ?_, ?_, hk, hm⟩, ?_⟩
    all_goals simp only [Tr.get_set, Nat.reduceEqDiff, if_false, if_true, t0, t1, t5, t6, t7, t8, t9, t10, t11, t68, t69, List.take_length]
structure W1 (p0 p1 : Option (Nat × Nat × Nat)) (len0 len1 : Nat) (Sb : St) (n : Nat) (T : Tm) (S : St) : Prop where
  t0 : T.get 0 = some (.slice p0 len0 1 none)
  t1 : T.get 1 = some (.slice p1 len1 1 none)
  t5 : T.get 5 = some (pt Sb.next)
  ext : Ext Sb S
  lt : Sb.next < S.next
  more : ∃ (i now s l : Int) (f : Nat → Int) (L : List (Int × Int)) (q1 q2 : Option (Nat × Nat × Nat)) (e1 e2 : Nat), T.get 10 = some (.int .i64 i) ∧ T.get 6 = some (.int .i64 now) ∧ T.get 7 = some (.int .i64 s) ∧
    T.get 8 = some (.slice q1 L.length e1 none) ∧ T.get 9 = some (.slice q2 L.length e2 none) ∧ S.get Sb.next = some (mt f l s) ∧ Ms f l s L ∧ Vec S q1 L.length 1 e1 (r1 L) ∧ Vec S q2 L.length 1 e2 (r2 L) ∧
    (∀ o v j, q1 = some (o, v, j) → Sb.next < o ∧ ∀ v' j', q2 ≠ some (o, v', j')) ∧ (∀ o v j, q2 = some (o, v, j) → Sb.next < o) ∧
    0 ≤ i ∧ i ≤ 60 ∧ (n : Int) = 60 - i ∧ (L.length : Int) = i ∧ 0 ≤ now ∧ now ≤ 131071 * i ∧ l = slot now
theorem Vec.row {S : St} {p : Option (Nat × Nat × Nat)} {len e : Nat} {c : List AV} (h : Vec S p len 1 e c) (h0 : len ≠ 0) : ∃ o v, p = some (o, v, 0) ∧ o < S.next ∧ ∀ k, k < len → S.rd o v (0 + k * 1) 1 = some ((c.drop (k * 1)).take 1) := by
  rcases h.at_ with ⟨_, h1⟩ | ⟨o, ver, minv, rfl, ho, hg, hv⟩
  · exact absurd h1 h0
  · refine ⟨o, ver, rfl, ho, fun k hk => ?_⟩
    rw [rd_cells hg hv (by rw [h.sz]; omega), Nat.zero_add]
set_option maxHeartbeats 4000000 in
theorem roundW1 (k : Nat) {p0 p1 : Option (Nat × Nat × Nat)} {len0 len1 : Nat} {Sb : St} (h0 : Sl Sb p0 len0 [.int .i64]) (h1 : Sl Sb p1 len1 [.int .i64]) (n : Nat) (T : Tm) (S : St) (hI : W1 p0 p1 len0 len1 Sb n T S) :
    Goes (evF Y AP (k + 199)) (k + 199) af4_l1 T S (Then (fun T' S' => ∃ n', W1 p0 p1 len0 len1 Sb n' T' S' ∧ id n' < id n) fun q T' S' => q = .exit 0) := by
  have hm0 := h0.max
  have hm1 := h1.max
  obtain ⟨t0, t1, t5, he, hlt, i, now, s, l, f, L, q1, q2, e1, e2, t10, t6, t7, t8, t9, hg, ms, hv1, hv2, hap1, hap2, i0, i1, hn, hLi, now0, now1, rfl⟩ := hI
  have hbn := he.next
  have hLl : L.length ≤ 60 := by omega
  by_cases c0 : i < len0
  · by_cases c1 : i < len1
    · by_cases c2 : i < 60
      · obtain ⟨o0, v0, j0, rfl, ho0⟩ := h0.at_ (by omega)
        obtain ⟨o1, v1, j1, rfl, ho1⟩ := h1.at_ (by omega)
        obtain ⟨z, hz0, wz⟩ := h0.int i0 c0
        obtain ⟨y, hy0, wy⟩ := h1.int i0 c1
        have hix0 : ixOf (.int .i64 i) len0 = some i.toNat := ix_ok i0 c0
        have hix1 : ixOf (.int .i64 i) len1 = some i.toNat := ix_ok i0 c1
        have hzE : ∀ {S' : St}, Ext Sb S' → S'.rd o0 v0 (j0 + i.toNat * 1) 1 = some [.int .i64 z] := fun e => by rw [e.rd ho0]; exact hz0
        have hyE : ∀ {S' : St}, Ext Sb S' → S'.rd o1 v1 (j1 + i.toNat * 1) 1 = some [.int .i64 y] := fun e => by rw [e.rd ho1]; exact hy0
        obtain ⟨N, hN⟩ : ∃ N, z % 2048 = N := ⟨_, rfl⟩
        obtain ⟨nw, hnw⟩ : ∃ nw, now + y % 131072 = nw := ⟨_, rfl⟩
        have w1 : IntKind.i64.wrap nw = nw := w64_id (by omega) (by omega)
        have w2 : IntKind.i64.wrap (i + 1) = i + 1 := w64_id (by omega) (by omega)
        obtain ⟨a, hsl⟩ : ∃ a, slot nw = a := ⟨_, rfl⟩
        have hla : slot now ≤ a := by rw [← hsl]; unfold slot; split <;> split <;> omega
        have ha : 0 ≤ a ∧ a ≤ 92233720368547 := by rw [← hsl]; exact slot_bd (by omega)
        have hl0 : 0 ≤ slot now ∧ slot now ≤ 92233720368547 := slot_bd (by omega)
        have hq : Int.tdiv nw 100000 = a := by
          rw [Int.tdiv_eq_ediv_of_nonneg (by omega), ← hsl]; unfold slot; split <;> omega
        have h5 : ¬ ((100000 : Int) = 0) := by decide
        have wa : IntKind.i64.wrap a = a := w64_id (by omega) (by omega)
        obtain ⟨S2, e9, u2⟩ := T9 (k + 179) hg hl0.1 hl0.2 (n := N) (by omega) (now := nw) ⟨by omega, by omega⟩ a (by rw [hsl]; split <;> omega)
        have ms2 := ms.add hLl hla (n := N) (by omega) (by omega)
        have htb := toS_bd ms.nn
        have hts : sat s N = s + N := by rw [ms.tot]; exact sat_ok htb.1 (by omega) (by omega)
        rw [hts] at u2 ms2
        have w3 : IntKind.i64.wrap (s + N) = s + N := by rw [ms.tot]; exact w64_id (by omega) (by omega)
        obtain ⟨g, hgg⟩ : ∃ g, fu (clr f a (if 5 < a - slot now then 5 else a - slot now).toNat) (a % 5).toNat (sat (clr f a (if 5 < a - slot now then 5 else a - slot now).toNat (a % 5).toNat) N) = g := ⟨_, rfl⟩
        rw [hgg] at u2 ms2
        have x2 : Ext Sb S2 := u2.ext he (Nat.le_refl _)
        have n2 : S2.next = S.next := u2.next
        -- the first row grows
        obtain ⟨A, hA⟩ : ∃ A, S2.alloc (.cells [.int .i64 a] 0 0 true) = A := ⟨_, rfl⟩
        have eA : Ext S2 A := by rw [← hA]; exact Ext.alloc _ _
        have nA : A.next = S2.next + 1 := by rw [← hA]; rfl
        have k1 : Vec S2 q1 L.length 1 e1 (r1 L) := hv1.keep (by omega) fun o v j hq _ => u2.else (by have := (hap1 o v j hq).1; omega)
        have k2 : Vec S2 q2 L.length 1 e2 (r2 L) := hv2.keep (by omega) fun o v j hq _ => u2.else (by have := hap2 o v j hq; omega)
        obtain ⟨q1', S3, ap1, v1', g1, o1'⟩ := (k1.ext eA).append (bytes := 8) (xs := [.int .i64 a]) (n := 1) rfl (by decide) (by omega)
        have n3 := g1.next
        have x3 : Ext Sb S3 := ⟨by have := x2.next; omega, fun q hq => by
          have := x2.next
          rw [g1.old q (by omega) fun v j e => by have := (hap1 q v j e).1; omega, eA.old q (by omega)]
          exact x2.old q hq⟩
        have k2' : Vec S3 q2 L.length 1 e2 (r2 L) := (k2.ext eA).keep n3 fun o v j hq ho => g1.old o ho fun v' j' e => (hap1 o v' j' e).2 v j hq
        -- the second
        obtain ⟨C, hC⟩ : ∃ C, S3.alloc (.cells [.int .i64 N] 0 0 true) = C := ⟨_, rfl⟩
        have eC : Ext S3 C := by rw [← hC]; exact Ext.alloc _ _
        have nC : C.next = S3.next + 1 := by rw [← hC]; rfl
        obtain ⟨q2', S4, ap2, v2', g2, o2'⟩ := (k2'.ext eC).append (bytes := 8) (xs := [.int .i64 N]) (n := 1) rfl (by decide) (by omega)
        have n4 := g2.next
        have x4 : Ext Sb S4 := ⟨by have := x3.next; omega, fun q hq => by
          have := x3.next
          rw [g2.old q (by omega) fun v j e => by have := hap2 q v j e; omega, eC.old q (by omega)]
          exact x3.old q hq⟩
        have hg4 : S4.get Sb.next = some (mt g a (s + N)) := by
          rw [g2.old _ (by omega) fun v j e => by have := hap2 _ v j e; omega, eC.old _ (by omega), g1.old _ (by omega) fun v j e => by have := (hap1 _ v j e).1; omega, eA.old _ (by omega)]
          exact u2.same
        have hlen : (L ++ [(a, N)]).length = L.length + 1 := by simp
        have er1 : r1 L ++ [.int .i64 a] = r1 (L ++ [(a, N)]) := by simp [r1]
        have er2 : r2 L ++ [.int .i64 N] = r2 (L ++ [(a, N)]) := by simp [r2]
        rw [er1] at v1'
        rw [er2] at v2'
        have far : ∀ o v j, q1' = some (o, v, j) → o < S3.next ∧ ∀ v' j', q2 ≠ some (o, v', j') := by
          intro o v j hq
          obtain ⟨o', v', hp, ho, _⟩ := v1'.row (by omega)
          rw [hq] at hp; cases hp
          refine ⟨ho, fun v2 j2 e => ?_⟩
          rcases o1' o v 0 hq with h | ⟨v3, j3, h⟩
          · rcases k2.at_ with ⟨h2, _⟩ | ⟨o3, v3, m3, h2, h3, _⟩
            · rw [h2] at e; cases e
            · rw [h2] at e; cases e; omega
          · exact (hap1 o v3 j3 h).2 v2 j2 e
        have v1'' : Vec S4 q1' (L.length + 1) 1 1 (r1 (L ++ [(a, N)])) := (v1'.ext eC).keep n4 fun o v j hq ho => g2.old o ho fun v' j' e => (far o v j hq).2 v' j' e
        have hap1' : ∀ o v j, q1' = some (o, v, j) → Sb.next < o ∧ ∀ v' j', q2' ≠ some (o, v', j') := by
          intro o v j hq
          refine ⟨?_, fun v' j' e => ?_⟩
          · rcases o1' o v j hq with h | ⟨v3, j3, h⟩
            · have := x2.next; omega
            · exact (hap1 o v3 j3 h).1
          · have := far o v j hq
            rcases o2' o v' j' e with h | ⟨v3, j3, h⟩
            · omega
            · exact this.2 v3 j3 h
        have hap2' : ∀ o v j, q2' = some (o, v, j) → Sb.next < o := by
          intro o v j hq
          rcases o2' o v j hq with h | ⟨v3, j3, h⟩
          · have := x3.next; omega
          · exact hap2 o v3 j3 h
        obtain ⟨b1, c1', rfl, hb1, rd1⟩ := v1''.row (by omega)
        obtain ⟨b2, c2', rfl, hb2, rd2⟩ := v2'.row (by omega)
        have hch : ∀ T : Tm, Tr.get T 57 = some (.int .i64 N) → chkB ⟨some 58, none, .buildSlice 1 [(.int .i64 0)] 1 [(0, (1, (.t 57)))]⟩ T = true := fun T h => by
          simp [chkB, AOper.tmps, AOp.tmps, tmpsP, XO.tmps, h, AV.pure, AV.pures, evOper, wanted, evOp, evParts, XO.ev, aFill, rep, newSl, St.get_alloc, putD, AV.cells, AV.tup, evAny, AOp.calls]
        have hzS2 := hzE x2
        have hzA := hzE (x2.trans eA)
        have hzS3 := hzE x3
        have hzS4 := hzE x4
        have hyS := hyE he
        have hzS := hzE he
        have rA : A.rd S2.next 0 0 1 = some [.int .i64 a] := by rw [← hA, rd_alloc, if_pos rfl]; rfl
        have rC : C.rd S3.next 0 0 1 = some [.int .i64 N] := by rw [← hC, rd_alloc, if_pos rfl]; rfl
        have hLl2 : (L ++ [(a, N)]).length ≤ 60 := by omega
        have hmx : L.length + 1 ≤ 9223372036854775807 := by omega
        simp -implicitDefEqProofs -dsimp (maxSteps := 10000000) only [af4_l1, ↓goes_loop, ↓goes_seq, ↓goes_reg, ↓goes_dreg, ↓goes_preg, ↓goes_cond, ↓goes_block, ↓goes_skip, ↓goes_exit, ↓goes_ret, after_some, br_true, br_false, ↓then_normal, ↓then_exit, ↓then_ret, ↓blk_normal, ↓blk_exit, ↓blk_ret, ↓blk_other, ops_nil, ops_some, ops_none, oper_none, oper_some, gd_tt, gd_ff, gd_tf, gd_ft, gd_undef, ↓any_op, ↓any_call, ↓any_callV, ↓any_invoke, xo_t, xo_c, args_nil, args_cons, bin_add, bin_sub, bin_mul, bin_quo, bin_rem, bin_and, bin_or, bin_xor, bin_andNot, bin_eql, bin_neq, bin_lss, bin_leq, bin_gtr, bin_geq, bin_shl, bin_shr, bin_bools, bin_strs, bin_ptrs, bin_slices, bin_aggs, ↓Option.bind_some, ↓Option.map_some, ↓cond_true, ↓cond_false, evC, evOp, XO.lit, setArgs, Tr.get_set, Option.bind_some, Option.map_some, cond_true, cond_false, maxI, maxFrom, minI, minFrom, aConv, aBinE, aEq, eqScal, aUn, evRes, fin, oneOf, if_true, if_false, callee, reduceCtorEq, Nat.reduceEqDiff, and_self, decide_true, decide_false, beq_true, beq_false, Bool.not_true, Bool.not_false, List.getElem?_cons_zero, List.getElem?_cons_succ, beq_self_eq_true, gt_iff_lt, ble_dec, beq_dec, List.head?_cons, AV.undef, eq_self, ne_eq, not_true_eq_false, not_false_eq_true, Int.reduceLT, Int.reduceLE, Int.reduceToNat, Int.reduceEq, Int.reduceNeg, Nat.reduceAdd, Nat.reduceLT, Nat.reduceLeDiff, Nat.reduceMul, Nat.reduceSub, ↓evDraw_nil, bir, putD, evDraw, trace, List.all_cons, List.all_nil, chk, stAt, again, sameV, sameL, sameA, AV.undef, Bool.and_self, Bool.and_true, decide_eq_true_eq, List.getElem?_nil, AV.cells, AV.tup, Bool.true_and, true_and, and_true, List.drop_nil, List.append_nil, rd_put, rd_alloc, rdO, St.get_put, St.get_alloc, St.next_put, St.next_alloc, St.wr, Bool.and_self, Bool.and_true, List.length_cons, List.length_nil, List.take_succ_cons, List.take_zero, List.drop_succ_cons, List.drop_zero, List.cons_append, List.nil_append, Nat.zero_add, Nat.add_zero, Nat.reduceMul, aFill, evParts, rep, List.replicate_succ, List.replicate_zero, List.flatten_cons, List.flatten_nil, List.append_nil, newSl, newVar, t0, t1, t5, t6, t7, t8, t9, t10, c0, c1, c2, hm0, hm1, hix0, hix1, hyS, hzS, m17, m11, hnw, hN, w1, e9, hq, h5, wa, hA, rA, ap1, hzS3, hzS2, hzA, hC, rC, ap2, hch, hzS4, w3, hmx]
        have ms4 := ms2.rate hLl2 hsl
        have hib := inS_bd (a - 5) ms2.nn
        have w6 : IntKind.i64.wrap (inS (L ++ [(a, N)]) (a - 5) * 1000000) = inS (L ++ [(a, N)]) (a - 5) * 1000000 := w64_id (by omega) (by omega)
        have e10 := T10 (k + 179) hg4 ha.1 ha.2 (now := nw) ⟨by omega, by omega⟩
        rw [ms4] at e10
        have e12 := T12 (k + 195) hg4
        refine .while (W0 (L ++ [(a, N)]) a nw (s + N) i Sb.next (some (o0, v0, j0)) (some (o1, v1, j1)) (some (b1, c1', 0)) (some (b2, c2', 0)) len0 len1 (L ++ [(a, N)]).length S4) id (L ++ [(a, N)]).length ?_ (by show (L ++ [(a, N)]).length < k + 199; omega) fun m2 T2 S5 h2 =>
          (roundW0 k hLl2 ms2.nn hq ha (fun k e he => (rd1 k (by have := (List.getElem?_eq_some_iff.1 he).1; omega)).trans (by rw [r1_at he])) (fun k e he => (rd2 k (by have := (List.getElem?_eq_some_iff.1 he).1; omega)).trans (by rw [r2_at he])) m2 T2 S5 h2).mono ?_
        · rw [hlen]
          refine ⟨rfl, ?_, ?_, ?_, ?_, ?_, ?_, ?_, ?_, ?_, 0, ?_, ?_, by omega, by omega⟩
          all_goals simp only [Tr.get_set, Nat.reduceEqDiff, if_false, if_true, t0, t1, t5, t10]
          all_goals rfl
        · intro r T' S' hr
          cases r with
          | normal => exact hr
          | ret => exact absurd hr.1 (by intro h; cases h)
          | exit id =>
            obtain ⟨hid, m', ⟨rfl, u0, u1, u5, u6, u7, u8, u9, u10, u68, _⟩, u11⟩ := hr
            cases hid
            rw [hlen] at u8 u9
            simp -implicitDefEqProofs -dsimp (maxSteps := 10000000) only [↓goes_loop, ↓goes_seq, ↓goes_reg, ↓goes_dreg, ↓goes_preg, ↓goes_cond, ↓goes_block, ↓goes_skip, ↓goes_exit, ↓goes_ret, after_some, br_true, br_false, ↓then_normal, ↓then_exit, ↓then_ret, ↓blk_normal, ↓blk_exit, ↓blk_ret, ↓blk_other, ops_nil, ops_some, ops_none, oper_none, oper_some, gd_tt, gd_ff, gd_tf, gd_ft, gd_undef, ↓any_op, ↓any_call, ↓any_callV, ↓any_invoke, xo_t, xo_c, args_nil, args_cons, bin_add, bin_sub, bin_mul, bin_quo, bin_rem, bin_and, bin_or, bin_xor, bin_andNot, bin_eql, bin_neq, bin_lss, bin_leq, bin_gtr, bin_geq, bin_shl, bin_shr, bin_bools, bin_strs, bin_ptrs, bin_slices, bin_aggs, ↓Option.bind_some, ↓Option.map_some, ↓cond_true, ↓cond_false, evC, evOp, XO.lit, setArgs, Tr.get_set, Option.bind_some, Option.map_some, cond_true, cond_false, maxI, maxFrom, minI, minFrom, aConv, aBinE, aEq, eqScal, aUn, evRes, fin, oneOf, if_true, if_false, callee, reduceCtorEq, Nat.reduceEqDiff, and_self, decide_true, decide_false, beq_true, beq_false, Bool.not_true, Bool.not_false, List.getElem?_cons_zero, List.getElem?_cons_succ, beq_self_eq_true, gt_iff_lt, ble_dec, beq_dec, List.head?_cons, AV.undef, eq_self, ne_eq, not_true_eq_false, not_false_eq_true, Int.reduceLT, Int.reduceLE, Int.reduceToNat, Int.reduceEq, Int.reduceNeg, Nat.reduceAdd, Nat.reduceLT, Nat.reduceLeDiff, Nat.reduceMul, Nat.reduceSub, AV.cells, AV.tup, Bool.true_and, true_and, and_true, List.drop_nil, List.append_nil, rd_put, rd_alloc, rdO, St.get_put, St.get_alloc, St.next_put, St.next_alloc, St.wr, Bool.and_self, Bool.and_true, List.length_cons, List.length_nil, List.take_succ_cons, List.take_zero, List.drop_succ_cons, List.drop_zero, List.cons_append, List.nil_append, Nat.zero_add, Nat.add_zero, Nat.reduceMul, u0, u1, u5, u6, u7, u8, u9, u10, u11, e10, e12, y11, w6, w2]
            refine ⟨n - 1, ⟨?_, ?_, ?_, x4, by omega, i + 1, nw, s + N, a, g, L ++ [(a, N)], some (b1, c1', 0), some (b2, c2', 0), 1, 1, ?_, ?_, ?_, ?_, ?_, hg4, ms2, by rw [hlen]; exact v1'', by rw [hlen]; exact v2', hap1', hap2', by omega, by omega, by omega, by omega, by omega, by omega, hsl.symm⟩, by simp only [_root_.id]; omega⟩
            all_goals simp only [Tr.get_set, Nat.reduceEqDiff, if_false, if_true, u0, u1, u5, u6, u7, u8, u9, hlen]
      · simp -implicitDefEqProofs -dsimp (maxSteps := 10000000) only [af4_l1, ↓goes_loop, ↓goes_seq, ↓goes_reg, ↓goes_dreg, ↓goes_preg, ↓goes_cond, ↓goes_block, ↓goes_skip, ↓goes_exit, ↓goes_ret, after_some, br_true, br_false, ↓then_normal, ↓then_exit, ↓then_ret, ↓blk_normal, ↓blk_exit, ↓blk_ret, ↓blk_other, ops_nil, ops_some, ops_none, oper_none, oper_some, gd_tt, gd_ff, gd_tf, gd_ft, gd_undef, ↓any_op, ↓any_call, ↓any_callV, ↓any_invoke, xo_t, xo_c, args_nil, args_cons, bin_add, bin_sub, bin_mul, bin_quo, bin_rem, bin_and, bin_or, bin_xor, bin_andNot, bin_eql, bin_neq, bin_lss, bin_leq, bin_gtr, bin_geq, bin_shl, bin_shr, bin_bools, bin_strs, bin_ptrs, bin_slices, bin_aggs, ↓Option.bind_some, ↓Option.map_some, ↓cond_true, ↓cond_false, evC, evOp, XO.lit, setArgs, Tr.get_set, Option.bind_some, Option.map_some, cond_true, cond_false, maxI, maxFrom, minI, minFrom, aConv, aBinE, aEq, eqScal, aUn, evRes, fin, oneOf, if_true, if_false, callee, reduceCtorEq, Nat.reduceEqDiff, and_self, decide_true, decide_false, beq_true, beq_false, Bool.not_true, Bool.not_false, List.getElem?_cons_zero, List.getElem?_cons_succ, beq_self_eq_true, gt_iff_lt, ble_dec, beq_dec, List.head?_cons, AV.undef, eq_self, ne_eq, not_true_eq_false, not_false_eq_true, Int.reduceLT, Int.reduceLE, Int.reduceToNat, Int.reduceEq, Int.reduceNeg, Nat.reduceAdd, Nat.reduceLT, Nat.reduceLeDiff, Nat.reduceMul, Nat.reduceSub, AV.cells, AV.tup, Bool.true_and, true_and, and_true, List.drop_nil, List.append_nil, rd_put, rd_alloc, rdO, St.get_put, St.get_alloc, St.next_put, St.next_alloc, St.wr, Bool.and_self, Bool.and_true, List.length_cons, List.length_nil, List.take_succ_cons, List.take_zero, List.drop_succ_cons, List.drop_zero, List.cons_append, List.nil_append, Nat.zero_add, Nat.add_zero, Nat.reduceMul, t0, t1, t10, c0, c1, c2, hm0, hm1]
    · simp -implicitDefEqProofs -dsimp (maxSteps := 10000000) only [af4_l1, ↓goes_loop, ↓goes_seq, ↓goes_reg, ↓goes_dreg, ↓goes_preg, ↓goes_cond, ↓goes_block, ↓goes_skip, ↓goes_exit, ↓goes_ret, after_some, br_true, br_false, ↓then_normal, ↓then_exit, ↓then_ret, ↓blk_normal, ↓blk_exit, ↓blk_ret, ↓blk_other, ops_nil, ops_some, ops_none, oper_none, oper_some, gd_tt, gd_ff, gd_tf, gd_ft, gd_undef, ↓any_op, ↓any_call, ↓any_callV, ↓any_invoke, xo_t, xo_c, args_nil, args_cons, bin_add, bin_sub, bin_mul, bin_quo, bin_rem, bin_and, bin_or, bin_xor, bin_andNot, bin_eql, bin_neq, bin_lss, bin_leq, bin_gtr, bin_geq, bin_shl, bin_shr, bin_bools, bin_strs, bin_ptrs, bin_slices, bin_aggs, ↓Option.bind_some, ↓Option.map_some, ↓cond_true, ↓cond_false, evC, evOp, XO.lit, setArgs, Tr.get_set, Option.bind_some, Option.map_some, cond_true, cond_false, maxI, maxFrom, minI, minFrom, aConv, aBinE, aEq, eqScal, aUn, evRes, fin, oneOf, if_true, if_false, callee, reduceCtorEq, Nat.reduceEqDiff, and_self, decide_true, decide_false, beq_true, beq_false, Bool.not_true, Bool.not_false, List.getElem?_cons_zero, List.getElem?_cons_succ, beq_self_eq_true, gt_iff_lt, ble_dec, beq_dec, List.head?_cons, AV.undef, eq_self, ne_eq, not_true_eq_false, not_false_eq_true, Int.reduceLT, Int.reduceLE, Int.reduceToNat, Int.reduceEq, Int.reduceNeg, Nat.reduceAdd, Nat.reduceLT, Nat.reduceLeDiff, Nat.reduceMul, Nat.reduceSub, AV.cells, AV.tup, Bool.true_and, true_and, and_true, List.drop_nil, List.append_nil, rd_put, rd_alloc, rdO, St.get_put, St.get_alloc, St.next_put, St.next_alloc, St.wr, Bool.and_self, Bool.and_true, List.length_cons, List.length_nil, List.take_succ_cons, List.take_zero, List.drop_succ_cons, List.drop_zero, List.cons_append, List.nil_append, Nat.zero_add, Nat.add_zero, Nat.reduceMul, t0, t1, t10, c0, c1, hm0, hm1]
  · simp -implicitDefEqProofs -dsimp (maxSteps := 10000000) only [af4_l1, ↓goes_loop, ↓goes_seq, ↓goes_reg, ↓goes_dreg, ↓goes_preg, ↓goes_cond, ↓goes_block, ↓goes_skip, ↓goes_exit, ↓goes_ret, after_some, br_true, br_false, ↓then_normal, ↓then_exit, ↓then_ret, ↓blk_normal, ↓blk_exit, ↓blk_ret, ↓blk_other, ops_nil, ops_some, ops_none, oper_none, oper_some, gd_tt, gd_ff, gd_tf, gd_ft, gd_undef, ↓any_op, ↓any_call, ↓any_callV, ↓any_invoke, xo_t, xo_c, args_nil, args_cons, bin_add, bin_sub, bin_mul, bin_quo, bin_rem, bin_and, bin_or, bin_xor, bin_andNot, bin_eql, bin_neq, bin_lss, bin_leq, bin_gtr, bin_geq, bin_shl, bin_shr, bin_bools, bin_strs, bin_ptrs, bin_slices, bin_aggs, ↓Option.bind_some, ↓Option.map_some, ↓cond_true, ↓cond_false, evC, evOp, XO.lit, setArgs, Tr.get_set, Option.bind_some, Option.map_some, cond_true, cond_false, maxI, maxFrom, minI, minFrom, aConv, aBinE, aEq, eqScal, aUn, evRes, fin, oneOf, if_true, if_false, callee, reduceCtorEq, Nat.reduceEqDiff, and_self, decide_true, decide_false, beq_true, beq_false, Bool.not_true, Bool.not_false, List.getElem?_cons_zero, List.getElem?_cons_succ, beq_self_eq_true, gt_iff_lt, ble_dec, beq_dec, List.head?_cons, AV.undef, eq_self, ne_eq, not_true_eq_false, not_false_eq_true, Int.reduceLT, Int.reduceLE, Int.reduceToNat, Int.reduceEq, Int.reduceNeg, Nat.reduceAdd, Nat.reduceLT, Nat.reduceLeDiff, Nat.reduceMul, Nat.reduceSub, AV.cells, AV.tup, Bool.true_and, true_and, and_true, List.drop_nil, List.append_nil, rd_put, rd_alloc, rdO, St.get_put, St.get_alloc, St.next_put, St.next_alloc, St.wr, Bool.and_self, Bool.and_true, List.length_cons, List.length_nil, List.take_succ_cons, List.take_zero, List.drop_succ_cons, List.drop_zero, List.cons_append, List.nil_append, Nat.zero_add, Nat.add_zero, Nat.reduceMul, t0, t1, t10, c0, hm0, hm1]
set_option maxHeartbeats 4000000 in
theorem ev4 (k : Nat) {p0 p1 : Option (Nat × Nat × Nat)} {len0 len1 : Nat} {S : St} (h0 : Sl S p0 len0 [.int .i64]) (h1 : Sl S p1 len1 [.int .i64]) :
    ∃ S', evF Y AP (k + 200) 4 [.slice p0 len0 1 none, .slice p1 len1 1 none] S = some (.bool true, S') := by
  suffices hs : ∃ v S', evF Y AP (k + 200) 4 [.slice p0 len0 1 none, .slice p1 len1 1 none] S = some (v, S') ∧ v = .bool true by
    obtain ⟨v, S', h1, rfl⟩ := hs; exact ⟨S', h1⟩
  refine evF_goes (af := af4) (k := k + 199) rfl rfl rfl ?_
  simp -implicitDefEqProofs -dsimp (maxSteps := 10000000) only [af4, ↓goes_loop, ↓goes_seq, ↓goes_reg, ↓goes_dreg, ↓goes_preg, ↓goes_cond, ↓goes_block, ↓goes_skip, ↓goes_exit, ↓goes_ret, after_some, br_true, br_false, ↓then_normal, ↓then_exit, ↓then_ret, ↓blk_normal, ↓blk_exit, ↓blk_ret, ↓blk_other, ops_nil, ops_some, ops_none, oper_none, oper_some, gd_tt, gd_ff, gd_tf, gd_ft, gd_undef, ↓any_op, ↓any_call, ↓any_callV, ↓any_invoke, xo_t, xo_c, args_nil, args_cons, bin_add, bin_sub, bin_mul, bin_quo, bin_rem, bin_and, bin_or, bin_xor, bin_andNot, bin_eql, bin_neq, bin_lss, bin_leq, bin_gtr, bin_geq, bin_shl, bin_shr, bin_bools, bin_strs, bin_ptrs, bin_slices, bin_aggs, ↓Option.bind_some, ↓Option.map_some, ↓cond_true, ↓cond_false, evC, evOp, XO.lit, setArgs, Tr.tabG, Tr.tabS, Tr.tabL, Tr.get_lf, Option.bind_some, Option.map_some, cond_true, cond_false, maxI, maxFrom, minI, minFrom, aConv, aBinE, aEq, eqScal, aUn, evRes, fin, oneOf, if_true, if_false, callee, reduceCtorEq, Nat.reduceEqDiff, and_self, decide_true, decide_false, beq_true, beq_false, Bool.not_true, Bool.not_false, List.getElem?_cons_zero, List.getElem?_cons_succ, beq_self_eq_true, gt_iff_lt, ble_dec, beq_dec, List.head?_cons, AV.undef, eq_self, ne_eq, not_true_eq_false, not_false_eq_true, Int.reduceLT, Int.reduceLE, Int.reduceToNat, Int.reduceEq, Int.reduceNeg, Nat.reduceAdd, Nat.reduceLT, Nat.reduceLeDiff, Nat.reduceMul, Nat.reduceSub, AV.cells, AV.tup, Bool.true_and, true_and, and_true, List.drop_nil, List.append_nil, rd_put, rd_alloc, rdO, St.get_put, St.get_alloc, St.next_put, St.next_alloc, St.wr, Bool.and_self, Bool.and_true, List.length_cons, List.length_nil, List.take_succ_cons, List.take_zero, List.drop_succ_cons, List.drop_zero, List.cons_append, List.nil_append, Nat.zero_add, Nat.add_zero, Nat.reduceMul, T8, pt, Option.isNone_some]
  refine .while (W1 p0 p1 len0 len1 S) id 60 ?_ (by show 60 < k + 199; omega) fun n2 T2 S2 h2 => (roundW1 k h0 h1 n2 T2 S2 h2).mono ?_
  · refine ⟨rfl, rfl, rfl, Ext.alloc _ _, Nat.lt_succ_self _, 0, 0, 0, 0, zf, [], none, none, 0, 0, rfl, rfl, rfl, rfl, rfl, ?_, .zero, .nil _ _ _, .nil _ _ _, ?_, ?_, by decide, by decide, rfl, rfl, by decide, by decide, rfl⟩
    · rw [St.get_alloc, if_pos rfl]
    · intro o v j e; cases e
    · intro o v j e; cases e
  · intro q T' S' hr
    cases q with
    | normal => exact hr
    | ret => exact absurd hr (by intro h; cases h)
    | exit id =>
      cases hr
      simp -implicitDefEqProofs -dsimp (maxSteps := 10000000) only [↓goes_loop, ↓goes_seq, ↓goes_reg, ↓goes_dreg, ↓goes_preg, ↓goes_cond, ↓goes_block, ↓goes_skip, ↓goes_exit, ↓goes_ret, after_some, br_true, br_false, ↓then_normal, ↓then_exit, ↓then_ret, ↓blk_normal, ↓blk_exit, ↓blk_ret, ↓blk_other, ops_nil, ops_some, ops_none, oper_none, oper_some, gd_tt, gd_ff, gd_tf, gd_ft, gd_undef, ↓any_op, ↓any_call, ↓any_callV, ↓any_invoke, xo_t, xo_c, args_nil, args_cons, bin_add, bin_sub, bin_mul, bin_quo, bin_rem, bin_and, bin_or, bin_xor, bin_andNot, bin_eql, bin_neq, bin_lss, bin_leq, bin_gtr, bin_geq, bin_shl, bin_shr, bin_bools, bin_strs, bin_ptrs, bin_slices, bin_aggs, ↓Option.bind_some, ↓Option.map_some, ↓cond_true, ↓cond_false, evC, evOp, XO.lit, setArgs, Tr.get_set, Option.bind_some, Option.map_some, cond_true, cond_false, maxI, maxFrom, minI, minFrom, aConv, aBinE, aEq, eqScal, aUn, evRes, fin, oneOf, if_true, if_false, callee, reduceCtorEq, Nat.reduceEqDiff, and_self, decide_true, decide_false, beq_true, beq_false, Bool.not_true, Bool.not_false, List.getElem?_cons_zero, List.getElem?_cons_succ, beq_self_eq_true, gt_iff_lt, ble_dec, beq_dec, List.head?_cons, AV.undef, eq_self, ne_eq, not_true_eq_false, not_false_eq_true, Int.reduceLT, Int.reduceLE, Int.reduceToNat, Int.reduceEq, Int.reduceNeg, Nat.reduceAdd, Nat.reduceLT, Nat.reduceLeDiff, Nat.reduceMul, Nat.reduceSub, AV.cells, AV.tup, Bool.true_and, true_and, and_true, List.drop_nil, List.append_nil, rd_put, rd_alloc, rdO, St.get_put, St.get_alloc, St.next_put, St.next_alloc, St.wr, Bool.and_self, Bool.and_true, List.length_cons, List.length_nil, List.take_succ_cons, List.take_zero, List.drop_succ_cons, List.drop_zero, List.cons_append, List.nil_append, Nat.zero_add, Nat.add_zero, Nat.reduceMul, y7]
      exact ⟨_, _, rfl, rfl⟩
theorem law4 {p0 p1 : Option (Nat × Nat × Nat)} {len0 len1 : Nat} {xs ys : List AV} (h0 : Arg p0 0 len0 [.int .i64] xs) (h1 : Arg p1 1 len1 [.int .i64] ys) :
    ∃ S', evF Y AP (0 + 200) 4 [.slice p0 len0 1 none, .slice p1 len1 1 none] ((S0.alloc (.cells xs 0 0 false)).alloc (.cells ys 0 0 false)) = some (.bool true, S') :=
  ev4 0 (.of_arg h0 rfl (by show 0 < 2; decide)) (.of_arg h1 rfl (by show 1 < 2; decide))
end Go.Proofs.YtinnclcheekhpaaA
