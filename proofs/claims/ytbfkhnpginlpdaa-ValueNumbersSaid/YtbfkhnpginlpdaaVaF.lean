/- Chapter 7: values. -/
import Derived.Test.YtbfkhnpginlpdaaVaE
set_option linter.unusedVariables false
set_option linter.unusedSimpArgs false
set_option maxRecDepth 10000
namespace Go.Proofs.YtbfkhnpginlpdaaA
open Go.RowKit
attribute [local congr] bind_congr1 map_congr1 cond_congr1 withX_congr after_congr br_congr gd_congr

structure I6a (n r u : Int) (s : List Nat) (b : Bool) (o : Nat) (Sb : St) (m : Nat) (T : Tm) (S : St) : Prop where
  st : S = Sb
  t0 : T.get 0 = some (.int .i64 n)
  t1 : T.get 1 = some (.int .i32 r)
  t2 : T.get 2 = some (.int .u32 u)
  t3 : T.get 3 = some (.str s)
  t4 : T.get 4 = some (.bool b)
  t33 : T.get 33 = some (.slice (some (o, 0, 0)) 9 1 none)
  t34 : T.get 34 = some (.int .i64 9)
  more : ∃ i : Nat, T.get 35 = some (.int .i64 i) ∧ i + m = 9
set_option maxHeartbeats 4000000 in
theorem round6a (k : Nat) {n r u : Int} {s : List Nat} {b : Bool} {o : Nat} {Sb : St} (hc : ∀ i, i < 9 → ∃ v, Sb.rd o 0 i 1 = some [v] ∧ evF Y AP (k + 4) 11 [v, .int .i64 0, .bool false] Sb = some (.bool true, Sb)) (m : Nat) (T : Tm) (S : St) (hI : I6a n r u s b o Sb m T S) :
    Goes (evF Y AP (k + 4)) (k + 4) af6_l1 T S (Then (fun T' S' => ∃ m', I6a n r u s b o Sb m' T' S' ∧ id m' < id m) fun x T' S' => x = .exit 0 ∧ I6a n r u s b o Sb 0 T' S') := by
  obtain ⟨rfl, t0, t1, t2, t3, t4, t33, t34, i, t35, hm⟩ := hI
  by_cases c1 : (i : Int) < 9
  rotate_left
  · obtain rfl : m = 0 := by omega
    simp -implicitDefEqProofs -dsimp (maxSteps := 10000000) only [af6_l1, ↓kS, after_some, br_true, br_false, kC, ↓kQ, ↓Option.bind_some, ↓Option.map_some, ↓cond_true, ↓cond_false, evC, evOp, XO.lit, setArgs, Tr.get_set, Option.bind_some, Option.map_some, cond_true, cond_false, maxI, maxFrom, minI, minFrom, aConv, aBinE, aEq, eqScal, aUn, evRes, fin, oneOf, if_true, if_false, callee, reduceCtorEq, Nat.reduceEqDiff, List.getElem?_cons_zero, List.getElem?_cons_succ, beq_self_eq_true, gt_iff_lt, List.head?_cons, AV.undef, eq_self, ne_eq, Int.reduceLT, Int.reduceLE, Int.reduceToNat, Int.reduceEq, Int.reduceNeg, Nat.reduceAdd, Nat.reduceLT, Nat.reduceLeDiff, Nat.reduceMul, Nat.reduceSub, kM, AV.cells, AV.tup, List.drop_nil, List.append_nil, rdO, St.wr, List.length_cons, List.length_nil, List.take_succ_cons, List.take_zero, List.drop_succ_cons, List.drop_zero, List.cons_append, List.nil_append, Nat.reduceMul, t34, t35, c1]
    refine ⟨rfl, ?_, ?_, ?_, ?_, ?_, ?_, ?_, i, ?_, hm⟩ <;> simp only [Tr.get_set, Nat.reduceEqDiff, if_false, if_true, t0, t1, t2, t3, t4, t33, t34, t35]
  obtain ⟨v, hz, q⟩ := hc i (by omega)
  have hix : ixOf (.int .i64 (i : Nat)) 9 = some i := by rw [ix_ok (by omega) (by omega)]; rfl
  have wi : IntKind.i64.wrap ((i : Int) + 1) = ((i + 1 : Nat) : Int) := w64_id (by omega) (by omega)
  simp -implicitDefEqProofs -dsimp (maxSteps := 10000000) only [af6_l1, ↓kS, after_some, br_true, br_false, kC, ↓kQ, ↓Option.bind_some, ↓Option.map_some, ↓cond_true, ↓cond_false, evC, evOp, XO.lit, setArgs, Tr.get_set, Option.bind_some, Option.map_some, cond_true, cond_false, maxI, maxFrom, minI, minFrom, aConv, aBinE, aEq, eqScal, aUn, evRes, fin, oneOf, if_true, if_false, callee, reduceCtorEq, Nat.reduceEqDiff, List.getElem?_cons_zero, List.getElem?_cons_succ, beq_self_eq_true, gt_iff_lt, List.head?_cons, AV.undef, eq_self, ne_eq, Int.reduceLT, Int.reduceLE, Int.reduceToNat, Int.reduceEq, Int.reduceNeg, Nat.reduceAdd, Nat.reduceLT, Nat.reduceLeDiff, Nat.reduceMul, Nat.reduceSub, ↓evDraw_nil, bir, putD, evDraw, trace, List.all_cons, List.all_nil, chk, stAt, again, sameV, sameL, sameA, AV.undef, Bool.and_self, Bool.and_true, decide_eq_true_eq, List.getElem?_nil, kM, AV.cells, AV.tup, List.drop_nil, List.append_nil, rdO, St.wr, List.length_cons, List.length_nil, List.take_succ_cons, List.take_zero, List.drop_succ_cons, List.drop_zero, List.cons_append, List.nil_append, Nat.reduceMul, t33, t34, t35, c1, hix, Nat.mul_one, hz, q, wi]
  refine ⟨m - 1, ⟨rfl, ?_, ?_, ?_, ?_, ?_, ?_, ?_, i + 1, ?_, by omega⟩, by show m - 1 < m; omega⟩ <;> simp only [Tr.get_set, Nat.reduceEqDiff, if_false, if_true, t0, t1, t2, t3, t4, t33, t34]
structure I6b (n r u : Int) (s : List Nat) (b : Bool) (o : Nat) (Sb : St) (m : Nat) (T : Tm) (S : St) : Prop where
  st : S = Sb
  t0 : T.get 0 = some (.int .i64 n)
  t1 : T.get 1 = some (.int .i32 r)
  t2 : T.get 2 = some (.int .u32 u)
  t3 : T.get 3 = some (.str s)
  t4 : T.get 4 = some (.bool b)
  t57 : T.get 57 = some (.slice (some (o, 0, 0)) 8 1 none)
  t58 : T.get 58 = some (.int .i64 8)
  more : ∃ i : Nat, T.get 59 = some (.int .i64 i) ∧ i + m = 8
set_option maxHeartbeats 4000000 in
theorem round6b (k : Nat) {n r u : Int} {s : List Nat} {b : Bool} {o : Nat} {Sb : St} (hc : ∀ i, i < 8 → ∃ v, Sb.rd o 0 i 1 = some [v] ∧ evF Y AP (k + 4) 12 [v, .str [], .bool false] Sb = some (.bool true, Sb)) (m : Nat) (T : Tm) (S : St) (hI : I6b n r u s b o Sb m T S) :
    Goes (evF Y AP (k + 4)) (k + 4) af6_l0 T S (Then (fun T' S' => ∃ m', I6b n r u s b o Sb m' T' S' ∧ id m' < id m) fun x T' S' => x = .exit 2 ∧ I6b n r u s b o Sb 0 T' S') := by
  obtain ⟨rfl, t0, t1, t2, t3, t4, t57, t58, i, t59, hm⟩ := hI
  by_cases c1 : (i : Int) < 8
  rotate_left
  · obtain rfl : m = 0 := by omega
    simp -implicitDefEqProofs -dsimp (maxSteps := 10000000) only [af6_l0, ↓kS, after_some, br_true, br_false, kC, ↓kQ, ↓Option.bind_some, ↓Option.map_some, ↓cond_true, ↓cond_false, evC, evOp, XO.lit, setArgs, Tr.get_set, Option.bind_some, Option.map_some, cond_true, cond_false, maxI, maxFrom, minI, minFrom, aConv, aBinE, aEq, eqScal, aUn, evRes, fin, oneOf, if_true, if_false, callee, reduceCtorEq, Nat.reduceEqDiff, List.getElem?_cons_zero, List.getElem?_cons_succ, beq_self_eq_true, gt_iff_lt, List.head?_cons, AV.undef, eq_self, ne_eq, Int.reduceLT, Int.reduceLE, Int.reduceToNat, Int.reduceEq, Int.reduceNeg, Nat.reduceAdd, Nat.reduceLT, Nat.reduceLeDiff, Nat.reduceMul, Nat.reduceSub, kM, AV.cells, AV.tup, List.drop_nil, List.append_nil, rdO, St.wr, List.length_cons, List.length_nil, List.take_succ_cons, List.take_zero, List.drop_succ_cons, List.drop_zero, List.cons_append, List.nil_append, Nat.reduceMul, t58, t59, c1]
    refine ⟨rfl, ?_, ?_, ?_, ?_, ?_, ?_, ?_, i, ?_, hm⟩ <;> simp only [Tr.get_set, Nat.reduceEqDiff, if_false, if_true, t0, t1, t2, t3, t4, t57, t58, t59]
  obtain ⟨v, hz, q⟩ := hc i (by omega)
  have hix : ixOf (.int .i64 (i : Nat)) 8 = some i := by rw [ix_ok (by omega) (by omega)]; rfl
  have wi : IntKind.i64.wrap ((i : Int) + 1) = ((i + 1 : Nat) : Int) := w64_id (by omega) (by omega)
  simp -implicitDefEqProofs -dsimp (maxSteps := 10000000) only [af6_l0, ↓kS, after_some, br_true, br_false, kC, ↓kQ, ↓Option.bind_some, ↓Option.map_some, ↓cond_true, ↓cond_false, evC, evOp, XO.lit, setArgs, Tr.get_set, Option.bind_some, Option.map_some, cond_true, cond_false, maxI, maxFrom, minI, minFrom, aConv, aBinE, aEq, eqScal, aUn, evRes, fin, oneOf, if_true, if_false, callee, reduceCtorEq, Nat.reduceEqDiff, List.getElem?_cons_zero, List.getElem?_cons_succ, beq_self_eq_true, gt_iff_lt, List.head?_cons, AV.undef, eq_self, ne_eq, Int.reduceLT, Int.reduceLE, Int.reduceToNat, Int.reduceEq, Int.reduceNeg, Nat.reduceAdd, Nat.reduceLT, Nat.reduceLeDiff, Nat.reduceMul, Nat.reduceSub, ↓evDraw_nil, bir, putD, evDraw, trace, List.all_cons, List.all_nil, chk, stAt, again, sameV, sameL, sameA, AV.undef, Bool.and_self, Bool.and_true, decide_eq_true_eq, List.getElem?_nil, kM, AV.cells, AV.tup, List.drop_nil, List.append_nil, rdO, St.wr, List.length_cons, List.length_nil, List.take_succ_cons, List.take_zero, List.drop_succ_cons, List.drop_zero, List.cons_append, List.nil_append, Nat.reduceMul, t57, t58, t59, c1, hix, Nat.mul_one, hz, q, wi]
  refine ⟨m - 1, ⟨rfl, ?_, ?_, ?_, ?_, ?_, ?_, ?_, i + 1, ?_, by omega⟩, by show m - 1 < m; omega⟩ <;> simp only [Tr.get_set, Nat.reduceEqDiff, if_false, if_true, t0, t1, t2, t3, t4, t57, t58]
def bvs (l : List Nat) : List AV := l.map fun b : Nat => .int .u8 (b : Int)
theorem strOf_bvs : ∀ {l : List Nat}, (∀ b ∈ l, b < 256) → strOf (bvs l) = some l
  | [], _ => rfl
  | b :: l, h => by
    have hb := h b List.mem_cons_self
    have := strOf_bvs (l := l) fun x hx => h x (List.mem_cons_of_mem _ hx)
    show (byteOf (.int .u8 (b : Int))).bind (fun b => (strOf (bvs l)).map (b :: ·)) = _
    rw [this]
    simp only [byteOf, Int.toNat_natCast, Nat.mod_eq_of_lt hb, Option.bind_some, Option.map_some]
theorem bvs_len (l : List Nat) : (bvs l).length = l.length := List.length_map _
/-- Bytes laid anew are read as the text they were. -/
theorem str_back {S B : St} {s : List Nat} (hb : ∀ x ∈ s, x < 256) (hB : S.alloc (.cells (bvs s) 0 0 true) = B) : aConv .bytesStr (.slice (some (S.next, 0, 0)) s.length 1 none) B = some (.str s, B) := by
  have hr : B.rd S.next 0 0 s.length = some (bvs s) := by
    have h := rd_cells (S := B) (o := S.next) (i := 0) (n := s.length) (by rw [← hB, St.get_alloc, if_pos rfl]) (Nat.le_refl _) (by rw [bvs_len]; omega)
    rw [h, List.drop_zero, List.take_of_length_le (by rw [bvs_len]; exact Nat.le_refl _)]
  simp only [aConv, hr, Option.bind_some, strOf_bvs hb, Option.map_some]
set_option maxHeartbeats 16000000 in
/-- values -/
theorem T6 (k : Nat) (S : St) {n r u : Int} {s : List Nat} {b : Bool} (hr : -2147483648 ≤ r ∧ r ≤ 2147483647) (hu : 0 ≤ u ∧ u < 4294967296) (hb : ∀ x ∈ s, x < 256) (hs : s.length ≤ 9223372036854775807) :
    ∃ S', evF Y AP (k + 25) 6 [.int .i64 n, .int .i32 r, .int .u32 u, .str s, .bool b] S = some (.bool true, S') ∧ Ext S S' := by
  suffices hh : ∃ w S', evF Y AP (k + 25) 6 [.int .i64 n, .int .i32 r, .int .u32 u, .str s, .bool b] S = some (w, S') ∧ w = .bool true ∧ Ext S S' by
    obtain ⟨w, S', h1, rfl, h2⟩ := hh; exact ⟨S', h1, h2⟩
  obtain ⟨A1, hA1⟩ : ∃ A, S.alloc (.cells [.int .i64 0] 0 0 true) = A := ⟨_, rfl⟩
  obtain ⟨A2, hA2⟩ : ∃ A, A1.alloc (.cells [.int .i64 1] 0 0 true) = A := ⟨_, rfl⟩
  obtain ⟨A3, hA3⟩ : ∃ A, A2.alloc (.cells [.iface 9 (.str s)] 0 0 true) = A := ⟨_, rfl⟩
  obtain ⟨A4, hA4⟩ : ∃ A, A3.alloc (.cells (bvs s) 0 0 true) = A := ⟨_, rfl⟩
  have hA4' : A3.alloc (.cells (List.map (fun b : Nat => AV.int .u8 (b : Int)) s) 0 0 true) = A4 := hA4
  obtain ⟨A5, hA5⟩ : ∃ A, A4.alloc (.cells [.nilIface, .iface 40 (.float .f64 4609434218613702656), .iface 36 (.agg [.int .i64 2]), .iface 41 (.ptr (some ⟨S.next, 0, 0, 1⟩)), .iface 42 (.slice (some (A1.next, 0, 0)) 1 1 none), .iface 43 (.int .u64 3), .iface 44 (.slice (some (A2.next, 0, 0)) 1 1 none), .iface 45 (.slice (some (A3.next, 0, 0)) s.length 1 none), .iface 30 (.int .i64 1)] 0 0 true) = A := ⟨_, rfl⟩
  have x1 : Ext S A1 := by rw [← hA1]; exact .alloc _ _
  have x2 : Ext A1 A2 := by rw [← hA2]; exact .alloc _ _
  have x3 : Ext A2 A3 := by rw [← hA3]; exact .alloc _ _
  have x4 : Ext A3 A4 := by rw [← hA4]; exact .alloc _ _
  have x5 : Ext A4 A5 := by rw [← hA5]; exact .alloc _ _
  have r5 : ∀ v i m, A5.rd A4.next v i m = rdO (.cells [.nilIface, .iface 40 (.float .f64 4609434218613702656), .iface 36 (.agg [.int .i64 2]), .iface 41 (.ptr (some ⟨S.next, 0, 0, 1⟩)), .iface 42 (.slice (some (A1.next, 0, 0)) 1 1 none), .iface 43 (.int .u64 3), .iface 44 (.slice (some (A2.next, 0, 0)) 1 1 none), .iface 45 (.slice (some (A3.next, 0, 0)) s.length 1 none), .iface 30 (.int .i64 1)] 0 0 true) v i m := rd_of (by rw [← hA5, St.get_alloc, if_pos rfl])
  have hc : ∀ i, i < 9 → ∃ v, A5.rd A4.next 0 i 1 = some [v] ∧ evF Y AP (k + 20 + 4) 11 [v, .int .i64 0, .bool false] A5 = some (.bool true, A5) := by
    intro i hi
    have h9 : i = 0 ∨ i = 1 ∨ i = 2 ∨ i = 3 ∨ i = 4 ∨ i = 5 ∨ i = 6 ∨ i = 7 ∨ i = 8 := by omega
    rcases h9 with rfl | rfl | rfl | rfl | rfl | rfl | rfl | rfl | rfl
    · exact ⟨_, by rw [r5]; rfl, T11 (k + 20) A5 (T20_n (k + 20) A5)⟩
    all_goals exact ⟨_, by rw [r5]; rfl, T11 (k + 20) A5 (T20_o (k + 20) A5 (by decide) (by decide) (by decide) (by decide) (by decide) (by decide))⟩
  -- the second row
  obtain ⟨B1, hB1⟩ : ∃ A, A5.alloc (.cells [.str s] 0 0 true) = A := ⟨_, rfl⟩
  obtain ⟨B2, hB2⟩ : ∃ A, B1.alloc (.cells [.nilIface, .iface 40 (.float .f64 4609434218613702656), .iface 36 (.agg [.int .i64 2]), .iface 2 (.int .i64 n), .iface 21 (.int .i32 r), .iface 25 (.int .u32 u), .iface 4 (.bool b), .iface 22 (.slice (some (A5.next, 0, 0)) 1 1 none)] 0 0 true) = A := ⟨_, rfl⟩
  have z1 : Ext A5 B1 := by rw [← hB1]; exact .alloc _ _
  have z2 : Ext B1 B2 := by rw [← hB2]; exact .alloc _ _
  have r2 : ∀ v i m, B2.rd B1.next v i m = rdO (.cells [.nilIface, .iface 40 (.float .f64 4609434218613702656), .iface 36 (.agg [.int .i64 2]), .iface 2 (.int .i64 n), .iface 21 (.int .i32 r), .iface 25 (.int .u32 u), .iface 4 (.bool b), .iface 22 (.slice (some (A5.next, 0, 0)) 1 1 none)] 0 0 true) v i m := rd_of (by rw [← hB2, St.get_alloc, if_pos rfl])
  have hd : ∀ i, i < 8 → ∃ v, B2.rd B1.next 0 i 1 = some [v] ∧ evF Y AP (k + 20 + 4) 12 [v, .str [], .bool false] B2 = some (.bool true, B2) := by
    intro i hi
    have h9 : i = 0 ∨ i = 1 ∨ i = 2 ∨ i = 3 ∨ i = 4 ∨ i = 5 ∨ i = 6 ∨ i = 7 := by omega
    rcases h9 with rfl | rfl | rfl | rfl | rfl | rfl | rfl | rfl
    · exact ⟨_, by rw [r2]; rfl, T12 (k + 20) B2 (T21_n (k + 20) B2)⟩
    · exact ⟨_, by rw [r2]; rfl, T12 (k + 20) B2 (T21_40 (k + 20) B2 _)⟩
    · exact ⟨_, by rw [r2]; rfl, T12 (k + 20) B2 (T21_36 (k + 20) B2 _)⟩
    · exact ⟨_, by rw [r2]; rfl, T12 (k + 20) B2 (T21_2 (k + 20) B2 _)⟩
    · exact ⟨_, by rw [r2]; rfl, T12 (k + 20) B2 (T21_21 (k + 20) B2 _)⟩
    · exact ⟨_, by rw [r2]; rfl, T12 (k + 20) B2 (T21_25 (k + 20) B2 _)⟩
    · exact ⟨_, by rw [r2]; rfl, T12 (k + 20) B2 (T21_4 (k + 20) B2 _)⟩
    · exact ⟨_, by rw [r2]; rfl, T12 (k + 20) B2 (T21_22 (k + 20) B2 _)⟩
  -- behind both
  obtain ⟨C, hC⟩ : ∃ A, B2.alloc (.cells (bvs s) 0 0 true) = A := ⟨_, rfl⟩
  have hC' : B2.alloc (.cells (List.map (fun b : Nat => AV.int .u8 (b : Int)) s) 0 0 true) = C := hC
  have z3 : Ext B2 C := by rw [← hC]; exact .alloc _ _
  have wr : IntKind.i64.wrap r = r := w64_id (by omega) (by omega)
  have wu : IntKind.i64.wrap u = u := w64_id (by omega) (by omega)
  have q1 := T11 (k + 20) B2 (T20_2 (k + 20) B2 n)
  have q2 := T11 (k + 20) B2 (T20_3 (k + 20) B2 n)
  have q3 := T11 (k + 20) B2 (T20_21 (k + 20) B2 wr)
  have q4 := T11 (k + 20) B2 (T20_25 (k + 20) B2 wu)
  have q5 := T11 (k + 20) B2 (T20_9 (k + 20) B2 hs)
  have q6 := T11 (k + 20) B2 (T20_4 (k + 20) B2 b)
  have q7 := T12 (k + 20) B2 (T21_9 (k + 20) B2 s)
  have q8 := T12 (k + 20) C (T21_45 (k + 20) C (str_back hb hC))
  have q9 := T12 (k + 20) C (T21_30 (k + 20) C)
  have q10 : evF Y AP (k + 24) 14 [.int .i64 1] C = _ := T14 (k + 22) C
  have q11 : evF Y AP (k + 24) 15 [.iface 9 (.str s)] C = _ := T15 (k + 22) C s
  have q12 : evF Y AP (k + 24) 13 [.str s] B2 = _ := y13 (k + 23) B2 hs
  have es := eqStr_id s
  refine evF_goes (af := af6) (k := k + 24) rfl rfl rfl ?_
  simp -implicitDefEqProofs -dsimp (maxSteps := 10000000) only [af6, ↓kS, after_some, br_true, br_false, kC, ↓kQ, ↓Option.bind_some, ↓Option.map_some, ↓cond_true, ↓cond_false, evC, evOp, XO.lit, setArgs, Tr.tabG, Tr.tabS, Tr.tabL, Tr.get_lf, Option.bind_some, Option.map_some, cond_true, cond_false, maxI, maxFrom, minI, minFrom, aConv, aBinE, aEq, eqScal, aUn, evRes, fin, oneOf, if_true, if_false, callee, reduceCtorEq, Nat.reduceEqDiff, List.getElem?_cons_zero, List.getElem?_cons_succ, beq_self_eq_true, gt_iff_lt, List.head?_cons, AV.undef, eq_self, ne_eq, Int.reduceLT, Int.reduceLE, Int.reduceToNat, Int.reduceEq, Int.reduceNeg, Nat.reduceAdd, Nat.reduceLT, Nat.reduceLeDiff, Nat.reduceMul, Nat.reduceSub, ↓evDraw_nil, bir, putD, evDraw, trace, List.all_cons, List.all_nil, chk, stAt, again, sameV, sameL, sameA, AV.undef, Bool.and_self, Bool.and_true, decide_eq_true_eq, List.getElem?_nil, kM, AV.cells, AV.tup, List.drop_nil, List.append_nil, rdO, St.wr, List.length_cons, List.length_nil, List.take_succ_cons, List.take_zero, List.drop_succ_cons, List.drop_zero, List.cons_append, List.nil_append, Nat.reduceMul, aFill, evParts, rep, List.replicate_succ, List.replicate_zero, List.flatten_cons, List.flatten_nil, List.append_nil, newSl, newVar, hA1, hA2, hA3, hA4', hA5]
  refine .while (I6a n r u s b A4.next A5) id 9 ⟨rfl, rfl, rfl, rfl, rfl, rfl, rfl, rfl, 0, rfl, rfl⟩ (by show 9 < k + 24; omega) fun m2 T2 S2 h2 => (round6a (k + 20) hc m2 T2 S2 h2).mono ?_
  intro x T1 S1 hq
  cases x with
  | normal => exact hq
  | ret => exact absurd hq.1 (by simp)
  | exit x =>
    obtain ⟨hi, rfl, t0, t1, t2, t3, t4, t33, t34, i, t35, hm⟩ := hq
    cases hi
    simp -implicitDefEqProofs -dsimp (maxSteps := 10000000) only [↓kS, after_some, br_true, br_false, kC, ↓kQ, ↓Option.bind_some, ↓Option.map_some, ↓cond_true, ↓cond_false, evC, evOp, XO.lit, setArgs, Tr.get_set, Option.bind_some, Option.map_some, cond_true, cond_false, maxI, maxFrom, minI, minFrom, aConv, aBinE, aEq, eqScal, aUn, evRes, fin, oneOf, if_true, if_false, callee, reduceCtorEq, Nat.reduceEqDiff, List.getElem?_cons_zero, List.getElem?_cons_succ, beq_self_eq_true, gt_iff_lt, List.head?_cons, AV.undef, eq_self, ne_eq, Int.reduceLT, Int.reduceLE, Int.reduceToNat, Int.reduceEq, Int.reduceNeg, Nat.reduceAdd, Nat.reduceLT, Nat.reduceLeDiff, Nat.reduceMul, Nat.reduceSub, ↓evDraw_nil, bir, putD, evDraw, trace, List.all_cons, List.all_nil, chk, stAt, again, sameV, sameL, sameA, AV.undef, Bool.and_self, Bool.and_true, decide_eq_true_eq, List.getElem?_nil, kM, AV.cells, AV.tup, List.drop_nil, List.append_nil, rdO, St.wr, List.length_cons, List.length_nil, List.take_succ_cons, List.take_zero, List.drop_succ_cons, List.drop_zero, List.cons_append, List.nil_append, Nat.reduceMul, aFill, evParts, rep, List.replicate_succ, List.replicate_zero, List.flatten_cons, List.flatten_nil, List.append_nil, newSl, newVar, t0, t1, t2, t3, t4, hB1, hB2]
    refine .while (I6b n r u s b B1.next B2) id 8 ⟨rfl, ?_, ?_, ?_, ?_, ?_, ?_, ?_, 0, ?_, rfl⟩ (by show 8 < k + 24; omega) fun m2 T2 S2 h2 => (round6b (k + 20) hd m2 T2 S2 h2).mono ?_
    rotate_right
    · intro x T2 S2 hq
      cases x with
      | normal => exact hq
      | ret => exact absurd hq.1 (by simp)
      | exit x =>
        obtain ⟨hi, rfl, t0, t1, t2, t3, t4, t57, t58, i, t59, hm⟩ := hq
        cases hi
        cases b with
        | true =>
          have q6 : evF Y AP (k + 24) 11 [.iface 4 (.bool true), .int .i64 1, .bool true] S2 = some (.bool true, S2) := q6
          simp -implicitDefEqProofs -dsimp (maxSteps := 10000000) only [↓kS, after_some, br_true, br_false, kC, ↓kQ, ↓Option.bind_some, ↓Option.map_some, ↓cond_true, ↓cond_false, evC, evOp, XO.lit, setArgs, Tr.get_set, Option.bind_some, Option.map_some, cond_true, cond_false, maxI, maxFrom, minI, minFrom, aConv, aBinE, aEq, eqScal, aUn, evRes, fin, oneOf, if_true, if_false, callee, reduceCtorEq, Nat.reduceEqDiff, List.getElem?_cons_zero, List.getElem?_cons_succ, beq_self_eq_true, gt_iff_lt, List.head?_cons, AV.undef, eq_self, ne_eq, Int.reduceLT, Int.reduceLE, Int.reduceToNat, Int.reduceEq, Int.reduceNeg, Nat.reduceAdd, Nat.reduceLT, Nat.reduceLeDiff, Nat.reduceMul, Nat.reduceSub, ↓evDraw_nil, bir, putD, evDraw, trace, List.all_cons, List.all_nil, chk, stAt, again, sameV, sameL, sameA, AV.undef, Bool.and_self, Bool.and_true, decide_eq_true_eq, List.getElem?_nil, kM, AV.cells, AV.tup, List.drop_nil, List.append_nil, rdO, St.wr, List.length_cons, List.length_nil, List.take_succ_cons, List.take_zero, List.drop_succ_cons, List.drop_zero, List.cons_append, List.nil_append, Nat.reduceMul, newSl, newVar, t0, t1, t2, t3, t4, q1, q2, wr, q3, wu, q4, q12, q5, q6, q7, hC', q8, q9, q10, q11, aStr, es]
          exact ⟨_, _, rfl, rfl, x1.trans (x2.trans (x3.trans (x4.trans (x5.trans (z1.trans (z2.trans z3))))))⟩
        | false =>
          have q6 : evF Y AP (k + 24) 11 [.iface 4 (.bool false), .int .i64 0, .bool true] S2 = some (.bool true, S2) := q6
          simp -implicitDefEqProofs -dsimp (maxSteps := 10000000) only [↓kS, after_some, br_true, br_false, kC, ↓kQ, ↓Option.bind_some, ↓Option.map_some, ↓cond_true, ↓cond_false, evC, evOp, XO.lit, setArgs, Tr.get_set, Option.bind_some, Option.map_some, cond_true, cond_false, maxI, maxFrom, minI, minFrom, aConv, aBinE, aEq, eqScal, aUn, evRes, fin, oneOf, if_true, if_false, callee, reduceCtorEq, Nat.reduceEqDiff, List.getElem?_cons_zero, List.getElem?_cons_succ, beq_self_eq_true, gt_iff_lt, List.head?_cons, AV.undef, eq_self, ne_eq, Int.reduceLT, Int.reduceLE, Int.reduceToNat, Int.reduceEq, Int.reduceNeg, Nat.reduceAdd, Nat.reduceLT, Nat.reduceLeDiff, Nat.reduceMul, Nat.reduceSub, ↓evDraw_nil, bir, putD, evDraw, trace, List.all_cons, List.all_nil, chk, stAt, again, sameV, sameL, sameA, AV.undef, Bool.and_self, Bool.and_true, decide_eq_true_eq, List.getElem?_nil, kM, AV.cells, AV.tup, List.drop_nil, List.append_nil, rdO, St.wr, List.length_cons, List.length_nil, List.take_succ_cons, List.take_zero, List.drop_succ_cons, List.drop_zero, List.cons_append, List.nil_append, Nat.reduceMul, newSl, newVar, t0, t1, t2, t3, t4, q1, q2, wr, q3, wu, q4, q12, q5, q6, q7, hC', q8, q9, q10, q11, aStr, es]
          exact ⟨_, _, rfl, rfl, x1.trans (x2.trans (x3.trans (x4.trans (x5.trans (z1.trans (z2.trans z3))))))⟩
    all_goals simp only [Tr.get_set, Nat.reduceEqDiff, if_false, if_true, t0, t1, t2, t3, t4]
    all_goals rfl
end Go.Proofs.YtbfkhnpginlpdaaA
