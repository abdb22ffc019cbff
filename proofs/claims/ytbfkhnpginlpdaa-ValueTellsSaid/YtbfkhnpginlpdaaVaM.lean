/- Chapter 7: ValueTells. -/
import Derived.Test.YtbfkhnpginlpdaaVaL
set_option linter.unusedVariables false
set_option linter.unusedSimpArgs false
set_option maxRecDepth 10000
namespace Go.Proofs.YtbfkhnpginlpdaaA
open Go.RowKit
attribute [local congr] bind_congr1 map_congr1 cond_congr1 withX_congr after_congr br_congr gd_congr

theorem maxLen_eq : maxLen = 9223372036854775807 := rfl
def LyOk (x : Ly) : Prop := x.r.length ≤ 9223372036854775807 ∧ (∀ b ∈ x.r, b < 256) ∧ (0 ≤ x.u ∧ x.u ≤ 4294967295)
theorem Scs.ly {a : List AV} (h : Scs lks a) : ∃ x : Ly, a = lyc x ∧ LyOk x := by
  match a, h with
  | [a, b, c], h =>
    obtain ⟨u, rfl, hu⟩ := Sc.of_int h.2.1
    obtain ⟨n, rfl, hn⟩ := Sc.of_int h.2.2.1
    match a, h.1 with
    | .str s, h1 => exact ⟨⟨s, u, n⟩, rfl, h1.1, h1.2, wf_u32 hu⟩
theorem lay_list : ∀ (n : Nat) (xs : List AV), n * 3 ≤ xs.length → (∀ i, i < n → Scs lks ((xs.drop (i * 3)).take 3)) → ∃ L : List Ly, L.length = n ∧ xs.take (n * 3) = lcs L ∧ ∀ x ∈ L, LyOk x
  | 0, xs, _, _ => ⟨[], rfl, by simp [lcs], fun _ hx => (by cases hx)⟩
  | n + 1, xs, hl, hs => by
    obtain ⟨x, hx, hok⟩ := (hs 0 (by omega)).ly
    rw [Nat.zero_mul, List.drop_zero] at hx
    obtain ⟨L, h1, h2, h3⟩ := lay_list n (xs.drop 3) (by rw [List.length_drop]; omega) fun i hi => by
      rw [List.drop_drop, show 3 + i * 3 = (i + 1) * 3 by omega]; exact hs (i + 1) (by omega)
    refine ⟨x :: L, by rw [List.length_cons, h1], ?_, fun y hy => ?_⟩
    · rw [show (n + 1) * 3 = 3 + n * 3 by omega, List.take_add, hx, h2]; rfl
    · rcases List.mem_cons.1 hy with rfl | hy
      · exact hok
      · exact h3 y hy
structure I4 (Sb : St) (w0 w1 w2 w3 w4 w5 w14 : AV) (p : Option (Nat × Nat × Nat)) (e : Nat) (L : List Ly) (m : Nat) (T : Tm) (S : St) : Prop where
  t0 : T.get 0 = some w0
  t1 : T.get 1 = some w1
  t2 : T.get 2 = some w2
  t3 : T.get 3 = some w3
  t4 : T.get 4 = some w4
  t5 : T.get 5 = some w5
  t7 : T.get 7 = some (.slice p L.length e none)
  t14 : T.get 14 = some w14
  t30 : T.get 30 = some (.int .i64 L.length)
  more : ∃ (i : Nat) (q : Option (Nat × Nat × Nat)) (f : Nat) (M : List Ly), T.get 31 = some (.int .i64 i) ∧ i + m = L.length ∧ T.get 17 = some (.slice q M.length f none) ∧ Lg Sb S q f M ∧ M.length = i ∧ ∀ x ∈ M, x.r.length ≤ 100 ∧ 0 ≤ x.u ∧ x.u ≤ 4294967295
def rids : Nat → List Nat
  | 0 => [108, 111]
  | 1 => [109, 105, 100]
  | _ => [72, 73]
theorem rids_len (n : Nat) : (rids n).length ≤ 100 := by unfold rids; split <;> decide
set_option maxHeartbeats 8000000 in
theorem round4 (k : Nat) {Sb : St} {w0 w1 w2 w3 w4 w5 w14 : AV} {p : Option (Nat × Nat × Nat)} {e : Nat} {L : List Ly} (hL : Lr Sb p e L) (hu : ∀ x ∈ L, 0 ≤ x.u ∧ x.u ≤ 4294967295) (h5 : L.length ≤ 5) (m : Nat) (T : Tm) (S : St) (hI : I4 Sb w0 w1 w2 w3 w4 w5 w14 p e L m T S) :
    Goes (evF Y AP (k + 3)) (k + 3) af4_l0 T S (Then (fun T' S' => ∃ m', I4 Sb w0 w1 w2 w3 w4 w5 w14 p e L m' T' S' ∧ id m' < id m) fun r T' S' => r = .exit 0 ∧ I4 Sb w0 w1 w2 w3 w4 w5 w14 p e L 0 T' S') := by
  obtain ⟨t0, t1, t2, t3, t4, t5, t7, t14, t30, i, q, f, M, t31, hm, t17, G, hM, hMo⟩ := hI
  have hmx := hL.mx
  by_cases c1 : (i : Int) < (L.length : Int)
  rotate_left
  · obtain rfl : m = 0 := by omega
    simp -implicitDefEqProofs -dsimp (maxSteps := 10000000) only [af4_l0, ↓kS, after_some, br_true, br_false, kC, ↓kQ, ↓Option.bind_some, ↓Option.map_some, ↓cond_true, ↓cond_false, evC, evOp, XO.lit, setArgs, Tr.get_set, Option.bind_some, Option.map_some, cond_true, cond_false, maxI, maxFrom, minI, minFrom, aConv, aBinE, aEq, eqScal, aUn, evRes, fin, oneOf, if_true, if_false, callee, reduceCtorEq, Nat.reduceEqDiff, List.getElem?_cons_zero, List.getElem?_cons_succ, beq_self_eq_true, gt_iff_lt, List.head?_cons, AV.undef, eq_self, ne_eq, Int.reduceLT, Int.reduceLE, Int.reduceToNat, Int.reduceEq, Int.reduceNeg, Nat.reduceAdd, Nat.reduceLT, Nat.reduceLeDiff, Nat.reduceMul, Nat.reduceSub, kM, AV.cells, AV.tup, List.drop_nil, List.append_nil, rdO, St.wr, List.length_cons, List.length_nil, List.take_succ_cons, List.take_zero, List.drop_succ_cons, List.drop_zero, List.cons_append, List.nil_append, Nat.reduceMul, t30, t31, c1]
    refine ⟨?_, ?_, ?_, ?_, ?_, ?_, ?_, ?_, ?_, i, q, f, M, ?_, hm, ?_, G, hM, hMo⟩ <;> simp only [Tr.get_set, Nat.reduceEqDiff, if_false, if_true, t0, t1, t2, t3, t4, t5, t7, t14, t17, t30, t31]
  have hi : i < L.length := by omega
  have hLS := hL.ext G.ext
  rcases p with _ | ⟨o, v, j⟩
  · have := hL.nil rfl; rw [this] at hi; exact absurd hi (Nat.not_lt_zero _)
  obtain rfl := hL.ez.resolve_left (by simp)
  have hux := hu _ (List.getElem_mem hi)
  have hix : ixOf (.int .i64 (i : Nat)) L.length = some i := by rw [ix_ok (by omega) (by omega)]; rfl
  have wi : IntKind.i64.wrap ((i : Int) + 1) = ((i + 1 : Nat) : Int) := w64_id (by omega) (by omega)
  obtain ⟨B, hB⟩ : ∃ B, S.alloc (.cells [.str [108, 111], .str [109, 105, 100], .str [72, 73]] 0 0 true) = B := ⟨_, rfl⟩
  have eB : Ext S B := by rw [← hB]; exact .alloc _ _
  have rB : ∀ v i m, B.rd S.next v i m = rdO (.cells [.str [108, 111], .str [109, 105, 100], .str [72, 73]] 0 0 true) v i m := rd_of (by rw [← hB, St.get_alloc, if_pos rfl])
  have hz := (hLS.ext eB).get hi
  obtain ⟨x, hx⟩ : ∃ x, L[i] = x := ⟨_, rfl⟩
  have hzS := hLS.get hi
  rw [hx] at hz hux hzS
  have y1 : S.rd o v (j + i * 3 + 1) 1 = some [.int .u32 x.u] := rd_sub (m := 1) (l := 1) hzS (by decide)
  have y2 : S.rd o v (j + i * 3 + 2) 1 = some [.int .i64 x.h] := rd_sub (m := 2) (l := 1) hzS (by decide)
  have z1 : B.rd o v (j + i * 3 + 1) 1 = some [.int .u32 x.u] := rd_sub (m := 1) (l := 1) hz (by decide)
  have z2 : B.rd o v (j + i * 3 + 2) 1 = some [.int .i64 x.h] := rd_sub (m := 2) (l := 1) hz (by decide)
  have htm : (i : Int).tmod 3 = ((i % 3 : Nat) : Int) := by rw [Int.tmod_eq_emod_of_nonneg (by omega)]; omega
  have hi3 : i % 3 < 3 := Nat.mod_lt _ (by decide)
  have hix3 : ixOf (.int .i64 ((i % 3 : Nat) : Int)) 3 = some (i % 3) := by rw [ix_ok (by omega) (by omega)]; rfl
  have rR : B.rd S.next 0 (i % 3) 1 = some [.str (rids (i % 3))] := by
    rw [rB]
    have h3 : i % 3 = 0 ∨ i % 3 = 1 ∨ i % 3 = 2 := by omega
    rcases h3 with h | h | h <;> rw [h] <;> rfl
  obtain ⟨E, hE⟩ : ∃ E, IntKind.i64.wrap (1 + (IntKind.i64.wrap (bits BinOp.and IntKind.i64 x.h 1023 + 1024)).tmod 1024) = E := ⟨_, rfl⟩
  obtain ⟨C, hC⟩ : ∃ C, B.alloc (.cells [.str (rids (i % 3)), .int .u32 x.u, .int .i64 E] 0 0 true) = C := ⟨_, rfl⟩
  have eC : Ext B C := by rw [← hC]; exact .alloc _ _
  have rC : C.rd B.next 0 0 3 = some [.str (rids (i % 3)), .int .u32 x.u, .int .i64 E] := by rw [← hC, rd_alloc, if_pos rfl]; rfl
  obtain ⟨p', e', S', qa, G'⟩ := (G.more (eB.trans eC)).app (M := [⟨rids (i % 3), x.u, E⟩]) (by simp only [List.length_cons, List.length_nil]; omega)
  have qa : aAppend 3 32 C (.slice q M.length f none) 1 [.str (rids (i % 3)), .int .u32 x.u, .int .i64 E] = _ := qa
  simp -implicitDefEqProofs -dsimp (maxSteps := 10000000) only [af4_l0, ↓kS, after_some, br_true, br_false, kC, ↓kQ, ↓Option.bind_some, ↓Option.map_some, ↓cond_true, ↓cond_false, evC, evOp, XO.lit, setArgs, Tr.get_set, Option.bind_some, Option.map_some, cond_true, cond_false, maxI, maxFrom, minI, minFrom, aConv, aBinE, aEq, eqScal, aUn, evRes, fin, oneOf, if_true, if_false, callee, reduceCtorEq, Nat.reduceEqDiff, List.getElem?_cons_zero, List.getElem?_cons_succ, beq_self_eq_true, gt_iff_lt, List.head?_cons, AV.undef, eq_self, ne_eq, Int.reduceLT, Int.reduceLE, Int.reduceToNat, Int.reduceEq, Int.reduceNeg, Nat.reduceAdd, Nat.reduceLT, Nat.reduceLeDiff, Nat.reduceMul, Nat.reduceSub, ↓evDraw_nil, bir, putD, evDraw, trace, List.all_cons, List.all_nil, chk, stAt, again, sameV, sameL, sameA, AV.undef, Bool.and_self, Bool.and_true, decide_eq_true_eq, List.getElem?_nil, kM, AV.cells, AV.tup, List.drop_nil, List.append_nil, rdO, St.wr, List.length_cons, List.length_nil, List.take_succ_cons, List.take_zero, List.drop_succ_cons, List.drop_zero, List.cons_append, List.nil_append, Nat.reduceMul, aFill, evParts, rep, List.replicate_succ, List.replicate_zero, List.flatten_cons, List.flatten_nil, List.append_nil, newSl, newVar, t7, t17, t30, t31, c1, hix, hB, z1, z2, y1, y2, wi, htm, hix3, Nat.mul_one, Nat.zero_add, rR, hE, hC, rC, qa]
  refine ⟨m - 1, ⟨?_, ?_, ?_, ?_, ?_, ?_, ?_, ?_, ?_, i + 1, p', e', _, ?_, by omega, ?_, G', by rw [List.length_append, hM]; rfl, fun y hy => ?_⟩, by show m - 1 < m; omega⟩
  rotate_right
  · rcases List.mem_append.1 hy with hy | hy
    · exact hMo y hy
    · rw [List.mem_singleton] at hy
      rw [hy]
      exact ⟨rids_len _, hux⟩
  all_goals simp only [Tr.get_set, Nat.reduceEqDiff, if_false, if_true, t0, t1, t2, t3, t4, t5, t7, t14, t30]
set_option maxHeartbeats 16000000 in
theorem ev4 (k : Nat) {S : St} {n1 n2 r u : Int} {s : List Nat} {b : Bool} {x : Ly} {p : Option (Nat × Nat × Nat)} {n : Nat} {L : List Ly} (hr : -2147483648 ≤ r ∧ r ≤ 2147483647) (hu : 0 ≤ u ∧ u < 4294967296) (hb : ∀ c ∈ s, c < 256) (hs : s.length ≤ 9223372036854775807) (hx : LyOk x)
    (hn : n ≤ 9223372036854775807) (hnL : L.length = min n 5) (hLr : Lr S p 3 L) (hLo : ∀ y ∈ L, LyOk y) :
    ∃ S', evF Y AP (k + 31) 4 [.int .i64 n1, .int .i64 n2, .int .i32 r, .int .u32 u, .str s, .bool b, .agg (lyc x), .slice p n 3 none] S = some (.bool true, S') := by
  suffices hh : ∃ w S', evF Y AP (k + 31) 4 [.int .i64 n1, .int .i64 n2, .int .i32 r, .int .u32 u, .str s, .bool b, .agg (lyc x), .slice p n 3 none] S = some (w, S') ∧ w = .bool true by
    obtain ⟨w, S', h1, rfl⟩ := hh; exact ⟨S', h1⟩
  obtain ⟨A1, hA1⟩ : ∃ A, S.alloc (.cells (lyc x) 0 0 true) = A := ⟨_, rfl⟩
  have eA1 : Ext S A1 := by rw [← hA1]; exact .alloc _ _
  have nA1 : A1.next = S.next + 1 := by rw [← hA1]; rfl
  have gA1 : A1.get S.next = some (.cells (lyc x) 0 0 true) := by rw [← hA1, St.get_alloc, if_pos rfl]
  have wn : IntKind.i64.wrap (n : Int) = (n : Int) := w64_id (by omega) (by omega)
  refine evF_goes (af := af4) (k := k + 30) rfl rfl rfl ?_
  obtain ⟨s', hs'⟩ : ∃ s', s' = s.take 60 := ⟨_, rfl⟩
  have hs60 : s'.length ≤ 60 := by rw [hs', List.length_take]; omega
  have hb' : ∀ c ∈ s', c < 256 := fun c hc => hb c (List.mem_of_mem_take (hs' ▸ hc))
  have hcs : (60 : Int) < (s.length : Int) → aCutStr (.str s) none (some (.int .i64 60)) = some (.str s') := by
    intro c1
    have b1 : bnd (some (.int .i64 60)) s.length s.length = some 60 := by rw [bnd_some (by omega) (by omega)]; rfl
    simp [aCutStr, b1, bnd_none, hs']
  have hss : ¬ (60 : Int) < (s.length : Int) → s' = s := by
    intro c1
    rw [hs', List.take_of_length_le (by omega)]
  have hcut : (5 : Int) < (n : Int) → aCut 3 (.slice p n 3 none) none (some (.int .i64 5)) none = some (.slice p L.length 3 none) := by
    intro c2
    have h5 : L.length = 5 := by omega
    rcases p with _ | ⟨o, v, i⟩
    · have := hLr.nil rfl; rw [this] at h5; cases h5
    have b1 : bnd (some (.int .i64 5)) n n = some 5 := by rw [bnd_some (by omega) (by omega)]; rfl
    rw [h5]
    simp [aCut, b1, bnd_none, beq_dec]
  have hnn : ¬ (5 : Int) < (n : Int) → n = L.length := by omega
  have hL5 : L.length ≤ 5 := by omega
  have hmx := hLr.mx
  by_cases c1 : (60 : Int) < (s.length : Int) <;> by_cases c2 : (5 : Int) < (n : Int)
  have hcs1 := hcs c1
  have hcut1 := hcut c2
  simp -implicitDefEqProofs -dsimp (maxSteps := 10000000) only [af4, ↓kS, after_some, br_true, br_false, kC, ↓kQ, ↓Option.bind_some, ↓Option.map_some, ↓cond_true, ↓cond_false, evC, evOp, XO.lit, setArgs, Tr.tabG, Tr.tabS, Tr.tabL, Tr.get_lf, Option.bind_some, Option.map_some, cond_true, cond_false, maxI, maxFrom, minI, minFrom, aConv, aBinE, aEq, eqScal, aUn, evRes, fin, oneOf, if_true, if_false, callee, reduceCtorEq, Nat.reduceEqDiff, List.getElem?_cons_zero, List.getElem?_cons_succ, beq_self_eq_true, gt_iff_lt, List.head?_cons, AV.undef, eq_self, ne_eq, Int.reduceLT, Int.reduceLE, Int.reduceToNat, Int.reduceEq, Int.reduceNeg, Nat.reduceAdd, Nat.reduceLT, Nat.reduceLeDiff, Nat.reduceMul, Nat.reduceSub, ↓evDraw_nil, bir, putD, evDraw, trace, List.all_cons, List.all_nil, chk, stAt, again, sameV, sameL, sameA, AV.undef, Bool.and_self, Bool.and_true, decide_eq_true_eq, List.getElem?_nil, kM, AV.cells, AV.tup, List.drop_nil, List.append_nil, rdO, St.wr, List.length_cons, List.length_nil, List.take_succ_cons, List.take_zero, List.drop_succ_cons, List.drop_zero, List.cons_append, List.nil_append, Nat.reduceMul, aFill, evParts, rep, List.replicate_succ, List.replicate_zero, List.flatten_cons, List.flatten_nil, List.append_nil, newSl, newVar, evOpt, hA1, c1, c2, hn, hs, hcs1, hcut1, hmx]
  rotate_left 1
  have hcs1 := hcs c1
  obtain rfl := hnn c2
  simp -implicitDefEqProofs -dsimp (maxSteps := 10000000) only [af4, ↓kS, after_some, br_true, br_false, kC, ↓kQ, ↓Option.bind_some, ↓Option.map_some, ↓cond_true, ↓cond_false, evC, evOp, XO.lit, setArgs, Tr.tabG, Tr.tabS, Tr.tabL, Tr.get_lf, Option.bind_some, Option.map_some, cond_true, cond_false, maxI, maxFrom, minI, minFrom, aConv, aBinE, aEq, eqScal, aUn, evRes, fin, oneOf, if_true, if_false, callee, reduceCtorEq, Nat.reduceEqDiff, List.getElem?_cons_zero, List.getElem?_cons_succ, beq_self_eq_true, gt_iff_lt, List.head?_cons, AV.undef, eq_self, ne_eq, Int.reduceLT, Int.reduceLE, Int.reduceToNat, Int.reduceEq, Int.reduceNeg, Nat.reduceAdd, Nat.reduceLT, Nat.reduceLeDiff, Nat.reduceMul, Nat.reduceSub, ↓evDraw_nil, bir, putD, evDraw, trace, List.all_cons, List.all_nil, chk, stAt, again, sameV, sameL, sameA, AV.undef, Bool.and_self, Bool.and_true, decide_eq_true_eq, List.getElem?_nil, kM, AV.cells, AV.tup, List.drop_nil, List.append_nil, rdO, St.wr, List.length_cons, List.length_nil, List.take_succ_cons, List.take_zero, List.drop_succ_cons, List.drop_zero, List.cons_append, List.nil_append, Nat.reduceMul, aFill, evParts, rep, List.replicate_succ, List.replicate_zero, List.flatten_cons, List.flatten_nil, List.append_nil, newSl, newVar, evOpt, hA1, c1, c2, hn, hs, hcs1, hmx]
  rotate_left 1
  obtain rfl := hss c1
  have hcut1 := hcut c2
  simp -implicitDefEqProofs -dsimp (maxSteps := 10000000) only [af4, ↓kS, after_some, br_true, br_false, kC, ↓kQ, ↓Option.bind_some, ↓Option.map_some, ↓cond_true, ↓cond_false, evC, evOp, XO.lit, setArgs, Tr.tabG, Tr.tabS, Tr.tabL, Tr.get_lf, Option.bind_some, Option.map_some, cond_true, cond_false, maxI, maxFrom, minI, minFrom, aConv, aBinE, aEq, eqScal, aUn, evRes, fin, oneOf, if_true, if_false, callee, reduceCtorEq, Nat.reduceEqDiff, List.getElem?_cons_zero, List.getElem?_cons_succ, beq_self_eq_true, gt_iff_lt, List.head?_cons, AV.undef, eq_self, ne_eq, Int.reduceLT, Int.reduceLE, Int.reduceToNat, Int.reduceEq, Int.reduceNeg, Nat.reduceAdd, Nat.reduceLT, Nat.reduceLeDiff, Nat.reduceMul, Nat.reduceSub, ↓evDraw_nil, bir, putD, evDraw, trace, List.all_cons, List.all_nil, chk, stAt, again, sameV, sameL, sameA, AV.undef, Bool.and_self, Bool.and_true, decide_eq_true_eq, List.getElem?_nil, kM, AV.cells, AV.tup, List.drop_nil, List.append_nil, rdO, St.wr, List.length_cons, List.length_nil, List.take_succ_cons, List.take_zero, List.drop_succ_cons, List.drop_zero, List.cons_append, List.nil_append, Nat.reduceMul, aFill, evParts, rep, List.replicate_succ, List.replicate_zero, List.flatten_cons, List.flatten_nil, List.append_nil, newSl, newVar, evOpt, hA1, c1, c2, hn, hs, hcut1, hmx]
  rotate_left 1
  obtain rfl := hss c1
  obtain rfl := hnn c2
  simp -implicitDefEqProofs -dsimp (maxSteps := 10000000) only [af4, ↓kS, after_some, br_true, br_false, kC, ↓kQ, ↓Option.bind_some, ↓Option.map_some, ↓cond_true, ↓cond_false, evC, evOp, XO.lit, setArgs, Tr.tabG, Tr.tabS, Tr.tabL, Tr.get_lf, Option.bind_some, Option.map_some, cond_true, cond_false, maxI, maxFrom, minI, minFrom, aConv, aBinE, aEq, eqScal, aUn, evRes, fin, oneOf, if_true, if_false, callee, reduceCtorEq, Nat.reduceEqDiff, List.getElem?_cons_zero, List.getElem?_cons_succ, beq_self_eq_true, gt_iff_lt, List.head?_cons, AV.undef, eq_self, ne_eq, Int.reduceLT, Int.reduceLE, Int.reduceToNat, Int.reduceEq, Int.reduceNeg, Nat.reduceAdd, Nat.reduceLT, Nat.reduceLeDiff, Nat.reduceMul, Nat.reduceSub, ↓evDraw_nil, bir, putD, evDraw, trace, List.all_cons, List.all_nil, chk, stAt, again, sameV, sameL, sameA, AV.undef, Bool.and_self, Bool.and_true, decide_eq_true_eq, List.getElem?_nil, kM, AV.cells, AV.tup, List.drop_nil, List.append_nil, rdO, St.wr, List.length_cons, List.length_nil, List.take_succ_cons, List.take_zero, List.drop_succ_cons, List.drop_zero, List.cons_append, List.nil_append, Nat.reduceMul, aFill, evParts, rep, List.replicate_succ, List.replicate_zero, List.flatten_cons, List.flatten_nil, List.append_nil, newSl, newVar, evOpt, hA1, c1, c2, hn, hs, hmx]
  all_goals
    refine .while (I4 A1 (.int .i64 n1) (.int .i64 n2) (.int .i32 r) (.int .u32 u) (.str s') (.bool b) (.ptr (some ⟨S.next, 0, 0, 3⟩)) p 3 L) id L.length ⟨rfl, rfl, rfl, rfl, rfl, rfl, rfl, rfl, rfl, 0, none, 0, [], rfl, by omega, rfl, ⟨.nil _ _ _, .refl A1, fun _ _ _ hp => (by cases hp)⟩, rfl, fun _ hx => (by cases hx)⟩ (by show L.length < k + 30; omega) fun mm TT SS hh => (round4 (k + 27) (hLr.ext eA1) (fun y hy => (hLo y hy).2.2) hL5 mm TT SS hh).mono ?_
    intro rr T1 U1 hq
    cases rr with
    | normal => exact hq
    | ret => exact absurd hq.1 (by simp)
    | exit xx =>
      obtain ⟨hi, t0, t1, t2, t3, t4, t5, t7, t14, t30, i, q, f, M, t31, hm, t17, G, hM, hMo⟩ := hq
      cases hi
      have hs'l : s'.length ≤ 9223372036854775807 := by omega
      obtain ⟨V1, q6, x6⟩ := T6 (k + 5) U1 (n := n1) (b := b) hr hu hb' hs'l
      have q6 : evF Y AP (k + 30) 6 [.int .i64 n1, .int .i32 r, .int .u32 u, .str s', .bool b] U1 = _ := q6
      have x1 : Ext A1 V1 := G.ext.trans x6
      have rx : ∀ v i m, V1.rd S.next v i m = rdO (.cells (lyc x) 0 0 true) v i m := rd_of (x1.get (by omega) gA1)
      obtain ⟨V2, q7, x7⟩ := T7 (k + 17 - L.length) (S := V1) (s := s') (n := n1) (h := n2) (hLr.ext (eA1.trans x1)) (fun y hy => (hLo y hy).2.2) (by omega) hs'l hx.1 hx.2.2
      rw [show k + 17 - L.length + L.length + 13 = k + 30 by omega] at q7
      have hMr : Lr V2 q f M := (Lr.of_vec G.vec (by omega) fun y hy => by have := (hMo y hy).1; omega).ext (x6.trans x7)
      obtain ⟨V3, q7', x8⟩ := T7 (k + 17 - M.length) (S := V2) (s := [108, 111]) (n := bits .and .i64 n1 65535) (h := IntKind.i64.wrap (1 + bits .and .i64 n2 1023)) (x := ⟨[104, 105], u, 9⟩) hMr (fun y hy => (hMo y hy).2) (by omega) (by decide) (by show ([104, 105] : List Nat).length ≤ 9223372036854775807; decide) ⟨hu.1, by show u ≤ 4294967295; omega⟩
      rw [show k + 17 - M.length + M.length + 13 = k + 30 by omega] at q7'
      have q10 : evF Y AP (k + 30) 10 [] V3 = _ := y10 (k + 29) V3
      simp -implicitDefEqProofs -dsimp (maxSteps := 10000000) only [↓kS, after_some, br_true, br_false, kC, ↓kQ, ↓Option.bind_some, ↓Option.map_some, ↓cond_true, ↓cond_false, evC, evOp, XO.lit, setArgs, Tr.get_set, Option.bind_some, Option.map_some, cond_true, cond_false, maxI, maxFrom, minI, minFrom, aConv, aBinE, aEq, eqScal, aUn, evRes, fin, oneOf, if_true, if_false, callee, reduceCtorEq, Nat.reduceEqDiff, List.getElem?_cons_zero, List.getElem?_cons_succ, beq_self_eq_true, gt_iff_lt, List.head?_cons, AV.undef, eq_self, ne_eq, Int.reduceLT, Int.reduceLE, Int.reduceToNat, Int.reduceEq, Int.reduceNeg, Nat.reduceAdd, Nat.reduceLT, Nat.reduceLeDiff, Nat.reduceMul, Nat.reduceSub, ↓evDraw_nil, bir, putD, evDraw, trace, List.all_cons, List.all_nil, chk, stAt, again, sameV, sameL, sameA, AV.undef, Bool.and_self, Bool.and_true, decide_eq_true_eq, List.getElem?_nil, kM, AV.cells, AV.tup, List.drop_nil, List.append_nil, rdO, St.wr, List.length_cons, List.length_nil, List.take_succ_cons, List.take_zero, List.drop_succ_cons, List.drop_zero, List.cons_append, List.nil_append, Nat.reduceMul, aFill, evParts, rep, List.replicate_succ, List.replicate_zero, List.flatten_cons, List.flatten_nil, List.append_nil, newSl, newVar, t0, t1, t2, t3, t4, t5, t7, t14, t17, q6, rx, q7, q7', q10]
      exact ⟨_, _, rfl, rfl⟩
theorem law4a {n1 n2 r u : Int} {b : Bool} (_ : (Lit.int .i64 n1).wf = true) (_ : (Lit.int .i64 n2).wf = true) (hr : (Lit.int .i32 r).wf = true) (hu : (Lit.int .u32 u).wf = true) (s : List Nat) (hs : s.length ≤ 9223372036854775807 ∧ ∀ c ∈ s, c < 256) {x : Ly} (hx : LyOk x)
    {p : Option (Nat × Nat × Nat)} {n : Nat} {xs : List AV} (h : Arg p 0 n lks xs) :
    ∃ S', evF Y AP 31 4 [.int .i64 n1, .int .i64 n2, .int .i32 r, .int .u32 u, .str s, .bool b, .agg (lyc x), .slice p n 3 none] (S0.alloc (.cells xs 0 0 false)) = some (.bool true, S') := by
  have hr := wf_i32 hr
  have hu := wf_u32 hu
  have hle : n * 3 ≤ xs.length := h.le
  have hmx := h.max
  have hg : (S0.alloc (.cells xs 0 0 false)).get 0 = some (.cells xs 0 0 false) := by rw [St.get_alloc]; rfl
  obtain ⟨L, hL, ht, hLo⟩ := lay_list (min n 5) xs (by omega) fun i hi => h.el i (by omega)
  refine ev4 0 hr (by omega) hs.2 hs.1 hx hmx hL ⟨?_, fun hp => ?_, fun o v i hp => ?_, by omega, fun y hy => (hLo y hy).1⟩ hLo
  · exact .inr rfl
  · by_cases h0 : n = 0
    · exact List.length_eq_zero_iff.1 (by omega)
    · rw [h.at_ h0] at hp; cases hp
  · rcases h.at0 with h0 | h0
    · rw [h0] at hp; cases hp
    · rw [h0] at hp; cases hp
      refine ⟨by show 0 < 1; decide, ?_⟩
      rw [rd_cells hg (Nat.le_refl _) (by omega), List.drop_zero, hL, ht]
end Go.Proofs.YtbfkhnpginlpdaaA
