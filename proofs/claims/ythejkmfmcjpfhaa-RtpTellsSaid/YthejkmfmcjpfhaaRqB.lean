/- Chapter 3: packets written, by both. Chapter 3: packets held against each other, by both. Chapter 3: packets read, by the reference. -/
import Derived.Test.YthejkmfmcjpfhaaRqA
set_option linter.unusedVariables false
set_option linter.unusedSimpArgs false
set_option maxRecDepth 10000
namespace Go.Proofs.YthejkmfmcjpfhaaA
open Go.RowKit
attribute [local congr] bind_congr1 map_congr1 cond_congr1 withX_congr after_congr br_congr gd_congr
theorem be_byt (n : Int) : ∀ j, Byt (be n j)
  | 0 => .nil
  | j + 1 => fun b hb => by
    rcases List.mem_cons.1 hb with rfl | hb
    · omega
    · exact be_byt n j b hb
def firstP (p : Pk) : Nat := 128 + p.cs.length + (if p.pf = 0 then 0 else 16)
def secondP (p : Pk) : Nat := p.ty.toNat + (if p.mrk = true then 128 else 0)
def wordsP : List Int → List Nat
  | [] => []
  | n :: l => be n 4 ++ wordsP l
theorem wordsP_snoc (n : Int) : ∀ l : List Int, wordsP (l ++ [n]) = wordsP l ++ be n 4
  | [] => by simp [wordsP]
  | m :: l => by rw [List.cons_append, wordsP, wordsP, wordsP_snoc n l, List.append_assoc]
theorem wordsP_len : ∀ l : List Int, (wordsP l).length = 4 * l.length
  | [] => rfl
  | n :: l => by rw [wordsP, List.length_append, be_len, wordsP_len l, List.length_cons]; omega
theorem wordsP_byt : ∀ l : List Int, Byt (wordsP l)
  | [] => .nil
  | n :: l => by rw [wordsP]; exact (be_byt n 4).app (wordsP_byt l)
def headP (p : Pk) : List Nat := [firstP p, secondP p] ++ be p.sq 2 ++ be p.tm 4 ++ be p.ss 4
def extP (p : Pk) : List Nat := if p.pf = 0 then [] else be p.pf 2 ++ be ((p.ex.length : Int) / 4) 2 ++ p.ex
def bytesP (p : Pk) : List Nat := headP p ++ wordsP p.cs ++ extP p ++ p.pl
structure Ok0 (p : Pk) : Prop where
  t0 : 0 ≤ p.ty
  t1 : p.ty ≤ 127
  cl : p.cs.length ≤ 15
  e4 : (p.ex.length : Int) % 4 = 0
  e0 : p.pf = 0 → p.ex.length = 0
  sz : sizeP p ≤ 1500
theorem right0 {p : Pk} (h : rightP p = 0) : Ok0 p := by
  unfold rightP at h
  split at h
  · cases h
  · split at h
    · cases h
    · exact ⟨by omega, by omega, by omega, by omega, by omega, by omega⟩
theorem right_ok {p : Pk} (h : Ok0 p) : rightP p = 0 := by
  unfold rightP
  have := h.t0; have := h.t1; have := h.cl; have := h.e4; have := h.e0; have := h.sz
  rw [if_neg (by omega), if_neg (by omega)]
theorem bytesP_len {p : Pk} (h : Ok0 p) : ((bytesP p).length : Int) = sizeP p := by
  have := h.e4
  unfold bytesP headP extP sizeP
  simp only [List.length_append, List.length_cons, List.length_nil, be_len, wordsP_len]
  by_cases c : p.pf = 0
  · rw [if_pos c, if_pos c, List.length_nil]; omega
  · rw [if_neg c, if_neg c]; simp only [List.length_append, be_len]; omega
theorem or1 {n : Nat} (h : n < 16) : Go.bits .or .i64 128 (n : Int) = ((128 + n : Nat) : Int) := by
  have : ∀ n : Fin 16, Go.bits .or .i64 128 ((n.val : Nat) : Int) = ((128 + n.val : Nat) : Int) := by decide +kernel
  exact this ⟨n, h⟩
theorem or2 {n : Nat} (h : n < 16) : Go.bits .or .u8 ((128 + n : Nat) : Int) 16 = ((128 + n + 16 : Nat) : Int) ∧ Go.bits .or .i64 ((128 + n : Nat) : Int) 16 = ((128 + n + 16 : Nat) : Int) := by
  have : ∀ n : Fin 16, Go.bits .or .u8 ((128 + n.val : Nat) : Int) 16 = ((128 + n.val + 16 : Nat) : Int) ∧ Go.bits .or .i64 ((128 + n.val : Nat) : Int) 16 = ((128 + n.val + 16 : Nat) : Int) := by decide +kernel
  exact this ⟨n, h⟩
theorem or3 {n : Nat} (h : n < 128) : Go.bits .or .u8 (n : Int) 128 = ((n + 128 : Nat) : Int) ∧ Go.bits .or .i64 (n : Int) 128 = ((n + 128 : Nat) : Int) := by
  have : ∀ n : Fin 128, Go.bits .or .u8 ((n.val : Nat) : Int) 128 = ((n.val + 128 : Nat) : Int) ∧ Go.bits .or .i64 ((n.val : Nat) : Int) 128 = ((n.val + 128 : Nat) : Int) := by decide +kernel
  exact this ⟨n, h⟩
theorem putL2 (l : List Nat) (n : Int) : putL l n 2 = l ++ be n 2 := by unfold putL; rw [if_neg (by decide)]; rfl
theorem putL4 (l : List Nat) (n : Int) : putL l n 4 = l ++ be n 4 := by unfold putL; rw [if_neg (by decide)]; rfl
structure I18 (v1 : AV) (pc : Option (Nat × Nat × Nat)) (ec : Nat) (cc : Option Nat) (cs : List Int) (pre : List Nat) (Sb S1 : St) (m : Nat) (T : Tm) (S : St) : Prop where
  t1 : T.get 1 = some v1
  t49 : T.get 49 = some (.slice pc cs.length ec cc)
  t50 : T.get 50 = some (.int .i64 cs.length)
  ext : Ext S1 S
  more : ∃ (j : Nat) (v : AV), T.get 51 = some (.int .i64 j) ∧ j + m = cs.length ∧ T.get 7 = some v ∧ Nb Sb S v (pre ++ wordsP (cs.take j))
set_option maxHeartbeats 4000000 in
theorem round18 (k : Nat) {v1 : AV} {pc : Option (Nat × Nat × Nat)} {ec : Nat} {cc : Option Nat} {cs : List Int} {pre : List Nat} {Sb S1 : St} (h : Ur S1 pc ec cs) (hc : cs.length ≤ 15) (hp : pre.length ≤ 100) (xb : Ext Sb S1) (m : Nat) (T : Tm) (S : St) (hI : I18 v1 pc ec cc cs pre Sb S1 m T S) :
    Goes (evF Y AP (k + 24)) (k + 24) af18_l0 T S (Then (fun T' S' => ∃ m', I18 v1 pc ec cc cs pre Sb S1 m' T' S' ∧ id m' < id m) fun r T' S' => r = .exit 0 ∧ I18 v1 pc ec cc cs pre Sb S1 0 T' S') := by
  obtain ⟨t1, t49, t50, ex, j, v, t51, hm, t7, N⟩ := hI
  by_cases c1 : (j : Int) < (cs.length : Int)
  rotate_left
  · simp -implicitDefEqProofs -dsimp (maxSteps := 10000000) only [af18_l0, ↓kS, after_some, br_true, br_false, kC, ↓kQ, ↓Option.bind_some, ↓Option.map_some, ↓cond_true, ↓cond_false, evC, evOp, XO.lit, setArgs, Tr.get_set, Option.bind_some, Option.map_some, cond_true, cond_false, maxI, maxFrom, minI, minFrom, aConv, aBinE, aEq, eqScal, aUn, evRes, fin, oneOf, if_true, if_false, callee, reduceCtorEq, Nat.reduceEqDiff, List.getElem?_cons_zero, List.getElem?_cons_succ, beq_self_eq_true, gt_iff_lt, List.head?_cons, AV.undef, eq_self, ne_eq, Int.reduceLT, Int.reduceLE, Int.reduceToNat, Int.reduceEq, Int.reduceNeg, Nat.reduceAdd, Nat.reduceLT, Nat.reduceLeDiff, Nat.reduceMul, Nat.reduceSub, kM, AV.cells, AV.tup, List.drop_nil, List.append_nil, rdO, St.wr, List.length_cons, List.length_nil, List.take_succ_cons, List.take_zero, List.drop_succ_cons, List.drop_zero, List.cons_append, List.nil_append, Nat.reduceMul, t50, t51, c1]
    refine ⟨?_, ?_, ?_, ex, j, v, ?_, by omega, ?_, N⟩ <;> simp only [Tr.get_set, Nat.reduceEqDiff, if_false, if_true, t1, t49, t50, t51, t7]
  have hj : j < cs.length := by omega
  obtain ⟨o, w, i, rfl, rfl, ho⟩ := h.some_ (by omega)
  have hix : ixOf (.int .i64 (j : Int)) cs.length = some j := by rw [ix_ok (by omega) c1]; rfl
  have wj : IntKind.i64.wrap ((j : Int) + 1) = ((j + 1 : Nat) : Int) := w64_id (by omega) (by omega)
  have hz : S.rd o w (i + j) 1 = some [.int .u32 cs[j]] := by rw [ex.rd ho]; exact h.get hj
  have hbd := h.bd _ (List.getElem_mem hj)
  have htk : wordsP (cs.take (j + 1)) = wordsP (cs.take j) ++ be cs[j] 4 := by rw [List.take_succ_eq_append_getElem hj, wordsP_snoc]
  obtain ⟨n, hn⟩ : ∃ n, cs[j] = n := ⟨_, rfl⟩
  rw [hn] at hz hbd htk
  have wn : IntKind.u64.wrap n = n := u64_id hbd.1 (by omega)
  have hwl := wordsP_len (cs.take j)
  rw [List.length_take] at hwl
  obtain ⟨pv, ev, cv, rfl, bv_⟩ := N.bs
  obtain ⟨v', S', r33, N'⟩ := T33 (k + 4) (c := cv) bv_ (by rw [List.length_append]; omega) (n := n) (size := 4) ⟨by decide, by decide⟩
  have r33 : evF Y AP (k + 24) 33 [.slice pv (pre ++ wordsP (cs.take j)).length ev cv, .int .u64 n, .int .i64 4] S = _ := r33
  rw [putL4] at N'
  simp -implicitDefEqProofs -dsimp (maxSteps := 10000000) only [af18_l0, ↓kS, after_some, br_true, br_false, kC, ↓kQ, ↓Option.bind_some, ↓Option.map_some, ↓cond_true, ↓cond_false, evC, evOp, XO.lit, setArgs, Tr.get_set, Option.bind_some, Option.map_some, cond_true, cond_false, maxI, maxFrom, minI, minFrom, aConv, aBinE, aEq, eqScal, aUn, evRes, fin, oneOf, if_true, if_false, callee, reduceCtorEq, Nat.reduceEqDiff, List.getElem?_cons_zero, List.getElem?_cons_succ, beq_self_eq_true, gt_iff_lt, List.head?_cons, AV.undef, eq_self, ne_eq, Int.reduceLT, Int.reduceLE, Int.reduceToNat, Int.reduceEq, Int.reduceNeg, Nat.reduceAdd, Nat.reduceLT, Nat.reduceLeDiff, Nat.reduceMul, Nat.reduceSub, kM, AV.cells, AV.tup, List.drop_nil, List.append_nil, rdO, St.wr, List.length_cons, List.length_nil, List.take_succ_cons, List.take_zero, List.drop_succ_cons, List.drop_zero, List.cons_append, List.nil_append, Nat.reduceMul, t49, t50, t51, t7, c1, hix, Nat.mul_one, hz, wn, r33, wj]
  refine ⟨m - 1, ⟨?_, ?_, ?_, ex.trans N'.ext, j + 1, v', ?_, by omega, ?_, by rw [htk, ← List.append_assoc]; exact N'.base (xb.trans ex)⟩, by show m - 1 < m; omega⟩ <;> simp only [Tr.get_set, Nat.reduceEqDiff, if_false, if_true, t1, t49, t50]
structure I12 (v1 : AV) (pc : Option (Nat × Nat × Nat)) (ec : Nat) (cc : Option Nat) (cs : List Int) (pre : List Nat) (Sb S1 : St) (m : Nat) (T : Tm) (S : St) : Prop where
  t1 : T.get 1 = some v1
  t49 : T.get 49 = some (.slice pc cs.length ec cc)
  t50 : T.get 50 = some (.int .i64 cs.length)
  ext : Ext S1 S
  more : ∃ (j : Nat) (v : AV), T.get 51 = some (.int .i64 j) ∧ j + m = cs.length ∧ T.get 7 = some v ∧ Nb Sb S v (pre ++ wordsP (cs.take j))
set_option maxHeartbeats 4000000 in
theorem round12 (k : Nat) {v1 : AV} {pc : Option (Nat × Nat × Nat)} {ec : Nat} {cc : Option Nat} {cs : List Int} {pre : List Nat} {Sb S1 : St} (h : Ur S1 pc ec cs) (hc : cs.length ≤ 15) (hp : pre.length ≤ 100) (xb : Ext Sb S1) (m : Nat) (T : Tm) (S : St) (hI : I12 v1 pc ec cc cs pre Sb S1 m T S) :
    Goes (evF Y AP (k + 24)) (k + 24) af12_l0 T S (Then (fun T' S' => ∃ m', I12 v1 pc ec cc cs pre Sb S1 m' T' S' ∧ id m' < id m) fun r T' S' => r = .exit 0 ∧ I12 v1 pc ec cc cs pre Sb S1 0 T' S') := by
  obtain ⟨t1, t49, t50, ex, j, v, t51, hm, t7, N⟩ := hI
  by_cases c1 : (j : Int) < (cs.length : Int)
  rotate_left
  · simp -implicitDefEqProofs -dsimp (maxSteps := 10000000) only [af12_l0, ↓kS, after_some, br_true, br_false, kC, ↓kQ, ↓Option.bind_some, ↓Option.map_some, ↓cond_true, ↓cond_false, evC, evOp, XO.lit, setArgs, Tr.get_set, Option.bind_some, Option.map_some, cond_true, cond_false, maxI, maxFrom, minI, minFrom, aConv, aBinE, aEq, eqScal, aUn, evRes, fin, oneOf, if_true, if_false, callee, reduceCtorEq, Nat.reduceEqDiff, List.getElem?_cons_zero, List.getElem?_cons_succ, beq_self_eq_true, gt_iff_lt, List.head?_cons, AV.undef, eq_self, ne_eq, Int.reduceLT, Int.reduceLE, Int.reduceToNat, Int.reduceEq, Int.reduceNeg, Nat.reduceAdd, Nat.reduceLT, Nat.reduceLeDiff, Nat.reduceMul, Nat.reduceSub, kM, AV.cells, AV.tup, List.drop_nil, List.append_nil, rdO, St.wr, List.length_cons, List.length_nil, List.take_succ_cons, List.take_zero, List.drop_succ_cons, List.drop_zero, List.cons_append, List.nil_append, Nat.reduceMul, t50, t51, c1]
    refine ⟨?_, ?_, ?_, ex, j, v, ?_, by omega, ?_, N⟩ <;> simp only [Tr.get_set, Nat.reduceEqDiff, if_false, if_true, t1, t49, t50, t51, t7]
  have hj : j < cs.length := by omega
  obtain ⟨o, w, i, rfl, rfl, ho⟩ := h.some_ (by omega)
  have hix : ixOf (.int .i64 (j : Int)) cs.length = some j := by rw [ix_ok (by omega) c1]; rfl
  have wj : IntKind.i64.wrap ((j : Int) + 1) = ((j + 1 : Nat) : Int) := w64_id (by omega) (by omega)
  have hz : S.rd o w (i + j) 1 = some [.int .u32 cs[j]] := by rw [ex.rd ho]; exact h.get hj
  have hbd := h.bd _ (List.getElem_mem hj)
  have htk : wordsP (cs.take (j + 1)) = wordsP (cs.take j) ++ be cs[j] 4 := by rw [List.take_succ_eq_append_getElem hj, wordsP_snoc]
  obtain ⟨n, hn⟩ : ∃ n, cs[j] = n := ⟨_, rfl⟩
  rw [hn] at hz hbd htk
  have wn : IntKind.u64.wrap n = n := u64_id hbd.1 (by omega)
  have hwl := wordsP_len (cs.take j)
  rw [List.length_take] at hwl
  obtain ⟨pv, ev, cv, rfl, bv_⟩ := N.bs
  obtain ⟨v', S', r33, N'⟩ := T29 (k + 4) (c := cv) bv_ (by rw [List.length_append]; omega) (n := n) (size := 4) ⟨by decide, by decide⟩
  have r33 : evF Y AP (k + 24) 29 [.slice pv (pre ++ wordsP (cs.take j)).length ev cv, .int .u64 n, .int .i64 4] S = _ := r33
  rw [putL4] at N'
  simp -implicitDefEqProofs -dsimp (maxSteps := 10000000) only [af12_l0, ↓kS, after_some, br_true, br_false, kC, ↓kQ, ↓Option.bind_some, ↓Option.map_some, ↓cond_true, ↓cond_false, evC, evOp, XO.lit, setArgs, Tr.get_set, Option.bind_some, Option.map_some, cond_true, cond_false, maxI, maxFrom, minI, minFrom, aConv, aBinE, aEq, eqScal, aUn, evRes, fin, oneOf, if_true, if_false, callee, reduceCtorEq, Nat.reduceEqDiff, List.getElem?_cons_zero, List.getElem?_cons_succ, beq_self_eq_true, gt_iff_lt, List.head?_cons, AV.undef, eq_self, ne_eq, Int.reduceLT, Int.reduceLE, Int.reduceToNat, Int.reduceEq, Int.reduceNeg, Nat.reduceAdd, Nat.reduceLT, Nat.reduceLeDiff, Nat.reduceMul, Nat.reduceSub, kM, AV.cells, AV.tup, List.drop_nil, List.append_nil, rdO, St.wr, List.length_cons, List.length_nil, List.take_succ_cons, List.take_zero, List.drop_succ_cons, List.drop_zero, List.cons_append, List.nil_append, Nat.reduceMul, t49, t50, t51, t7, c1, hix, Nat.mul_one, hz, wn, r33, wj]
  refine ⟨m - 1, ⟨?_, ?_, ?_, ex.trans N'.ext, j + 1, v', ?_, by omega, ?_, by rw [htk, ← List.append_assoc]; exact N'.base (xb.trans ex)⟩, by show m - 1 < m; omega⟩ <;> simp only [Tr.get_set, Nat.reduceEqDiff, if_false, if_true, t1, t49, t50]
def tl18 : AC :=
 (.seq
 (.seq
 (.reg [⟨(some 60), none, (.fieldAddr 6 1 (.t 1))⟩,
   ⟨(some 61), none, (.load1 (.t 60))⟩,
   ⟨(some 62), none, (.bin .neq .num (.t 61) (.c (.int .u16 0)))⟩])
 (.cond (.t 62)
 (.seq
 (.dreg [⟨(some 63), none, (.mv (.t 7))⟩,
   ⟨(some 64), none, (.fieldAddr 6 1 (.t 1))⟩,
   ⟨(some 65), none, (.load1 (.t 64))⟩,
   ⟨(some 66), none, (.conv (.int .u64) (.t 65))⟩,
   ⟨(some 67), none, (.call 33 [(.t 63), (.t 66), (.c (.int .i64 2))])⟩,
   ⟨(some 68), none, (.fieldAddr 7 1 (.t 1))⟩,
   ⟨(some 69), none, (.load1 (.t 68))⟩,
   ⟨(some 70), none, (.len (.t 69))⟩,
   ⟨(some 71), none, (.bin .quo .num (.t 70) (.c (.int .i64 4)))⟩,
   ⟨(some 72), none, (.conv (.int .u64) (.t 71))⟩,
   ⟨(some 73), none, (.call 33 [(.t 67), (.t 72), (.c (.int .i64 2))])⟩,
   ⟨(some 7), none, (.mv (.t 73))⟩] [(6, 4)])
 (.reg [⟨(some 74), none, (.mv (.t 7))⟩,
   ⟨(some 75), none, (.fieldAddr 7 1 (.t 1))⟩,
   ⟨(some 76), none, (.load1 (.t 75))⟩,
   ⟨(some 77), none, (.append 1 1 (.t 74) (.t 76))⟩,
   ⟨(some 7), none, (.mv (.t 77))⟩])) .skip))
 (.seq
 (.reg [⟨(some 78), none, (.mv (.t 7))⟩,
   ⟨(some 79), none, (.fieldAddr 8 1 (.t 1))⟩,
   ⟨(some 80), none, (.load1 (.t 79))⟩,
   ⟨(some 81), none, (.buildSlice 1 [(.slice none 0 0 none)] 2 [(0, (1, (.t 78))), (1, (1, (.t 80)))])⟩,
   ⟨(some 82), none, (.call 34 [(.t 81)])⟩,
   ⟨(some 2), none, (.mv (.t 82))⟩,
   ⟨(some 3), none, (.mv (.c (.int .i64 0)))⟩]) .ret))
def tl12 : AC :=
 (.seq
 (.seq
 (.reg [⟨(some 60), none, (.fieldAddr 6 1 (.t 1))⟩,
   ⟨(some 61), none, (.load1 (.t 60))⟩,
   ⟨(some 62), none, (.bin .neq .num (.t 61) (.c (.int .u16 0)))⟩])
 (.cond (.t 62)
 (.seq
 (.dreg [⟨(some 63), none, (.mv (.t 7))⟩,
   ⟨(some 64), none, (.fieldAddr 6 1 (.t 1))⟩,
   ⟨(some 65), none, (.load1 (.t 64))⟩,
   ⟨(some 66), none, (.conv (.int .u64) (.t 65))⟩,
   ⟨(some 67), none, (.call 29 [(.t 63), (.t 66), (.c (.int .i64 2))])⟩,
   ⟨(some 68), none, (.fieldAddr 7 1 (.t 1))⟩,
   ⟨(some 69), none, (.load1 (.t 68))⟩,
   ⟨(some 70), none, (.len (.t 69))⟩,
   ⟨(some 71), none, (.bin .quo .num (.t 70) (.c (.int .i64 4)))⟩,
   ⟨(some 72), none, (.conv (.int .u64) (.t 71))⟩,
   ⟨(some 73), none, (.call 29 [(.t 67), (.t 72), (.c (.int .i64 2))])⟩,
   ⟨(some 7), none, (.mv (.t 73))⟩] [(6, 4)])
 (.reg [⟨(some 74), none, (.mv (.t 7))⟩,
   ⟨(some 75), none, (.fieldAddr 7 1 (.t 1))⟩,
   ⟨(some 76), none, (.load1 (.t 75))⟩,
   ⟨(some 77), none, (.append 1 1 (.t 74) (.t 76))⟩,
   ⟨(some 7), none, (.mv (.t 77))⟩])) .skip))
 (.seq
 (.reg [⟨(some 78), none, (.mv (.t 7))⟩,
   ⟨(some 79), none, (.fieldAddr 8 1 (.t 1))⟩,
   ⟨(some 80), none, (.load1 (.t 79))⟩,
   ⟨(some 81), none, (.append 1 1 (.t 78) (.t 80))⟩,
   ⟨(some 2), none, (.mv (.t 81))⟩,
   ⟨(some 3), none, (.mv (.c (.int .i64 0)))⟩]) .ret))
set_option maxHeartbeats 8000000 in
theorem tail18 (k : Nat) {S A S5 : St} {p : Pk} {pc : Option (Nat × Nat × Nat)} {ec : Nat} {cc : Option Nat} {e l : AV} {T : Tm} {v : AV} (ok : Ok0 p) (he : Bs A e p.ex) (hl : Bs A l p.pl) (ll : p.pl.length ≤ 140737488351500) (hpf : 0 ≤ p.pf ∧ p.pf < 65536)
    (gA : A.get S.next = some (.cells (pkc p (.slice pc p.cs.length ec cc) e l) 0 0 true)) (nA : S.next < A.next) (eA : Ext S A) (x5 : Ext A S5) (t1 : T.get 1 = some (.ptr (some ⟨S.next, 0, 0, 9⟩))) (t7 : T.get 7 = some v) (N : Nb A S5 v (headP p ++ wordsP p.cs)) :
    Goes (evF Y AP (k + 24)) (k + 24) tl18 T S5 (fun r T S2 => ∃ w S3, fin [.tmp 2, .tmp 3] (r, T, S2) = some (w, S3) ∧ ∃ v', w = .tuple [v', .int .i64 0] ∧ Nb S S3 v' (bytesP p)) := by
  have hcl := ok.cl; have he4 := ok.e4; have hsz := ok.sz
  have hhl : (headP p).length = 12 := by unfold headP; simp only [List.length_append, List.length_cons, List.length_nil, be_len]
  have hwl := wordsP_len p.cs
  have hnl : (headP p ++ wordsP p.cs).length ≤ 100 := by rw [List.length_append]; omega
  have hpos : 0 < (headP p ++ wordsP p.cs).length := by rw [List.length_append]; omega
  have hex : p.pf ≠ 0 → (p.ex.length : Int) ≤ 1500 := fun h => by unfold sizeP at hsz; rw [if_neg h] at hsz; omega
  obtain ⟨pe, ee, ce, rfl, he⟩ := he
  obtain ⟨pl, el, cl, rfl, hl⟩ := hl
  have m2 := he.mx
  have rdX : ∀ {X : St}, Ext A X → ∀ v i m, X.rd S.next v i m = rdO (.cells (pkc p (.slice pc p.cs.length ec cc) (.slice pe p.ex.length ee ce) (.slice pl p.pl.length el cl)) 0 0 true) v i m := fun x => rd_of (x.get nA gA)
  have r5 := rdX x5
  by_cases c1 : p.pf = 0
  · have c1' := eq_true c1
    have hb : bytesP p = headP p ++ wordsP p.cs ++ p.pl := by unfold bytesP extP; rw [if_pos c1, List.append_nil]
    rw [hb]
    obtain ⟨pw, ew, cw, rfl, bw⟩ := N.bs
    obtain ⟨B, hB⟩ : ∃ B, S5.alloc (.cells [.slice pw (headP p ++ wordsP p.cs).length ew cw, .slice pl p.pl.length el cl] 0 0 true) = B := ⟨_, rfl⟩
    have eB : Ext S5 B := by rw [← hB]; exact .alloc _ _
    have nB : B.next = S5.next + 1 := by rw [← hB]; rfl
    have rB : B.rd S5.next 0 0 2 = some [.slice pw (headP p ++ wordsP p.cs).length ew cw, .slice pl p.pl.length el cl] := by rw [← hB, rd_alloc, if_pos rfl]; rfl
    have hpp : 0 < (headP p ++ wordsP p.cs).length := by simp only [List.length_append] at hpos ⊢; omega
    have hll2 : (headP p ++ wordsP p.cs).length + p.pl.length ≤ 140737488355328 := by simp only [List.length_append, be_len] at hnl ⊢; omega
    obtain ⟨v9, S9, q9, N9⟩ := T34 (k + 14) rB (by omega) ⟨pw, ew, cw, rfl, bw.ext eB⟩ ⟨pl, el, cl, rfl, hl.ext (N.ext.trans eB)⟩ hpp hll2
    have q9 : evF Y AP (k + 24) 34 [.slice (some (S5.next, 0, 0)) 2 1 none] B = _ := q9
    simp -implicitDefEqProofs -dsimp (maxSteps := 10000000) only [tl18, ↓kS, after_some, br_true, br_false, kC, ↓kQ, ↓Option.bind_some, ↓Option.map_some, ↓cond_true, ↓cond_false, evC, evOp, XO.lit, setArgs, Tr.get_set, Option.bind_some, Option.map_some, cond_true, cond_false, maxI, maxFrom, minI, minFrom, aConv, aBinE, aEq, eqScal, aUn, evRes, fin, oneOf, if_true, if_false, callee, reduceCtorEq, Nat.reduceEqDiff, List.getElem?_cons_zero, List.getElem?_cons_succ, beq_self_eq_true, gt_iff_lt, List.head?_cons, AV.undef, eq_self, ne_eq, Int.reduceLT, Int.reduceLE, Int.reduceToNat, Int.reduceEq, Int.reduceNeg, Nat.reduceAdd, Nat.reduceLT, Nat.reduceLeDiff, Nat.reduceMul, Nat.reduceSub, ↓evDraw_nil, bir, putD, evDraw, trace, List.all_cons, List.all_nil, chk, stAt, again, sameV, sameL, sameA, AV.undef, Bool.and_self, Bool.and_true, decide_eq_true_eq, List.getElem?_nil, kM, AV.cells, AV.tup, List.drop_nil, List.append_nil, rdO, St.wr, List.length_cons, List.length_nil, List.take_succ_cons, List.take_zero, List.drop_succ_cons, List.drop_zero, List.cons_append, List.nil_append, Nat.reduceMul, aFill, evParts, rep, List.replicate_succ, List.replicate_zero, List.flatten_cons, List.flatten_nil, List.append_nil, newSl, newVar, t1, t7, r5, c1', hB, q9]
    exact ⟨_, _, rfl, v9, rfl, N9.base ((eA.trans N.ext).trans eB)⟩
  · have hb : bytesP p = headP p ++ wordsP p.cs ++ be p.pf 2 ++ be ((p.ex.length : Int) / 4) 2 ++ p.ex ++ p.pl := by unfold bytesP extP; rw [if_neg c1]; simp only [List.append_assoc]
    rw [hb]
    have hex := hex c1
    have wpf : IntKind.u64.wrap p.pf = p.pf := u64_id hpf.1 (by omega)
    have tq : Int.tdiv (p.ex.length : Int) 4 = (p.ex.length : Int) / 4 := Int.tdiv_eq_ediv_of_nonneg (by omega)
    have z4 : ¬ (4 : Int) = 0 := by decide
    have wq : IntKind.i64.wrap ((p.ex.length : Int) / 4) = (p.ex.length : Int) / 4 := w64_id (by omega) (by omega)
    have wq2 : IntKind.u64.wrap ((p.ex.length : Int) / 4) = (p.ex.length : Int) / 4 := u64_id (by omega) (by omega)
    obtain ⟨pv, ev, cv, rfl, bv_⟩ := N.bs
    obtain ⟨v6, S6, q6, N6⟩ := T33 (k + 4) (c := cv) bv_ (by omega) (n := p.pf) (size := 2) ⟨by decide, by decide⟩
    have q6 : evF Y AP (k + 24) 33 [.slice pv (headP p ++ wordsP p.cs).length ev cv, .int .u64 p.pf, .int .i64 2] S5 = _ := q6
    rw [putL2] at N6
    obtain ⟨p6, e6, c6, rfl, b6⟩ := N6.bs
    have x6 := x5.trans N6.ext
    have r6 := rdX x6
    have l6 : (headP p ++ wordsP p.cs ++ be p.pf 2).length ≤ 102 := by rw [List.length_append, be_len]; omega
    obtain ⟨v7, S7, q7, N7⟩ := T33 (k + 4) (c := c6) b6 (by omega) (n := (p.ex.length : Int) / 4) (size := 2) ⟨by decide, by decide⟩
    have q7 : evF Y AP (k + 24) 33 [.slice p6 (headP p ++ wordsP p.cs ++ be p.pf 2).length e6 c6, .int .u64 ((p.ex.length : Int) / 4), .int .i64 2] S6 = _ := q7
    rw [putL2] at N7
    have x7 := x6.trans N7.ext
    have r7 := rdX x7
    have N7 := N7.base x6
    have l7 : (headP p ++ wordsP p.cs ++ be p.pf 2 ++ be ((p.ex.length : Int) / 4) 2).length ≤ 104 := by rw [List.length_append, be_len]; omega
    have he7 := he.ext x7
    obtain ⟨v8, S8, q8, N8⟩ := N7.app he.bd (by omega)
    have x8 := N8.ext
    have r8 := rdX x8
    rcases pe with _ | ⟨oe, ve, ie⟩
    · have hpe : p.ex = [] := he.nil rfl
      have q8' : aAppend 1 1 S7 v7 0 [] = some (v8, S8) := by rw [hpe] at q8; exact q8
      obtain ⟨pw, ew, cw, rfl, bw⟩ := N8.bs
      obtain ⟨B, hB⟩ : ∃ B, S8.alloc (.cells [.slice pw (headP p ++ wordsP p.cs ++ be p.pf 2 ++ be ((p.ex.length : Int) / 4) 2 ++ p.ex).length ew cw, .slice pl p.pl.length el cl] 0 0 true) = B := ⟨_, rfl⟩
      have eB : Ext S8 B := by rw [← hB]; exact .alloc _ _
      have nB : B.next = S8.next + 1 := by rw [← hB]; rfl
      have rB : B.rd S8.next 0 0 2 = some [.slice pw (headP p ++ wordsP p.cs ++ be p.pf 2 ++ be ((p.ex.length : Int) / 4) 2 ++ p.ex).length ew cw, .slice pl p.pl.length el cl] := by rw [← hB, rd_alloc, if_pos rfl]; rfl
      have hpp : 0 < (headP p ++ wordsP p.cs ++ be p.pf 2 ++ be ((p.ex.length : Int) / 4) 2 ++ p.ex).length := by simp only [List.length_append] at hpos ⊢; omega
      have hll2 : (headP p ++ wordsP p.cs ++ be p.pf 2 ++ be ((p.ex.length : Int) / 4) 2 ++ p.ex).length + p.pl.length ≤ 140737488355328 := by simp only [List.length_append, be_len] at hnl ⊢; omega
      obtain ⟨v9, S9, q9, N9⟩ := T34 (k + 14) rB (by omega) ⟨pw, ew, cw, rfl, bw.ext eB⟩ ⟨pl, el, cl, rfl, hl.ext (N8.ext.trans eB)⟩ hpp hll2
      have q9 : evF Y AP (k + 24) 34 [.slice (some (S8.next, 0, 0)) 2 1 none] B = _ := q9
      simp -implicitDefEqProofs -dsimp (maxSteps := 10000000) only [tl18, ↓kS, after_some, br_true, br_false, kC, ↓kQ, ↓Option.bind_some, ↓Option.map_some, ↓cond_true, ↓cond_false, evC, evOp, XO.lit, setArgs, Tr.get_set, Option.bind_some, Option.map_some, cond_true, cond_false, maxI, maxFrom, minI, minFrom, aConv, aBinE, aEq, eqScal, aUn, evRes, fin, oneOf, if_true, if_false, callee, reduceCtorEq, Nat.reduceEqDiff, List.getElem?_cons_zero, List.getElem?_cons_succ, beq_self_eq_true, gt_iff_lt, List.head?_cons, AV.undef, eq_self, ne_eq, Int.reduceLT, Int.reduceLE, Int.reduceToNat, Int.reduceEq, Int.reduceNeg, Nat.reduceAdd, Nat.reduceLT, Nat.reduceLeDiff, Nat.reduceMul, Nat.reduceSub, ↓evDraw_nil, bir, putD, evDraw, trace, List.all_cons, List.all_nil, chk, stAt, again, sameV, sameL, sameA, AV.undef, Bool.and_self, Bool.and_true, decide_eq_true_eq, List.getElem?_nil, kM, AV.cells, AV.tup, List.drop_nil, List.append_nil, rdO, St.wr, List.length_cons, List.length_nil, List.take_succ_cons, List.take_zero, List.drop_succ_cons, List.drop_zero, List.cons_append, List.nil_append, Nat.reduceMul, aFill, evParts, rep, List.replicate_succ, List.replicate_zero, List.flatten_cons, List.flatten_nil, List.append_nil, newSl, newVar, t1, t7, r5, r6, r7, r8, c1, wpf, tq, z4, wq, wq2, m2, q6, q7, q8', hB, q9]
      exact ⟨_, _, rfl, v9, rfl, N9.base ((eA.trans N8.ext).trans eB)⟩
    · obtain rfl := he.ez.resolve_left (by simp)
      obtain ⟨_, hre⟩ := he7.at_ oe ve ie rfl
      obtain ⟨pw, ew, cw, rfl, bw⟩ := N8.bs
      obtain ⟨B, hB⟩ : ∃ B, S8.alloc (.cells [.slice pw (headP p ++ wordsP p.cs ++ be p.pf 2 ++ be ((p.ex.length : Int) / 4) 2 ++ p.ex).length ew cw, .slice pl p.pl.length el cl] 0 0 true) = B := ⟨_, rfl⟩
      have eB : Ext S8 B := by rw [← hB]; exact .alloc _ _
      have nB : B.next = S8.next + 1 := by rw [← hB]; rfl
      have rB : B.rd S8.next 0 0 2 = some [.slice pw (headP p ++ wordsP p.cs ++ be p.pf 2 ++ be ((p.ex.length : Int) / 4) 2 ++ p.ex).length ew cw, .slice pl p.pl.length el cl] := by rw [← hB, rd_alloc, if_pos rfl]; rfl
      have hpp : 0 < (headP p ++ wordsP p.cs ++ be p.pf 2 ++ be ((p.ex.length : Int) / 4) 2 ++ p.ex).length := by simp only [List.length_append] at hpos ⊢; omega
      have hll2 : (headP p ++ wordsP p.cs ++ be p.pf 2 ++ be ((p.ex.length : Int) / 4) 2 ++ p.ex).length + p.pl.length ≤ 140737488355328 := by simp only [List.length_append, be_len] at hnl ⊢; omega
      obtain ⟨v9, S9, q9, N9⟩ := T34 (k + 14) rB (by omega) ⟨pw, ew, cw, rfl, bw.ext eB⟩ ⟨pl, el, cl, rfl, hl.ext (N8.ext.trans eB)⟩ hpp hll2
      have q9 : evF Y AP (k + 24) 34 [.slice (some (S8.next, 0, 0)) 2 1 none] B = _ := q9
      simp -implicitDefEqProofs -dsimp (maxSteps := 10000000) only [tl18, ↓kS, after_some, br_true, br_false, kC, ↓kQ, ↓Option.bind_some, ↓Option.map_some, ↓cond_true, ↓cond_false, evC, evOp, XO.lit, setArgs, Tr.get_set, Option.bind_some, Option.map_some, cond_true, cond_false, maxI, maxFrom, minI, minFrom, aConv, aBinE, aEq, eqScal, aUn, evRes, fin, oneOf, if_true, if_false, callee, reduceCtorEq, Nat.reduceEqDiff, List.getElem?_cons_zero, List.getElem?_cons_succ, beq_self_eq_true, gt_iff_lt, List.head?_cons, AV.undef, eq_self, ne_eq, Int.reduceLT, Int.reduceLE, Int.reduceToNat, Int.reduceEq, Int.reduceNeg, Nat.reduceAdd, Nat.reduceLT, Nat.reduceLeDiff, Nat.reduceMul, Nat.reduceSub, ↓evDraw_nil, bir, putD, evDraw, trace, List.all_cons, List.all_nil, chk, stAt, again, sameV, sameL, sameA, AV.undef, Bool.and_self, Bool.and_true, decide_eq_true_eq, List.getElem?_nil, kM, AV.cells, AV.tup, List.drop_nil, List.append_nil, rdO, St.wr, List.length_cons, List.length_nil, List.take_succ_cons, List.take_zero, List.drop_succ_cons, List.drop_zero, List.cons_append, List.nil_append, Nat.reduceMul, aFill, evParts, rep, List.replicate_succ, List.replicate_zero, List.flatten_cons, List.flatten_nil, List.append_nil, newSl, newVar, t1, t7, r5, r6, r7, r8, c1, wpf, tq, z4, wq, wq2, m2, q6, q7, Nat.mul_one, hre, q8, hB, q9]
      exact ⟨_, _, rfl, v9, rfl, N9.base ((eA.trans N8.ext).trans eB)⟩
set_option maxHeartbeats 8000000 in
theorem tail12 (k : Nat) {S A S5 : St} {p : Pk} {pc : Option (Nat × Nat × Nat)} {ec : Nat} {cc : Option Nat} {e l : AV} {T : Tm} {v : AV} (ok : Ok0 p) (he : Bs A e p.ex) (hl : Bs A l p.pl) (ll : p.pl.length ≤ 140737488351500) (hpf : 0 ≤ p.pf ∧ p.pf < 65536)
    (gA : A.get S.next = some (.cells (pkc p (.slice pc p.cs.length ec cc) e l) 0 0 true)) (nA : S.next < A.next) (eA : Ext S A) (x5 : Ext A S5) (t1 : T.get 1 = some (.ptr (some ⟨S.next, 0, 0, 9⟩))) (t7 : T.get 7 = some v) (N : Nb A S5 v (headP p ++ wordsP p.cs)) :
    Goes (evF Y AP (k + 24)) (k + 24) tl12 T S5 (fun r T S2 => ∃ w S3, fin [.tmp 2, .tmp 3] (r, T, S2) = some (w, S3) ∧ ∃ v', w = .tuple [v', .int .i64 0] ∧ Nb S S3 v' (bytesP p)) := by
  have hcl := ok.cl; have he4 := ok.e4; have hsz := ok.sz
  have hhl : (headP p).length = 12 := by unfold headP; simp only [List.length_append, List.length_cons, List.length_nil, be_len]
  have hwl := wordsP_len p.cs
  have hnl : (headP p ++ wordsP p.cs).length ≤ 100 := by rw [List.length_append]; omega
  have hpos : 0 < (headP p ++ wordsP p.cs).length := by rw [List.length_append]; omega
  have hex : p.pf ≠ 0 → (p.ex.length : Int) ≤ 1500 := fun h => by unfold sizeP at hsz; rw [if_neg h] at hsz; omega
  obtain ⟨pe, ee, ce, rfl, he⟩ := he
  obtain ⟨pl, el, cl, rfl, hl⟩ := hl
  have m2 := he.mx
  have rdX : ∀ {X : St}, Ext A X → ∀ v i m, X.rd S.next v i m = rdO (.cells (pkc p (.slice pc p.cs.length ec cc) (.slice pe p.ex.length ee ce) (.slice pl p.pl.length el cl)) 0 0 true) v i m := fun x => rd_of (x.get nA gA)
  have r5 := rdX x5
  by_cases c1 : p.pf = 0
  · have c1' := eq_true c1
    have hb : bytesP p = headP p ++ wordsP p.cs ++ p.pl := by unfold bytesP extP; rw [if_pos c1, List.append_nil]
    rw [hb]
    have hll2 : (headP p ++ wordsP p.cs).length + p.pl.length ≤ 140737488355328 := by simp only [List.length_append, be_len] at hnl ⊢; omega
    obtain ⟨v9, S9, q9, N9⟩ := N.app hl.bd hll2
    have N9 := N9.base eA
    have hlx := hl.ext N.ext
    rcases pl with _ | ⟨ol, vl, il⟩
    · have hpl : p.pl = [] := hl.nil rfl
      rw [hpl] at q9 N9
      rw [List.append_nil] at N9
      have q9 : aAppend 1 1 S5 v 0 [] = _ := q9
      rw [hpl]
      simp -implicitDefEqProofs -dsimp (maxSteps := 10000000) only [tl12, ↓kS, after_some, br_true, br_false, kC, ↓kQ, ↓Option.bind_some, ↓Option.map_some, ↓cond_true, ↓cond_false, evC, evOp, XO.lit, setArgs, Tr.get_set, Option.bind_some, Option.map_some, cond_true, cond_false, maxI, maxFrom, minI, minFrom, aConv, aBinE, aEq, eqScal, aUn, evRes, fin, oneOf, if_true, if_false, callee, reduceCtorEq, Nat.reduceEqDiff, List.getElem?_cons_zero, List.getElem?_cons_succ, beq_self_eq_true, gt_iff_lt, List.head?_cons, AV.undef, eq_self, ne_eq, Int.reduceLT, Int.reduceLE, Int.reduceToNat, Int.reduceEq, Int.reduceNeg, Nat.reduceAdd, Nat.reduceLT, Nat.reduceLeDiff, Nat.reduceMul, Nat.reduceSub, ↓evDraw_nil, bir, putD, evDraw, trace, List.all_cons, List.all_nil, chk, stAt, again, sameV, sameL, sameA, AV.undef, Bool.and_self, Bool.and_true, decide_eq_true_eq, List.getElem?_nil, kM, AV.cells, AV.tup, List.drop_nil, List.append_nil, rdO, St.wr, List.length_cons, List.length_nil, List.take_succ_cons, List.take_zero, List.drop_succ_cons, List.drop_zero, List.cons_append, List.nil_append, Nat.reduceMul, t1, t7, r5, c1', q9]
      exact ⟨_, _, rfl, v9, rfl, N9⟩
    · obtain rfl := hl.ez.resolve_left (by simp)
      obtain ⟨_, hrl⟩ := hlx.at_ ol vl il rfl
      simp -implicitDefEqProofs -dsimp (maxSteps := 10000000) only [tl12, ↓kS, after_some, br_true, br_false, kC, ↓kQ, ↓Option.bind_some, ↓Option.map_some, ↓cond_true, ↓cond_false, evC, evOp, XO.lit, setArgs, Tr.get_set, Option.bind_some, Option.map_some, cond_true, cond_false, maxI, maxFrom, minI, minFrom, aConv, aBinE, aEq, eqScal, aUn, evRes, fin, oneOf, if_true, if_false, callee, reduceCtorEq, Nat.reduceEqDiff, List.getElem?_cons_zero, List.getElem?_cons_succ, beq_self_eq_true, gt_iff_lt, List.head?_cons, AV.undef, eq_self, ne_eq, Int.reduceLT, Int.reduceLE, Int.reduceToNat, Int.reduceEq, Int.reduceNeg, Nat.reduceAdd, Nat.reduceLT, Nat.reduceLeDiff, Nat.reduceMul, Nat.reduceSub, ↓evDraw_nil, bir, putD, evDraw, trace, List.all_cons, List.all_nil, chk, stAt, again, sameV, sameL, sameA, AV.undef, Bool.and_self, Bool.and_true, decide_eq_true_eq, List.getElem?_nil, kM, AV.cells, AV.tup, List.drop_nil, List.append_nil, rdO, St.wr, List.length_cons, List.length_nil, List.take_succ_cons, List.take_zero, List.drop_succ_cons, List.drop_zero, List.cons_append, List.nil_append, Nat.reduceMul, Nat.mul_one, t1, t7, r5, c1', hrl, q9]
      exact ⟨_, _, rfl, v9, rfl, N9⟩
  · have hb : bytesP p = headP p ++ wordsP p.cs ++ be p.pf 2 ++ be ((p.ex.length : Int) / 4) 2 ++ p.ex ++ p.pl := by unfold bytesP extP; rw [if_neg c1]; simp only [List.append_assoc]
    rw [hb]
    have hex := hex c1
    have wpf : IntKind.u64.wrap p.pf = p.pf := u64_id hpf.1 (by omega)
    have tq : Int.tdiv (p.ex.length : Int) 4 = (p.ex.length : Int) / 4 := Int.tdiv_eq_ediv_of_nonneg (by omega)
    have z4 : ¬ (4 : Int) = 0 := by decide
    have wq : IntKind.i64.wrap ((p.ex.length : Int) / 4) = (p.ex.length : Int) / 4 := w64_id (by omega) (by omega)
    have wq2 : IntKind.u64.wrap ((p.ex.length : Int) / 4) = (p.ex.length : Int) / 4 := u64_id (by omega) (by omega)
    obtain ⟨pv, ev, cv, rfl, bv_⟩ := N.bs
    obtain ⟨v6, S6, q6, N6⟩ := T29 (k + 4) (c := cv) bv_ (by omega) (n := p.pf) (size := 2) ⟨by decide, by decide⟩
    have q6 : evF Y AP (k + 24) 29 [.slice pv (headP p ++ wordsP p.cs).length ev cv, .int .u64 p.pf, .int .i64 2] S5 = _ := q6
    rw [putL2] at N6
    obtain ⟨p6, e6, c6, rfl, b6⟩ := N6.bs
    have x6 := x5.trans N6.ext
    have r6 := rdX x6
    have l6 : (headP p ++ wordsP p.cs ++ be p.pf 2).length ≤ 102 := by rw [List.length_append, be_len]; omega
    obtain ⟨v7, S7, q7, N7⟩ := T29 (k + 4) (c := c6) b6 (by omega) (n := (p.ex.length : Int) / 4) (size := 2) ⟨by decide, by decide⟩
    have q7 : evF Y AP (k + 24) 29 [.slice p6 (headP p ++ wordsP p.cs ++ be p.pf 2).length e6 c6, .int .u64 ((p.ex.length : Int) / 4), .int .i64 2] S6 = _ := q7
    rw [putL2] at N7
    have x7 := x6.trans N7.ext
    have r7 := rdX x7
    have N7 := N7.base x6
    have l7 : (headP p ++ wordsP p.cs ++ be p.pf 2 ++ be ((p.ex.length : Int) / 4) 2).length ≤ 104 := by rw [List.length_append, be_len]; omega
    have he7 := he.ext x7
    obtain ⟨v8, S8, q8, N8⟩ := N7.app he.bd (by omega)
    have x8 := N8.ext
    have r8 := rdX x8
    rcases pe with _ | ⟨oe, ve, ie⟩
    · have hpe : p.ex = [] := he.nil rfl
      have q8' : aAppend 1 1 S7 v7 0 [] = some (v8, S8) := by rw [hpe] at q8; exact q8
      have hll2 : (headP p ++ wordsP p.cs ++ be p.pf 2 ++ be ((p.ex.length : Int) / 4) 2 ++ p.ex).length + p.pl.length ≤ 140737488355328 := by simp only [List.length_append, be_len] at hnl ⊢; omega
      obtain ⟨v9, S9, q9, N9⟩ := N8.app hl.bd hll2
      have N9 := N9.base eA
      have hlx := hl.ext N8.ext
      rcases pl with _ | ⟨ol, vl, il⟩
      · have hpl : p.pl = [] := hl.nil rfl
        rw [hpl] at q9 N9
        rw [List.append_nil] at N9
        have q9 : aAppend 1 1 S8 v8 0 [] = _ := q9
        rw [hpl]
        simp -implicitDefEqProofs -dsimp (maxSteps := 10000000) only [tl12, ↓kS, after_some, br_true, br_false, kC, ↓kQ, ↓Option.bind_some, ↓Option.map_some, ↓cond_true, ↓cond_false, evC, evOp, XO.lit, setArgs, Tr.get_set, Option.bind_some, Option.map_some, cond_true, cond_false, maxI, maxFrom, minI, minFrom, aConv, aBinE, aEq, eqScal, aUn, evRes, fin, oneOf, if_true, if_false, callee, reduceCtorEq, Nat.reduceEqDiff, List.getElem?_cons_zero, List.getElem?_cons_succ, beq_self_eq_true, gt_iff_lt, List.head?_cons, AV.undef, eq_self, ne_eq, Int.reduceLT, Int.reduceLE, Int.reduceToNat, Int.reduceEq, Int.reduceNeg, Nat.reduceAdd, Nat.reduceLT, Nat.reduceLeDiff, Nat.reduceMul, Nat.reduceSub, ↓evDraw_nil, bir, putD, evDraw, trace, List.all_cons, List.all_nil, chk, stAt, again, sameV, sameL, sameA, AV.undef, Bool.and_self, Bool.and_true, decide_eq_true_eq, List.getElem?_nil, kM, AV.cells, AV.tup, List.drop_nil, List.append_nil, rdO, St.wr, List.length_cons, List.length_nil, List.take_succ_cons, List.take_zero, List.drop_succ_cons, List.drop_zero, List.cons_append, List.nil_append, Nat.reduceMul, t1, t7, r5, r6, r7, r8, c1, wpf, tq, z4, wq, wq2, m2, q6, q7, q8', q9]
        exact ⟨_, _, rfl, v9, rfl, N9⟩
      · obtain rfl := hl.ez.resolve_left (by simp)
        obtain ⟨_, hrl⟩ := hlx.at_ ol vl il rfl
        simp -implicitDefEqProofs -dsimp (maxSteps := 10000000) only [tl12, ↓kS, after_some, br_true, br_false, kC, ↓kQ, ↓Option.bind_some, ↓Option.map_some, ↓cond_true, ↓cond_false, evC, evOp, XO.lit, setArgs, Tr.get_set, Option.bind_some, Option.map_some, cond_true, cond_false, maxI, maxFrom, minI, minFrom, aConv, aBinE, aEq, eqScal, aUn, evRes, fin, oneOf, if_true, if_false, callee, reduceCtorEq, Nat.reduceEqDiff, List.getElem?_cons_zero, List.getElem?_cons_succ, beq_self_eq_true, gt_iff_lt, List.head?_cons, AV.undef, eq_self, ne_eq, Int.reduceLT, Int.reduceLE, Int.reduceToNat, Int.reduceEq, Int.reduceNeg, Nat.reduceAdd, Nat.reduceLT, Nat.reduceLeDiff, Nat.reduceMul, Nat.reduceSub, ↓evDraw_nil, bir, putD, evDraw, trace, List.all_cons, List.all_nil, chk, stAt, again, sameV, sameL, sameA, AV.undef, Bool.and_self, Bool.and_true, decide_eq_true_eq, List.getElem?_nil, kM, AV.cells, AV.tup, List.drop_nil, List.append_nil, rdO, St.wr, List.length_cons, List.length_nil, List.take_succ_cons, List.take_zero, List.drop_succ_cons, List.drop_zero, List.cons_append, List.nil_append, Nat.reduceMul, Nat.mul_one, t1, t7, r5, r6, r7, r8, c1, wpf, tq, z4, wq, wq2, m2, q6, q7, q8', hrl, q9]
        exact ⟨_, _, rfl, v9, rfl, N9⟩
    · obtain rfl := he.ez.resolve_left (by simp)
      obtain ⟨_, hre⟩ := he7.at_ oe ve ie rfl
      have hll2 : (headP p ++ wordsP p.cs ++ be p.pf 2 ++ be ((p.ex.length : Int) / 4) 2 ++ p.ex).length + p.pl.length ≤ 140737488355328 := by simp only [List.length_append, be_len] at hnl ⊢; omega
      obtain ⟨v9, S9, q9, N9⟩ := N8.app hl.bd hll2
      have N9 := N9.base eA
      have hlx := hl.ext N8.ext
      rcases pl with _ | ⟨ol, vl, il⟩
      · have hpl : p.pl = [] := hl.nil rfl
        rw [hpl] at q9 N9
        rw [List.append_nil] at N9
        have q9 : aAppend 1 1 S8 v8 0 [] = _ := q9
        rw [hpl]
        simp -implicitDefEqProofs -dsimp (maxSteps := 10000000) only [tl12, ↓kS, after_some, br_true, br_false, kC, ↓kQ, ↓Option.bind_some, ↓Option.map_some, ↓cond_true, ↓cond_false, evC, evOp, XO.lit, setArgs, Tr.get_set, Option.bind_some, Option.map_some, cond_true, cond_false, maxI, maxFrom, minI, minFrom, aConv, aBinE, aEq, eqScal, aUn, evRes, fin, oneOf, if_true, if_false, callee, reduceCtorEq, Nat.reduceEqDiff, List.getElem?_cons_zero, List.getElem?_cons_succ, beq_self_eq_true, gt_iff_lt, List.head?_cons, AV.undef, eq_self, ne_eq, Int.reduceLT, Int.reduceLE, Int.reduceToNat, Int.reduceEq, Int.reduceNeg, Nat.reduceAdd, Nat.reduceLT, Nat.reduceLeDiff, Nat.reduceMul, Nat.reduceSub, ↓evDraw_nil, bir, putD, evDraw, trace, List.all_cons, List.all_nil, chk, stAt, again, sameV, sameL, sameA, AV.undef, Bool.and_self, Bool.and_true, decide_eq_true_eq, List.getElem?_nil, kM, AV.cells, AV.tup, List.drop_nil, List.append_nil, rdO, St.wr, List.length_cons, List.length_nil, List.take_succ_cons, List.take_zero, List.drop_succ_cons, List.drop_zero, List.cons_append, List.nil_append, Nat.reduceMul, t1, t7, r5, r6, r7, r8, c1, wpf, tq, z4, wq, wq2, m2, q6, q7, Nat.mul_one, hre, q8, q9]
        exact ⟨_, _, rfl, v9, rfl, N9⟩
      · obtain rfl := hl.ez.resolve_left (by simp)
        obtain ⟨_, hrl⟩ := hlx.at_ ol vl il rfl
        simp -implicitDefEqProofs -dsimp (maxSteps := 10000000) only [tl12, ↓kS, after_some, br_true, br_false, kC, ↓kQ, ↓Option.bind_some, ↓Option.map_some, ↓cond_true, ↓cond_false, evC, evOp, XO.lit, setArgs, Tr.get_set, Option.bind_some, Option.map_some, cond_true, cond_false, maxI, maxFrom, minI, minFrom, aConv, aBinE, aEq, eqScal, aUn, evRes, fin, oneOf, if_true, if_false, callee, reduceCtorEq, Nat.reduceEqDiff, List.getElem?_cons_zero, List.getElem?_cons_succ, beq_self_eq_true, gt_iff_lt, List.head?_cons, AV.undef, eq_self, ne_eq, Int.reduceLT, Int.reduceLE, Int.reduceToNat, Int.reduceEq, Int.reduceNeg, Nat.reduceAdd, Nat.reduceLT, Nat.reduceLeDiff, Nat.reduceMul, Nat.reduceSub, ↓evDraw_nil, bir, putD, evDraw, trace, List.all_cons, List.all_nil, chk, stAt, again, sameV, sameL, sameA, AV.undef, Bool.and_self, Bool.and_true, decide_eq_true_eq, List.getElem?_nil, kM, AV.cells, AV.tup, List.drop_nil, List.append_nil, rdO, St.wr, List.length_cons, List.length_nil, List.take_succ_cons, List.take_zero, List.drop_succ_cons, List.drop_zero, List.cons_append, List.nil_append, Nat.reduceMul, Nat.mul_one, t1, t7, r5, r6, r7, r8, c1, wpf, tq, z4, wq, wq2, m2, q6, q7, Nat.mul_one, hre, q8, hrl, q9]
        exact ⟨_, _, rfl, v9, rfl, N9⟩
set_option maxHeartbeats 16000000 in
theorem T18 (k : Nat) {S : St} {p : Pk} {c e l : AV} (h : Pv S p c e l) : ∃ v' S', evF Y AP (k + 25) 18 [.agg (pkc p c e l)] S = some (.tuple [v', .int .i64 (rightP p)], S') ∧ Nb S S' v' (if rightP p = 0 then bytesP p else []) := by
  suffices hh : ∃ w S', evF Y AP (k + 25) 18 [.agg (pkc p c e l)] S = some (w, S') ∧ ∃ v', w = .tuple [v', .int .i64 (rightP p)] ∧ Nb S S' v' (if rightP p = 0 then bytesP p else []) by
    obtain ⟨w, S', h1, v', rfl, h2⟩ := hh; exact ⟨v', S', h1, h2⟩
  obtain ⟨A, hA⟩ : ∃ A, S.alloc (.cells (pkc p c e l) 0 0 true) = A := ⟨_, rfl⟩
  have eA : Ext S A := by rw [← hA]; exact .alloc _ _
  have nA : A.next = S.next + 1 := by rw [← hA]; rfl
  have gA : A.get S.next = some (.cells (pkc p c e l) 0 0 true) := by rw [← hA, St.get_alloc, if_pos rfl]
  have rdX : ∀ {X : St}, Ext A X → ∀ v i m, X.rd S.next v i m = rdO (.cells (pkc p c e l) 0 0 true) v i m := fun x => rd_of (x.get (by omega) gA)
  obtain ⟨S1, r27, x1⟩ := T27 (k + 20) (h.ext eA)
  have r27 : evF Y AP (k + 24) 27 [.agg (pkc p c e l)] A = _ := r27
  have rA := rdX (.refl A)
  have r1 := rdX x1
  refine evF_goes (af := af18) (k := k + 24) rfl rfl rfl ?_
  by_cases c0 : rightP p = 0
  rotate_left
  · rw [if_neg c0]
    simp -implicitDefEqProofs -dsimp (maxSteps := 10000000) only [af18, ↓kS, after_some, br_true, br_false, kC, ↓kQ, ↓Option.bind_some, ↓Option.map_some, ↓cond_true, ↓cond_false, evC, evOp, XO.lit, setArgs, Tr.tabG, Tr.tabS, Tr.tabL, Tr.get_lf, Option.bind_some, Option.map_some, cond_true, cond_false, maxI, maxFrom, minI, minFrom, aConv, aBinE, aEq, eqScal, aUn, evRes, fin, oneOf, if_true, if_false, callee, reduceCtorEq, Nat.reduceEqDiff, List.getElem?_cons_zero, List.getElem?_cons_succ, beq_self_eq_true, gt_iff_lt, List.head?_cons, AV.undef, eq_self, ne_eq, Int.reduceLT, Int.reduceLE, Int.reduceToNat, Int.reduceEq, Int.reduceNeg, Nat.reduceAdd, Nat.reduceLT, Nat.reduceLeDiff, Nat.reduceMul, Nat.reduceSub, kM, AV.cells, AV.tup, List.drop_nil, List.append_nil, rdO, St.wr, List.length_cons, List.length_nil, List.take_succ_cons, List.take_zero, List.drop_succ_cons, List.drop_zero, List.cons_append, List.nil_append, Nat.reduceMul, aFill, evParts, rep, List.replicate_succ, List.replicate_zero, List.flatten_cons, List.flatten_nil, List.append_nil, newSl, newVar, hA, rA, r27, c0]
    exact ⟨_, _, rfl, _, rfl, .gr (e := 0) (l := []) ⟨.nil _ _ _, eA.trans x1, fun _ _ _ h => (by cases h), .nil⟩ (by simp)⟩
  rw [if_pos c0, c0]
  rw [c0] at r27
  have ok := right0 c0
  have hcl := ok.cl; have hel := h.el; have hll := h.ll; have ht0 := ok.t0; have ht1 := ok.t1; have he4 := ok.e4
  obtain ⟨⟨pc, ec, cc, rfl, hc⟩, ⟨pe, ee, ce, rfl, he⟩, ⟨pl, el, cl, rfl, hl⟩, _, hsq, htm, hss, hpf, l1, l2, l3⟩ := h
  have m1 := hc.mx; have m2 := he.mx; have m3 := hl.mx
  obtain ⟨ty, hty⟩ : ∃ ty : Nat, p.ty = (ty : Int) := ⟨p.ty.toNat, by omega⟩
  have hfl : ∀ n : Nat, n < 256 → IntKind.u8.wrap (n : Int) = (n : Int) := fun n hn => u8_id (by omega) (by omega)
  have o1 := or1 (n := p.cs.length) (by omega)
  have o2 := (or2 (n := p.cs.length) (by omega)).1
  have o3 := (or3 (n := ty) (by omega)).1
  have o3' : Go.bits .or .i64 p.ty 128 = ((ty + 128 : Nat) : Int) := by rw [hty]; exact (or3 (n := ty) (by omega)).2
  have f1 := hfl (128 + p.cs.length) (by omega)
  have f2 := hfl (128 + p.cs.length + 16) (by omega)
  have f3 : IntKind.u8.wrap p.ty = (ty : Int) := by rw [hty]; exact hfl ty (by omega)
  have f4 := hfl (ty + 128) (by omega)
  have wsq : IntKind.u64.wrap p.sq = p.sq := u64_id hsq.1 (by omega)
  have wtm : IntKind.u64.wrap p.tm = p.tm := u64_id htm.1 (by omega)
  have wss : IntKind.u64.wrap p.ss = p.ss := u64_id hss.1 (by omega)
  have wpf : IntKind.u64.wrap p.pf = p.pf := u64_id hpf.1 (by omega)
  have tq : Int.tdiv (p.ex.length : Int) 4 = (p.ex.length : Int) / 4 := Int.tdiv_eq_ediv_of_nonneg (by omega)
  have z4 : ¬ (4 : Int) = 0 := by decide
  have wq : IntKind.i64.wrap ((p.ex.length : Int) / 4) = (p.ex.length : Int) / 4 := w64_id (by omega) (by omega)
  have wq2 : IntKind.u64.wrap ((p.ex.length : Int) / 4) = (p.ex.length : Int) / 4 := u64_id (by omega) (by omega)
  -- the head
  obtain ⟨f, hf⟩ : ∃ f, firstP p = f := ⟨_, rfl⟩
  obtain ⟨s, hs⟩ : ∃ s, secondP p = s := ⟨_, rfl⟩
  have hf2 : f < 256 := by rw [← hf]; unfold firstP; split <;> omega
  have hs2 : s < 256 := by rw [← hs]; unfold secondP; split <;> omega
  have ff := hfl f hf2
  have fs := hfl s hs2
  obtain ⟨B0, hB0⟩ : ∃ B, S1.alloc (.cells [.int .u8 (f : Int), .int .u8 (s : Int)] 0 0 true) = B := ⟨_, rfl⟩
  have eB0 : Ext S1 B0 := by rw [← hB0]; exact .alloc _ _
  have nB0 : B0.next = S1.next + 1 := by rw [← hB0]; rfl
  have byB : By B0 (some (S1.next, 0, 0)) 1 [f, s] := ⟨.inr rfl, fun h => (by cases h), fun o v i hp => by
    cases hp
    exact ⟨by omega, by rw [← hB0, rd_alloc, if_pos rfl]; rfl⟩, fun b hb => by
      rcases List.mem_cons.1 hb with rfl | hb
      · exact hf2
      · rw [List.mem_singleton.1 hb]; exact hs2, by simp⟩
  have rB0 := rdX (x1.trans eB0)
  obtain ⟨v2, S2, q2_, N2⟩ := T33 (k + 4) (c := none) byB (by simp) (n := p.sq) (size := 2) ⟨by decide, by decide⟩
  have q2 : evF Y AP (k + 24) 33 [.slice (some (S1.next, 0, 0)) 2 1 none, .int .u64 p.sq, .int .i64 2] B0 = _ := q2_
  clear q2_
  rw [putL2] at N2
  obtain ⟨L2, hL2⟩ : ∃ x, [f, s] ++ be p.sq 2 = x := ⟨_, rfl⟩
  rw [hL2] at N2
  have lL2 : L2.length = 4 := by rw [← hL2, List.length_append, be_len]; rfl
  obtain ⟨p2, e2, c2, rfl, b2⟩ := N2.bs
  have x2 := x1.trans (eB0.trans N2.ext)
  have r2 := rdX x2
  obtain ⟨v3, S3, q3, N3⟩ := T33 (k + 4) (c := c2) b2 (by omega) (n := p.tm) (size := 4) ⟨by decide, by decide⟩
  have q3 : evF Y AP (k + 24) 33 [.slice p2 L2.length e2 c2, .int .u64 p.tm, .int .i64 4] S2 = _ := q3
  rw [putL4] at N3
  obtain ⟨L3, hL3⟩ : ∃ x, L2 ++ be p.tm 4 = x := ⟨_, rfl⟩
  rw [hL3] at N3
  have lL3 : L3.length = 8 := by rw [← hL3, List.length_append, be_len, lL2]
  obtain ⟨p3, e3, c3, rfl, b3⟩ := N3.bs
  have x3 := x2.trans N3.ext
  have r3 := rdX x3
  obtain ⟨v4, S4, q4, N4⟩ := T33 (k + 4) (c := c3) b3 (by omega) (n := p.ss) (size := 4) ⟨by decide, by decide⟩
  have q4 : evF Y AP (k + 24) 33 [.slice p3 L3.length e3 c3, .int .u64 p.ss, .int .i64 4] S3 = _ := q4
  rw [putL4] at N4
  have x4 := x3.trans N4.ext
  have r4 := rdX x4
  have hhd : L3 ++ be p.ss 4 = headP p := by rw [← hL3, ← hL2, ← hf, ← hs]; rfl
  rw [hhd] at N4
  have hhl : (headP p).length = 12 := by rw [← hhd, List.length_append, be_len, lL3]
  have hwl := wordsP_len p.cs
  have N40 := N4.base x3
  have hll := hl
  by_cases c1 : p.pf = 0
  · have c1' := eq_true c1
    obtain rfl : f = 128 + p.cs.length := by rw [← hf]; unfold firstP; rw [if_pos c1]; rfl
    cases hmk : p.mrk with
    | true =>
      have hbr : ∀ A B : Prop, Br (some (.bool p.mrk)) A B = A := fun A B => by rw [hmk]; exact br_true
      obtain rfl : s = ty + 128 := by rw [← hs]; unfold secondP; rw [if_pos hmk, hty]; rfl
      (
    simp -implicitDefEqProofs -dsimp (maxSteps := 10000000) only [af18, ↓kS, after_some, br_true, br_false, kC, ↓kQ, ↓Option.bind_some, ↓Option.map_some, ↓cond_true, ↓cond_false, evC, evOp, XO.lit, setArgs, Tr.tabG, Tr.tabS, Tr.tabL, Tr.get_lf, Option.bind_some, Option.map_some, cond_true, cond_false, maxI, maxFrom, minI, minFrom, aConv, aBinE, aEq, eqScal, aUn, evRes, fin, oneOf, if_true, if_false, callee, reduceCtorEq, Nat.reduceEqDiff, List.getElem?_cons_zero, List.getElem?_cons_succ, beq_self_eq_true, gt_iff_lt, List.head?_cons, AV.undef, eq_self, ne_eq, Int.reduceLT, Int.reduceLE, Int.reduceToNat, Int.reduceEq, Int.reduceNeg, Nat.reduceAdd, Nat.reduceLT, Nat.reduceLeDiff, Nat.reduceMul, Nat.reduceSub, ↓evDraw_nil, bir, putD, evDraw, trace, List.all_cons, List.all_nil, chk, stAt, again, sameV, sameL, sameA, AV.undef, Bool.and_self, Bool.and_true, decide_eq_true_eq, List.getElem?_nil, kM, AV.cells, AV.tup, List.drop_nil, List.append_nil, rdO, St.wr, List.length_cons, List.length_nil, List.take_succ_cons, List.take_zero, List.drop_succ_cons, List.drop_zero, List.cons_append, List.nil_append, Nat.reduceMul, aFill, evParts, rep, List.replicate_succ, List.replicate_zero, List.flatten_cons, List.flatten_nil, List.append_nil, newSl, newVar, hA, rA, r27, r1, m1, o1, o2, o3, o3', f1, f2, f3, f4, c1', hbr, hB0, q2, wsq, rB0, r2, r3, r4, wtm, wss, q3, q4, Int.reduceEq]
    refine .while (I18 (.ptr (some ⟨S.next, 0, 0, 9⟩)) pc ec cc p.cs (headP p) A S4) id p.cs.length ⟨rfl, rfl, rfl, .refl _, 0, v4, rfl, by omega, rfl, by rw [List.take_zero]; show Nb A S4 v4 (headP p ++ []); rw [List.append_nil]; exact N40⟩ (by show p.cs.length < k + 24; omega) fun m2 T2 S5 h2 => (round18 k (hc.ext (eA.trans x4)) hcl (by omega) x4 m2 T2 S5 h2).mono ?_
    intro r T' S' hq
    cases r with
    | normal => exact hq
    | ret => exact absurd hq.1 (by simp)
    | exit i =>
      obtain ⟨hi, t1, t49, t50, ex, j, v, t51, hm, t7, N⟩ := hq
      cases hi
      obtain rfl : j = p.cs.length := by omega
      rw [List.take_length] at N
      simp -implicitDefEqProofs only [↓then_exit, ↓blk_exit, ↓then_normal]
      exact tail18 k ok ⟨pe, ee, ce, rfl, he.ext eA⟩ ⟨pl, el, cl, rfl, hl.ext eA⟩ l3 hpf gA (by omega) eA (x4.trans ex) t1 t7 N)
    | false =>
      have hbr : ∀ A B : Prop, Br (some (.bool p.mrk)) A B = B := fun A B => by rw [hmk]; exact br_false
      obtain rfl : s = ty := by rw [← hs]; unfold secondP; rw [hmk, hty]; rfl
      (
    simp -implicitDefEqProofs -dsimp (maxSteps := 10000000) only [af18, ↓kS, after_some, br_true, br_false, kC, ↓kQ, ↓Option.bind_some, ↓Option.map_some, ↓cond_true, ↓cond_false, evC, evOp, XO.lit, setArgs, Tr.tabG, Tr.tabS, Tr.tabL, Tr.get_lf, Option.bind_some, Option.map_some, cond_true, cond_false, maxI, maxFrom, minI, minFrom, aConv, aBinE, aEq, eqScal, aUn, evRes, fin, oneOf, if_true, if_false, callee, reduceCtorEq, Nat.reduceEqDiff, List.getElem?_cons_zero, List.getElem?_cons_succ, beq_self_eq_true, gt_iff_lt, List.head?_cons, AV.undef, eq_self, ne_eq, Int.reduceLT, Int.reduceLE, Int.reduceToNat, Int.reduceEq, Int.reduceNeg, Nat.reduceAdd, Nat.reduceLT, Nat.reduceLeDiff, Nat.reduceMul, Nat.reduceSub, ↓evDraw_nil, bir, putD, evDraw, trace, List.all_cons, List.all_nil, chk, stAt, again, sameV, sameL, sameA, AV.undef, Bool.and_self, Bool.and_true, decide_eq_true_eq, List.getElem?_nil, kM, AV.cells, AV.tup, List.drop_nil, List.append_nil, rdO, St.wr, List.length_cons, List.length_nil, List.take_succ_cons, List.take_zero, List.drop_succ_cons, List.drop_zero, List.cons_append, List.nil_append, Nat.reduceMul, aFill, evParts, rep, List.replicate_succ, List.replicate_zero, List.flatten_cons, List.flatten_nil, List.append_nil, newSl, newVar, hA, rA, r27, r1, m1, o1, o2, o3, o3', f1, f2, f3, f4, c1', hbr, hB0, q2, wsq, rB0, r2, r3, r4, wtm, wss, q3, q4, Int.reduceEq]
    refine .while (I18 (.ptr (some ⟨S.next, 0, 0, 9⟩)) pc ec cc p.cs (headP p) A S4) id p.cs.length ⟨rfl, rfl, rfl, .refl _, 0, v4, rfl, by omega, rfl, by rw [List.take_zero]; show Nb A S4 v4 (headP p ++ []); rw [List.append_nil]; exact N40⟩ (by show p.cs.length < k + 24; omega) fun m2 T2 S5 h2 => (round18 k (hc.ext (eA.trans x4)) hcl (by omega) x4 m2 T2 S5 h2).mono ?_
    intro r T' S' hq
    cases r with
    | normal => exact hq
    | ret => exact absurd hq.1 (by simp)
    | exit i =>
      obtain ⟨hi, t1, t49, t50, ex, j, v, t51, hm, t7, N⟩ := hq
      cases hi
      obtain rfl : j = p.cs.length := by omega
      rw [List.take_length] at N
      simp -implicitDefEqProofs only [↓then_exit, ↓blk_exit, ↓then_normal]
      exact tail18 k ok ⟨pe, ee, ce, rfl, he.ext eA⟩ ⟨pl, el, cl, rfl, hl.ext eA⟩ l3 hpf gA (by omega) eA (x4.trans ex) t1 t7 N)
  · obtain rfl : f = 128 + p.cs.length + 16 := by rw [← hf]; unfold firstP; rw [if_neg c1]
    cases hmk : p.mrk with
    | true =>
      have hbr : ∀ A B : Prop, Br (some (.bool p.mrk)) A B = A := fun A B => by rw [hmk]; exact br_true
      obtain rfl : s = ty + 128 := by rw [← hs]; unfold secondP; rw [if_pos hmk, hty]; rfl
      (
    simp -implicitDefEqProofs -dsimp (maxSteps := 10000000) only [af18, ↓kS, after_some, br_true, br_false, kC, ↓kQ, ↓Option.bind_some, ↓Option.map_some, ↓cond_true, ↓cond_false, evC, evOp, XO.lit, setArgs, Tr.tabG, Tr.tabS, Tr.tabL, Tr.get_lf, Option.bind_some, Option.map_some, cond_true, cond_false, maxI, maxFrom, minI, minFrom, aConv, aBinE, aEq, eqScal, aUn, evRes, fin, oneOf, if_true, if_false, callee, reduceCtorEq, Nat.reduceEqDiff, List.getElem?_cons_zero, List.getElem?_cons_succ, beq_self_eq_true, gt_iff_lt, List.head?_cons, AV.undef, eq_self, ne_eq, Int.reduceLT, Int.reduceLE, Int.reduceToNat, Int.reduceEq, Int.reduceNeg, Nat.reduceAdd, Nat.reduceLT, Nat.reduceLeDiff, Nat.reduceMul, Nat.reduceSub, ↓evDraw_nil, bir, putD, evDraw, trace, List.all_cons, List.all_nil, chk, stAt, again, sameV, sameL, sameA, AV.undef, Bool.and_self, Bool.and_true, decide_eq_true_eq, List.getElem?_nil, kM, AV.cells, AV.tup, List.drop_nil, List.append_nil, rdO, St.wr, List.length_cons, List.length_nil, List.take_succ_cons, List.take_zero, List.drop_succ_cons, List.drop_zero, List.cons_append, List.nil_append, Nat.reduceMul, aFill, evParts, rep, List.replicate_succ, List.replicate_zero, List.flatten_cons, List.flatten_nil, List.append_nil, newSl, newVar, hA, rA, r27, r1, m1, o1, o2, o3, o3', f1, f2, f3, f4, c1, hbr, hB0, q2, wsq, rB0, r2, r3, r4, wtm, wss, q3, q4, Int.reduceEq]
    refine .while (I18 (.ptr (some ⟨S.next, 0, 0, 9⟩)) pc ec cc p.cs (headP p) A S4) id p.cs.length ⟨rfl, rfl, rfl, .refl _, 0, v4, rfl, by omega, rfl, by rw [List.take_zero]; show Nb A S4 v4 (headP p ++ []); rw [List.append_nil]; exact N40⟩ (by show p.cs.length < k + 24; omega) fun m2 T2 S5 h2 => (round18 k (hc.ext (eA.trans x4)) hcl (by omega) x4 m2 T2 S5 h2).mono ?_
    intro r T' S' hq
    cases r with
    | normal => exact hq
    | ret => exact absurd hq.1 (by simp)
    | exit i =>
      obtain ⟨hi, t1, t49, t50, ex, j, v, t51, hm, t7, N⟩ := hq
      cases hi
      obtain rfl : j = p.cs.length := by omega
      rw [List.take_length] at N
      simp -implicitDefEqProofs only [↓then_exit, ↓blk_exit, ↓then_normal]
      exact tail18 k ok ⟨pe, ee, ce, rfl, he.ext eA⟩ ⟨pl, el, cl, rfl, hl.ext eA⟩ l3 hpf gA (by omega) eA (x4.trans ex) t1 t7 N)
    | false =>
      have hbr : ∀ A B : Prop, Br (some (.bool p.mrk)) A B = B := fun A B => by rw [hmk]; exact br_false
      obtain rfl : s = ty := by rw [← hs]; unfold secondP; rw [hmk, hty]; rfl
      (
    simp -implicitDefEqProofs -dsimp (maxSteps := 10000000) only [af18, ↓kS, after_some, br_true, br_false, kC, ↓kQ, ↓Option.bind_some, ↓Option.map_some, ↓cond_true, ↓cond_false, evC, evOp, XO.lit, setArgs, Tr.tabG, Tr.tabS, Tr.tabL, Tr.get_lf, Option.bind_some, Option.map_some, cond_true, cond_false, maxI, maxFrom, minI, minFrom, aConv, aBinE, aEq, eqScal, aUn, evRes, fin, oneOf, if_true, if_false, callee, reduceCtorEq, Nat.reduceEqDiff, List.getElem?_cons_zero, List.getElem?_cons_succ, beq_self_eq_true, gt_iff_lt, List.head?_cons, AV.undef, eq_self, ne_eq, Int.reduceLT, Int.reduceLE, Int.reduceToNat, Int.reduceEq, Int.reduceNeg, Nat.reduceAdd, Nat.reduceLT, Nat.reduceLeDiff, Nat.reduceMul, Nat.reduceSub, ↓evDraw_nil, bir, putD, evDraw, trace, List.all_cons, List.all_nil, chk, stAt, again, sameV, sameL, sameA, AV.undef, Bool.and_self, Bool.and_true, decide_eq_true_eq, List.getElem?_nil, kM, AV.cells, AV.tup, List.drop_nil, List.append_nil, rdO, St.wr, List.length_cons, List.length_nil, List.take_succ_cons, List.take_zero, List.drop_succ_cons, List.drop_zero, List.cons_append, List.nil_append, Nat.reduceMul, aFill, evParts, rep, List.replicate_succ, List.replicate_zero, List.flatten_cons, List.flatten_nil, List.append_nil, newSl, newVar, hA, rA, r27, r1, m1, o1, o2, o3, o3', f1, f2, f3, f4, c1, hbr, hB0, q2, wsq, rB0, r2, r3, r4, wtm, wss, q3, q4, Int.reduceEq]
    refine .while (I18 (.ptr (some ⟨S.next, 0, 0, 9⟩)) pc ec cc p.cs (headP p) A S4) id p.cs.length ⟨rfl, rfl, rfl, .refl _, 0, v4, rfl, by omega, rfl, by rw [List.take_zero]; show Nb A S4 v4 (headP p ++ []); rw [List.append_nil]; exact N40⟩ (by show p.cs.length < k + 24; omega) fun m2 T2 S5 h2 => (round18 k (hc.ext (eA.trans x4)) hcl (by omega) x4 m2 T2 S5 h2).mono ?_
    intro r T' S' hq
    cases r with
    | normal => exact hq
    | ret => exact absurd hq.1 (by simp)
    | exit i =>
      obtain ⟨hi, t1, t49, t50, ex, j, v, t51, hm, t7, N⟩ := hq
      cases hi
      obtain rfl : j = p.cs.length := by omega
      rw [List.take_length] at N
      simp -implicitDefEqProofs only [↓then_exit, ↓blk_exit, ↓then_normal]
      exact tail18 k ok ⟨pe, ee, ce, rfl, he.ext eA⟩ ⟨pl, el, cl, rfl, hl.ext eA⟩ l3 hpf gA (by omega) eA (x4.trans ex) t1 t7 N)
set_option maxHeartbeats 16000000 in
theorem T12 (k : Nat) {S : St} {p : Pk} {c e l : AV} (h : Pv S p c e l) : ∃ v' S', evF Y AP (k + 25) 12 [.agg (pkc p c e l)] S = some (.tuple [v', .int .i64 (rightP p)], S') ∧ Nb S S' v' (if rightP p = 0 then bytesP p else []) := by
  suffices hh : ∃ w S', evF Y AP (k + 25) 12 [.agg (pkc p c e l)] S = some (w, S') ∧ ∃ v', w = .tuple [v', .int .i64 (rightP p)] ∧ Nb S S' v' (if rightP p = 0 then bytesP p else []) by
    obtain ⟨w, S', h1, v', rfl, h2⟩ := hh; exact ⟨v', S', h1, h2⟩
  obtain ⟨A, hA⟩ : ∃ A, S.alloc (.cells (pkc p c e l) 0 0 true) = A := ⟨_, rfl⟩
  have eA : Ext S A := by rw [← hA]; exact .alloc _ _
  have nA : A.next = S.next + 1 := by rw [← hA]; rfl
  have gA : A.get S.next = some (.cells (pkc p c e l) 0 0 true) := by rw [← hA, St.get_alloc, if_pos rfl]
  have rdX : ∀ {X : St}, Ext A X → ∀ v i m, X.rd S.next v i m = rdO (.cells (pkc p c e l) 0 0 true) v i m := fun x => rd_of (x.get (by omega) gA)
  obtain ⟨S1, r27, x1⟩ := T28 (k + 20) (h.ext eA)
  have r27 : evF Y AP (k + 24) 28 [.agg (pkc p c e l)] A = _ := r27
  have rA := rdX (.refl A)
  have r1 := rdX x1
  refine evF_goes (af := af12) (k := k + 24) rfl rfl rfl ?_
  by_cases c0 : rightP p = 0
  rotate_left
  · rw [if_neg c0]
    simp -implicitDefEqProofs -dsimp (maxSteps := 10000000) only [af12, ↓kS, after_some, br_true, br_false, kC, ↓kQ, ↓Option.bind_some, ↓Option.map_some, ↓cond_true, ↓cond_false, evC, evOp, XO.lit, setArgs, Tr.tabG, Tr.tabS, Tr.tabL, Tr.get_lf, Option.bind_some, Option.map_some, cond_true, cond_false, maxI, maxFrom, minI, minFrom, aConv, aBinE, aEq, eqScal, aUn, evRes, fin, oneOf, if_true, if_false, callee, reduceCtorEq, Nat.reduceEqDiff, List.getElem?_cons_zero, List.getElem?_cons_succ, beq_self_eq_true, gt_iff_lt, List.head?_cons, AV.undef, eq_self, ne_eq, Int.reduceLT, Int.reduceLE, Int.reduceToNat, Int.reduceEq, Int.reduceNeg, Nat.reduceAdd, Nat.reduceLT, Nat.reduceLeDiff, Nat.reduceMul, Nat.reduceSub, kM, AV.cells, AV.tup, List.drop_nil, List.append_nil, rdO, St.wr, List.length_cons, List.length_nil, List.take_succ_cons, List.take_zero, List.drop_succ_cons, List.drop_zero, List.cons_append, List.nil_append, Nat.reduceMul, aFill, evParts, rep, List.replicate_succ, List.replicate_zero, List.flatten_cons, List.flatten_nil, List.append_nil, newSl, newVar, hA, rA, r27, c0]
    exact ⟨_, _, rfl, _, rfl, .gr (e := 0) (l := []) ⟨.nil _ _ _, eA.trans x1, fun _ _ _ h => (by cases h), .nil⟩ (by simp)⟩
  rw [if_pos c0, c0]
  rw [c0] at r27
  have ok := right0 c0
  have hcl := ok.cl; have hel := h.el; have hll := h.ll; have ht0 := ok.t0; have ht1 := ok.t1; have he4 := ok.e4
  obtain ⟨⟨pc, ec, cc, rfl, hc⟩, ⟨pe, ee, ce, rfl, he⟩, ⟨pl, el, cl, rfl, hl⟩, _, hsq, htm, hss, hpf, l1, l2, l3⟩ := h
  have m1 := hc.mx; have m2 := he.mx; have m3 := hl.mx
  obtain ⟨ty, hty⟩ : ∃ ty : Nat, p.ty = (ty : Int) := ⟨p.ty.toNat, by omega⟩
  have hfl : ∀ n : Nat, n < 256 → IntKind.u8.wrap (n : Int) = (n : Int) := fun n hn => u8_id (by omega) (by omega)
  have o1 := or1 (n := p.cs.length) (by omega)
  have o2 := (or2 (n := p.cs.length) (by omega)).2
  have o3 := (or3 (n := ty) (by omega)).2
  have o3' : Go.bits .or .i64 p.ty 128 = ((ty + 128 : Nat) : Int) := by rw [hty]; exact (or3 (n := ty) (by omega)).2
  have f1 := hfl (128 + p.cs.length) (by omega)
  have f2 := hfl (128 + p.cs.length + 16) (by omega)
  have f3 : IntKind.u8.wrap p.ty = (ty : Int) := by rw [hty]; exact hfl ty (by omega)
  have f4 := hfl (ty + 128) (by omega)
  have wsq : IntKind.u64.wrap p.sq = p.sq := u64_id hsq.1 (by omega)
  have wtm : IntKind.u64.wrap p.tm = p.tm := u64_id htm.1 (by omega)
  have wss : IntKind.u64.wrap p.ss = p.ss := u64_id hss.1 (by omega)
  have wpf : IntKind.u64.wrap p.pf = p.pf := u64_id hpf.1 (by omega)
  have tq : Int.tdiv (p.ex.length : Int) 4 = (p.ex.length : Int) / 4 := Int.tdiv_eq_ediv_of_nonneg (by omega)
  have z4 : ¬ (4 : Int) = 0 := by decide
  have wq : IntKind.i64.wrap ((p.ex.length : Int) / 4) = (p.ex.length : Int) / 4 := w64_id (by omega) (by omega)
  have wq2 : IntKind.u64.wrap ((p.ex.length : Int) / 4) = (p.ex.length : Int) / 4 := u64_id (by omega) (by omega)
  -- the head
  obtain ⟨f, hf⟩ : ∃ f, firstP p = f := ⟨_, rfl⟩
  obtain ⟨s, hs⟩ : ∃ s, secondP p = s := ⟨_, rfl⟩
  have hf2 : f < 256 := by rw [← hf]; unfold firstP; split <;> omega
  have hs2 : s < 256 := by rw [← hs]; unfold secondP; split <;> omega
  have ff := hfl f hf2
  have fs := hfl s hs2
  obtain ⟨B0, hB0⟩ : ∃ B, S1.alloc (.cells [.int .u8 (f : Int), .int .u8 (s : Int)] 0 0 true) = B := ⟨_, rfl⟩
  have eB0 : Ext S1 B0 := by rw [← hB0]; exact .alloc _ _
  have nB0 : B0.next = S1.next + 1 := by rw [← hB0]; rfl
  have byB : By B0 (some (S1.next, 0, 0)) 1 [f, s] := ⟨.inr rfl, fun h => (by cases h), fun o v i hp => by
    cases hp
    exact ⟨by omega, by rw [← hB0, rd_alloc, if_pos rfl]; rfl⟩, fun b hb => by
      rcases List.mem_cons.1 hb with rfl | hb
      · exact hf2
      · rw [List.mem_singleton.1 hb]; exact hs2, by simp⟩
  have rB0 := rdX (x1.trans eB0)
  obtain ⟨v2, S2, q2_, N2⟩ := T29 (k + 4) (c := none) byB (by simp) (n := p.sq) (size := 2) ⟨by decide, by decide⟩
  have q2 : evF Y AP (k + 24) 29 [.slice (some (S1.next, 0, 0)) 2 1 none, .int .u64 p.sq, .int .i64 2] B0 = _ := q2_
  clear q2_
  rw [putL2] at N2
  obtain ⟨L2, hL2⟩ : ∃ x, [f, s] ++ be p.sq 2 = x := ⟨_, rfl⟩
  rw [hL2] at N2
  have lL2 : L2.length = 4 := by rw [← hL2, List.length_append, be_len]; rfl
  obtain ⟨p2, e2, c2, rfl, b2⟩ := N2.bs
  have x2 := x1.trans (eB0.trans N2.ext)
  have r2 := rdX x2
  obtain ⟨v3, S3, q3, N3⟩ := T29 (k + 4) (c := c2) b2 (by omega) (n := p.tm) (size := 4) ⟨by decide, by decide⟩
  have q3 : evF Y AP (k + 24) 29 [.slice p2 L2.length e2 c2, .int .u64 p.tm, .int .i64 4] S2 = _ := q3
  rw [putL4] at N3
  obtain ⟨L3, hL3⟩ : ∃ x, L2 ++ be p.tm 4 = x := ⟨_, rfl⟩
  rw [hL3] at N3
  have lL3 : L3.length = 8 := by rw [← hL3, List.length_append, be_len, lL2]
  obtain ⟨p3, e3, c3, rfl, b3⟩ := N3.bs
  have x3 := x2.trans N3.ext
  have r3 := rdX x3
  obtain ⟨v4, S4, q4, N4⟩ := T29 (k + 4) (c := c3) b3 (by omega) (n := p.ss) (size := 4) ⟨by decide, by decide⟩
  have q4 : evF Y AP (k + 24) 29 [.slice p3 L3.length e3 c3, .int .u64 p.ss, .int .i64 4] S3 = _ := q4
  rw [putL4] at N4
  have x4 := x3.trans N4.ext
  have r4 := rdX x4
  have hhd : L3 ++ be p.ss 4 = headP p := by rw [← hL3, ← hL2, ← hf, ← hs]; rfl
  rw [hhd] at N4
  have hhl : (headP p).length = 12 := by rw [← hhd, List.length_append, be_len, lL3]
  have hwl := wordsP_len p.cs
  have N40 := N4.base x3
  have hll := hl
  by_cases c1 : p.pf = 0
  · have c1' := eq_true c1
    obtain rfl : f = 128 + p.cs.length := by rw [← hf]; unfold firstP; rw [if_pos c1]; rfl
    cases hmk : p.mrk with
    | true =>
      have hbr : ∀ A B : Prop, Br (some (.bool p.mrk)) A B = A := fun A B => by rw [hmk]; exact br_true
      obtain rfl : s = ty + 128 := by rw [← hs]; unfold secondP; rw [if_pos hmk, hty]; rfl
      (
    simp -implicitDefEqProofs -dsimp (maxSteps := 10000000) only [af12, ↓kS, after_some, br_true, br_false, kC, ↓kQ, ↓Option.bind_some, ↓Option.map_some, ↓cond_true, ↓cond_false, evC, evOp, XO.lit, setArgs, Tr.tabG, Tr.tabS, Tr.tabL, Tr.get_lf, Option.bind_some, Option.map_some, cond_true, cond_false, maxI, maxFrom, minI, minFrom, aConv, aBinE, aEq, eqScal, aUn, evRes, fin, oneOf, if_true, if_false, callee, reduceCtorEq, Nat.reduceEqDiff, List.getElem?_cons_zero, List.getElem?_cons_succ, beq_self_eq_true, gt_iff_lt, List.head?_cons, AV.undef, eq_self, ne_eq, Int.reduceLT, Int.reduceLE, Int.reduceToNat, Int.reduceEq, Int.reduceNeg, Nat.reduceAdd, Nat.reduceLT, Nat.reduceLeDiff, Nat.reduceMul, Nat.reduceSub, ↓evDraw_nil, bir, putD, evDraw, trace, List.all_cons, List.all_nil, chk, stAt, again, sameV, sameL, sameA, AV.undef, Bool.and_self, Bool.and_true, decide_eq_true_eq, List.getElem?_nil, kM, AV.cells, AV.tup, List.drop_nil, List.append_nil, rdO, St.wr, List.length_cons, List.length_nil, List.take_succ_cons, List.take_zero, List.drop_succ_cons, List.drop_zero, List.cons_append, List.nil_append, Nat.reduceMul, aFill, evParts, rep, List.replicate_succ, List.replicate_zero, List.flatten_cons, List.flatten_nil, List.append_nil, newSl, newVar, hA, rA, r27, r1, m1, o1, o2, o3, o3', f1, f2, f3, f4, c1', hbr, hB0, q2, wsq, rB0, r2, r3, r4, wtm, wss, q3, q4, Int.reduceEq]
    refine .while (I12 (.ptr (some ⟨S.next, 0, 0, 9⟩)) pc ec cc p.cs (headP p) A S4) id p.cs.length ⟨rfl, rfl, rfl, .refl _, 0, v4, rfl, by omega, rfl, by rw [List.take_zero]; show Nb A S4 v4 (headP p ++ []); rw [List.append_nil]; exact N40⟩ (by show p.cs.length < k + 24; omega) fun m2 T2 S5 h2 => (round12 k (hc.ext (eA.trans x4)) hcl (by omega) x4 m2 T2 S5 h2).mono ?_
    intro r T' S' hq
    cases r with
    | normal => exact hq
    | ret => exact absurd hq.1 (by simp)
    | exit i =>
      obtain ⟨hi, t1, t49, t50, ex, j, v, t51, hm, t7, N⟩ := hq
      cases hi
      obtain rfl : j = p.cs.length := by omega
      rw [List.take_length] at N
      simp -implicitDefEqProofs only [↓then_exit, ↓blk_exit, ↓then_normal]
      exact tail12 k ok ⟨pe, ee, ce, rfl, he.ext eA⟩ ⟨pl, el, cl, rfl, hl.ext eA⟩ l3 hpf gA (by omega) eA (x4.trans ex) t1 t7 N)
    | false =>
      have hbr : ∀ A B : Prop, Br (some (.bool p.mrk)) A B = B := fun A B => by rw [hmk]; exact br_false
      obtain rfl : s = ty := by rw [← hs]; unfold secondP; rw [hmk, hty]; rfl
      (
    simp -implicitDefEqProofs -dsimp (maxSteps := 10000000) only [af12, ↓kS, after_some, br_true, br_false, kC, ↓kQ, ↓Option.bind_some, ↓Option.map_some, ↓cond_true, ↓cond_false, evC, evOp, XO.lit, setArgs, Tr.tabG, Tr.tabS, Tr.tabL, Tr.get_lf, Option.bind_some, Option.map_some, cond_true, cond_false, maxI, maxFrom, minI, minFrom, aConv, aBinE, aEq, eqScal, aUn, evRes, fin, oneOf, if_true, if_false, callee, reduceCtorEq, Nat.reduceEqDiff, List.getElem?_cons_zero, List.getElem?_cons_succ, beq_self_eq_true, gt_iff_lt, List.head?_cons, AV.undef, eq_self, ne_eq, Int.reduceLT, Int.reduceLE, Int.reduceToNat, Int.reduceEq, Int.reduceNeg, Nat.reduceAdd, Nat.reduceLT, Nat.reduceLeDiff, Nat.reduceMul, Nat.reduceSub, ↓evDraw_nil, bir, putD, evDraw, trace, List.all_cons, List.all_nil, chk, stAt, again, sameV, sameL, sameA, AV.undef, Bool.and_self, Bool.and_true, decide_eq_true_eq, List.getElem?_nil, kM, AV.cells, AV.tup, List.drop_nil, List.append_nil, rdO, St.wr, List.length_cons, List.length_nil, List.take_succ_cons, List.take_zero, List.drop_succ_cons, List.drop_zero, List.cons_append, List.nil_append, Nat.reduceMul, aFill, evParts, rep, List.replicate_succ, List.replicate_zero, List.flatten_cons, List.flatten_nil, List.append_nil, newSl, newVar, hA, rA, r27, r1, m1, o1, o2, o3, o3', f1, f2, f3, f4, c1', hbr, hB0, q2, wsq, rB0, r2, r3, r4, wtm, wss, q3, q4, Int.reduceEq]
    refine .while (I12 (.ptr (some ⟨S.next, 0, 0, 9⟩)) pc ec cc p.cs (headP p) A S4) id p.cs.length ⟨rfl, rfl, rfl, .refl _, 0, v4, rfl, by omega, rfl, by rw [List.take_zero]; show Nb A S4 v4 (headP p ++ []); rw [List.append_nil]; exact N40⟩ (by show p.cs.length < k + 24; omega) fun m2 T2 S5 h2 => (round12 k (hc.ext (eA.trans x4)) hcl (by omega) x4 m2 T2 S5 h2).mono ?_
    intro r T' S' hq
    cases r with
    | normal => exact hq
    | ret => exact absurd hq.1 (by simp)
    | exit i =>
      obtain ⟨hi, t1, t49, t50, ex, j, v, t51, hm, t7, N⟩ := hq
      cases hi
      obtain rfl : j = p.cs.length := by omega
      rw [List.take_length] at N
      simp -implicitDefEqProofs only [↓then_exit, ↓blk_exit, ↓then_normal]
      exact tail12 k ok ⟨pe, ee, ce, rfl, he.ext eA⟩ ⟨pl, el, cl, rfl, hl.ext eA⟩ l3 hpf gA (by omega) eA (x4.trans ex) t1 t7 N)
  · obtain rfl : f = 128 + p.cs.length + 16 := by rw [← hf]; unfold firstP; rw [if_neg c1]
    cases hmk : p.mrk with
    | true =>
      have hbr : ∀ A B : Prop, Br (some (.bool p.mrk)) A B = A := fun A B => by rw [hmk]; exact br_true
      obtain rfl : s = ty + 128 := by rw [← hs]; unfold secondP; rw [if_pos hmk, hty]; rfl
      (
    simp -implicitDefEqProofs -dsimp (maxSteps := 10000000) only [af12, ↓kS, after_some, br_true, br_false, kC, ↓kQ, ↓Option.bind_some, ↓Option.map_some, ↓cond_true, ↓cond_false, evC, evOp, XO.lit, setArgs, Tr.tabG, Tr.tabS, Tr.tabL, Tr.get_lf, Option.bind_some, Option.map_some, cond_true, cond_false, maxI, maxFrom, minI, minFrom, aConv, aBinE, aEq, eqScal, aUn, evRes, fin, oneOf, if_true, if_false, callee, reduceCtorEq, Nat.reduceEqDiff, List.getElem?_cons_zero, List.getElem?_cons_succ, beq_self_eq_true, gt_iff_lt, List.head?_cons, AV.undef, eq_self, ne_eq, Int.reduceLT, Int.reduceLE, Int.reduceToNat, Int.reduceEq, Int.reduceNeg, Nat.reduceAdd, Nat.reduceLT, Nat.reduceLeDiff, Nat.reduceMul, Nat.reduceSub, ↓evDraw_nil, bir, putD, evDraw, trace, List.all_cons, List.all_nil, chk, stAt, again, sameV, sameL, sameA, AV.undef, Bool.and_self, Bool.and_true, decide_eq_true_eq, List.getElem?_nil, kM, AV.cells, AV.tup, List.drop_nil, List.append_nil, rdO, St.wr, List.length_cons, List.length_nil, List.take_succ_cons, List.take_zero, List.drop_succ_cons, List.drop_zero, List.cons_append, List.nil_append, Nat.reduceMul, aFill, evParts, rep, List.replicate_succ, List.replicate_zero, List.flatten_cons, List.flatten_nil, List.append_nil, newSl, newVar, hA, rA, r27, r1, m1, o1, o2, o3, o3', f1, f2, f3, f4, c1, hbr, hB0, q2, wsq, rB0, r2, r3, r4, wtm, wss, q3, q4, Int.reduceEq]
    refine .while (I12 (.ptr (some ⟨S.next, 0, 0, 9⟩)) pc ec cc p.cs (headP p) A S4) id p.cs.length ⟨rfl, rfl, rfl, .refl _, 0, v4, rfl, by omega, rfl, by rw [List.take_zero]; show Nb A S4 v4 (headP p ++ []); rw [List.append_nil]; exact N40⟩ (by show p.cs.length < k + 24; omega) fun m2 T2 S5 h2 => (round12 k (hc.ext (eA.trans x4)) hcl (by omega) x4 m2 T2 S5 h2).mono ?_
    intro r T' S' hq
    cases r with
    | normal => exact hq
    | ret => exact absurd hq.1 (by simp)
    | exit i =>
      obtain ⟨hi, t1, t49, t50, ex, j, v, t51, hm, t7, N⟩ := hq
      cases hi
      obtain rfl : j = p.cs.length := by omega
      rw [List.take_length] at N
      simp -implicitDefEqProofs only [↓then_exit, ↓blk_exit, ↓then_normal]
      exact tail12 k ok ⟨pe, ee, ce, rfl, he.ext eA⟩ ⟨pl, el, cl, rfl, hl.ext eA⟩ l3 hpf gA (by omega) eA (x4.trans ex) t1 t7 N)
    | false =>
      have hbr : ∀ A B : Prop, Br (some (.bool p.mrk)) A B = B := fun A B => by rw [hmk]; exact br_false
      obtain rfl : s = ty := by rw [← hs]; unfold secondP; rw [hmk, hty]; rfl
      (
    simp -implicitDefEqProofs -dsimp (maxSteps := 10000000) only [af12, ↓kS, after_some, br_true, br_false, kC, ↓kQ, ↓Option.bind_some, ↓Option.map_some, ↓cond_true, ↓cond_false, evC, evOp, XO.lit, setArgs, Tr.tabG, Tr.tabS, Tr.tabL, Tr.get_lf, Option.bind_some, Option.map_some, cond_true, cond_false, maxI, maxFrom, minI, minFrom, aConv, aBinE, aEq, eqScal, aUn, evRes, fin, oneOf, if_true, if_false, callee, reduceCtorEq, Nat.reduceEqDiff, List.getElem?_cons_zero, List.getElem?_cons_succ, beq_self_eq_true, gt_iff_lt, List.head?_cons, AV.undef, eq_self, ne_eq, Int.reduceLT, Int.reduceLE, Int.reduceToNat, Int.reduceEq, Int.reduceNeg, Nat.reduceAdd, Nat.reduceLT, Nat.reduceLeDiff, Nat.reduceMul, Nat.reduceSub, ↓evDraw_nil, bir, putD, evDraw, trace, List.all_cons, List.all_nil, chk, stAt, again, sameV, sameL, sameA, AV.undef, Bool.and_self, Bool.and_true, decide_eq_true_eq, List.getElem?_nil, kM, AV.cells, AV.tup, List.drop_nil, List.append_nil, rdO, St.wr, List.length_cons, List.length_nil, List.take_succ_cons, List.take_zero, List.drop_succ_cons, List.drop_zero, List.cons_append, List.nil_append, Nat.reduceMul, aFill, evParts, rep, List.replicate_succ, List.replicate_zero, List.flatten_cons, List.flatten_nil, List.append_nil, newSl, newVar, hA, rA, r27, r1, m1, o1, o2, o3, o3', f1, f2, f3, f4, c1, hbr, hB0, q2, wsq, rB0, r2, r3, r4, wtm, wss, q3, q4, Int.reduceEq]
    refine .while (I12 (.ptr (some ⟨S.next, 0, 0, 9⟩)) pc ec cc p.cs (headP p) A S4) id p.cs.length ⟨rfl, rfl, rfl, .refl _, 0, v4, rfl, by omega, rfl, by rw [List.take_zero]; show Nb A S4 v4 (headP p ++ []); rw [List.append_nil]; exact N40⟩ (by show p.cs.length < k + 24; omega) fun m2 T2 S5 h2 => (round12 k (hc.ext (eA.trans x4)) hcl (by omega) x4 m2 T2 S5 h2).mono ?_
    intro r T' S' hq
    cases r with
    | normal => exact hq
    | ret => exact absurd hq.1 (by simp)
    | exit i =>
      obtain ⟨hi, t1, t49, t50, ex, j, v, t51, hm, t7, N⟩ := hq
      cases hi
      obtain rfl : j = p.cs.length := by omega
      rw [List.take_length] at N
      simp -implicitDefEqProofs only [↓then_exit, ↓blk_exit, ↓then_normal]
      exact tail12 k ok ⟨pe, ee, ce, rfl, he.ext eA⟩ ⟨pl, el, cl, rfl, hl.ext eA⟩ l3 hpf gA (by omega) eA (x4.trans ex) t1 t7 N)
theorem eqStr_dec : ∀ a b : List Nat, eqStr a b = decide (a = b)
  | [], [] => rfl
  | [], _ :: _ => by simp [eqStr]
  | _ :: _, [] => by simp [eqStr]
  | a :: x, b :: y => by
    simp only [eqStr, eqStr_dec x y, beq_dec]
    by_cases h : a = b <;> by_cases h' : x = y <;> simp [h, h']
theorem take_eq {α : Type} {a b : List α} {j : Nat} (ha : j < a.length) (hb : j < b.length) (h : a.take j = b.take j) (he : a[j] = b[j]) : a.take (j + 1) = b.take (j + 1) := by
  rw [List.take_succ_eq_append_getElem ha, List.take_succ_eq_append_getElem hb, h, he]
theorem ne_at {α : Type} {a b : List α} {j : Nat} (ha : j < a.length) (hb : j < b.length) (he : ¬ a[j] = b[j]) : ¬ a = b := fun h => by subst h; exact he rfl
instance : DecidableEq Pk := fun a b => by
  cases a; cases b
  simp only [Pk.mk.injEq]
  infer_instance
theorem By.some_ {S : St} {p : Option (Nat × Nat × Nat)} {e : Nat} {l : List Nat} (h : By S p e l) (hl : 0 < l.length) : ∃ o v i, p = some (o, v, i) ∧ e = 1 ∧ o < S.next := by
  rcases p with _ | ⟨o, v, i⟩
  · rw [h.nil rfl] at hl; exact absurd hl (Nat.lt_irrefl _)
  · exact ⟨o, v, i, rfl, h.ez.resolve_left (by simp), (h.at_ o v i rfl).1⟩
structure I31 (pa pb : Option (Nat × Nat × Nat)) (ca cb : Option Nat) (ea eb : Nat) (a b : List Int) (Sb : St) (m : Nat) (T : Tm) (S : St) : Prop where
  st : S = Sb
  t0 : T.get 0 = some (.slice pa a.length ea ca)
  t1 : T.get 1 = some (.slice pb b.length eb cb)
  t12 : T.get 12 = some (.int .i64 a.length)
  more : ∃ j : Nat, T.get 13 = some (.int .i64 j) ∧ j + m = a.length ∧ a.take j = b.take j
set_option maxHeartbeats 4000000 in
theorem round31 (k : Nat) {pa pb : Option (Nat × Nat × Nat)} {ca cb : Option Nat} {ea eb : Nat} {a b : List Int} {Sb : St} (ha : Ur Sb pa ea a) (hb : Ur Sb pb eb b) (hab : a.length = b.length) (hn : a.length ≤ 140737488355328) (m : Nat) (T : Tm) (S : St) (hI : I31 pa pb ca cb ea eb a b Sb m T S) :
    Goes (evF Y AP (k + a.length + 1)) (k + a.length + 1) af31_l0 T S (Then (fun T' S' => ∃ m', I31 pa pb ca cb ea eb a b Sb m' T' S' ∧ id m' < id m) fun r T' S' => S' = Sb ∧ (r = .exit 0 ∧ a = b ∨ r = .ret ∧ ¬ a = b ∧ T'.get 4 = some (.bool false))) := by
  obtain ⟨rfl, t0, t1, t12, j, t13, hm, htk⟩ := hI
  by_cases c1 : (j : Int) < (a.length : Int)
  rotate_left
  · simp -implicitDefEqProofs -dsimp (maxSteps := 10000000) only [af31_l0, ↓kS, after_some, br_true, br_false, kC, ↓kQ, ↓Option.bind_some, ↓Option.map_some, ↓cond_true, ↓cond_false, evC, evOp, XO.lit, setArgs, Tr.get_set, Option.bind_some, Option.map_some, cond_true, cond_false, maxI, maxFrom, minI, minFrom, aConv, aBinE, aEq, eqScal, aUn, evRes, fin, oneOf, if_true, if_false, callee, reduceCtorEq, Nat.reduceEqDiff, List.getElem?_cons_zero, List.getElem?_cons_succ, beq_self_eq_true, gt_iff_lt, List.head?_cons, AV.undef, eq_self, ne_eq, Int.reduceLT, Int.reduceLE, Int.reduceToNat, Int.reduceEq, Int.reduceNeg, Nat.reduceAdd, Nat.reduceLT, Nat.reduceLeDiff, Nat.reduceMul, Nat.reduceSub, kM, AV.cells, AV.tup, List.drop_nil, List.append_nil, rdO, St.wr, List.length_cons, List.length_nil, List.take_succ_cons, List.take_zero, List.drop_succ_cons, List.drop_zero, List.cons_append, List.nil_append, Nat.reduceMul, t12, t13, c1]
    rw [List.take_of_length_le (by omega), List.take_of_length_le (by omega)] at htk
    exact .inl htk
  have hj : j < a.length := by omega
  have hj' : j < b.length := by omega
  obtain ⟨oa, va, ia, rfl, rfl, _⟩ := ha.some_ (by omega)
  obtain ⟨ob, vb, ib, rfl, rfl, _⟩ := hb.some_ (by omega)
  have hix : ixOf (.int .i64 (j : Int)) a.length = some j := by rw [ix_ok (by omega) c1]; rfl
  have hix' : ixOf (.int .i64 (j : Int)) b.length = some j := by rw [ix_ok (by omega) (by omega)]; rfl
  have wj : IntKind.i64.wrap ((j : Int) + 1) = ((j + 1 : Nat) : Int) := w64_id (by omega) (by omega)
  have za := ha.get hj
  have zb := hb.get hj'
  by_cases c2 : a[j] = b[j]
  · have c2' : (a[j] = b[j]) = True := eq_true (by rw [c2])
    simp -implicitDefEqProofs -dsimp (maxSteps := 10000000) only [af31_l0, ↓kS, after_some, br_true, br_false, kC, ↓kQ, ↓Option.bind_some, ↓Option.map_some, ↓cond_true, ↓cond_false, evC, evOp, XO.lit, setArgs, Tr.get_set, Option.bind_some, Option.map_some, cond_true, cond_false, maxI, maxFrom, minI, minFrom, aConv, aBinE, aEq, eqScal, aUn, evRes, fin, oneOf, if_true, if_false, callee, reduceCtorEq, Nat.reduceEqDiff, List.getElem?_cons_zero, List.getElem?_cons_succ, beq_self_eq_true, gt_iff_lt, List.head?_cons, AV.undef, eq_self, ne_eq, Int.reduceLT, Int.reduceLE, Int.reduceToNat, Int.reduceEq, Int.reduceNeg, Nat.reduceAdd, Nat.reduceLT, Nat.reduceLeDiff, Nat.reduceMul, Nat.reduceSub, ↓evDraw_nil, bir, putD, evDraw, trace, List.all_cons, List.all_nil, chk, stAt, again, sameV, sameL, sameA, AV.undef, Bool.and_self, Bool.and_true, decide_eq_true_eq, List.getElem?_nil, kM, AV.cells, AV.tup, List.drop_nil, List.append_nil, rdO, St.wr, List.length_cons, List.length_nil, List.take_succ_cons, List.take_zero, List.drop_succ_cons, List.drop_zero, List.cons_append, List.nil_append, Nat.reduceMul, t0, t1, t12, t13, c1, hix, hix', Nat.mul_one, za, zb, c2', wj]
    refine ⟨m - 1, ⟨rfl, ?_, ?_, ?_, j + 1, ?_, by omega, take_eq hj hj' htk c2⟩, by show m - 1 < m; omega⟩ <;> simp only [Tr.get_set, Nat.reduceEqDiff, if_false, if_true, t0, t1, t12]
  · have c2' : ¬ (a[j] = b[j]) := c2
    simp -implicitDefEqProofs -dsimp (maxSteps := 10000000) only [af31_l0, ↓kS, after_some, br_true, br_false, kC, ↓kQ, ↓Option.bind_some, ↓Option.map_some, ↓cond_true, ↓cond_false, evC, evOp, XO.lit, setArgs, Tr.get_set, Option.bind_some, Option.map_some, cond_true, cond_false, maxI, maxFrom, minI, minFrom, aConv, aBinE, aEq, eqScal, aUn, evRes, fin, oneOf, if_true, if_false, callee, reduceCtorEq, Nat.reduceEqDiff, List.getElem?_cons_zero, List.getElem?_cons_succ, beq_self_eq_true, gt_iff_lt, List.head?_cons, AV.undef, eq_self, ne_eq, Int.reduceLT, Int.reduceLE, Int.reduceToNat, Int.reduceEq, Int.reduceNeg, Nat.reduceAdd, Nat.reduceLT, Nat.reduceLeDiff, Nat.reduceMul, Nat.reduceSub, ↓evDraw_nil, bir, putD, evDraw, trace, List.all_cons, List.all_nil, chk, stAt, again, sameV, sameL, sameA, AV.undef, Bool.and_self, Bool.and_true, decide_eq_true_eq, List.getElem?_nil, kM, AV.cells, AV.tup, List.drop_nil, List.append_nil, rdO, St.wr, List.length_cons, List.length_nil, List.take_succ_cons, List.take_zero, List.drop_succ_cons, List.drop_zero, List.cons_append, List.nil_append, Nat.reduceMul, t0, t1, t12, t13, c1, hix, hix', Nat.mul_one, za, zb, c2']
    exact .inr (ne_at hj hj' c2)
theorem T31 (k : Nat) {S : St} {pa pb : Option (Nat × Nat × Nat)} {ca cb : Option Nat} {ea eb : Nat} {a b : List Int} (ha : Ur S pa ea a) (hb : Ur S pb eb b) (hn : a.length ≤ 140737488355328) :
    evF Y AP (k + a.length + 2) 31 [.slice pa a.length ea ca, .slice pb b.length eb cb] S = some (.bool (decide (a = b)), S) := by
  suffices hh : ∃ v S', evF Y AP (k + a.length + 2) 31 [.slice pa a.length ea ca, .slice pb b.length eb cb] S = some (v, S') ∧ v = .bool (decide (a = b)) ∧ S' = S by
    obtain ⟨v, S', h1, rfl, rfl⟩ := hh; exact h1
  have m1 := ha.mx; have m2 := hb.mx
  refine evF_goes (af := af31) (k := k + a.length + 1) rfl rfl rfl ?_
  by_cases c1 : a.length = b.length
  · have c1' : ((a.length : Int) = (b.length : Int)) = True := eq_true (by rw [c1])
    simp -implicitDefEqProofs -dsimp (maxSteps := 10000000) only [af31, ↓kS, after_some, br_true, br_false, kC, ↓kQ, ↓Option.bind_some, ↓Option.map_some, ↓cond_true, ↓cond_false, evC, evOp, XO.lit, setArgs, Tr.tabG, Tr.tabS, Tr.tabL, Tr.get_lf, Option.bind_some, Option.map_some, cond_true, cond_false, maxI, maxFrom, minI, minFrom, aConv, aBinE, aEq, eqScal, aUn, evRes, fin, oneOf, if_true, if_false, callee, reduceCtorEq, Nat.reduceEqDiff, List.getElem?_cons_zero, List.getElem?_cons_succ, beq_self_eq_true, gt_iff_lt, List.head?_cons, AV.undef, eq_self, ne_eq, Int.reduceLT, Int.reduceLE, Int.reduceToNat, Int.reduceEq, Int.reduceNeg, Nat.reduceAdd, Nat.reduceLT, Nat.reduceLeDiff, Nat.reduceMul, Nat.reduceSub, m1, m2, c1']
    refine .while (I31 pa pb ca cb ea eb a b S) id a.length ⟨rfl, rfl, rfl, rfl, 0, rfl, by omega, rfl⟩ (by show a.length < k + a.length + 1; omega) fun m2 T2 S2 h2 => (round31 k ha hb c1 hn m2 T2 S2 h2).mono ?_
    intro r T' S' hq
    cases r with
    | normal => exact hq
    | ret =>
      obtain ⟨rfl, ⟨h, _⟩ | ⟨_, h2, t4⟩⟩ := hq
      · cases h
      · simp -implicitDefEqProofs -dsimp (maxSteps := 10000000) only [↓kS, after_some, br_true, br_false, kC, ↓kQ, ↓Option.bind_some, ↓Option.map_some, ↓cond_true, ↓cond_false, evC, evOp, XO.lit, setArgs, Tr.get_set, Option.bind_some, Option.map_some, cond_true, cond_false, maxI, maxFrom, minI, minFrom, aConv, aBinE, aEq, eqScal, aUn, evRes, fin, oneOf, if_true, if_false, callee, reduceCtorEq, Nat.reduceEqDiff, List.getElem?_cons_zero, List.getElem?_cons_succ, beq_self_eq_true, gt_iff_lt, List.head?_cons, AV.undef, eq_self, ne_eq, Int.reduceLT, Int.reduceLE, Int.reduceToNat, Int.reduceEq, Int.reduceNeg, Nat.reduceAdd, Nat.reduceLT, Nat.reduceLeDiff, Nat.reduceMul, Nat.reduceSub, t4]
        exact ⟨_, _, rfl, by rw [decide_eq_false h2], rfl⟩
    | exit i =>
      obtain ⟨rfl, ⟨h, h2⟩ | ⟨h, _⟩⟩ := hq
      · cases h
        simp -implicitDefEqProofs -dsimp (maxSteps := 10000000) only [↓kS, after_some, br_true, br_false, kC, ↓kQ, ↓Option.bind_some, ↓Option.map_some, ↓cond_true, ↓cond_false, evC, evOp, XO.lit, setArgs, Tr.get_set, Option.bind_some, Option.map_some, cond_true, cond_false, maxI, maxFrom, minI, minFrom, aConv, aBinE, aEq, eqScal, aUn, evRes, fin, oneOf, if_true, if_false, callee, reduceCtorEq, Nat.reduceEqDiff, List.getElem?_cons_zero, List.getElem?_cons_succ, beq_self_eq_true, gt_iff_lt, List.head?_cons, AV.undef, eq_self, ne_eq, Int.reduceLT, Int.reduceLE, Int.reduceToNat, Int.reduceEq, Int.reduceNeg, Nat.reduceAdd, Nat.reduceLT, Nat.reduceLeDiff, Nat.reduceMul, Nat.reduceSub]
        exact ⟨_, _, rfl, by rw [decide_eq_true h2], rfl⟩
      · cases h
  · have c1' : ¬ (a.length : Int) = (b.length : Int) := by omega
    have h2 : ¬ a = b := fun h => c1 (by rw [h])
    simp -implicitDefEqProofs -dsimp (maxSteps := 10000000) only [af31, ↓kS, after_some, br_true, br_false, kC, ↓kQ, ↓Option.bind_some, ↓Option.map_some, ↓cond_true, ↓cond_false, evC, evOp, XO.lit, setArgs, Tr.tabG, Tr.tabS, Tr.tabL, Tr.get_lf, Option.bind_some, Option.map_some, cond_true, cond_false, maxI, maxFrom, minI, minFrom, aConv, aBinE, aEq, eqScal, aUn, evRes, fin, oneOf, if_true, if_false, callee, reduceCtorEq, Nat.reduceEqDiff, List.getElem?_cons_zero, List.getElem?_cons_succ, beq_self_eq_true, gt_iff_lt, List.head?_cons, AV.undef, eq_self, ne_eq, Int.reduceLT, Int.reduceLE, Int.reduceToNat, Int.reduceEq, Int.reduceNeg, Nat.reduceAdd, Nat.reduceLT, Nat.reduceLeDiff, Nat.reduceMul, Nat.reduceSub, m1, m2, c1']
    exact ⟨_, _, rfl, by rw [decide_eq_false h2], rfl⟩
structure I32 (pa pb : Option (Nat × Nat × Nat)) (ca cb : Option Nat) (ea eb : Nat) (a b : List Nat) (Sb : St) (m : Nat) (T : Tm) (S : St) : Prop where
  st : S = Sb
  t0 : T.get 0 = some (.slice pa a.length ea ca)
  t1 : T.get 1 = some (.slice pb b.length eb cb)
  t12 : T.get 12 = some (.int .i64 a.length)
  more : ∃ j : Nat, T.get 13 = some (.int .i64 j) ∧ j + m = a.length ∧ a.take j = b.take j
set_option maxHeartbeats 4000000 in
theorem round32 (k : Nat) {pa pb : Option (Nat × Nat × Nat)} {ca cb : Option Nat} {ea eb : Nat} {a b : List Nat} {Sb : St} (ha : By Sb pa ea a) (hb : By Sb pb eb b) (hab : a.length = b.length) (hn : a.length ≤ 140737488355328) (m : Nat) (T : Tm) (S : St) (hI : I32 pa pb ca cb ea eb a b Sb m T S) :
    Goes (evF Y AP (k + a.length + 1)) (k + a.length + 1) af32_l0 T S (Then (fun T' S' => ∃ m', I32 pa pb ca cb ea eb a b Sb m' T' S' ∧ id m' < id m) fun r T' S' => S' = Sb ∧ (r = .exit 0 ∧ a = b ∨ r = .ret ∧ ¬ a = b ∧ T'.get 4 = some (.bool false))) := by
  obtain ⟨rfl, t0, t1, t12, j, t13, hm, htk⟩ := hI
  by_cases c1 : (j : Int) < (a.length : Int)
  rotate_left
  · simp -implicitDefEqProofs -dsimp (maxSteps := 10000000) only [af32_l0, ↓kS, after_some, br_true, br_false, kC, ↓kQ, ↓Option.bind_some, ↓Option.map_some, ↓cond_true, ↓cond_false, evC, evOp, XO.lit, setArgs, Tr.get_set, Option.bind_some, Option.map_some, cond_true, cond_false, maxI, maxFrom, minI, minFrom, aConv, aBinE, aEq, eqScal, aUn, evRes, fin, oneOf, if_true, if_false, callee, reduceCtorEq, Nat.reduceEqDiff, List.getElem?_cons_zero, List.getElem?_cons_succ, beq_self_eq_true, gt_iff_lt, List.head?_cons, AV.undef, eq_self, ne_eq, Int.reduceLT, Int.reduceLE, Int.reduceToNat, Int.reduceEq, Int.reduceNeg, Nat.reduceAdd, Nat.reduceLT, Nat.reduceLeDiff, Nat.reduceMul, Nat.reduceSub, kM, AV.cells, AV.tup, List.drop_nil, List.append_nil, rdO, St.wr, List.length_cons, List.length_nil, List.take_succ_cons, List.take_zero, List.drop_succ_cons, List.drop_zero, List.cons_append, List.nil_append, Nat.reduceMul, t12, t13, c1]
    rw [List.take_of_length_le (by omega), List.take_of_length_le (by omega)] at htk
    exact .inl htk
  have hj : j < a.length := by omega
  have hj' : j < b.length := by omega
  obtain ⟨oa, va, ia, rfl, rfl, _⟩ := ha.some_ (by omega)
  obtain ⟨ob, vb, ib, rfl, rfl, _⟩ := hb.some_ (by omega)
  have hix : ixOf (.int .i64 (j : Int)) a.length = some j := by rw [ix_ok (by omega) c1]; rfl
  have hix' : ixOf (.int .i64 (j : Int)) b.length = some j := by rw [ix_ok (by omega) (by omega)]; rfl
  have wj : IntKind.i64.wrap ((j : Int) + 1) = ((j + 1 : Nat) : Int) := w64_id (by omega) (by omega)
  have za := ha.get hj
  have zb := hb.get hj'
  by_cases c2 : a[j] = b[j]
  · have c2' : (((a[j] : Nat) : Int) = ((b[j] : Nat) : Int)) = True := eq_true (by rw [c2])
    simp -implicitDefEqProofs -dsimp (maxSteps := 10000000) only [af32_l0, ↓kS, after_some, br_true, br_false, kC, ↓kQ, ↓Option.bind_some, ↓Option.map_some, ↓cond_true, ↓cond_false, evC, evOp, XO.lit, setArgs, Tr.get_set, Option.bind_some, Option.map_some, cond_true, cond_false, maxI, maxFrom, minI, minFrom, aConv, aBinE, aEq, eqScal, aUn, evRes, fin, oneOf, if_true, if_false, callee, reduceCtorEq, Nat.reduceEqDiff, List.getElem?_cons_zero, List.getElem?_cons_succ, beq_self_eq_true, gt_iff_lt, List.head?_cons, AV.undef, eq_self, ne_eq, Int.reduceLT, Int.reduceLE, Int.reduceToNat, Int.reduceEq, Int.reduceNeg, Nat.reduceAdd, Nat.reduceLT, Nat.reduceLeDiff, Nat.reduceMul, Nat.reduceSub, ↓evDraw_nil, bir, putD, evDraw, trace, List.all_cons, List.all_nil, chk, stAt, again, sameV, sameL, sameA, AV.undef, Bool.and_self, Bool.and_true, decide_eq_true_eq, List.getElem?_nil, kM, AV.cells, AV.tup, List.drop_nil, List.append_nil, rdO, St.wr, List.length_cons, List.length_nil, List.take_succ_cons, List.take_zero, List.drop_succ_cons, List.drop_zero, List.cons_append, List.nil_append, Nat.reduceMul, t0, t1, t12, t13, c1, hix, hix', Nat.mul_one, za, zb, c2', wj]
    refine ⟨m - 1, ⟨rfl, ?_, ?_, ?_, j + 1, ?_, by omega, take_eq hj hj' htk c2⟩, by show m - 1 < m; omega⟩ <;> simp only [Tr.get_set, Nat.reduceEqDiff, if_false, if_true, t0, t1, t12]
  · have c2' : ¬ (((a[j] : Nat) : Int) = ((b[j] : Nat) : Int)) := fun h => c2 (by omega)
    simp -implicitDefEqProofs -dsimp (maxSteps := 10000000) only [af32_l0, ↓kS, after_some, br_true, br_false, kC, ↓kQ, ↓Option.bind_some, ↓Option.map_some, ↓cond_true, ↓cond_false, evC, evOp, XO.lit, setArgs, Tr.get_set, Option.bind_some, Option.map_some, cond_true, cond_false, maxI, maxFrom, minI, minFrom, aConv, aBinE, aEq, eqScal, aUn, evRes, fin, oneOf, if_true, if_false, callee, reduceCtorEq, Nat.reduceEqDiff, List.getElem?_cons_zero, List.getElem?_cons_succ, beq_self_eq_true, gt_iff_lt, List.head?_cons, AV.undef, eq_self, ne_eq, Int.reduceLT, Int.reduceLE, Int.reduceToNat, Int.reduceEq, Int.reduceNeg, Nat.reduceAdd, Nat.reduceLT, Nat.reduceLeDiff, Nat.reduceMul, Nat.reduceSub, ↓evDraw_nil, bir, putD, evDraw, trace, List.all_cons, List.all_nil, chk, stAt, again, sameV, sameL, sameA, AV.undef, Bool.and_self, Bool.and_true, decide_eq_true_eq, List.getElem?_nil, kM, AV.cells, AV.tup, List.drop_nil, List.append_nil, rdO, St.wr, List.length_cons, List.length_nil, List.take_succ_cons, List.take_zero, List.drop_succ_cons, List.drop_zero, List.cons_append, List.nil_append, Nat.reduceMul, t0, t1, t12, t13, c1, hix, hix', Nat.mul_one, za, zb, c2']
    exact .inr (ne_at hj hj' c2)
theorem T32 (k : Nat) {S : St} {pa pb : Option (Nat × Nat × Nat)} {ca cb : Option Nat} {ea eb : Nat} {a b : List Nat} (ha : By S pa ea a) (hb : By S pb eb b) (hn : a.length ≤ 140737488355328) :
    evF Y AP (k + a.length + 2) 32 [.slice pa a.length ea ca, .slice pb b.length eb cb] S = some (.bool (decide (a = b)), S) := by
  suffices hh : ∃ v S', evF Y AP (k + a.length + 2) 32 [.slice pa a.length ea ca, .slice pb b.length eb cb] S = some (v, S') ∧ v = .bool (decide (a = b)) ∧ S' = S by
    obtain ⟨v, S', h1, rfl, rfl⟩ := hh; exact h1
  have m1 := ha.mx; have m2 := hb.mx
  refine evF_goes (af := af32) (k := k + a.length + 1) rfl rfl rfl ?_
  by_cases c1 : a.length = b.length
  · have c1' : ((a.length : Int) = (b.length : Int)) = True := eq_true (by rw [c1])
    simp -implicitDefEqProofs -dsimp (maxSteps := 10000000) only [af32, ↓kS, after_some, br_true, br_false, kC, ↓kQ, ↓Option.bind_some, ↓Option.map_some, ↓cond_true, ↓cond_false, evC, evOp, XO.lit, setArgs, Tr.tabG, Tr.tabS, Tr.tabL, Tr.get_lf, Option.bind_some, Option.map_some, cond_true, cond_false, maxI, maxFrom, minI, minFrom, aConv, aBinE, aEq, eqScal, aUn, evRes, fin, oneOf, if_true, if_false, callee, reduceCtorEq, Nat.reduceEqDiff, List.getElem?_cons_zero, List.getElem?_cons_succ, beq_self_eq_true, gt_iff_lt, List.head?_cons, AV.undef, eq_self, ne_eq, Int.reduceLT, Int.reduceLE, Int.reduceToNat, Int.reduceEq, Int.reduceNeg, Nat.reduceAdd, Nat.reduceLT, Nat.reduceLeDiff, Nat.reduceMul, Nat.reduceSub, m1, m2, c1']
    refine .while (I32 pa pb ca cb ea eb a b S) id a.length ⟨rfl, rfl, rfl, rfl, 0, rfl, by omega, rfl⟩ (by show a.length < k + a.length + 1; omega) fun m2 T2 S2 h2 => (round32 k ha hb c1 hn m2 T2 S2 h2).mono ?_
    intro r T' S' hq
    cases r with
    | normal => exact hq
    | ret =>
      obtain ⟨rfl, ⟨h, _⟩ | ⟨_, h2, t4⟩⟩ := hq
      · cases h
      · simp -implicitDefEqProofs -dsimp (maxSteps := 10000000) only [↓kS, after_some, br_true, br_false, kC, ↓kQ, ↓Option.bind_some, ↓Option.map_some, ↓cond_true, ↓cond_false, evC, evOp, XO.lit, setArgs, Tr.get_set, Option.bind_some, Option.map_some, cond_true, cond_false, maxI, maxFrom, minI, minFrom, aConv, aBinE, aEq, eqScal, aUn, evRes, fin, oneOf, if_true, if_false, callee, reduceCtorEq, Nat.reduceEqDiff, List.getElem?_cons_zero, List.getElem?_cons_succ, beq_self_eq_true, gt_iff_lt, List.head?_cons, AV.undef, eq_self, ne_eq, Int.reduceLT, Int.reduceLE, Int.reduceToNat, Int.reduceEq, Int.reduceNeg, Nat.reduceAdd, Nat.reduceLT, Nat.reduceLeDiff, Nat.reduceMul, Nat.reduceSub, t4]
        exact ⟨_, _, rfl, by rw [decide_eq_false h2], rfl⟩
    | exit i =>
      obtain ⟨rfl, ⟨h, h2⟩ | ⟨h, _⟩⟩ := hq
      · cases h
        simp -implicitDefEqProofs -dsimp (maxSteps := 10000000) only [↓kS, after_some, br_true, br_false, kC, ↓kQ, ↓Option.bind_some, ↓Option.map_some, ↓cond_true, ↓cond_false, evC, evOp, XO.lit, setArgs, Tr.get_set, Option.bind_some, Option.map_some, cond_true, cond_false, maxI, maxFrom, minI, minFrom, aConv, aBinE, aEq, eqScal, aUn, evRes, fin, oneOf, if_true, if_false, callee, reduceCtorEq, Nat.reduceEqDiff, List.getElem?_cons_zero, List.getElem?_cons_succ, beq_self_eq_true, gt_iff_lt, List.head?_cons, AV.undef, eq_self, ne_eq, Int.reduceLT, Int.reduceLE, Int.reduceToNat, Int.reduceEq, Int.reduceNeg, Nat.reduceAdd, Nat.reduceLT, Nat.reduceLeDiff, Nat.reduceMul, Nat.reduceSub]
        exact ⟨_, _, rfl, by rw [decide_eq_true h2], rfl⟩
      · cases h
  · have c1' : ¬ (a.length : Int) = (b.length : Int) := by omega
    have h2 : ¬ a = b := fun h => c1 (by rw [h])
    simp -implicitDefEqProofs -dsimp (maxSteps := 10000000) only [af32, ↓kS, after_some, br_true, br_false, kC, ↓kQ, ↓Option.bind_some, ↓Option.map_some, ↓cond_true, ↓cond_false, evC, evOp, XO.lit, setArgs, Tr.tabG, Tr.tabS, Tr.tabL, Tr.get_lf, Option.bind_some, Option.map_some, cond_true, cond_false, maxI, maxFrom, minI, minFrom, aConv, aBinE, aEq, eqScal, aUn, evRes, fin, oneOf, if_true, if_false, callee, reduceCtorEq, Nat.reduceEqDiff, List.getElem?_cons_zero, List.getElem?_cons_succ, beq_self_eq_true, gt_iff_lt, List.head?_cons, AV.undef, eq_self, ne_eq, Int.reduceLT, Int.reduceLE, Int.reduceToNat, Int.reduceEq, Int.reduceNeg, Nat.reduceAdd, Nat.reduceLT, Nat.reduceLeDiff, Nat.reduceMul, Nat.reduceSub, m1, m2, c1']
    exact ⟨_, _, rfl, by rw [decide_eq_false h2], rfl⟩
theorem ne1 (n : Nat) : (n = n + 1) = False := by simp
theorem ne1' (n : Nat) : (n + 1 = n) = False := by simp
set_option maxHeartbeats 16000000 in
theorem T16 (k : Nat) {S : St} {p q : Pk} {c e l c' e' l' : AV} (h : Pv S p c e l) (h' : Pv S q c' e' l') :
    ∃ S', evF Y AP (k + p.cs.length + p.ex.length + p.pl.length + 4) 16 [.agg (pkc p c e l), .agg (pkc q c' e' l')] S = some (.bool (decide (p = q)), S') ∧ Ext S S' := by
  suffices hh : ∃ v S', evF Y AP (k + p.cs.length + p.ex.length + p.pl.length + 4) 16 [.agg (pkc p c e l), .agg (pkc q c' e' l')] S = some (v, S') ∧ v = .bool (decide (p = q)) ∧ Ext S S' by
    obtain ⟨v, S', h1, rfl, h2⟩ := hh; exact ⟨S', h1, h2⟩
  obtain ⟨A, hA⟩ : ∃ A, (S.alloc (.cells (pkc p c e l) 0 0 true)).alloc (.cells (pkc q c' e' l') 0 0 true) = A := ⟨_, rfl⟩
  have eA : Ext S A := by rw [← hA]; exact (Ext.alloc _ _).then_alloc _
  have nA : A.next = S.next + 2 := by rw [← hA]; rfl
  have r1 : ∀ v i m, A.rd S.next v i m = rdO (.cells (pkc p c e l) 0 0 true) v i m := rd_of (by rw [← hA, St.get_alloc, if_neg (by show ¬ S.next = S.next + 1; omega), St.get_alloc, if_pos rfl])
  have r2 : ∀ v i m, A.rd (S.next + 1) v i m = rdO (.cells (pkc q c' e' l') 0 0 true) v i m := rd_of (by rw [← hA, St.get_alloc]; exact if_pos rfl)
  obtain ⟨⟨pc, ec, cc, rfl, hc⟩, ⟨pe, ee, ce, rfl, he⟩, ⟨pl, el, cl, rfl, hl⟩, _, _, _, _, _, l1, l2, l3⟩ := h
  obtain ⟨⟨pc', ec', cc', rfl, hc'⟩, ⟨pe', ee', ce', rfl, he'⟩, ⟨pl', el', cl', rfl, hl'⟩, _, _, _, _, _, l1', l2', l3'⟩ := h'
  have m1 := hc.mx; have m2 := hc'.mx
  have kf : k + p.cs.length + p.ex.length + p.pl.length + 3 = k + p.cs.length + p.ex.length + p.pl.length + 3 := rfl
  have q31 : evF Y AP (k + p.cs.length + p.ex.length + p.pl.length + 3) 31 [.slice pc p.cs.length ec cc, .slice pc' q.cs.length ec' cc'] A = some (.bool (decide (p.cs = q.cs)), A) := by
    have := T31 (k + p.ex.length + p.pl.length + 1) (ca := cc) (cb := cc') (hc.ext eA) (hc'.ext eA) (by omega)
    rwa [show k + p.ex.length + p.pl.length + 1 + p.cs.length + 2 = k + p.cs.length + p.ex.length + p.pl.length + 3 by omega] at this
  have q32 : evF Y AP (k + p.cs.length + p.ex.length + p.pl.length + 3) 32 [.slice pe p.ex.length ee ce, .slice pe' q.ex.length ee' ce'] A = some (.bool (decide (p.ex = q.ex)), A) := by
    have := T32 (k + p.cs.length + p.pl.length + 1) (ca := ce) (cb := ce') (he.ext eA) (he'.ext eA) (by omega)
    rwa [show k + p.cs.length + p.pl.length + 1 + p.ex.length + 2 = k + p.cs.length + p.ex.length + p.pl.length + 3 by omega] at this
  have q33 : evF Y AP (k + p.cs.length + p.ex.length + p.pl.length + 3) 32 [.slice pl p.pl.length el cl, .slice pl' q.pl.length el' cl'] A = some (.bool (decide (p.pl = q.pl)), A) := by
    have := T32 (k + p.cs.length + p.ex.length + 1) (ca := cl) (cb := cl') (hl.ext eA) (hl'.ext eA) (by omega)
    rwa [show k + p.cs.length + p.ex.length + 1 + p.pl.length + 2 = k + p.cs.length + p.ex.length + p.pl.length + 3 by omega] at this
  obtain ⟨K, hK⟩ : ∃ K, k + p.cs.length + p.ex.length + p.pl.length + 3 = K := ⟨_, rfl⟩
  rw [hK] at q31 q32 q33
  show ∃ v S', evF Y AP (k + p.cs.length + p.ex.length + p.pl.length + 3 + 1) 16 _ S = some (v, S') ∧ _
  rw [hK]
  refine evF_goes (af := af16) (k := K) rfl rfl rfl ?_
  by_cases emrk : p.mrk = q.mrk
  rotate_left
  · have hne : ¬ p = q := fun h => emrk (by rw [h])
    rw [decide_eq_false hne]
    have fmrk : (p.mrk == q.mrk) = false := by cases h1 : p.mrk <;> cases h2 : q.mrk <;> simp_all
    simp -implicitDefEqProofs -dsimp (maxSteps := 10000000) only [af16, ↓kS, after_some, br_true, br_false, kC, ↓kQ, ↓Option.bind_some, ↓Option.map_some, ↓cond_true, ↓cond_false, evC, evOp, XO.lit, setArgs, Tr.tabG, Tr.tabS, Tr.tabL, Tr.get_lf, Option.bind_some, Option.map_some, cond_true, cond_false, maxI, maxFrom, minI, minFrom, aConv, aBinE, aEq, eqScal, aUn, evRes, fin, oneOf, if_true, if_false, callee, reduceCtorEq, Nat.reduceEqDiff, List.getElem?_cons_zero, List.getElem?_cons_succ, beq_self_eq_true, gt_iff_lt, List.head?_cons, AV.undef, eq_self, ne_eq, Int.reduceLT, Int.reduceLE, Int.reduceToNat, Int.reduceEq, Int.reduceNeg, Nat.reduceAdd, Nat.reduceLT, Nat.reduceLeDiff, Nat.reduceMul, Nat.reduceSub, ↓evDraw_nil, bir, putD, evDraw, trace, List.all_cons, List.all_nil, chk, stAt, again, sameV, sameL, sameA, AV.undef, Bool.and_self, Bool.and_true, decide_eq_true_eq, List.getElem?_nil, kM, AV.cells, AV.tup, List.drop_nil, List.append_nil, rdO, St.wr, List.length_cons, List.length_nil, List.take_succ_cons, List.take_zero, List.drop_succ_cons, List.drop_zero, List.cons_append, List.nil_append, Nat.reduceMul, aFill, evParts, rep, List.replicate_succ, List.replicate_zero, List.flatten_cons, List.flatten_nil, List.append_nil, newSl, newVar, ne1, ne1', hA, r1, r2, aBinE, aEq, eqScal, m1, m2, fmrk]
    exact ⟨_, _, rfl, rfl, eA⟩
  have fmrk : (p.mrk == q.mrk) = true := by rw [emrk]; cases q.mrk <;> rfl
  by_cases ety : p.ty = q.ty
  rotate_left
  · have hne : ¬ p = q := fun h => ety (by rw [h])
    rw [decide_eq_false hne]
    simp -implicitDefEqProofs -dsimp (maxSteps := 10000000) only [af16, ↓kS, after_some, br_true, br_false, kC, ↓kQ, ↓Option.bind_some, ↓Option.map_some, ↓cond_true, ↓cond_false, evC, evOp, XO.lit, setArgs, Tr.tabG, Tr.tabS, Tr.tabL, Tr.get_lf, Option.bind_some, Option.map_some, cond_true, cond_false, maxI, maxFrom, minI, minFrom, aConv, aBinE, aEq, eqScal, aUn, evRes, fin, oneOf, if_true, if_false, callee, reduceCtorEq, Nat.reduceEqDiff, List.getElem?_cons_zero, List.getElem?_cons_succ, beq_self_eq_true, gt_iff_lt, List.head?_cons, AV.undef, eq_self, ne_eq, Int.reduceLT, Int.reduceLE, Int.reduceToNat, Int.reduceEq, Int.reduceNeg, Nat.reduceAdd, Nat.reduceLT, Nat.reduceLeDiff, Nat.reduceMul, Nat.reduceSub, ↓evDraw_nil, bir, putD, evDraw, trace, List.all_cons, List.all_nil, chk, stAt, again, sameV, sameL, sameA, AV.undef, Bool.and_self, Bool.and_true, decide_eq_true_eq, List.getElem?_nil, kM, AV.cells, AV.tup, List.drop_nil, List.append_nil, rdO, St.wr, List.length_cons, List.length_nil, List.take_succ_cons, List.take_zero, List.drop_succ_cons, List.drop_zero, List.cons_append, List.nil_append, Nat.reduceMul, aFill, evParts, rep, List.replicate_succ, List.replicate_zero, List.flatten_cons, List.flatten_nil, List.append_nil, newSl, newVar, ne1, ne1', hA, r1, r2, aBinE, aEq, eqScal, m1, m2, fmrk, ety]
    exact ⟨_, _, rfl, rfl, eA⟩
  have fty := eq_true ety
  by_cases esq : p.sq = q.sq
  rotate_left
  · have hne : ¬ p = q := fun h => esq (by rw [h])
    rw [decide_eq_false hne]
    simp -implicitDefEqProofs -dsimp (maxSteps := 10000000) only [af16, ↓kS, after_some, br_true, br_false, kC, ↓kQ, ↓Option.bind_some, ↓Option.map_some, ↓cond_true, ↓cond_false, evC, evOp, XO.lit, setArgs, Tr.tabG, Tr.tabS, Tr.tabL, Tr.get_lf, Option.bind_some, Option.map_some, cond_true, cond_false, maxI, maxFrom, minI, minFrom, aConv, aBinE, aEq, eqScal, aUn, evRes, fin, oneOf, if_true, if_false, callee, reduceCtorEq, Nat.reduceEqDiff, List.getElem?_cons_zero, List.getElem?_cons_succ, beq_self_eq_true, gt_iff_lt, List.head?_cons, AV.undef, eq_self, ne_eq, Int.reduceLT, Int.reduceLE, Int.reduceToNat, Int.reduceEq, Int.reduceNeg, Nat.reduceAdd, Nat.reduceLT, Nat.reduceLeDiff, Nat.reduceMul, Nat.reduceSub, ↓evDraw_nil, bir, putD, evDraw, trace, List.all_cons, List.all_nil, chk, stAt, again, sameV, sameL, sameA, AV.undef, Bool.and_self, Bool.and_true, decide_eq_true_eq, List.getElem?_nil, kM, AV.cells, AV.tup, List.drop_nil, List.append_nil, rdO, St.wr, List.length_cons, List.length_nil, List.take_succ_cons, List.take_zero, List.drop_succ_cons, List.drop_zero, List.cons_append, List.nil_append, Nat.reduceMul, aFill, evParts, rep, List.replicate_succ, List.replicate_zero, List.flatten_cons, List.flatten_nil, List.append_nil, newSl, newVar, ne1, ne1', hA, r1, r2, aBinE, aEq, eqScal, m1, m2, fmrk, fty, esq]
    exact ⟨_, _, rfl, rfl, eA⟩
  have fsq := eq_true esq
  by_cases etm : p.tm = q.tm
  rotate_left
  · have hne : ¬ p = q := fun h => etm (by rw [h])
    rw [decide_eq_false hne]
    simp -implicitDefEqProofs -dsimp (maxSteps := 10000000) only [af16, ↓kS, after_some, br_true, br_false, kC, ↓kQ, ↓Option.bind_some, ↓Option.map_some, ↓cond_true, ↓cond_false, evC, evOp, XO.lit, setArgs, Tr.tabG, Tr.tabS, Tr.tabL, Tr.get_lf, Option.bind_some, Option.map_some, cond_true, cond_false, maxI, maxFrom, minI, minFrom, aConv, aBinE, aEq, eqScal, aUn, evRes, fin, oneOf, if_true, if_false, callee, reduceCtorEq, Nat.reduceEqDiff, List.getElem?_cons_zero, List.getElem?_cons_succ, beq_self_eq_true, gt_iff_lt, List.head?_cons, AV.undef, eq_self, ne_eq, Int.reduceLT, Int.reduceLE, Int.reduceToNat, Int.reduceEq, Int.reduceNeg, Nat.reduceAdd, Nat.reduceLT, Nat.reduceLeDiff, Nat.reduceMul, Nat.reduceSub, ↓evDraw_nil, bir, putD, evDraw, trace, List.all_cons, List.all_nil, chk, stAt, again, sameV, sameL, sameA, AV.undef, Bool.and_self, Bool.and_true, decide_eq_true_eq, List.getElem?_nil, kM, AV.cells, AV.tup, List.drop_nil, List.append_nil, rdO, St.wr, List.length_cons, List.length_nil, List.take_succ_cons, List.take_zero, List.drop_succ_cons, List.drop_zero, List.cons_append, List.nil_append, Nat.reduceMul, aFill, evParts, rep, List.replicate_succ, List.replicate_zero, List.flatten_cons, List.flatten_nil, List.append_nil, newSl, newVar, ne1, ne1', hA, r1, r2, aBinE, aEq, eqScal, m1, m2, fmrk, fty, fsq, etm]
    exact ⟨_, _, rfl, rfl, eA⟩
  have ftm := eq_true etm
  by_cases ess : p.ss = q.ss
  rotate_left
  · have hne : ¬ p = q := fun h => ess (by rw [h])
    rw [decide_eq_false hne]
    simp -implicitDefEqProofs -dsimp (maxSteps := 10000000) only [af16, ↓kS, after_some, br_true, br_false, kC, ↓kQ, ↓Option.bind_some, ↓Option.map_some, ↓cond_true, ↓cond_false, evC, evOp, XO.lit, setArgs, Tr.tabG, Tr.tabS, Tr.tabL, Tr.get_lf, Option.bind_some, Option.map_some, cond_true, cond_false, maxI, maxFrom, minI, minFrom, aConv, aBinE, aEq, eqScal, aUn, evRes, fin, oneOf, if_true, if_false, callee, reduceCtorEq, Nat.reduceEqDiff, List.getElem?_cons_zero, List.getElem?_cons_succ, beq_self_eq_true, gt_iff_lt, List.head?_cons, AV.undef, eq_self, ne_eq, Int.reduceLT, Int.reduceLE, Int.reduceToNat, Int.reduceEq, Int.reduceNeg, Nat.reduceAdd, Nat.reduceLT, Nat.reduceLeDiff, Nat.reduceMul, Nat.reduceSub, ↓evDraw_nil, bir, putD, evDraw, trace, List.all_cons, List.all_nil, chk, stAt, again, sameV, sameL, sameA, AV.undef, Bool.and_self, Bool.and_true, decide_eq_true_eq, List.getElem?_nil, kM, AV.cells, AV.tup, List.drop_nil, List.append_nil, rdO, St.wr, List.length_cons, List.length_nil, List.take_succ_cons, List.take_zero, List.drop_succ_cons, List.drop_zero, List.cons_append, List.nil_append, Nat.reduceMul, aFill, evParts, rep, List.replicate_succ, List.replicate_zero, List.flatten_cons, List.flatten_nil, List.append_nil, newSl, newVar, ne1, ne1', hA, r1, r2, aBinE, aEq, eqScal, m1, m2, fmrk, fty, fsq, ftm, ess]
    exact ⟨_, _, rfl, rfl, eA⟩
  have fss := eq_true ess
  by_cases ecs : p.cs = q.cs
  rotate_left
  · have hne : ¬ p = q := fun h => ecs (by rw [h])
    rw [decide_eq_false hne]
    rw [decide_eq_false ecs] at q31
    simp -implicitDefEqProofs -dsimp (maxSteps := 10000000) only [af16, ↓kS, after_some, br_true, br_false, kC, ↓kQ, ↓Option.bind_some, ↓Option.map_some, ↓cond_true, ↓cond_false, evC, evOp, XO.lit, setArgs, Tr.tabG, Tr.tabS, Tr.tabL, Tr.get_lf, Option.bind_some, Option.map_some, cond_true, cond_false, maxI, maxFrom, minI, minFrom, aConv, aBinE, aEq, eqScal, aUn, evRes, fin, oneOf, if_true, if_false, callee, reduceCtorEq, Nat.reduceEqDiff, List.getElem?_cons_zero, List.getElem?_cons_succ, beq_self_eq_true, gt_iff_lt, List.head?_cons, AV.undef, eq_self, ne_eq, Int.reduceLT, Int.reduceLE, Int.reduceToNat, Int.reduceEq, Int.reduceNeg, Nat.reduceAdd, Nat.reduceLT, Nat.reduceLeDiff, Nat.reduceMul, Nat.reduceSub, ↓evDraw_nil, bir, putD, evDraw, trace, List.all_cons, List.all_nil, chk, stAt, again, sameV, sameL, sameA, AV.undef, Bool.and_self, Bool.and_true, decide_eq_true_eq, List.getElem?_nil, kM, AV.cells, AV.tup, List.drop_nil, List.append_nil, rdO, St.wr, List.length_cons, List.length_nil, List.take_succ_cons, List.take_zero, List.drop_succ_cons, List.drop_zero, List.cons_append, List.nil_append, Nat.reduceMul, aFill, evParts, rep, List.replicate_succ, List.replicate_zero, List.flatten_cons, List.flatten_nil, List.append_nil, newSl, newVar, ne1, ne1', hA, r1, r2, aBinE, aEq, eqScal, m1, m2, fmrk, fty, fsq, ftm, fss, q31]
    exact ⟨_, _, rfl, rfl, eA⟩
  rw [decide_eq_true ecs] at q31
  by_cases epf : p.pf = q.pf
  rotate_left
  · have hne : ¬ p = q := fun h => epf (by rw [h])
    rw [decide_eq_false hne]
    simp -implicitDefEqProofs -dsimp (maxSteps := 10000000) only [af16, ↓kS, after_some, br_true, br_false, kC, ↓kQ, ↓Option.bind_some, ↓Option.map_some, ↓cond_true, ↓cond_false, evC, evOp, XO.lit, setArgs, Tr.tabG, Tr.tabS, Tr.tabL, Tr.get_lf, Option.bind_some, Option.map_some, cond_true, cond_false, maxI, maxFrom, minI, minFrom, aConv, aBinE, aEq, eqScal, aUn, evRes, fin, oneOf, if_true, if_false, callee, reduceCtorEq, Nat.reduceEqDiff, List.getElem?_cons_zero, List.getElem?_cons_succ, beq_self_eq_true, gt_iff_lt, List.head?_cons, AV.undef, eq_self, ne_eq, Int.reduceLT, Int.reduceLE, Int.reduceToNat, Int.reduceEq, Int.reduceNeg, Nat.reduceAdd, Nat.reduceLT, Nat.reduceLeDiff, Nat.reduceMul, Nat.reduceSub, ↓evDraw_nil, bir, putD, evDraw, trace, List.all_cons, List.all_nil, chk, stAt, again, sameV, sameL, sameA, AV.undef, Bool.and_self, Bool.and_true, decide_eq_true_eq, List.getElem?_nil, kM, AV.cells, AV.tup, List.drop_nil, List.append_nil, rdO, St.wr, List.length_cons, List.length_nil, List.take_succ_cons, List.take_zero, List.drop_succ_cons, List.drop_zero, List.cons_append, List.nil_append, Nat.reduceMul, aFill, evParts, rep, List.replicate_succ, List.replicate_zero, List.flatten_cons, List.flatten_nil, List.append_nil, newSl, newVar, ne1, ne1', hA, r1, r2, aBinE, aEq, eqScal, m1, m2, fmrk, fty, fsq, ftm, fss, q31, epf]
    exact ⟨_, _, rfl, rfl, eA⟩
  have fpf := eq_true epf
  by_cases eex : p.ex = q.ex
  rotate_left
  · have hne : ¬ p = q := fun h => eex (by rw [h])
    rw [decide_eq_false hne]
    rw [decide_eq_false eex] at q32
    simp -implicitDefEqProofs -dsimp (maxSteps := 10000000) only [af16, ↓kS, after_some, br_true, br_false, kC, ↓kQ, ↓Option.bind_some, ↓Option.map_some, ↓cond_true, ↓cond_false, evC, evOp, XO.lit, setArgs, Tr.tabG, Tr.tabS, Tr.tabL, Tr.get_lf, Option.bind_some, Option.map_some, cond_true, cond_false, maxI, maxFrom, minI, minFrom, aConv, aBinE, aEq, eqScal, aUn, evRes, fin, oneOf, if_true, if_false, callee, reduceCtorEq, Nat.reduceEqDiff, List.getElem?_cons_zero, List.getElem?_cons_succ, beq_self_eq_true, gt_iff_lt, List.head?_cons, AV.undef, eq_self, ne_eq, Int.reduceLT, Int.reduceLE, Int.reduceToNat, Int.reduceEq, Int.reduceNeg, Nat.reduceAdd, Nat.reduceLT, Nat.reduceLeDiff, Nat.reduceMul, Nat.reduceSub, ↓evDraw_nil, bir, putD, evDraw, trace, List.all_cons, List.all_nil, chk, stAt, again, sameV, sameL, sameA, AV.undef, Bool.and_self, Bool.and_true, decide_eq_true_eq, List.getElem?_nil, kM, AV.cells, AV.tup, List.drop_nil, List.append_nil, rdO, St.wr, List.length_cons, List.length_nil, List.take_succ_cons, List.take_zero, List.drop_succ_cons, List.drop_zero, List.cons_append, List.nil_append, Nat.reduceMul, aFill, evParts, rep, List.replicate_succ, List.replicate_zero, List.flatten_cons, List.flatten_nil, List.append_nil, newSl, newVar, ne1, ne1', hA, r1, r2, aBinE, aEq, eqScal, m1, m2, fmrk, fty, fsq, ftm, fss, q31, fpf, q32]
    exact ⟨_, _, rfl, rfl, eA⟩
  rw [decide_eq_true eex] at q32
  by_cases epl : p.pl = q.pl
  rotate_left
  · have hne : ¬ p = q := fun h => epl (by rw [h])
    rw [decide_eq_false hne]
    rw [decide_eq_false epl] at q33
    simp -implicitDefEqProofs -dsimp (maxSteps := 10000000) only [af16, ↓kS, after_some, br_true, br_false, kC, ↓kQ, ↓Option.bind_some, ↓Option.map_some, ↓cond_true, ↓cond_false, evC, evOp, XO.lit, setArgs, Tr.tabG, Tr.tabS, Tr.tabL, Tr.get_lf, Option.bind_some, Option.map_some, cond_true, cond_false, maxI, maxFrom, minI, minFrom, aConv, aBinE, aEq, eqScal, aUn, evRes, fin, oneOf, if_true, if_false, callee, reduceCtorEq, Nat.reduceEqDiff, List.getElem?_cons_zero, List.getElem?_cons_succ, beq_self_eq_true, gt_iff_lt, List.head?_cons, AV.undef, eq_self, ne_eq, Int.reduceLT, Int.reduceLE, Int.reduceToNat, Int.reduceEq, Int.reduceNeg, Nat.reduceAdd, Nat.reduceLT, Nat.reduceLeDiff, Nat.reduceMul, Nat.reduceSub, ↓evDraw_nil, bir, putD, evDraw, trace, List.all_cons, List.all_nil, chk, stAt, again, sameV, sameL, sameA, AV.undef, Bool.and_self, Bool.and_true, decide_eq_true_eq, List.getElem?_nil, kM, AV.cells, AV.tup, List.drop_nil, List.append_nil, rdO, St.wr, List.length_cons, List.length_nil, List.take_succ_cons, List.take_zero, List.drop_succ_cons, List.drop_zero, List.cons_append, List.nil_append, Nat.reduceMul, aFill, evParts, rep, List.replicate_succ, List.replicate_zero, List.flatten_cons, List.flatten_nil, List.append_nil, newSl, newVar, ne1, ne1', hA, r1, r2, aBinE, aEq, eqScal, m1, m2, fmrk, fty, fsq, ftm, fss, q31, fpf, q32, q33]
    exact ⟨_, _, rfl, rfl, eA⟩
  rw [decide_eq_true epl] at q33
  have hpq : p = q := by cases p; cases q; simp_all
  rw [decide_eq_true hpq]
  simp -implicitDefEqProofs -dsimp (maxSteps := 10000000) only [af16, ↓kS, after_some, br_true, br_false, kC, ↓kQ, ↓Option.bind_some, ↓Option.map_some, ↓cond_true, ↓cond_false, evC, evOp, XO.lit, setArgs, Tr.tabG, Tr.tabS, Tr.tabL, Tr.get_lf, Option.bind_some, Option.map_some, cond_true, cond_false, maxI, maxFrom, minI, minFrom, aConv, aBinE, aEq, eqScal, aUn, evRes, fin, oneOf, if_true, if_false, callee, reduceCtorEq, Nat.reduceEqDiff, List.getElem?_cons_zero, List.getElem?_cons_succ, beq_self_eq_true, gt_iff_lt, List.head?_cons, AV.undef, eq_self, ne_eq, Int.reduceLT, Int.reduceLE, Int.reduceToNat, Int.reduceEq, Int.reduceNeg, Nat.reduceAdd, Nat.reduceLT, Nat.reduceLeDiff, Nat.reduceMul, Nat.reduceSub, ↓evDraw_nil, bir, putD, evDraw, trace, List.all_cons, List.all_nil, chk, stAt, again, sameV, sameL, sameA, AV.undef, Bool.and_self, Bool.and_true, decide_eq_true_eq, List.getElem?_nil, kM, AV.cells, AV.tup, List.drop_nil, List.append_nil, rdO, St.wr, List.length_cons, List.length_nil, List.take_succ_cons, List.take_zero, List.drop_succ_cons, List.drop_zero, List.cons_append, List.nil_append, Nat.reduceMul, aFill, evParts, rep, List.replicate_succ, List.replicate_zero, List.flatten_cons, List.flatten_nil, List.append_nil, newSl, newVar, ne1, ne1', hA, r1, r2, aBinE, aEq, eqScal, m1, m2, fmrk, fty, fsq, ftm, fss, q31, fpf, q32, q33]
  exact ⟨_, _, rfl, rfl, eA⟩
structure I17 (o1 o2 n : Nat) (a b : List Int) (Sb : St) (m : Nat) (T : Tm) (S : St) : Prop where
  st : S = Sb
  t2 : T.get 2 = some (.ptr (some ⟨o1, 0, 0, 9⟩))
  t3 : T.get 3 = some (.ptr (some ⟨o2, 0, 0, 9⟩))
  t75 : T.get 75 = some (.int .i64 a.length)
  more : ∃ j : Nat, T.get 76 = some (.int .i64 j) ∧ j + m = a.length ∧ a.take j = b.take j
set_option maxHeartbeats 4000000 in
theorem round17 (k : Nat) {o1 o2 : Nat} {p q : Pk} {pa pb : Option (Nat × Nat × Nat)} {ca cb : Option Nat} {ea eb : Nat} {xe xl ye yl : AV} {Sb : St} (ha : Ur Sb pa ea p.cs) (hb : Ur Sb pb eb q.cs) (hab : p.cs.length = q.cs.length) (hn : p.cs.length ≤ 140737488355328)
    (r1 : ∀ v i m, Sb.rd o1 v i m = rdO (.cells (pkc p (.slice pa p.cs.length ea ca) xe xl) 0 0 true) v i m) (r2 : ∀ v i m, Sb.rd o2 v i m = rdO (.cells (pkc q (.slice pb q.cs.length eb cb) ye yl) 0 0 true) v i m) (m : Nat) (T : Tm) (S : St) (hI : I17 o1 o2 0 p.cs q.cs Sb m T S) :
    Goes (evF Y AP k) (k) af17_l0 T S (Then (fun T' S' => ∃ m', I17 o1 o2 0 p.cs q.cs Sb m' T' S' ∧ id m' < id m) fun r T' S' => S' = Sb ∧ (r = .exit 0 ∧ p.cs = q.cs ∨ r = .ret ∧ ¬ p.cs = q.cs ∧ T'.get 4 = some (.bool false))) := by
  obtain ⟨rfl, t2, t3, t75, j, t76, hm, htk⟩ := hI
  by_cases c1 : (j : Int) < (p.cs.length : Int)
  rotate_left
  · simp -implicitDefEqProofs -dsimp (maxSteps := 10000000) only [af17_l0, ↓kS, after_some, br_true, br_false, kC, ↓kQ, ↓Option.bind_some, ↓Option.map_some, ↓cond_true, ↓cond_false, evC, evOp, XO.lit, setArgs, Tr.get_set, Option.bind_some, Option.map_some, cond_true, cond_false, maxI, maxFrom, minI, minFrom, aConv, aBinE, aEq, eqScal, aUn, evRes, fin, oneOf, if_true, if_false, callee, reduceCtorEq, Nat.reduceEqDiff, List.getElem?_cons_zero, List.getElem?_cons_succ, beq_self_eq_true, gt_iff_lt, List.head?_cons, AV.undef, eq_self, ne_eq, Int.reduceLT, Int.reduceLE, Int.reduceToNat, Int.reduceEq, Int.reduceNeg, Nat.reduceAdd, Nat.reduceLT, Nat.reduceLeDiff, Nat.reduceMul, Nat.reduceSub, kM, AV.cells, AV.tup, List.drop_nil, List.append_nil, rdO, St.wr, List.length_cons, List.length_nil, List.take_succ_cons, List.take_zero, List.drop_succ_cons, List.drop_zero, List.cons_append, List.nil_append, Nat.reduceMul, t75, t76, c1]
    rw [List.take_of_length_le (by omega), List.take_of_length_le (by omega)] at htk
    exact .inl htk
  have hj : j < p.cs.length := by omega
  have hj' : j < q.cs.length := by omega
  obtain ⟨oa, va, ia, rfl, rfl, _⟩ := ha.some_ (by omega)
  obtain ⟨ob, vb, ib, rfl, rfl, _⟩ := hb.some_ (by omega)
  have hix : ixOf (.int .i64 (j : Int)) p.cs.length = some j := by rw [ix_ok (by omega) c1]; rfl
  have hix' : ixOf (.int .i64 (j : Int)) q.cs.length = some j := by rw [ix_ok (by omega) (by omega)]; rfl
  have wj : IntKind.i64.wrap ((j : Int) + 1) = ((j + 1 : Nat) : Int) := w64_id (by omega) (by omega)
  have za := ha.get hj
  have zb := hb.get hj'
  by_cases c2 : p.cs[j] = q.cs[j]
  · have c2' : (p.cs[j] = q.cs[j]) = True := eq_true c2
    simp -implicitDefEqProofs -dsimp (maxSteps := 10000000) only [af17_l0, ↓kS, after_some, br_true, br_false, kC, ↓kQ, ↓Option.bind_some, ↓Option.map_some, ↓cond_true, ↓cond_false, evC, evOp, XO.lit, setArgs, Tr.get_set, Option.bind_some, Option.map_some, cond_true, cond_false, maxI, maxFrom, minI, minFrom, aConv, aBinE, aEq, eqScal, aUn, evRes, fin, oneOf, if_true, if_false, callee, reduceCtorEq, Nat.reduceEqDiff, List.getElem?_cons_zero, List.getElem?_cons_succ, beq_self_eq_true, gt_iff_lt, List.head?_cons, AV.undef, eq_self, ne_eq, Int.reduceLT, Int.reduceLE, Int.reduceToNat, Int.reduceEq, Int.reduceNeg, Nat.reduceAdd, Nat.reduceLT, Nat.reduceLeDiff, Nat.reduceMul, Nat.reduceSub, ↓evDraw_nil, bir, putD, evDraw, trace, List.all_cons, List.all_nil, chk, stAt, again, sameV, sameL, sameA, AV.undef, Bool.and_self, Bool.and_true, decide_eq_true_eq, List.getElem?_nil, kM, AV.cells, AV.tup, List.drop_nil, List.append_nil, rdO, St.wr, List.length_cons, List.length_nil, List.take_succ_cons, List.take_zero, List.drop_succ_cons, List.drop_zero, List.cons_append, List.nil_append, Nat.reduceMul, t2, t3, t75, t76, c1, r1, r2, hix, hix', Nat.mul_one, za, zb, c2', wj]
    refine ⟨m - 1, ⟨rfl, ?_, ?_, ?_, j + 1, ?_, by omega, take_eq hj hj' htk c2⟩, by show m - 1 < m; omega⟩ <;> simp only [Tr.get_set, Nat.reduceEqDiff, if_false, if_true, t2, t3, t75]
  · simp -implicitDefEqProofs -dsimp (maxSteps := 10000000) only [af17_l0, ↓kS, after_some, br_true, br_false, kC, ↓kQ, ↓Option.bind_some, ↓Option.map_some, ↓cond_true, ↓cond_false, evC, evOp, XO.lit, setArgs, Tr.get_set, Option.bind_some, Option.map_some, cond_true, cond_false, maxI, maxFrom, minI, minFrom, aConv, aBinE, aEq, eqScal, aUn, evRes, fin, oneOf, if_true, if_false, callee, reduceCtorEq, Nat.reduceEqDiff, List.getElem?_cons_zero, List.getElem?_cons_succ, beq_self_eq_true, gt_iff_lt, List.head?_cons, AV.undef, eq_self, ne_eq, Int.reduceLT, Int.reduceLE, Int.reduceToNat, Int.reduceEq, Int.reduceNeg, Nat.reduceAdd, Nat.reduceLT, Nat.reduceLeDiff, Nat.reduceMul, Nat.reduceSub, ↓evDraw_nil, bir, putD, evDraw, trace, List.all_cons, List.all_nil, chk, stAt, again, sameV, sameL, sameA, AV.undef, Bool.and_self, Bool.and_true, decide_eq_true_eq, List.getElem?_nil, kM, AV.cells, AV.tup, List.drop_nil, List.append_nil, rdO, St.wr, List.length_cons, List.length_nil, List.take_succ_cons, List.take_zero, List.drop_succ_cons, List.drop_zero, List.cons_append, List.nil_append, Nat.reduceMul, t2, t3, t75, t76, c1, r1, r2, hix, hix', Nat.mul_one, za, zb, c2]
    exact .inr (ne_at hj hj' c2)
set_option maxHeartbeats 16000000 in
theorem T17 (k : Nat) {S : St} {p q : Pk} {c e l c' e' l' : AV} (h : Pv S p c e l) (h' : Pv S q c' e' l') :
    ∃ S', evF Y AP (k + p.cs.length + p.ex.length + p.pl.length + 4) 17 [.agg (pkc p c e l), .agg (pkc q c' e' l')] S = some (.bool (decide (p = q)), S') ∧ Ext S S' := by
  suffices hh : ∃ v S', evF Y AP (k + p.cs.length + p.ex.length + p.pl.length + 4) 17 [.agg (pkc p c e l), .agg (pkc q c' e' l')] S = some (v, S') ∧ v = .bool (decide (p = q)) ∧ Ext S S' by
    obtain ⟨v, S', h1, rfl, h2⟩ := hh; exact ⟨S', h1, h2⟩
  obtain ⟨A, hA⟩ : ∃ A, (S.alloc (.cells (pkc p c e l) 0 0 true)).alloc (.cells (pkc q c' e' l') 0 0 true) = A := ⟨_, rfl⟩
  have eA : Ext S A := by rw [← hA]; exact (Ext.alloc _ _).then_alloc _
  have nA : A.next = S.next + 2 := by rw [← hA]; rfl
  have r1 : ∀ v i m, A.rd S.next v i m = rdO (.cells (pkc p c e l) 0 0 true) v i m := rd_of (by rw [← hA, St.get_alloc, if_neg (by show ¬ S.next = S.next + 1; omega), St.get_alloc, if_pos rfl])
  have r2 : ∀ v i m, A.rd (S.next + 1) v i m = rdO (.cells (pkc q c' e' l') 0 0 true) v i m := rd_of (by rw [← hA, St.get_alloc]; exact if_pos rfl)
  obtain ⟨⟨pc, ec, cc, rfl, hc⟩, ⟨pe, ee, ce, rfl, he⟩, ⟨pl, el, cl, rfl, hl⟩, _, _, _, _, _, l1, l2, l3⟩ := h
  obtain ⟨⟨pc', ec', cc', rfl, hc'⟩, ⟨pe', ee', ce', rfl, he'⟩, ⟨pl', el', cl', rfl, hl'⟩, _, _, _, _, _, l1', l2', l3'⟩ := h'
  have m1 := hc.mx; have m2 := hc'.mx
  have kf : k + p.cs.length + p.ex.length + p.pl.length + 3 = k + p.cs.length + p.ex.length + p.pl.length + 3 := rfl
  obtain ⟨K, hK⟩ : ∃ K, k + p.cs.length + p.ex.length + p.pl.length + 3 = K := ⟨_, rfl⟩
  have s1 := (he.ext eA).str ce
  have s2 := (he'.ext eA).str ce'
  have s3 := (hl.ext eA).str cl
  have s4 := (hl'.ext eA).str cl'
  have u1 := eqStr_dec p.ex q.ex
  have u2 := eqStr_dec p.pl q.pl
  show ∃ v S', evF Y AP (k + p.cs.length + p.ex.length + p.pl.length + 3 + 1) 17 _ S = some (v, S') ∧ _
  rw [hK]
  refine evF_goes (af := af17) (k := K) rfl rfl rfl ?_
  by_cases emrk : p.mrk = q.mrk
  rotate_left
  · have hne : ¬ p = q := fun h => emrk (by rw [h])
    rw [decide_eq_false hne]
    have fmrk : (p.mrk == q.mrk) = false := by cases h1 : p.mrk <;> cases h2 : q.mrk <;> simp_all
    simp -implicitDefEqProofs -dsimp (maxSteps := 10000000) only [af17, ↓kS, after_some, br_true, br_false, kC, ↓kQ, ↓Option.bind_some, ↓Option.map_some, ↓cond_true, ↓cond_false, evC, evOp, XO.lit, setArgs, Tr.tabG, Tr.tabS, Tr.tabL, Tr.get_lf, Option.bind_some, Option.map_some, cond_true, cond_false, maxI, maxFrom, minI, minFrom, aBinE, aEq, eqScal, aUn, evRes, fin, oneOf, if_true, if_false, callee, reduceCtorEq, Nat.reduceEqDiff, List.getElem?_cons_zero, List.getElem?_cons_succ, beq_self_eq_true, gt_iff_lt, List.head?_cons, AV.undef, eq_self, ne_eq, Int.reduceLT, Int.reduceLE, Int.reduceToNat, Int.reduceEq, Int.reduceNeg, Nat.reduceAdd, Nat.reduceLT, Nat.reduceLeDiff, Nat.reduceMul, Nat.reduceSub, ↓evDraw_nil, bir, putD, evDraw, trace, List.all_cons, List.all_nil, chk, stAt, again, sameV, sameL, sameA, AV.undef, Bool.and_self, Bool.and_true, decide_eq_true_eq, List.getElem?_nil, kM, AV.cells, AV.tup, List.drop_nil, List.append_nil, rdO, St.wr, List.length_cons, List.length_nil, List.take_succ_cons, List.take_zero, List.drop_succ_cons, List.drop_zero, List.cons_append, List.nil_append, Nat.reduceMul, aFill, evParts, rep, List.replicate_succ, List.replicate_zero, List.flatten_cons, List.flatten_nil, List.append_nil, newSl, newVar, ne1, ne1', hA, r1, r2, aBinE, aEq, eqScal, aStr, m1, m2, s1, s2, s3, s4, fmrk]
    exact ⟨_, _, rfl, rfl, eA⟩
  have fmrk : (p.mrk == q.mrk) = true := by rw [emrk]; cases q.mrk <;> rfl
  by_cases ety : p.ty = q.ty
  rotate_left
  · have hne : ¬ p = q := fun h => ety (by rw [h])
    rw [decide_eq_false hne]
    simp -implicitDefEqProofs -dsimp (maxSteps := 10000000) only [af17, ↓kS, after_some, br_true, br_false, kC, ↓kQ, ↓Option.bind_some, ↓Option.map_some, ↓cond_true, ↓cond_false, evC, evOp, XO.lit, setArgs, Tr.tabG, Tr.tabS, Tr.tabL, Tr.get_lf, Option.bind_some, Option.map_some, cond_true, cond_false, maxI, maxFrom, minI, minFrom, aBinE, aEq, eqScal, aUn, evRes, fin, oneOf, if_true, if_false, callee, reduceCtorEq, Nat.reduceEqDiff, List.getElem?_cons_zero, List.getElem?_cons_succ, beq_self_eq_true, gt_iff_lt, List.head?_cons, AV.undef, eq_self, ne_eq, Int.reduceLT, Int.reduceLE, Int.reduceToNat, Int.reduceEq, Int.reduceNeg, Nat.reduceAdd, Nat.reduceLT, Nat.reduceLeDiff, Nat.reduceMul, Nat.reduceSub, ↓evDraw_nil, bir, putD, evDraw, trace, List.all_cons, List.all_nil, chk, stAt, again, sameV, sameL, sameA, AV.undef, Bool.and_self, Bool.and_true, decide_eq_true_eq, List.getElem?_nil, kM, AV.cells, AV.tup, List.drop_nil, List.append_nil, rdO, St.wr, List.length_cons, List.length_nil, List.take_succ_cons, List.take_zero, List.drop_succ_cons, List.drop_zero, List.cons_append, List.nil_append, Nat.reduceMul, aFill, evParts, rep, List.replicate_succ, List.replicate_zero, List.flatten_cons, List.flatten_nil, List.append_nil, newSl, newVar, ne1, ne1', hA, r1, r2, aBinE, aEq, eqScal, aStr, m1, m2, s1, s2, s3, s4, fmrk, ety]
    exact ⟨_, _, rfl, rfl, eA⟩
  have fty := eq_true ety
  by_cases esq : p.sq = q.sq
  rotate_left
  · have hne : ¬ p = q := fun h => esq (by rw [h])
    rw [decide_eq_false hne]
    simp -implicitDefEqProofs -dsimp (maxSteps := 10000000) only [af17, ↓kS, after_some, br_true, br_false, kC, ↓kQ, ↓Option.bind_some, ↓Option.map_some, ↓cond_true, ↓cond_false, evC, evOp, XO.lit, setArgs, Tr.tabG, Tr.tabS, Tr.tabL, Tr.get_lf, Option.bind_some, Option.map_some, cond_true, cond_false, maxI, maxFrom, minI, minFrom, aBinE, aEq, eqScal, aUn, evRes, fin, oneOf, if_true, if_false, callee, reduceCtorEq, Nat.reduceEqDiff, List.getElem?_cons_zero, List.getElem?_cons_succ, beq_self_eq_true, gt_iff_lt, List.head?_cons, AV.undef, eq_self, ne_eq, Int.reduceLT, Int.reduceLE, Int.reduceToNat, Int.reduceEq, Int.reduceNeg, Nat.reduceAdd, Nat.reduceLT, Nat.reduceLeDiff, Nat.reduceMul, Nat.reduceSub, ↓evDraw_nil, bir, putD, evDraw, trace, List.all_cons, List.all_nil, chk, stAt, again, sameV, sameL, sameA, AV.undef, Bool.and_self, Bool.and_true, decide_eq_true_eq, List.getElem?_nil, kM, AV.cells, AV.tup, List.drop_nil, List.append_nil, rdO, St.wr, List.length_cons, List.length_nil, List.take_succ_cons, List.take_zero, List.drop_succ_cons, List.drop_zero, List.cons_append, List.nil_append, Nat.reduceMul, aFill, evParts, rep, List.replicate_succ, List.replicate_zero, List.flatten_cons, List.flatten_nil, List.append_nil, newSl, newVar, ne1, ne1', hA, r1, r2, aBinE, aEq, eqScal, aStr, m1, m2, s1, s2, s3, s4, fmrk, fty, esq]
    exact ⟨_, _, rfl, rfl, eA⟩
  have fsq := eq_true esq
  by_cases etm : p.tm = q.tm
  rotate_left
  · have hne : ¬ p = q := fun h => etm (by rw [h])
    rw [decide_eq_false hne]
    simp -implicitDefEqProofs -dsimp (maxSteps := 10000000) only [af17, ↓kS, after_some, br_true, br_false, kC, ↓kQ, ↓Option.bind_some, ↓Option.map_some, ↓cond_true, ↓cond_false, evC, evOp, XO.lit, setArgs, Tr.tabG, Tr.tabS, Tr.tabL, Tr.get_lf, Option.bind_some, Option.map_some, cond_true, cond_false, maxI, maxFrom, minI, minFrom, aBinE, aEq, eqScal, aUn, evRes, fin, oneOf, if_true, if_false, callee, reduceCtorEq, Nat.reduceEqDiff, List.getElem?_cons_zero, List.getElem?_cons_succ, beq_self_eq_true, gt_iff_lt, List.head?_cons, AV.undef, eq_self, ne_eq, Int.reduceLT, Int.reduceLE, Int.reduceToNat, Int.reduceEq, Int.reduceNeg, Nat.reduceAdd, Nat.reduceLT, Nat.reduceLeDiff, Nat.reduceMul, Nat.reduceSub, ↓evDraw_nil, bir, putD, evDraw, trace, List.all_cons, List.all_nil, chk, stAt, again, sameV, sameL, sameA, AV.undef, Bool.and_self, Bool.and_true, decide_eq_true_eq, List.getElem?_nil, kM, AV.cells, AV.tup, List.drop_nil, List.append_nil, rdO, St.wr, List.length_cons, List.length_nil, List.take_succ_cons, List.take_zero, List.drop_succ_cons, List.drop_zero, List.cons_append, List.nil_append, Nat.reduceMul, aFill, evParts, rep, List.replicate_succ, List.replicate_zero, List.flatten_cons, List.flatten_nil, List.append_nil, newSl, newVar, ne1, ne1', hA, r1, r2, aBinE, aEq, eqScal, aStr, m1, m2, s1, s2, s3, s4, fmrk, fty, fsq, etm]
    exact ⟨_, _, rfl, rfl, eA⟩
  have ftm := eq_true etm
  by_cases ess : p.ss = q.ss
  rotate_left
  · have hne : ¬ p = q := fun h => ess (by rw [h])
    rw [decide_eq_false hne]
    simp -implicitDefEqProofs -dsimp (maxSteps := 10000000) only [af17, ↓kS, after_some, br_true, br_false, kC, ↓kQ, ↓Option.bind_some, ↓Option.map_some, ↓cond_true, ↓cond_false, evC, evOp, XO.lit, setArgs, Tr.tabG, Tr.tabS, Tr.tabL, Tr.get_lf, Option.bind_some, Option.map_some, cond_true, cond_false, maxI, maxFrom, minI, minFrom, aBinE, aEq, eqScal, aUn, evRes, fin, oneOf, if_true, if_false, callee, reduceCtorEq, Nat.reduceEqDiff, List.getElem?_cons_zero, List.getElem?_cons_succ, beq_self_eq_true, gt_iff_lt, List.head?_cons, AV.undef, eq_self, ne_eq, Int.reduceLT, Int.reduceLE, Int.reduceToNat, Int.reduceEq, Int.reduceNeg, Nat.reduceAdd, Nat.reduceLT, Nat.reduceLeDiff, Nat.reduceMul, Nat.reduceSub, ↓evDraw_nil, bir, putD, evDraw, trace, List.all_cons, List.all_nil, chk, stAt, again, sameV, sameL, sameA, AV.undef, Bool.and_self, Bool.and_true, decide_eq_true_eq, List.getElem?_nil, kM, AV.cells, AV.tup, List.drop_nil, List.append_nil, rdO, St.wr, List.length_cons, List.length_nil, List.take_succ_cons, List.take_zero, List.drop_succ_cons, List.drop_zero, List.cons_append, List.nil_append, Nat.reduceMul, aFill, evParts, rep, List.replicate_succ, List.replicate_zero, List.flatten_cons, List.flatten_nil, List.append_nil, newSl, newVar, ne1, ne1', hA, r1, r2, aBinE, aEq, eqScal, aStr, m1, m2, s1, s2, s3, s4, fmrk, fty, fsq, ftm, ess]
    exact ⟨_, _, rfl, rfl, eA⟩
  have fss := eq_true ess
  by_cases epf : p.pf = q.pf
  rotate_left
  · have hne : ¬ p = q := fun h => epf (by rw [h])
    rw [decide_eq_false hne]
    simp -implicitDefEqProofs -dsimp (maxSteps := 10000000) only [af17, ↓kS, after_some, br_true, br_false, kC, ↓kQ, ↓Option.bind_some, ↓Option.map_some, ↓cond_true, ↓cond_false, evC, evOp, XO.lit, setArgs, Tr.tabG, Tr.tabS, Tr.tabL, Tr.get_lf, Option.bind_some, Option.map_some, cond_true, cond_false, maxI, maxFrom, minI, minFrom, aBinE, aEq, eqScal, aUn, evRes, fin, oneOf, if_true, if_false, callee, reduceCtorEq, Nat.reduceEqDiff, List.getElem?_cons_zero, List.getElem?_cons_succ, beq_self_eq_true, gt_iff_lt, List.head?_cons, AV.undef, eq_self, ne_eq, Int.reduceLT, Int.reduceLE, Int.reduceToNat, Int.reduceEq, Int.reduceNeg, Nat.reduceAdd, Nat.reduceLT, Nat.reduceLeDiff, Nat.reduceMul, Nat.reduceSub, ↓evDraw_nil, bir, putD, evDraw, trace, List.all_cons, List.all_nil, chk, stAt, again, sameV, sameL, sameA, AV.undef, Bool.and_self, Bool.and_true, decide_eq_true_eq, List.getElem?_nil, kM, AV.cells, AV.tup, List.drop_nil, List.append_nil, rdO, St.wr, List.length_cons, List.length_nil, List.take_succ_cons, List.take_zero, List.drop_succ_cons, List.drop_zero, List.cons_append, List.nil_append, Nat.reduceMul, aFill, evParts, rep, List.replicate_succ, List.replicate_zero, List.flatten_cons, List.flatten_nil, List.append_nil, newSl, newVar, ne1, ne1', hA, r1, r2, aBinE, aEq, eqScal, aStr, m1, m2, s1, s2, s3, s4, fmrk, fty, fsq, ftm, fss, epf]
    exact ⟨_, _, rfl, rfl, eA⟩
  have fpf := eq_true epf
  by_cases eex : p.ex = q.ex
  rotate_left
  · have hne : ¬ p = q := fun h => eex (by rw [h])
    rw [decide_eq_false hne]
    rw [decide_eq_false eex] at u1
    simp -implicitDefEqProofs -dsimp (maxSteps := 10000000) only [af17, ↓kS, after_some, br_true, br_false, kC, ↓kQ, ↓Option.bind_some, ↓Option.map_some, ↓cond_true, ↓cond_false, evC, evOp, XO.lit, setArgs, Tr.tabG, Tr.tabS, Tr.tabL, Tr.get_lf, Option.bind_some, Option.map_some, cond_true, cond_false, maxI, maxFrom, minI, minFrom, aBinE, aEq, eqScal, aUn, evRes, fin, oneOf, if_true, if_false, callee, reduceCtorEq, Nat.reduceEqDiff, List.getElem?_cons_zero, List.getElem?_cons_succ, beq_self_eq_true, gt_iff_lt, List.head?_cons, AV.undef, eq_self, ne_eq, Int.reduceLT, Int.reduceLE, Int.reduceToNat, Int.reduceEq, Int.reduceNeg, Nat.reduceAdd, Nat.reduceLT, Nat.reduceLeDiff, Nat.reduceMul, Nat.reduceSub, ↓evDraw_nil, bir, putD, evDraw, trace, List.all_cons, List.all_nil, chk, stAt, again, sameV, sameL, sameA, AV.undef, Bool.and_self, Bool.and_true, decide_eq_true_eq, List.getElem?_nil, kM, AV.cells, AV.tup, List.drop_nil, List.append_nil, rdO, St.wr, List.length_cons, List.length_nil, List.take_succ_cons, List.take_zero, List.drop_succ_cons, List.drop_zero, List.cons_append, List.nil_append, Nat.reduceMul, aFill, evParts, rep, List.replicate_succ, List.replicate_zero, List.flatten_cons, List.flatten_nil, List.append_nil, newSl, newVar, ne1, ne1', hA, r1, r2, aBinE, aEq, eqScal, aStr, m1, m2, s1, s2, s3, s4, fmrk, fty, fsq, ftm, fss, fpf, u1]
    exact ⟨_, _, rfl, rfl, eA⟩
  rw [decide_eq_true eex] at u1
  by_cases epl : p.pl = q.pl
  rotate_left
  · have hne : ¬ p = q := fun h => epl (by rw [h])
    rw [decide_eq_false hne]
    rw [decide_eq_false epl] at u2
    simp -implicitDefEqProofs -dsimp (maxSteps := 10000000) only [af17, ↓kS, after_some, br_true, br_false, kC, ↓kQ, ↓Option.bind_some, ↓Option.map_some, ↓cond_true, ↓cond_false, evC, evOp, XO.lit, setArgs, Tr.tabG, Tr.tabS, Tr.tabL, Tr.get_lf, Option.bind_some, Option.map_some, cond_true, cond_false, maxI, maxFrom, minI, minFrom, aBinE, aEq, eqScal, aUn, evRes, fin, oneOf, if_true, if_false, callee, reduceCtorEq, Nat.reduceEqDiff, List.getElem?_cons_zero, List.getElem?_cons_succ, beq_self_eq_true, gt_iff_lt, List.head?_cons, AV.undef, eq_self, ne_eq, Int.reduceLT, Int.reduceLE, Int.reduceToNat, Int.reduceEq, Int.reduceNeg, Nat.reduceAdd, Nat.reduceLT, Nat.reduceLeDiff, Nat.reduceMul, Nat.reduceSub, ↓evDraw_nil, bir, putD, evDraw, trace, List.all_cons, List.all_nil, chk, stAt, again, sameV, sameL, sameA, AV.undef, Bool.and_self, Bool.and_true, decide_eq_true_eq, List.getElem?_nil, kM, AV.cells, AV.tup, List.drop_nil, List.append_nil, rdO, St.wr, List.length_cons, List.length_nil, List.take_succ_cons, List.take_zero, List.drop_succ_cons, List.drop_zero, List.cons_append, List.nil_append, Nat.reduceMul, aFill, evParts, rep, List.replicate_succ, List.replicate_zero, List.flatten_cons, List.flatten_nil, List.append_nil, newSl, newVar, ne1, ne1', hA, r1, r2, aBinE, aEq, eqScal, aStr, m1, m2, s1, s2, s3, s4, fmrk, fty, fsq, ftm, fss, fpf, u1, u2]
    exact ⟨_, _, rfl, rfl, eA⟩
  rw [decide_eq_true epl] at u2
  by_cases ec : p.cs.length = q.cs.length
  rotate_left
  · have hne : ¬ p = q := fun h => ec (by rw [h])
    have ec' : ¬ (p.cs.length : Int) = (q.cs.length : Int) := by omega
    rw [decide_eq_false hne]
    simp -implicitDefEqProofs -dsimp (maxSteps := 10000000) only [af17, ↓kS, after_some, br_true, br_false, kC, ↓kQ, ↓Option.bind_some, ↓Option.map_some, ↓cond_true, ↓cond_false, evC, evOp, XO.lit, setArgs, Tr.tabG, Tr.tabS, Tr.tabL, Tr.get_lf, Option.bind_some, Option.map_some, cond_true, cond_false, maxI, maxFrom, minI, minFrom, aBinE, aEq, eqScal, aUn, evRes, fin, oneOf, if_true, if_false, callee, reduceCtorEq, Nat.reduceEqDiff, List.getElem?_cons_zero, List.getElem?_cons_succ, beq_self_eq_true, gt_iff_lt, List.head?_cons, AV.undef, eq_self, ne_eq, Int.reduceLT, Int.reduceLE, Int.reduceToNat, Int.reduceEq, Int.reduceNeg, Nat.reduceAdd, Nat.reduceLT, Nat.reduceLeDiff, Nat.reduceMul, Nat.reduceSub, ↓evDraw_nil, bir, putD, evDraw, trace, List.all_cons, List.all_nil, chk, stAt, again, sameV, sameL, sameA, AV.undef, Bool.and_self, Bool.and_true, decide_eq_true_eq, List.getElem?_nil, kM, AV.cells, AV.tup, List.drop_nil, List.append_nil, rdO, St.wr, List.length_cons, List.length_nil, List.take_succ_cons, List.take_zero, List.drop_succ_cons, List.drop_zero, List.cons_append, List.nil_append, Nat.reduceMul, aFill, evParts, rep, List.replicate_succ, List.replicate_zero, List.flatten_cons, List.flatten_nil, List.append_nil, newSl, newVar, ne1, ne1', hA, r1, r2, aBinE, aEq, eqScal, aStr, m1, m2, s1, s2, s3, s4, fmrk, fty, fsq, ftm, fss, fpf, u1, u2, ec']
    exact ⟨_, _, rfl, rfl, eA⟩
  have fc : ((p.cs.length : Int) = (q.cs.length : Int)) = True := eq_true (by rw [ec])
  simp -implicitDefEqProofs -dsimp (maxSteps := 10000000) only [af17, ↓kS, after_some, br_true, br_false, kC, ↓kQ, ↓Option.bind_some, ↓Option.map_some, ↓cond_true, ↓cond_false, evC, evOp, XO.lit, setArgs, Tr.tabG, Tr.tabS, Tr.tabL, Tr.get_lf, Option.bind_some, Option.map_some, cond_true, cond_false, maxI, maxFrom, minI, minFrom, aBinE, aEq, eqScal, aUn, evRes, fin, oneOf, if_true, if_false, callee, reduceCtorEq, Nat.reduceEqDiff, List.getElem?_cons_zero, List.getElem?_cons_succ, beq_self_eq_true, gt_iff_lt, List.head?_cons, AV.undef, eq_self, ne_eq, Int.reduceLT, Int.reduceLE, Int.reduceToNat, Int.reduceEq, Int.reduceNeg, Nat.reduceAdd, Nat.reduceLT, Nat.reduceLeDiff, Nat.reduceMul, Nat.reduceSub, ↓evDraw_nil, bir, putD, evDraw, trace, List.all_cons, List.all_nil, chk, stAt, again, sameV, sameL, sameA, AV.undef, Bool.and_self, Bool.and_true, decide_eq_true_eq, List.getElem?_nil, kM, AV.cells, AV.tup, List.drop_nil, List.append_nil, rdO, St.wr, List.length_cons, List.length_nil, List.take_succ_cons, List.take_zero, List.drop_succ_cons, List.drop_zero, List.cons_append, List.nil_append, Nat.reduceMul, aFill, evParts, rep, List.replicate_succ, List.replicate_zero, List.flatten_cons, List.flatten_nil, List.append_nil, newSl, newVar, ne1, ne1', hA, r1, r2, aBinE, aEq, eqScal, aStr, m1, m2, s1, s2, s3, s4, fmrk, fty, fsq, ftm, fss, fpf, u1, u2, fc]
  refine .while (I17 S.next (S.next + 1) 0 p.cs q.cs A) id p.cs.length ⟨rfl, rfl, rfl, rfl, 0, rfl, by omega, rfl⟩ (by show p.cs.length < K; omega) fun m2 T2 S2 h2 => (round17 K (hc.ext eA) (hc'.ext eA) ec (by omega) r1 r2 m2 T2 S2 h2).mono ?_
  intro r T' S' hq
  cases r with
  | normal => exact hq
  | ret =>
    obtain ⟨rfl, ⟨h, _⟩ | ⟨_, h2, t4⟩⟩ := hq
    · cases h
    · have hne : ¬ p = q := fun h => h2 (by rw [h])
      rw [decide_eq_false hne]
      simp -implicitDefEqProofs -dsimp (maxSteps := 10000000) only [↓kS, after_some, br_true, br_false, kC, ↓kQ, ↓Option.bind_some, ↓Option.map_some, ↓cond_true, ↓cond_false, evC, evOp, XO.lit, setArgs, Tr.get_set, Option.bind_some, Option.map_some, cond_true, cond_false, maxI, maxFrom, minI, minFrom, aConv, aBinE, aEq, eqScal, aUn, evRes, fin, oneOf, if_true, if_false, callee, reduceCtorEq, Nat.reduceEqDiff, List.getElem?_cons_zero, List.getElem?_cons_succ, beq_self_eq_true, gt_iff_lt, List.head?_cons, AV.undef, eq_self, ne_eq, Int.reduceLT, Int.reduceLE, Int.reduceToNat, Int.reduceEq, Int.reduceNeg, Nat.reduceAdd, Nat.reduceLT, Nat.reduceLeDiff, Nat.reduceMul, Nat.reduceSub, t4]
      exact ⟨_, _, rfl, rfl, eA⟩
  | exit i =>
    obtain ⟨rfl, ⟨h, h2⟩ | ⟨h, _⟩⟩ := hq
    · cases h
      have hpq : p = q := by cases p; cases q; simp_all
      rw [decide_eq_true hpq]
      simp -implicitDefEqProofs -dsimp (maxSteps := 10000000) only [↓kS, after_some, br_true, br_false, kC, ↓kQ, ↓Option.bind_some, ↓Option.map_some, ↓cond_true, ↓cond_false, evC, evOp, XO.lit, setArgs, Tr.get_set, Option.bind_some, Option.map_some, cond_true, cond_false, maxI, maxFrom, minI, minFrom, aConv, aBinE, aEq, eqScal, aUn, evRes, fin, oneOf, if_true, if_false, callee, reduceCtorEq, Nat.reduceEqDiff, List.getElem?_cons_zero, List.getElem?_cons_succ, beq_self_eq_true, gt_iff_lt, List.head?_cons, AV.undef, eq_self, ne_eq, Int.reduceLT, Int.reduceLE, Int.reduceToNat, Int.reduceEq, Int.reduceNeg, Nat.reduceAdd, Nat.reduceLT, Nat.reduceLeDiff, Nat.reduceMul, Nat.reduceSub]
      exact ⟨_, _, rfl, rfl, eA⟩
    · cases h
/-! ### What is read -/
def zP : Pk := ⟨false, 0, 0, 0, 0, [], 0, [], []⟩
def b0 (l : List Nat) : Nat := l.getD 0 0
def finC (l : List Nat) (P : Pk) (n m : Nat) : Pk × Int := if b0 l / 16 % 2 = 1 ∧ P.pf = 0 then (zP, 12) else ({ P with pl := (l.drop n).take (m - n) }, 0)
def finB (l : List Nat) (P : Pk) (n : Nat) : Pk × Int :=
  if b0 l / 32 % 2 = 1 then (if l.getD (l.length - 1) 0 = 0 ∨ l.length - n < l.getD (l.length - 1) 0 then (zP, 13) else finC l P n (l.length - l.getD (l.length - 1) 0)) else finC l P n l.length
def finA (l : List Nat) (P : Pk) (n : Nat) : Pk × Int :=
  if b0 l / 16 % 2 = 1 then (if cutOk l ((n + 4 : Nat) : Int) ((4 * getL l ((n + 2 : Nat) : Int) 2 : Nat) : Int) then
    finB l { P with pf := (getL l (n : Int) 2 : Nat), ex := cutL l ((n + 4 : Nat) : Int) ((4 * getL l ((n + 2 : Nat) : Int) 2 : Nat) : Int) } (n + 4 + 4 * getL l ((n + 2 : Nat) : Int) 2) else (zP, 13)) else finB l P n
def csP (l : List Nat) (j : Nat) : List Int := (List.range j).map fun i => ((getL l ((12 + 4 * i : Nat) : Int) 4 : Nat) : Int)
def p0P (l : List Nat) : Pk := ⟨decide (128 ≤ l.getD 1 0), ((l.getD 1 0 % 128 : Nat) : Int), (getL l 2 2 : Nat), (getL l 4 4 : Nat), (getL l 8 4 : Nat), csP l (b0 l % 16), 0, [], []⟩
def readP (l : List Nat) : Pk × Int :=
  if 1500 < l.length then (zP, 3) else if l.length = 0 then (zP, 13) else if ¬ b0 l / 64 = 2 then (zP, 12) else
  if l.length < 12 + 4 * (b0 l % 16) then (zP, 13) else finA l (p0P l) (12 + 4 * (b0 l % 16))
/-! ### Bits of a byte -/
theorem bit16 {b : Nat} (h : b < 256) : Go.bits .and .u8 (b : Int) 16 = ((16 * (b / 16 % 2) : Nat) : Int) ∧ Go.bits .and .u64 (b : Int) 16 = ((16 * (b / 16 % 2) : Nat) : Int) := by
  have : ∀ b : Fin 256, Go.bits .and .u8 ((b.val : Nat) : Int) 16 = ((16 * (b.val / 16 % 2) : Nat) : Int) ∧ Go.bits .and .u64 ((b.val : Nat) : Int) 16 = ((16 * (b.val / 16 % 2) : Nat) : Int) := by decide +kernel
  exact this ⟨b, h⟩
theorem bit32 {b : Nat} (h : b < 256) : Go.bits .and .u8 (b : Int) 32 = ((32 * (b / 32 % 2) : Nat) : Int) ∧ Go.bits .and .u64 (b : Int) 32 = ((32 * (b / 32 % 2) : Nat) : Int) := by
  have : ∀ b : Fin 256, Go.bits .and .u8 ((b.val : Nat) : Int) 32 = ((32 * (b.val / 32 % 2) : Nat) : Int) ∧ Go.bits .and .u64 ((b.val : Nat) : Int) 32 = ((32 * (b.val / 32 % 2) : Nat) : Int) := by decide +kernel
  exact this ⟨b, h⟩
theorem bit15 {b : Nat} (h : b < 256) : Go.bits .and .u8 (b : Int) 15 = ((b % 16 : Nat) : Int) ∧ Go.bits .and .u64 (b : Int) 15 = ((b % 16 : Nat) : Int) := by
  have : ∀ b : Fin 256, Go.bits .and .u8 ((b.val : Nat) : Int) 15 = ((b.val % 16 : Nat) : Int) ∧ Go.bits .and .u64 ((b.val : Nat) : Int) 15 = ((b.val % 16 : Nat) : Int) := by decide +kernel
  exact this ⟨b, h⟩
theorem bit127 {b : Nat} (h : b < 256) : Go.bits .and .u8 (b : Int) 127 = ((b % 128 : Nat) : Int) := by
  have : ∀ b : Fin 256, Go.bits .and .u8 ((b.val : Nat) : Int) 127 = ((b.val % 128 : Nat) : Int) := by decide +kernel
  exact this ⟨b, h⟩
theorem bit192 {b : Nat} (h : b < 256) : Go.bits .and .u8 (b : Int) 192 = ((64 * (b / 64) : Nat) : Int) := by
  have : ∀ b : Fin 256, Go.bits .and .u8 ((b.val : Nat) : Int) 192 = ((64 * (b.val / 64) : Nat) : Int) := by decide +kernel
  exact this ⟨b, h⟩
/-- ref num -/
theorem T39 (k : Nat) {S : St} {p : Option (Nat × Nat × Nat)} {e : Nat} {c : Option Nat} {l : List Nat} (h : By S p e l) (hr : l.length ≤ 140737488351500) {a n : Int} (ha : I64 a) (hn : I64 n) :
    evF Y AP (k + 21) 39 [.slice p l.length e c, .int .i64 a, .int .i64 n] S = some (.int .u64 (getL l a n), S) := by
  have h46 := T46 k (c := c) h hr ha hn
  rw [evF_body (af := af39) rfl rfl rfl]
  simp -implicitDefEqProofs -dsimp (maxSteps := 10000000) only [af39, kC, ↓kQ, ↓Option.bind_some, ↓Option.map_some, ↓cond_true, ↓cond_false, evC, evOp, XO.lit, setArgs, Tr.tabG, Tr.tabS, Tr.tabL, Tr.get_lf, Option.bind_some, Option.map_some, cond_true, cond_false, maxI, maxFrom, minI, minFrom, aConv, aBinE, aEq, eqScal, aUn, evRes, fin, oneOf, if_true, if_false, callee, reduceCtorEq, Nat.reduceEqDiff, List.getElem?_cons_zero, List.getElem?_cons_succ, beq_self_eq_true, gt_iff_lt, List.head?_cons, AV.undef, eq_self, ne_eq, Int.reduceLT, Int.reduceLE, Int.reduceToNat, Int.reduceEq, Int.reduceNeg, Nat.reduceAdd, Nat.reduceLT, Nat.reduceLeDiff, Nat.reduceMul, Nat.reduceSub, h46]
/-- All but two objects stays. -/
structure Two (S S' : St) (o2 o5 : Nat) : Prop where
  next : S.next ≤ S'.next
  old : ∀ j, j < S.next → ¬ j = o2 → ¬ j = o5 → S'.get j = S.get j
theorem Two.refl (S : St) (o2 o5 : Nat) : Two S S o2 o5 := ⟨Nat.le_refl _, fun _ _ _ _ => rfl⟩
theorem Two.trans {S S' S'' : St} {o2 o5 : Nat} (h : Two S S' o2 o5) (h' : Two S' S'' o2 o5) : Two S S'' o2 o5 :=
  ⟨Nat.le_trans h.next h'.next, fun j hj h2 h5 => (h'.old j (Nat.lt_of_lt_of_le hj h.next) h2 h5).trans (h.old j hj h2 h5)⟩
theorem Two.of_ext {S S' : St} (h : Ext S S') (o2 o5 : Nat) : Two S S' o2 o5 := ⟨h.next, fun j hj _ _ => h.old j hj⟩
theorem Two.put2 (S : St) (o2 o5 : Nat) (x : AO) : Two S (S.put o2 x) o2 o5 := ⟨Nat.le_refl _, fun j _ h2 _ => by rw [St.get_put, if_neg h2]⟩
theorem Two.put5 (S : St) (o2 o5 : Nat) (x : AO) : Two S (S.put o5 x) o2 o5 := ⟨Nat.le_refl _, fun j _ _ h5 => by rw [St.get_put, if_neg h5]⟩
theorem Two.by_ {S S' : St} {o2 o5 : Nat} (h : Two S S' o2 o5) {p : Option (Nat × Nat × Nat)} {e : Nat} {l : List Nat} (b : By S p e l) (hn : ∀ o v i, p = some (o, v, i) → ¬ o = o2 ∧ ¬ o = o5) : By S' p e l :=
  ⟨b.ez, b.nil, fun o v i hp => by
    obtain ⟨h1, h2⟩ := b.at_ o v i hp
    refine ⟨Nat.lt_of_lt_of_le h1 h.next, ?_⟩
    unfold St.rd at h2 ⊢
    rw [h.old o h1 (hn o v i hp).1 (hn o v i hp).2]
    exact h2, b.bd, b.mx⟩
theorem Two.ur {S S' : St} {o2 o5 : Nat} (h : Two S S' o2 o5) {p : Option (Nat × Nat × Nat)} {e : Nat} {l : List Int} (b : Ur S p e l) (hn : ∀ o v i, p = some (o, v, i) → ¬ o = o2 ∧ ¬ o = o5) : Ur S' p e l :=
  ⟨b.ez, b.nil, fun o v i hp => by
    obtain ⟨h1, h2⟩ := b.at_ o v i hp
    refine ⟨Nat.lt_of_lt_of_le h1 h.next, ?_⟩
    unfold St.rd at h2 ⊢
    rw [h.old o h1 (hn o v i hp).1 (hn o v i hp).2]
    exact h2, b.bd, b.mx⟩
/-- What lies there while a packet is read: the answer's place, the packet's. -/
structure Rs (Sb S : St) (o2 o5 : Nat) (P : Pk) (c e : AV) : Prop where
  ext : Ext Sb S
  a2 : Sb.next ≤ o2 ∧ o2 < S.next
  a5 : Sb.next ≤ o5 ∧ o5 < S.next
  ne : ¬ o2 = o5
  g2 : S.get o2 = some (.cells (pkc zP (.slice none 0 0 none) (.slice none 0 0 none) (.slice none 0 0 none)) 0 0 true)
  g5 : S.get o5 = some (.cells (pkc P c e (.slice none 0 0 none)) 0 0 true)
  c : ∀ S', Two S S' o2 o5 → Us S' c P.cs
  e : ∀ S', Two S S' o2 o5 → Bs S' e P.ex
/-- What an answer is. -/
def Ans (Sb : St) (r : Pk × Int) (w : AV) (S : St) : Prop := ∃ c e l, w = .tuple [.agg (pkc r.1 c e l), .int .i64 r.2] ∧ Us S c r.1.cs ∧ Bs S e r.1.ex ∧ Bs S l r.1.pl ∧ Ext Sb S
theorem Ans.z (Sb : St) {S : St} (x : Ext Sb S) (er : Int) : Ans Sb (zP, er) (.tuple [.agg (pkc zP (.slice none 0 0 none) (.slice none 0 0 none) (.slice none 0 0 none)), .int .i64 er]) S :=
  ⟨_, _, _, rfl, .zero _ _, .zero _ _, .zero _ _, x⟩
theorem Nb.z (S : St) : Nb S S (.slice none 0 0 none) [] := .gr (l := []) (.zero S 0) (by simp)
section
variable {S : St} {p : Option (Nat × Nat × Nat)} {e : Nat} {c : Option Nat} {l : List Nat} (k : Nat)
set_option maxHeartbeats 1000000 in
theorem T45n (h : By S p e l) (hr : l.length ≤ 140737488351500) {a n : Int} (ha : I64 a) (hn : I64 n) :
    ∃ p' e' S', evF Y AP (k + 4) 45 [.slice p l.length e c, .int .i64 a, .int .i64 n] S = some (.tuple [.slice p' (cutL l a n).length e' none, .bool (decide (cutOk l a n))], S') ∧ Gr S S' p' e' (cutL l a n) := by
  have hm : l.length ≤ 9223372036854775807 := by omega
  have w1 : IntKind.i64.wrap ((l.length : Int) - a) = (l.length : Int) - a ∨ a < 0 := by by_cases h : a < 0; exact .inr h; exact .inl (w64_id (by have := ha.2; omega) (by omega))
  by_cases c1 : a < 0
  · have hk : ¬ cutOk l a n := by unfold cutOk; omega
    rw [show cutL l a n = [] by rw [cutL, if_neg hk]]
    refine ⟨none, 0, S, (?_ : _ = some (AV.tuple [AV.slice none 0 0 none, AV.bool (decide (cutOk l a n))], S)), .zero S 0⟩
    rw [decide_eq_false hk, evF_body (af := af45) rfl rfl rfl]
    simp -implicitDefEqProofs -dsimp (maxSteps := 10000000) only [af45, kC, ↓kQ, ↓Option.bind_some, ↓Option.map_some, ↓cond_true, ↓cond_false, evC, evOp, XO.lit, setArgs, Tr.tabG, Tr.tabS, Tr.tabL, Tr.get_lf, Option.bind_some, Option.map_some, cond_true, cond_false, maxI, maxFrom, minI, minFrom, aConv, aBinE, aEq, eqScal, aUn, evRes, fin, oneOf, if_true, if_false, callee, reduceCtorEq, Nat.reduceEqDiff, List.getElem?_cons_zero, List.getElem?_cons_succ, beq_self_eq_true, gt_iff_lt, List.head?_cons, AV.undef, eq_self, ne_eq, Int.reduceLT, Int.reduceLE, Int.reduceToNat, Int.reduceEq, Int.reduceNeg, Nat.reduceAdd, Nat.reduceLT, Nat.reduceLeDiff, Nat.reduceMul, Nat.reduceSub, c1]
  have w1 := w1.resolve_right c1
  by_cases c2 : n < 0
  · have hk : ¬ cutOk l a n := by unfold cutOk; omega
    rw [show cutL l a n = [] by rw [cutL, if_neg hk]]
    refine ⟨none, 0, S, (?_ : _ = some (AV.tuple [AV.slice none 0 0 none, AV.bool (decide (cutOk l a n))], S)), .zero S 0⟩
    rw [decide_eq_false hk, evF_body (af := af45) rfl rfl rfl]
    simp -implicitDefEqProofs -dsimp (maxSteps := 10000000) only [af45, kC, ↓kQ, ↓Option.bind_some, ↓Option.map_some, ↓cond_true, ↓cond_false, evC, evOp, XO.lit, setArgs, Tr.tabG, Tr.tabS, Tr.tabL, Tr.get_lf, Option.bind_some, Option.map_some, cond_true, cond_false, maxI, maxFrom, minI, minFrom, aConv, aBinE, aEq, eqScal, aUn, evRes, fin, oneOf, if_true, if_false, callee, reduceCtorEq, Nat.reduceEqDiff, List.getElem?_cons_zero, List.getElem?_cons_succ, beq_self_eq_true, gt_iff_lt, List.head?_cons, AV.undef, eq_self, ne_eq, Int.reduceLT, Int.reduceLE, Int.reduceToNat, Int.reduceEq, Int.reduceNeg, Nat.reduceAdd, Nat.reduceLT, Nat.reduceLeDiff, Nat.reduceMul, Nat.reduceSub, c1, c2]
  by_cases c3 : (l.length : Int) < a
  · have hk : ¬ cutOk l a n := by unfold cutOk; omega
    rw [show cutL l a n = [] by rw [cutL, if_neg hk]]
    refine ⟨none, 0, S, (?_ : _ = some (AV.tuple [AV.slice none 0 0 none, AV.bool (decide (cutOk l a n))], S)), .zero S 0⟩
    rw [decide_eq_false hk, evF_body (af := af45) rfl rfl rfl]
    simp -implicitDefEqProofs -dsimp (maxSteps := 10000000) only [af45, kC, ↓kQ, ↓Option.bind_some, ↓Option.map_some, ↓cond_true, ↓cond_false, evC, evOp, XO.lit, setArgs, Tr.tabG, Tr.tabS, Tr.tabL, Tr.get_lf, Option.bind_some, Option.map_some, cond_true, cond_false, maxI, maxFrom, minI, minFrom, aConv, aBinE, aEq, eqScal, aUn, evRes, fin, oneOf, if_true, if_false, callee, reduceCtorEq, Nat.reduceEqDiff, List.getElem?_cons_zero, List.getElem?_cons_succ, beq_self_eq_true, gt_iff_lt, List.head?_cons, AV.undef, eq_self, ne_eq, Int.reduceLT, Int.reduceLE, Int.reduceToNat, Int.reduceEq, Int.reduceNeg, Nat.reduceAdd, Nat.reduceLT, Nat.reduceLeDiff, Nat.reduceMul, Nat.reduceSub, c1, c2, c3, hm]
  by_cases c4 : (l.length : Int) - a < n
  · have hk : ¬ cutOk l a n := by unfold cutOk; omega
    rw [show cutL l a n = [] by rw [cutL, if_neg hk]]
    refine ⟨none, 0, S, (?_ : _ = some (AV.tuple [AV.slice none 0 0 none, AV.bool (decide (cutOk l a n))], S)), .zero S 0⟩
    rw [decide_eq_false hk, evF_body (af := af45) rfl rfl rfl]
    simp -implicitDefEqProofs -dsimp (maxSteps := 10000000) only [af45, kC, ↓kQ, ↓Option.bind_some, ↓Option.map_some, ↓cond_true, ↓cond_false, evC, evOp, XO.lit, setArgs, Tr.tabG, Tr.tabS, Tr.tabL, Tr.get_lf, Option.bind_some, Option.map_some, cond_true, cond_false, maxI, maxFrom, minI, minFrom, aConv, aBinE, aEq, eqScal, aUn, evRes, fin, oneOf, if_true, if_false, callee, reduceCtorEq, Nat.reduceEqDiff, List.getElem?_cons_zero, List.getElem?_cons_succ, beq_self_eq_true, gt_iff_lt, List.head?_cons, AV.undef, eq_self, ne_eq, Int.reduceLT, Int.reduceLE, Int.reduceToNat, Int.reduceEq, Int.reduceNeg, Nat.reduceAdd, Nat.reduceLT, Nat.reduceLeDiff, Nat.reduceMul, Nat.reduceSub, c1, c2, c3, c4, hm, w1]
  have hk : cutOk l a n := by unfold cutOk; omega
  have w2 : IntKind.i64.wrap (a + n) = a + n := w64_id (by omega) (by omega)
  obtain ⟨p', e', c', h1, h2⟩ := h.cut c (lo := some (.int .i64 a)) (hi := some (.int .i64 (a + n))) (bnd_some (by omega) (by omega)) (bnd_some (by omega) (by omega)) (by omega) (by omega)
  have hd : (a + n).toNat - a.toNat = n.toNat := by omega
  rw [hd] at h1 h2
  have hl : ((l.drop a.toNat).take n.toNat).length ≤ l.length := by rw [List.length_take, List.length_drop]; omega
  obtain ⟨p1, e1, S1, h19, g1⟩ := T41 k (c := c') h2 (by omega)
  rw [show cutL l a n = (l.drop a.toNat).take n.toNat by rw [cutL, if_pos hk]]
  refine ⟨p1, e1, S1, ?_, g1⟩
  rw [decide_eq_true hk, evF_body (af := af45) rfl rfl rfl]
  simp -implicitDefEqProofs -dsimp (maxSteps := 10000000) only [af45, kC, ↓kQ, ↓Option.bind_some, ↓Option.map_some, ↓cond_true, ↓cond_false, evC, evOp, XO.lit, setArgs, Tr.tabG, Tr.tabS, Tr.tabL, Tr.get_lf, Option.bind_some, Option.map_some, cond_true, cond_false, maxI, maxFrom, minI, minFrom, aConv, aBinE, aEq, eqScal, aUn, evRes, fin, oneOf, if_true, if_false, callee, reduceCtorEq, Nat.reduceEqDiff, List.getElem?_cons_zero, List.getElem?_cons_succ, beq_self_eq_true, gt_iff_lt, List.head?_cons, AV.undef, eq_self, ne_eq, Int.reduceLT, Int.reduceLE, Int.reduceToNat, Int.reduceEq, Int.reduceNeg, Nat.reduceAdd, Nat.reduceLT, Nat.reduceLeDiff, Nat.reduceMul, Nat.reduceSub, c1, c2, c3, c4, hm, w1, w2, evOpt, h1, h19]
set_option maxHeartbeats 1000000 in
theorem T40n (h : By S p e l) (hr : l.length ≤ 140737488351500) {a n : Int} (ha : I64 a) (hn : I64 n) :
    ∃ p' e' S', evF Y AP (k + 4) 40 [.slice p l.length e c, .int .i64 a, .int .i64 n] S = some (.tuple [.slice p' (cutL l a n).length e' none, .bool (decide (cutOk l a n))], S') ∧ Gr S S' p' e' (cutL l a n) := by
  have hm : l.length ≤ 9223372036854775807 := by omega
  have w1 : IntKind.i64.wrap ((l.length : Int) - a) = (l.length : Int) - a ∨ a < 0 := by by_cases h : a < 0; exact .inr h; exact .inl (w64_id (by have := ha.2; omega) (by omega))
  by_cases c1 : a < 0
  · have hk : ¬ cutOk l a n := by unfold cutOk; omega
    rw [show cutL l a n = [] by rw [cutL, if_neg hk]]
    refine ⟨none, 0, S, (?_ : _ = some (AV.tuple [AV.slice none 0 0 none, AV.bool (decide (cutOk l a n))], S)), .zero S 0⟩
    rw [decide_eq_false hk, evF_body (af := af40) rfl rfl rfl]
    simp -implicitDefEqProofs -dsimp (maxSteps := 10000000) only [af40, kC, ↓kQ, ↓Option.bind_some, ↓Option.map_some, ↓cond_true, ↓cond_false, evC, evOp, XO.lit, setArgs, Tr.tabG, Tr.tabS, Tr.tabL, Tr.get_lf, Option.bind_some, Option.map_some, cond_true, cond_false, maxI, maxFrom, minI, minFrom, aConv, aBinE, aEq, eqScal, aUn, evRes, fin, oneOf, if_true, if_false, callee, reduceCtorEq, Nat.reduceEqDiff, List.getElem?_cons_zero, List.getElem?_cons_succ, beq_self_eq_true, gt_iff_lt, List.head?_cons, AV.undef, eq_self, ne_eq, Int.reduceLT, Int.reduceLE, Int.reduceToNat, Int.reduceEq, Int.reduceNeg, Nat.reduceAdd, Nat.reduceLT, Nat.reduceLeDiff, Nat.reduceMul, Nat.reduceSub, c1]
  have w1 := w1.resolve_right c1
  by_cases c2 : n < 0
  · have hk : ¬ cutOk l a n := by unfold cutOk; omega
    rw [show cutL l a n = [] by rw [cutL, if_neg hk]]
    refine ⟨none, 0, S, (?_ : _ = some (AV.tuple [AV.slice none 0 0 none, AV.bool (decide (cutOk l a n))], S)), .zero S 0⟩
    rw [decide_eq_false hk, evF_body (af := af40) rfl rfl rfl]
    simp -implicitDefEqProofs -dsimp (maxSteps := 10000000) only [af40, kC, ↓kQ, ↓Option.bind_some, ↓Option.map_some, ↓cond_true, ↓cond_false, evC, evOp, XO.lit, setArgs, Tr.tabG, Tr.tabS, Tr.tabL, Tr.get_lf, Option.bind_some, Option.map_some, cond_true, cond_false, maxI, maxFrom, minI, minFrom, aConv, aBinE, aEq, eqScal, aUn, evRes, fin, oneOf, if_true, if_false, callee, reduceCtorEq, Nat.reduceEqDiff, List.getElem?_cons_zero, List.getElem?_cons_succ, beq_self_eq_true, gt_iff_lt, List.head?_cons, AV.undef, eq_self, ne_eq, Int.reduceLT, Int.reduceLE, Int.reduceToNat, Int.reduceEq, Int.reduceNeg, Nat.reduceAdd, Nat.reduceLT, Nat.reduceLeDiff, Nat.reduceMul, Nat.reduceSub, c1, c2]
  by_cases c3 : (l.length : Int) < a
  · have hk : ¬ cutOk l a n := by unfold cutOk; omega
    rw [show cutL l a n = [] by rw [cutL, if_neg hk]]
    refine ⟨none, 0, S, (?_ : _ = some (AV.tuple [AV.slice none 0 0 none, AV.bool (decide (cutOk l a n))], S)), .zero S 0⟩
    rw [decide_eq_false hk, evF_body (af := af40) rfl rfl rfl]
    simp -implicitDefEqProofs -dsimp (maxSteps := 10000000) only [af40, kC, ↓kQ, ↓Option.bind_some, ↓Option.map_some, ↓cond_true, ↓cond_false, evC, evOp, XO.lit, setArgs, Tr.tabG, Tr.tabS, Tr.tabL, Tr.get_lf, Option.bind_some, Option.map_some, cond_true, cond_false, maxI, maxFrom, minI, minFrom, aConv, aBinE, aEq, eqScal, aUn, evRes, fin, oneOf, if_true, if_false, callee, reduceCtorEq, Nat.reduceEqDiff, List.getElem?_cons_zero, List.getElem?_cons_succ, beq_self_eq_true, gt_iff_lt, List.head?_cons, AV.undef, eq_self, ne_eq, Int.reduceLT, Int.reduceLE, Int.reduceToNat, Int.reduceEq, Int.reduceNeg, Nat.reduceAdd, Nat.reduceLT, Nat.reduceLeDiff, Nat.reduceMul, Nat.reduceSub, c1, c2, c3, hm]
  by_cases c4 : (l.length : Int) - a < n
  · have hk : ¬ cutOk l a n := by unfold cutOk; omega
    rw [show cutL l a n = [] by rw [cutL, if_neg hk]]
    refine ⟨none, 0, S, (?_ : _ = some (AV.tuple [AV.slice none 0 0 none, AV.bool (decide (cutOk l a n))], S)), .zero S 0⟩
    rw [decide_eq_false hk, evF_body (af := af40) rfl rfl rfl]
    simp -implicitDefEqProofs -dsimp (maxSteps := 10000000) only [af40, kC, ↓kQ, ↓Option.bind_some, ↓Option.map_some, ↓cond_true, ↓cond_false, evC, evOp, XO.lit, setArgs, Tr.tabG, Tr.tabS, Tr.tabL, Tr.get_lf, Option.bind_some, Option.map_some, cond_true, cond_false, maxI, maxFrom, minI, minFrom, aConv, aBinE, aEq, eqScal, aUn, evRes, fin, oneOf, if_true, if_false, callee, reduceCtorEq, Nat.reduceEqDiff, List.getElem?_cons_zero, List.getElem?_cons_succ, beq_self_eq_true, gt_iff_lt, List.head?_cons, AV.undef, eq_self, ne_eq, Int.reduceLT, Int.reduceLE, Int.reduceToNat, Int.reduceEq, Int.reduceNeg, Nat.reduceAdd, Nat.reduceLT, Nat.reduceLeDiff, Nat.reduceMul, Nat.reduceSub, c1, c2, c3, c4, hm, w1]
  have hk : cutOk l a n := by unfold cutOk; omega
  have w2 : IntKind.i64.wrap (a + n) = a + n := w64_id (by omega) (by omega)
  obtain ⟨p', e', c', h1, h2⟩ := h.cut c (lo := some (.int .i64 a)) (hi := some (.int .i64 (a + n))) (bnd_some (by omega) (by omega)) (bnd_some (by omega) (by omega)) (by omega) (by omega)
  have hd : (a + n).toNat - a.toNat = n.toNat := by omega
  rw [hd] at h1 h2
  have hl : ((l.drop a.toNat).take n.toNat).length ≤ l.length := by rw [List.length_take, List.length_drop]; omega
  obtain ⟨p1, e1, S1, h3, g1⟩ := (Gr.empty S).app h2.bd (by simp only [List.length_nil]; omega)
  rw [List.nil_append] at h3 g1
  simp only [List.length_nil] at h3
  rw [show cutL l a n = (l.drop a.toNat).take n.toNat by rw [cutL, if_pos hk]]
  refine ⟨p1, e1, S1, ?_, g1⟩
  rw [decide_eq_true hk, evF_body (af := af40) rfl rfl rfl]
  rcases p' with _ | ⟨o, v, i⟩
  · have h0 := h2.nil rfl
    rw [h0] at h1 h3 ⊢
    simp only [bv, List.map_nil, List.length_nil] at h3
    simp -implicitDefEqProofs -dsimp (maxSteps := 10000000) only [af40, kC, ↓kQ, ↓Option.bind_some, ↓Option.map_some, ↓cond_true, ↓cond_false, evC, evOp, XO.lit, setArgs, Tr.tabG, Tr.tabS, Tr.tabL, Tr.get_lf, Option.bind_some, Option.map_some, cond_true, cond_false, maxI, maxFrom, minI, minFrom, aConv, aBinE, aEq, eqScal, aUn, evRes, fin, oneOf, if_true, if_false, callee, reduceCtorEq, Nat.reduceEqDiff, List.getElem?_cons_zero, List.getElem?_cons_succ, beq_self_eq_true, gt_iff_lt, List.head?_cons, AV.undef, eq_self, ne_eq, Int.reduceLT, Int.reduceLE, Int.reduceToNat, Int.reduceEq, Int.reduceNeg, Nat.reduceAdd, Nat.reduceLT, Nat.reduceLeDiff, Nat.reduceMul, Nat.reduceSub, aFill, evParts, rep, List.replicate_succ, List.replicate_zero, List.flatten_cons, List.flatten_nil, List.append_nil, newSl, newVar, c1, c2, c3, c4, hm, w1, w2, evOpt, h1, h3, List.length_nil, Nat.mul_zero]
  · obtain rfl := h2.ez.resolve_left (by simp)
    obtain ⟨h4, h5⟩ := h2.at_ o v i rfl
    have h6 : (S.alloc (.cells [] 0 0 true)).rd o v i ((l.drop a.toNat).take n.toNat).length = some (bv ((l.drop a.toNat).take n.toNat)) := by
      rw [rd_alloc, if_neg (by omega)]; exact h5
    simp -implicitDefEqProofs -dsimp (maxSteps := 10000000) only [af40, kC, ↓kQ, ↓Option.bind_some, ↓Option.map_some, ↓cond_true, ↓cond_false, evC, evOp, XO.lit, setArgs, Tr.tabG, Tr.tabS, Tr.tabL, Tr.get_lf, Option.bind_some, Option.map_some, cond_true, cond_false, maxI, maxFrom, minI, minFrom, aConv, aBinE, aEq, eqScal, aUn, evRes, fin, oneOf, if_true, if_false, callee, reduceCtorEq, Nat.reduceEqDiff, List.getElem?_cons_zero, List.getElem?_cons_succ, beq_self_eq_true, gt_iff_lt, List.head?_cons, AV.undef, eq_self, ne_eq, Int.reduceLT, Int.reduceLE, Int.reduceToNat, Int.reduceEq, Int.reduceNeg, Nat.reduceAdd, Nat.reduceLT, Nat.reduceLeDiff, Nat.reduceMul, Nat.reduceSub, aFill, evParts, rep, List.replicate_succ, List.replicate_zero, List.flatten_cons, List.flatten_nil, List.append_nil, newSl, newVar, c1, c2, c3, c4, hm, w1, w2, evOpt, h1, h3, h6, Nat.mul_one, Nat.zero_mul]
end
def tC30 : AC :=
 (.seq
 (.seq
 (.reg [⟨(some 131), none, (.mv (.t 0))⟩,
   ⟨(some 132), none, (.ixSlice 1 (.t 131) (.c (.int .i64 0)))⟩,
   ⟨(some 133), none, (.load1 (.t 132))⟩,
   ⟨(some 134), none, (.bin .and .num (.t 133) (.c (.int .u8 16)))⟩,
   ⟨(some 135), none, (.bin .neq .num (.t 134) (.c (.int .u8 0)))⟩,
   ⟨(some 136), none, (.mv (.t 135))⟩,
   ⟨(some 137), (some (136, true)), (.fieldAddr 6 1 (.t 5))⟩,
   ⟨(some 138), (some (136, true)), (.load1 (.t 137))⟩,
   ⟨(some 139), (some (136, true)), (.bin .eql .num (.t 138) (.c (.int .u16 0)))⟩,
   ⟨(some 140), none, (.pick (.t 136) (.t 139) (.c (.bool false)))⟩])
 (.cond (.t 140)
 (.seq
 (.reg [⟨(some 141), none, (.build [(.bool false), (.int .i64 0), (.int .u16 0), (.int .u32 0), (.int .u32 0), (.slice none 0 0 none), (.int .u16 0), (.slice none 0 0 none), (.slice none 0 0 none)] [])⟩,
   ⟨none, none, (.store 9 (.t 2) (.t 141))⟩,
   ⟨(some 3), none, (.mv (.c (.int .i64 12)))⟩]) .ret) .skip))
 (.seq
 (.reg [⟨(some 142), none, (.buildSlice 1 [(.int .u8 0)] 0 [])⟩,
   ⟨(some 143), none, (.mv (.t 0))⟩,
   ⟨(some 144), none, (.mv (.t 4))⟩,
   ⟨(some 145), none, (.mv (.t 10))⟩,
   ⟨(some 146), none, (.cut 1 (.t 143) (some (.t 144)) (some (.t 145)) none)⟩,
   ⟨(some 147), none, (.append 1 1 (.t 142) (.t 146))⟩,
   ⟨(some 148), none, (.fieldAddr 8 1 (.t 5))⟩,
   ⟨none, none, (.store 1 (.t 148) (.t 147))⟩])
 (.seq
 (.reg [⟨(some 149), none, (.loadN 9 (.t 5))⟩,
   ⟨none, none, (.store 9 (.t 2) (.t 149))⟩,
   ⟨(some 3), none, (.mv (.c (.int .i64 0)))⟩]) .ret)))
def tB30 : AC :=
 (.seq
 (.reg [⟨(some 105), none, (.mv (.t 0))⟩,
   ⟨(some 106), none, (.len (.t 105))⟩,
   ⟨(some 10), none, (.mv (.t 106))⟩])
 (.seq
 (.seq
 (.reg [⟨(some 107), none, (.mv (.t 0))⟩,
   ⟨(some 108), none, (.ixSlice 1 (.t 107) (.c (.int .i64 0)))⟩,
   ⟨(some 109), none, (.load1 (.t 108))⟩,
   ⟨(some 110), none, (.bin .and .num (.t 109) (.c (.int .u8 32)))⟩,
   ⟨(some 111), none, (.bin .neq .num (.t 110) (.c (.int .u8 0)))⟩])
 (.cond (.t 111)
 (.seq
 (.reg [⟨(some 112), none, (.mv (.t 0))⟩,
   ⟨(some 113), none, (.mv (.t 10))⟩,
   ⟨(some 114), none, (.bin .sub .num (.t 113) (.c (.int .i64 1)))⟩,
   ⟨(some 115), none, (.ixSlice 1 (.t 112) (.t 114))⟩,
   ⟨(some 116), none, (.load1 (.t 115))⟩,
   ⟨(some 117), none, (.conv (.int .i64) (.t 116))⟩,
   ⟨(some 11), none, (.mv (.t 117))⟩])
 (.seq
 (.seq
 (.reg [⟨(some 118), none, (.mv (.t 11))⟩,
   ⟨(some 119), none, (.bin .eql .num (.t 118) (.c (.int .i64 0)))⟩,
   ⟨(some 120), none, (.mv (.t 119))⟩,
   ⟨(some 121), (some (120, false)), (.mv (.t 11))⟩,
   ⟨(some 122), (some (120, false)), (.mv (.t 10))⟩,
   ⟨(some 123), (some (120, false)), (.mv (.t 4))⟩,
   ⟨(some 124), (some (120, false)), (.bin .sub .num (.t 122) (.t 123))⟩,
   ⟨(some 125), (some (120, false)), (.bin .gtr .num (.t 121) (.t 124))⟩,
   ⟨(some 126), none, (.pick (.t 120) (.c (.bool true)) (.t 125))⟩])
 (.cond (.t 126)
 (.seq
 (.reg [⟨(some 127), none, (.build [(.bool false), (.int .i64 0), (.int .u16 0), (.int .u32 0), (.int .u32 0), (.slice none 0 0 none), (.int .u16 0), (.slice none 0 0 none), (.slice none 0 0 none)] [])⟩,
   ⟨none, none, (.store 9 (.t 2) (.t 127))⟩,
   ⟨(some 3), none, (.mv (.c (.int .i64 13)))⟩]) .ret) .skip))
 (.reg [⟨(some 128), none, (.mv (.t 10))⟩,
   ⟨(some 129), none, (.mv (.t 11))⟩,
   ⟨(some 130), none, (.bin .sub .num (.t 128) (.t 129))⟩,
   ⟨(some 10), none, (.mv (.t 130))⟩]))) .skip))
 tC30))
def tA30 : AC :=
 (.seq
 (.seq
 (.reg [⟨(some 72), none, (.mv (.t 0))⟩,
   ⟨(some 73), none, (.ixSlice 1 (.t 72) (.c (.int .i64 0)))⟩,
   ⟨(some 74), none, (.load1 (.t 73))⟩,
   ⟨(some 75), none, (.bin .and .num (.t 74) (.c (.int .u8 16)))⟩,
   ⟨(some 76), none, (.bin .neq .num (.t 75) (.c (.int .u8 0)))⟩])
 (.cond (.t 76)
 (.seq
 (.reg [⟨(some 77), none, (.mv (.t 0))⟩,
   ⟨(some 78), none, (.mv (.t 4))⟩,
   ⟨(some 79), none, (.bin .add .num (.t 78) (.c (.int .i64 2)))⟩,
   ⟨(some 80), none, (.call 39 [(.t 77), (.t 79), (.c (.int .i64 2))])⟩,
   ⟨(some 81), none, (.conv (.int .i64) (.t 80))⟩,
   ⟨(some 82), none, (.bin .mul .num (.c (.int .i64 4)) (.t 81))⟩,
   ⟨(some 7), none, (.mv (.t 82))⟩])
 (.seq
 (.reg [⟨(some 84), none, (.mv (.t 0))⟩,
   ⟨(some 85), none, (.mv (.t 4))⟩,
   ⟨(some 86), none, (.bin .add .num (.t 85) (.c (.int .i64 4)))⟩,
   ⟨(some 87), none, (.mv (.t 7))⟩,
   ⟨(some 88), none, (.call 40 [(.t 84), (.t 86), (.t 87)])⟩,
   ⟨(some 83), none, (.mv (.t 88))⟩,
   ⟨(some 89), none, (.extract 0 (.t 83))⟩,
   ⟨(some 90), none, (.extract 1 (.t 83))⟩,
   ⟨(some 8), none, (.mv (.t 89))⟩,
   ⟨(some 9), none, (.mv (.t 90))⟩])
 (.seq
 (.seq
 (.reg [⟨(some 91), none, (.mv (.t 9))⟩,
   ⟨(some 92), none, (.un .not (.t 91))⟩])
 (.cond (.t 92)
 (.seq
 (.reg [⟨(some 93), none, (.build [(.bool false), (.int .i64 0), (.int .u16 0), (.int .u32 0), (.int .u32 0), (.slice none 0 0 none), (.int .u16 0), (.slice none 0 0 none), (.slice none 0 0 none)] [])⟩,
   ⟨none, none, (.store 9 (.t 2) (.t 93))⟩,
   ⟨(some 3), none, (.mv (.c (.int .i64 13)))⟩]) .ret) .skip))
 (.seq
 (.reg [⟨(some 94), none, (.mv (.t 0))⟩,
   ⟨(some 95), none, (.mv (.t 4))⟩,
   ⟨(some 96), none, (.call 39 [(.t 94), (.t 95), (.c (.int .i64 2))])⟩,
   ⟨(some 97), none, (.conv (.int .u16) (.t 96))⟩,
   ⟨(some 98), none, (.mv (.t 8))⟩,
   ⟨(some 99), none, (.fieldAddr 6 1 (.t 5))⟩,
   ⟨none, none, (.store 1 (.t 99) (.t 97))⟩,
   ⟨(some 100), none, (.fieldAddr 7 1 (.t 5))⟩,
   ⟨none, none, (.store 1 (.t 100) (.t 98))⟩])
 (.reg [⟨(some 101), none, (.mv (.t 4))⟩,
   ⟨(some 102), none, (.bin .add .num (.t 101) (.c (.int .i64 4)))⟩,
   ⟨(some 103), none, (.mv (.t 7))⟩,
   ⟨(some 104), none, (.bin .add .num (.t 102) (.t 103))⟩,
   ⟨(some 4), none, (.mv (.t 104))⟩]))))) .skip))
 tB30)
section
variable {Sb S : St} {o2 o5 : Nat} {P : Pk} {c e : AV} {T : Tm} {pb : Option (Nat × Nat × Nat)} {eb : Nat} {cb : Option Nat} {l : List Nat}
theorem b0_get (h : By S pb eb l) (hl : 0 < l.length) : ∃ o v i, pb = some (o, v, i) ∧ S.rd o v i 1 = some [.int .u8 (b0 l : Nat)] ∧ b0 l < 256 := by
  obtain ⟨o, v, i, rfl, _, _⟩ := h.some_ hl
  have := h.get (j := 0) hl
  rw [Nat.add_zero] at this
  have hb : b0 l = l[0] := by unfold b0; rw [List.getD_eq_getElem?_getD, List.getElem?_eq_getElem hl]; rfl
  exact ⟨o, v, i, rfl, by rw [hb]; exact this, by rw [hb]; exact h.bd _ (List.getElem_mem hl)⟩
set_option maxHeartbeats 8000000 in
theorem C30 (k : Nat) (R : Rs Sb S o2 o5 P c e) (hb : By Sb pb eb l) (h0 : 0 < l.length) (hpl : P.pl = []) {n m : Nat} (hnm : n ≤ m) (hml : m ≤ l.length) (hl : l.length ≤ 1500) (t0 : T.get 0 = some (.slice pb l.length eb cb)) (t2 : T.get 2 = some (.ptr (some ⟨o2, 0, 0, 9⟩))) (t4 : T.get 4 = some (.int .i64 n)) (t5 : T.get 5 = some (.ptr (some ⟨o5, 0, 0, 9⟩))) (t10 : T.get 10 = some (.int .i64 m)) :
    Goes (evF Y AP k) k tC30 T S (fun r T S2 => ∃ w S3, fin [.cellN 2 9, .tmp 3] (r, T, S2) = some (w, S3) ∧ Ans Sb (finC l P n m) w S3) := by
  have hbS := hb.ext R.ext
  obtain ⟨o, v, i, rfl, hz, hbd⟩ := b0_get hbS h0
  obtain rfl := hb.ez.resolve_left (by simp)
  have hix : ixOf (.int .i64 0) l.length = some 0 := by rw [ix_ok (by omega) (by omega)]; rfl
  have hm0 := hb.mx
  have h16 := (bit16 hbd).1
  have g2 := R.g2; have g5 := R.g5
  have r5 : ∀ v i m, S.rd o5 v i m = rdO (.cells (pkc P c e (.slice none 0 0 none)) 0 0 true) v i m := rd_of g5
  have x := R.ext
  have a2 := R.a2; have a5 := R.a5; have hne := R.ne
  have hne' : ¬ o5 = o2 := fun h => hne h.symm
  unfold finC
  have pay : ∃ p' e' c' S', (∃ ds, aCut 1 (.slice (some (o, v, i)) l.length 1 cb) (some (.int .i64 n)) (some (.int .i64 m)) none = some (.slice (some (o, v, ds)) (m - n) 1 c') ∧ (S.alloc (.cells [] 0 0 true)).rd o v ds (m - n) = some (bv ((l.drop n).take (m - n)))) ∧ aAppend 1 1 (S.alloc (.cells [] 0 0 true)) (.slice (some (S.next, 0, 0)) 0 1 none) (m - n) (bv ((l.drop n).take (m - n))) = some (.slice p' (m - n) e' none, S') ∧ Gr S S' p' e' ((l.drop n).take (m - n)) := by
    have hd : ((l.drop n).take (m - n)).length = m - n := by rw [List.length_take, List.length_drop]; omega
    have bh : bnd (some (.int .i64 (m : Int))) l.length l.length = some m := by simp only [bnd]; rw [if_pos (by omega)]; rfl
    have bl : bnd (some (.int .i64 (n : Int))) 0 m = some n := by simp only [bnd]; rw [if_pos (by omega)]; rfl
    have hs := (hbS.ext (.alloc S (.cells [] 0 0 true))).sub n (m - n) (by omega)
    obtain ⟨p', e', S', h1, h2⟩ := (Gr.empty S).app (m := (l.drop n).take (m - n)) hs.bd (by rw [hd]; simp only [List.length_nil]; omega)
    rw [List.nil_append] at h1 h2
    rw [hd] at h1
    refine ⟨p', e', cb.map (· - n), S', ⟨i + n * 1, by simp [aCut, bh, bl, beq_dec], ?_⟩, h1, h2⟩
    rw [Nat.mul_one]
    have := (hs.at_ o v (i + n) rfl).2
    rwa [hd] at this
  obtain ⟨p', e', c', S', ⟨ds, hcut, hrd⟩, hap, G⟩ := pay
  have hd : ((l.drop n).take (m - n)).length = m - n := by rw [List.length_take, List.length_drop]; omega
  have gx := G.ext
  have gxn := gx.next
  have g5' := gx.get a5.2 g5
  have g2' := gx.get a2.2 g2
  have r5' : ∀ v i m, S'.rd o5 v i m = rdO (.cells (pkc P c e (.slice none 0 0 none)) 0 0 true) v i m := rd_of g5'
  have ans : Ans Sb ({ P with pl := (l.drop n).take (m - n) }, 0) (.tuple [.agg (pkc P c e (.slice p' (m - n) e' none)), .int .i64 0]) ((S'.put o5 (.cells (pkc P c e (.slice p' (m - n) e' none)) 0 0 true)).put o2 (.cells (pkc P c e (.slice p' (m - n) e' none)) 0 0 true)) := by
    have tw : Two S ((S'.put o5 (.cells (pkc P c e (.slice p' (m - n) e' none)) 0 0 true)).put o2 (.cells (pkc P c e (.slice p' (m - n) e' none)) 0 0 true)) o2 o5 := ((Two.of_ext gx o2 o5).trans (.put5 _ _ _ _)).trans (.put2 _ _ _ _)
    have tw' : Two S' ((S'.put o5 (.cells (pkc P c e (.slice p' (m - n) e' none)) 0 0 true)).put o2 (.cells (pkc P c e (.slice p' (m - n) e' none)) 0 0 true)) o2 o5 := (Two.put5 _ _ _ _).trans (.put2 _ _ _ _)
    refine ⟨c, e, .slice p' (m - n) e' none, rfl, R.c _ tw, R.e _ tw, ⟨p', e', none, by show _ = AV.slice p' ((l.drop n).take (m - n)).length e' none; rw [hd], tw'.by_ (G.by_ (by omega)) fun o v i hp => by have := G.new o v i hp; omega⟩, ((x.trans gx).then_put a5.1 _).then_put a2.1 _⟩
  have ansz : ∀ er : Int, Ans Sb (zP, er) (.tuple [.agg (pkc zP (.slice none 0 0 none) (.slice none 0 0 none) (.slice none 0 0 none)), .int .i64 er]) (S.put o2 (.cells (pkc zP (.slice none 0 0 none) (.slice none 0 0 none) (.slice none 0 0 none)) 0 0 true)) := fun er => .z Sb (x.then_put a2.1 _) er
  by_cases c1 : b0 l / 16 % 2 = 1
  · have h16 : Go.bits .and .u8 ((b0 l : Nat) : Int) 16 = 16 := by rw [h16, c1]; rfl
    by_cases c2 : P.pf = 0
    · have c2' := eq_true c2
      rw [if_pos ⟨c1, c2⟩]
      simp -implicitDefEqProofs -dsimp (maxSteps := 10000000) only [tC30, ↓kS, after_some, br_true, br_false, kC, ↓kQ, ↓Option.bind_some, ↓Option.map_some, ↓cond_true, ↓cond_false, evC, evOp, XO.lit, setArgs, Tr.get_set, Option.bind_some, Option.map_some, cond_true, cond_false, maxI, maxFrom, minI, minFrom, aConv, aBinE, aEq, eqScal, aUn, evRes, fin, oneOf, if_true, if_false, callee, reduceCtorEq, Nat.reduceEqDiff, List.getElem?_cons_zero, List.getElem?_cons_succ, beq_self_eq_true, gt_iff_lt, List.head?_cons, AV.undef, eq_self, ne_eq, Int.reduceLT, Int.reduceLE, Int.reduceToNat, Int.reduceEq, Int.reduceNeg, Nat.reduceAdd, Nat.reduceLT, Nat.reduceLeDiff, Nat.reduceMul, Nat.reduceSub, ↓evDraw_nil, bir, putD, evDraw, trace, List.all_cons, List.all_nil, chk, stAt, again, sameV, sameL, sameA, AV.undef, Bool.and_self, Bool.and_true, decide_eq_true_eq, List.getElem?_nil, kM, AV.cells, AV.tup, List.drop_nil, List.append_nil, rdO, St.wr, List.length_cons, List.length_nil, List.take_succ_cons, List.take_zero, List.drop_succ_cons, List.drop_zero, List.cons_append, List.nil_append, Nat.reduceMul, aFill, evParts, rep, List.replicate_succ, List.replicate_zero, List.flatten_cons, List.flatten_nil, List.append_nil, newSl, newVar, evOpt, t0, t2, t4, t5, t10, hix, Nat.mul_one, Nat.zero_mul, Nat.add_zero, hz, h16, r5, c2', g2]
      exact ⟨_, _, rfl, ansz 12⟩
    · rw [if_neg (fun h => c2 h.2)]
      simp -implicitDefEqProofs -dsimp (maxSteps := 10000000) only [tC30, ↓kS, after_some, br_true, br_false, kC, ↓kQ, ↓Option.bind_some, ↓Option.map_some, ↓cond_true, ↓cond_false, evC, evOp, XO.lit, setArgs, Tr.get_set, Option.bind_some, Option.map_some, cond_true, cond_false, maxI, maxFrom, minI, minFrom, aConv, aBinE, aEq, eqScal, aUn, evRes, fin, oneOf, if_true, if_false, callee, reduceCtorEq, Nat.reduceEqDiff, List.getElem?_cons_zero, List.getElem?_cons_succ, beq_self_eq_true, gt_iff_lt, List.head?_cons, AV.undef, eq_self, ne_eq, Int.reduceLT, Int.reduceLE, Int.reduceToNat, Int.reduceEq, Int.reduceNeg, Nat.reduceAdd, Nat.reduceLT, Nat.reduceLeDiff, Nat.reduceMul, Nat.reduceSub, ↓evDraw_nil, bir, putD, evDraw, trace, List.all_cons, List.all_nil, chk, stAt, again, sameV, sameL, sameA, AV.undef, Bool.and_self, Bool.and_true, decide_eq_true_eq, List.getElem?_nil, kM, AV.cells, AV.tup, List.drop_nil, List.append_nil, rdO, St.wr, List.length_cons, List.length_nil, List.take_succ_cons, List.take_zero, List.drop_succ_cons, List.drop_zero, List.cons_append, List.nil_append, Nat.reduceMul, aFill, evParts, rep, List.replicate_succ, List.replicate_zero, List.flatten_cons, List.flatten_nil, List.append_nil, newSl, newVar, evOpt, t0, t2, t4, t5, t10, hix, Nat.zero_mul, Nat.add_zero, hz, h16, r5, c2, hcut, Nat.mul_one, hrd, hap, g5', r5', hne, hne', g2']
      exact ⟨_, _, rfl, ans⟩
  · have h16' : b0 l / 16 % 2 = 0 := by omega
    have h16 : Go.bits .and .u8 ((b0 l : Nat) : Int) 16 = 0 := by rw [h16, h16']; rfl
    rw [if_neg (fun h => c1 h.1)]
    simp -implicitDefEqProofs -dsimp (maxSteps := 10000000) only [tC30, ↓kS, after_some, br_true, br_false, kC, ↓kQ, ↓Option.bind_some, ↓Option.map_some, ↓cond_true, ↓cond_false, evC, evOp, XO.lit, setArgs, Tr.get_set, Option.bind_some, Option.map_some, cond_true, cond_false, maxI, maxFrom, minI, minFrom, aConv, aBinE, aEq, eqScal, aUn, evRes, fin, oneOf, if_true, if_false, callee, reduceCtorEq, Nat.reduceEqDiff, List.getElem?_cons_zero, List.getElem?_cons_succ, beq_self_eq_true, gt_iff_lt, List.head?_cons, AV.undef, eq_self, ne_eq, Int.reduceLT, Int.reduceLE, Int.reduceToNat, Int.reduceEq, Int.reduceNeg, Nat.reduceAdd, Nat.reduceLT, Nat.reduceLeDiff, Nat.reduceMul, Nat.reduceSub, ↓evDraw_nil, bir, putD, evDraw, trace, List.all_cons, List.all_nil, chk, stAt, again, sameV, sameL, sameA, AV.undef, Bool.and_self, Bool.and_true, decide_eq_true_eq, List.getElem?_nil, kM, AV.cells, AV.tup, List.drop_nil, List.append_nil, rdO, St.wr, List.length_cons, List.length_nil, List.take_succ_cons, List.take_zero, List.drop_succ_cons, List.drop_zero, List.cons_append, List.nil_append, Nat.reduceMul, aFill, evParts, rep, List.replicate_succ, List.replicate_zero, List.flatten_cons, List.flatten_nil, List.append_nil, newSl, newVar, evOpt, t0, t2, t4, t5, t10, hix, Nat.zero_mul, Nat.add_zero, hz, h16, hcut, Nat.mul_one, hrd, hap, g5', r5', hne, hne', g2']
    exact ⟨_, _, rfl, ans⟩
set_option maxHeartbeats 8000000 in
theorem B30 (k : Nat) {Q : Ex → Tm → St → Prop} (R : Rs Sb S o2 o5 P c e) (hb : By Sb pb eb l) (h0 : 0 < l.length) (hpl : P.pl = []) {n : Nat} (hn : n ≤ l.length) (hl : l.length ≤ 1500) (t0 : T.get 0 = some (.slice pb l.length eb cb)) (t2 : T.get 2 = some (.ptr (some ⟨o2, 0, 0, 9⟩))) (t4 : T.get 4 = some (.int .i64 n)) (t5 : T.get 5 = some (.ptr (some ⟨o5, 0, 0, 9⟩)))  (hQ : ∀ r T S2, (∃ w S3, fin [.cellN 2 9, .tmp 3] (r, T, S2) = some (w, S3) ∧ Ans Sb (finB l P n) w S3) → Q r T S2) :
    Goes (evF Y AP k) k tB30 T S Q := by
  have hbS := hb.ext R.ext
  obtain ⟨o, v, i, rfl, hz, hbd⟩ := b0_get hbS h0
  obtain rfl := hb.ez.resolve_left (by simp)
  have hix : ixOf (.int .i64 0) l.length = some 0 := by rw [ix_ok (by omega) (by omega)]; rfl
  have hm0 := hb.mx
  have h32 := (bit32 hbd).1
  have g2 := R.g2
  have a2 := R.a2
  have ansz : ∀ er : Int, Ans Sb (zP, er) (.tuple [.agg (pkc zP (.slice none 0 0 none) (.slice none 0 0 none) (.slice none 0 0 none)), .int .i64 er]) (S.put o2 (.cells (pkc zP (.slice none 0 0 none) (.slice none 0 0 none) (.slice none 0 0 none)) 0 0 true)) := fun er => .z Sb (R.ext.then_put a2.1 _) er
  unfold finB at hQ
  by_cases c1 : b0 l / 32 % 2 = 1
  · have h32 : Go.bits .and .u8 ((b0 l : Nat) : Int) 32 = 32 := by rw [h32, c1]; rfl
    rw [if_pos c1] at hQ
    have w1 : IntKind.i64.wrap ((l.length : Int) - 1) = ((l.length - 1 : Nat) : Int) := by rw [w64_id (by omega) (by omega)]; omega
    have hix2 : ixOf (.int .i64 ((l.length - 1 : Nat) : Int)) l.length = some (l.length - 1) := by rw [ix_ok (by omega) (by omega)]; rfl
    have hlast : l.getD (l.length - 1) 0 = l[l.length - 1] := by rw [List.getD_eq_getElem?_getD, List.getElem?_eq_getElem (by omega)]; rfl
    have hz2 := hbS.get (j := l.length - 1) (by omega)
    have hb2 := hb.bd _ (List.getElem_mem (show l.length - 1 < l.length by omega))
    rw [← hlast] at hz2 hb2
    obtain ⟨d, hd⟩ : ∃ d, l.getD (l.length - 1) 0 = d := ⟨_, rfl⟩
    rw [hd] at hz2 hb2
    rw [hd] at hQ
    have w2 : IntKind.i64.wrap (d : Int) = (d : Int) := w64_id (by omega) (by omega)
    have w3 : IntKind.i64.wrap ((l.length : Int) - n) = ((l.length - n : Nat) : Int) := by rw [w64_id (by omega) (by omega)]; omega
    by_cases c2 : d = 0
    · have c2' : ((d : Int) = 0) = True := eq_true (by omega)
      rw [if_pos (.inl c2)] at hQ
      simp -implicitDefEqProofs -dsimp (maxSteps := 10000000) only [tB30, ↓kS, after_some, br_true, br_false, kC, ↓kQ, ↓Option.bind_some, ↓Option.map_some, ↓cond_true, ↓cond_false, evC, evOp, XO.lit, setArgs, Tr.get_set, Option.bind_some, Option.map_some, cond_true, cond_false, maxI, maxFrom, minI, minFrom, aConv, aBinE, aEq, eqScal, aUn, evRes, fin, oneOf, if_true, if_false, callee, reduceCtorEq, Nat.reduceEqDiff, List.getElem?_cons_zero, List.getElem?_cons_succ, beq_self_eq_true, gt_iff_lt, List.head?_cons, AV.undef, eq_self, ne_eq, Int.reduceLT, Int.reduceLE, Int.reduceToNat, Int.reduceEq, Int.reduceNeg, Nat.reduceAdd, Nat.reduceLT, Nat.reduceLeDiff, Nat.reduceMul, Nat.reduceSub, ↓evDraw_nil, bir, putD, evDraw, trace, List.all_cons, List.all_nil, chk, stAt, again, sameV, sameL, sameA, AV.undef, Bool.and_self, Bool.and_true, decide_eq_true_eq, List.getElem?_nil, kM, AV.cells, AV.tup, List.drop_nil, List.append_nil, rdO, St.wr, List.length_cons, List.length_nil, List.take_succ_cons, List.take_zero, List.drop_succ_cons, List.drop_zero, List.cons_append, List.nil_append, Nat.reduceMul, aFill, evParts, rep, List.replicate_succ, List.replicate_zero, List.flatten_cons, List.flatten_nil, List.append_nil, newSl, newVar, t0, t2, t4, t5, hm0, hix, Nat.mul_one, Nat.zero_mul, Nat.add_zero, hz, h32, w1, hix2, hz2, w2, c2', g2]
      refine hQ _ _ _ ?_
      simp -implicitDefEqProofs -dsimp (maxSteps := 10000000) only [kC, ↓kQ, ↓Option.bind_some, ↓Option.map_some, ↓cond_true, ↓cond_false, evC, evOp, XO.lit, setArgs, Tr.get_set, Option.bind_some, Option.map_some, cond_true, cond_false, maxI, maxFrom, minI, minFrom, aConv, aBinE, aEq, eqScal, aUn, evRes, fin, oneOf, if_true, if_false, callee, reduceCtorEq, Nat.reduceEqDiff, List.getElem?_cons_zero, List.getElem?_cons_succ, beq_self_eq_true, gt_iff_lt, List.head?_cons, AV.undef, eq_self, ne_eq, Int.reduceLT, Int.reduceLE, Int.reduceToNat, Int.reduceEq, Int.reduceNeg, Nat.reduceAdd, Nat.reduceLT, Nat.reduceLeDiff, Nat.reduceMul, Nat.reduceSub, kM, AV.cells, AV.tup, List.drop_nil, List.append_nil, rdO, St.wr, List.length_cons, List.length_nil, List.take_succ_cons, List.take_zero, List.drop_succ_cons, List.drop_zero, List.cons_append, List.nil_append, Nat.reduceMul, t2]
      exact ⟨_, _, rfl, ansz 13⟩
    · have c2' : ¬ (d : Int) = 0 := by omega
      by_cases c3 : l.length - n < d
      · have c3' : ((l.length - n : Nat) : Int) < (d : Int) := by omega
        rw [if_pos (.inr c3)] at hQ
        simp -implicitDefEqProofs -dsimp (maxSteps := 10000000) only [tB30, ↓kS, after_some, br_true, br_false, kC, ↓kQ, ↓Option.bind_some, ↓Option.map_some, ↓cond_true, ↓cond_false, evC, evOp, XO.lit, setArgs, Tr.get_set, Option.bind_some, Option.map_some, cond_true, cond_false, maxI, maxFrom, minI, minFrom, aConv, aBinE, aEq, eqScal, aUn, evRes, fin, oneOf, if_true, if_false, callee, reduceCtorEq, Nat.reduceEqDiff, List.getElem?_cons_zero, List.getElem?_cons_succ, beq_self_eq_true, gt_iff_lt, List.head?_cons, AV.undef, eq_self, ne_eq, Int.reduceLT, Int.reduceLE, Int.reduceToNat, Int.reduceEq, Int.reduceNeg, Nat.reduceAdd, Nat.reduceLT, Nat.reduceLeDiff, Nat.reduceMul, Nat.reduceSub, ↓evDraw_nil, bir, putD, evDraw, trace, List.all_cons, List.all_nil, chk, stAt, again, sameV, sameL, sameA, AV.undef, Bool.and_self, Bool.and_true, decide_eq_true_eq, List.getElem?_nil, kM, AV.cells, AV.tup, List.drop_nil, List.append_nil, rdO, St.wr, List.length_cons, List.length_nil, List.take_succ_cons, List.take_zero, List.drop_succ_cons, List.drop_zero, List.cons_append, List.nil_append, Nat.reduceMul, aFill, evParts, rep, List.replicate_succ, List.replicate_zero, List.flatten_cons, List.flatten_nil, List.append_nil, newSl, newVar, t0, t2, t4, t5, hm0, hix, Nat.mul_one, Nat.zero_mul, Nat.add_zero, hz, h32, w1, hix2, hz2, w2, c2', w3, c3', g2]
        refine hQ _ _ _ ?_
        simp -implicitDefEqProofs -dsimp (maxSteps := 10000000) only [kC, ↓kQ, ↓Option.bind_some, ↓Option.map_some, ↓cond_true, ↓cond_false, evC, evOp, XO.lit, setArgs, Tr.get_set, Option.bind_some, Option.map_some, cond_true, cond_false, maxI, maxFrom, minI, minFrom, aConv, aBinE, aEq, eqScal, aUn, evRes, fin, oneOf, if_true, if_false, callee, reduceCtorEq, Nat.reduceEqDiff, List.getElem?_cons_zero, List.getElem?_cons_succ, beq_self_eq_true, gt_iff_lt, List.head?_cons, AV.undef, eq_self, ne_eq, Int.reduceLT, Int.reduceLE, Int.reduceToNat, Int.reduceEq, Int.reduceNeg, Nat.reduceAdd, Nat.reduceLT, Nat.reduceLeDiff, Nat.reduceMul, Nat.reduceSub, kM, AV.cells, AV.tup, List.drop_nil, List.append_nil, rdO, St.wr, List.length_cons, List.length_nil, List.take_succ_cons, List.take_zero, List.drop_succ_cons, List.drop_zero, List.cons_append, List.nil_append, Nat.reduceMul, t2]
        exact ⟨_, _, rfl, ansz 13⟩
      · have c3' : ¬ ((l.length - n : Nat) : Int) < (d : Int) := by omega
        rw [if_neg (by omega)] at hQ
        have w4 : IntKind.i64.wrap ((l.length : Int) - d) = ((l.length - d : Nat) : Int) := by rw [w64_id (by omega) (by omega)]; omega
        simp -implicitDefEqProofs -dsimp (maxSteps := 10000000) only [tB30, ↓kS, after_some, br_true, br_false, kC, ↓kQ, ↓Option.bind_some, ↓Option.map_some, ↓cond_true, ↓cond_false, evC, evOp, XO.lit, setArgs, Tr.get_set, Option.bind_some, Option.map_some, cond_true, cond_false, maxI, maxFrom, minI, minFrom, aConv, aBinE, aEq, eqScal, aUn, evRes, fin, oneOf, if_true, if_false, callee, reduceCtorEq, Nat.reduceEqDiff, List.getElem?_cons_zero, List.getElem?_cons_succ, beq_self_eq_true, gt_iff_lt, List.head?_cons, AV.undef, eq_self, ne_eq, Int.reduceLT, Int.reduceLE, Int.reduceToNat, Int.reduceEq, Int.reduceNeg, Nat.reduceAdd, Nat.reduceLT, Nat.reduceLeDiff, Nat.reduceMul, Nat.reduceSub, ↓evDraw_nil, bir, putD, evDraw, trace, List.all_cons, List.all_nil, chk, stAt, again, sameV, sameL, sameA, AV.undef, Bool.and_self, Bool.and_true, decide_eq_true_eq, List.getElem?_nil, kM, AV.cells, AV.tup, List.drop_nil, List.append_nil, rdO, St.wr, List.length_cons, List.length_nil, List.take_succ_cons, List.take_zero, List.drop_succ_cons, List.drop_zero, List.cons_append, List.nil_append, Nat.reduceMul, aFill, evParts, rep, List.replicate_succ, List.replicate_zero, List.flatten_cons, List.flatten_nil, List.append_nil, newSl, newVar, t0, t2, t4, t5, hm0, hix, Nat.mul_one, Nat.zero_mul, Nat.add_zero, hz, h32, w1, hix2, hz2, w2, c2', w3, c3', w4]
        refine (C30 k R hb h0 hpl (n := n) (m := l.length - d) (by omega) (by omega) hl (cb := cb) ?_ ?_ ?_ ?_ ?_).mono hQ <;> simp only [Tr.get_set, Nat.reduceEqDiff, if_false, if_true, t0, t2, t4, t5]
  · have h32' : b0 l / 32 % 2 = 0 := by omega
    have h32 : Go.bits .and .u8 ((b0 l : Nat) : Int) 32 = 0 := by rw [h32, h32']; rfl
    rw [if_neg c1] at hQ
    simp -implicitDefEqProofs -dsimp (maxSteps := 10000000) only [tB30, ↓kS, after_some, br_true, br_false, kC, ↓kQ, ↓Option.bind_some, ↓Option.map_some, ↓cond_true, ↓cond_false, evC, evOp, XO.lit, setArgs, Tr.get_set, Option.bind_some, Option.map_some, cond_true, cond_false, maxI, maxFrom, minI, minFrom, aConv, aBinE, aEq, eqScal, aUn, evRes, fin, oneOf, if_true, if_false, callee, reduceCtorEq, Nat.reduceEqDiff, List.getElem?_cons_zero, List.getElem?_cons_succ, beq_self_eq_true, gt_iff_lt, List.head?_cons, AV.undef, eq_self, ne_eq, Int.reduceLT, Int.reduceLE, Int.reduceToNat, Int.reduceEq, Int.reduceNeg, Nat.reduceAdd, Nat.reduceLT, Nat.reduceLeDiff, Nat.reduceMul, Nat.reduceSub, ↓evDraw_nil, bir, putD, evDraw, trace, List.all_cons, List.all_nil, chk, stAt, again, sameV, sameL, sameA, AV.undef, Bool.and_self, Bool.and_true, decide_eq_true_eq, List.getElem?_nil, kM, AV.cells, AV.tup, List.drop_nil, List.append_nil, rdO, St.wr, List.length_cons, List.length_nil, List.take_succ_cons, List.take_zero, List.drop_succ_cons, List.drop_zero, List.cons_append, List.nil_append, Nat.reduceMul, aFill, evParts, rep, List.replicate_succ, List.replicate_zero, List.flatten_cons, List.flatten_nil, List.append_nil, newSl, newVar, t0, t2, t4, t5, hm0, hix, Nat.mul_one, Nat.zero_mul, Nat.add_zero, hz, h32]
    refine (C30 k R hb h0 hpl (n := n) (m := l.length) hn (Nat.le_refl _) hl (cb := cb) ?_ ?_ ?_ ?_ ?_).mono hQ <;> simp only [Tr.get_set, Nat.reduceEqDiff, if_false, if_true, t0, t2, t4, t5]
theorem Rs.ext_ (R : Rs Sb S o2 o5 P c e) {S' : St} (x : Ext S S') : Rs Sb S' o2 o5 P c e :=
  ⟨R.ext.trans x, ⟨R.a2.1, Nat.lt_of_lt_of_le R.a2.2 x.next⟩, ⟨R.a5.1, Nat.lt_of_lt_of_le R.a5.2 x.next⟩, R.ne, x.get R.a2.2 R.g2, x.get R.a5.2 R.g5, fun S'' h => R.c S'' ((Two.of_ext x o2 o5).trans h), fun S'' h => R.e S'' ((Two.of_ext x o2 o5).trans h)⟩
theorem getL_lt2 (hb : Byt l) (a : Int) : getL l a 2 < 65536 := by
  unfold getL
  split
  · rename_i h
    have h1 := hvF_lt (cutL l a 2) 0 0 (cutL_byt hb a 2) (by decide)
    rw [cutL_len h.1] at h1
    exact h1
  · decide
set_option maxHeartbeats 16000000 in
theorem A30 (k : Nat) {Q : Ex → Tm → St → Prop} (R : Rs Sb S o2 o5 P c e) (hb : By Sb pb eb l) (h0 : 0 < l.length) (hpl : P.pl = []) (hpf : P.pf = 0) (hex : P.ex = []) {n : Nat} (hn : n ≤ l.length) (hl : l.length ≤ 1500) (t0 : T.get 0 = some (.slice pb l.length eb cb)) (t2 : T.get 2 = some (.ptr (some ⟨o2, 0, 0, 9⟩))) (t4 : T.get 4 = some (.int .i64 n)) (t5 : T.get 5 = some (.ptr (some ⟨o5, 0, 0, 9⟩))) (hQ : ∀ r T S2, (∃ w S3, fin [.cellN 2 9, .tmp 3] (r, T, S2) = some (w, S3) ∧ Ans Sb (finA l P n) w S3) → Q r T S2) :
    Goes (evF Y AP (k + 21)) (k + 21) tA30 T S Q := by
  have hbS := hb.ext R.ext
  obtain ⟨o, v, i, rfl, hz, hbd⟩ := b0_get hbS h0
  obtain rfl := hb.ez.resolve_left (by simp)
  have hix : ixOf (.int .i64 0) l.length = some 0 := by rw [ix_ok (by omega) (by omega)]; rfl
  have hm0 := hb.mx
  have h16 := (bit16 hbd).1
  unfold finA at hQ
  by_cases c1 : b0 l / 16 % 2 = 1
  rotate_left
  · have h16' : b0 l / 16 % 2 = 0 := by omega
    have h16 : Go.bits .and .u8 ((b0 l : Nat) : Int) 16 = 0 := by rw [h16, h16']; rfl
    rw [if_neg c1] at hQ
    simp -implicitDefEqProofs -dsimp (maxSteps := 10000000) only [tA30, ↓kS, after_some, br_true, br_false, kC, ↓kQ, ↓Option.bind_some, ↓Option.map_some, ↓cond_true, ↓cond_false, evC, evOp, XO.lit, setArgs, Tr.get_set, Option.bind_some, Option.map_some, cond_true, cond_false, maxI, maxFrom, minI, minFrom, aConv, aBinE, aEq, eqScal, aUn, evRes, fin, oneOf, if_true, if_false, callee, reduceCtorEq, Nat.reduceEqDiff, List.getElem?_cons_zero, List.getElem?_cons_succ, beq_self_eq_true, gt_iff_lt, List.head?_cons, AV.undef, eq_self, ne_eq, Int.reduceLT, Int.reduceLE, Int.reduceToNat, Int.reduceEq, Int.reduceNeg, Nat.reduceAdd, Nat.reduceLT, Nat.reduceLeDiff, Nat.reduceMul, Nat.reduceSub, ↓evDraw_nil, bir, putD, evDraw, trace, List.all_cons, List.all_nil, chk, stAt, again, sameV, sameL, sameA, AV.undef, Bool.and_self, Bool.and_true, decide_eq_true_eq, List.getElem?_nil, kM, AV.cells, AV.tup, List.drop_nil, List.append_nil, rdO, St.wr, List.length_cons, List.length_nil, List.take_succ_cons, List.take_zero, List.drop_succ_cons, List.drop_zero, List.cons_append, List.nil_append, Nat.reduceMul, aFill, evParts, rep, List.replicate_succ, List.replicate_zero, List.flatten_cons, List.flatten_nil, List.append_nil, newSl, newVar, t0, t2, t4, t5, hm0, hix, Nat.mul_one, Nat.zero_mul, Nat.add_zero, hz, h16]
    refine B30 (k + 21) R hb h0 hpl (n := n) hn hl (cb := cb) ?_ ?_ ?_ ?_ hQ <;> simp only [Tr.get_set, Nat.reduceEqDiff, if_false, if_true, t0, t2, t4, t5]
  · have h16 : Go.bits .and .u8 ((b0 l : Nat) : Int) 16 = 16 := by rw [h16, c1]; rfl
    rw [if_pos c1] at hQ
    obtain ⟨w, hw⟩ : ∃ w, getL l ((n + 2 : Nat) : Int) 2 = w := ⟨_, rfl⟩
    obtain ⟨f, hf⟩ : ∃ f, getL l (n : Int) 2 = f := ⟨_, rfl⟩
    have hwl : w < 65536 := hw ▸ getL_lt2 hb.bd _
    have hfl : f < 65536 := hf ▸ getL_lt2 hb.bd _
    rw [hw, hf] at hQ
    have w1 : IntKind.i64.wrap ((n : Int) + 2) = ((n + 2 : Nat) : Int) := w64_id (by omega) (by omega)
    have w2 : IntKind.i64.wrap (w : Int) = (w : Int) := w64_id (by omega) (by omega)
    have w3 : IntKind.i64.wrap (4 * (w : Int)) = ((4 * w : Nat) : Int) := w64_id (by omega) (by omega)
    have w4 : IntKind.i64.wrap ((n : Int) + 4) = ((n + 4 : Nat) : Int) := w64_id (by omega) (by omega)
    have w5 : IntKind.u16.wrap (f : Int) = (f : Int) := u16_id (by omega) (by omega)
    have w6 : IntKind.i64.wrap (((n + 4 : Nat) : Int) + ((4 * w : Nat) : Int)) = ((n + 4 + 4 * w : Nat) : Int) := w64_id (by omega) (by omega)
    have q1 := T39 k (c := cb) hbS (by omega) (a := ((n + 2 : Nat) : Int)) (n := 2) ⟨by omega, by omega⟩ ⟨by decide, by decide⟩
    rw [hw] at q1
    obtain ⟨p8, e8, S1, q2, G⟩ := T40n (k + 17) (c := cb) hbS (by omega) (a := ((n + 4 : Nat) : Int)) (n := ((4 * w : Nat) : Int)) ⟨by omega, by omega⟩ ⟨by omega, by omega⟩
    have q2 : evF Y AP (k + 21) 40 [.slice (some (o, v, i)) l.length 1 cb, .int .i64 ((n + 4 : Nat) : Int), .int .i64 ((4 * w : Nat) : Int)] S = _ := q2
    have R1 := R.ext_ G.ext
    have q3 := T39 k (c := cb) (hb.ext R1.ext) (by omega) (a := (n : Int)) (n := 2) ⟨by omega, by omega⟩ ⟨by decide, by decide⟩
    rw [hf] at q3
    obtain ⟨X, hX⟩ : ∃ X, cutL l ((n + 4 : Nat) : Int) ((4 * w : Nat) : Int) = X := ⟨_, rfl⟩
    rw [hX] at q2 G hQ
    have g2 := R1.g2; have g5 := R1.g5
    have a2 := R.a2; have a5 := R.a5; have hne := R.ne
    by_cases c2 : cutOk l ((n + 4 : Nat) : Int) ((4 * w : Nat) : Int)
    rotate_left
    · rw [decide_eq_false c2] at q2
      rw [if_neg c2] at hQ
      simp -implicitDefEqProofs -dsimp (maxSteps := 10000000) only [tA30, ↓kS, after_some, br_true, br_false, kC, ↓kQ, ↓Option.bind_some, ↓Option.map_some, ↓cond_true, ↓cond_false, evC, evOp, XO.lit, setArgs, Tr.get_set, Option.bind_some, Option.map_some, cond_true, cond_false, maxI, maxFrom, minI, minFrom, aConv, aBinE, aEq, eqScal, aUn, evRes, fin, oneOf, if_true, if_false, callee, reduceCtorEq, Nat.reduceEqDiff, List.getElem?_cons_zero, List.getElem?_cons_succ, beq_self_eq_true, gt_iff_lt, List.head?_cons, AV.undef, eq_self, ne_eq, Int.reduceLT, Int.reduceLE, Int.reduceToNat, Int.reduceEq, Int.reduceNeg, Nat.reduceAdd, Nat.reduceLT, Nat.reduceLeDiff, Nat.reduceMul, Nat.reduceSub, ↓evDraw_nil, bir, putD, evDraw, trace, List.all_cons, List.all_nil, chk, stAt, again, sameV, sameL, sameA, AV.undef, Bool.and_self, Bool.and_true, decide_eq_true_eq, List.getElem?_nil, kM, AV.cells, AV.tup, List.drop_nil, List.append_nil, rdO, St.wr, List.length_cons, List.length_nil, List.take_succ_cons, List.take_zero, List.drop_succ_cons, List.drop_zero, List.cons_append, List.nil_append, Nat.reduceMul, aFill, evParts, rep, List.replicate_succ, List.replicate_zero, List.flatten_cons, List.flatten_nil, List.append_nil, newSl, newVar, t0, t2, t4, t5, hm0, hix, Nat.mul_one, Nat.zero_mul, Nat.add_zero, hz, h16, w1, q1, w2, w3, w4, q2, Bool.not_false, g2]
      refine hQ _ _ _ ?_
      simp -implicitDefEqProofs -dsimp (maxSteps := 10000000) only [kC, ↓kQ, ↓Option.bind_some, ↓Option.map_some, ↓cond_true, ↓cond_false, evC, evOp, XO.lit, setArgs, Tr.get_set, Option.bind_some, Option.map_some, cond_true, cond_false, maxI, maxFrom, minI, minFrom, aConv, aBinE, aEq, eqScal, aUn, evRes, fin, oneOf, if_true, if_false, callee, reduceCtorEq, Nat.reduceEqDiff, List.getElem?_cons_zero, List.getElem?_cons_succ, beq_self_eq_true, gt_iff_lt, List.head?_cons, AV.undef, eq_self, ne_eq, Int.reduceLT, Int.reduceLE, Int.reduceToNat, Int.reduceEq, Int.reduceNeg, Nat.reduceAdd, Nat.reduceLT, Nat.reduceLeDiff, Nat.reduceMul, Nat.reduceSub, kM, AV.cells, AV.tup, List.drop_nil, List.append_nil, rdO, St.wr, List.length_cons, List.length_nil, List.take_succ_cons, List.take_zero, List.drop_succ_cons, List.drop_zero, List.cons_append, List.nil_append, Nat.reduceMul, t2]
      exact ⟨_, _, rfl, .z Sb (R1.ext.then_put a2.1 _) 13⟩
    · rw [decide_eq_true c2] at q2
      rw [if_pos c2] at hQ
      have hXl : X.length ≤ 1500 := by rw [← hX, cutL_len c2]; unfold cutOk at c2; omega
      obtain ⟨S2, hS2⟩ : ∃ S2, (S1.put o5 (.cells [.bool P.mrk, .int .i64 P.ty, .int .u16 P.sq, .int .u32 P.tm, .int .u32 P.ss, c, .int .u16 f, e, .slice none 0 0 none] 0 0 true)).put o5 (.cells [.bool P.mrk, .int .i64 P.ty, .int .u16 P.sq, .int .u32 P.tm, .int .u32 P.ss, c, .int .u16 f, .slice p8 X.length e8 none, .slice none 0 0 none] 0 0 true) = S2 := ⟨_, rfl⟩
      have tw : Two S1 S2 o2 o5 := by rw [← hS2]; exact (Two.put5 _ _ _ _).trans (.put5 _ _ _ _)
      have n2 : S2.next = S1.next := by rw [← hS2]; rfl
      have R2 : Rs Sb S2 o2 o5 { P with pf := (f : Int), ex := X } c (.slice p8 X.length e8 none) := by
        refine ⟨by rw [← hS2]; exact (R1.ext.then_put a5.1 _).then_put a5.1 _, by rw [n2]; exact R1.a2, by rw [n2]; exact R1.a5, hne, ?_, ?_, fun S' h => R1.c S' (tw.trans h), fun S' h => ?_⟩
        · rw [← hS2, St.get_put, if_neg hne, St.get_put, if_neg hne]; exact g2
        · rw [← hS2, St.get_put, if_pos rfl]
        · exact ⟨p8, e8, none, rfl, (tw.trans h).by_ (G.by_ (by omega)) fun o w i hp => by have := G.new o w i hp; omega⟩
      simp -implicitDefEqProofs -dsimp (maxSteps := 10000000) only [tA30, ↓kS, after_some, br_true, br_false, kC, ↓kQ, ↓Option.bind_some, ↓Option.map_some, ↓cond_true, ↓cond_false, evC, evOp, XO.lit, setArgs, Tr.get_set, Option.bind_some, Option.map_some, cond_true, cond_false, maxI, maxFrom, minI, minFrom, aConv, aBinE, aEq, eqScal, aUn, evRes, fin, oneOf, if_true, if_false, callee, reduceCtorEq, Nat.reduceEqDiff, List.getElem?_cons_zero, List.getElem?_cons_succ, beq_self_eq_true, gt_iff_lt, List.head?_cons, AV.undef, eq_self, ne_eq, Int.reduceLT, Int.reduceLE, Int.reduceToNat, Int.reduceEq, Int.reduceNeg, Nat.reduceAdd, Nat.reduceLT, Nat.reduceLeDiff, Nat.reduceMul, Nat.reduceSub, ↓evDraw_nil, bir, putD, evDraw, trace, List.all_cons, List.all_nil, chk, stAt, again, sameV, sameL, sameA, AV.undef, Bool.and_self, Bool.and_true, decide_eq_true_eq, List.getElem?_nil, kM, AV.cells, AV.tup, List.drop_nil, List.append_nil, rdO, St.wr, List.length_cons, List.length_nil, List.take_succ_cons, List.take_zero, List.drop_succ_cons, List.drop_zero, List.cons_append, List.nil_append, Nat.reduceMul, aFill, evParts, rep, List.replicate_succ, List.replicate_zero, List.flatten_cons, List.flatten_nil, List.append_nil, newSl, newVar, t0, t2, t4, t5, hm0, hix, Nat.mul_one, Nat.zero_mul, Nat.add_zero, hz, h16, w1, q1, w2, w3, w4, q2, Bool.not_true, q3, w5, g5, hS2, w6]
      have hle : n + 4 + 4 * w ≤ l.length := by unfold cutOk at c2; omega
      refine B30 (k + 21) R2 hb h0 hpl (n := n + 4 + 4 * w) hle hl (cb := cb) ?_ ?_ ?_ ?_ hQ <;> simp only [Tr.get_set, Nat.reduceEqDiff, if_false, if_true, t0, t2, t4, t5]
end
end Go.Proofs.YthejkmfmcjpfhaaA
