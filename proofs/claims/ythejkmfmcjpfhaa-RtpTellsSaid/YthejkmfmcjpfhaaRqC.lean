/- Chapter 3: the sources read, by the reference. Chapter 3: the program's reader. Chapter 3: the program's Read. Chapter 3: the program's Read, behind its loop. Chapter 3: the program's Read. -/
import Derived.Test.YthejkmfmcjpfhaaRqB
set_option linter.unusedVariables false
set_option linter.unusedSimpArgs false
set_option maxRecDepth 10000
namespace Go.Proofs.YthejkmfmcjpfhaaA
open Go.RowKit
attribute [local congr] bind_congr1 map_congr1 cond_congr1 withX_congr after_congr br_congr gd_congr
theorem Vec.els {S S' : St} {p : Option (Nat × Nat × Nat)} {len esz z : Nat} {c : List AV} (h : Vec S p len esz z c) (hn : S.next ≤ S'.next) (hg : ∀ o v i, p = some (o, v, i) → o < S.next → S'.get o = S.get o) : Vec S' p len esz z c :=
  ⟨h.ez, h.sz, h.at_.imp_right fun ⟨o, ver, minv, h1, h2, h3, h4⟩ => ⟨o, ver, minv, h1, Nat.lt_of_lt_of_le h2 hn, by rw [hg o ver 0 h1 h2]; exact h3, h4⟩⟩
/-- A packet whose sources grow. N: what is taken by others. -/
structure Cs (Sb S : St) (N : Nat → Prop) (o2 o5 : Nat) (P : Pk) (p : Option (Nat × Nat × Nat)) (e : Nat) (cs : List Int) : Prop where
  ext : Ext Sb S
  a2 : Sb.next ≤ o2 ∧ o2 < S.next
  a5 : Sb.next ≤ o5 ∧ o5 < S.next
  ne : ¬ o2 = o5
  n2 : N o2
  n5 : N o5
  nN : ∀ o, N o → o < S.next
  g2 : S.get o2 = some (.cells (pkc zP (.slice none 0 0 none) (.slice none 0 0 none) (.slice none 0 0 none)) 0 0 true)
  g5 : S.get o5 = some (.cells (pkc P (.slice p cs.length e none) (.slice none 0 0 none) (.slice none 0 0 none)) 0 0 true)
  vec : Vec S p cs.length 1 e (uv cs)
  new : ∀ o v i, p = some (o, v, i) → Sb.next ≤ o ∧ ¬ N o
  bd : Wrd cs
theorem Cs.more {Sb S S' : St} {N : Nat → Prop} {o2 o5 : Nat} {P : Pk} {p : Option (Nat × Nat × Nat)} {e : Nat} {cs : List Int} (h : Cs Sb S N o2 o5 P p e cs) (x : Ext S S') : Cs Sb S' N o2 o5 P p e cs :=
  ⟨h.ext.trans x, ⟨h.a2.1, Nat.lt_of_lt_of_le h.a2.2 x.next⟩, ⟨h.a5.1, Nat.lt_of_lt_of_le h.a5.2 x.next⟩, h.ne, h.n2, h.n5, fun o ho => Nat.lt_of_lt_of_le (h.nN o ho) x.next, x.get h.a2.2 h.g2, x.get h.a5.2 h.g5, h.vec.ext x, h.new, h.bd⟩
theorem Cs.put4 {Sb S : St} {N : Nat → Prop} {o2 o5 o4 : Nat} {P : Pk} {p : Option (Nat × Nat × Nat)} {e : Nat} {cs : List Int} (h : Cs Sb S N o2 o5 P p e cs) (hN : N o4) (h4 : Sb.next ≤ o4) (h2 : ¬ o2 = o4) (h5 : ¬ o5 = o4) (x : AO) : Cs Sb (S.put o4 x) N o2 o5 P p e cs :=
  ⟨h.ext.then_put h4 _, h.a2, h.a5, h.ne, h.n2, h.n5, h.nN, by rw [St.get_put, if_neg h2]; exact h.g2, by rw [St.get_put, if_neg h5]; exact h.g5, h.vec.els (Nat.le_refl _) fun o v i hp _ => by rw [St.get_put, if_neg (fun he => (h.new o v i hp).2 (by rw [he]; exact hN))], h.new, h.bd⟩
theorem Cs.app1 {Sb S : St} {N : Nat → Prop} {o2 o5 : Nat} {P : Pk} {p : Option (Nat × Nat × Nat)} {e : Nat} {cs : List Int} (h : Cs Sb S N o2 o5 P p e cs) {n : Int} (hn : 0 ≤ n ∧ n < 4294967296) (hc : cs.length ≤ 1000) :
    ∃ p' S', aAppend 1 4 S (.slice p cs.length e none) 1 [.int .u32 n] = some (.slice p' (cs.length + 1) 1 none, S') ∧ S'.get o5 = some (.cells (pkc P (.slice p cs.length e none) (.slice none 0 0 none) (.slice none 0 0 none)) 0 0 true) ∧
      Cs Sb (S'.put o5 (.cells (pkc P (.slice p' (cs.length + 1) 1 none) (.slice none 0 0 none) (.slice none 0 0 none)) 0 0 true)) N o2 o5 P p' 1 (cs ++ [n]) ∧ ∀ o, N o → S'.get o = S.get o := by
  obtain ⟨p', S', h1, h2, h3, h4⟩ := h.vec.append (bytes := 4) (xs := [.int .u32 n]) (n := 1) rfl (by decide) (by omega)
  have old : ∀ o, o < S.next → N o → S'.get o = S.get o := fun o ho hN => h3.old o ho fun v i hp => (h.new o v i hp).2 hN
  have g5 := (old o5 h.a5.2 h.n5).trans h.g5
  have g2 := (old o2 h.a2.2 h.n2).trans h.g2
  have x : Ext Sb S' := ⟨Nat.le_trans h.ext.next h3.next, fun o ho => by
    rw [h3.old o (Nat.lt_of_lt_of_le ho h.ext.next) (fun v i hp => by have := (h.new o v i hp).1; omega)]
    exact h.ext.old o ho⟩
  have new' : ∀ o v i, p' = some (o, v, i) → Sb.next ≤ o ∧ ¬ N o := fun o v i hp => by
    rcases h4 o v i hp with h5 | ⟨v', i', h5⟩
    · exact ⟨Nat.le_trans h.ext.next h5, fun hN => by have := h.nN o hN; omega⟩
    · exact h.new _ _ _ h5
  have hl : (cs ++ [n]).length = cs.length + 1 := by rw [List.length_append]; rfl
  refine ⟨p', S', h1, g5, ⟨x.then_put h.a5.1 _, ⟨h.a2.1, Nat.lt_of_lt_of_le h.a2.2 h3.next⟩, ⟨h.a5.1, Nat.lt_of_lt_of_le h.a5.2 h3.next⟩, h.ne, h.n2, h.n5, fun o ho => Nat.lt_of_lt_of_le (h.nN o ho) h3.next, by rw [St.get_put, if_neg h.ne]; exact g2, by rw [St.get_put, if_pos rfl, hl], ?_, new', ?_⟩, fun o hN => old o (h.nN o hN) hN⟩
  · rw [hl, uv_app]
    exact h2.els (Nat.le_refl _) fun o v i hp _ => by rw [St.get_put, if_neg (fun he => (new' o v i hp).2 (by rw [he]; exact h.n5))]
  · intro y hy
    rcases List.mem_append.1 hy with hy | hy
    · exact h.bd y hy
    · rw [List.mem_singleton] at hy; rw [hy]; exact hn
theorem Cs.rs {Sb S : St} {N : Nat → Prop} {o2 o5 : Nat} {P : Pk} {p : Option (Nat × Nat × Nat)} {e : Nat} (h : Cs Sb S N o2 o5 P p e P.cs) (hc : P.cs.length ≤ 1000) (hx : P.ex = []) : Rs Sb S o2 o5 P (.slice p P.cs.length e none) (.slice none 0 0 none) :=
  ⟨h.ext, h.a2, h.a5, h.ne, h.g2, h.g5, fun S' t => ⟨p, e, none, rfl, Vec.ur (h.vec.els t.next fun o v i hp ho => t.old o ho (fun he => (h.new o v i hp).2 (by rw [he]; exact h.n2)) (fun he => (h.new o v i hp).2 (by rw [he]; exact h.n5))) h.bd (by omega)⟩, fun S' _ => by rw [hx]; exact .zero S' 0⟩
theorem getL_lt4 {l : List Nat} (hb : Byt l) (a : Int) : getL l a 4 < 4294967296 := by
  unfold getL
  split
  · rename_i h
    have h1 := hvF_lt (cutL l a 4) 0 0 (cutL_byt hb a 4) (by decide)
    rw [cutL_len h.1] at h1
    exact h1
  · decide
theorem csP_len (l : List Nat) (j : Nat) : (csP l j).length = j := by unfold csP; rw [List.length_map, List.length_range]
theorem csP_succ (l : List Nat) (j : Nat) : csP l (j + 1) = csP l j ++ [((getL l ((12 + 4 * j : Nat) : Int) 4 : Nat) : Int)] := by
  unfold csP; rw [List.range_succ, List.map_append]; rfl
structure I30 (Sb : St) (o2 o5 : Nat) (N : Nat → Prop) (P : Pk) (pb : Option (Nat × Nat × Nat)) (eb : Nat) (cb : Option Nat) (l : List Nat) (n m : Nat) (T : Tm) (S : St) : Prop where
  t0 : T.get 0 = some (.slice pb l.length eb cb)
  t2 : T.get 2 = some (.ptr (some ⟨o2, 0, 0, 9⟩))
  t4 : T.get 4 = some (.int .i64 ((12 + 4 * n : Nat) : Int))
  t5 : T.get 5 = some (.ptr (some ⟨o5, 0, 0, 9⟩))
  more : ∃ j p e, T.get 6 = some (.int .i64 ((12 + 4 * j : Nat) : Int)) ∧ j + m = n ∧ Cs Sb S N o2 o5 P p e (csP l j)
set_option maxHeartbeats 4000000 in
theorem round30 (k : Nat) {Sb : St} {o2 o5 : Nat} {N : Nat → Prop} {P : Pk} {pb : Option (Nat × Nat × Nat)} {eb : Nat} {cb : Option Nat} {l : List Nat} {n : Nat} (hb : By Sb pb eb l) (hl : l.length ≤ 1500) (hn : n ≤ 15) (m : Nat) (T : Tm) (S : St) (hI : I30 Sb o2 o5 N P pb eb cb l n m T S) :
    Goes (evF Y AP (k + 21)) (k + 21) af30_l0 T S (Then (fun T' S' => ∃ m', I30 Sb o2 o5 N P pb eb cb l n m' T' S' ∧ id m' < id m) fun r T' S' => r = .exit 0 ∧ I30 Sb o2 o5 N P pb eb cb l n 0 T' S') := by
  obtain ⟨t0, t2, t4, t5, j, p, e, t6, hm, C⟩ := hI
  by_cases c1 : ((12 + 4 * j : Nat) : Int) < ((12 + 4 * n : Nat) : Int)
  rotate_left
  · simp -implicitDefEqProofs -dsimp (maxSteps := 10000000) only [af30_l0, ↓kS, after_some, br_true, br_false, kC, ↓kQ, ↓Option.bind_some, ↓Option.map_some, ↓cond_true, ↓cond_false, evC, evOp, XO.lit, setArgs, Tr.get_set, Option.bind_some, Option.map_some, cond_true, cond_false, maxI, maxFrom, minI, minFrom, aConv, aBinE, aEq, eqScal, aUn, evRes, fin, oneOf, if_true, if_false, callee, reduceCtorEq, Nat.reduceEqDiff, List.getElem?_cons_zero, List.getElem?_cons_succ, beq_self_eq_true, gt_iff_lt, List.head?_cons, AV.undef, eq_self, ne_eq, Int.reduceLT, Int.reduceLE, Int.reduceToNat, Int.reduceEq, Int.reduceNeg, Nat.reduceAdd, Nat.reduceLT, Nat.reduceLeDiff, Nat.reduceMul, Nat.reduceSub, kM, AV.cells, AV.tup, List.drop_nil, List.append_nil, rdO, St.wr, List.length_cons, List.length_nil, List.take_succ_cons, List.take_zero, List.drop_succ_cons, List.drop_zero, List.cons_append, List.nil_append, Nat.reduceMul, t4, t6, c1]
    refine ⟨?_, ?_, ?_, ?_, j, p, e, ?_, by omega, C⟩ <;> simp only [Tr.get_set, Nat.reduceEqDiff, if_false, if_true, t0, t2, t4, t5, t6]
  have q := T39 k (c := cb) (hb.ext C.ext) (by omega) (a := ((12 + 4 * j : Nat) : Int)) (n := 4) ⟨by omega, by omega⟩ ⟨by decide, by decide⟩
  have hs := csP_succ l j
  have hln := csP_len l j
  obtain ⟨w, hw⟩ : ∃ w, getL l ((12 + 4 * j : Nat) : Int) 4 = w := ⟨_, rfl⟩
  have hwl : w < 4294967296 := hw ▸ getL_lt4 hb.bd _
  rw [hw] at q hs
  have w1 : IntKind.u32.wrap (w : Int) = (w : Int) := u32_id (by omega) (by omega)
  have w2 : IntKind.i64.wrap (((12 + 4 * j : Nat) : Int) + 4) = ((12 + 4 * (j + 1) : Nat) : Int) := by rw [w64_id (by omega) (by omega)]; omega
  obtain ⟨X, hX⟩ : ∃ X, csP l j = X := ⟨_, rfl⟩
  rw [hX] at hs hln C
  obtain ⟨B, hB⟩ : ∃ B, S.alloc (.cells [.int .u32 (w : Int)] 0 0 true) = B := ⟨_, rfl⟩
  have hz : B.rd S.next 0 0 1 = some [.int .u32 (w : Int)] := by rw [← hB, rd_alloc, if_pos rfl]; rfl
  have CB := C.more (show Ext S B by rw [← hB]; exact .alloc _ _)
  obtain ⟨p', S', ha, g5', C', _⟩ := CB.app1 (n := (w : Int)) ⟨by omega, by omega⟩ (by omega)
  have r5 : ∀ v i m, S.rd o5 v i m = rdO (.cells (pkc P (.slice p X.length e none) (.slice none 0 0 none) (.slice none 0 0 none)) 0 0 true) v i m := rd_of C.g5
  have rB5 : ∀ v i m, B.rd o5 v i m = rdO (.cells (pkc P (.slice p X.length e none) (.slice none 0 0 none) (.slice none 0 0 none)) 0 0 true) v i m := rd_of CB.g5
  have r5' : ∀ v i m, S'.rd o5 v i m = rdO (.cells (pkc P (.slice p X.length e none) (.slice none 0 0 none) (.slice none 0 0 none)) 0 0 true) v i m := rd_of g5'
  simp -implicitDefEqProofs -dsimp (maxSteps := 10000000) only [af30_l0, ↓kS, after_some, br_true, br_false, kC, ↓kQ, ↓Option.bind_some, ↓Option.map_some, ↓cond_true, ↓cond_false, evC, evOp, XO.lit, setArgs, Tr.get_set, Option.bind_some, Option.map_some, cond_true, cond_false, maxI, maxFrom, minI, minFrom, aConv, aBinE, aEq, eqScal, aUn, evRes, fin, oneOf, if_true, if_false, callee, reduceCtorEq, Nat.reduceEqDiff, List.getElem?_cons_zero, List.getElem?_cons_succ, beq_self_eq_true, gt_iff_lt, List.head?_cons, AV.undef, eq_self, ne_eq, Int.reduceLT, Int.reduceLE, Int.reduceToNat, Int.reduceEq, Int.reduceNeg, Nat.reduceAdd, Nat.reduceLT, Nat.reduceLeDiff, Nat.reduceMul, Nat.reduceSub, ↓evDraw_nil, bir, putD, evDraw, trace, List.all_cons, List.all_nil, chk, stAt, again, sameV, sameL, sameA, AV.undef, Bool.and_self, Bool.and_true, decide_eq_true_eq, List.getElem?_nil, kM, AV.cells, AV.tup, List.drop_nil, List.append_nil, rdO, St.wr, List.length_cons, List.length_nil, List.take_succ_cons, List.take_zero, List.drop_succ_cons, List.drop_zero, List.cons_append, List.nil_append, Nat.reduceMul, aFill, evParts, rep, List.replicate_succ, List.replicate_zero, List.flatten_cons, List.flatten_nil, List.append_nil, newSl, newVar, t0, t4, t5, t6, c1, r5, rB5, r5', q, w1, hB, Nat.mul_one, hz, ha, g5', w2]
  refine ⟨m - 1, ⟨?_, ?_, ?_, ?_, j + 1, p', 1, ?_, by omega, by rw [hs]; exact C'⟩, by show m - 1 < m; omega⟩ <;> simp only [Tr.get_set, Nat.reduceEqDiff, if_false, if_true, t0, t2, t4, t5]
theorem sh6 {b : Nat} : ((b : Nat) : Int) / 2 ^ min 6 IntKind.u8.bits = ((b / 64 : Nat) : Int) := by
  have : (2 : Int) ^ min 6 IntKind.u8.bits = 64 := by decide
  rw [this]; omega
theorem sh7 {b : Nat} : ((b : Nat) : Int) / 2 ^ min 7 IntKind.u8.bits = ((b / 128 : Nat) : Int) := by
  have : (2 : Int) ^ min 7 IntKind.u8.bits = 128 := by decide
  rw [this]; omega
set_option maxHeartbeats 8000000 in
/-- ref Read -/
theorem T30 (k : Nat) {S : St} {p : Option (Nat × Nat × Nat)} {e : Nat} {c : Option Nat} {l : List Nat} (h : By S p e l) :
    ∃ w S', evF Y AP (k + 22) 30 [.slice p l.length e c] S = some (w, S') ∧ Ans S (readP l) w S' := by
  obtain ⟨A, hA⟩ : ∃ A, S.alloc (.cells [.bool false, .int .i64 0, .int .u16 0, .int .u32 0, .int .u32 0, .slice none 0 0 none, .int .u16 0, .slice none 0 0 none, .slice none 0 0 none] 0 0 true) = A := ⟨_, rfl⟩
  have eA : Ext S A := by rw [← hA]; exact .alloc _ _
  have nA : A.next = S.next + 1 := by rw [← hA]; rfl
  have gA : A.get S.next = some (.cells [.bool false, .int .i64 0, .int .u16 0, .int .u32 0, .int .u32 0, .slice none 0 0 none, .int .u16 0, .slice none 0 0 none, .slice none 0 0 none] 0 0 true) := by rw [← hA, St.get_alloc, if_pos rfl]
  have hm := h.mx
  have ansz : ∀ er : Int, Ans S (zP, er) (.tuple [.agg (pkc zP (.slice none 0 0 none) (.slice none 0 0 none) (.slice none 0 0 none)), .int .i64 er]) (A.put S.next (.cells (pkc zP (.slice none 0 0 none) (.slice none 0 0 none) (.slice none 0 0 none)) 0 0 true)) := fun er => .z S (eA.then_put (Nat.le_refl _) _) er
  refine evF_goes (af := af30) (k := k + 21) rfl rfl rfl ?_
  unfold readP
  by_cases c0 : 1500 < l.length
  · have c0' : (1500 : Int) < (l.length : Int) := by omega
    rw [if_pos c0]
    simp -implicitDefEqProofs -dsimp (maxSteps := 10000000) only [af30, ↓kS, after_some, br_true, br_false, kC, ↓kQ, ↓Option.bind_some, ↓Option.map_some, ↓cond_true, ↓cond_false, evC, evOp, XO.lit, setArgs, Tr.tabG, Tr.tabS, Tr.tabL, Tr.get_lf, Option.bind_some, Option.map_some, cond_true, cond_false, maxI, maxFrom, minI, minFrom, aConv, aBinE, aEq, eqScal, aUn, evRes, fin, oneOf, if_true, if_false, callee, reduceCtorEq, Nat.reduceEqDiff, List.getElem?_cons_zero, List.getElem?_cons_succ, beq_self_eq_true, gt_iff_lt, List.head?_cons, AV.undef, eq_self, ne_eq, Int.reduceLT, Int.reduceLE, Int.reduceToNat, Int.reduceEq, Int.reduceNeg, Nat.reduceAdd, Nat.reduceLT, Nat.reduceLeDiff, Nat.reduceMul, Nat.reduceSub, ↓evDraw_nil, bir, putD, evDraw, trace, List.all_cons, List.all_nil, chk, stAt, again, sameV, sameL, sameA, AV.undef, Bool.and_self, Bool.and_true, decide_eq_true_eq, List.getElem?_nil, kM, AV.cells, AV.tup, List.drop_nil, List.append_nil, rdO, St.wr, List.length_cons, List.length_nil, List.take_succ_cons, List.take_zero, List.drop_succ_cons, List.drop_zero, List.cons_append, List.nil_append, Nat.reduceMul, aFill, evParts, rep, List.replicate_succ, List.replicate_zero, List.flatten_cons, List.flatten_nil, List.append_nil, newSl, newVar, hA, hm, c0', gA]
    exact ⟨_, _, rfl, ansz 3⟩
  have c0' : ¬ (1500 : Int) < (l.length : Int) := by omega
  rw [if_neg c0]
  by_cases c1 : l.length = 0
  · have c1' : ((l.length : Int) = 0) = True := eq_true (by omega)
    rw [if_pos c1]
    simp -implicitDefEqProofs -dsimp (maxSteps := 10000000) only [af30, ↓kS, after_some, br_true, br_false, kC, ↓kQ, ↓Option.bind_some, ↓Option.map_some, ↓cond_true, ↓cond_false, evC, evOp, XO.lit, setArgs, Tr.tabG, Tr.tabS, Tr.tabL, Tr.get_lf, Option.bind_some, Option.map_some, cond_true, cond_false, maxI, maxFrom, minI, minFrom, aConv, aBinE, aEq, eqScal, aUn, evRes, fin, oneOf, if_true, if_false, callee, reduceCtorEq, Nat.reduceEqDiff, List.getElem?_cons_zero, List.getElem?_cons_succ, beq_self_eq_true, gt_iff_lt, List.head?_cons, AV.undef, eq_self, ne_eq, Int.reduceLT, Int.reduceLE, Int.reduceToNat, Int.reduceEq, Int.reduceNeg, Nat.reduceAdd, Nat.reduceLT, Nat.reduceLeDiff, Nat.reduceMul, Nat.reduceSub, ↓evDraw_nil, bir, putD, evDraw, trace, List.all_cons, List.all_nil, chk, stAt, again, sameV, sameL, sameA, AV.undef, Bool.and_self, Bool.and_true, decide_eq_true_eq, List.getElem?_nil, kM, AV.cells, AV.tup, List.drop_nil, List.append_nil, rdO, St.wr, List.length_cons, List.length_nil, List.take_succ_cons, List.take_zero, List.drop_succ_cons, List.drop_zero, List.cons_append, List.nil_append, Nat.reduceMul, aFill, evParts, rep, List.replicate_succ, List.replicate_zero, List.flatten_cons, List.flatten_nil, List.append_nil, newSl, newVar, hA, hm, c0', c1', gA]
    exact ⟨_, _, rfl, ansz 13⟩
  have c1' : ¬ (l.length : Int) = 0 := by omega
  rw [if_neg c1]
  obtain ⟨o, v, i, rfl, hz, hbd⟩ := b0_get (h.ext eA) (by omega)
  obtain rfl := h.ez.resolve_left (by simp)
  have hix : ixOf (.int .i64 0) l.length = some 0 := by rw [ix_ok (by omega) (by omega)]; rfl
  by_cases c2 : b0 l / 64 = 2
  rotate_left
  · have c2' : ¬ ((b0 l / 64 : Nat) : Int) = 2 := by omega
    rw [if_pos c2]
    simp -implicitDefEqProofs -dsimp (maxSteps := 10000000) only [af30, ↓kS, after_some, br_true, br_false, kC, ↓kQ, ↓Option.bind_some, ↓Option.map_some, ↓cond_true, ↓cond_false, evC, evOp, XO.lit, setArgs, Tr.tabG, Tr.tabS, Tr.tabL, Tr.get_lf, Option.bind_some, Option.map_some, cond_true, cond_false, maxI, maxFrom, minI, minFrom, aConv, aBinE, aEq, eqScal, aUn, evRes, fin, oneOf, if_true, if_false, callee, reduceCtorEq, Nat.reduceEqDiff, List.getElem?_cons_zero, List.getElem?_cons_succ, beq_self_eq_true, gt_iff_lt, List.head?_cons, AV.undef, eq_self, ne_eq, Int.reduceLT, Int.reduceLE, Int.reduceToNat, Int.reduceEq, Int.reduceNeg, Nat.reduceAdd, Nat.reduceLT, Nat.reduceLeDiff, Nat.reduceMul, Nat.reduceSub, ↓evDraw_nil, bir, putD, evDraw, trace, List.all_cons, List.all_nil, chk, stAt, again, sameV, sameL, sameA, AV.undef, Bool.and_self, Bool.and_true, decide_eq_true_eq, List.getElem?_nil, kM, AV.cells, AV.tup, List.drop_nil, List.append_nil, rdO, St.wr, List.length_cons, List.length_nil, List.take_succ_cons, List.take_zero, List.drop_succ_cons, List.drop_zero, List.cons_append, List.nil_append, Nat.reduceMul, aFill, evParts, rep, List.replicate_succ, List.replicate_zero, List.flatten_cons, List.flatten_nil, List.append_nil, newSl, newVar, bin_shr, Int.reduceLT, sh6, hA, hm, c0', c1', hix, Nat.mul_one, Nat.zero_mul, Nat.add_zero, hz, c2', gA]
    exact ⟨_, _, rfl, ansz 12⟩
  have c2' : (((b0 l / 64 : Nat) : Int) = 2) = True := eq_true (by omega)
  rw [if_neg (fun hn => hn c2)]
  have h15 := (bit15 hbd).1
  obtain ⟨n, hn⟩ : ∃ n, b0 l % 16 = n := ⟨_, rfl⟩
  have hn15 : n ≤ 15 := by omega
  rw [hn] at h15 ⊢
  have w1 : IntKind.i64.wrap (n : Int) = (n : Int) := w64_id (by omega) (by omega)
  have w2 : IntKind.i64.wrap (4 * (n : Int)) = ((4 * n : Nat) : Int) := w64_id (by omega) (by omega)
  have w3 : IntKind.i64.wrap (12 + ((4 * n : Nat) : Int)) = ((12 + 4 * n : Nat) : Int) := w64_id (by omega) (by omega)
  by_cases c3 : l.length < 12 + 4 * n
  · have c3' : (l.length : Int) < ((12 + 4 * n : Nat) : Int) := by omega
    rw [if_pos c3]
    simp -implicitDefEqProofs -dsimp (maxSteps := 10000000) only [af30, ↓kS, after_some, br_true, br_false, kC, ↓kQ, ↓Option.bind_some, ↓Option.map_some, ↓cond_true, ↓cond_false, evC, evOp, XO.lit, setArgs, Tr.tabG, Tr.tabS, Tr.tabL, Tr.get_lf, Option.bind_some, Option.map_some, cond_true, cond_false, maxI, maxFrom, minI, minFrom, aConv, aBinE, aEq, eqScal, aUn, evRes, fin, oneOf, if_true, if_false, callee, reduceCtorEq, Nat.reduceEqDiff, List.getElem?_cons_zero, List.getElem?_cons_succ, beq_self_eq_true, gt_iff_lt, List.head?_cons, AV.undef, eq_self, ne_eq, Int.reduceLT, Int.reduceLE, Int.reduceToNat, Int.reduceEq, Int.reduceNeg, Nat.reduceAdd, Nat.reduceLT, Nat.reduceLeDiff, Nat.reduceMul, Nat.reduceSub, ↓evDraw_nil, bir, putD, evDraw, trace, List.all_cons, List.all_nil, chk, stAt, again, sameV, sameL, sameA, AV.undef, Bool.and_self, Bool.and_true, decide_eq_true_eq, List.getElem?_nil, kM, AV.cells, AV.tup, List.drop_nil, List.append_nil, rdO, St.wr, List.length_cons, List.length_nil, List.take_succ_cons, List.take_zero, List.drop_succ_cons, List.drop_zero, List.cons_append, List.nil_append, Nat.reduceMul, aFill, evParts, rep, List.replicate_succ, List.replicate_zero, List.flatten_cons, List.flatten_nil, List.append_nil, newSl, newVar, bin_shr, Int.reduceLT, sh6, hA, hm, c0', c1', hix, Nat.mul_one, Nat.zero_mul, Nat.add_zero, hz, c2', h15, w1, w2, w3, c3', gA]
    exact ⟨_, _, rfl, ansz 13⟩
  have c3' : ¬ (l.length : Int) < ((12 + 4 * n : Nat) : Int) := by omega
  rw [if_neg c3]
  have hA1 := h.ext eA
  have hix1 : ixOf (.int .i64 1) l.length = some 1 := by rw [ix_ok (by omega) (by omega)]; rfl
  have hz1 := hA1.get (j := 1) (by omega)
  have hb1 := h.bd _ (List.getElem_mem (show 1 < l.length by omega))
  have hd1 : l.getD 1 0 = l[1] := by rw [List.getD_eq_getElem?_getD, List.getElem?_eq_getElem (by omega)]; rfl
  rw [← hd1] at hz1 hb1
  have h127 := bit127 hb1
  have w4 : IntKind.i64.wrap ((l.getD 1 0 % 128 : Nat) : Int) = ((l.getD 1 0 % 128 : Nat) : Int) := w64_id (by omega) (by omega)
  have hmk : decide (((l.getD 1 0 / 128 : Nat) : Int) = 1) = decide (128 ≤ l.getD 1 0) := decide_eq_decide.2 (by omega)
  have w5 : IntKind.u16.wrap ((getL l 2 2 : Nat) : Int) = ((getL l 2 2 : Nat) : Int) := u16_id (by omega) (by have := getL_lt2 h.bd 2; omega)
  have w6 : IntKind.u32.wrap ((getL l 4 4 : Nat) : Int) = ((getL l 4 4 : Nat) : Int) := u32_id (by omega) (by have := getL_lt4 h.bd 4; omega)
  have w7 : IntKind.u32.wrap ((getL l 8 4 : Nat) : Int) = ((getL l 8 4 : Nat) : Int) := u32_id (by omega) (by have := getL_lt4 h.bd 8; omega)
  have q1 := T39 k (c := c) hA1 (by omega) (a := 2) (n := 2) ⟨by decide, by decide⟩ ⟨by decide, by decide⟩
  have q2 := T39 k (c := c) hA1 (by omega) (a := 4) (n := 4) ⟨by decide, by decide⟩ ⟨by decide, by decide⟩
  have q3 := T39 k (c := c) hA1 (by omega) (a := 8) (n := 4) ⟨by decide, by decide⟩ ⟨by decide, by decide⟩
  obtain ⟨B, hB⟩ : ∃ B, A.alloc (.cells [.bool false, .int .i64 0, .int .u16 0, .int .u32 0, .int .u32 0, .slice none 0 0 none, .int .u16 0, .slice none 0 0 none, .slice none 0 0 none] 0 0 true) = B := ⟨_, rfl⟩
  have eB : Ext A B := by rw [← hB]; exact .alloc _ _
  have nB : B.next = A.next + 1 := by rw [← hB]; rfl
  have gB : B.get A.next = some (.cells [.bool false, .int .i64 0, .int .u16 0, .int .u32 0, .int .u32 0, .slice none 0 0 none, .int .u16 0, .slice none 0 0 none, .slice none 0 0 none] 0 0 true) := by rw [← hB, St.get_alloc, if_pos rfl]
  have gB2 : B.get S.next = some (.cells [.bool false, .int .i64 0, .int .u16 0, .int .u32 0, .int .u32 0, .slice none 0 0 none, .int .u16 0, .slice none 0 0 none, .slice none 0 0 none] 0 0 true) := eB.get (by omega) gA
  have hch : ∀ T : Tm, chkB ⟨some 5, none, .alloc [.bool false, .int .i64 0, .int .u16 0, .int .u32 0, .int .u32 0, .slice none 0 0 none, .int .u16 0, .slice none 0 0 none, .slice none 0 0 none]⟩ T = true := fun _ => rfl
  have hzB : B.rd o v i 1 = some [.int .u8 (b0 l : Nat)] := by rw [eB.rd (hA1.at_ o v i rfl).1]; exact hz
  have hzB1 : B.rd o v (i + 1) 1 = some [.int .u8 (l.getD 1 0 : Nat)] := by rw [eB.rd (hA1.at_ o v i rfl).1]; exact hz1
  obtain ⟨P0, hP0⟩ : ∃ P0 : Pk, P0 = ⟨decide (128 ≤ l.getD 1 0), ((l.getD 1 0 % 128 : Nat) : Int), (getL l 2 2 : Nat), (getL l 4 4 : Nat), (getL l 8 4 : Nat), csP l n, 0, [], []⟩ := ⟨_, rfl⟩
  have hP : p0P l = P0 := by rw [hP0, ← hn]; rfl
  rw [hP]
  have C0 : Cs S (B.put A.next (.cells (pkc P0 (.slice none 0 0 none) (.slice none 0 0 none) (.slice none 0 0 none)) 0 0 true)) (fun o => o = S.next ∨ o = A.next) S.next A.next P0 none 0 (csP l 0) :=
    ⟨(eA.trans eB).then_put (by omega) _, ⟨Nat.le_refl _, by show S.next < B.next; omega⟩, ⟨by omega, by show A.next < B.next; omega⟩, by omega, .inl rfl, .inr rfl, fun o ho => (by rcases ho with rfl | rfl; exact (show S.next < B.next by omega); exact (show A.next < B.next by omega)), by rw [St.get_put, if_neg (by omega)]; exact gB2, by rw [St.get_put, if_pos rfl]; rfl, .nil _ _ _, fun _ _ _ hp => (by cases hp), fun _ hy => (by cases hy)⟩
  rw [hP0] at C0
  simp -implicitDefEqProofs -dsimp (maxSteps := 10000000) only [af30, ↓kS, after_some, br_true, br_false, kC, ↓kQ, ↓Option.bind_some, ↓Option.map_some, ↓cond_true, ↓cond_false, evC, evOp, XO.lit, setArgs, Tr.tabG, Tr.tabS, Tr.tabL, Tr.get_lf, Option.bind_some, Option.map_some, cond_true, cond_false, maxI, maxFrom, minI, minFrom, aConv, aBinE, aEq, eqScal, aUn, evRes, fin, oneOf, if_true, if_false, callee, reduceCtorEq, Nat.reduceEqDiff, List.getElem?_cons_zero, List.getElem?_cons_succ, beq_self_eq_true, gt_iff_lt, List.head?_cons, AV.undef, eq_self, ne_eq, Int.reduceLT, Int.reduceLE, Int.reduceToNat, Int.reduceEq, Int.reduceNeg, Nat.reduceAdd, Nat.reduceLT, Nat.reduceLeDiff, Nat.reduceMul, Nat.reduceSub, ↓evDraw_nil, bir, putD, evDraw, trace, List.all_cons, List.all_nil, chk, stAt, again, sameV, sameL, sameA, AV.undef, Bool.and_self, Bool.and_true, decide_eq_true_eq, List.getElem?_nil, kM, AV.cells, AV.tup, List.drop_nil, List.append_nil, rdO, St.wr, List.length_cons, List.length_nil, List.take_succ_cons, List.take_zero, List.drop_succ_cons, List.drop_zero, List.cons_append, List.nil_append, Nat.reduceMul, aFill, evParts, rep, List.replicate_succ, List.replicate_zero, List.flatten_cons, List.flatten_nil, List.append_nil, newSl, newVar, bin_shr, Int.reduceLT, sh6, sh7, hA, hm, c0', c1', hix, hix1, Nat.mul_one, Nat.zero_mul, Nat.add_zero, hz, hz1, c2', h15, w1, w2, w3, c3', h127, w4, hmk, q1, q2, q3, w5, w6, w7, hB, gB, hch, hzB, hzB1]
  refine .while (I30 S S.next A.next (fun o => o = S.next ∨ o = A.next) P0 (some (o, v, i)) 1 c l n) id n ⟨rfl, rfl, rfl, rfl, 0, none, 0, rfl, by omega, by rw [hP0]; exact C0⟩ (by show n < k + 21; omega) fun m2 T2 S5 h2 => (round30 k h (by omega) hn15 m2 T2 S5 h2).mono ?_
  intro r T' S' hq
  cases r with
  | normal => exact hq
  | ret => exact absurd hq.1 (by simp)
  | exit x =>
    obtain ⟨hi, t0, t2, t4, t5, j, p', e', t6, hj, C⟩ := hq
    cases hi
    obtain rfl : j = n := by omega
    simp -implicitDefEqProofs only [↓then_exit, ↓blk_exit, ↓then_normal]
    have hcs : csP l j = P0.cs := by rw [hP0]
    have hln := csP_len l j
    rw [hcs] at C hln
    exact A30 k (C.rs (by omega) (by rw [hP0])) h (by omega) (by rw [hP0]) (by rw [hP0]) (by rw [hP0]) (by omega) (by omega) t0 t2 t4 t5 fun _ _ _ hx => by
      simp -implicitDefEqProofs -dsimp (maxSteps := 10000000) only [↓kS, after_some, br_true, br_false, kC, ↓kQ, ↓Option.bind_some, ↓Option.map_some, ↓cond_true, ↓cond_false, evC, evOp, XO.lit, setArgs, Tr.tabG, Tr.tabS, Tr.tabL, Tr.get_lf, Option.bind_some, Option.map_some, cond_true, cond_false, maxI, maxFrom, minI, minFrom, aConv, aBinE, aEq, eqScal, aUn, evRes, fin, oneOf, if_true, if_false, callee, reduceCtorEq, Nat.reduceEqDiff, List.getElem?_cons_zero, List.getElem?_cons_succ, beq_self_eq_true, gt_iff_lt, List.head?_cons, AV.undef, eq_self, ne_eq, Int.reduceLT, Int.reduceLE, Int.reduceToNat, Int.reduceEq, Int.reduceNeg, Nat.reduceAdd, Nat.reduceLT, Nat.reduceLeDiff, Nat.reduceMul, Nat.reduceSub, ↓evDraw_nil, bir, putD, evDraw, trace, List.all_cons, List.all_nil, chk, stAt, again, sameV, sameL, sameA, AV.undef, Bool.and_self, Bool.and_true, decide_eq_true_eq, List.getElem?_nil, kM, AV.cells, AV.tup, List.drop_nil, List.append_nil, rdO, St.wr, List.length_cons, List.length_nil, List.take_succ_cons, List.take_zero, List.drop_succ_cons, List.drop_zero, List.cons_append, List.nil_append, Nat.reduceMul, aFill, evParts, rep, List.replicate_succ, List.replicate_zero, List.flatten_cons, List.flatten_nil, List.append_nil, newSl, newVar] at hx
      exact hx
/-- A reader that stands at a. -/
abbrev rdr (p : Option (Nat × Nat × Nat)) (l : List Nat) (e : Nat) (c : Option Nat) (a : Int) (sh : Bool) : AO := .cells [.slice p l.length e c, .int .i64 a, .bool sh] 0 0 true
set_option maxHeartbeats 2000000 in
/-- num -/
theorem T35 (k : Nat) {S : St} {p : Option (Nat × Nat × Nat)} {e : Nat} {c : Option Nat} {l : List Nat} {o4 : Nat} (hn4 : o4 < S.next) {sh : Bool} (h : By S p e l) (hr : l.length ≤ 1500) {a n : Int} (g4 : S.get o4 = some (rdr p l e c a sh)) (ha : 0 ≤ a ∧ a ≤ 2305843009213693952) (hn : 0 ≤ n ∧ n ≤ 2305843009213693952) :
    ∃ S', evF Y AP (k + 21) 35 [.ptr (some ⟨o4, 0, 0, 3⟩), .int .i64 n] S = some (.int .u64 (getL l a n), (S'.put o4 (rdr p l e c a (sh || !getOk l a n))).put o4 (rdr p l e c (a + n) (sh || !getOk l a n))) ∧ Ext S S' := by
  obtain ⟨S', h44, x⟩ := T44 k (c := c) h (by omega) (a := a) (n := n) ⟨by omega, by omega⟩ ⟨by omega, by omega⟩
  have w : IntKind.i64.wrap (a + n) = a + n := w64_id (by omega) (by omega)
  have r4 : ∀ v i m, S.rd o4 v i m = rdO (rdr p l e c a sh) v i m := rd_of g4
  have g4' := x.get hn4 g4
  have r4' : ∀ v i m, S'.rd o4 v i m = rdO (rdr p l e c a sh) v i m := rd_of g4'
  refine ⟨S', ?_, x⟩
  rw [evF_body (af := af35) rfl rfl rfl]
  generalize getOk l a n = ok at h44 ⊢
  cases sh <;> simp -implicitDefEqProofs -dsimp (maxSteps := 10000000) only [af35, kC, ↓kQ, ↓Option.bind_some, ↓Option.map_some, ↓cond_true, ↓cond_false, evC, evOp, XO.lit, setArgs, Tr.tabG, Tr.tabS, Tr.tabL, Tr.get_lf, Option.bind_some, Option.map_some, cond_true, cond_false, maxI, maxFrom, minI, minFrom, aConv, aBinE, aEq, eqScal, aUn, evRes, fin, oneOf, if_true, if_false, callee, reduceCtorEq, Nat.reduceEqDiff, List.getElem?_cons_zero, List.getElem?_cons_succ, beq_self_eq_true, gt_iff_lt, List.head?_cons, AV.undef, eq_self, ne_eq, Int.reduceLT, Int.reduceLE, Int.reduceToNat, Int.reduceEq, Int.reduceNeg, Nat.reduceAdd, Nat.reduceLT, Nat.reduceLeDiff, Nat.reduceMul, Nat.reduceSub, ↓evDraw_nil, bir, putD, evDraw, trace, List.all_cons, List.all_nil, chk, stAt, again, sameV, sameL, sameA, AV.undef, Bool.and_self, Bool.and_true, decide_eq_true_eq, List.getElem?_nil, kM, AV.cells, AV.tup, List.drop_nil, List.append_nil, rdO, St.wr, List.length_cons, List.length_nil, List.take_succ_cons, List.take_zero, List.drop_succ_cons, List.drop_zero, List.cons_append, List.nil_append, Nat.reduceMul, aFill, evParts, rep, List.replicate_succ, List.replicate_zero, List.flatten_cons, List.flatten_nil, List.append_nil, newSl, newVar, r4, g4, r4', g4', h44, w, rdO, rdr, St.get_put, if_true, Bool.false_or, Bool.true_or]
set_option maxHeartbeats 2000000 in
/-- cut -/
theorem T36 (k : Nat) {S : St} {p : Option (Nat × Nat × Nat)} {e : Nat} {c : Option Nat} {l : List Nat} {o4 : Nat} (hn4 : o4 < S.next) {sh : Bool} (h : By S p e l) (hr : l.length ≤ 1500) {a n : Int} (g4 : S.get o4 = some (rdr p l e c a sh)) (ha : 0 ≤ a ∧ a ≤ 2305843009213693952) (hn : 0 ≤ n ∧ n ≤ 2305843009213693952) :
    ∃ p' e' S', evF Y AP (k + 21) 36 [.ptr (some ⟨o4, 0, 0, 3⟩), .int .i64 n] S = some (.slice p' (cutL l a n).length e' none, (S'.put o4 (rdr p l e c a (sh || !decide (cutOk l a n)))).put o4 (rdr p l e c (a + n) (sh || !decide (cutOk l a n)))) ∧ Gr S S' p' e' (cutL l a n) := by
  obtain ⟨p', e', S', h45, G⟩ := T45n (k + 16) (c := c) h (by omega) (a := a) (n := n) ⟨by omega, by omega⟩ ⟨by omega, by omega⟩
  have h45 : evF Y AP (k + 20) 45 [.slice p l.length e c, .int .i64 a, .int .i64 n] S = _ := h45
  have x := G.ext
  have w : IntKind.i64.wrap (a + n) = a + n := w64_id (by omega) (by omega)
  have r4 : ∀ v i m, S.rd o4 v i m = rdO (rdr p l e c a sh) v i m := rd_of g4
  have g4' := x.get hn4 g4
  have r4' : ∀ v i m, S'.rd o4 v i m = rdO (rdr p l e c a sh) v i m := rd_of g4'
  refine ⟨p', e', S', ?_, G⟩
  rw [evF_body (af := af36) rfl rfl rfl]
  generalize decide (cutOk l a n) = ok at h45 ⊢
  cases sh <;> simp -implicitDefEqProofs -dsimp (maxSteps := 10000000) only [af36, kC, ↓kQ, ↓Option.bind_some, ↓Option.map_some, ↓cond_true, ↓cond_false, evC, evOp, XO.lit, setArgs, Tr.tabG, Tr.tabS, Tr.tabL, Tr.get_lf, Option.bind_some, Option.map_some, cond_true, cond_false, maxI, maxFrom, minI, minFrom, aConv, aBinE, aEq, eqScal, aUn, evRes, fin, oneOf, if_true, if_false, callee, reduceCtorEq, Nat.reduceEqDiff, List.getElem?_cons_zero, List.getElem?_cons_succ, beq_self_eq_true, gt_iff_lt, List.head?_cons, AV.undef, eq_self, ne_eq, Int.reduceLT, Int.reduceLE, Int.reduceToNat, Int.reduceEq, Int.reduceNeg, Nat.reduceAdd, Nat.reduceLT, Nat.reduceLeDiff, Nat.reduceMul, Nat.reduceSub, ↓evDraw_nil, bir, putD, evDraw, trace, List.all_cons, List.all_nil, chk, stAt, again, sameV, sameL, sameA, AV.undef, Bool.and_self, Bool.and_true, decide_eq_true_eq, List.getElem?_nil, kM, AV.cells, AV.tup, List.drop_nil, List.append_nil, rdO, St.wr, List.length_cons, List.length_nil, List.take_succ_cons, List.take_zero, List.drop_succ_cons, List.drop_zero, List.cons_append, List.nil_append, Nat.reduceMul, aFill, evParts, rep, List.replicate_succ, List.replicate_zero, List.flatten_cons, List.flatten_nil, List.append_nil, newSl, newVar, r4, g4, r4', g4', h45, w, rdO, rdr, St.get_put, if_true, Bool.false_or, Bool.true_or]
structure I19 (Sb : St) (o2 o5 o4 : Nat) (N : Nat → Prop) (P : Pk) (pb : Option (Nat × Nat × Nat)) (eb : Nat) (cb : Option Nat) (l : List Nat) (f n m : Nat) (T : Tm) (S : St) : Prop where
  t0 : T.get 0 = some (.slice pb l.length eb cb)
  t2 : T.get 2 = some (.ptr (some ⟨o2, 0, 0, 9⟩))
  t4 : T.get 4 = some (.ptr (some ⟨o4, 0, 0, 3⟩))
  t5 : T.get 5 = some (.int .u64 (f : Nat))
  t7 : T.get 7 = some (.ptr (some ⟨o5, 0, 0, 9⟩))
  t50 : T.get 50 = some (.int .u64 (n : Nat))
  more : ∃ j p e sh, T.get 51 = some (.int .u64 (j : Nat)) ∧ j + m = n ∧ Cs Sb S N o2 o5 P p e (csP l j) ∧ S.get o4 = some (rdr pb l eb cb ((12 + 4 * j : Nat) : Int) sh) ∧ sh = decide (l.length < 12 + 4 * j)
set_option maxHeartbeats 4000000 in
theorem round19 (k : Nat) {Sb : St} {o2 o5 o4 : Nat} {N : Nat → Prop} (hN : N o4) (h4 : Sb.next ≤ o4) (h24 : ¬ o2 = o4) (h54 : ¬ o5 = o4) {P : Pk} {pb : Option (Nat × Nat × Nat)} {eb : Nat} {cb : Option Nat} {l : List Nat} {f n : Nat} (hb : By Sb pb eb l) (hl : l.length ≤ 1500) (hn : n ≤ 15) (m : Nat) (T : Tm) (S : St) (hI : I19 Sb o2 o5 o4 N P pb eb cb l f n m T S) :
    Goes (evF Y AP (k + 21)) (k + 21) af19_l0 T S (Then (fun T' S' => ∃ m', I19 Sb o2 o5 o4 N P pb eb cb l f n m' T' S' ∧ id m' < id m) fun r T' S' => r = .exit 1 ∧ I19 Sb o2 o5 o4 N P pb eb cb l f n 0 T' S') := by
  obtain ⟨t0, t2, t4, t5, t7, t50, j, p, e, sh, t51, hm, C, g4, hsh⟩ := hI
  by_cases c1 : (j : Int) < (n : Int)
  rotate_left
  · simp -implicitDefEqProofs -dsimp (maxSteps := 10000000) only [af19_l0, ↓kS, after_some, br_true, br_false, kC, ↓kQ, ↓Option.bind_some, ↓Option.map_some, ↓cond_true, ↓cond_false, evC, evOp, XO.lit, setArgs, Tr.get_set, Option.bind_some, Option.map_some, cond_true, cond_false, maxI, maxFrom, minI, minFrom, aConv, aBinE, aEq, eqScal, aUn, evRes, fin, oneOf, if_true, if_false, callee, reduceCtorEq, Nat.reduceEqDiff, List.getElem?_cons_zero, List.getElem?_cons_succ, beq_self_eq_true, gt_iff_lt, List.head?_cons, AV.undef, eq_self, ne_eq, Int.reduceLT, Int.reduceLE, Int.reduceToNat, Int.reduceEq, Int.reduceNeg, Nat.reduceAdd, Nat.reduceLT, Nat.reduceLeDiff, Nat.reduceMul, Nat.reduceSub, kM, AV.cells, AV.tup, List.drop_nil, List.append_nil, rdO, St.wr, List.length_cons, List.length_nil, List.take_succ_cons, List.take_zero, List.drop_succ_cons, List.drop_zero, List.cons_append, List.nil_append, Nat.reduceMul, t50, t51, c1]
    refine ⟨?_, ?_, ?_, ?_, ?_, ?_, j, p, e, sh, ?_, by omega, C, g4, hsh⟩ <;> simp only [Tr.get_set, Nat.reduceEqDiff, if_false, if_true, t0, t2, t4, t5, t7, t50, t51]
  obtain ⟨S1, q, x⟩ := T35 k (c := cb) (C.nN o4 hN) (hb.ext C.ext) hl (a := ((12 + 4 * j : Nat) : Int)) (n := 4) g4 ⟨by omega, by omega⟩ ⟨by decide, by decide⟩
  have hs := csP_succ l j
  have hln := csP_len l j
  have hsh' : (sh || !getOk l ((12 + 4 * j : Nat) : Int) 4) = decide (l.length < 12 + 4 * (j + 1)) := by
    rw [hsh]; unfold getOk cutOk
    by_cases hh : l.length < 12 + 4 * (j + 1)
    · rw [decide_eq_true hh, decide_eq_false (p := _ ∧ _) (by omega)]; simp
    · rw [decide_eq_false hh, decide_eq_true (p := _ ∧ _) (by omega), decide_eq_false (by omega)]; rfl
  rw [hsh'] at q
  obtain ⟨sh', hsh2⟩ : ∃ sh', decide (l.length < 12 + 4 * (j + 1)) = sh' := ⟨_, rfl⟩
  rw [hsh2] at q
  obtain ⟨w, hw⟩ : ∃ w, getL l ((12 + 4 * j : Nat) : Int) 4 = w := ⟨_, rfl⟩
  have hwl : w < 4294967296 := hw ▸ getL_lt4 hb.bd _
  rw [hw] at q hs
  have w1 : IntKind.u32.wrap (w : Int) = (w : Int) := u32_id (by omega) (by omega)
  have w2 : IntKind.u64.wrap ((j : Int) + 1) = ((j + 1 : Nat) : Int) := u64_id (by omega) (by omega)
  obtain ⟨X, hX⟩ : ∃ X, csP l j = X := ⟨_, rfl⟩
  rw [hX] at hs hln C
  obtain ⟨S2, hS2⟩ : ∃ S2, (S1.put o4 (rdr pb l eb cb ((12 + 4 * j : Nat) : Int) sh')).put o4 (rdr pb l eb cb (((12 + 4 * j : Nat) : Int) + 4) sh') = S2 := ⟨_, rfl⟩
  rw [hS2] at q
  have C2 : Cs Sb S2 N o2 o5 P p e X := by rw [← hS2]; exact ((C.more x).put4 hN h4 h24 h54 _).put4 hN h4 h24 h54 _
  have g4' : S2.get o4 = some (rdr pb l eb cb ((12 + 4 * (j + 1) : Nat) : Int) sh') := by rw [← hS2, St.get_put, if_pos rfl]; congr 4
  obtain ⟨B, hB⟩ : ∃ B, S2.alloc (.cells [.int .u32 (w : Int)] 0 0 true) = B := ⟨_, rfl⟩
  have eB : Ext S2 B := by rw [← hB]; exact .alloc _ _
  have hz : B.rd S2.next 0 0 1 = some [.int .u32 (w : Int)] := by rw [← hB, rd_alloc, if_pos rfl]; rfl
  have CB := C2.more eB
  obtain ⟨p', S', ha, g5', C', hk⟩ := CB.app1 (n := (w : Int)) ⟨by omega, by omega⟩ (by omega)
  have r5 : ∀ v i m, S.rd o5 v i m = rdO (.cells (pkc P (.slice p X.length e none) (.slice none 0 0 none) (.slice none 0 0 none)) 0 0 true) v i m := rd_of C.g5
  have r52 : ∀ v i m, S2.rd o5 v i m = rdO (.cells (pkc P (.slice p X.length e none) (.slice none 0 0 none) (.slice none 0 0 none)) 0 0 true) v i m := rd_of C2.g5
  have rB5 : ∀ v i m, B.rd o5 v i m = rdO (.cells (pkc P (.slice p X.length e none) (.slice none 0 0 none) (.slice none 0 0 none)) 0 0 true) v i m := rd_of CB.g5
  have r5' : ∀ v i m, S'.rd o5 v i m = rdO (.cells (pkc P (.slice p X.length e none) (.slice none 0 0 none) (.slice none 0 0 none)) 0 0 true) v i m := rd_of g5'
  simp -implicitDefEqProofs -dsimp (maxSteps := 10000000) only [af19_l0, ↓kS, after_some, br_true, br_false, kC, ↓kQ, ↓Option.bind_some, ↓Option.map_some, ↓cond_true, ↓cond_false, evC, evOp, XO.lit, setArgs, Tr.get_set, Option.bind_some, Option.map_some, cond_true, cond_false, maxI, maxFrom, minI, minFrom, aConv, aBinE, aEq, eqScal, aUn, evRes, fin, oneOf, if_true, if_false, callee, reduceCtorEq, Nat.reduceEqDiff, List.getElem?_cons_zero, List.getElem?_cons_succ, beq_self_eq_true, gt_iff_lt, List.head?_cons, AV.undef, eq_self, ne_eq, Int.reduceLT, Int.reduceLE, Int.reduceToNat, Int.reduceEq, Int.reduceNeg, Nat.reduceAdd, Nat.reduceLT, Nat.reduceLeDiff, Nat.reduceMul, Nat.reduceSub, ↓evDraw_nil, bir, putD, evDraw, trace, List.all_cons, List.all_nil, chk, stAt, again, sameV, sameL, sameA, AV.undef, Bool.and_self, Bool.and_true, decide_eq_true_eq, List.getElem?_nil, kM, AV.cells, AV.tup, List.drop_nil, List.append_nil, rdO, St.wr, List.length_cons, List.length_nil, List.take_succ_cons, List.take_zero, List.drop_succ_cons, List.drop_zero, List.cons_append, List.nil_append, Nat.reduceMul, aFill, evParts, rep, List.replicate_succ, List.replicate_zero, List.flatten_cons, List.flatten_nil, List.append_nil, newSl, newVar, t0, t4, t7, t50, t51, c1, r5, r52, rB5, r5', q, w1, hB, Nat.mul_one, hz, ha, g5', w2]
  refine ⟨m - 1, ⟨?_, ?_, ?_, ?_, ?_, ?_, j + 1, p', 1, sh', ?_, by omega, by rw [hs]; exact C', by rw [St.get_put, if_neg (fun he => h54 he.symm), hk o4 hN, eB.get (C2.nN o4 hN) g4'], hsh2.symm⟩, by show m - 1 < m; omega⟩ <;> simp only [Tr.get_set, Nat.reduceEqDiff, if_false, if_true, t0, t2, t4, t5, t7, t50]
def tC19 : AC :=
 (.seq
 (.seq
 (.reg [⟨(some 108), none, (.mv (.t 5))⟩,
   ⟨(some 109), none, (.bin .and .num (.t 108) (.c (.int .u64 16)))⟩,
   ⟨(some 110), none, (.bin .neq .num (.t 109) (.c (.int .u64 0)))⟩,
   ⟨(some 111), none, (.mv (.t 110))⟩,
   ⟨(some 112), (some (111, true)), (.fieldAddr 6 1 (.t 7))⟩,
   ⟨(some 113), (some (111, true)), (.load1 (.t 112))⟩,
   ⟨(some 114), (some (111, true)), (.bin .eql .num (.t 113) (.c (.int .u16 0)))⟩,
   ⟨(some 115), none, (.pick (.t 111) (.t 114) (.c (.bool false)))⟩])
 (.cond (.t 115)
 (.seq
 (.reg [⟨(some 116), none, (.build [(.bool false), (.int .i64 0), (.int .u16 0), (.int .u32 0), (.int .u32 0), (.slice none 0 0 none), (.int .u16 0), (.slice none 0 0 none), (.slice none 0 0 none)] [])⟩,
   ⟨none, none, (.store 9 (.t 2) (.t 116))⟩,
   ⟨(some 3), none, (.mv (.c (.int .i64 12)))⟩]) .ret) .skip))
 (.seq
 (.reg [⟨(some 117), none, (.mv (.t 4))⟩,
   ⟨(some 118), none, (.mv (.t 8))⟩,
   ⟨(some 119), none, (.mv (.t 4))⟩,
   ⟨(some 120), none, (.nilCheck (.t 119))⟩,
   ⟨(some 121), none, (.fieldAddr 1 1 (.t 120))⟩,
   ⟨(some 122), none, (.load1 (.t 121))⟩,
   ⟨(some 123), none, (.bin .sub .num (.t 118) (.t 122))⟩,
   ⟨(some 124), none, (.call 36 [(.t 117), (.t 123)])⟩,
   ⟨(some 125), none, (.fieldAddr 8 1 (.t 7))⟩,
   ⟨none, none, (.store 1 (.t 125) (.t 124))⟩])
 (.seq
 (.reg [⟨(some 126), none, (.loadN 9 (.t 7))⟩,
   ⟨none, none, (.store 9 (.t 2) (.t 126))⟩,
   ⟨(some 3), none, (.mv (.c (.int .i64 0)))⟩]) .ret)))
def tB19 : AC :=
 (.seq
 (.reg [⟨(some 81), none, (.mv (.t 0))⟩,
   ⟨(some 82), none, (.len (.t 81))⟩,
   ⟨(some 8), none, (.mv (.t 82))⟩])
 (.seq
 (.seq
 (.reg [⟨(some 83), none, (.mv (.t 5))⟩,
   ⟨(some 84), none, (.bin .and .num (.t 83) (.c (.int .u64 32)))⟩,
   ⟨(some 85), none, (.bin .neq .num (.t 84) (.c (.int .u64 0)))⟩])
 (.cond (.t 85)
 (.seq
 (.reg [⟨(some 86), none, (.mv (.t 0))⟩,
   ⟨(some 87), none, (.mv (.t 8))⟩,
   ⟨(some 88), none, (.bin .sub .num (.t 87) (.c (.int .i64 1)))⟩,
   ⟨(some 89), none, (.ixSlice 1 (.t 86) (.t 88))⟩,
   ⟨(some 90), none, (.load1 (.t 89))⟩,
   ⟨(some 91), none, (.conv (.int .i64) (.t 90))⟩,
   ⟨(some 9), none, (.mv (.t 91))⟩])
 (.seq
 (.seq
 (.reg [⟨(some 92), none, (.mv (.t 9))⟩,
   ⟨(some 93), none, (.bin .eql .num (.t 92) (.c (.int .i64 0)))⟩,
   ⟨(some 94), none, (.mv (.t 93))⟩,
   ⟨(some 95), (some (94, false)), (.mv (.t 9))⟩,
   ⟨(some 96), (some (94, false)), (.mv (.t 8))⟩,
   ⟨(some 97), (some (94, false)), (.mv (.t 4))⟩,
   ⟨(some 98), (some (94, false)), (.nilCheck (.t 97))⟩,
   ⟨(some 99), (some (94, false)), (.fieldAddr 1 1 (.t 98))⟩,
   ⟨(some 100), (some (94, false)), (.load1 (.t 99))⟩,
   ⟨(some 101), (some (94, false)), (.bin .sub .num (.t 96) (.t 100))⟩,
   ⟨(some 102), (some (94, false)), (.bin .gtr .num (.t 95) (.t 101))⟩,
   ⟨(some 103), none, (.pick (.t 94) (.c (.bool true)) (.t 102))⟩])
 (.cond (.t 103)
 (.seq
 (.reg [⟨(some 104), none, (.build [(.bool false), (.int .i64 0), (.int .u16 0), (.int .u32 0), (.int .u32 0), (.slice none 0 0 none), (.int .u16 0), (.slice none 0 0 none), (.slice none 0 0 none)] [])⟩,
   ⟨none, none, (.store 9 (.t 2) (.t 104))⟩,
   ⟨(some 3), none, (.mv (.c (.int .i64 13)))⟩]) .ret) .skip))
 (.reg [⟨(some 105), none, (.mv (.t 8))⟩,
   ⟨(some 106), none, (.mv (.t 9))⟩,
   ⟨(some 107), none, (.bin .sub .num (.t 105) (.t 106))⟩,
   ⟨(some 8), none, (.mv (.t 107))⟩]))) .skip))
 tC19))
def tS19 : AC :=
 (.seq
 (.seq
 (.reg [⟨(some 76), none, (.mv (.t 4))⟩,
   ⟨(some 77), none, (.nilCheck (.t 76))⟩,
   ⟨(some 78), none, (.fieldAddr 2 1 (.t 77))⟩,
   ⟨(some 79), none, (.load1 (.t 78))⟩])
 (.cond (.t 79)
 (.seq
 (.reg [⟨(some 80), none, (.build [(.bool false), (.int .i64 0), (.int .u16 0), (.int .u32 0), (.int .u32 0), (.slice none 0 0 none), (.int .u16 0), (.slice none 0 0 none), (.slice none 0 0 none)] [])⟩,
   ⟨none, none, (.store 9 (.t 2) (.t 80))⟩,
   ⟨(some 3), none, (.mv (.c (.int .i64 13)))⟩]) .ret) .skip))
 tB19)
def tA19 : AC :=
 (.seq
 (.seq
 (.reg [⟨(some 62), none, (.mv (.t 5))⟩,
   ⟨(some 63), none, (.bin .and .num (.t 62) (.c (.int .u64 16)))⟩,
   ⟨(some 64), none, (.bin .neq .num (.t 63) (.c (.int .u64 0)))⟩])
 (.cond (.t 64)
 (.seq
 (.reg [⟨(some 65), none, (.mv (.t 4))⟩,
   ⟨(some 66), none, (.call 35 [(.t 65), (.c (.int .i64 2))])⟩,
   ⟨(some 67), none, (.conv (.int .u16) (.t 66))⟩,
   ⟨(some 68), none, (.fieldAddr 6 1 (.t 7))⟩,
   ⟨none, none, (.store 1 (.t 68) (.t 67))⟩])
 (.reg [⟨(some 69), none, (.mv (.t 4))⟩,
   ⟨(some 70), none, (.mv (.t 4))⟩,
   ⟨(some 71), none, (.call 35 [(.t 70), (.c (.int .i64 2))])⟩,
   ⟨(some 72), none, (.conv (.int .i64) (.t 71))⟩,
   ⟨(some 73), none, (.bin .mul .num (.c (.int .i64 4)) (.t 72))⟩,
   ⟨(some 74), none, (.call 36 [(.t 69), (.t 73)])⟩,
   ⟨(some 75), none, (.fieldAddr 7 1 (.t 7))⟩,
   ⟨none, none, (.store 1 (.t 75) (.t 74))⟩])) .skip))
 tS19)
/-- All but some objects stays. -/
def Old (N : Nat → Prop) (S S' : St) : Prop := S.next ≤ S'.next ∧ ∀ j, j < S.next → ¬ N j → S'.get j = S.get j
theorem Old.refl (N : Nat → Prop) (S : St) : Old N S S := ⟨Nat.le_refl _, fun _ _ _ => rfl⟩
theorem Old.trans {N : Nat → Prop} {S S' S'' : St} (h : Old N S S') (h' : Old N S' S'') : Old N S S'' :=
  ⟨Nat.le_trans h.1 h'.1, fun j hj hn => (h'.2 j (Nat.lt_of_lt_of_le hj h.1) hn).trans (h.2 j hj hn)⟩
theorem Old.of_ext {N : Nat → Prop} {S S' : St} (h : Ext S S') : Old N S S' := ⟨h.next, fun j hj _ => h.old j hj⟩
theorem Old.put {N : Nat → Prop} (S : St) {o : Nat} (h : N o) (x : AO) : Old N S (S.put o x) := ⟨Nat.le_refl _, fun j _ hn => by rw [St.get_put, if_neg (fun he => hn (by rw [he]; exact h))]⟩
theorem Old.by_ {N : Nat → Prop} {S S' : St} (h : Old N S S') {p : Option (Nat × Nat × Nat)} {e : Nat} {l : List Nat} (b : By S p e l) (hn : ∀ o v i, p = some (o, v, i) → ¬ N o) : By S' p e l :=
  ⟨b.ez, b.nil, fun o v i hp => by
    obtain ⟨h1, h2⟩ := b.at_ o v i hp
    refine ⟨Nat.lt_of_lt_of_le h1 h.1, ?_⟩
    unfold St.rd at h2 ⊢
    rw [h.2 o h1 (hn o v i hp)]
    exact h2, b.bd, b.mx⟩
/-- The reader at a, which is short where the row ends ahead of a. -/
abbrev rd4 (p : Option (Nat × Nat × Nat)) (l : List Nat) (e : Nat) (c : Option Nat) (a : Nat) : AO := rdr p l e c (a : Int) (decide (l.length < a))
def N3 (b o2 o5 o4 : Nat) : Nat → Prop := fun o => o = o2 ∨ o = o4 ∨ o = o5 ∨ o < b
/-- An answer whose rows are new. -/
def Ans3 (Sb : St) (r : Pk × Int) (w : AV) (S : St) : Prop := ∃ c e l, w = .tuple [.agg (pkc r.1 c e l), .int .i64 r.2] ∧ (∀ S', Old (· < Sb.next) S S' → Us S' c r.1.cs ∧ Bs S' e r.1.ex ∧ Bs S' l r.1.pl) ∧ Ext Sb S
theorem Ans3.z (Sb : St) {S : St} (x : Ext Sb S) (er : Int) : Ans3 Sb (zP, er) (.tuple [.agg (pkc zP (.slice none 0 0 none) (.slice none 0 0 none) (.slice none 0 0 none)), .int .i64 er]) S :=
  ⟨_, _, _, rfl, fun _ _ => ⟨.zero _ _, .zero _ _, .zero _ _⟩, x⟩
theorem sh_getOk {l : List Nat} (a n : Nat) (h1 : 1 ≤ n) (h8 : n ≤ 8) : (decide (l.length < a) || !getOk l (a : Int) (n : Int)) = decide (l.length < a + n) := by
  unfold getOk cutOk
  by_cases hh : l.length < a + n
  · rw [decide_eq_true hh, decide_eq_false (p := _ ∧ _) (by omega)]; simp
  · rw [decide_eq_false hh, decide_eq_true (p := _ ∧ _) (by omega), decide_eq_false (by omega)]; rfl
theorem sh_cutOk {l : List Nat} (a n : Nat) : (decide (l.length < a) || !decide (cutOk l (a : Int) (n : Int))) = decide (l.length < a + n) := by
  by_cases hh : l.length < a + n
  · rw [decide_eq_true hh, decide_eq_false (p := cutOk _ _ _) (by unfold cutOk; omega)]; simp
  · rw [decide_eq_false hh, decide_eq_true (p := cutOk _ _ _) (by unfold cutOk; omega), decide_eq_false (by omega)]; rfl
/-- What lies there while the program reads a packet. -/
structure R3 (Sb S : St) (o2 o5 o4 : Nat) (P : Pk) (c e : AV) (pb : Option (Nat × Nat × Nat)) (eb : Nat) (cb : Option Nat) (l : List Nat) (a : Nat) : Prop where
  ext : Ext Sb S
  a2 : Sb.next ≤ o2 ∧ o2 < S.next
  a5 : Sb.next ≤ o5 ∧ o5 < S.next
  a4 : Sb.next ≤ o4 ∧ o4 < S.next
  ne : ¬ o2 = o5
  n24 : ¬ o2 = o4
  n54 : ¬ o5 = o4
  g2 : S.get o2 = some (.cells (pkc zP (.slice none 0 0 none) (.slice none 0 0 none) (.slice none 0 0 none)) 0 0 true)
  g5 : S.get o5 = some (.cells (pkc P c e (.slice none 0 0 none)) 0 0 true)
  g4 : S.get o4 = some (rd4 pb l eb cb a)
  c : ∀ S', Old (N3 Sb.next o2 o5 o4) S S' → Us S' c P.cs
  e : ∀ S', Old (N3 Sb.next o2 o5 o4) S S' → Bs S' e P.ex
section
variable {Sb S : St} {T : Tm} {o2 o5 o4 : Nat} {P : Pk} {c e : AV} {pb : Option (Nat × Nat × Nat)} {eb : Nat} {cb : Option Nat} {l : List Nat}
theorem R3.num (k : Nat) {a : Nat} (R : R3 Sb S o2 o5 o4 P c e pb eb cb l a) (hb : By Sb pb eb l) (hl : l.length ≤ 1500) (ha : a ≤ 1000000) {n : Nat} (h1 : 1 ≤ n) (h8 : n ≤ 8) :
    ∃ S2, evF Y AP (k + 21) 35 [.ptr (some ⟨o4, 0, 0, 3⟩), .int .i64 n] S = some (.int .u64 (getL l a n), S2) ∧ R3 Sb S2 o2 o5 o4 P c e pb eb cb l (a + n) := by
  obtain ⟨S', q, x⟩ := T35 k (c := cb) R.a4.2 (hb.ext R.ext) hl (a := (a : Int)) (n := (n : Int)) R.g4 ⟨by omega, by omega⟩ ⟨by omega, by omega⟩
  rw [sh_getOk a n h1 h8] at q
  refine ⟨_, q, ?_⟩
  have hx := x.next
  have o : Old (N3 Sb.next o2 o5 o4) S ((S'.put o4 (rdr pb l eb cb (a : Int) (decide (l.length < a + n)))).put o4 (rdr pb l eb cb ((a : Int) + (n : Int)) (decide (l.length < a + n)))) :=
    ((Old.of_ext x).trans (.put _ (.inr (.inl rfl)) _)).trans (.put _ (.inr (.inl rfl)) _)
  refine ⟨((R.ext.trans x).then_put R.a4.1 _).then_put R.a4.1 _, ⟨R.a2.1, Nat.lt_of_lt_of_le R.a2.2 hx⟩, ⟨R.a5.1, Nat.lt_of_lt_of_le R.a5.2 hx⟩, ⟨R.a4.1, Nat.lt_of_lt_of_le R.a4.2 hx⟩, R.ne, R.n24, R.n54, ?_, ?_, ?_, fun S' h => R.c S' (o.trans h), fun S' h => R.e S' (o.trans h)⟩
  · rw [St.get_put, if_neg R.n24, St.get_put, if_neg R.n24]; exact x.get R.a2.2 R.g2
  · rw [St.get_put, if_neg R.n54, St.get_put, if_neg R.n54]; exact x.get R.a5.2 R.g5
  · rw [St.get_put, if_pos rfl]; rfl
theorem R3.cut (k : Nat) {a : Nat} (R : R3 Sb S o2 o5 o4 P c e pb eb cb l a) (hb : By Sb pb eb l) (hl : l.length ≤ 1500) (ha : a ≤ 1000000) {n : Nat} (hn : n ≤ 1000000) :
    ∃ p' e' S2, evF Y AP (k + 21) 36 [.ptr (some ⟨o4, 0, 0, 3⟩), .int .i64 n] S = some (.slice p' (cutL l a n).length e' none, S2) ∧ R3 Sb S2 o2 o5 o4 P c e pb eb cb l (a + n) ∧ ∀ S', Old (N3 Sb.next o2 o5 o4) S2 S' → Bs S' (.slice p' (cutL l a n).length e' none) (cutL l a n) := by
  obtain ⟨p', e', S', q, G⟩ := T36 k (c := cb) R.a4.2 (hb.ext R.ext) hl (a := (a : Int)) (n := (n : Int)) R.g4 ⟨by omega, by omega⟩ ⟨by omega, by omega⟩
  rw [sh_cutOk a n] at q
  have x := G.ext
  have hx := x.next
  have o' : Old (N3 Sb.next o2 o5 o4) S' ((S'.put o4 (rdr pb l eb cb (a : Int) (decide (l.length < a + n)))).put o4 (rdr pb l eb cb ((a : Int) + (n : Int)) (decide (l.length < a + n)))) :=
    (Old.put _ (.inr (.inl rfl)) _).trans (.put _ (.inr (.inl rfl)) _)
  have o := (Old.of_ext (N := N3 Sb.next o2 o5 o4) x).trans o'
  have a2 := R.a2; have a5 := R.a5; have a4 := R.a4
  refine ⟨p', e', _, q, ⟨((R.ext.trans x).then_put R.a4.1 _).then_put R.a4.1 _, ⟨R.a2.1, Nat.lt_of_lt_of_le R.a2.2 hx⟩, ⟨R.a5.1, Nat.lt_of_lt_of_le R.a5.2 hx⟩, ⟨R.a4.1, Nat.lt_of_lt_of_le R.a4.2 hx⟩, R.ne, R.n24, R.n54, ?_, ?_, ?_, fun S' h => R.c S' (o.trans h), fun S' h => R.e S' (o.trans h)⟩, fun S'' h => ⟨p', e', none, rfl, (o'.trans h).by_ (G.by_ ?_) fun o w i hp hN => ?_⟩⟩
  · rw [St.get_put, if_neg R.n24, St.get_put, if_neg R.n24]; exact x.get R.a2.2 R.g2
  · rw [St.get_put, if_neg R.n54, St.get_put, if_neg R.n54]; exact x.get R.a5.2 R.g5
  · rw [St.get_put, if_pos rfl]; rfl
  · have : (cutL l a n).length ≤ l.length := by unfold cutL; split <;> simp [List.length_take, List.length_drop] <;> omega
    omega
  · have := G.new o w i hp
    have := R.ext.next
    rcases hN with rfl | rfl | rfl | hN <;> omega
theorem R3.store {a : Nat} (R : R3 Sb S o2 o5 o4 P c e pb eb cb l a) (P' : Pk) (e' : AV) (hc : P'.cs = P.cs) (he : ∀ S', Old (N3 Sb.next o2 o5 o4) S S' → Bs S' e' P'.ex) :
    R3 Sb (S.put o5 (.cells (pkc P' c e' (.slice none 0 0 none)) 0 0 true)) o2 o5 o4 P' c e' pb eb cb l a := by
  have o : Old (N3 Sb.next o2 o5 o4) S (S.put o5 (.cells (pkc P' c e' (.slice none 0 0 none)) 0 0 true)) := .put _ (.inr (.inr (.inl rfl))) _
  refine ⟨R.ext.then_put R.a5.1 _, R.a2, R.a5, R.a4, R.ne, R.n24, R.n54, ?_, ?_, ?_, fun S' h => hc ▸ R.c S' (o.trans h), fun S' h => he S' (o.trans h)⟩
  · rw [St.get_put, if_neg R.ne]; exact R.g2
  · rw [St.get_put, if_pos rfl]
  · rw [St.get_put, if_neg (fun h => R.n54 h.symm)]; exact R.g4
theorem R3.ansz {a : Nat} (R : R3 Sb S o2 o5 o4 P c e pb eb cb l a) (er : Int) : Ans3 Sb (zP, er) (.tuple [.agg (pkc zP (.slice none 0 0 none) (.slice none 0 0 none) (.slice none 0 0 none)), .int .i64 er]) (S.put o2 (.cells (pkc zP (.slice none 0 0 none) (.slice none 0 0 none) (.slice none 0 0 none)) 0 0 true)) := .z Sb (R.ext.then_put R.a2.1 _) er
set_option maxHeartbeats 8000000 in
theorem C19 (k : Nat) {Q : Ex → Tm → St → Prop} {n m : Nat} (R : R3 Sb S o2 o5 o4 P c e pb eb cb l n) (hb : By Sb pb eb l) (hbd : b0 l < 256) (hnm : n ≤ m) (hm : m ≤ l.length) (hl : l.length ≤ 1500) (t2 : T.get 2 = some (.ptr (some ⟨o2, 0, 0, 9⟩))) (t4 : T.get 4 = some (.ptr (some ⟨o4, 0, 0, 3⟩))) (t5 : T.get 5 = some (.int .u64 (b0 l : Nat))) (t7 : T.get 7 = some (.ptr (some ⟨o5, 0, 0, 9⟩))) (t8 : T.get 8 = some (.int .i64 m)) (hQ : ∀ r T S2, (∃ w S3, fin [.cellN 2 9, .tmp 3] (r, T, S2) = some (w, S3) ∧ Ans3 Sb (finC l P n m) w S3) → Q r T S2) :
    Goes (evF Y AP (k + 21)) (k + 21) tC19 T S Q := by
  refine Goes.mono ?_ hQ
  have h16 := (bit16 hbd).2
  have g2 := R.g2; have g5 := R.g5; have g4 := R.g4
  have r5 : ∀ v i m, S.rd o5 v i m = rdO (.cells (pkc P c e (.slice none 0 0 none)) 0 0 true) v i m := rd_of g5
  have r4 : ∀ v i m, S.rd o4 v i m = rdO (rd4 pb l eb cb n) v i m := rd_of g4
  have hne := R.ne
  have hne' : ¬ o5 = o2 := fun h => hne h.symm
  have w1 : IntKind.i64.wrap ((m : Int) - n) = ((m - n : Nat) : Int) := by rw [w64_id (by omega) (by omega)]; omega
  obtain ⟨p', e', S', hap, R', hX⟩ := R.cut k hb hl (by omega) (n := m - n) (by omega)
  have hk : cutOk l (n : Int) ((m - n : Nat) : Int) := by unfold cutOk; omega
  have hcl : cutL l (n : Int) ((m - n : Nat) : Int) = (l.drop n).take (m - n) := by rw [cutL, if_pos hk]; congr 1
  rw [hcl] at hap hX
  obtain ⟨X, hXX⟩ : ∃ X, (l.drop n).take (m - n) = X := ⟨_, rfl⟩
  unfold finC
  rw [hXX] at hap hX ⊢
  have g2' := R'.g2; have g5' := R'.g5
  have r5' : ∀ v i m, S'.rd o5 v i m = rdO (.cells (pkc P c e (.slice none 0 0 none)) 0 0 true) v i m := rd_of g5'
  have ans : Ans3 Sb ({ P with pl := X }, 0) (.tuple [.agg (pkc P c e (.slice p' X.length e' none)), .int .i64 0]) ((S'.put o5 (.cells (pkc P c e (.slice p' X.length e' none)) 0 0 true)).put o2 (.cells (pkc P c e (.slice p' X.length e' none)) 0 0 true)) := by
    have o : Old (N3 Sb.next o2 o5 o4) S' ((S'.put o5 (.cells (pkc P c e (.slice p' X.length e' none)) 0 0 true)).put o2 (.cells (pkc P c e (.slice p' X.length e' none)) 0 0 true)) := (Old.put _ (.inr (.inr (.inl rfl))) _).trans (.put _ (.inl rfl) _)
    exact ⟨c, e, .slice p' X.length e' none, rfl, fun S'' t => have o' := o.trans (⟨t.1, fun j hj hn => t.2 j hj fun h => hn (.inr (.inr (.inr h)))⟩ : Old (N3 Sb.next o2 o5 o4) _ S''); ⟨R'.c _ o', R'.e _ o', hX _ o'⟩, (R'.ext.then_put R.a5.1 _).then_put R.a2.1 _⟩
  by_cases c1 : b0 l / 16 % 2 = 1
  · have h16 : Go.bits .and .u64 ((b0 l : Nat) : Int) 16 = 16 := by rw [h16, c1]; rfl
    by_cases c2 : P.pf = 0
    · have c2' := eq_true c2
      rw [if_pos ⟨c1, c2⟩]
      simp -implicitDefEqProofs -dsimp (maxSteps := 10000000) only [tC19, ↓kS, after_some, br_true, br_false, kC, ↓kQ, ↓Option.bind_some, ↓Option.map_some, ↓cond_true, ↓cond_false, evC, evOp, XO.lit, setArgs, Tr.get_set, Option.bind_some, Option.map_some, cond_true, cond_false, maxI, maxFrom, minI, minFrom, aConv, aBinE, aEq, eqScal, aUn, evRes, fin, oneOf, if_true, if_false, callee, reduceCtorEq, Nat.reduceEqDiff, List.getElem?_cons_zero, List.getElem?_cons_succ, beq_self_eq_true, gt_iff_lt, List.head?_cons, AV.undef, eq_self, ne_eq, Int.reduceLT, Int.reduceLE, Int.reduceToNat, Int.reduceEq, Int.reduceNeg, Nat.reduceAdd, Nat.reduceLT, Nat.reduceLeDiff, Nat.reduceMul, Nat.reduceSub, ↓evDraw_nil, bir, putD, evDraw, trace, List.all_cons, List.all_nil, chk, stAt, again, sameV, sameL, sameA, AV.undef, Bool.and_self, Bool.and_true, decide_eq_true_eq, List.getElem?_nil, kM, AV.cells, AV.tup, List.drop_nil, List.append_nil, rdO, St.wr, List.length_cons, List.length_nil, List.take_succ_cons, List.take_zero, List.drop_succ_cons, List.drop_zero, List.cons_append, List.nil_append, Nat.reduceMul, aFill, evParts, rep, List.replicate_succ, List.replicate_zero, List.flatten_cons, List.flatten_nil, List.append_nil, newSl, newVar, t2, t4, t5, t7, t8, h16, r5, c2', g2]
      exact ⟨_, _, rfl, R.ansz 12⟩
    · rw [if_neg (fun h => c2 h.2)]
      simp -implicitDefEqProofs -dsimp (maxSteps := 10000000) only [tC19, ↓kS, after_some, br_true, br_false, kC, ↓kQ, ↓Option.bind_some, ↓Option.map_some, ↓cond_true, ↓cond_false, evC, evOp, XO.lit, setArgs, Tr.get_set, Option.bind_some, Option.map_some, cond_true, cond_false, maxI, maxFrom, minI, minFrom, aConv, aBinE, aEq, eqScal, aUn, evRes, fin, oneOf, if_true, if_false, callee, reduceCtorEq, Nat.reduceEqDiff, List.getElem?_cons_zero, List.getElem?_cons_succ, beq_self_eq_true, gt_iff_lt, List.head?_cons, AV.undef, eq_self, ne_eq, Int.reduceLT, Int.reduceLE, Int.reduceToNat, Int.reduceEq, Int.reduceNeg, Nat.reduceAdd, Nat.reduceLT, Nat.reduceLeDiff, Nat.reduceMul, Nat.reduceSub, ↓evDraw_nil, bir, putD, evDraw, trace, List.all_cons, List.all_nil, chk, stAt, again, sameV, sameL, sameA, AV.undef, Bool.and_self, Bool.and_true, decide_eq_true_eq, List.getElem?_nil, kM, AV.cells, AV.tup, List.drop_nil, List.append_nil, rdO, St.wr, List.length_cons, List.length_nil, List.take_succ_cons, List.take_zero, List.drop_succ_cons, List.drop_zero, List.cons_append, List.nil_append, Nat.reduceMul, aFill, evParts, rep, List.replicate_succ, List.replicate_zero, List.flatten_cons, List.flatten_nil, List.append_nil, newSl, newVar, t2, t4, t5, t7, t8, h16, r5, r4, g4, c2, w1, hap, g5', r5', hne, hne', g2']
      exact ⟨_, _, rfl, ans⟩
  · have h16' : b0 l / 16 % 2 = 0 := by omega
    have h16 : Go.bits .and .u64 ((b0 l : Nat) : Int) 16 = 0 := by rw [h16, h16']; rfl
    rw [if_neg (fun h => c1 h.1)]
    simp -implicitDefEqProofs -dsimp (maxSteps := 10000000) only [tC19, ↓kS, after_some, br_true, br_false, kC, ↓kQ, ↓Option.bind_some, ↓Option.map_some, ↓cond_true, ↓cond_false, evC, evOp, XO.lit, setArgs, Tr.get_set, Option.bind_some, Option.map_some, cond_true, cond_false, maxI, maxFrom, minI, minFrom, aConv, aBinE, aEq, eqScal, aUn, evRes, fin, oneOf, if_true, if_false, callee, reduceCtorEq, Nat.reduceEqDiff, List.getElem?_cons_zero, List.getElem?_cons_succ, beq_self_eq_true, gt_iff_lt, List.head?_cons, AV.undef, eq_self, ne_eq, Int.reduceLT, Int.reduceLE, Int.reduceToNat, Int.reduceEq, Int.reduceNeg, Nat.reduceAdd, Nat.reduceLT, Nat.reduceLeDiff, Nat.reduceMul, Nat.reduceSub, ↓evDraw_nil, bir, putD, evDraw, trace, List.all_cons, List.all_nil, chk, stAt, again, sameV, sameL, sameA, AV.undef, Bool.and_self, Bool.and_true, decide_eq_true_eq, List.getElem?_nil, kM, AV.cells, AV.tup, List.drop_nil, List.append_nil, rdO, St.wr, List.length_cons, List.length_nil, List.take_succ_cons, List.take_zero, List.drop_succ_cons, List.drop_zero, List.cons_append, List.nil_append, Nat.reduceMul, aFill, evParts, rep, List.replicate_succ, List.replicate_zero, List.flatten_cons, List.flatten_nil, List.append_nil, newSl, newVar, t2, t4, t5, t7, t8, h16, r5, r4, g4, w1, hap, g5', r5', hne, hne', g2']
    exact ⟨_, _, rfl, ans⟩
set_option maxHeartbeats 8000000 in
theorem B19 (k : Nat) {Q : Ex → Tm → St → Prop} {n : Nat} (R : R3 Sb S o2 o5 o4 P c e pb eb cb l n) (hb : By Sb pb eb l) (hbd : b0 l < 256) (h0 : 0 < l.length) (hn : n ≤ l.length) (hl : l.length ≤ 1500) (t0 : T.get 0 = some (.slice pb l.length eb cb)) (t2 : T.get 2 = some (.ptr (some ⟨o2, 0, 0, 9⟩))) (t4 : T.get 4 = some (.ptr (some ⟨o4, 0, 0, 3⟩))) (t5 : T.get 5 = some (.int .u64 (b0 l : Nat))) (t7 : T.get 7 = some (.ptr (some ⟨o5, 0, 0, 9⟩))) (hQ : ∀ r T S2, (∃ w S3, fin [.cellN 2 9, .tmp 3] (r, T, S2) = some (w, S3) ∧ Ans3 Sb (finB l P n) w S3) → Q r T S2) :
    Goes (evF Y AP (k + 21)) (k + 21) tB19 T S Q := by
  have hbS := hb.ext R.ext
  have hm0 := hb.mx
  have h32 := (bit32 hbd).2
  have g2 := R.g2; have g4 := R.g4
  have r4 : ∀ v i m, S.rd o4 v i m = rdO (rd4 pb l eb cb n) v i m := rd_of g4
  unfold finB at hQ
  by_cases c1 : b0 l / 32 % 2 = 1
  · have h32 : Go.bits .and .u64 ((b0 l : Nat) : Int) 32 = 32 := by rw [h32, c1]; rfl
    rw [if_pos c1] at hQ
    obtain ⟨o, v, i, rfl, hz, _⟩ := b0_get hbS h0
    obtain rfl := hb.ez.resolve_left (by simp)
    have w1 : IntKind.i64.wrap ((l.length : Int) - 1) = ((l.length - 1 : Nat) : Int) := by rw [w64_id (by omega) (by omega)]; omega
    have hix2 : ixOf (.int .i64 ((l.length - 1 : Nat) : Int)) l.length = some (l.length - 1) := by rw [ix_ok (by omega) (by omega)]; rfl
    have hlast : l.getD (l.length - 1) 0 = l[l.length - 1] := by rw [List.getD_eq_getElem?_getD, List.getElem?_eq_getElem (by omega)]; rfl
    have hz2 := hbS.get (j := l.length - 1) (by omega)
    have hb2 := hb.bd _ (List.getElem_mem (show l.length - 1 < l.length by omega))
    rw [← hlast] at hz2 hb2
    obtain ⟨d, hd⟩ : ∃ d, l.getD (l.length - 1) 0 = d := ⟨_, rfl⟩
    rw [hd] at hz2 hb2
    rw [hd] at hQ
    have w2 : IntKind.i64.wrap (d : Int) = (d : Int) := w64_id (by omega) (by omega)
    have w3 : IntKind.i64.wrap ((l.length : Int) - n) = ((l.length - n : Nat) : Int) := by rw [w64_id (by omega) (by omega)]; omega
    by_cases c2 : d = 0
    · have c2' : ((d : Int) = 0) = True := eq_true (by omega)
      rw [if_pos (.inl c2)] at hQ
      simp -implicitDefEqProofs -dsimp (maxSteps := 10000000) only [tB19, ↓kS, after_some, br_true, br_false, kC, ↓kQ, ↓Option.bind_some, ↓Option.map_some, ↓cond_true, ↓cond_false, evC, evOp, XO.lit, setArgs, Tr.get_set, Option.bind_some, Option.map_some, cond_true, cond_false, maxI, maxFrom, minI, minFrom, aConv, aBinE, aEq, eqScal, aUn, evRes, fin, oneOf, if_true, if_false, callee, reduceCtorEq, Nat.reduceEqDiff, List.getElem?_cons_zero, List.getElem?_cons_succ, beq_self_eq_true, gt_iff_lt, List.head?_cons, AV.undef, eq_self, ne_eq, Int.reduceLT, Int.reduceLE, Int.reduceToNat, Int.reduceEq, Int.reduceNeg, Nat.reduceAdd, Nat.reduceLT, Nat.reduceLeDiff, Nat.reduceMul, Nat.reduceSub, ↓evDraw_nil, bir, putD, evDraw, trace, List.all_cons, List.all_nil, chk, stAt, again, sameV, sameL, sameA, AV.undef, Bool.and_self, Bool.and_true, decide_eq_true_eq, List.getElem?_nil, kM, AV.cells, AV.tup, List.drop_nil, List.append_nil, rdO, St.wr, List.length_cons, List.length_nil, List.take_succ_cons, List.take_zero, List.drop_succ_cons, List.drop_zero, List.cons_append, List.nil_append, Nat.reduceMul, aFill, evParts, rep, List.replicate_succ, List.replicate_zero, List.flatten_cons, List.flatten_nil, List.append_nil, newSl, newVar, t0, t2, t4, t5, t7, hm0, Nat.mul_one, Nat.zero_mul, Nat.add_zero, h32, w1, hix2, hz2, w2, c2', g2]
      refine hQ _ _ _ ?_
      simp -implicitDefEqProofs -dsimp (maxSteps := 10000000) only [kC, ↓kQ, ↓Option.bind_some, ↓Option.map_some, ↓cond_true, ↓cond_false, evC, evOp, XO.lit, setArgs, Tr.get_set, Option.bind_some, Option.map_some, cond_true, cond_false, maxI, maxFrom, minI, minFrom, aConv, aBinE, aEq, eqScal, aUn, evRes, fin, oneOf, if_true, if_false, callee, reduceCtorEq, Nat.reduceEqDiff, List.getElem?_cons_zero, List.getElem?_cons_succ, beq_self_eq_true, gt_iff_lt, List.head?_cons, AV.undef, eq_self, ne_eq, Int.reduceLT, Int.reduceLE, Int.reduceToNat, Int.reduceEq, Int.reduceNeg, Nat.reduceAdd, Nat.reduceLT, Nat.reduceLeDiff, Nat.reduceMul, Nat.reduceSub, kM, AV.cells, AV.tup, List.drop_nil, List.append_nil, rdO, St.wr, List.length_cons, List.length_nil, List.take_succ_cons, List.take_zero, List.drop_succ_cons, List.drop_zero, List.cons_append, List.nil_append, Nat.reduceMul, t2]
      exact ⟨_, _, rfl, R.ansz 13⟩
    · have c2' : ¬ (d : Int) = 0 := by omega
      by_cases c3 : l.length - n < d
      · have c3' : ((l.length - n : Nat) : Int) < (d : Int) := by omega
        rw [if_pos (.inr c3)] at hQ
        simp -implicitDefEqProofs -dsimp (maxSteps := 10000000) only [tB19, ↓kS, after_some, br_true, br_false, kC, ↓kQ, ↓Option.bind_some, ↓Option.map_some, ↓cond_true, ↓cond_false, evC, evOp, XO.lit, setArgs, Tr.get_set, Option.bind_some, Option.map_some, cond_true, cond_false, maxI, maxFrom, minI, minFrom, aConv, aBinE, aEq, eqScal, aUn, evRes, fin, oneOf, if_true, if_false, callee, reduceCtorEq, Nat.reduceEqDiff, List.getElem?_cons_zero, List.getElem?_cons_succ, beq_self_eq_true, gt_iff_lt, List.head?_cons, AV.undef, eq_self, ne_eq, Int.reduceLT, Int.reduceLE, Int.reduceToNat, Int.reduceEq, Int.reduceNeg, Nat.reduceAdd, Nat.reduceLT, Nat.reduceLeDiff, Nat.reduceMul, Nat.reduceSub, ↓evDraw_nil, bir, putD, evDraw, trace, List.all_cons, List.all_nil, chk, stAt, again, sameV, sameL, sameA, AV.undef, Bool.and_self, Bool.and_true, decide_eq_true_eq, List.getElem?_nil, kM, AV.cells, AV.tup, List.drop_nil, List.append_nil, rdO, St.wr, List.length_cons, List.length_nil, List.take_succ_cons, List.take_zero, List.drop_succ_cons, List.drop_zero, List.cons_append, List.nil_append, Nat.reduceMul, aFill, evParts, rep, List.replicate_succ, List.replicate_zero, List.flatten_cons, List.flatten_nil, List.append_nil, newSl, newVar, t0, t2, t4, t5, t7, hm0, Nat.mul_one, Nat.zero_mul, Nat.add_zero, h32, w1, hix2, hz2, w2, c2', r4, g4, w3, c3', g2]
        refine hQ _ _ _ ?_
        simp -implicitDefEqProofs -dsimp (maxSteps := 10000000) only [kC, ↓kQ, ↓Option.bind_some, ↓Option.map_some, ↓cond_true, ↓cond_false, evC, evOp, XO.lit, setArgs, Tr.get_set, Option.bind_some, Option.map_some, cond_true, cond_false, maxI, maxFrom, minI, minFrom, aConv, aBinE, aEq, eqScal, aUn, evRes, fin, oneOf, if_true, if_false, callee, reduceCtorEq, Nat.reduceEqDiff, List.getElem?_cons_zero, List.getElem?_cons_succ, beq_self_eq_true, gt_iff_lt, List.head?_cons, AV.undef, eq_self, ne_eq, Int.reduceLT, Int.reduceLE, Int.reduceToNat, Int.reduceEq, Int.reduceNeg, Nat.reduceAdd, Nat.reduceLT, Nat.reduceLeDiff, Nat.reduceMul, Nat.reduceSub, kM, AV.cells, AV.tup, List.drop_nil, List.append_nil, rdO, St.wr, List.length_cons, List.length_nil, List.take_succ_cons, List.take_zero, List.drop_succ_cons, List.drop_zero, List.cons_append, List.nil_append, Nat.reduceMul, t2]
        exact ⟨_, _, rfl, R.ansz 13⟩
      · have c3' : ¬ ((l.length - n : Nat) : Int) < (d : Int) := by omega
        rw [if_neg (by omega)] at hQ
        have w4 : IntKind.i64.wrap ((l.length : Int) - d) = ((l.length - d : Nat) : Int) := by rw [w64_id (by omega) (by omega)]; omega
        simp -implicitDefEqProofs -dsimp (maxSteps := 10000000) only [tB19, ↓kS, after_some, br_true, br_false, kC, ↓kQ, ↓Option.bind_some, ↓Option.map_some, ↓cond_true, ↓cond_false, evC, evOp, XO.lit, setArgs, Tr.get_set, Option.bind_some, Option.map_some, cond_true, cond_false, maxI, maxFrom, minI, minFrom, aConv, aBinE, aEq, eqScal, aUn, evRes, fin, oneOf, if_true, if_false, callee, reduceCtorEq, Nat.reduceEqDiff, List.getElem?_cons_zero, List.getElem?_cons_succ, beq_self_eq_true, gt_iff_lt, List.head?_cons, AV.undef, eq_self, ne_eq, Int.reduceLT, Int.reduceLE, Int.reduceToNat, Int.reduceEq, Int.reduceNeg, Nat.reduceAdd, Nat.reduceLT, Nat.reduceLeDiff, Nat.reduceMul, Nat.reduceSub, ↓evDraw_nil, bir, putD, evDraw, trace, List.all_cons, List.all_nil, chk, stAt, again, sameV, sameL, sameA, AV.undef, Bool.and_self, Bool.and_true, decide_eq_true_eq, List.getElem?_nil, kM, AV.cells, AV.tup, List.drop_nil, List.append_nil, rdO, St.wr, List.length_cons, List.length_nil, List.take_succ_cons, List.take_zero, List.drop_succ_cons, List.drop_zero, List.cons_append, List.nil_append, Nat.reduceMul, aFill, evParts, rep, List.replicate_succ, List.replicate_zero, List.flatten_cons, List.flatten_nil, List.append_nil, newSl, newVar, t0, t2, t4, t5, t7, hm0, Nat.mul_one, Nat.zero_mul, Nat.add_zero, h32, w1, hix2, hz2, w2, c2', r4, g4, w3, c3', w4]
        refine (C19 k R hb hbd (m := l.length - d) (by omega) (by omega) hl ?_ ?_ ?_ ?_ ?_ hQ) <;> simp only [Tr.get_set, Nat.reduceEqDiff, if_false, if_true, t0, t2, t4, t5, t7]
  · have h32' : b0 l / 32 % 2 = 0 := by omega
    have h32 : Go.bits .and .u64 ((b0 l : Nat) : Int) 32 = 0 := by rw [h32, h32']; rfl
    rw [if_neg c1] at hQ
    simp -implicitDefEqProofs -dsimp (maxSteps := 10000000) only [tB19, ↓kS, after_some, br_true, br_false, kC, ↓kQ, ↓Option.bind_some, ↓Option.map_some, ↓cond_true, ↓cond_false, evC, evOp, XO.lit, setArgs, Tr.get_set, Option.bind_some, Option.map_some, cond_true, cond_false, maxI, maxFrom, minI, minFrom, aConv, aBinE, aEq, eqScal, aUn, evRes, fin, oneOf, if_true, if_false, callee, reduceCtorEq, Nat.reduceEqDiff, List.getElem?_cons_zero, List.getElem?_cons_succ, beq_self_eq_true, gt_iff_lt, List.head?_cons, AV.undef, eq_self, ne_eq, Int.reduceLT, Int.reduceLE, Int.reduceToNat, Int.reduceEq, Int.reduceNeg, Nat.reduceAdd, Nat.reduceLT, Nat.reduceLeDiff, Nat.reduceMul, Nat.reduceSub, ↓evDraw_nil, bir, putD, evDraw, trace, List.all_cons, List.all_nil, chk, stAt, again, sameV, sameL, sameA, AV.undef, Bool.and_self, Bool.and_true, decide_eq_true_eq, List.getElem?_nil, kM, AV.cells, AV.tup, List.drop_nil, List.append_nil, rdO, St.wr, List.length_cons, List.length_nil, List.take_succ_cons, List.take_zero, List.drop_succ_cons, List.drop_zero, List.cons_append, List.nil_append, Nat.reduceMul, aFill, evParts, rep, List.replicate_succ, List.replicate_zero, List.flatten_cons, List.flatten_nil, List.append_nil, newSl, newVar, t0, t2, t4, t5, t7, hm0, Nat.mul_one, Nat.zero_mul, Nat.add_zero, h32]
    refine (C19 k R hb hbd (m := l.length) hn (Nat.le_refl _) hl ?_ ?_ ?_ ?_ ?_ hQ) <;> simp only [Tr.get_set, Nat.reduceEqDiff, if_false, if_true, t0, t2, t4, t5, t7]
def finS (l : List Nat) (P : Pk) (n : Nat) : Pk × Int := if l.length < n then (zP, 13) else finB l P n
set_option maxHeartbeats 8000000 in
theorem S19 (k : Nat) {Q : Ex → Tm → St → Prop} {n : Nat} (R : R3 Sb S o2 o5 o4 P c e pb eb cb l n) (hb : By Sb pb eb l) (hbd : b0 l < 256) (h0 : 0 < l.length) (hl : l.length ≤ 1500) (t0 : T.get 0 = some (.slice pb l.length eb cb)) (t2 : T.get 2 = some (.ptr (some ⟨o2, 0, 0, 9⟩))) (t4 : T.get 4 = some (.ptr (some ⟨o4, 0, 0, 3⟩))) (t5 : T.get 5 = some (.int .u64 (b0 l : Nat))) (t7 : T.get 7 = some (.ptr (some ⟨o5, 0, 0, 9⟩))) (hQ : ∀ r T S2, (∃ w S3, fin [.cellN 2 9, .tmp 3] (r, T, S2) = some (w, S3) ∧ Ans3 Sb (finS l P n) w S3) → Q r T S2) :
    Goes (evF Y AP (k + 21)) (k + 21) tS19 T S Q := by
  have g2 := R.g2; have g4 := R.g4
  unfold finS at hQ
  by_cases c1 : l.length < n
  · rw [if_pos c1] at hQ
    rw [rd4, decide_eq_true c1] at g4
    have r4 : ∀ v i m, S.rd o4 v i m = rdO (rdr pb l eb cb n true) v i m := rd_of g4
    simp -implicitDefEqProofs -dsimp (maxSteps := 10000000) only [tS19, ↓kS, after_some, br_true, br_false, kC, ↓kQ, ↓Option.bind_some, ↓Option.map_some, ↓cond_true, ↓cond_false, evC, evOp, XO.lit, setArgs, Tr.get_set, Option.bind_some, Option.map_some, cond_true, cond_false, maxI, maxFrom, minI, minFrom, aConv, aBinE, aEq, eqScal, aUn, evRes, fin, oneOf, if_true, if_false, callee, reduceCtorEq, Nat.reduceEqDiff, List.getElem?_cons_zero, List.getElem?_cons_succ, beq_self_eq_true, gt_iff_lt, List.head?_cons, AV.undef, eq_self, ne_eq, Int.reduceLT, Int.reduceLE, Int.reduceToNat, Int.reduceEq, Int.reduceNeg, Nat.reduceAdd, Nat.reduceLT, Nat.reduceLeDiff, Nat.reduceMul, Nat.reduceSub, ↓evDraw_nil, bir, putD, evDraw, trace, List.all_cons, List.all_nil, chk, stAt, again, sameV, sameL, sameA, AV.undef, Bool.and_self, Bool.and_true, decide_eq_true_eq, List.getElem?_nil, kM, AV.cells, AV.tup, List.drop_nil, List.append_nil, rdO, St.wr, List.length_cons, List.length_nil, List.take_succ_cons, List.take_zero, List.drop_succ_cons, List.drop_zero, List.cons_append, List.nil_append, Nat.reduceMul, aFill, evParts, rep, List.replicate_succ, List.replicate_zero, List.flatten_cons, List.flatten_nil, List.append_nil, newSl, newVar, t0, t2, t4, t5, t7, r4, g4, g2]
    refine hQ _ _ _ ?_
    simp -implicitDefEqProofs -dsimp (maxSteps := 10000000) only [kC, ↓kQ, ↓Option.bind_some, ↓Option.map_some, ↓cond_true, ↓cond_false, evC, evOp, XO.lit, setArgs, Tr.get_set, Option.bind_some, Option.map_some, cond_true, cond_false, maxI, maxFrom, minI, minFrom, aConv, aBinE, aEq, eqScal, aUn, evRes, fin, oneOf, if_true, if_false, callee, reduceCtorEq, Nat.reduceEqDiff, List.getElem?_cons_zero, List.getElem?_cons_succ, beq_self_eq_true, gt_iff_lt, List.head?_cons, AV.undef, eq_self, ne_eq, Int.reduceLT, Int.reduceLE, Int.reduceToNat, Int.reduceEq, Int.reduceNeg, Nat.reduceAdd, Nat.reduceLT, Nat.reduceLeDiff, Nat.reduceMul, Nat.reduceSub, kM, AV.cells, AV.tup, List.drop_nil, List.append_nil, rdO, St.wr, List.length_cons, List.length_nil, List.take_succ_cons, List.take_zero, List.drop_succ_cons, List.drop_zero, List.cons_append, List.nil_append, Nat.reduceMul, t2]
    exact ⟨_, _, rfl, R.ansz 13⟩
  · rw [if_neg c1] at hQ
    rw [rd4, decide_eq_false c1] at g4
    have r4 : ∀ v i m, S.rd o4 v i m = rdO (rdr pb l eb cb n false) v i m := rd_of g4
    simp -implicitDefEqProofs -dsimp (maxSteps := 10000000) only [tS19, ↓kS, after_some, br_true, br_false, kC, ↓kQ, ↓Option.bind_some, ↓Option.map_some, ↓cond_true, ↓cond_false, evC, evOp, XO.lit, setArgs, Tr.get_set, Option.bind_some, Option.map_some, cond_true, cond_false, maxI, maxFrom, minI, minFrom, aConv, aBinE, aEq, eqScal, aUn, evRes, fin, oneOf, if_true, if_false, callee, reduceCtorEq, Nat.reduceEqDiff, List.getElem?_cons_zero, List.getElem?_cons_succ, beq_self_eq_true, gt_iff_lt, List.head?_cons, AV.undef, eq_self, ne_eq, Int.reduceLT, Int.reduceLE, Int.reduceToNat, Int.reduceEq, Int.reduceNeg, Nat.reduceAdd, Nat.reduceLT, Nat.reduceLeDiff, Nat.reduceMul, Nat.reduceSub, ↓evDraw_nil, bir, putD, evDraw, trace, List.all_cons, List.all_nil, chk, stAt, again, sameV, sameL, sameA, AV.undef, Bool.and_self, Bool.and_true, decide_eq_true_eq, List.getElem?_nil, kM, AV.cells, AV.tup, List.drop_nil, List.append_nil, rdO, St.wr, List.length_cons, List.length_nil, List.take_succ_cons, List.take_zero, List.drop_succ_cons, List.drop_zero, List.cons_append, List.nil_append, Nat.reduceMul, aFill, evParts, rep, List.replicate_succ, List.replicate_zero, List.flatten_cons, List.flatten_nil, List.append_nil, newSl, newVar, t0, t2, t4, t5, t7, r4, g4]
    refine (B19 k R hb hbd h0 (by omega) hl ?_ ?_ ?_ ?_ ?_ hQ) <;> simp only [Tr.get_set, Nat.reduceEqDiff, if_false, if_true, t0, t2, t4, t5, t7]
def finX (l : List Nat) (P : Pk) (n : Nat) : Pk × Int :=
  if b0 l / 16 % 2 = 1 then finS l { P with pf := (getL l (n : Int) 2 : Nat), ex := cutL l ((n + 4 : Nat) : Int) ((4 * getL l ((n + 2 : Nat) : Int) 2 : Nat) : Int) } (n + 4 + 4 * getL l ((n + 2 : Nat) : Int) 2) else finS l P n
theorem finX_eq (l : List Nat) (P : Pk) (n : Nat) : finX l P n = if l.length < n then (zP, 13) else finA l P n := by
  unfold finX finA finS
  by_cases c1 : b0 l / 16 % 2 = 1
  · rw [if_pos c1, if_pos c1]
    by_cases c2 : cutOk l ((n + 4 : Nat) : Int) ((4 * getL l ((n + 2 : Nat) : Int) 2 : Nat) : Int)
    · rw [if_pos c2]; unfold cutOk at c2; rw [if_neg (by omega), if_neg (by omega)]
    · rw [if_neg c2]; unfold cutOk at c2; rw [if_pos (by omega)]; split <;> rfl
  · rw [if_neg c1, if_neg c1]
set_option maxHeartbeats 16000000 in
theorem A19 (k : Nat) {Q : Ex → Tm → St → Prop} {n : Nat} (R : R3 Sb S o2 o5 o4 P c e pb eb cb l n) (hb : By Sb pb eb l) (hbd : b0 l < 256) (h0 : 0 < l.length) (hl : l.length ≤ 1500) (hn : n ≤ 1000) (t0 : T.get 0 = some (.slice pb l.length eb cb)) (t2 : T.get 2 = some (.ptr (some ⟨o2, 0, 0, 9⟩))) (t4 : T.get 4 = some (.ptr (some ⟨o4, 0, 0, 3⟩))) (t5 : T.get 5 = some (.int .u64 (b0 l : Nat))) (t7 : T.get 7 = some (.ptr (some ⟨o5, 0, 0, 9⟩))) (hQ : ∀ r T S2, (∃ w S3, fin [.cellN 2 9, .tmp 3] (r, T, S2) = some (w, S3) ∧ Ans3 Sb (finX l P n) w S3) → Q r T S2) :
    Goes (evF Y AP (k + 21)) (k + 21) tA19 T S Q := by
  have h16 := (bit16 hbd).2
  unfold finX at hQ
  by_cases c1 : b0 l / 16 % 2 = 1
  rotate_left
  · have h16' : b0 l / 16 % 2 = 0 := by omega
    have h16 : Go.bits .and .u64 ((b0 l : Nat) : Int) 16 = 0 := by rw [h16, h16']; rfl
    rw [if_neg c1] at hQ
    simp -implicitDefEqProofs -dsimp (maxSteps := 10000000) only [tA19, ↓kS, after_some, br_true, br_false, kC, ↓kQ, ↓Option.bind_some, ↓Option.map_some, ↓cond_true, ↓cond_false, evC, evOp, XO.lit, setArgs, Tr.get_set, Option.bind_some, Option.map_some, cond_true, cond_false, maxI, maxFrom, minI, minFrom, aConv, aBinE, aEq, eqScal, aUn, evRes, fin, oneOf, if_true, if_false, callee, reduceCtorEq, Nat.reduceEqDiff, List.getElem?_cons_zero, List.getElem?_cons_succ, beq_self_eq_true, gt_iff_lt, List.head?_cons, AV.undef, eq_self, ne_eq, Int.reduceLT, Int.reduceLE, Int.reduceToNat, Int.reduceEq, Int.reduceNeg, Nat.reduceAdd, Nat.reduceLT, Nat.reduceLeDiff, Nat.reduceMul, Nat.reduceSub, ↓evDraw_nil, bir, putD, evDraw, trace, List.all_cons, List.all_nil, chk, stAt, again, sameV, sameL, sameA, AV.undef, Bool.and_self, Bool.and_true, decide_eq_true_eq, List.getElem?_nil, kM, AV.cells, AV.tup, List.drop_nil, List.append_nil, rdO, St.wr, List.length_cons, List.length_nil, List.take_succ_cons, List.take_zero, List.drop_succ_cons, List.drop_zero, List.cons_append, List.nil_append, Nat.reduceMul, aFill, evParts, rep, List.replicate_succ, List.replicate_zero, List.flatten_cons, List.flatten_nil, List.append_nil, newSl, newVar, t0, t2, t4, t5, t7, h16]
    refine (S19 k R hb hbd h0 hl ?_ ?_ ?_ ?_ ?_ hQ) <;> simp only [Tr.get_set, Nat.reduceEqDiff, if_false, if_true, t0, t2, t4, t5, t7]
  · have h16 : Go.bits .and .u64 ((b0 l : Nat) : Int) 16 = 16 := by rw [h16, c1]; rfl
    rw [if_pos c1] at hQ
    obtain ⟨S1, q1, R1⟩ := R.num k hb hl (by omega) (n := 2) (by decide) (by decide)
    obtain ⟨f, hf⟩ : ∃ f, getL l (n : Int) 2 = f := ⟨_, rfl⟩
    have hfl : f < 65536 := hf ▸ getL_lt2 hb.bd _
    rw [show ((2 : Nat) : Int) = 2 from rfl, hf] at q1
    have R2 := R1.store { P with pf := (f : Int) } e rfl R1.e
    have g5 := R1.g5
    obtain ⟨S2, hS2⟩ : ∃ S2, S1.put o5 (.cells (pkc { P with pf := (f : Int) } c e (.slice none 0 0 none)) 0 0 true) = S2 := ⟨_, rfl⟩
    rw [hS2] at R2
    obtain ⟨S3, q3, R3⟩ := R2.num k hb hl (by omega) (n := 2) (by decide) (by decide)
    obtain ⟨w, hw⟩ : ∃ w, getL l ((n + 2 : Nat) : Int) 2 = w := ⟨_, rfl⟩
    have hwl : w < 65536 := hw ▸ getL_lt2 hb.bd _
    rw [show ((2 : Nat) : Int) = 2 from rfl, hw] at q3
    obtain ⟨p', e', S4, q4, R4, hX⟩ := R3.cut k hb hl (by omega) (n := 4 * w) (by omega)
    rw [hw, hf] at hQ
    have e4 : n + 2 + 2 = n + 4 := by omega
    rw [e4] at q4 R4 hX
    obtain ⟨X, hXX⟩ : ∃ X, cutL l ((n + 4 : Nat) : Int) ((4 * w : Nat) : Int) = X := ⟨_, rfl⟩
    rw [hXX] at q4 hX hQ
    have g54 := R4.g5
    have R5 := R4.store { P with pf := (f : Int), ex := X } (.slice p' X.length e' none) rfl hX
    have w2 : IntKind.i64.wrap (w : Int) = (w : Int) := w64_id (by omega) (by omega)
    have w3 : IntKind.i64.wrap (4 * (w : Int)) = ((4 * w : Nat) : Int) := w64_id (by omega) (by omega)
    have w5 : IntKind.u16.wrap (f : Int) = (f : Int) := u16_id (by omega) (by omega)
    simp -implicitDefEqProofs -dsimp (maxSteps := 10000000) only [tA19, ↓kS, after_some, br_true, br_false, kC, ↓kQ, ↓Option.bind_some, ↓Option.map_some, ↓cond_true, ↓cond_false, evC, evOp, XO.lit, setArgs, Tr.get_set, Option.bind_some, Option.map_some, cond_true, cond_false, maxI, maxFrom, minI, minFrom, aConv, aBinE, aEq, eqScal, aUn, evRes, fin, oneOf, if_true, if_false, callee, reduceCtorEq, Nat.reduceEqDiff, List.getElem?_cons_zero, List.getElem?_cons_succ, beq_self_eq_true, gt_iff_lt, List.head?_cons, AV.undef, eq_self, ne_eq, Int.reduceLT, Int.reduceLE, Int.reduceToNat, Int.reduceEq, Int.reduceNeg, Nat.reduceAdd, Nat.reduceLT, Nat.reduceLeDiff, Nat.reduceMul, Nat.reduceSub, ↓evDraw_nil, bir, putD, evDraw, trace, List.all_cons, List.all_nil, chk, stAt, again, sameV, sameL, sameA, AV.undef, Bool.and_self, Bool.and_true, decide_eq_true_eq, List.getElem?_nil, kM, AV.cells, AV.tup, List.drop_nil, List.append_nil, rdO, St.wr, List.length_cons, List.length_nil, List.take_succ_cons, List.take_zero, List.drop_succ_cons, List.drop_zero, List.cons_append, List.nil_append, Nat.reduceMul, aFill, evParts, rep, List.replicate_succ, List.replicate_zero, List.flatten_cons, List.flatten_nil, List.append_nil, newSl, newVar, t0, t2, t4, t5, t7, h16, q1, w5, g5, hS2, q3, w2, w3, q4, g54]
    refine (S19 k R5 hb hbd h0 hl ?_ ?_ ?_ ?_ ?_ hQ) <;> simp only [Tr.get_set, Nat.reduceEqDiff, if_false, if_true, t0, t2, t4, t5, t7]
end
/-- What lies there while the head is read. -/
structure W4 (Sb S : St) (o2 o4 : Nat) (pb : Option (Nat × Nat × Nat)) (eb : Nat) (cb : Option Nat) (l : List Nat) (a : Nat) : Prop where
  ext : Ext Sb S
  a2 : Sb.next ≤ o2 ∧ o2 < S.next
  a4 : Sb.next ≤ o4 ∧ o4 < S.next
  n24 : ¬ o2 = o4
  g2 : S.get o2 = some (.cells (pkc zP (.slice none 0 0 none) (.slice none 0 0 none) (.slice none 0 0 none)) 0 0 true)
  g4 : S.get o4 = some (rd4 pb l eb cb a)
theorem W4.num (k : Nat) {Sb S : St} {o2 o4 : Nat} {pb : Option (Nat × Nat × Nat)} {eb : Nat} {cb : Option Nat} {l : List Nat} {a : Nat} (R : W4 Sb S o2 o4 pb eb cb l a) (hb : By Sb pb eb l) (hl : l.length ≤ 1500) (ha : a ≤ 1000000) {n : Nat} (h1 : 1 ≤ n) (h8 : n ≤ 8) :
    ∃ S2, evF Y AP (k + 21) 35 [.ptr (some ⟨o4, 0, 0, 3⟩), .int .i64 n] S = some (.int .u64 (getL l a n), S2) ∧ W4 Sb S2 o2 o4 pb eb cb l (a + n) := by
  obtain ⟨S', q, x⟩ := T35 k (c := cb) R.a4.2 (hb.ext R.ext) hl (a := (a : Int)) (n := (n : Int)) R.g4 ⟨by omega, by omega⟩ ⟨by omega, by omega⟩
  rw [sh_getOk a n h1 h8] at q
  refine ⟨_, q, ?_⟩
  have hx := x.next
  refine ⟨((R.ext.trans x).then_put R.a4.1 _).then_put R.a4.1 _, ⟨R.a2.1, Nat.lt_of_lt_of_le R.a2.2 hx⟩, ⟨R.a4.1, Nat.lt_of_lt_of_le R.a4.2 hx⟩, R.n24, ?_, ?_⟩
  · rw [St.get_put, if_neg R.n24, St.get_put, if_neg R.n24]; exact x.get R.a2.2 R.g2
  · rw [St.get_put, if_pos rfl]; rfl
theorem Cs.r3 {Sb S : St} {o2 o5 o4 : Nat} {P : Pk} {p : Option (Nat × Nat × Nat)} {e : Nat} {pb : Option (Nat × Nat × Nat)} {eb : Nat} {cb : Option Nat} {l : List Nat} {a : Nat} (h : Cs Sb S (N3 Sb.next o2 o5 o4) o2 o5 P p e P.cs) (hc : P.cs.length ≤ 1000) (hx : P.ex = []) (h4 : Sb.next ≤ o4) (n24 : ¬ o2 = o4) (n54 : ¬ o5 = o4) (g4 : S.get o4 = some (rd4 pb l eb cb a)) :
    R3 Sb S o2 o5 o4 P (.slice p P.cs.length e none) (.slice none 0 0 none) pb eb cb l a :=
  ⟨h.ext, h.a2, h.a5, ⟨h4, h.nN o4 (.inr (.inl rfl))⟩, h.ne, n24, n54, h.g2, h.g5, g4, fun S' t => ⟨p, e, none, rfl, Vec.ur (h.vec.els t.1 fun o v i hp ho => t.2 o ho (h.new o v i hp).2) h.bd (by omega)⟩, fun S' _ => by rw [hx]; exact .zero S' 0⟩
theorem getL0 {l : List Nat} : getL l 0 1 = b0 l := by
  cases l with
  | nil => rfl
  | cons x t =>
    have hk : cutOk (x :: t) 0 1 := ⟨by omega, by omega, by simp only [List.length_cons]; omega, by simp only [List.length_cons]; omega⟩
    have hg : cutOk (x :: t) 0 1 ∧ (1 : Int) ≤ 1 ∧ (1 : Int) ≤ 8 := ⟨hk, by omega, by omega⟩
    rw [getL, if_pos hg, cutL, if_pos hk]; simp [hv, hvF, b0]
theorem getL1 {l : List Nat} : getL l 1 1 = l.getD 1 0 := by
  match l with
  | [] => rfl
  | [_] => rfl
  | x :: y :: t =>
    have hk : cutOk (x :: y :: t) 1 1 := ⟨by omega, by omega, by simp only [List.length_cons]; omega, by simp only [List.length_cons]; omega⟩
    have hg : cutOk (x :: y :: t) 1 1 ∧ (1 : Int) ≤ 1 ∧ (1 : Int) ≤ 8 := ⟨hk, by omega, by omega⟩
    rw [getL, if_pos hg, cutL, if_pos hk]; simp [hv, hvF]
set_option maxHeartbeats 8000000 in
/-- Read -/
theorem T19f (k : Nat) {S : St} {p : Option (Nat × Nat × Nat)} {e : Nat} {c : Option Nat} {l : List Nat} (h : By S p e l) :
    ∃ w S', evF Y AP (k + 22) 19 [.slice p l.length e c] S = some (w, S') ∧ Ans3 S (readP l) w S' := by
  obtain ⟨A, hA⟩ : ∃ A, S.alloc (.cells [.bool false, .int .i64 0, .int .u16 0, .int .u32 0, .int .u32 0, .slice none 0 0 none, .int .u16 0, .slice none 0 0 none, .slice none 0 0 none] 0 0 true) = A := ⟨_, rfl⟩
  have eA : Ext S A := by rw [← hA]; exact .alloc _ _
  have nA : A.next = S.next + 1 := by rw [← hA]; rfl
  have gA : A.get S.next = some (.cells [.bool false, .int .i64 0, .int .u16 0, .int .u32 0, .int .u32 0, .slice none 0 0 none, .int .u16 0, .slice none 0 0 none, .slice none 0 0 none] 0 0 true) := by rw [← hA, St.get_alloc, if_pos rfl]
  have hm := h.mx
  have ansz : ∀ er : Int, Ans3 S (zP, er) (.tuple [.agg (pkc zP (.slice none 0 0 none) (.slice none 0 0 none) (.slice none 0 0 none)), .int .i64 er]) (A.put S.next (.cells (pkc zP (.slice none 0 0 none) (.slice none 0 0 none) (.slice none 0 0 none)) 0 0 true)) := fun er => .z S (eA.then_put (Nat.le_refl _) _) er
  refine evF_goes (af := af19) (k := k + 21) rfl rfl rfl ?_
  unfold readP
  by_cases c0 : 1500 < l.length
  · have c0' : (1500 : Int) < (l.length : Int) := by omega
    rw [if_pos c0]
    simp -implicitDefEqProofs -dsimp (maxSteps := 10000000) only [af19, ↓kS, after_some, br_true, br_false, kC, ↓kQ, ↓Option.bind_some, ↓Option.map_some, ↓cond_true, ↓cond_false, evC, evOp, XO.lit, setArgs, Tr.tabG, Tr.tabS, Tr.tabL, Tr.get_lf, Option.bind_some, Option.map_some, cond_true, cond_false, maxI, maxFrom, minI, minFrom, aConv, aBinE, aEq, eqScal, aUn, evRes, fin, oneOf, if_true, if_false, callee, reduceCtorEq, Nat.reduceEqDiff, List.getElem?_cons_zero, List.getElem?_cons_succ, beq_self_eq_true, gt_iff_lt, List.head?_cons, AV.undef, eq_self, ne_eq, Int.reduceLT, Int.reduceLE, Int.reduceToNat, Int.reduceEq, Int.reduceNeg, Nat.reduceAdd, Nat.reduceLT, Nat.reduceLeDiff, Nat.reduceMul, Nat.reduceSub, ↓evDraw_nil, bir, putD, evDraw, trace, List.all_cons, List.all_nil, chk, stAt, again, sameV, sameL, sameA, AV.undef, Bool.and_self, Bool.and_true, decide_eq_true_eq, List.getElem?_nil, kM, AV.cells, AV.tup, List.drop_nil, List.append_nil, rdO, St.wr, List.length_cons, List.length_nil, List.take_succ_cons, List.take_zero, List.drop_succ_cons, List.drop_zero, List.cons_append, List.nil_append, Nat.reduceMul, aFill, evParts, rep, List.replicate_succ, List.replicate_zero, List.flatten_cons, List.flatten_nil, List.append_nil, newSl, newVar, hA, hm, c0', gA]
    exact ⟨_, _, rfl, ansz 3⟩
  have c0' : ¬ (1500 : Int) < (l.length : Int) := by omega
  rw [if_neg c0]
  by_cases c1 : l.length = 0
  · have c1' : ((l.length : Int) = 0) = True := eq_true (by omega)
    rw [if_pos c1]
    simp -implicitDefEqProofs -dsimp (maxSteps := 10000000) only [af19, ↓kS, after_some, br_true, br_false, kC, ↓kQ, ↓Option.bind_some, ↓Option.map_some, ↓cond_true, ↓cond_false, evC, evOp, XO.lit, setArgs, Tr.tabG, Tr.tabS, Tr.tabL, Tr.get_lf, Option.bind_some, Option.map_some, cond_true, cond_false, maxI, maxFrom, minI, minFrom, aConv, aBinE, aEq, eqScal, aUn, evRes, fin, oneOf, if_true, if_false, callee, reduceCtorEq, Nat.reduceEqDiff, List.getElem?_cons_zero, List.getElem?_cons_succ, beq_self_eq_true, gt_iff_lt, List.head?_cons, AV.undef, eq_self, ne_eq, Int.reduceLT, Int.reduceLE, Int.reduceToNat, Int.reduceEq, Int.reduceNeg, Nat.reduceAdd, Nat.reduceLT, Nat.reduceLeDiff, Nat.reduceMul, Nat.reduceSub, ↓evDraw_nil, bir, putD, evDraw, trace, List.all_cons, List.all_nil, chk, stAt, again, sameV, sameL, sameA, AV.undef, Bool.and_self, Bool.and_true, decide_eq_true_eq, List.getElem?_nil, kM, AV.cells, AV.tup, List.drop_nil, List.append_nil, rdO, St.wr, List.length_cons, List.length_nil, List.take_succ_cons, List.take_zero, List.drop_succ_cons, List.drop_zero, List.cons_append, List.nil_append, Nat.reduceMul, aFill, evParts, rep, List.replicate_succ, List.replicate_zero, List.flatten_cons, List.flatten_nil, List.append_nil, newSl, newVar, hA, hm, c0', c1', gA]
    exact ⟨_, _, rfl, ansz 13⟩
  have c1' : ¬ (l.length : Int) = 0 := by omega
  rw [if_neg c1]
  obtain ⟨o, v, i, rfl, hz, hbd⟩ := b0_get (h.ext eA) (by omega)
  obtain rfl := h.ez.resolve_left (by simp)
  have hix : ixOf (.int .i64 0) l.length = some 0 := by rw [ix_ok (by omega) (by omega)]; rfl
  have h192 := bit192 hbd
  by_cases c2 : b0 l / 64 = 2
  rotate_left
  · have c2' : ¬ ((64 * (b0 l / 64) : Nat) : Int) = 128 := by omega
    rw [if_pos c2]
    simp -implicitDefEqProofs -dsimp (maxSteps := 10000000) only [af19, ↓kS, after_some, br_true, br_false, kC, ↓kQ, ↓Option.bind_some, ↓Option.map_some, ↓cond_true, ↓cond_false, evC, evOp, XO.lit, setArgs, Tr.tabG, Tr.tabS, Tr.tabL, Tr.get_lf, Option.bind_some, Option.map_some, cond_true, cond_false, maxI, maxFrom, minI, minFrom, aConv, aBinE, aEq, eqScal, aUn, evRes, fin, oneOf, if_true, if_false, callee, reduceCtorEq, Nat.reduceEqDiff, List.getElem?_cons_zero, List.getElem?_cons_succ, beq_self_eq_true, gt_iff_lt, List.head?_cons, AV.undef, eq_self, ne_eq, Int.reduceLT, Int.reduceLE, Int.reduceToNat, Int.reduceEq, Int.reduceNeg, Nat.reduceAdd, Nat.reduceLT, Nat.reduceLeDiff, Nat.reduceMul, Nat.reduceSub, ↓evDraw_nil, bir, putD, evDraw, trace, List.all_cons, List.all_nil, chk, stAt, again, sameV, sameL, sameA, AV.undef, Bool.and_self, Bool.and_true, decide_eq_true_eq, List.getElem?_nil, kM, AV.cells, AV.tup, List.drop_nil, List.append_nil, rdO, St.wr, List.length_cons, List.length_nil, List.take_succ_cons, List.take_zero, List.drop_succ_cons, List.drop_zero, List.cons_append, List.nil_append, Nat.reduceMul, aFill, evParts, rep, List.replicate_succ, List.replicate_zero, List.flatten_cons, List.flatten_nil, List.append_nil, newSl, newVar, h192, hA, hm, c0', c1', hix, Nat.mul_one, Nat.zero_mul, Nat.add_zero, hz, c2', gA]
    exact ⟨_, _, rfl, ansz 12⟩
  have c2' : (((64 * (b0 l / 64) : Nat) : Int) = 128) = True := eq_true (by omega)
  rw [if_neg (fun hn => hn c2)]
  obtain ⟨B, hB⟩ : ∃ B, A.alloc (.cells [.slice (some (o, v, i)) l.length 1 c, .int .i64 0, .bool false] 0 0 true) = B := ⟨_, rfl⟩
  have eB : Ext A B := by rw [← hB]; exact .alloc _ _
  have nB : B.next = A.next + 1 := by rw [← hB]; rfl
  have R0 : W4 S B S.next A.next (some (o, v, i)) 1 c l 0 := ⟨eA.trans eB, ⟨Nat.le_refl _, by omega⟩, ⟨by omega, by omega⟩, by omega, eB.get (by omega) gA, by rw [← hB, St.get_alloc, if_pos rfl]; rfl⟩
  obtain ⟨S1, q1, R1⟩ := R0.num k h (by omega) (by omega) (n := 1) (by decide) (by decide)
  obtain ⟨S2, q2, R2⟩ := R1.num k h (by omega) (by omega) (n := 1) (by decide) (by decide)
  obtain ⟨S3, q3, R3_⟩ := R2.num k h (by omega) (by omega) (n := 2) (by decide) (by decide)
  obtain ⟨S4, q4, R4⟩ := R3_.num k h (by omega) (by omega) (n := 4) (by decide) (by decide)
  obtain ⟨S5, q5, R5⟩ := R4.num k h (by omega) (by omega) (n := 4) (by decide) (by decide)
  have q1 : evF Y AP (k + 21) 35 [.ptr (some ⟨A.next, 0, 0, 3⟩), .int .i64 1] B = some (.int .u64 (b0 l : Nat), S1) := by rw [← getL0]; exact q1
  have q2 : evF Y AP (k + 21) 35 [.ptr (some ⟨A.next, 0, 0, 3⟩), .int .i64 1] S1 = some (.int .u64 (l.getD 1 0 : Nat), S2) := by rw [← getL1]; exact q2
  have q3 : evF Y AP (k + 21) 35 [.ptr (some ⟨A.next, 0, 0, 3⟩), .int .i64 2] S2 = some (.int .u64 (getL l 2 2 : Nat), S3) := q3
  have q4 : evF Y AP (k + 21) 35 [.ptr (some ⟨A.next, 0, 0, 3⟩), .int .i64 4] S3 = some (.int .u64 (getL l 4 4 : Nat), S4) := q4
  have q5 : evF Y AP (k + 21) 35 [.ptr (some ⟨A.next, 0, 0, 3⟩), .int .i64 4] S4 = some (.int .u64 (getL l 8 4 : Nat), S5) := q5
  have R5 : W4 S S5 S.next A.next (some (o, v, i)) 1 c l 12 := R5
  have h15 := (bit15 hbd).2
  obtain ⟨n, hn⟩ : ∃ n, b0 l % 16 = n := ⟨_, rfl⟩
  have hn15 : n ≤ 15 := by omega
  rw [hn] at h15 ⊢
  have hb1 : l.getD 1 0 < 256 := by
    rw [List.getD_eq_getElem?_getD]
    by_cases hh : 1 < l.length
    · rw [List.getElem?_eq_getElem hh]; exact h.bd _ (List.getElem_mem hh)
    · rw [List.getElem?_eq_none (by omega)]; decide
  have hmk : decide ((128 : Int) ≤ ((l.getD 1 0 : Nat) : Int)) = decide (128 ≤ l.getD 1 0) := decide_eq_decide.2 (by omega)
  have w3 : ((l.getD 1 0 : Nat) : Int).tmod 128 = ((l.getD 1 0 % 128 : Nat) : Int) := by rw [Int.tmod_eq_emod_of_nonneg (by omega)]; omega
  have w4 : IntKind.i64.wrap ((l.getD 1 0 % 128 : Nat) : Int) = ((l.getD 1 0 % 128 : Nat) : Int) := w64_id (by omega) (by omega)
  have w5 : IntKind.u16.wrap ((getL l 2 2 : Nat) : Int) = ((getL l 2 2 : Nat) : Int) := u16_id (by omega) (by have := getL_lt2 h.bd 2; omega)
  have w6 : IntKind.u32.wrap ((getL l 4 4 : Nat) : Int) = ((getL l 4 4 : Nat) : Int) := u32_id (by omega) (by have := getL_lt4 h.bd 4; omega)
  have w7 : IntKind.u32.wrap ((getL l 8 4 : Nat) : Int) = ((getL l 8 4 : Nat) : Int) := u32_id (by omega) (by have := getL_lt4 h.bd 8; omega)
  obtain ⟨D, hD⟩ : ∃ D, S5.alloc (.cells [.bool false, .int .i64 0, .int .u16 0, .int .u32 0, .int .u32 0, .slice none 0 0 none, .int .u16 0, .slice none 0 0 none, .slice none 0 0 none] 0 0 true) = D := ⟨_, rfl⟩
  have eD : Ext S5 D := by rw [← hD]; exact .alloc _ _
  have nD : D.next = S5.next + 1 := by rw [← hD]; rfl
  have gD : D.get S5.next = some (.cells [.bool false, .int .i64 0, .int .u16 0, .int .u32 0, .int .u32 0, .slice none 0 0 none, .int .u16 0, .slice none 0 0 none, .slice none 0 0 none] 0 0 true) := by rw [← hD, St.get_alloc, if_pos rfl]
  obtain ⟨P0, hP0⟩ : ∃ P0 : Pk, P0 = ⟨decide (128 ≤ l.getD 1 0), ((l.getD 1 0 % 128 : Nat) : Int), (getL l 2 2 : Nat), (getL l 4 4 : Nat), (getL l 8 4 : Nat), csP l n, 0, [], []⟩ := ⟨_, rfl⟩
  have hP : p0P l = P0 := by rw [hP0, ← hn]; rfl
  rw [hP, ← finX_eq]
  have a2 := R5.a2; have a4 := R5.a4; have x5 := R5.ext.next
  have C0 : Cs S (D.put S5.next (.cells (pkc P0 (.slice none 0 0 none) (.slice none 0 0 none) (.slice none 0 0 none)) 0 0 true)) (N3 S.next S.next S5.next A.next) S.next S5.next P0 none 0 (csP l 0) :=
    ⟨(R5.ext.trans eD).then_put x5 _, ⟨Nat.le_refl _, by show S.next < D.next; omega⟩, ⟨x5, by show S5.next < D.next; omega⟩, by omega, .inl rfl, .inr (.inr (.inl rfl)), fun o ho => (by rcases ho with rfl | rfl | rfl | ho; exact (show S.next < D.next by omega); exact (show A.next < D.next by omega); exact (show S5.next < D.next by omega); exact (show o < D.next by omega)), by rw [St.get_put, if_neg (by omega)]; exact eD.get (by omega) R5.g2, by rw [St.get_put, if_pos rfl]; rfl, .nil _ _ _, fun _ _ _ hp => (by cases hp), fun _ hy => (by cases hy)⟩
  have g40 : (D.put S5.next (.cells (pkc P0 (.slice none 0 0 none) (.slice none 0 0 none) (.slice none 0 0 none)) 0 0 true)).get A.next = some (rd4 (some (o, v, i)) l 1 c (12 + 4 * 0)) := by rw [St.get_put, if_neg (by omega)]; exact eD.get a4.2 R5.g4
  rw [hP0] at C0 g40
  simp -implicitDefEqProofs -dsimp (maxSteps := 10000000) only [af19, ↓kS, after_some, br_true, br_false, kC, ↓kQ, ↓Option.bind_some, ↓Option.map_some, ↓cond_true, ↓cond_false, evC, evOp, XO.lit, setArgs, Tr.tabG, Tr.tabS, Tr.tabL, Tr.get_lf, Option.bind_some, Option.map_some, cond_true, cond_false, maxI, maxFrom, minI, minFrom, aConv, aBinE, aEq, eqScal, aUn, evRes, fin, oneOf, if_true, if_false, callee, reduceCtorEq, Nat.reduceEqDiff, List.getElem?_cons_zero, List.getElem?_cons_succ, beq_self_eq_true, gt_iff_lt, List.head?_cons, AV.undef, eq_self, ne_eq, Int.reduceLT, Int.reduceLE, Int.reduceToNat, Int.reduceEq, Int.reduceNeg, Nat.reduceAdd, Nat.reduceLT, Nat.reduceLeDiff, Nat.reduceMul, Nat.reduceSub, ↓evDraw_nil, bir, putD, evDraw, trace, List.all_cons, List.all_nil, chk, stAt, again, sameV, sameL, sameA, AV.undef, Bool.and_self, Bool.and_true, decide_eq_true_eq, List.getElem?_nil, kM, AV.cells, AV.tup, List.drop_nil, List.append_nil, rdO, St.wr, List.length_cons, List.length_nil, List.take_succ_cons, List.take_zero, List.drop_succ_cons, List.drop_zero, List.cons_append, List.nil_append, Nat.reduceMul, aFill, evParts, rep, List.replicate_succ, List.replicate_zero, List.flatten_cons, List.flatten_nil, List.append_nil, newSl, newVar, hA, hm, c0', c1', hix, Nat.mul_one, Nat.zero_mul, Nat.add_zero, hz, h192, c2', hB, q1, q2, q3, q4, q5, hmk, w3, w4, w5, w6, w7, hD, gD, h15]
  refine .while (I19 S S.next S5.next A.next (N3 S.next S.next S5.next A.next) P0 (some (o, v, i)) 1 c l (b0 l) n) id n ⟨rfl, rfl, rfl, rfl, rfl, rfl, 0, none, 0, _, rfl, by omega, by rw [hP0]; exact C0, g40, rfl⟩ (by show n < k + 21; omega) fun m2 T2 S6 h2 => (round19 k (.inr (.inl rfl)) (by omega) (by omega) (by omega) h (by omega) hn15 m2 T2 S6 h2).mono ?_
  intro r T' S' hq
  cases r with
  | normal => exact hq
  | ret => exact absurd hq.1 (by simp)
  | exit x =>
    obtain ⟨hi, t0, t2, t4, t5, t7, t50, j, p', e', sh, t51, hj, C, g4, hsh⟩ := hq
    cases hi
    obtain rfl : j = n := by omega
    rw [hsh] at g4
    simp -implicitDefEqProofs only [↓then_exit, ↓blk_exit, ↓then_normal]
    have hcs : csP l j = P0.cs := by rw [hP0]
    have hln := csP_len l j
    rw [hcs] at C hln
    exact A19 k (C.r3 (by omega) (by rw [hP0]) (by omega) (by omega) (by omega) g4) h hbd (by omega) (by omega) (by omega) t0 t2 t4 t5 t7 fun _ _ _ hx => by
      simp -implicitDefEqProofs -dsimp (maxSteps := 10000000) only [↓kS, after_some, br_true, br_false, kC, ↓kQ, ↓Option.bind_some, ↓Option.map_some, ↓cond_true, ↓cond_false, evC, evOp, XO.lit, setArgs, Tr.tabG, Tr.tabS, Tr.tabL, Tr.get_lf, Option.bind_some, Option.map_some, cond_true, cond_false, maxI, maxFrom, minI, minFrom, aConv, aBinE, aEq, eqScal, aUn, evRes, fin, oneOf, if_true, if_false, callee, reduceCtorEq, Nat.reduceEqDiff, List.getElem?_cons_zero, List.getElem?_cons_succ, beq_self_eq_true, gt_iff_lt, List.head?_cons, AV.undef, eq_self, ne_eq, Int.reduceLT, Int.reduceLE, Int.reduceToNat, Int.reduceEq, Int.reduceNeg, Nat.reduceAdd, Nat.reduceLT, Nat.reduceLeDiff, Nat.reduceMul, Nat.reduceSub, ↓evDraw_nil, bir, putD, evDraw, trace, List.all_cons, List.all_nil, chk, stAt, again, sameV, sameL, sameA, AV.undef, Bool.and_self, Bool.and_true, decide_eq_true_eq, List.getElem?_nil, kM, AV.cells, AV.tup, List.drop_nil, List.append_nil, rdO, St.wr, List.length_cons, List.length_nil, List.take_succ_cons, List.take_zero, List.drop_succ_cons, List.drop_zero, List.cons_append, List.nil_append, Nat.reduceMul, aFill, evParts, rep, List.replicate_succ, List.replicate_zero, List.flatten_cons, List.flatten_nil, List.append_nil, newSl, newVar] at hx
      exact hx
theorem T19 (k : Nat) {S : St} {p : Option (Nat × Nat × Nat)} {e : Nat} {c : Option Nat} {l : List Nat} (h : By S p e l) :
    ∃ w S', evF Y AP (k + 22) 19 [.slice p l.length e c] S = some (w, S') ∧ Ans S (readP l) w S' := by
  obtain ⟨w, S', h1, c1, e1, l1, h2, h3, h4⟩ := T19f k (c := c) h
  obtain ⟨a, b, d⟩ := h3 S' (.refl _ _)
  exact ⟨w, S', h1, c1, e1, l1, h2, a, b, d, h4⟩
end Go.Proofs.YthejkmfmcjpfhaaA
