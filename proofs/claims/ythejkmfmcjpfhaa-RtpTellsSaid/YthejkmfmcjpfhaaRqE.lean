/- Chapter 3: elements written, a packet made of a tape. Chapter 3: a packet made of a tape. Chapter 3: a tape of its own; a packet with one thing turned. -/
import Derived.Test.YthejkmfmcjpfhaaRqD
set_option linter.unusedVariables false
set_option linter.unusedSimpArgs false
set_option maxRecDepth 10000
namespace Go.Proofs.YthejkmfmcjpfhaaA
open Go.RowKit
attribute [local congr] bind_congr1 map_congr1 cond_congr1 withX_congr after_congr br_congr gd_congr
def tz9 : AC :=
 (.seq
 (.reg [⟨(some 70), none, (.loadN 9 (.t 3))⟩,
   ⟨none, none, (.store 9 (.t 2) (.t 70))⟩]) .ret)
def tl9 : AC :=
 (.seq
 (.seq
 (.reg [⟨(some 33), none, (.mv (.t 0))⟩,
   ⟨(some 34), none, (.call 21 [(.t 33), (.c (.int .i64 4))])⟩])
 (.block 2
 (.seq
 (.reg [⟨(some 36), none, (.bin .eql .num (.t 34) (.c (.int .i64 0)))⟩,
   ⟨(some 35), none, (.mv (.t 36))⟩])
 (.cond (.t 35)
 (.seq
 (.reg [⟨(some 37), none, (.fieldAddr 6 1 (.t 3))⟩,
   ⟨none, none, (.store 1 (.t 37) (.c (.int .u16 48862)))⟩])
 (.dreg [⟨(some 39), none, (.fieldAddr 6 1 (.t 3))⟩,
   ⟨(some 40), none, (.load1 (.t 39))⟩,
   ⟨(some 41), none, (.mv (.t 0))⟩,
   ⟨(some 42), none, (.call 25 [(.t 41), (.c (.bool false))])⟩,
   ⟨(some 43), none, (.call 24 [(.t 40), (.t 42)])⟩,
   ⟨(some 38), none, (.mv (.t 43))⟩,
   ⟨(some 44), none, (.extract 0 (.t 38))⟩,
   ⟨(some 45), none, (.extract 1 (.t 38))⟩,
   ⟨(some 46), none, (.fieldAddr 7 1 (.t 3))⟩,
   ⟨none, none, (.store 1 (.t 46) (.t 44))⟩] [(1, 4)]))
 (.seq
 (.reg [⟨(some 48), none, (.bin .eql .num (.t 34) (.c (.int .i64 1)))⟩,
   ⟨(some 47), none, (.mv (.t 48))⟩])
 (.cond (.t 47)
 (.seq
 (.reg [⟨(some 49), none, (.fieldAddr 6 1 (.t 3))⟩,
   ⟨none, none, (.store 1 (.t 49) (.c (.int .u16 4096)))⟩])
 (.dreg [⟨(some 51), none, (.fieldAddr 6 1 (.t 3))⟩,
   ⟨(some 52), none, (.load1 (.t 51))⟩,
   ⟨(some 53), none, (.mv (.t 0))⟩,
   ⟨(some 54), none, (.call 25 [(.t 53), (.c (.bool true))])⟩,
   ⟨(some 55), none, (.call 24 [(.t 52), (.t 54)])⟩,
   ⟨(some 50), none, (.mv (.t 55))⟩,
   ⟨(some 56), none, (.extract 0 (.t 50))⟩,
   ⟨(some 57), none, (.extract 1 (.t 50))⟩,
   ⟨(some 58), none, (.fieldAddr 7 1 (.t 3))⟩,
   ⟨none, none, (.store 1 (.t 58) (.t 56))⟩] [(1, 4)]))
 (.seq
 (.reg [⟨(some 60), none, (.bin .eql .num (.t 34) (.c (.int .i64 2)))⟩,
   ⟨(some 59), none, (.mv (.t 60))⟩])
 (.cond (.t 59)
 (.seq
 (.reg [⟨(some 61), none, (.mv (.t 0))⟩,
   ⟨(some 62), none, (.call 21 [(.t 61), (.c (.int .i64 65535))])⟩,
   ⟨(some 63), none, (.bin .add .num (.c (.int .i64 1)) (.t 62))⟩,
   ⟨(some 64), none, (.conv (.int .u16) (.t 63))⟩,
   ⟨(some 65), none, (.fieldAddr 6 1 (.t 3))⟩,
   ⟨none, none, (.store 1 (.t 65) (.t 64))⟩])
 (.reg [⟨(some 66), none, (.mv (.t 0))⟩,
   ⟨(some 67), none, (.call 23 [(.t 66), (.c (.int .i64 12))])⟩,
   ⟨(some 68), none, (.call 26 [(.t 67), (.c (.int .i64 4))])⟩,
   ⟨(some 69), none, (.fieldAddr 7 1 (.t 3))⟩,
   ⟨none, none, (.store 1 (.t 69) (.t 68))⟩])) .skip))))))))
 tz9)
/-- Bytes more, and what else stays. -/
theorem Gr.app' {S0 S : St} {p : Option (Nat × Nat × Nat)} {e : Nat} {l : List Nat} (h : Gr S0 S p e l) {m : List Nat} (hm : Byt m) (hr : l.length + m.length ≤ 140737488355328) :
    ∃ p' e' S', aAppend 1 1 S (.slice p l.length e none) m.length (bv m) = some (.slice p' (l ++ m).length e' none, S') ∧ Gr S0 S' p' e' (l ++ m) ∧ Old (fun o => ∃ v i, p = some (o, v, i)) S S' := by
  by_cases h0 : m.length = 0
  · have : m = [] := List.length_eq_zero_iff.1 h0
    subst this
    refine ⟨p, e, S, ?_, by rw [List.append_nil]; exact h, .refl _ _⟩
    rw [List.append_nil]
    rcases p with _ | ⟨o, v, i⟩
    · simp [aAppend]
    · obtain rfl := h.vec.ez.resolve_left (by simp)
      simp [aAppend]
  · obtain ⟨p', S', h1, h2, h3, h4⟩ := h.vec.append (bytes := 1) (xs := bv m) (n := m.length) (by rw [bv_len, Nat.mul_one]) h0 (by omega)
    refine ⟨p', 1, S', by rw [h1, List.length_append], ⟨by rw [List.length_append, bv_app]; exact h2, ⟨Nat.le_trans h.ext.next h3.next, fun o ho => ?_⟩, fun o v i hp => ?_, h.bd.app hm⟩, .grow h3⟩
    · rw [h3.old o (Nat.lt_of_lt_of_le ho h.ext.next) (fun v i hp => by have := h.new o v i hp; omega)]
      exact h.ext.old o ho
    · rcases h4 o v i hp with h5 | ⟨v', i', h5⟩
      · exact Nat.le_trans h.ext.next h5
      · exact h.new _ _ _ h5
def profE (two : Bool) : Int := bif two then 4096 else 48862
structure I24 (Sb : St) (two : Bool) (po : Option (Nat × Nat × Nat)) (eo : Nat) (L : List El) (m : Nat) (T : Tm) (S : St) : Prop where
  t0 : T.get 0 = some (.int .u16 (profE two))
  t19 : T.get 19 = some (.slice po L.length eo none)
  t20 : T.get 20 = some (.int .i64 L.length)
  more : ∃ i p e l, T.get 21 = some (.int .i64 (i : Nat)) ∧ T.get 6 = some (.slice p l.length e none) ∧ i + m = L.length ∧ Gr Sb S p e l ∧ l.length ≤ 22 * i
theorem u8_n (n : Int) : ∃ b : Nat, IntKind.u8.wrap n = (b : Int) ∧ b < 256 := ⟨(n % 256).toNat, by rw [IntKind.wrap_u8]; omega, by omega⟩
set_option maxHeartbeats 16000000 in
theorem round24 (k : Nat) {Sa Sb : St} {pt : Option (Nat × Nat × Nat)} {len ot : Nat} {two : Bool} {po : Option (Nat × Nat × Nat)} {eo : Nat} {L : List El} (E : Es Sa Sb pt len ot two po eo L) (hL : L.length ≤ 3) (m : Nat) (T : Tm) (S : St) (hI : I24 Sb two po eo L m T S) :
    Goes (evF Y AP (k + 99)) (k + 99) af24_l0 T S (Then (fun T' S' => ∃ m', I24 Sb two po eo L m' T' S' ∧ id m' < id m) fun r T' S' => r = .exit 0 ∧ I24 Sb two po eo L 0 T' S') := by
  obtain ⟨t0, t19, t20, i, p, e, l, t21, t6, hm, G, hl⟩ := hI
  by_cases c1 : (i : Int) < (L.length : Int)
  rotate_left
  · obtain rfl : m = 0 := by omega
    simp -implicitDefEqProofs -dsimp (maxSteps := 10000000) only [af24_l0, ↓kS, after_some, br_true, br_false, kC, ↓kQ, ↓Option.bind_some, ↓Option.map_some, ↓cond_true, ↓cond_false, evC, evOp, XO.lit, setArgs, Tr.get_set, Option.bind_some, Option.map_some, cond_true, cond_false, maxI, maxFrom, minI, minFrom, aConv, aBinE, aEq, eqScal, aUn, evRes, fin, oneOf, if_true, if_false, callee, reduceCtorEq, Nat.reduceEqDiff, List.getElem?_cons_zero, List.getElem?_cons_succ, beq_self_eq_true, gt_iff_lt, List.head?_cons, AV.undef, eq_self, ne_eq, Int.reduceLT, Int.reduceLE, Int.reduceToNat, Int.reduceEq, Int.reduceNeg, Nat.reduceAdd, Nat.reduceLT, Nat.reduceLeDiff, Nat.reduceMul, Nat.reduceSub, kM, AV.cells, AV.tup, List.drop_nil, List.append_nil, rdO, St.wr, List.length_cons, List.length_nil, List.take_succ_cons, List.take_zero, List.drop_succ_cons, List.drop_zero, List.cons_append, List.nil_append, Nat.reduceMul, t20, t21, c1]
    refine ⟨?_, ?_, ?_, i, p, e, l, ?_, ?_, hm, G, hl⟩ <;> simp only [Tr.get_set, Nat.reduceEqDiff, if_false, if_true, t0, t19, t20, t21, t6]
  have hi : i < L.length := by omega
  obtain ⟨⟨h1, h255, h20, hF⟩, bx, _⟩ := E.el L[i] (List.getElem_mem hi)
  obtain ⟨o, ver, minv, rfl, ho, hg, hv⟩ : ∃ o ver minv, po = some (o, ver, 0) ∧ o < Sb.next ∧ Sb.get o = some (.cells (ecs L) ver minv true) ∧ minv ≤ ver := by
    rcases E.vec.at_ with ⟨_, hz⟩ | h
    · omega
    · exact h
  obtain rfl := E.vec.ez.resolve_left (by simp)
  have hz : S.rd o ver (i * 2) 2 = some [.int .i64 L[i].id, .slice L[i].p L[i].l.length L[i].e none] := by
    rw [rd_cells (G.ext.get ho hg) hv (by rw [ecs_len]; omega), ecs_get L i hi]
  obtain ⟨x, hx⟩ : ∃ x, L[i] = x := ⟨_, rfl⟩
  rw [hx] at h1 h255 h20 hF bx hz
  have hix : ixOf (.int .i64 (i : Nat)) L.length = some i := by rw [ix_ok (by omega) (by omega)]; rfl
  obtain ⟨A, hA⟩ : ∃ A, S.alloc (.cells [.int .i64 0, .slice none 0 0 none] 0 0 true) = A := ⟨_, rfl⟩
  have gA : A.get S.next = some (.cells [.int .i64 0, .slice none 0 0 none] 0 0 true) := by rw [← hA, St.get_alloc, if_pos rfl]
  obtain ⟨D, hD⟩ : ∃ D, A.put S.next (.cells [.int .i64 x.id, .slice x.p x.l.length x.e none] 0 0 true) = D := ⟨_, rfl⟩
  obtain ⟨xD, gD, nD⟩ : Ext S D ∧ D.get S.next = some (.cells [.int .i64 x.id, .slice x.p x.l.length x.e none] 0 0 true) ∧ S.next < D.next := by rw [← hD, ← hA]; exact put_new _ _ _
  have rD : ∀ v i m, D.rd S.next v i m = rdO (.cells [.int .i64 x.id, .slice x.p x.l.length x.e none] 0 0 true) v i m := rd_of gD
  have hmx := bx.mx
  have k1 : ¬ x.id < 1 := by omega
  have k2 : ¬ (255 : Int) < x.id := by omega
  have k3 : ¬ (255 : Int) < (x.l.length : Int) := by omega
  have w3 : IntKind.i64.wrap ((i : Int) + 1) = ((i + 1 : Nat) : Int) := w64_id (by omega) (by omega)
  have ltp : ∀ v j, p ≠ some (S.next, v, j) := fun v j hp => by
    rcases G.vec.at_ with ⟨hz, _⟩ | ⟨o', ver, minv, hz, ho, _⟩
    · rw [hp] at hz; cases hz
    · rw [hp] at hz; cases hz; omega
  -- the head of an element
  have step : ∀ hd : List Nat, Byt hd → 0 < hd.length → hd.length ≤ 2 → ∃ B p5 e5 S5 p6 e6 S6, D.alloc (.cells (bv hd) 0 0 true) = B ∧ B.rd D.next 0 0 hd.length = some (bv hd) ∧ aAppend 1 1 B (.slice p l.length e none) hd.length (bv hd) = some (.slice p5 (l ++ hd).length e5 none, S5) ∧
      (∀ v i m, S5.rd S.next v i m = rdO (.cells [.int .i64 x.id, .slice x.p x.l.length x.e none] 0 0 true) v i m) ∧ aAppend 1 1 S5 (.slice p5 (l ++ hd).length e5 none) x.l.length (bv x.l) = some (.slice p6 (l ++ hd ++ x.l).length e6 none, S6) ∧ Gr Sb S6 p6 e6 (l ++ hd ++ x.l) ∧ By S5 x.p x.e x.l := by
    intro hd hb h0 h2
    have eB : Ext D (D.alloc (.cells (bv hd) 0 0 true)) := .alloc _ _
    obtain ⟨p5, e5, S5, q5, G5, o5⟩ := (G.more (xD.trans eB)).app' hb (by omega)
    obtain ⟨p6, e6, S6, q6, G6, _⟩ := G5.app' bx.bd (by rw [List.length_append]; omega)
    exact ⟨_, p5, e5, S5, p6, e6, S6, rfl, by have h := rd_cells (S := D.alloc (.cells (bv hd) 0 0 true)) (o := D.next) (i := 0) (n := hd.length) (by rw [St.get_alloc, if_pos rfl]) (Nat.le_refl _) (by rw [bv_len]; omega); rw [h, List.drop_zero, List.take_of_length_le (by rw [bv_len]; exact Nat.le_refl _)], q5, rd_of ((o5.2 _ (Nat.lt_of_lt_of_le nD eB.next) fun ⟨v, j, hp⟩ => ltp v j hp).trans (eB.get nD gD)), q6, G6, bx.ext G5.ext⟩
  cases two with
  | false =>
    obtain ⟨h14, hn1, hn10⟩ := hF rfl
    have t0 : T.get 0 = some (.int .u16 48862) := t0
    have k4 : ¬ (14 : Int) < x.id := by omega
    have k5 : ¬ (x.l.length : Int) < 1 := by omega
    have k6 : ¬ (16 : Int) < (x.l.length : Int) := by omega
    obtain ⟨b, wb, hb⟩ := u8_n (IntKind.i64.wrap (IntKind.i64.wrap (IntKind.i64.wrap (16 * x.id) + (x.l.length : Int)) - 1))
    obtain ⟨B, p5, e5, S5, p6, e6, S6, hB, rB, q5, r5, q6, G6, b5⟩ := step [b] (fun y hy => by rw [List.mem_singleton] at hy; omega) (by simp) (by simp)
    have hB : D.alloc (.cells [.int .u8 (b : Int)] 0 0 true) = B := hB
    have rB : B.rd D.next 0 0 1 = some [.int .u8 (b : Int)] := rB
    have q5 : aAppend 1 1 B (.slice p l.length e none) 1 [.int .u8 (b : Int)] = some (.slice p5 (l ++ [b]).length e5 none, S5) := q5
    have hl6 : (l ++ [b] ++ x.l).length ≤ 22 * (i + 1) := by simp only [List.length_append, List.length_cons, List.length_nil]; omega
    rcases hxp : x.p with _ | ⟨oo, vv, ii⟩
    · rw [hxp] at b5; have := b5.nil rfl; rw [this] at hn1; exact absurd hn1 (by decide)
    · rw [hxp] at b5 hz hD rD r5
      have ze := b5.ez.resolve_left (by simp)
      rw [ze] at hz hD rD r5 b5
      have hr := (b5.at_ oo vv ii rfl).2
      simp -implicitDefEqProofs -dsimp (maxSteps := 10000000) only [af24_l0, ↓kS, after_some, br_true, br_false, kC, ↓kQ, ↓Option.bind_some, ↓Option.map_some, ↓cond_true, ↓cond_false, evC, evOp, XO.lit, setArgs, Tr.get_set, Option.bind_some, Option.map_some, cond_true, cond_false, maxI, maxFrom, minI, minFrom, aConv, aBinE, aEq, eqScal, aUn, evRes, fin, oneOf, if_true, if_false, callee, reduceCtorEq, Nat.reduceEqDiff, List.getElem?_cons_zero, List.getElem?_cons_succ, beq_self_eq_true, gt_iff_lt, List.head?_cons, AV.undef, eq_self, ne_eq, Int.reduceLT, Int.reduceLE, Int.reduceToNat, Int.reduceEq, Int.reduceNeg, Nat.reduceAdd, Nat.reduceLT, Nat.reduceLeDiff, Nat.reduceMul, Nat.reduceSub, ↓evDraw_nil, bir, putD, evDraw, trace, List.all_cons, List.all_nil, chk, stAt, again, sameV, sameL, sameA, AV.undef, Bool.and_self, Bool.and_true, decide_eq_true_eq, List.getElem?_nil, kM, AV.cells, AV.tup, List.drop_nil, List.append_nil, rdO, St.wr, List.length_cons, List.length_nil, List.take_succ_cons, List.take_zero, List.drop_succ_cons, List.drop_zero, List.cons_append, List.nil_append, Nat.reduceMul, aFill, evParts, rep, List.replicate_succ, List.replicate_zero, List.flatten_cons, List.flatten_nil, List.append_nil, newSl, newVar, t0, t19, t20, t21, t6, c1, hix, Nat.mul_one, hz, hA, gA, hD, rD, hmx, k1, k2, k3, k4, k5, k6, wb, hB, rB, q5, r5, hr, q6, w3]
      refine ⟨m - 1, ⟨?_, ?_, ?_, i + 1, p6, e6, l ++ [b] ++ x.l, ?_, ?_, by omega, G6, hl6⟩, by show m - 1 < m; omega⟩ <;> simp only [Tr.get_set, Nat.reduceEqDiff, if_false, if_true, t0, t19, t20]
      rfl
  | true =>
    have t0 : T.get 0 = some (.int .u16 4096) := t0
    obtain ⟨b, wb, hb⟩ := u8_n x.id
    obtain ⟨b', wb', hb'⟩ := u8_n (x.l.length : Int)
    obtain ⟨B, p5, e5, S5, p6, e6, S6, hB, rB, q5, r5, q6, G6, b5⟩ := step [b, b'] (fun y hy => by simp only [List.mem_cons, List.not_mem_nil, or_false] at hy; omega) (by simp) (by simp)
    have hB : D.alloc (.cells [.int .u8 (b : Int), .int .u8 (b' : Int)] 0 0 true) = B := hB
    have rB : B.rd D.next 0 0 2 = some [.int .u8 (b : Int), .int .u8 (b' : Int)] := rB
    have q5 : aAppend 1 1 B (.slice p l.length e none) 2 [.int .u8 (b : Int), .int .u8 (b' : Int)] = some (.slice p5 (l ++ [b, b']).length e5 none, S5) := q5
    have hl6 : (l ++ [b, b'] ++ x.l).length ≤ 22 * (i + 1) := by simp only [List.length_append, List.length_cons, List.length_nil]; omega
    rcases hxp : x.p with _ | ⟨oo, vv, ii⟩
    · rw [hxp] at b5 hz hD rD r5
      have hx0 := b5.nil rfl
      have hx0l : x.l.length = 0 := by rw [hx0]; rfl
      have q6' : aAppend 1 1 S5 (.slice p5 (l ++ [b, b']).length e5 none) 0 [] = some (.slice p6 (l ++ [b, b'] ++ x.l).length e6 none, S6) := by rw [hx0] at q6 ⊢; exact q6
      simp -implicitDefEqProofs -dsimp (maxSteps := 10000000) only [af24_l0, ↓kS, after_some, br_true, br_false, kC, ↓kQ, ↓Option.bind_some, ↓Option.map_some, ↓cond_true, ↓cond_false, evC, evOp, XO.lit, setArgs, Tr.get_set, Option.bind_some, Option.map_some, cond_true, cond_false, maxI, maxFrom, minI, minFrom, aConv, aBinE, aEq, eqScal, aUn, evRes, fin, oneOf, if_true, if_false, callee, reduceCtorEq, Nat.reduceEqDiff, List.getElem?_cons_zero, List.getElem?_cons_succ, beq_self_eq_true, gt_iff_lt, List.head?_cons, AV.undef, eq_self, ne_eq, Int.reduceLT, Int.reduceLE, Int.reduceToNat, Int.reduceEq, Int.reduceNeg, Nat.reduceAdd, Nat.reduceLT, Nat.reduceLeDiff, Nat.reduceMul, Nat.reduceSub, ↓evDraw_nil, bir, putD, evDraw, trace, List.all_cons, List.all_nil, chk, stAt, again, sameV, sameL, sameA, AV.undef, Bool.and_self, Bool.and_true, decide_eq_true_eq, List.getElem?_nil, kM, AV.cells, AV.tup, List.drop_nil, List.append_nil, rdO, St.wr, List.length_cons, List.length_nil, List.take_succ_cons, List.take_zero, List.drop_succ_cons, List.drop_zero, List.cons_append, List.nil_append, Nat.reduceMul, aFill, evParts, rep, List.replicate_succ, List.replicate_zero, List.flatten_cons, List.flatten_nil, List.append_nil, newSl, newVar, t0, t19, t20, t21, t6, c1, hix, Nat.mul_one, hz, hA, gA, hD, rD, hmx, k1, k2, k3, wb, wb', hB, rB, q5, r5, q6', w3]
      refine ⟨m - 1, ⟨?_, ?_, ?_, i + 1, p6, e6, l ++ [b, b'] ++ x.l, ?_, ?_, by omega, G6, hl6⟩, by show m - 1 < m; omega⟩ <;> simp only [Tr.get_set, Nat.reduceEqDiff, if_false, if_true, t0, t19, t20]
      rfl
    · rw [hxp] at b5 hz hD rD r5
      have ze := b5.ez.resolve_left (by simp)
      rw [ze] at hz hD rD r5 b5
      have hr := (b5.at_ oo vv ii rfl).2
      simp -implicitDefEqProofs -dsimp (maxSteps := 10000000) only [af24_l0, ↓kS, after_some, br_true, br_false, kC, ↓kQ, ↓Option.bind_some, ↓Option.map_some, ↓cond_true, ↓cond_false, evC, evOp, XO.lit, setArgs, Tr.get_set, Option.bind_some, Option.map_some, cond_true, cond_false, maxI, maxFrom, minI, minFrom, aConv, aBinE, aEq, eqScal, aUn, evRes, fin, oneOf, if_true, if_false, callee, reduceCtorEq, Nat.reduceEqDiff, List.getElem?_cons_zero, List.getElem?_cons_succ, beq_self_eq_true, gt_iff_lt, List.head?_cons, AV.undef, eq_self, ne_eq, Int.reduceLT, Int.reduceLE, Int.reduceToNat, Int.reduceEq, Int.reduceNeg, Nat.reduceAdd, Nat.reduceLT, Nat.reduceLeDiff, Nat.reduceMul, Nat.reduceSub, ↓evDraw_nil, bir, putD, evDraw, trace, List.all_cons, List.all_nil, chk, stAt, again, sameV, sameL, sameA, AV.undef, Bool.and_self, Bool.and_true, decide_eq_true_eq, List.getElem?_nil, kM, AV.cells, AV.tup, List.drop_nil, List.append_nil, rdO, St.wr, List.length_cons, List.length_nil, List.take_succ_cons, List.take_zero, List.drop_succ_cons, List.drop_zero, List.cons_append, List.nil_append, Nat.reduceMul, aFill, evParts, rep, List.replicate_succ, List.replicate_zero, List.flatten_cons, List.flatten_nil, List.append_nil, newSl, newVar, t0, t19, t20, t21, t6, c1, hix, Nat.mul_one, hz, hA, gA, hD, rD, hmx, k1, k2, k3, wb, wb', hB, rB, q5, r5, hr, q6, w3]
      refine ⟨m - 1, ⟨?_, ?_, ?_, i + 1, p6, e6, l ++ [b, b'] ++ x.l, ?_, ?_, by omega, G6, hl6⟩, by show m - 1 < m; omega⟩ <;> simp only [Tr.get_set, Nat.reduceEqDiff, if_false, if_true, t0, t19, t20]
      rfl
set_option maxHeartbeats 4000000 in
/-- the document's Elems -/
theorem T24 (k : Nat) {Sa Sb : St} {pt : Option (Nat × Nat × Nat)} {len ot : Nat} {two : Bool} {po : Option (Nat × Nat × Nat)} {eo : Nat} {L : List El} (E : Es Sa Sb pt len ot two po eo L) (hL : L.length ≤ 3) :
    ∃ p e l S', evF Y AP (k + 100) 24 [.int .u16 (profE two), .slice po L.length eo none] Sb = some (.tuple [.slice p l.length e none, .int .i64 0], S') ∧ Gr Sb S' p e l ∧ l.length % 4 = 0 ∧ l.length ≤ 80 := by
  suffices hh : ∃ w S', evF Y AP (k + 100) 24 [.int .u16 (profE two), .slice po L.length eo none] Sb = some (w, S') ∧ ∃ p e l, w = .tuple [.slice p l.length e none, .int .i64 0] ∧ Gr Sb S' p e l ∧ l.length % 4 = 0 ∧ l.length ≤ 80 by
    obtain ⟨w, S', h1, p, e, l, rfl, h2⟩ := hh; exact ⟨p, e, l, S', h1, h2⟩
  have hmx : L.length ≤ 9223372036854775807 := by omega
  have c8 : ¬ (8 : Int) < (L.length : Int) := by omega
  refine evF_goes (af := af24) (k := k + 99) rfl rfl rfl ?_
  have main : ∀ T : Tm, I24 Sb two po eo L L.length T Sb → Goes (evF Y AP (k + 99)) (k + 99) (.loop af24_l0) T Sb fun r T' S' => r = .exit 0 ∧ I24 Sb two po eo L 0 T' S' := fun T h0 => by
    refine .while (I24 Sb two po eo L) id L.length h0 (by show L.length < k + 99; omega) fun m2 T2 S5 h2 => (round24 k E hL m2 T2 S5 h2).mono ?_
    intro r T' S' hq
    cases r with
    | normal => exact hq
    | ret => exact absurd hq.1 (by simp)
    | exit x => exact hq
  cases two with
  | false =>
    simp -implicitDefEqProofs -dsimp (maxSteps := 10000000) only [af24, profE, cond_false, ↓kS, after_some, br_true, br_false, kC, ↓kQ, ↓Option.bind_some, ↓Option.map_some, ↓cond_true, ↓cond_false, evC, evOp, XO.lit, setArgs, Tr.tabG, Tr.tabS, Tr.tabL, Tr.get_lf, Option.bind_some, Option.map_some, cond_true, cond_false, maxI, maxFrom, minI, minFrom, aConv, aBinE, aEq, eqScal, aUn, evRes, fin, oneOf, if_true, if_false, callee, reduceCtorEq, Nat.reduceEqDiff, List.getElem?_cons_zero, List.getElem?_cons_succ, beq_self_eq_true, gt_iff_lt, List.head?_cons, AV.undef, eq_self, ne_eq, Int.reduceLT, Int.reduceLE, Int.reduceToNat, Int.reduceEq, Int.reduceNeg, Nat.reduceAdd, Nat.reduceLT, Nat.reduceLeDiff, Nat.reduceMul, Nat.reduceSub, ↓evDraw_nil, bir, putD, evDraw, trace, List.all_cons, List.all_nil, chk, stAt, again, sameV, sameL, sameA, AV.undef, Bool.and_self, Bool.and_true, decide_eq_true_eq, List.getElem?_nil, kM, AV.cells, AV.tup, List.drop_nil, List.append_nil, rdO, St.wr, List.length_cons, List.length_nil, List.take_succ_cons, List.take_zero, List.drop_succ_cons, List.drop_zero, List.cons_append, List.nil_append, Nat.reduceMul, aFill, evParts, rep, List.replicate_succ, List.replicate_zero, List.flatten_cons, List.flatten_nil, List.append_nil, newSl, newVar, hmx, c8]
    refine (main _ ⟨rfl, rfl, rfl, 0, none, 0, [], rfl, rfl, by omega, .zero _ 0, by simp⟩).mono ?_
    rintro r T' S' ⟨rfl, t0, t19, t20, i, p, e, l, t21, t6, hm, G, hl⟩
    obtain ⟨p3, e3, S3, q3, G3⟩ := T26n (k + 29) (c := none) (G.by_ (by omega)) (by omega) (to := 4)
    have q3 : evF Y AP (k + 99) 26 [.slice p l.length e none, .int .i64 4] S' = _ := q3
    have h4 := padL4 (l := l)
    simp -implicitDefEqProofs -dsimp (maxSteps := 10000000) only [↓kS, after_some, br_true, br_false, kC, ↓kQ, ↓Option.bind_some, ↓Option.map_some, ↓cond_true, ↓cond_false, evC, evOp, XO.lit, setArgs, Tr.get_set, Option.bind_some, Option.map_some, cond_true, cond_false, maxI, maxFrom, minI, minFrom, aConv, aBinE, aEq, eqScal, aUn, evRes, fin, oneOf, if_true, if_false, callee, reduceCtorEq, Nat.reduceEqDiff, List.getElem?_cons_zero, List.getElem?_cons_succ, beq_self_eq_true, gt_iff_lt, List.head?_cons, AV.undef, eq_self, ne_eq, Int.reduceLT, Int.reduceLE, Int.reduceToNat, Int.reduceEq, Int.reduceNeg, Nat.reduceAdd, Nat.reduceLT, Nat.reduceLeDiff, Nat.reduceMul, Nat.reduceSub, ↓evDraw_nil, bir, putD, evDraw, trace, List.all_cons, List.all_nil, chk, stAt, again, sameV, sameL, sameA, AV.undef, Bool.and_self, Bool.and_true, decide_eq_true_eq, List.getElem?_nil, kM, AV.cells, AV.tup, List.drop_nil, List.append_nil, rdO, St.wr, List.length_cons, List.length_nil, List.take_succ_cons, List.take_zero, List.drop_succ_cons, List.drop_zero, List.cons_append, List.nil_append, Nat.reduceMul, t6, q3]
    exact ⟨_, _, rfl, p3, e3, _, rfl, G3.base G.ext, h4.1, by omega⟩
  | true =>
    simp -implicitDefEqProofs -dsimp (maxSteps := 10000000) only [af24, profE, cond_true, ↓kS, after_some, br_true, br_false, kC, ↓kQ, ↓Option.bind_some, ↓Option.map_some, ↓cond_true, ↓cond_false, evC, evOp, XO.lit, setArgs, Tr.tabG, Tr.tabS, Tr.tabL, Tr.get_lf, Option.bind_some, Option.map_some, cond_true, cond_false, maxI, maxFrom, minI, minFrom, aConv, aBinE, aEq, eqScal, aUn, evRes, fin, oneOf, if_true, if_false, callee, reduceCtorEq, Nat.reduceEqDiff, List.getElem?_cons_zero, List.getElem?_cons_succ, beq_self_eq_true, gt_iff_lt, List.head?_cons, AV.undef, eq_self, ne_eq, Int.reduceLT, Int.reduceLE, Int.reduceToNat, Int.reduceEq, Int.reduceNeg, Nat.reduceAdd, Nat.reduceLT, Nat.reduceLeDiff, Nat.reduceMul, Nat.reduceSub, ↓evDraw_nil, bir, putD, evDraw, trace, List.all_cons, List.all_nil, chk, stAt, again, sameV, sameL, sameA, AV.undef, Bool.and_self, Bool.and_true, decide_eq_true_eq, List.getElem?_nil, kM, AV.cells, AV.tup, List.drop_nil, List.append_nil, rdO, St.wr, List.length_cons, List.length_nil, List.take_succ_cons, List.take_zero, List.drop_succ_cons, List.drop_zero, List.cons_append, List.nil_append, Nat.reduceMul, aFill, evParts, rep, List.replicate_succ, List.replicate_zero, List.flatten_cons, List.flatten_nil, List.append_nil, newSl, newVar, hmx, c8]
    refine (main _ ⟨rfl, rfl, rfl, 0, none, 0, [], rfl, rfl, by omega, .zero _ 0, by simp⟩).mono ?_
    rintro r T' S' ⟨rfl, t0, t19, t20, i, p, e, l, t21, t6, hm, G, hl⟩
    obtain ⟨p3, e3, S3, q3, G3⟩ := T26n (k + 29) (c := none) (G.by_ (by omega)) (by omega) (to := 4)
    have q3 : evF Y AP (k + 99) 26 [.slice p l.length e none, .int .i64 4] S' = _ := q3
    have h4 := padL4 (l := l)
    simp -implicitDefEqProofs -dsimp (maxSteps := 10000000) only [↓kS, after_some, br_true, br_false, kC, ↓kQ, ↓Option.bind_some, ↓Option.map_some, ↓cond_true, ↓cond_false, evC, evOp, XO.lit, setArgs, Tr.get_set, Option.bind_some, Option.map_some, cond_true, cond_false, maxI, maxFrom, minI, minFrom, aConv, aBinE, aEq, eqScal, aUn, evRes, fin, oneOf, if_true, if_false, callee, reduceCtorEq, Nat.reduceEqDiff, List.getElem?_cons_zero, List.getElem?_cons_succ, beq_self_eq_true, gt_iff_lt, List.head?_cons, AV.undef, eq_self, ne_eq, Int.reduceLT, Int.reduceLE, Int.reduceToNat, Int.reduceEq, Int.reduceNeg, Nat.reduceAdd, Nat.reduceLT, Nat.reduceLeDiff, Nat.reduceMul, Nat.reduceSub, ↓evDraw_nil, bir, putD, evDraw, trace, List.all_cons, List.all_nil, chk, stAt, again, sameV, sameL, sameA, AV.undef, Bool.and_self, Bool.and_true, decide_eq_true_eq, List.getElem?_nil, kM, AV.cells, AV.tup, List.drop_nil, List.append_nil, rdO, St.wr, List.length_cons, List.length_nil, List.take_succ_cons, List.take_zero, List.drop_succ_cons, List.drop_zero, List.cons_append, List.nil_append, Nat.reduceMul, t6, q3]
    exact ⟨_, _, rfl, p3, e3, _, rfl, G3.base G.ext, h4.1, by omega⟩
/-! ### A packet made of a tape -/
/-- What the tape's Rtp gives. -/
def Rt (Sb : St) (ot : Nat) (w : AV) (S : St) : Prop := ∃ P c e l, w = .agg (pkc P c e l) ∧ (∀ S', Old (· < Sb.next) S S' → Pv S' P c e l) ∧ Ok0 P ∧ P.cs.length ≤ 3 ∧ P.ex.length ≤ 80 ∧ P.pl.length ≤ 30 ∧ Old (· = ot) Sb S
def N2 (o2 o3 : Nat) : Nat → Prop := fun o => o = o2 ∨ o = o3
def N2b (b o2 o3 : Nat) : Nat → Prop := fun o => o = o2 ∨ o = o3 ∨ o < b
def cell9 (P : Pk) (c e l : AV) : AO := .cells (pkc P c e l) 0 0 true
/-- The packet lies in o3, the answer's place is o2. -/
structure Z9 (Sb S : St) (ot o2 o3 : Nat) (P : Pk) (c e l : AV) : Prop where
  old : Old (· = ot) Sb S
  a2 : Sb.next ≤ o2 ∧ o2 < S.next
  a3 : Sb.next ≤ o3 ∧ o3 < S.next
  ne : ¬ o2 = o3
  g2 : S.get o2 = some (.cells (pkc zP (.slice none 0 0 none) (.slice none 0 0 none) (.slice none 0 0 none)) 0 0 true)
  g3 : S.get o3 = some (.cells (pkc P c e l) 0 0 true)
  c : ∀ S', Old (N2b Sb.next o2 o3) S S' → Us S' c P.cs
  e : ∀ S', Old (N2b Sb.next o2 o3) S S' → Bs S' e P.ex
  l : ∀ S', Old (N2b Sb.next o2 o3) S S' → Bs S' l P.pl
  rg : Rng P
  e4 : P.ex.length % 4 = 0
  e0 : P.pf = 0 → P.ex.length = 0
  sz : P.cs.length ≤ 3 ∧ P.ex.length ≤ 80 ∧ P.pl.length ≤ 30
section
variable {Sb S : St} {T : Tm} {ot o2 o3 : Nat} {P : Pk} {c e l : AV}
set_option maxHeartbeats 4000000 in
theorem tz9_ok (k : Nat) {Q : Ex → Tm → St → Prop} (hot : ot < Sb.next) (Z : Z9 Sb S ot o2 o3 P c e l) (t2 : T.get 2 = some (.ptr (some ⟨o2, 0, 0, 9⟩))) (t3 : T.get 3 = some (.ptr (some ⟨o3, 0, 0, 9⟩))) (hQ : ∀ r T S2, (∃ w S3, fin [.cellN 2 9] (r, T, S2) = some (w, S3) ∧ Rt Sb ot w S3) → Q r T S2) :
    Goes (evF Y AP k) k tz9 T S Q := by
  refine Goes.mono ?_ hQ
  have r3 : ∀ v i m, S.rd o3 v i m = rdO (.cells (pkc P c e l) 0 0 true) v i m := rd_of Z.g3
  have g2 := Z.g2
  have hne := Z.ne
  simp -implicitDefEqProofs -dsimp (maxSteps := 10000000) only [tz9, ↓kS, after_some, br_true, br_false, kC, ↓kQ, ↓Option.bind_some, ↓Option.map_some, ↓cond_true, ↓cond_false, evC, evOp, XO.lit, setArgs, Tr.get_set, Option.bind_some, Option.map_some, cond_true, cond_false, maxI, maxFrom, minI, minFrom, aConv, aBinE, aEq, eqScal, aUn, evRes, fin, oneOf, if_true, if_false, callee, reduceCtorEq, Nat.reduceEqDiff, List.getElem?_cons_zero, List.getElem?_cons_succ, beq_self_eq_true, gt_iff_lt, List.head?_cons, AV.undef, eq_self, ne_eq, Int.reduceLT, Int.reduceLE, Int.reduceToNat, Int.reduceEq, Int.reduceNeg, Nat.reduceAdd, Nat.reduceLT, Nat.reduceLeDiff, Nat.reduceMul, Nat.reduceSub, ↓evDraw_nil, bir, putD, evDraw, trace, List.all_cons, List.all_nil, chk, stAt, again, sameV, sameL, sameA, AV.undef, Bool.and_self, Bool.and_true, decide_eq_true_eq, List.getElem?_nil, kM, AV.cells, AV.tup, List.drop_nil, List.append_nil, rdO, St.wr, List.length_cons, List.length_nil, List.take_succ_cons, List.take_zero, List.drop_succ_cons, List.drop_zero, List.cons_append, List.nil_append, Nat.reduceMul, aFill, evParts, rep, List.replicate_succ, List.replicate_zero, List.flatten_cons, List.flatten_nil, List.append_nil, newSl, newVar, t2, t3, r3, g2]
  have o : Old (N2b Sb.next o2 o3) S (S.put o2 (.cells (pkc P c e l) 0 0 true)) := .put (N := N2b Sb.next o2 o3) _ (.inl rfl) _
  have a2 := Z.a2
  have os := Z.sz; have rg := Z.rg; have e4 := Z.e4; have e0 := Z.e0
  have hty := rg.ty
  refine ⟨_, _, rfl, P, c, e, l, rfl, fun S' t => have o' := o.trans (⟨t.1, fun j hj hn => t.2 j hj fun h => hn (.inr (.inr h))⟩ : Old (N2b Sb.next o2 o3) _ S'); rg.pv (Z.c _ o') (Z.e _ o') (Z.l _ o'), ⟨hty.1, hty.2, rg.cl, by omega, e0, ?_⟩, os.1, os.2.1, os.2.2, ⟨Z.old.1, fun j hj hn => by rw [St.get_put, if_neg (by omega)]; exact Z.old.2 j hj hn⟩⟩
  unfold sizeP
  split <;> omega
end
/-- The packet while its sources grow. -/
structure K9 (Sb S : St) (pt : Option (Nat × Nat × Nat)) (len ot o2 o3 : Nat) (P : Pk) (p : Option (Nat × Nat × Nat)) (e : Nat) (cs : List Int) (q : Option (Nat × Nat × Nat)) (eq : Nat) (ll : List Nat) : Prop where
  tp : Tpe S pt len ot
  old : Old (· = ot) Sb S
  a2 : Sb.next ≤ o2 ∧ o2 < S.next
  a3 : Sb.next ≤ o3 ∧ o3 < S.next
  ne : ¬ o2 = o3
  g2 : S.get o2 = some (.cells (pkc zP (.slice none 0 0 none) (.slice none 0 0 none) (.slice none 0 0 none)) 0 0 true)
  g3 : S.get o3 = some (.cells (pkc P (.slice p cs.length e none) (.slice none 0 0 none) (.slice q ll.length eq none)) 0 0 true)
  vec : Vec S p cs.length 1 e (uv cs)
  new : ∀ o v i, p = some (o, v, i) → Sb.next ≤ o ∧ ¬ o = o2 ∧ ¬ o = o3
  bd : Wrd cs
  pay : By S q eq ll
  pn : ∀ o v i, q = some (o, v, i) → Sb.next ≤ o ∧ ¬ o = o2 ∧ ¬ o = o3 ∧ ∀ v' i', p ≠ some (o, v', i')
section
variable {Sb S : St} {pt : Option (Nat × Nat × Nat)} {len ot o2 o3 : Nat} {P : Pk} {p : Option (Nat × Nat × Nat)} {e : Nat} {cs : List Int} {q : Option (Nat × Nat × Nat)} {eq : Nat} {ll : List Nat}
theorem K9.step (h : K9 Sb S pt len ot o2 o3 P p e cs q eq ll) (hot : ot < Sb.next) {S' : St} (o : Old (· = ot) S S') (t : Tpe S' pt len ot) : K9 Sb S' pt len ot o2 o3 P p e cs q eq ll :=
  have a2 := h.a2; have a3 := h.a3
  ⟨t, h.old.trans o, ⟨a2.1, Nat.lt_of_lt_of_le a2.2 o.1⟩, ⟨a3.1, Nat.lt_of_lt_of_le a3.2 o.1⟩, h.ne, (o.2 _ a2.2 (by omega)).trans h.g2, (o.2 _ a3.2 (by omega)).trans h.g3, h.vec.els' o fun o' v i hp he => by have := (h.new o' v i hp).1; omega, h.new, h.bd, o.by_ h.pay fun o' v i hp he => by have := (h.pn o' v i hp).1; omega, h.pn⟩
theorem K9.put (h : K9 Sb S pt len ot o2 o3 P p e cs q eq ll) (hot : ot < Sb.next) (hpt : ∀ o v i, pt = some (o, v, i) → o < Sb.next) (P' : Pk) : K9 Sb (S.put o3 (.cells (pkc P' (.slice p cs.length e none) (.slice none 0 0 none) (.slice q ll.length eq none)) 0 0 true)) pt len ot o2 o3 P' p e cs q eq ll :=
  have a2 := h.a2; have a3 := h.a3
  have o : Old (· = o3) S (S.put o3 (.cells (pkc P' (.slice p cs.length e none) (.slice none 0 0 none) (.slice q ll.length eq none)) 0 0 true)) := .put (N := (· = o3)) _ rfl _
  ⟨h.tp.old o (by omega) fun o' v i hp => by have := hpt o' v i hp; omega, ⟨h.old.1, fun j hj hn => (o.2 j (Nat.lt_of_lt_of_le hj h.old.1) (by omega)).trans (h.old.2 j hj hn)⟩, a2, a3, h.ne, (o.2 _ a2.2 h.ne).trans h.g2, by rw [St.get_put, if_pos rfl], h.vec.els' o fun o' v i hp => (h.new o' v i hp).2.2, h.new, h.bd, o.by_ h.pay fun o' v i hp => (h.pn o' v i hp).2.2.1, h.pn⟩
theorem K9.app (h : K9 Sb S pt len ot o2 o3 P p e cs q eq ll) (hot : ot < Sb.next) (hpt : ∀ o v i, pt = some (o, v, i) → o < Sb.next) {n : Int} (hn : 0 ≤ n ∧ n < 4294967296) (hc : cs.length ≤ 1000) :
    ∃ p' S', aAppend 1 4 S (.slice p cs.length e none) 1 [.int .u32 n] = some (.slice p' (cs.length + 1) 1 none, S') ∧ S'.get o3 = some (.cells (pkc P (.slice p cs.length e none) (.slice none 0 0 none) (.slice q ll.length eq none)) 0 0 true) ∧
      K9 Sb (S'.put o3 (.cells (pkc P (.slice p' (cs.length + 1) 1 none) (.slice none 0 0 none) (.slice q ll.length eq none)) 0 0 true)) pt len ot o2 o3 P p' 1 (cs ++ [n]) q eq ll := by
  obtain ⟨p', S', h1, h2, h3, h4⟩ := h.vec.append (bytes := 4) (xs := [.int .u32 n]) (n := 1) rfl (by decide) (by omega)
  have hg := Old.grow h3
  have a2 := h.a2; have a3 := h.a3
  have hN : ∀ o, o < Sb.next ∨ o = o2 ∨ o = o3 → ¬ ∃ v i, p = some (o, v, i) := fun o ho ⟨v, i, hp⟩ => by have := h.new o v i hp; omega
  have g3 := (hg.2 o3 a3.2 (hN _ (.inr (.inr rfl)))).trans h.g3
  have hl : (cs ++ [n]).length = cs.length + 1 := by rw [List.length_append]; rfl
  have new' : ∀ o v i, p' = some (o, v, i) → Sb.next ≤ o ∧ ¬ o = o2 ∧ ¬ o = o3 := fun o v i hp => by
    rcases h4 o v i hp with h5 | ⟨v', i', h5⟩
    · have := h.old.1; omega
    · exact h.new _ _ _ h5
  refine ⟨p', S', h1, g3, ?_⟩
  have K : K9 Sb S' pt len ot o2 o3 P p e cs q eq ll → True := fun _ => trivial
  have o3' : Old (· = o3) S' (S'.put o3 (.cells (pkc P (.slice p' (cs.length + 1) 1 none) (.slice none 0 0 none) (.slice q ll.length eq none)) 0 0 true)) := .put (N := (· = o3)) _ rfl _
  refine ⟨(h.tp.old hg (hN _ (.inl hot)) fun o v i hp => hN _ (.inl (hpt o v i hp))).old o3' (by omega) fun o' v i hp => by have := hpt o' v i hp; omega, ⟨Nat.le_trans h.old.1 h3.next, fun j hj hne => (o3'.2 j (Nat.lt_of_lt_of_le hj (Nat.le_trans h.old.1 h3.next)) (by omega)).trans ((hg.2 j (Nat.lt_of_lt_of_le hj h.old.1) (hN j (.inl hj))).trans (h.old.2 j hj hne))⟩,
    ⟨a2.1, Nat.lt_of_lt_of_le a2.2 h3.next⟩, ⟨a3.1, Nat.lt_of_lt_of_le a3.2 h3.next⟩, h.ne, (o3'.2 _ (Nat.lt_of_lt_of_le a2.2 h3.next) h.ne).trans ((hg.2 o2 a2.2 (hN _ (.inr (.inl rfl)))).trans h.g2), by rw [St.get_put, if_pos rfl, hl], ?_, new', ?_, o3'.by_ (hg.by_ h.pay fun o v i hp ⟨v', i', he⟩ => (h.pn o v i hp).2.2.2 v' i' he) fun o' v i hp => (h.pn o' v i hp).2.2.1, fun o v i hp => ⟨(h.pn o v i hp).1, (h.pn o v i hp).2.1, (h.pn o v i hp).2.2.1, fun v' i' he => ?_⟩⟩
  · rw [hl, uv_app]; exact h2.els' o3' fun o' v i hp => (new' o' v i hp).2.2
  · intro y hy
    rcases List.mem_append.1 hy with hy | hy
    · exact h.bd y hy
    · rw [List.mem_singleton] at hy; rw [hy]; exact hn
  · rcases h4 o v' i' he with h5 | ⟨v2, i2, h5⟩
    · have := (h.pay.at_ o v i hp).1; omega
    · exact (h.pn o v i hp).2.2.2 _ _ h5
/-- With an extension, or none, it is a packet. -/
theorem K9.z (h : K9 Sb S pt len ot o2 o3 P p e cs q eq ll) {P' : Pk} (hc : P'.cs = cs) (hl : P'.pl = ll) (rg : Rng P') (e4 : P'.ex.length % 4 = 0) (e0 : P'.pf = 0 → P'.ex.length = 0) (sz : P'.cs.length ≤ 3 ∧ P'.ex.length ≤ 80 ∧ P'.pl.length ≤ 30) {pe : Option (Nat × Nat × Nat)} {ee : Nat} (he : By S pe ee P'.ex) (hn : ∀ o v i, pe = some (o, v, i) → Sb.next ≤ o ∧ ¬ o = o2 ∧ ¬ o = o3) :
    Z9 Sb (S.put o3 (.cells (pkc P' (.slice p cs.length e none) (.slice pe P'.ex.length ee none) (.slice q ll.length eq none)) 0 0 true)) ot o2 o3 P' (.slice p cs.length e none) (.slice pe P'.ex.length ee none) (.slice q ll.length eq none) := by
  have a2 := h.a2; have a3 := h.a3
  have o : Old (N2b Sb.next o2 o3) S (S.put o3 (.cells (pkc P' (.slice p cs.length e none) (.slice pe P'.ex.length ee none) (.slice q ll.length eq none)) 0 0 true)) := .put (N := N2b Sb.next o2 o3) _ (.inr (.inl rfl)) _
  refine ⟨⟨h.old.1, fun j hj hne => by rw [St.get_put, if_neg (by omega)]; exact h.old.2 j hj hne⟩, a2, a3, h.ne, by rw [St.get_put, if_neg h.ne]; exact h.g2, by rw [St.get_put, if_pos rfl], fun S' t => ?_, fun S' t => ?_, fun S' t => ?_, rg, e4, e0, sz⟩
  · rw [hc]; exact ⟨p, e, none, rfl, Vec.ur (h.vec.els' (o.trans t) fun o v i hp hN => by have := h.new o v i hp; rcases hN with rfl | rfl | hN <;> omega) h.bd (by have := sz.1; rw [hc] at this; omega)⟩
  · exact ⟨pe, ee, none, rfl, (o.trans t).by_ he fun o v i hp hN => by have := hn o v i hp; rcases hN with rfl | rfl | hN <;> omega⟩
  · rw [hl]; exact ⟨q, eq, none, rfl, (o.trans t).by_ h.pay fun o v i hp hN => by have := h.pn o v i hp; rcases hN with rfl | rfl | hN <;> omega⟩
end
section
variable {Sb S : St} {T : Tm} {pt : Option (Nat × Nat × Nat)} {len ot o2 o3 : Nat} {P : Pk} {p : Option (Nat × Nat × Nat)} {e : Nat} {cs : List Int} {q : Option (Nat × Nat × Nat)} {eq : Nat} {ll : List Nat}
theorem K9.z0 (h : K9 Sb S pt len ot o2 o3 P p e cs q eq ll) (rg : Rng { P with cs := cs, pl := ll, ex := [] }) (sz : cs.length ≤ 3 ∧ ll.length ≤ 30) :
    Z9 Sb S ot o2 o3 { P with cs := cs, pl := ll, ex := [] } (.slice p cs.length e none) (.slice none 0 0 none) (.slice q ll.length eq none) := by
  refine ⟨h.old, h.a2, h.a3, h.ne, h.g2, h.g3, fun S' t => ?_, fun S' t => .zero _ _, fun S' t => ?_, rg, rfl, fun _ => rfl, sz.1, Nat.zero_le _, sz.2⟩
  · exact ⟨p, e, none, rfl, Vec.ur (h.vec.els' t fun o v i hp hN => by have := h.new o v i hp; rcases hN with rfl | rfl | hN <;> omega) h.bd (show cs.length ≤ 9223372036854775807 by have := sz.1; omega)⟩
  · exact ⟨q, eq, none, rfl, t.by_ h.pay fun o v i hp hN => by have := h.pn o v i hp; rcases hN with rfl | rfl | hN <;> omega⟩
set_option maxHeartbeats 16000000 in
theorem tl9_ok (k : Nat) {Q : Ex → Tm → St → Prop} (K : K9 Sb S pt len ot o2 o3 P p e cs q eq ll) (hot : ot < Sb.next) (hpt : ∀ o v i, pt = some (o, v, i) → o < Sb.next) (rg : ∀ (f : Int) (x : List Nat), 0 ≤ f ∧ f < 65536 → x.length ≤ 80 → Rng { P with cs := cs, pl := ll, pf := f, ex := x }) (hpf : P.pf = 0) (sz : cs.length ≤ 3 ∧ ll.length ≤ 30)
    (t0 : T.get 0 = some (pt2 ot)) (t2 : T.get 2 = some (.ptr (some ⟨o2, 0, 0, 9⟩))) (t3 : T.get 3 = some (.ptr (some ⟨o3, 0, 0, 9⟩))) (hQ : ∀ r T S2, (∃ w S3, fin [.cellN 2 9] (r, T, S2) = some (w, S3) ∧ Rt Sb ot w S3) → Q r T S2) :
    Goes (evF Y AP (k + 129)) (k + 129) tl9 T S Q := by
  obtain ⟨x, S1, r1, a1, b1, o1, h1⟩ := T21 (k + 123) K.tp (n := 4) (by decide) (by decide)
  have r1 : evF Y AP (k + 129) 21 [pt2 ot, .int .i64 4] S = _ := r1
  have K1 := K.step hot o1 h1
  have g1 := K1.g3
  have a2 := K1.a2; have a3 := K1.a3
  have n1 := K1.old.1
  have hx : x = 0 ∨ x = 1 ∨ x = 2 ∨ x = 3 := by omega
  rcases hx with rfl | rfl | rfl | rfl
  · have K2 := K1.put hot hpt { P with pf := 48862 }
    obtain ⟨S2, hS2⟩ : ∃ S2, S1.put o3 (.cells (pkc { P with pf := 48862 } (.slice p cs.length e none) (.slice none 0 0 none) (.slice q ll.length eq none)) 0 0 true) = S2 := ⟨_, rfl⟩
    rw [hS2] at K2
    have n2 := K2.old.1
    obtain ⟨po, eo, L, S3, r3, hL, E⟩ := T25 (k + 8) K2.tp (fun o v i hp => by have := hpt o v i hp; omega) false
    have r3 : evF Y AP (k + 129) 25 [pt2 ot, .bool false] S2 = _ := r3
    have K3 := K2.step hot E.old E.tp
    obtain ⟨p4, e4, l4, S4, r4, G4, m4, hl4⟩ := T24 (k + 29) E hL
    have r4 : evF Y AP (k + 129) 24 [.int .u16 48862, .slice po L.length eo none] S3 = _ := r4
    have K4 := K3.step hot (.of_ext G4.ext) (K3.tp.ext G4.ext)
    have c3 := K3.a3; have c2 := K3.a2
    have nE := E.old.1
    have Z := K4.z (P' := { P with pf := 48862, cs := cs, pl := ll, ex := l4 }) rfl rfl (rg 48862 l4 (by decide) hl4) m4 (fun h => absurd h (show ¬ ((48862 : Int) = 0) by decide)) ⟨sz.1, hl4, sz.2⟩ (G4.by_ (by omega)) fun o v i hp => by have := G4.new o v i hp; omega
    have q2 : ∀ v i m, S2.rd o3 v i m = rdO (.cells (pkc { P with pf := 48862 } (.slice p cs.length e none) (.slice none 0 0 none) (.slice q ll.length eq none)) 0 0 true) v i m := rd_of K2.g3
    have q3 : ∀ v i m, S3.rd o3 v i m = rdO (.cells (pkc { P with pf := 48862 } (.slice p cs.length e none) (.slice none 0 0 none) (.slice q ll.length eq none)) 0 0 true) v i m := rd_of K3.g3
    have q4 : ∀ v i m, S4.rd o3 v i m = rdO (.cells (pkc { P with pf := 48862 } (.slice p cs.length e none) (.slice none 0 0 none) (.slice q ll.length eq none)) 0 0 true) v i m := rd_of K4.g3
    have g4 := K4.g3
    simp -implicitDefEqProofs -dsimp (maxSteps := 10000000) only [tl9, ↓kS, after_some, br_true, br_false, kC, ↓kQ, ↓Option.bind_some, ↓Option.map_some, ↓cond_true, ↓cond_false, evC, evOp, XO.lit, setArgs, Tr.get_set, Option.bind_some, Option.map_some, cond_true, cond_false, maxI, maxFrom, minI, minFrom, aConv, aBinE, aEq, eqScal, aUn, evRes, fin, oneOf, if_true, if_false, callee, reduceCtorEq, Nat.reduceEqDiff, List.getElem?_cons_zero, List.getElem?_cons_succ, beq_self_eq_true, gt_iff_lt, List.head?_cons, AV.undef, eq_self, ne_eq, Int.reduceLT, Int.reduceLE, Int.reduceToNat, Int.reduceEq, Int.reduceNeg, Nat.reduceAdd, Nat.reduceLT, Nat.reduceLeDiff, Nat.reduceMul, Nat.reduceSub, ↓evDraw_nil, bir, putD, evDraw, trace, List.all_cons, List.all_nil, chk, stAt, again, sameV, sameL, sameA, AV.undef, Bool.and_self, Bool.and_true, decide_eq_true_eq, List.getElem?_nil, kM, AV.cells, AV.tup, List.drop_nil, List.append_nil, rdO, St.wr, List.length_cons, List.length_nil, List.take_succ_cons, List.take_zero, List.drop_succ_cons, List.drop_zero, List.cons_append, List.nil_append, Nat.reduceMul, aFill, evParts, rep, List.replicate_succ, List.replicate_zero, List.flatten_cons, List.flatten_nil, List.append_nil, newSl, newVar, t0, t2, t3, r1, g1, hS2, q2, q3, q4, r3, r4, g4]
    refine tz9_ok (k + 129) hot Z ?_ ?_ hQ <;> simp only [Tr.get_set, Nat.reduceEqDiff, if_false, if_true, t0, t2, t3]
  · have K2 := K1.put hot hpt { P with pf := 4096 }
    obtain ⟨S2, hS2⟩ : ∃ S2, S1.put o3 (.cells (pkc { P with pf := 4096 } (.slice p cs.length e none) (.slice none 0 0 none) (.slice q ll.length eq none)) 0 0 true) = S2 := ⟨_, rfl⟩
    rw [hS2] at K2
    have n2 := K2.old.1
    obtain ⟨po, eo, L, S3, r3, hL, E⟩ := T25 (k + 8) K2.tp (fun o v i hp => by have := hpt o v i hp; omega) true
    have r3 : evF Y AP (k + 129) 25 [pt2 ot, .bool true] S2 = _ := r3
    have K3 := K2.step hot E.old E.tp
    obtain ⟨p4, e4, l4, S4, r4, G4, m4, hl4⟩ := T24 (k + 29) E hL
    have r4 : evF Y AP (k + 129) 24 [.int .u16 4096, .slice po L.length eo none] S3 = _ := r4
    have K4 := K3.step hot (.of_ext G4.ext) (K3.tp.ext G4.ext)
    have c3 := K3.a3; have c2 := K3.a2
    have nE := E.old.1
    have Z := K4.z (P' := { P with pf := 4096, cs := cs, pl := ll, ex := l4 }) rfl rfl (rg 4096 l4 (by decide) hl4) m4 (fun h => absurd h (show ¬ ((4096 : Int) = 0) by decide)) ⟨sz.1, hl4, sz.2⟩ (G4.by_ (by omega)) fun o v i hp => by have := G4.new o v i hp; omega
    have q2 : ∀ v i m, S2.rd o3 v i m = rdO (.cells (pkc { P with pf := 4096 } (.slice p cs.length e none) (.slice none 0 0 none) (.slice q ll.length eq none)) 0 0 true) v i m := rd_of K2.g3
    have q3 : ∀ v i m, S3.rd o3 v i m = rdO (.cells (pkc { P with pf := 4096 } (.slice p cs.length e none) (.slice none 0 0 none) (.slice q ll.length eq none)) 0 0 true) v i m := rd_of K3.g3
    have q4 : ∀ v i m, S4.rd o3 v i m = rdO (.cells (pkc { P with pf := 4096 } (.slice p cs.length e none) (.slice none 0 0 none) (.slice q ll.length eq none)) 0 0 true) v i m := rd_of K4.g3
    have g4 := K4.g3
    simp -implicitDefEqProofs -dsimp (maxSteps := 10000000) only [tl9, ↓kS, after_some, br_true, br_false, kC, ↓kQ, ↓Option.bind_some, ↓Option.map_some, ↓cond_true, ↓cond_false, evC, evOp, XO.lit, setArgs, Tr.get_set, Option.bind_some, Option.map_some, cond_true, cond_false, maxI, maxFrom, minI, minFrom, aConv, aBinE, aEq, eqScal, aUn, evRes, fin, oneOf, if_true, if_false, callee, reduceCtorEq, Nat.reduceEqDiff, List.getElem?_cons_zero, List.getElem?_cons_succ, beq_self_eq_true, gt_iff_lt, List.head?_cons, AV.undef, eq_self, ne_eq, Int.reduceLT, Int.reduceLE, Int.reduceToNat, Int.reduceEq, Int.reduceNeg, Nat.reduceAdd, Nat.reduceLT, Nat.reduceLeDiff, Nat.reduceMul, Nat.reduceSub, ↓evDraw_nil, bir, putD, evDraw, trace, List.all_cons, List.all_nil, chk, stAt, again, sameV, sameL, sameA, AV.undef, Bool.and_self, Bool.and_true, decide_eq_true_eq, List.getElem?_nil, kM, AV.cells, AV.tup, List.drop_nil, List.append_nil, rdO, St.wr, List.length_cons, List.length_nil, List.take_succ_cons, List.take_zero, List.drop_succ_cons, List.drop_zero, List.cons_append, List.nil_append, Nat.reduceMul, aFill, evParts, rep, List.replicate_succ, List.replicate_zero, List.flatten_cons, List.flatten_nil, List.append_nil, newSl, newVar, t0, t2, t3, r1, g1, hS2, q2, q3, q4, r3, r4, g4]
    refine tz9_ok (k + 129) hot Z ?_ ?_ hQ <;> simp only [Tr.get_set, Nat.reduceEqDiff, if_false, if_true, t0, t2, t3]
  · obtain ⟨x, S2, r2, a2', b2, o2', h2⟩ := T21 (k + 123) h1 (n := 65535) (by decide) (by decide)
    have r2 : evF Y AP (k + 129) 21 [pt2 ot, .int .i64 65535] S1 = _ := r2
    have w1 : IntKind.i64.wrap (1 + x) = 1 + x := w64_id (by omega) (by omega)
    have w2 : IntKind.u16.wrap (1 + x) = 1 + x := u16_id (by omega) (by omega)
    have K2 := K1.step hot o2' h2
    have g2 := K2.g3
    have K3 := K2.put hot hpt { P with pf := 1 + x }
    obtain ⟨S3, hS3⟩ : ∃ S3, S2.put o3 (.cells (pkc { P with pf := 1 + x } (.slice p cs.length e none) (.slice none 0 0 none) (.slice q ll.length eq none)) 0 0 true) = S3 := ⟨_, rfl⟩
    rw [hS3] at K3
    have n3 := K3.old.1
    obtain ⟨p4, e4, l4, S4, r4, hl4, G4, h4⟩ := T23 (k + 22) K3.tp (fun o v i hp => by have := hpt o v i hp; omega) (n := 12) (by decide)
    have r4 : evF Y AP (k + 129) 23 [pt2 ot, .int .i64 12] S3 = _ := r4
    have K4 := K3.step hot G4.old h4
    obtain ⟨p5, e5, S5, r5, G5⟩ := T26n (k + 59) (c := none) (G4.by_ (by omega)) (by omega) (to := 4)
    have r5 : evF Y AP (k + 129) 26 [.slice p4 l4.length e4 none, .int .i64 4] S4 = _ := r5
    have K5 := K4.step hot (.of_ext G5.ext) (h4.ext G5.ext)
    have hp4 := padL4 (l := l4)
    have c3 := K4.a3; have c2 := K4.a2
    have nE := G4.old.1
    have Z := K5.z (P' := { P with pf := 1 + x, cs := cs, pl := ll, ex := padL l4 4 }) rfl rfl (rg (1 + x) _ ⟨by omega, by omega⟩ (by omega)) hp4.1 (fun h => absurd h (by show ¬ (1 + x = 0); omega)) ⟨sz.1, by show (padL l4 4).length ≤ 80; omega, sz.2⟩ (G5.by_ (by omega)) fun o v i hp => by have := G5.new o v i hp; omega
    have g5 := K5.g3
    simp -implicitDefEqProofs -dsimp (maxSteps := 10000000) only [tl9, ↓kS, after_some, br_true, br_false, kC, ↓kQ, ↓Option.bind_some, ↓Option.map_some, ↓cond_true, ↓cond_false, evC, evOp, XO.lit, setArgs, Tr.get_set, Option.bind_some, Option.map_some, cond_true, cond_false, maxI, maxFrom, minI, minFrom, aConv, aBinE, aEq, eqScal, aUn, evRes, fin, oneOf, if_true, if_false, callee, reduceCtorEq, Nat.reduceEqDiff, List.getElem?_cons_zero, List.getElem?_cons_succ, beq_self_eq_true, gt_iff_lt, List.head?_cons, AV.undef, eq_self, ne_eq, Int.reduceLT, Int.reduceLE, Int.reduceToNat, Int.reduceEq, Int.reduceNeg, Nat.reduceAdd, Nat.reduceLT, Nat.reduceLeDiff, Nat.reduceMul, Nat.reduceSub, ↓evDraw_nil, bir, putD, evDraw, trace, List.all_cons, List.all_nil, chk, stAt, again, sameV, sameL, sameA, AV.undef, Bool.and_self, Bool.and_true, decide_eq_true_eq, List.getElem?_nil, kM, AV.cells, AV.tup, List.drop_nil, List.append_nil, rdO, St.wr, List.length_cons, List.length_nil, List.take_succ_cons, List.take_zero, List.drop_succ_cons, List.drop_zero, List.cons_append, List.nil_append, Nat.reduceMul, aFill, evParts, rep, List.replicate_succ, List.replicate_zero, List.flatten_cons, List.flatten_nil, List.append_nil, newSl, newVar, t0, t2, t3, r1, r2, w1, w2, g2, hS3, r4, r5, g5]
    refine tz9_ok (k + 129) hot Z ?_ ?_ hQ <;> simp only [Tr.get_set, Nat.reduceEqDiff, if_false, if_true, t0, t2, t3]
  · have rg0 : Rng { P with cs := cs, pl := ll, ex := [] } := by have := rg 0 [] (by decide) (by decide); rw [← hpf] at this; exact this
    have Z := K1.z0 rg0 sz
    simp -implicitDefEqProofs -dsimp (maxSteps := 10000000) only [tl9, ↓kS, after_some, br_true, br_false, kC, ↓kQ, ↓Option.bind_some, ↓Option.map_some, ↓cond_true, ↓cond_false, evC, evOp, XO.lit, setArgs, Tr.get_set, Option.bind_some, Option.map_some, cond_true, cond_false, maxI, maxFrom, minI, minFrom, aConv, aBinE, aEq, eqScal, aUn, evRes, fin, oneOf, if_true, if_false, callee, reduceCtorEq, Nat.reduceEqDiff, List.getElem?_cons_zero, List.getElem?_cons_succ, beq_self_eq_true, gt_iff_lt, List.head?_cons, AV.undef, eq_self, ne_eq, Int.reduceLT, Int.reduceLE, Int.reduceToNat, Int.reduceEq, Int.reduceNeg, Nat.reduceAdd, Nat.reduceLT, Nat.reduceLeDiff, Nat.reduceMul, Nat.reduceSub, ↓evDraw_nil, bir, putD, evDraw, trace, List.all_cons, List.all_nil, chk, stAt, again, sameV, sameL, sameA, AV.undef, Bool.and_self, Bool.and_true, decide_eq_true_eq, List.getElem?_nil, kM, AV.cells, AV.tup, List.drop_nil, List.append_nil, rdO, St.wr, List.length_cons, List.length_nil, List.take_succ_cons, List.take_zero, List.drop_succ_cons, List.drop_zero, List.cons_append, List.nil_append, Nat.reduceMul, aFill, evParts, rep, List.replicate_succ, List.replicate_zero, List.flatten_cons, List.flatten_nil, List.append_nil, newSl, newVar, t0, t2, t3, r1]
    refine tz9_ok (k + 129) hot Z ?_ ?_ hQ <;> simp only [Tr.get_set, Nat.reduceEqDiff, if_false, if_true, t0, t2, t3]
end
structure I9 (Sb : St) (pt : Option (Nat × Nat × Nat)) (len ot o2 o3 : Nat) (P : Pk) (q : Option (Nat × Nat × Nat)) (eq : Nat) (ll : List Nat) (n : Nat) (m : Nat) (T : Tm) (S : St) : Prop where
  t0 : T.get 0 = some (pt2 ot)
  t2 : T.get 2 = some (.ptr (some ⟨o2, 0, 0, 9⟩))
  t3 : T.get 3 = some (.ptr (some ⟨o3, 0, 0, 9⟩))
  t4 : T.get 4 = some (.int .i64 m)
  more : ∃ p e cs, K9 Sb S pt len ot o2 o3 P p e cs q eq ll ∧ cs.length + m = n
set_option maxHeartbeats 8000000 in
theorem round9 (k : Nat) {Sb : St} {pt : Option (Nat × Nat × Nat)} {len ot o2 o3 : Nat} {P : Pk} {q : Option (Nat × Nat × Nat)} {eq : Nat} {ll : List Nat} {n : Nat} (hot : ot < Sb.next) (hpt : ∀ o v i, pt = some (o, v, i) → o < Sb.next) (hn : n ≤ 50) (m : Nat) (T : Tm) (S : St) (hI : I9 Sb pt len ot o2 o3 P q eq ll n m T S) :
    Goes (evF Y AP (k + 129)) (k + 129) af9_l0 T S (Then (fun T' S' => ∃ m', I9 Sb pt len ot o2 o3 P q eq ll n m' T' S' ∧ id m' < id m) fun r T' S' => r = .exit 0 ∧ I9 Sb pt len ot o2 o3 P q eq ll n 0 T' S') := by
  obtain ⟨t0, t2, t3, t4, p, e, cs, K, hm⟩ := hI
  by_cases c1 : (0 : Int) < (m : Int)
  rotate_left
  · obtain rfl : m = 0 := by omega
    simp -implicitDefEqProofs -dsimp (maxSteps := 10000000) only [af9_l0, ↓kS, after_some, br_true, br_false, kC, ↓kQ, ↓Option.bind_some, ↓Option.map_some, ↓cond_true, ↓cond_false, evC, evOp, XO.lit, setArgs, Tr.get_set, Option.bind_some, Option.map_some, cond_true, cond_false, maxI, maxFrom, minI, minFrom, aConv, aBinE, aEq, eqScal, aUn, evRes, fin, oneOf, if_true, if_false, callee, reduceCtorEq, Nat.reduceEqDiff, List.getElem?_cons_zero, List.getElem?_cons_succ, beq_self_eq_true, gt_iff_lt, List.head?_cons, AV.undef, eq_self, ne_eq, Int.reduceLT, Int.reduceLE, Int.reduceToNat, Int.reduceEq, Int.reduceNeg, Nat.reduceAdd, Nat.reduceLT, Nat.reduceLeDiff, Nat.reduceMul, Nat.reduceSub, kM, AV.cells, AV.tup, List.drop_nil, List.append_nil, rdO, St.wr, List.length_cons, List.length_nil, List.take_succ_cons, List.take_zero, List.drop_succ_cons, List.drop_zero, List.cons_append, List.nil_append, Nat.reduceMul, t4, c1]
    refine ⟨?_, ?_, ?_, ?_, p, e, cs, K, hm⟩ <;> simp only [Tr.get_set, Nat.reduceEqDiff, if_false, if_true, t0, t2, t3, t4]
  obtain ⟨x, S1, r1, bx, o1, h1⟩ := T22 (k + 122) K.tp
  have r1 : evF Y AP (k + 129) 22 [pt2 ot] S = _ := r1
  have K1 := K.step hot o1 h1
  have w2 : IntKind.i64.wrap ((m : Int) - 1) = ((m - 1 : Nat) : Int) := by rw [w64_id (by omega) (by omega)]; omega
  obtain ⟨B, hB⟩ : ∃ B, S1.alloc (.cells [.int .u32 x] 0 0 true) = B := ⟨_, rfl⟩
  have eB : Ext S1 B := by rw [← hB]; exact .alloc _ _
  have hz : B.rd S1.next 0 0 1 = some [.int .u32 x] := by rw [← hB, rd_alloc, if_pos rfl]; rfl
  have KB := K1.step hot (.of_ext eB) (h1.ext eB)
  obtain ⟨p', S', ha, g3', K'⟩ := KB.app hot hpt bx (by omega)
  have q0 : ∀ v i m, S.rd o3 v i m = rdO (.cells (pkc P (.slice p cs.length e none) (.slice none 0 0 none) (.slice q ll.length eq none)) 0 0 true) v i m := rd_of K.g3
  have q1 : ∀ v i m, S1.rd o3 v i m = rdO (.cells (pkc P (.slice p cs.length e none) (.slice none 0 0 none) (.slice q ll.length eq none)) 0 0 true) v i m := rd_of K1.g3
  have qB : ∀ v i m, B.rd o3 v i m = rdO (.cells (pkc P (.slice p cs.length e none) (.slice none 0 0 none) (.slice q ll.length eq none)) 0 0 true) v i m := rd_of KB.g3
  have q' : ∀ v i m, S'.rd o3 v i m = rdO (.cells (pkc P (.slice p cs.length e none) (.slice none 0 0 none) (.slice q ll.length eq none)) 0 0 true) v i m := rd_of g3'
  simp -implicitDefEqProofs -dsimp (maxSteps := 10000000) only [af9_l0, ↓kS, after_some, br_true, br_false, kC, ↓kQ, ↓Option.bind_some, ↓Option.map_some, ↓cond_true, ↓cond_false, evC, evOp, XO.lit, setArgs, Tr.get_set, Option.bind_some, Option.map_some, cond_true, cond_false, maxI, maxFrom, minI, minFrom, aConv, aBinE, aEq, eqScal, aUn, evRes, fin, oneOf, if_true, if_false, callee, reduceCtorEq, Nat.reduceEqDiff, List.getElem?_cons_zero, List.getElem?_cons_succ, beq_self_eq_true, gt_iff_lt, List.head?_cons, AV.undef, eq_self, ne_eq, Int.reduceLT, Int.reduceLE, Int.reduceToNat, Int.reduceEq, Int.reduceNeg, Nat.reduceAdd, Nat.reduceLT, Nat.reduceLeDiff, Nat.reduceMul, Nat.reduceSub, ↓evDraw_nil, bir, putD, evDraw, trace, List.all_cons, List.all_nil, chk, stAt, again, sameV, sameL, sameA, AV.undef, Bool.and_self, Bool.and_true, decide_eq_true_eq, List.getElem?_nil, kM, AV.cells, AV.tup, List.drop_nil, List.append_nil, rdO, St.wr, List.length_cons, List.length_nil, List.take_succ_cons, List.take_zero, List.drop_succ_cons, List.drop_zero, List.cons_append, List.nil_append, Nat.reduceMul, aFill, evParts, rep, List.replicate_succ, List.replicate_zero, List.flatten_cons, List.flatten_nil, List.append_nil, newSl, newVar, t0, t2, t3, t4, c1, q0, q1, qB, q', r1, hB, Nat.mul_one, hz, ha, g3', w2]
  refine ⟨m - 1, ⟨?_, ?_, ?_, ?_, p', 1, cs ++ [x], K', by rw [List.length_append]; simp only [List.length_cons, List.length_nil]; omega⟩, by show m - 1 < m; omega⟩ <;> simp only [Tr.get_set, Nat.reduceEqDiff, if_false, if_true, t0, t2, t3]
set_option maxHeartbeats 8000000 in
/-- Rtp, of a tape -/
theorem T9 (k : Nat) {S : St} {pt : Option (Nat × Nat × Nat)} {len ot : Nat} (h : Tpe S pt len ot) (hpt : ∀ o v i, pt = some (o, v, i) → o < S.next) :
    ∃ w S', evF Y AP (k + 130) 9 [pt2 ot] S = some (w, S') ∧ Rt S ot w S' := by
  have hot := h.lt
  obtain ⟨A, hA⟩ : ∃ A, S.alloc (.cells [.bool false, .int .i64 0, .int .u16 0, .int .u32 0, .int .u32 0, .slice none 0 0 none, .int .u16 0, .slice none 0 0 none, .slice none 0 0 none] 0 0 true) = A := ⟨_, rfl⟩
  have eA : Ext S A := by rw [← hA]; exact .alloc _ _
  have nA : A.next = S.next + 1 := by rw [← hA]; rfl
  have gA : A.get S.next = some (.cells [.bool false, .int .i64 0, .int .u16 0, .int .u32 0, .int .u32 0, .slice none 0 0 none, .int .u16 0, .slice none 0 0 none, .slice none 0 0 none] 0 0 true) := by rw [← hA, St.get_alloc, if_pos rfl]
  obtain ⟨x1, S1, r1, a1, b1, o1, h1⟩ := T21 (k + 123) (h.ext eA) (n := 2) (by decide) (by decide)
  obtain ⟨x2, S2, r2, a2, b2, o2, h2⟩ := T21 (k + 123) h1 (n := 128) (by decide) (by decide)
  obtain ⟨x3, S3, r3, a3, b3, o3, h3⟩ := T21 (k + 123) h2 (n := 65536) (by decide) (by decide)
  obtain ⟨x4, S4, r4, b4, o4, h4⟩ := T22 (k + 122) h3
  obtain ⟨x5, S5, r5, b5, o5, h5⟩ := T22 (k + 122) h4
  have r1 : evF Y AP (k + 129) 21 [pt2 ot, .int .i64 2] A = _ := r1
  have r2 : evF Y AP (k + 129) 21 [pt2 ot, .int .i64 128] S1 = _ := r2
  have r3 : evF Y AP (k + 129) 21 [pt2 ot, .int .i64 65536] S2 = _ := r3
  have r4 : evF Y AP (k + 129) 22 [pt2 ot] S3 = _ := r4
  have r5 : evF Y AP (k + 129) 22 [pt2 ot] S4 = _ := r5
  have oA5 : Old (· = ot) A S5 := (((o1.trans o2).trans o3).trans o4).trans o5
  have n5 := oA5.1
  obtain ⟨q, eq, ll, S6, r6, hll, G6, h6⟩ := T23 (k + 22) h5 (fun o v i hp => by have := hpt o v i hp; omega) (n := 30) (by decide)
  have r6 : evF Y AP (k + 129) 23 [pt2 ot, .int .i64 30] S5 = _ := r6
  have n6 := G6.old.1
  have w3 : IntKind.u16.wrap x3 = x3 := u16_id a3 (by omega)
  obtain ⟨B, hB⟩ : ∃ B, S6.alloc (.cells [.bool false, .int .i64 0, .int .u16 0, .int .u32 0, .int .u32 0, .slice none 0 0 none, .int .u16 0, .slice none 0 0 none, .slice none 0 0 none] 0 0 true) = B := ⟨_, rfl⟩
  have gB : B.get S6.next = some (.cells [.bool false, .int .i64 0, .int .u16 0, .int .u32 0, .int .u32 0, .slice none 0 0 none, .int .u16 0, .slice none 0 0 none, .slice none 0 0 none] 0 0 true) := by rw [← hB, St.get_alloc, if_pos rfl]
  obtain ⟨P, hP⟩ : ∃ P : Pk, P = ⟨decide (x1 = 0), x2, x3, x4, x5, [], 0, [], []⟩ := ⟨_, rfl⟩
  obtain ⟨D, hD⟩ : ∃ D, B.put S6.next (.cells (pkc P (.slice none 0 0 none) (.slice none 0 0 none) (.slice q ll.length eq none)) 0 0 true) = D := ⟨_, rfl⟩
  obtain ⟨xD, gD, nD⟩ : Ext S6 D ∧ D.get S6.next = some (.cells (pkc P (.slice none 0 0 none) (.slice none 0 0 none) (.slice q ll.length eq none)) 0 0 true) ∧ S6.next < D.next := by rw [← hD, ← hB]; exact put_new _ _ _
  have o6 : Old (· = ot) S D := (((Old.of_ext eA).trans oA5).trans G6.old).trans (.of_ext xD)
  have K : K9 S D pt len ot S.next S6.next P none 0 [] q eq ll :=
    ⟨h6.ext xD, o6, ⟨Nat.le_refl _, by omega⟩, ⟨by omega, nD⟩, by omega, xD.get (by omega) ((G6.old.2 _ (by omega) (by omega)).trans ((oA5.2 _ (by omega) (by omega)).trans gA)), gD, .nil _ _ _, fun _ _ _ hp => (by cases hp), fun _ hy => (by cases hy), (G6.by_ (by omega)).ext xD, fun o v i hp => by
      have h1 := G6.new o v i hp
      have h2 := ((G6.by_ (by omega)).at_ o v i hp).1
      exact ⟨by omega, by omega, by omega, fun _ _ he => by cases he⟩⟩
  have rg : ∀ (cs : List Int) (f : Int) (x : List Nat), cs.length ≤ 3 → 0 ≤ f ∧ f < 65536 → x.length ≤ 80 → Rng { P with cs := cs, pl := ll, pf := f, ex := x } := fun cs f x hc hf hx => by
    rw [hP]
    exact ⟨⟨a2, by show x2 ≤ 127; omega⟩, ⟨a3, b3⟩, b4, b5, hf, by show cs.length ≤ 15; omega, by show x.length ≤ 1500; omega, by show ll.length ≤ 1500; omega⟩
  obtain ⟨x7, S7, r7, a7, b7, o7, h7⟩ := T21 (k + 123) (h6.ext xD) (n := 4) (by decide) (by decide)
  have r7 : evF Y AP (k + 129) 21 [pt2 ot, .int .i64 4] D = _ := r7
  obtain ⟨n, rfl⟩ : ∃ n : Nat, x7 = (n : Int) := ⟨x7.toNat, by omega⟩
  have K7 := K.step hot o7 h7
  refine evF_goes (af := af9) (k := k + 129) rfl rfl rfl ?_
  rw [hP] at hD
  simp -implicitDefEqProofs -dsimp (maxSteps := 10000000) only [af9, ↓kS, after_some, br_true, br_false, kC, ↓kQ, ↓Option.bind_some, ↓Option.map_some, ↓cond_true, ↓cond_false, evC, evOp, XO.lit, setArgs, Tr.tabG, Tr.tabS, Tr.tabL, Tr.get_lf, Option.bind_some, Option.map_some, cond_true, cond_false, maxI, maxFrom, minI, minFrom, aConv, aBinE, aEq, eqScal, aUn, evRes, fin, oneOf, if_true, if_false, callee, reduceCtorEq, Nat.reduceEqDiff, List.getElem?_cons_zero, List.getElem?_cons_succ, beq_self_eq_true, gt_iff_lt, List.head?_cons, AV.undef, eq_self, ne_eq, Int.reduceLT, Int.reduceLE, Int.reduceToNat, Int.reduceEq, Int.reduceNeg, Nat.reduceAdd, Nat.reduceLT, Nat.reduceLeDiff, Nat.reduceMul, Nat.reduceSub, ↓evDraw_nil, bir, putD, evDraw, trace, List.all_cons, List.all_nil, chk, stAt, again, sameV, sameL, sameA, AV.undef, Bool.and_self, Bool.and_true, decide_eq_true_eq, List.getElem?_nil, kM, AV.cells, AV.tup, List.drop_nil, List.append_nil, rdO, St.wr, List.length_cons, List.length_nil, List.take_succ_cons, List.take_zero, List.drop_succ_cons, List.drop_zero, List.cons_append, List.nil_append, Nat.reduceMul, aFill, evParts, rep, List.replicate_succ, List.replicate_zero, List.flatten_cons, List.flatten_nil, List.append_nil, newSl, newVar, hA, r1, r2, r3, w3, r4, r5, r6, hB, gB, hD, r7]
  refine .while (I9 S pt len ot S.next S6.next P q eq ll n) id n ⟨rfl, rfl, rfl, rfl, none, 0, [], K7, by simp⟩ (by show n < k + 129; omega) fun m2 T2 S8 h2 => (round9 k hot hpt (by omega) m2 T2 S8 h2).mono ?_
  intro r T' S' hq
  cases r with
  | normal => exact hq
  | ret => exact absurd hq.1 (by simp)
  | exit x =>
    obtain ⟨hi, t0, t2, t3, t4, p', e', cs, K', hm⟩ := hq
    cases hi
    simp -implicitDefEqProofs only [↓then_exit, ↓blk_exit, ↓then_normal]
    exact tl9_ok k K' hot hpt (fun f x hf hx => rg cs f x (by omega) hf hx) (by rw [hP]) ⟨by omega, hll⟩ t0 t2 t3 fun _ _ _ hx => by
      simp -implicitDefEqProofs -dsimp (maxSteps := 10000000) only [↓kS, after_some, br_true, br_false, kC, ↓kQ, ↓Option.bind_some, ↓Option.map_some, ↓cond_true, ↓cond_false, evC, evOp, XO.lit, setArgs, Tr.tabG, Tr.tabS, Tr.tabL, Tr.get_lf, Option.bind_some, Option.map_some, cond_true, cond_false, maxI, maxFrom, minI, minFrom, aConv, aBinE, aEq, eqScal, aUn, evRes, fin, oneOf, if_true, if_false, callee, reduceCtorEq, Nat.reduceEqDiff, List.getElem?_cons_zero, List.getElem?_cons_succ, beq_self_eq_true, gt_iff_lt, List.head?_cons, AV.undef, eq_self, ne_eq, Int.reduceLT, Int.reduceLE, Int.reduceToNat, Int.reduceEq, Int.reduceNeg, Nat.reduceAdd, Nat.reduceLT, Nat.reduceLeDiff, Nat.reduceMul, Nat.reduceSub, ↓evDraw_nil, bir, putD, evDraw, trace, List.all_cons, List.all_nil, chk, stAt, again, sameV, sameL, sameA, AV.undef, Bool.and_self, Bool.and_true, decide_eq_true_eq, List.getElem?_nil, kM, AV.cells, AV.tup, List.drop_nil, List.append_nil, rdO, St.wr, List.length_cons, List.length_nil, List.take_succ_cons, List.take_zero, List.drop_succ_cons, List.drop_zero, List.cons_append, List.nil_append, Nat.reduceMul, aFill, evParts, rep, List.replicate_succ, List.replicate_zero, List.flatten_cons, List.flatten_nil, List.append_nil, newSl, newVar] at hx
      exact hx
structure I8 (Sb : St) (kk : Int) (m : Nat) (T : Tm) (S : St) : Prop where
  t0 : T.get 0 = some (.int .i64 kk)
  ext : Ext Sb S
  more : ∃ (i : Nat) (p : Option (Nat × Nat × Nat)) (e : Nat) (c : List AV), T.get 4 = some (.int .i64 i) ∧ i + m = 400 ∧ T.get 3 = some (.slice p i e none) ∧ Vec S p i 1 e c ∧ (∀ o v j, p = some (o, v, j) → Sb.next ≤ o) ∧ ∀ j, j < i → Scs [.int .i64] ((c.drop (j * 1)).take 1)
theorem wf64_mk {a : Int} (h0 : -9223372036854775808 ≤ a) (h1 : a ≤ 9223372036854775807) : (Lit.int .i64 a).wf = true := by
  simpa [Lit.wf, IntKind.min, IntKind.max, IntKind.signed, IntKind.bits] using And.intro h0 h1
theorem scs211 (a : Int) : Scs [.int .i64] [.int .i64 (Int.tmod a 211)] := by
  have h1 := Int.tmod_lt_of_pos a (show (0 : Int) < 211 by decide)
  have h2 : -211 < Int.tmod a 211 := by
    rcases Int.le_total 0 a with h | h
    · have := Int.tmod_nonneg 211 h; omega
    · have := Int.tmod_nonneg 211 (show 0 ≤ -a by omega)
      have h3 := Int.tmod_lt_of_pos (-a) (show (0 : Int) < 211 by decide)
      rw [Int.neg_tmod] at this h3; omega
  exact ⟨⟨rfl, wf64_mk (by omega) (by omega)⟩, trivial⟩
set_option maxHeartbeats 4000000 in
theorem round8 (k : Nat) {Sb : St} {kk : Int} (m : Nat) (T : Tm) (S : St) (hI : I8 Sb kk m T S) :
    Goes (evF Y AP (k + 500)) (k + 500) af8_l0 T S (Then (fun T' S' => ∃ m', I8 Sb kk m' T' S' ∧ id m' < id m) fun r T' S' => r = .exit 0 ∧ I8 Sb kk 0 T' S') := by
  obtain ⟨t0, ex, i, p, e, c, t4, hm, t3, V, new, hs⟩ := hI
  by_cases c1 : (i : Int) < 400
  rotate_left
  · obtain rfl : m = 0 := by omega
    simp -implicitDefEqProofs -dsimp (maxSteps := 10000000) only [af8_l0, ↓kS, after_some, br_true, br_false, kC, ↓kQ, ↓Option.bind_some, ↓Option.map_some, ↓cond_true, ↓cond_false, evC, evOp, XO.lit, setArgs, Tr.get_set, Option.bind_some, Option.map_some, cond_true, cond_false, maxI, maxFrom, minI, minFrom, aConv, aBinE, aEq, eqScal, aUn, evRes, fin, oneOf, if_true, if_false, callee, reduceCtorEq, Nat.reduceEqDiff, List.getElem?_cons_zero, List.getElem?_cons_succ, beq_self_eq_true, gt_iff_lt, List.head?_cons, AV.undef, eq_self, ne_eq, Int.reduceLT, Int.reduceLE, Int.reduceToNat, Int.reduceEq, Int.reduceNeg, Nat.reduceAdd, Nat.reduceLT, Nat.reduceLeDiff, Nat.reduceMul, Nat.reduceSub, kM, AV.cells, AV.tup, List.drop_nil, List.append_nil, rdO, St.wr, List.length_cons, List.length_nil, List.take_succ_cons, List.take_zero, List.drop_succ_cons, List.drop_zero, List.cons_append, List.nil_append, Nat.reduceMul, t4, c1]
    refine ⟨?_, ex, i, p, e, c, ?_, hm, ?_, V, new, hs⟩ <;> simp only [Tr.get_set, Nat.reduceEqDiff, if_false, if_true, t0, t3, t4]
  have wi : IntKind.i64.wrap ((i : Int) + 1) = ((i + 1 : Nat) : Int) := w64_id (by omega) (by omega)
  obtain ⟨a, ha⟩ : ∃ a, IntKind.i64.wrap (IntKind.i64.wrap (IntKind.i64.wrap (IntKind.i64.wrap ((i : Int) * i) * 7) + IntKind.i64.wrap (kk * 23)) + IntKind.i64.wrap ((i : Int) * kk)) = a := ⟨_, rfl⟩
  obtain ⟨x, hx⟩ : ∃ x, Int.tmod a 211 = x := ⟨_, rfl⟩
  have sx := scs211 a
  rw [hx] at sx
  have z : ¬ (211 : Int) = 0 := by decide
  obtain ⟨B, hB⟩ : ∃ B, S.alloc (.cells [.int .i64 x] 0 0 true) = B := ⟨_, rfl⟩
  have eB : Ext S B := by rw [← hB]; exact .alloc _ _
  have rB : B.rd S.next 0 0 1 = some [.int .i64 x] := by rw [← hB, rd_alloc, if_pos rfl]; rfl
  obtain ⟨p', S', h1, h2, h3, h4⟩ := (V.ext eB).append (bytes := 8) (xs := [.int .i64 x]) (n := 1) rfl (by decide) (by omega)
  simp -implicitDefEqProofs -dsimp (maxSteps := 10000000) only [af8_l0, ↓kS, after_some, br_true, br_false, kC, ↓kQ, ↓Option.bind_some, ↓Option.map_some, ↓cond_true, ↓cond_false, evC, evOp, XO.lit, setArgs, Tr.get_set, Option.bind_some, Option.map_some, cond_true, cond_false, maxI, maxFrom, minI, minFrom, aConv, aBinE, aEq, eqScal, aUn, evRes, fin, oneOf, if_true, if_false, callee, reduceCtorEq, Nat.reduceEqDiff, List.getElem?_cons_zero, List.getElem?_cons_succ, beq_self_eq_true, gt_iff_lt, List.head?_cons, AV.undef, eq_self, ne_eq, Int.reduceLT, Int.reduceLE, Int.reduceToNat, Int.reduceEq, Int.reduceNeg, Nat.reduceAdd, Nat.reduceLT, Nat.reduceLeDiff, Nat.reduceMul, Nat.reduceSub, ↓evDraw_nil, bir, putD, evDraw, trace, List.all_cons, List.all_nil, chk, stAt, again, sameV, sameL, sameA, AV.undef, Bool.and_self, Bool.and_true, decide_eq_true_eq, List.getElem?_nil, kM, AV.cells, AV.tup, List.drop_nil, List.append_nil, rdO, St.wr, List.length_cons, List.length_nil, List.take_succ_cons, List.take_zero, List.drop_succ_cons, List.drop_zero, List.cons_append, List.nil_append, Nat.reduceMul, aFill, evParts, rep, List.replicate_succ, List.replicate_zero, List.flatten_cons, List.flatten_nil, List.append_nil, newSl, newVar, t0, t3, t4, c1, ha, hx, z, hB, Nat.mul_one, rB, h1, wi]
  refine ⟨m - 1, ⟨?_, ?_, i + 1, p', 1, c ++ [.int .i64 x], ?_, by omega, ?_, h2, ?_, Scs_snoc (ks := [.int .i64]) V.sz hs sx⟩, by show m - 1 < m; omega⟩
  · simp only [Tr.get_set, Nat.reduceEqDiff, if_false, if_true, t0]
  · have e1 := ex.trans eB
    exact ⟨Nat.le_trans e1.next h3.next, fun o ho => (h3.old o (Nat.lt_of_lt_of_le ho e1.next) fun v i hp => by have := new o v i hp; omega).trans (e1.old o ho)⟩
  · simp only [Tr.get_set, Nat.reduceEqDiff, if_false, if_true]
  · simp only [Tr.get_set, Nat.reduceEqDiff, if_false, if_true]
  · intro o v j hp
    rcases h4 o v j hp with h5 | ⟨v', i', h5⟩
    · have := ex.next; have := eB.next; omega
    · exact new _ _ _ h5
set_option maxHeartbeats 4000000 in
/-- tape -/
theorem T8 (k : Nat) (S : St) (kk : Int) :
    ∃ p e S', evF Y AP (k + 501) 8 [.int .i64 kk] S = some (.slice p 400 e none, S') ∧ e = 1 ∧ Sl S' p 400 [.int .i64] ∧ (∀ o v j, p = some (o, v, j) → S.next ≤ o ∧ o < S'.next) ∧ Ext S S' := by
  suffices hh : ∃ w S', evF Y AP (k + 501) 8 [.int .i64 kk] S = some (w, S') ∧ ∃ p e, w = .slice p 400 e none ∧ e = 1 ∧ Sl S' p 400 [.int .i64] ∧ (∀ o v j, p = some (o, v, j) → S.next ≤ o ∧ o < S'.next) ∧ Ext S S' by
    obtain ⟨w, S', h1, p, e, rfl, h2⟩ := hh; exact ⟨p, e, S', h1, h2⟩
  refine evF_goes (af := af8) (k := k + 500) rfl rfl rfl ?_
  simp -implicitDefEqProofs -dsimp (maxSteps := 10000000) only [af8, ↓kS, after_some, br_true, br_false, kC, ↓kQ, ↓Option.bind_some, ↓Option.map_some, ↓cond_true, ↓cond_false, evC, evOp, XO.lit, setArgs, Tr.tabG, Tr.tabS, Tr.tabL, Tr.get_lf, Option.bind_some, Option.map_some, cond_true, cond_false, maxI, maxFrom, minI, minFrom, aConv, aBinE, aEq, eqScal, aUn, evRes, fin, oneOf, if_true, if_false, callee, reduceCtorEq, Nat.reduceEqDiff, List.getElem?_cons_zero, List.getElem?_cons_succ, beq_self_eq_true, gt_iff_lt, List.head?_cons, AV.undef, eq_self, ne_eq, Int.reduceLT, Int.reduceLE, Int.reduceToNat, Int.reduceEq, Int.reduceNeg, Nat.reduceAdd, Nat.reduceLT, Nat.reduceLeDiff, Nat.reduceMul, Nat.reduceSub, ↓evDraw_nil, bir, putD, evDraw, trace, List.all_cons, List.all_nil, chk, stAt, again, sameV, sameL, sameA, AV.undef, Bool.and_self, Bool.and_true, decide_eq_true_eq, List.getElem?_nil, kM, AV.cells, AV.tup, List.drop_nil, List.append_nil, rdO, St.wr, List.length_cons, List.length_nil, List.take_succ_cons, List.take_zero, List.drop_succ_cons, List.drop_zero, List.cons_append, List.nil_append, Nat.reduceMul, aFill, evParts, rep, List.replicate_succ, List.replicate_zero, List.flatten_cons, List.flatten_nil, List.append_nil, newSl, newVar]
  refine .while (I8 S kk) id 400 ⟨rfl, .refl S, 0, none, 0, [], rfl, rfl, rfl, .nil _ _ _, fun _ _ _ hp => (by cases hp), fun _ h => (by omega)⟩ (by show 400 < k + 500; omega) fun m2 T2 S5 h2 => (round8 k m2 T2 S5 h2).mono ?_
  intro r T' S' hq
  cases r with
  | normal => exact hq
  | ret => exact absurd hq.1 (by simp)
  | exit x =>
    obtain ⟨hi, t0, ex, i, p, e, c, t4, hm, t3, V, new, hs⟩ := hq
    cases hi
    obtain rfl : i = 400 := by omega
    simp -implicitDefEqProofs -dsimp (maxSteps := 10000000) only [↓kS, after_some, br_true, br_false, kC, ↓kQ, ↓Option.bind_some, ↓Option.map_some, ↓cond_true, ↓cond_false, evC, evOp, XO.lit, setArgs, Tr.get_set, Option.bind_some, Option.map_some, cond_true, cond_false, maxI, maxFrom, minI, minFrom, aConv, aBinE, aEq, eqScal, aUn, evRes, fin, oneOf, if_true, if_false, callee, reduceCtorEq, Nat.reduceEqDiff, List.getElem?_cons_zero, List.getElem?_cons_succ, beq_self_eq_true, gt_iff_lt, List.head?_cons, AV.undef, eq_self, ne_eq, Int.reduceLT, Int.reduceLE, Int.reduceToNat, Int.reduceEq, Int.reduceNeg, Nat.reduceAdd, Nat.reduceLT, Nat.reduceLeDiff, Nat.reduceMul, Nat.reduceSub, ↓evDraw_nil, bir, putD, evDraw, trace, List.all_cons, List.all_nil, chk, stAt, again, sameV, sameL, sameA, AV.undef, Bool.and_self, Bool.and_true, decide_eq_true_eq, List.getElem?_nil, kM, AV.cells, AV.tup, List.drop_nil, List.append_nil, rdO, St.wr, List.length_cons, List.length_nil, List.take_succ_cons, List.take_zero, List.drop_succ_cons, List.drop_zero, List.cons_append, List.nil_append, Nat.reduceMul, t3]
    refine ⟨_, _, rfl, p, e, rfl, ?_, V.sl (ks := [.int .i64]) (by omega) hs, fun o v j hp => ⟨new o v j hp, ?_⟩, ex⟩
    · rcases V.at_ with ⟨_, h0⟩ | ⟨o, ver, minv, rfl, _⟩
      · exact absurd h0 (by decide)
      · exact V.ez.resolve_left (by simp)
    · rcases V.at_ with ⟨_, h0⟩ | ⟨o', ver, minv, hp', ho, _⟩
      · exact absurd h0 (by decide)
      · rw [hp] at hp'; cases hp'; exact ho
/-! ### A packet with one thing turned -/
theorem m31 (x : Int) : Go.bits .and .i64 x 31 = x % 32 := and_i64 5 (by decide) x
theorem m2047 (x : Int) : Go.bits .and .i64 x 2047 = x % 2048 := and_i64 11 (by decide) x
theorem uv_rep (j : Nat) : (List.replicate j [AV.int .u32 0]).flatten = uv (List.replicate j 0) := by
  induction j with
  | zero => rfl
  | succ j ih => rw [List.replicate_succ, List.flatten_cons, ih, List.replicate_succ]; rfl
theorem bv_rep (j : Nat) : (List.replicate j [AV.int .u8 0]).flatten = bv (List.replicate j 0) := by
  induction j with
  | zero => rfl
  | succ j ih => rw [List.replicate_succ, List.flatten_cons, ih, List.replicate_succ]; rfl
/-- A new row of bytes. -/
theorem By.new (S : St) {l : List Nat} (hb : Byt l) (hl : l.length ≤ 9223372036854775807) : By (S.alloc (.cells (bv l) 0 0 true)) (some (S.next, 0, 0)) 1 l := by
  refine ⟨.inr rfl, fun h => (by cases h), fun o v i h => ?_, hb, hl⟩
  cases h
  refine ⟨Nat.lt_succ_self _, ?_⟩
  have h := rd_cells (S := S.alloc (.cells (bv l) 0 0 true)) (o := S.next) (i := 0) (n := l.length) (by rw [St.get_alloc, if_pos rfl]) (Nat.le_refl _) (by rw [bv_len]; omega)
  rw [h, List.drop_zero, List.take_of_length_le (by rw [bv_len]; exact Nat.le_refl _)]
theorem Ur.new (S : St) {l : List Int} (hb : Wrd l) (hl : l.length ≤ 9223372036854775807) : Ur (S.alloc (.cells (uv l) 0 0 true)) (some (S.next, 0, 0)) 1 l := by
  refine ⟨.inr rfl, fun h => (by cases h), fun o v i h => ?_, hb, hl⟩
  cases h
  refine ⟨Nat.lt_succ_self _, ?_⟩
  have h := rd_cells (S := S.alloc (.cells (uv l) 0 0 true)) (o := S.next) (i := 0) (n := l.length) (by rw [St.get_alloc, if_pos rfl]) (Nat.le_refl _) (by rw [uv_len]; omega)
  rw [h, List.drop_zero, List.take_of_length_le (by rw [uv_len]; exact Nat.le_refl _)]
theorem Old.ur {N : Nat → Prop} {S S' : St} (h : Old N S S') {p : Option (Nat × Nat × Nat)} {e : Nat} {l : List Int} (b : Ur S p e l) (hn : ∀ o v i, p = some (o, v, i) → ¬ N o) : Ur S' p e l :=
  ⟨b.ez, b.nil, fun o v i hp => by
    obtain ⟨h1, h2⟩ := b.at_ o v i hp
    refine ⟨Nat.lt_of_lt_of_le h1 h.1, ?_⟩
    unfold St.rd at h2 ⊢
    rw [h.2 o h1 (hn o v i hp)]
    exact h2, b.bd, b.mx⟩
section
variable {S : St} {p : Pk} {c e l : AV}
set_option maxHeartbeats 16000000 in
/-- odd -/
theorem T11 (k : Nat) (h : Pv S p c e l) (hx : p.ex.length ≤ 1000000) {what n : Int} (hn : I64 n) :
    ∃ p' c' e' l' S', evF Y AP (k + 30) 11 [.agg (pkc p c e l), .int .i64 what, .int .i64 n] S = some (.agg (pkc p' c' e' l'), S') ∧ Pv S' p' c' e' l' ∧ Ext S S' ∧ p'.cs.length ≤ p.cs.length + 31 ∧ p'.ex.length ≤ p.ex.length + 1 ∧ p'.pl.length ≤ p.pl.length + 2047 := by
  suffices hh : ∃ w S', evF Y AP (k + 30) 11 [.agg (pkc p c e l), .int .i64 what, .int .i64 n] S = some (w, S') ∧ ∃ p' c' e' l', w = .agg (pkc p' c' e' l') ∧ Pv S' p' c' e' l' ∧ Ext S S' ∧ p'.cs.length ≤ p.cs.length + 31 ∧ p'.ex.length ≤ p.ex.length + 1 ∧ p'.pl.length ≤ p.pl.length + 2047 by
    obtain ⟨w, S', h1, p', c', e', l', rfl, h2⟩ := hh; exact ⟨p', c', e', l', S', h1, h2⟩
  obtain ⟨A, hA⟩ : ∃ A, (S.alloc (.cells (pkc p c e l) 0 0 true)).alloc (.cells [.bool false, .int .i64 0, .int .u16 0, .int .u32 0, .int .u32 0, .slice none 0 0 none, .int .u16 0, .slice none 0 0 none, .slice none 0 0 none] 0 0 true) = A := ⟨_, rfl⟩
  have eA : Ext S A := by rw [← hA]; exact (Ext.alloc _ _).then_alloc _
  have nA : A.next = S.next + 2 := by rw [← hA]; rfl
  have g3 : A.get S.next = some (.cells (pkc p c e l) 0 0 true) := by rw [← hA, St.get_alloc, if_neg (show ¬ S.next = (S.alloc (.cells (pkc p c e l) 0 0 true)).next from (show ¬ S.next = S.next + 1 by omega)), St.get_alloc, if_pos rfl]
  have g6 : A.get (S.next + 1) = some (.cells [.bool false, .int .i64 0, .int .u16 0, .int .u32 0, .int .u32 0, .slice none 0 0 none, .int .u16 0, .slice none 0 0 none, .slice none 0 0 none] 0 0 true) := by rw [← hA, St.get_alloc]; exact if_pos rfl
  have r15 : evF Y AP (k + 29) 15 [.int .i64 what, .int .i64 0, .int .i64 5] A = some (.int .i64 (within what 0 5), A) := T15 (k + 25) A (by decide) (by decide) (by decide)
  have bw := within_bd what (show (0 : Int) ≤ 5 by decide)
  obtain ⟨y, hy⟩ : ∃ y, within what 0 5 = y := ⟨_, rfl⟩
  rw [hy] at r15 bw
  have ne1 : ¬ S.next = S.next + 1 := by omega
  have ne2 : ¬ S.next + 1 = S.next := by omega
  -- the end: what lies in the first place is laid into the second
  have xF : ∀ {X : St}, Ext A X → ∀ y z : AO, Ext S ((X.put S.next y).put (S.next + 1) z) := fun x y z => ((eA.trans x).then_put (Nat.le_refl _) _).then_put (by omega) _
  have oF : ∀ (X : St) (y z : AO), Old (N2 S.next (S.next + 1)) X ((X.put S.next y).put (S.next + 1) z) := fun X y z => (Old.put (N := N2 S.next (S.next + 1)) X (.inl rfl) y).trans (.put (N := N2 S.next (S.next + 1)) _ (.inr rfl) z)
  have nN : ∀ o, A.next ≤ o → ¬ N2 S.next (S.next + 1) o := fun o ho hN => by rcases hN with rfl | rfl <;> omega
  have hy6 : y = 0 ∨ y = 1 ∨ y = 2 ∨ y = 3 ∨ y = 4 ∨ y = 5 := by omega
  rw [evF_body (af := af11) rfl rfl rfl]
  rcases hy6 with rfl | rfl | rfl | rfl | rfl | rfl
  · simp -implicitDefEqProofs -dsimp (maxSteps := 10000000) only [af11, kC, ↓kQ, ↓Option.bind_some, ↓Option.map_some, ↓cond_true, ↓cond_false, evC, evOp, XO.lit, setArgs, Tr.tabG, Tr.tabS, Tr.tabL, Tr.get_lf, Option.bind_some, Option.map_some, cond_true, cond_false, maxI, maxFrom, minI, minFrom, aConv, aBinE, aEq, eqScal, aUn, evRes, fin, oneOf, if_true, if_false, callee, reduceCtorEq, Nat.reduceEqDiff, List.getElem?_cons_zero, List.getElem?_cons_succ, beq_self_eq_true, gt_iff_lt, List.head?_cons, AV.undef, eq_self, ne_eq, Int.reduceLT, Int.reduceLE, Int.reduceToNat, Int.reduceEq, Int.reduceNeg, Nat.reduceAdd, Nat.reduceLT, Nat.reduceLeDiff, Nat.reduceMul, Nat.reduceSub, ↓evDraw_nil, bir, putD, evDraw, trace, List.all_cons, List.all_nil, chk, stAt, again, sameV, sameL, sameA, AV.undef, Bool.and_self, Bool.and_true, decide_eq_true_eq, List.getElem?_nil, kM, AV.cells, AV.tup, List.drop_nil, List.append_nil, rdO, St.wr, List.length_cons, List.length_nil, List.take_succ_cons, List.take_zero, List.drop_succ_cons, List.drop_zero, List.cons_append, List.nil_append, Nat.reduceMul, aFill, evParts, rep, List.replicate_succ, List.replicate_zero, List.flatten_cons, List.flatten_nil, List.append_nil, newSl, newVar, hA, r15, g3, g6, ne1, ne2]
    have x := xF (.refl A) (.cells (pkc { p with ty := n } c e l) 0 0 true) (.cells (pkc { p with ty := n } c e l) 0 0 true)
    exact ⟨_, _, rfl, { p with ty := n }, c, e, l, rfl, ⟨h.c.ext x, h.e.ext x, h.l.ext x, hn, h.sq, h.tm, h.ss, h.pf, h.cl, h.el, h.ll⟩, x, Nat.le_add_right _ _, Nat.le_add_right _ _, Nat.le_add_right _ _⟩
  · obtain ⟨j, hj⟩ : ∃ j : Nat, n % 32 = (j : Int) := ⟨(n % 32).toNat, by omega⟩
    have m := m31 n
    rw [hj] at m
    have z1 := eq_true (show (0 : Int) ≤ (j : Int) by omega)
    have z2 := eq_true (show (j : Int) ≤ (j : Int) by omega)
    have z3 := eq_true (show (j : Int) * ((4 : Nat) : Int) ≤ 281474976710656 by omega)
    obtain ⟨B, hB⟩ : ∃ B, A.alloc (.cells (List.replicate j [AV.int .u32 0]).flatten 0 0 true) = B := ⟨_, rfl⟩
    have eB : Ext A B := by rw [← hB]; exact .alloc _ _
    have g3B := eB.get (by omega) g3
    have g6B := eB.get (by omega) g6
    have bB : Ur B (some (A.next, 0, 0)) 1 (List.replicate j 0) := by rw [← hB, uv_rep]; exact .new A (fun y hy => by rw [(List.mem_replicate.1 hy).2]; decide) (by rw [List.length_replicate]; omega)
    simp -implicitDefEqProofs -dsimp (maxSteps := 10000000) only [af11, kC, ↓kQ, ↓Option.bind_some, ↓Option.map_some, ↓cond_true, ↓cond_false, evC, evOp, XO.lit, setArgs, Tr.tabG, Tr.tabS, Tr.tabL, Tr.get_lf, Option.bind_some, Option.map_some, cond_true, cond_false, maxI, maxFrom, minI, minFrom, aConv, aBinE, aEq, eqScal, aUn, evRes, fin, oneOf, if_true, if_false, callee, reduceCtorEq, Nat.reduceEqDiff, List.getElem?_cons_zero, List.getElem?_cons_succ, beq_self_eq_true, gt_iff_lt, List.head?_cons, AV.undef, eq_self, ne_eq, Int.reduceLT, Int.reduceLE, Int.reduceToNat, Int.reduceEq, Int.reduceNeg, Nat.reduceAdd, Nat.reduceLT, Nat.reduceLeDiff, Nat.reduceMul, Nat.reduceSub, ↓evDraw_nil, bir, putD, evDraw, trace, List.all_cons, List.all_nil, chk, stAt, again, sameV, sameL, sameA, AV.undef, Bool.and_self, Bool.and_true, decide_eq_true_eq, List.getElem?_nil, kM, AV.cells, AV.tup, List.drop_nil, List.append_nil, rdO, St.wr, List.length_cons, List.length_nil, List.take_succ_cons, List.take_zero, List.drop_succ_cons, List.drop_zero, List.cons_append, List.nil_append, Nat.reduceMul, aFill, evParts, rep, List.replicate_succ, List.replicate_zero, List.flatten_cons, List.flatten_nil, List.append_nil, newSl, newVar, hA, r15, m, z1, z2, z3, Int.toNat_natCast, hB, g3B, g6B, ne1, ne2]
    have x := xF eB (.cells (pkc p (.slice (some (A.next, 0, 0)) j 1 none) e l) 0 0 true) (.cells (pkc p (.slice (some (A.next, 0, 0)) j 1 none) e l) 0 0 true)
    refine ⟨_, _, rfl, { p with cs := List.replicate j 0 }, .slice (some (A.next, 0, 0)) j 1 none, e, l, rfl, ⟨⟨some (A.next, 0, 0), 1, none, by show _ = AV.slice _ (List.replicate j 0).length _ _; rw [List.length_replicate], (oF B _ _).ur bB fun o v i hp => by cases hp; exact nN _ (Nat.le_refl _)⟩, h.e.ext x, h.l.ext x, h.ty, h.sq, h.tm, h.ss, h.pf, by show (List.replicate j 0).length ≤ _; rw [List.length_replicate]; omega, h.el, h.ll⟩, x, by show (List.replicate j 0).length ≤ _; rw [List.length_replicate]; omega, Nat.le_add_right _ _, Nat.le_add_right _ _⟩
  · obtain ⟨pe, ee, ce, rfl, be_⟩ := h.e
    obtain ⟨B, hB⟩ : ∃ B, A.alloc (.cells [] 0 0 true) = B := ⟨_, rfl⟩
    have eB : Ext A B := by rw [← hB]; exact .alloc _ _
    have r3B : ∀ v i m, B.rd S.next v i m = rdO (.cells (pkc p c (.slice pe p.ex.length ee ce) l) 0 0 true) v i m := rd_of (eB.get (by omega) g3)
    have beA := be_.ext (eA.trans eB)
    obtain ⟨p1, e1, S1, q1, G1⟩ := (Gr.empty A).app (m := p.ex) be_.bd (by simp only [List.length_nil]; omega)
    rw [List.nil_append, hB] at q1
    rw [List.nil_append] at G1
    have q1 : aAppend 1 1 B (.slice (some (A.next, 0, 0)) 0 1 none) p.ex.length (bv p.ex) = _ := q1
    obtain ⟨C, hC⟩ : ∃ C, S1.alloc (.cells [.int .u8 1] 0 0 true) = C := ⟨_, rfl⟩
    have eC : Ext S1 C := by rw [← hC]; exact .alloc _ _
    have rC : C.rd S1.next 0 0 1 = some [.int .u8 1] := by rw [← hC, rd_alloc, if_pos rfl]; rfl
    obtain ⟨p2, e2, S2, q2, G2⟩ := (G1.more eC).app1 (b := 1) (by decide) (by omega)
    have q2 : aAppend 1 1 C (.slice p1 p.ex.length e1 none) 1 [.int .u8 1] = some (.slice p2 (p.ex.length + 1) e2 none, S2) := q2
    have g32 := G2.ext.get (by omega) g3
    have g62 := G2.ext.get (by omega) g6
    have hl2 : (p.ex ++ [1]).length = p.ex.length + 1 := by rw [List.length_append]; rfl
    have b2 := G2.by_ (by rw [hl2]; omega)
    have x := xF G2.ext (.cells (pkc p c (.slice p2 (p.ex.length + 1) e2 none) l) 0 0 true) (.cells (pkc p c (.slice p2 (p.ex.length + 1) e2 none) l) 0 0 true)
    have fin_ : Pv ((S2.put S.next (.cells (pkc p c (.slice p2 (p.ex.length + 1) e2 none) l) 0 0 true)).put (S.next + 1) (.cells (pkc p c (.slice p2 (p.ex.length + 1) e2 none) l) 0 0 true)) { p with ex := p.ex ++ [1] } c (.slice p2 (p.ex.length + 1) e2 none) l :=
      ⟨h.c.ext x, ⟨p2, e2, none, by show _ = AV.slice _ (p.ex ++ [1]).length _ _; rw [hl2], (oF S2 _ _).by_ b2 fun o v i hp => nN _ (G2.new o v i hp)⟩, h.l.ext x, h.ty, h.sq, h.tm, h.ss, h.pf, h.cl, by show (p.ex ++ [1]).length ≤ _; rw [hl2]; omega, h.ll⟩
    rcases pe with _ | ⟨oo, vv, ii⟩
    · have hx0 := be_.nil rfl
      have hx0l : p.ex.length = 0 := by rw [hx0]; rfl
      have q1 : aAppend 1 1 B (.slice (some (A.next, 0, 0)) 0 1 none) 0 [] = some (.slice p1 p.ex.length e1 none, S1) := by rw [hx0] at q1 ⊢; exact q1
      simp -implicitDefEqProofs -dsimp (maxSteps := 10000000) only [af11, kC, ↓kQ, ↓Option.bind_some, ↓Option.map_some, ↓cond_true, ↓cond_false, evC, evOp, XO.lit, setArgs, Tr.tabG, Tr.tabS, Tr.tabL, Tr.get_lf, Option.bind_some, Option.map_some, cond_true, cond_false, maxI, maxFrom, minI, minFrom, aConv, aBinE, aEq, eqScal, aUn, evRes, fin, oneOf, if_true, if_false, callee, reduceCtorEq, Nat.reduceEqDiff, List.getElem?_cons_zero, List.getElem?_cons_succ, beq_self_eq_true, gt_iff_lt, List.head?_cons, AV.undef, eq_self, ne_eq, Int.reduceLT, Int.reduceLE, Int.reduceToNat, Int.reduceEq, Int.reduceNeg, Nat.reduceAdd, Nat.reduceLT, Nat.reduceLeDiff, Nat.reduceMul, Nat.reduceSub, ↓evDraw_nil, bir, putD, evDraw, trace, List.all_cons, List.all_nil, chk, stAt, again, sameV, sameL, sameA, AV.undef, Bool.and_self, Bool.and_true, decide_eq_true_eq, List.getElem?_nil, kM, AV.cells, AV.tup, List.drop_nil, List.append_nil, rdO, St.wr, List.length_cons, List.length_nil, List.take_succ_cons, List.take_zero, List.drop_succ_cons, List.drop_zero, List.cons_append, List.nil_append, Nat.reduceMul, aFill, evParts, rep, List.replicate_succ, List.replicate_zero, List.flatten_cons, List.flatten_nil, List.append_nil, newSl, newVar, hA, r15, hB, r3B, q1, hC, rC, q2, Nat.mul_one, g32, g62, ne1, ne2]
      exact ⟨_, _, rfl, { p with ex := p.ex ++ [1] }, c, _, l, rfl, fin_, x, Nat.le_add_right _ _, by show (p.ex ++ [1]).length ≤ _; rw [hl2]; omega, Nat.le_add_right _ _⟩
    · obtain rfl := be_.ez.resolve_left (by simp)
      have hr := (beA.at_ oo vv ii rfl).2
      simp -implicitDefEqProofs -dsimp (maxSteps := 10000000) only [af11, kC, ↓kQ, ↓Option.bind_some, ↓Option.map_some, ↓cond_true, ↓cond_false, evC, evOp, XO.lit, setArgs, Tr.tabG, Tr.tabS, Tr.tabL, Tr.get_lf, Option.bind_some, Option.map_some, cond_true, cond_false, maxI, maxFrom, minI, minFrom, aConv, aBinE, aEq, eqScal, aUn, evRes, fin, oneOf, if_true, if_false, callee, reduceCtorEq, Nat.reduceEqDiff, List.getElem?_cons_zero, List.getElem?_cons_succ, beq_self_eq_true, gt_iff_lt, List.head?_cons, AV.undef, eq_self, ne_eq, Int.reduceLT, Int.reduceLE, Int.reduceToNat, Int.reduceEq, Int.reduceNeg, Nat.reduceAdd, Nat.reduceLT, Nat.reduceLeDiff, Nat.reduceMul, Nat.reduceSub, ↓evDraw_nil, bir, putD, evDraw, trace, List.all_cons, List.all_nil, chk, stAt, again, sameV, sameL, sameA, AV.undef, Bool.and_self, Bool.and_true, decide_eq_true_eq, List.getElem?_nil, kM, AV.cells, AV.tup, List.drop_nil, List.append_nil, rdO, St.wr, List.length_cons, List.length_nil, List.take_succ_cons, List.take_zero, List.drop_succ_cons, List.drop_zero, List.cons_append, List.nil_append, Nat.reduceMul, aFill, evParts, rep, List.replicate_succ, List.replicate_zero, List.flatten_cons, List.flatten_nil, List.append_nil, newSl, newVar, hA, r15, hB, r3B, Nat.mul_one, hr, q1, hC, rC, q2, g32, g62, ne1, ne2]
      exact ⟨_, _, rfl, { p with ex := p.ex ++ [1] }, c, _, l, rfl, fin_, x, Nat.le_add_right _ _, by show (p.ex ++ [1]).length ≤ _; rw [hl2]; omega, Nat.le_add_right _ _⟩
  · simp -implicitDefEqProofs -dsimp (maxSteps := 10000000) only [af11, kC, ↓kQ, ↓Option.bind_some, ↓Option.map_some, ↓cond_true, ↓cond_false, evC, evOp, XO.lit, setArgs, Tr.tabG, Tr.tabS, Tr.tabL, Tr.get_lf, Option.bind_some, Option.map_some, cond_true, cond_false, maxI, maxFrom, minI, minFrom, aConv, aBinE, aEq, eqScal, aUn, evRes, fin, oneOf, if_true, if_false, callee, reduceCtorEq, Nat.reduceEqDiff, List.getElem?_cons_zero, List.getElem?_cons_succ, beq_self_eq_true, gt_iff_lt, List.head?_cons, AV.undef, eq_self, ne_eq, Int.reduceLT, Int.reduceLE, Int.reduceToNat, Int.reduceEq, Int.reduceNeg, Nat.reduceAdd, Nat.reduceLT, Nat.reduceLeDiff, Nat.reduceMul, Nat.reduceSub, ↓evDraw_nil, bir, putD, evDraw, trace, List.all_cons, List.all_nil, chk, stAt, again, sameV, sameL, sameA, AV.undef, Bool.and_self, Bool.and_true, decide_eq_true_eq, List.getElem?_nil, kM, AV.cells, AV.tup, List.drop_nil, List.append_nil, rdO, St.wr, List.length_cons, List.length_nil, List.take_succ_cons, List.take_zero, List.drop_succ_cons, List.drop_zero, List.cons_append, List.nil_append, Nat.reduceMul, aFill, evParts, rep, List.replicate_succ, List.replicate_zero, List.flatten_cons, List.flatten_nil, List.append_nil, newSl, newVar, hA, r15, g3, g6, ne1, ne2]
    have x := xF (.refl A) (.cells (pkc { p with pf := IntKind.u16.wrap n } c e l) 0 0 true) (.cells (pkc { p with pf := IntKind.u16.wrap n } c e l) 0 0 true)
    exact ⟨_, _, rfl, { p with pf := IntKind.u16.wrap n }, c, e, l, rfl, ⟨h.c.ext x, h.e.ext x, h.l.ext x, h.ty, h.sq, h.tm, h.ss, by show 0 ≤ IntKind.u16.wrap n ∧ IntKind.u16.wrap n < 65536; have : IntKind.u16.wrap n = n % 65536 := rfl; rw [this]; omega, h.cl, h.el, h.ll⟩, x, Nat.le_add_right _ _, Nat.le_add_right _ _, Nat.le_add_right _ _⟩
  · obtain ⟨j, hj⟩ : ∃ j : Nat, n % 2048 = (j : Int) := ⟨(n % 2048).toNat, by omega⟩
    have m := m2047 n
    rw [hj] at m
    have z1 := eq_true (show (0 : Int) ≤ (j : Int) by omega)
    have z2 := eq_true (show (j : Int) ≤ (j : Int) by omega)
    have z3 := eq_true (show (j : Int) * ((1 : Nat) : Int) ≤ 281474976710656 by omega)
    obtain ⟨B, hB⟩ : ∃ B, A.alloc (.cells (List.replicate j [AV.int .u8 0]).flatten 0 0 true) = B := ⟨_, rfl⟩
    have eB : Ext A B := by rw [← hB]; exact .alloc _ _
    have g3B := eB.get (by omega) g3
    have g6B := eB.get (by omega) g6
    have bB : By B (some (A.next, 0, 0)) 1 (List.replicate j 0) := by rw [← hB, bv_rep]; exact .new A (byt_rep j) (by rw [List.length_replicate]; omega)
    simp -implicitDefEqProofs -dsimp (maxSteps := 10000000) only [af11, kC, ↓kQ, ↓Option.bind_some, ↓Option.map_some, ↓cond_true, ↓cond_false, evC, evOp, XO.lit, setArgs, Tr.tabG, Tr.tabS, Tr.tabL, Tr.get_lf, Option.bind_some, Option.map_some, cond_true, cond_false, maxI, maxFrom, minI, minFrom, aConv, aBinE, aEq, eqScal, aUn, evRes, fin, oneOf, if_true, if_false, callee, reduceCtorEq, Nat.reduceEqDiff, List.getElem?_cons_zero, List.getElem?_cons_succ, beq_self_eq_true, gt_iff_lt, List.head?_cons, AV.undef, eq_self, ne_eq, Int.reduceLT, Int.reduceLE, Int.reduceToNat, Int.reduceEq, Int.reduceNeg, Nat.reduceAdd, Nat.reduceLT, Nat.reduceLeDiff, Nat.reduceMul, Nat.reduceSub, ↓evDraw_nil, bir, putD, evDraw, trace, List.all_cons, List.all_nil, chk, stAt, again, sameV, sameL, sameA, AV.undef, Bool.and_self, Bool.and_true, decide_eq_true_eq, List.getElem?_nil, kM, AV.cells, AV.tup, List.drop_nil, List.append_nil, rdO, St.wr, List.length_cons, List.length_nil, List.take_succ_cons, List.take_zero, List.drop_succ_cons, List.drop_zero, List.cons_append, List.nil_append, Nat.reduceMul, aFill, evParts, rep, List.replicate_succ, List.replicate_zero, List.flatten_cons, List.flatten_nil, List.append_nil, newSl, newVar, hA, r15, m, z1, z2, z3, Int.toNat_natCast, hB, g3B, g6B, ne1, ne2]
    have x := xF eB (.cells (pkc p c e (.slice (some (A.next, 0, 0)) j 1 none)) 0 0 true) (.cells (pkc p c e (.slice (some (A.next, 0, 0)) j 1 none)) 0 0 true)
    refine ⟨_, _, rfl, { p with pl := List.replicate j 0 }, c, e, .slice (some (A.next, 0, 0)) j 1 none, rfl, ⟨h.c.ext x, h.e.ext x, ⟨some (A.next, 0, 0), 1, none, by show _ = AV.slice _ (List.replicate j 0).length _ _; rw [List.length_replicate], (oF B _ _).by_ bB fun o v i hp => by cases hp; exact nN _ (Nat.le_refl _)⟩, h.ty, h.sq, h.tm, h.ss, h.pf, h.cl, h.el, by show (List.replicate j 0).length ≤ _; rw [List.length_replicate]; omega⟩, x, Nat.le_add_right _ _, Nat.le_add_right _ _, by show (List.replicate j 0).length ≤ _; rw [List.length_replicate]; omega⟩
  · simp -implicitDefEqProofs -dsimp (maxSteps := 10000000) only [af11, kC, ↓kQ, ↓Option.bind_some, ↓Option.map_some, ↓cond_true, ↓cond_false, evC, evOp, XO.lit, setArgs, Tr.tabG, Tr.tabS, Tr.tabL, Tr.get_lf, Option.bind_some, Option.map_some, cond_true, cond_false, maxI, maxFrom, minI, minFrom, aConv, aBinE, aEq, eqScal, aUn, evRes, fin, oneOf, if_true, if_false, callee, reduceCtorEq, Nat.reduceEqDiff, List.getElem?_cons_zero, List.getElem?_cons_succ, beq_self_eq_true, gt_iff_lt, List.head?_cons, AV.undef, eq_self, ne_eq, Int.reduceLT, Int.reduceLE, Int.reduceToNat, Int.reduceEq, Int.reduceNeg, Nat.reduceAdd, Nat.reduceLT, Nat.reduceLeDiff, Nat.reduceMul, Nat.reduceSub, ↓evDraw_nil, bir, putD, evDraw, trace, List.all_cons, List.all_nil, chk, stAt, again, sameV, sameL, sameA, AV.undef, Bool.and_self, Bool.and_true, decide_eq_true_eq, List.getElem?_nil, kM, AV.cells, AV.tup, List.drop_nil, List.append_nil, rdO, St.wr, List.length_cons, List.length_nil, List.take_succ_cons, List.take_zero, List.drop_succ_cons, List.drop_zero, List.cons_append, List.nil_append, Nat.reduceMul, aFill, evParts, rep, List.replicate_succ, List.replicate_zero, List.flatten_cons, List.flatten_nil, List.append_nil, newSl, newVar, hA, r15, g3, g6, ne1, ne2]
    have x : ∀ y1 y2 z : AO, Ext S (((A.put S.next y1).put S.next y2).put (S.next + 1) z) := fun y1 y2 z => ((eA.then_put (Nat.le_refl _) _).then_put (Nat.le_refl _) _).then_put (by omega) _
    exact ⟨_, _, rfl, { p with pf := 0, ex := [] }, c, .slice none 0 0 none, l, rfl, ⟨h.c.ext (x _ _ _), .zero _ _, h.l.ext (x _ _ _), h.ty, h.sq, h.tm, h.ss, ⟨by show (0 : Int) ≤ 0; omega, by show (0 : Int) < 65536; omega⟩, h.cl, Nat.zero_le _, h.ll⟩, x _ _ _, Nat.le_add_right _ _, Nat.zero_le _, Nat.le_add_right _ _⟩
end
end Go.Proofs.YthejkmfmcjpfhaaA
