/- Chapter 3: RtpTells. -/
import Derived.Test.YthejkmfmcjpfhaaRpV
import Derived.Test.YthejkmfmcjpfhaaStA
set_option linter.unusedVariables false
set_option linter.unusedSimpArgs false
set_option maxRecDepth 10000
namespace Go.Proofs.YthejkmfmcjpfhaaA
open Go.RowKit
attribute [local congr] bind_congr1 map_congr1 cond_congr1 withX_congr after_congr br_congr gd_congr

def tE4 : AC :=
 (.seq
 (.dreg [⟨(some 46), none, (.loadN 9 (.t 15))⟩,
   ⟨(some 47), none, (.call 10 [(.t 46)])⟩,
   ⟨(some 48), none, (.mv (.t 47))⟩,
   ⟨(some 49), (some (48, true)), (.loadN 9 (.t 15))⟩,
   ⟨(some 50), (some (48, true)), (.mv (.t 1))⟩,
   ⟨(some 51), (some (48, true)), (.mv (.t 2))⟩,
   ⟨(some 52), (some (48, true)), (.call 11 [(.t 49), (.t 50), (.t 51)])⟩,
   ⟨(some 53), (some (48, true)), (.call 10 [(.t 52)])⟩,
   ⟨(some 54), none, (.pick (.t 48) (.t 53) (.c (.bool false)))⟩,
   ⟨(some 55), none, (.mv (.t 54))⟩,
   ⟨(some 56), (some (55, true)), (.loadN 9 (.t 15))⟩,
   ⟨(some 57), (some (55, true)), (.mv (.t 1))⟩,
   ⟨(some 58), (some (55, true)), (.mv (.t 2))⟩,
   ⟨(some 59), (some (55, true)), (.call 11 [(.t 56), (.t 57), (.t 58)])⟩,
   ⟨(some 60), (some (55, true)), (.mv (.t 5))⟩,
   ⟨(some 61), (some (55, true)), (.mv (.t 2))⟩,
   ⟨(some 62), (some (55, true)), (.bin .and .num (.t 61) (.c (.int .i64 127)))⟩,
   ⟨(some 63), (some (55, true)), (.call 11 [(.t 59), (.t 60), (.t 62)])⟩,
   ⟨(some 64), (some (55, true)), (.call 10 [(.t 63)])⟩,
   ⟨(some 65), none, (.pick (.t 55) (.t 64) (.c (.bool false)))⟩,
   ⟨(some 66), none, (.mv (.t 65))⟩,
   ⟨(some 67), (some (66, true)), (.loadN 9 (.t 10))⟩,
   ⟨(some 68), (some (66, true)), (.call 10 [(.t 67)])⟩,
   ⟨(some 69), none, (.pick (.t 66) (.t 68) (.c (.bool false)))⟩,
   ⟨(some 70), none, (.mv (.t 69))⟩,
   ⟨(some 71), (some (70, true)), (.mv (.t 16))⟩,
   ⟨(some 72), (some (70, true)), (.call 13 [(.t 71)])⟩,
   ⟨(some 73), none, (.pick (.t 70) (.t 72) (.c (.bool false)))⟩,
   ⟨(some 74), none, (.mv (.t 73))⟩,
   ⟨(some 75), (some (74, true)), (.mv (.t 4))⟩,
   ⟨(some 76), (some (74, true)), (.call 13 [(.t 75)])⟩,
   ⟨(some 77), none, (.pick (.t 74) (.t 76) (.c (.bool false)))⟩,
   ⟨(some 78), none, (.mv (.t 77))⟩,
   ⟨(some 79), (some (78, true)), (.mv (.t 6))⟩,
   ⟨(some 80), (some (78, true)), (.bin .and .num (.t 79) (.c (.int .u8 63)))⟩,
   ⟨(some 81), (some (78, true)), (.bin .or .num (.c (.int .u8 128)) (.t 80))⟩,
   ⟨(some 82), (some (78, true)), (.buildSlice 1 [(.int .u8 0)] 1 [(0, (1, (.t 81)))])⟩,
   ⟨(some 83), (some (78, true)), (.mv (.t 4))⟩,
   ⟨(some 84), (some (78, true)), (.append 1 1 (.t 82) (.t 83))⟩,
   ⟨(some 85), (some (78, true)), (.call 13 [(.t 84)])⟩,
   ⟨(some 86), none, (.pick (.t 78) (.t 85) (.c (.bool false)))⟩,
   ⟨(some 87), none, (.mv (.t 86))⟩,
   ⟨(some 88), (some (87, true)), (.loadN 9 (.t 15))⟩,
   ⟨(some 89), (some (87, true)), (.loadN 9 (.t 10))⟩,
   ⟨(some 90), (some (87, true)), (.call 16 [(.t 88), (.t 89)])⟩,
   ⟨(some 91), (some (87, true)), (.loadN 9 (.t 15))⟩,
   ⟨(some 92), (some (87, true)), (.loadN 9 (.t 10))⟩,
   ⟨(some 93), (some (87, true)), (.call 17 [(.t 91), (.t 92)])⟩,
   ⟨(some 94), (some (87, true)), (.bin .eql .bool (.t 90) (.t 93))⟩,
   ⟨(some 95), none, (.pick (.t 87) (.t 94) (.c (.bool false)))⟩,
   ⟨(some 96), none, (.mv (.t 95))⟩,
   ⟨(some 97), (some (96, true)), (.call 14 [])⟩,
   ⟨(some 98), none, (.pick (.t 96) (.t 97) (.c (.bool false)))⟩,
   ⟨(some 14), none, (.mv (.t 98))⟩] [(45, 44), (46, 44)]) .ret)
def b4 : AC :=
 (.seq
 (.reg [⟨(some 10), none, (.box (.t 3))⟩,
   ⟨(some 14), none, (.mv (.c (.bool false)))⟩])
 (.seq
 (.reg [⟨(some 18), none, (.mv (.t 0))⟩,
   ⟨(some 19), none, (.build [(.slice none 0 0 none), (.int .i64 0)] [(0, (1, (.t 18)))])⟩,
   ⟨(some 20), none, (.box (.t 19))⟩,
   ⟨(some 21), none, (.call 9 [(.t 20)])⟩,
   ⟨(some 15), none, (.alloc [(.bool false), (.int .i64 0), (.int .u16 0), (.int .u32 0), (.int .u32 0), (.slice none 0 0 none), (.int .u16 0), (.slice none 0 0 none), (.slice none 0 0 none)])⟩,
   ⟨none, none, (.store 9 (.t 15) (.t 21))⟩])
 (.seq
 (.reg [⟨(some 23), none, (.loadN 9 (.t 15))⟩,
   ⟨(some 24), none, (.call 12 [(.t 23)])⟩,
   ⟨(some 22), none, (.mv (.t 24))⟩,
   ⟨(some 25), none, (.extract 0 (.t 22))⟩,
   ⟨(some 26), none, (.extract 1 (.t 22))⟩,
   ⟨(some 16), none, (.mv (.t 25))⟩,
   ⟨(some 17), none, (.mv (.t 26))⟩])
 (.seq
 (.reg [⟨(some 27), none, (.mv (.t 16))⟩,
   ⟨(some 28), none, (.mv (.t 5))⟩,
   ⟨(some 29), none, (.mv (.t 16))⟩,
   ⟨(some 30), none, (.len (.t 29))⟩,
   ⟨(some 31), none, (.bin .sub .num (.t 30) (.c (.int .i64 1)))⟩,
   ⟨(some 32), none, (.call 15 [(.t 28), (.c (.int .i64 0)), (.t 31)])⟩,
   ⟨(some 33), none, (.ixSlice 1 (.t 27) (.t 32))⟩,
   ⟨(some 34), none, (.load1 (.t 33))⟩,
   ⟨(some 35), none, (.mv (.t 6))⟩,
   ⟨(some 36), none, (.bin .xor .num (.t 34) (.t 35))⟩,
   ⟨(some 37), none, (.ixSlice 1 (.t 27) (.t 32))⟩,
   ⟨none, none, (.store 1 (.t 37) (.t 36))⟩])
 (.seq
 (.seq
 (.reg [⟨(some 38), none, (.fieldAddr 8 1 (.t 10))⟩,
   ⟨(some 39), none, (.load1 (.t 38))⟩,
   ⟨(some 40), none, (.len (.t 39))⟩,
   ⟨(some 41), none, (.bin .gtr .num (.t 40) (.c (.int .i64 300)))⟩])
 (.cond (.t 41)
 (.reg [⟨(some 42), none, (.fieldAddr 8 1 (.t 10))⟩,
   ⟨(some 43), none, (.load1 (.t 42))⟩,
   ⟨(some 44), none, (.cut 1 (.t 43) none (some (.c (.int .i64 300))) none)⟩,
   ⟨(some 45), none, (.fieldAddr 8 1 (.t 10))⟩,
   ⟨none, none, (.store 1 (.t 45) (.t 44))⟩]) .skip))
 tE4)))))
theorem m127 (x : Int) : Go.bits .and .i64 x 127 = x % 128 := and_i64 7 (by decide) x
set_option maxHeartbeats 16000000 in
theorem end4 (f : Nat) {T : Tm} {S : St} {o10 o15 : Nat} {P R : Pk} {c e l c' e' l' : AV} {px pb : Option (Nat × Nat × Nat)} {ex eb : Nat} {cx cb : Option Nat} {X b : List Nat} {what n at_ turn : Int} (hP : Pv S P c e l) (hR : Pv S R c' e' l') (sz : P.cs.length ≤ 3 ∧ P.ex.length ≤ 80 ∧ P.pl.length ≤ 30) (hf : R.cs.length + R.ex.length + R.pl.length + 12000 ≤ f)
    (n10 : o10 < S.next) (n15 : o15 < S.next) (g10 : S.get o10 = some (.cells (pkc R c' e' l') 0 0 true)) (g15 : S.get o15 = some (.cells (pkc P c e l) 0 0 true)) (hX : By S px ex X) (hb : By S pb eb b) (hbl : b.length ≤ 140737488351232) (hn : I64 n)
    (t1 : T.get 1 = some (.int .i64 what)) (t2 : T.get 2 = some (.int .i64 n)) (t4 : T.get 4 = some (.slice pb b.length eb cb)) (t5 : T.get 5 = some (.int .i64 at_)) (t6 : T.get 6 = some (.int .u8 turn)) (t10 : T.get 10 = some (.ptr (some ⟨o10, 0, 0, 9⟩))) (t15 : T.get 15 = some (.ptr (some ⟨o15, 0, 0, 9⟩))) (t16 : T.get 16 = some (.slice px X.length ex cx)) :
    Goes (evF Y AP f) f tE4 T S fun r T S2 => ∃ w S3, fin [.tmp 14] (r, T, S2) = some (w, S3) ∧ w = .bool true := by
  have r15 : ∀ {X : St}, Ext S X → ∀ v i m, X.rd o15 v i m = rdO (.cells (pkc P c e l) 0 0 true) v i m := fun x => rd_of (x.get n15 g15)
  have r10 : ∀ {X : St}, Ext S X → ∀ v i m, X.rd o10 v i m = rdO (.cells (pkc R c' e' l') 0 0 true) v i m := fun x => rd_of (x.get n10 g10)
  have t10f : ∀ {S1 : St} {Q : Pk} {c1 e1 l1 : AV}, Pv S1 Q c1 e1 l1 → Q.cs.length + Q.ex.length + Q.pl.length + 5000 ≤ f → ∃ S2, evF Y AP f 10 [.agg (pkc Q c1 e1 l1)] S1 = some (.bool true, S2) ∧ Ext S1 S2 := by
    intro S1 Q c1 e1 l1 h hl
    obtain ⟨S2, q, x⟩ := T10 (f - 5000 - Q.cs.length - Q.ex.length - Q.pl.length) h
    rw [show f - 5000 - Q.cs.length - Q.ex.length - Q.pl.length + Q.cs.length + Q.ex.length + Q.pl.length + 5000 = f by omega] at q
    exact ⟨S2, q, x⟩
  have t13f : ∀ {S1 : St} {p : Option (Nat × Nat × Nat)} {e : Nat} {c : Option Nat} {l : List Nat}, By S1 p e l → ∃ S2, evF Y AP f 13 [.slice p l.length e c] S1 = some (.bool true, S2) ∧ Ext S1 S2 := by
    intro S1 p e c l h
    obtain ⟨S2, q, x⟩ := T13 (f - 4000) (c := c) h
    rw [show f - 4000 + 4000 = f by omega] at q
    exact ⟨S2, q, x⟩
  have t11f : ∀ {S1 : St} {Q : Pk} {c1 e1 l1 : AV} {w n : Int}, Pv S1 Q c1 e1 l1 → Q.ex.length ≤ 1000000 → I64 n → ∃ p' c' e' l' S', evF Y AP f 11 [.agg (pkc Q c1 e1 l1), .int .i64 w, .int .i64 n] S1 = some (.agg (pkc p' c' e' l'), S') ∧ Pv S' p' c' e' l' ∧ Ext S1 S' ∧ p'.cs.length ≤ Q.cs.length + 31 ∧ p'.ex.length ≤ Q.ex.length + 1 ∧ p'.pl.length ≤ Q.pl.length + 2047 := by
    intro S1 Q c1 e1 l1 w n h hx hn
    have q := T11 (f - 30) h hx (what := w) hn
    rw [show f - 30 + 30 = f by omega] at q
    exact q
  have q0 := r15 (.refl S)
  obtain ⟨S6, a6, x6⟩ := t10f hP (by omega)
  have q6 := r15 x6
  obtain ⟨p7, c7, e7, l7, S7, a7, h7, x7, s71, s72, s73⟩ := t11f (w := what) (hP.ext x6) (by omega) hn
  obtain ⟨S8, a8, x8⟩ := t10f h7 (by omega)
  have y8 := x6.trans (x7.trans x8)
  have q8 := r15 y8
  obtain ⟨p9, c9, e9, l9, S9, a9, h9, x9, s91, s92, s93⟩ := t11f (w := what) (hP.ext y8) (by omega) hn
  have mn := m127 n
  obtain ⟨pa, ca, ea, la, S10, a10, h10, x10, sa1, sa2, sa3⟩ := t11f (w := at_) (n := n % 128) h9 (by omega) ⟨by omega, by omega⟩
  obtain ⟨S11, a11, x11⟩ := t10f h10 (by omega)
  have y11 := y8.trans (x9.trans (x10.trans x11))
  have q11 := r10 y11
  obtain ⟨S12, a12, x12⟩ := t10f (hR.ext y11) (by omega)
  have y12 := y11.trans x12
  obtain ⟨S13, a13, x13⟩ := t13f (c := cx) (hX.ext y12)
  have y13 := y12.trans x13
  obtain ⟨S14, a14, x14⟩ := t13f (c := cb) (hb.ext y13)
  have y14_ := y13.trans x14
  obtain ⟨g1, hg1, _⟩ : ∃ g : Nat, Go.bits .and .u8 turn 63 = (g : Int) ∧ g < 256 := u8_n _
  obtain ⟨g2, hg2, hg2'⟩ : ∃ g : Nat, Go.bits .or .u8 128 (g1 : Int) = (g : Int) ∧ g < 256 := u8_n _
  obtain ⟨B, hB⟩ : ∃ B, S14.alloc (.cells [.int .u8 (g2 : Int)] 0 0 true) = B := ⟨_, rfl⟩
  have gB : Gr S14 B (some (S14.next, 0, 0)) 1 [g2] := by
    rw [← hB]
    exact ⟨⟨.inr rfl, rfl, .inr ⟨S14.next, 0, 0, rfl, Nat.lt_succ_self _, by rw [St.get_alloc, if_pos rfl]; rfl, Nat.le_refl _⟩⟩, .alloc _ _, fun o v i h => by cases h; exact Nat.le_refl _, fun y hy => by rw [List.mem_singleton] at hy; omega⟩
  obtain ⟨p15, e15, S15, a15, G15⟩ := gB.app hb.bd (by simp only [List.length_cons, List.length_nil]; omega)
  have a15 : aAppend 1 1 B (.slice (some (S14.next, 0, 0)) 1 1 none) b.length (bv b) = some (.slice p15 (b.length + 1) e15 none, S15) := a15
  have hbB := hb.ext (y14_.trans gB.ext)
  have y15 := y14_.trans G15.ext
  obtain ⟨S16, a16, x16⟩ := t13f (c := none) (G15.by_ (by rw [List.length_append]; simp only [List.length_cons, List.length_nil]; omega))
  have a16 : evF Y AP f 13 [.slice p15 (b.length + 1) e15 none] S15 = some (.bool true, S16) := a16
  have y16 := y15.trans x16
  have fu : f - P.cs.length - P.ex.length - P.pl.length - 4 + P.cs.length + P.ex.length + P.pl.length + 4 = f := by omega
  obtain ⟨S17, a17, x17⟩ := T16 (f - P.cs.length - P.ex.length - P.pl.length - 4) (hP.ext y16) (hR.ext y16)
  have y17 := y16.trans x17
  obtain ⟨S18, a18, x18⟩ := T17 (f - P.cs.length - P.ex.length - P.pl.length - 4) (hP.ext y17) (hR.ext y17)
  rw [fu] at a17 a18
  have q160 := r15 y16; have q161 := r10 y16; have q170 := r15 y17; have q171 := r10 y17
  have hcc : ∃ pc ec cc, c = .slice pc P.cs.length ec cc := by obtain ⟨a, b, d, h, _⟩ := hP.c; exact ⟨a, b, d, h⟩
  have hce : ∃ pc ec cc, e = .slice pc P.ex.length ec cc := by obtain ⟨a, b, d, h, _⟩ := hP.e; exact ⟨a, b, d, h⟩
  have hcl : ∃ pc ec cc, l = .slice pc P.pl.length ec cc := by obtain ⟨a, b, d, h, _⟩ := hP.l; exact ⟨a, b, d, h⟩
  have hcc' : ∃ pc ec cc, c' = .slice pc R.cs.length ec cc := by obtain ⟨a, b, d, h, _⟩ := hR.c; exact ⟨a, b, d, h⟩
  have hce' : ∃ pc ec cc, e' = .slice pc R.ex.length ec cc := by obtain ⟨a, b, d, h, _⟩ := hR.e; exact ⟨a, b, d, h⟩
  have hcl' : ∃ pc ec cc, l' = .slice pc R.pl.length ec cc := by obtain ⟨a, b, d, h, _⟩ := hR.l; exact ⟨a, b, d, h⟩
  obtain ⟨_, _, _, rfl⟩ := hcc; obtain ⟨_, _, _, rfl⟩ := hce; obtain ⟨_, _, _, rfl⟩ := hcl
  obtain ⟨_, _, _, rfl⟩ := hcc'; obtain ⟨_, _, _, rfl⟩ := hce'; obtain ⟨_, _, _, rfl⟩ := hcl'
  have q14 : evF Y AP f 14 [] S18 = some (.bool true, S18) := by
    have := y14 (f - 1) S18
    rwa [show f - 1 + 1 = f by omega] at this
  rcases pb with _ | ⟨oo, vv, ii⟩
  · have hz := hb.nil rfl
    have a15' : aAppend 1 1 B (.slice (some (S14.next, 0, 0)) 1 1 none) 0 [] = some (.slice p15 (b.length + 1) e15 none, S15) := by rw [hz] at a15 ⊢; exact a15
    simp -implicitDefEqProofs -dsimp (maxSteps := 10000000) only [tE4, ↓kS, after_some, br_true, br_false, kC, ↓kQ, ↓Option.bind_some, ↓Option.map_some, ↓cond_true, ↓cond_false, evC, evOp, XO.lit, setArgs, Tr.get_set, Option.bind_some, Option.map_some, cond_true, cond_false, maxI, maxFrom, minI, minFrom, aConv, aBinE, aEq, eqScal, aUn, evRes, fin, oneOf, if_true, if_false, callee, reduceCtorEq, Nat.reduceEqDiff, List.getElem?_cons_zero, List.getElem?_cons_succ, beq_self_eq_true, gt_iff_lt, List.head?_cons, AV.undef, eq_self, ne_eq, Int.reduceLT, Int.reduceLE, Int.reduceToNat, Int.reduceEq, Int.reduceNeg, Nat.reduceAdd, Nat.reduceLT, Nat.reduceLeDiff, Nat.reduceMul, Nat.reduceSub, ↓evDraw_nil, bir, putD, evDraw, trace, List.all_cons, List.all_nil, chk, stAt, again, sameV, sameL, sameA, AV.undef, Bool.and_self, Bool.and_true, decide_eq_true_eq, List.getElem?_nil, kM, AV.cells, AV.tup, List.drop_nil, List.append_nil, rdO, St.wr, List.length_cons, List.length_nil, List.take_succ_cons, List.take_zero, List.drop_succ_cons, List.drop_zero, List.cons_append, List.nil_append, Nat.reduceMul, aFill, evParts, rep, List.replicate_succ, List.replicate_zero, List.flatten_cons, List.flatten_nil, List.append_nil, newSl, newVar, t1, t2, t4, t5, t6, t10, t15, t16, q0, a6, q6, a7, a8, q8, a9, mn, a10, a11, q11, a12, a13, a14, hg1, hg2, hB, a15', a16, q160, q161, a17, q170, q171, a18, q14]
    exact ⟨_, _, rfl, rfl⟩
  · obtain rfl := hb.ez.resolve_left (by simp)
    have hr := (hbB.at_ oo vv ii rfl).2
    simp -implicitDefEqProofs -dsimp (maxSteps := 10000000) only [tE4, ↓kS, after_some, br_true, br_false, kC, ↓kQ, ↓Option.bind_some, ↓Option.map_some, ↓cond_true, ↓cond_false, evC, evOp, XO.lit, setArgs, Tr.get_set, Option.bind_some, Option.map_some, cond_true, cond_false, maxI, maxFrom, minI, minFrom, aConv, aBinE, aEq, eqScal, aUn, evRes, fin, oneOf, if_true, if_false, callee, reduceCtorEq, Nat.reduceEqDiff, List.getElem?_cons_zero, List.getElem?_cons_succ, beq_self_eq_true, gt_iff_lt, List.head?_cons, AV.undef, eq_self, ne_eq, Int.reduceLT, Int.reduceLE, Int.reduceToNat, Int.reduceEq, Int.reduceNeg, Nat.reduceAdd, Nat.reduceLT, Nat.reduceLeDiff, Nat.reduceMul, Nat.reduceSub, ↓evDraw_nil, bir, putD, evDraw, trace, List.all_cons, List.all_nil, chk, stAt, again, sameV, sameL, sameA, AV.undef, Bool.and_self, Bool.and_true, decide_eq_true_eq, List.getElem?_nil, kM, AV.cells, AV.tup, List.drop_nil, List.append_nil, rdO, St.wr, List.length_cons, List.length_nil, List.take_succ_cons, List.take_zero, List.drop_succ_cons, List.drop_zero, List.cons_append, List.nil_append, Nat.reduceMul, aFill, evParts, rep, List.replicate_succ, List.replicate_zero, List.flatten_cons, List.flatten_nil, List.append_nil, newSl, newVar, t1, t2, t4, t5, t6, t10, t15, t16, q0, a6, q6, a7, a8, q8, a9, mn, a10, a11, q11, a12, a13, a14, hg1, hg2, hB, Nat.mul_one, hr, a15, a16, q160, q161, a17, q170, q171, a18, q14]
    exact ⟨_, _, rfl, rfl⟩
set_option maxHeartbeats 16000000 in
theorem ev4 (k : Nat) {pt : Option (Nat × Nat × Nat)} {lt : Nat} {what n at_ turn : Int} {R : Pk} {pc pe pp : Option (Nat × Nat × Nat)} {pb : Option (Nat × Nat × Nat)} {b : List Nat} {S : St} (ht : Sl S pt lt [.int .i64]) (hpt : ∀ o v i, pt = some (o, v, i) → o < S.next)
    (hR : Pv S R (.slice pc R.cs.length 1 none) (.slice pe R.ex.length 1 none) (.slice pp R.pl.length 1 none)) (hbb : By S pb 1 b) (hbl : b.length ≤ 140737488351232) (hn : I64 n) :
    ∃ S', evF Y AP (k + R.cs.length + R.ex.length + R.pl.length + 12001) 4 [.slice pt lt 1 none, .int .i64 what, .int .i64 n, .agg (pkc R (.slice pc R.cs.length 1 none) (.slice pe R.ex.length 1 none) (.slice pp R.pl.length 1 none)), .slice pb b.length 1 none, .int .i64 at_, .int .u8 turn] S = some (.bool true, S') := by
  suffices hh : ∃ w S', evF Y AP (k + R.cs.length + R.ex.length + R.pl.length + 12001) 4 [.slice pt lt 1 none, .int .i64 what, .int .i64 n, .agg (pkc R (.slice pc R.cs.length 1 none) (.slice pe R.ex.length 1 none) (.slice pp R.pl.length 1 none)), .slice pb b.length 1 none, .int .i64 at_, .int .u8 turn] S = some (w, S') ∧ w = .bool true by
    obtain ⟨w, S', h1, rfl⟩ := hh; exact ⟨S', h1⟩
  obtain ⟨f, hf⟩ : ∃ f, k + R.cs.length + R.ex.length + R.pl.length + 12001 = f + 1 := ⟨_, rfl⟩
  rw [hf]
  obtain ⟨A0, hA0⟩ : ∃ A, S.alloc (.cells (pkc R (.slice pc R.cs.length 1 none) (.slice pe R.ex.length 1 none) (.slice pp R.pl.length 1 none)) 0 0 true) = A := ⟨_, rfl⟩
  have e0 : Ext S A0 := by rw [← hA0]; exact .alloc _ _
  have nA0 : A0.next = S.next + 1 := by rw [← hA0]; rfl
  have g0 : A0.get S.next = some (.cells (pkc R (.slice pc R.cs.length 1 none) (.slice pe R.ex.length 1 none) (.slice pp R.pl.length 1 none)) 0 0 true) := by rw [← hA0, St.get_alloc, if_pos rfl]
  obtain ⟨A, P, c, e, l, S2, hA, q9, hP, ok, sz, x2⟩ := rtp_of' (f - 130) (ht.ext e0) fun o v i hp => by have := hpt o v i hp; omega
  rw [show f - 130 + 130 = f by omega] at q9
  have nA : A.next = A0.next + 1 := by rw [← hA]; rfl
  obtain ⟨C, D, hC, gC, hD, xD, nD, gD⟩ := spot S2 P c e l
  have rD : ∀ v i m, D.rd S2.next v i m = rdO (.cells (pkc P c e l) 0 0 true) v i m := rd_of gD
  obtain ⟨v', S3, q12, N3⟩ := T12 (f - 25) (hP D (.of_ext xD))
  rw [show f - 25 + 25 = f by omega, right_ok ok] at q12
  rw [if_pos (right_ok ok)] at N3
  obtain ⟨px, ex, cx, rfl, G⟩ := N3.gr_
  have hln := sizeP_rng' ok sz
  obtain ⟨L, hL⟩ : ∃ L, bytesP P = L := ⟨_, rfl⟩
  rw [hL] at q12 G hln
  have hmx : L.length ≤ 9223372036854775807 := by omega
  have wl : IntKind.i64.wrap ((L.length : Int) - 1) = ((L.length - 1 : Nat) : Int) := by rw [w64_id (by omega) (by omega)]; omega
  have r15 : evF Y AP f 15 [.int .i64 at_, .int .i64 0, .int .i64 ((L.length - 1 : Nat) : Int)] S3 = some (.int .i64 (within at_ 0 ((L.length - 1 : Nat) : Int)), S3) := by
    have := T15 (f - 4) S3 (n := at_) (lo := 0) (hi := ((L.length - 1 : Nat) : Int)) (by omega) (by omega) (by omega)
    rwa [show f - 4 + 4 = f by omega] at this
  have bw := within_bd at_ (show (0 : Int) ≤ ((L.length - 1 : Nat) : Int) by omega)
  obtain ⟨m, hm⟩ : ∃ m : Nat, within at_ 0 ((L.length - 1 : Nat) : Int) = (m : Int) := ⟨(within at_ 0 ((L.length - 1 : Nat) : Int)).toNat, by omega⟩
  rw [hm] at r15 bw
  have hml : m < L.length := by omega
  obtain ⟨y, hy⟩ : ∃ y, L[m] = y := ⟨_, rfl⟩
  obtain ⟨g, hg, hg'⟩ : ∃ g : Nat, Go.bits .xor .u8 (y : Int) turn = (g : Int) ∧ g < 256 := u8_n _
  obtain ⟨ox, ver, minv, rfl, rfl, hnx, hox, g3, hv, G4⟩ := G.set' hml hg'
  have hz := (G.by_ (by omega)).get hml
  rw [hy, Nat.zero_add] at hz
  have hbs := bv_set' L m g hml
  rw [← hbs] at G4
  obtain ⟨S4, hS4⟩ : ∃ S4, S3.put ox (.cells (List.take m (bv L) ++ AV.int .u8 (g : Int) :: List.drop (m + 1) (bv L)) ver ver true) = S4 := ⟨_, rfl⟩
  rw [hS4] at G4
  obtain ⟨X, hX⟩ : ∃ X, L.set m g = X := ⟨_, rfl⟩
  rw [hX] at G4
  have hXl : X.length = L.length := by rw [← hX, List.length_set]
  have hX4 : By S4 (some (ox, ver, 0)) 1 X := G4.by_ (by omega)
  have hixm : ixOf (.int .i64 (m : Int)) L.length = some m := by rw [ix_ok (by omega) (by omega)]; rfl
  have l1 := eq_true (show m + 1 ≤ (bv L).length by rw [bv_len]; omega)
  have x4 := G4.ext
  have n2 := x2.next; have n3 := xD.next; have n4 := x4.next
  have xS4 : Ext A0 S4 := x2.trans (xD.trans x4)
  have g10 : S4.get S.next = some (.cells (pkc R (.slice pc R.cs.length 1 none) (.slice pe R.ex.length 1 none) (.slice pp R.pl.length 1 none)) 0 0 true) := xS4.get (by omega) g0
  have r10 : ∀ v i m, S4.rd S.next v i m = rdO (.cells (pkc R (.slice pc R.cs.length 1 none) (.slice pe R.ex.length 1 none) (.slice pp R.pl.length 1 none)) 0 0 true) v i m := rd_of g10
  have g15 : S4.get S2.next = some (.cells (pkc P c e l) 0 0 true) := x4.get nD gD
  have hll := hR.ll
  have mR : R.pl.length ≤ 9223372036854775807 := by omega
  refine evF_goes (af := af4) (k := f) rfl rfl rfl ?_
  rw [show af4.body = b4 from rfl]
  by_cases c3 : (300 : Int) < (R.pl.length : Int)
  rotate_left
  · simp -implicitDefEqProofs -dsimp (maxSteps := 10000000) only [b4, af4, ↓kS, after_some, br_true, br_false, kC, ↓kQ, ↓Option.bind_some, ↓Option.map_some, ↓cond_true, ↓cond_false, evC, evOp, XO.lit, setArgs, Tr.tabG, Tr.tabS, Tr.tabL, Tr.get_lf, Option.bind_some, Option.map_some, cond_true, cond_false, maxI, maxFrom, minI, minFrom, aConv, aBinE, aEq, eqScal, aUn, evRes, fin, oneOf, if_true, if_false, callee, reduceCtorEq, Nat.reduceEqDiff, List.getElem?_cons_zero, List.getElem?_cons_succ, beq_self_eq_true, gt_iff_lt, List.head?_cons, AV.undef, eq_self, ne_eq, Int.reduceLT, Int.reduceLE, Int.reduceToNat, Int.reduceEq, Int.reduceNeg, Nat.reduceAdd, Nat.reduceLT, Nat.reduceLeDiff, Nat.reduceMul, Nat.reduceSub, ↓evDraw_nil, bir, putD, evDraw, trace, List.all_cons, List.all_nil, chk, stAt, again, sameV, sameL, sameA, AV.undef, Bool.and_self, Bool.and_true, decide_eq_true_eq, List.getElem?_nil, kM, AV.cells, AV.tup, List.drop_nil, List.append_nil, rdO, St.wr, List.length_cons, List.length_nil, List.take_succ_cons, List.take_zero, List.drop_succ_cons, List.drop_zero, List.cons_append, List.nil_append, Nat.reduceMul, aFill, evParts, rep, List.replicate_succ, List.replicate_zero, List.flatten_cons, List.flatten_nil, List.append_nil, newSl, newVar, hA0, hA, q9, hC, gC, hD, rD, q12, hmx, wl, r15, hixm, Nat.mul_one, hz, hg, g3, hv, l1, Nat.le_refl, List.append_assoc, hS4, r10, mR, c3]
    refine end4 f (what := what) (at_ := at_) (turn := turn) (cx := cx) (cb := none) (hP S4 (.of_ext (xD.trans x4))) (hR.ext (e0.trans xS4)) sz (by omega) (by omega) (by omega) g10 g15 hX4 (hbb.ext (e0.trans xS4)) hbl hn ?_ ?_ ?_ ?_ ?_ ?_ ?_ ?_
    all_goals first | rfl | (rw [hXl]; rfl)
  · obtain ⟨p', e', c', hcut, hyc⟩ := (show By S pp 1 R.pl from by obtain ⟨a, b1, c1, h1, h2⟩ := hR.l; cases h1; exact h2).cut none (lo := none) (hi := some (.int .i64 300)) (a := 0) (b := 300) (by rw [bnd_some' (by omega) (by omega)]; rfl) (bnd_none _ _) (by omega) (by omega)
    rw [List.drop_zero, Nat.sub_zero] at hcut hyc
    obtain ⟨Z, hZ⟩ : ∃ Z, R.pl.take 300 = Z := ⟨_, rfl⟩
    have hZl : Z.length = 300 := by rw [← hZ, List.length_take]; omega
    rw [hZ] at hcut hyc
    obtain ⟨S5, hS5⟩ : ∃ S5, S4.put S.next (.cells (pkc R (.slice pc R.cs.length 1 none) (.slice pe R.ex.length 1 none) (.slice p' Z.length e' c')) 0 0 true) = S5 := ⟨_, rfl⟩
    have o5 : Old (· = S.next) S4 S5 := by rw [← hS5]; exact .put (N := (· = S.next)) _ rfl _
    have xS5 : Ext S S5 := by rw [← hS5]; exact (e0.trans xS4).then_put (Nat.le_refl _) _
    have n5 : S5.next = S4.next := by rw [← hS5]; rfl
    have g10' : S5.get S.next = some (.cells (pkc { R with pl := Z } (.slice pc R.cs.length 1 none) (.slice pe R.ex.length 1 none) (.slice p' Z.length e' c')) 0 0 true) := by rw [← hS5, St.get_put, if_pos rfl]
    have g15' : S5.get S2.next = some (.cells (pkc P c e l) 0 0 true) := (o5.2 _ (by omega) (by omega)).trans g15
    have hR5 : Pv S5 { R with pl := Z } (.slice pc R.cs.length 1 none) (.slice pe R.ex.length 1 none) (.slice p' Z.length e' c') :=
      have h := hR.ext xS5
      ⟨h.c, h.e, ⟨p', e', c', rfl, hyc.ext xS5⟩, h.ty, h.sq, h.tm, h.ss, h.pf, h.cl, h.el, by show Z.length ≤ _; omega⟩
    have hX5 : By S5 (some (ox, ver, 0)) 1 X := o5.by_ hX4 fun o v i hp he => by cases hp; omega
    have hP5 := hP S5 ((Old.of_ext (xD.trans x4)).trans (o5.imp fun o _ h => by show o < A.next; omega))
    simp -implicitDefEqProofs -dsimp (maxSteps := 10000000) only [b4, af4, ↓kS, after_some, br_true, br_false, kC, ↓kQ, ↓Option.bind_some, ↓Option.map_some, ↓cond_true, ↓cond_false, evC, evOp, XO.lit, setArgs, Tr.tabG, Tr.tabS, Tr.tabL, Tr.get_lf, Option.bind_some, Option.map_some, cond_true, cond_false, maxI, maxFrom, minI, minFrom, aConv, aBinE, aEq, eqScal, aUn, evRes, fin, oneOf, if_true, if_false, callee, reduceCtorEq, Nat.reduceEqDiff, List.getElem?_cons_zero, List.getElem?_cons_succ, beq_self_eq_true, gt_iff_lt, List.head?_cons, AV.undef, eq_self, ne_eq, Int.reduceLT, Int.reduceLE, Int.reduceToNat, Int.reduceEq, Int.reduceNeg, Nat.reduceAdd, Nat.reduceLT, Nat.reduceLeDiff, Nat.reduceMul, Nat.reduceSub, ↓evDraw_nil, bir, putD, evDraw, trace, List.all_cons, List.all_nil, chk, stAt, again, sameV, sameL, sameA, AV.undef, Bool.and_self, Bool.and_true, decide_eq_true_eq, List.getElem?_nil, kM, AV.cells, AV.tup, List.drop_nil, List.append_nil, rdO, St.wr, List.length_cons, List.length_nil, List.take_succ_cons, List.take_zero, List.drop_succ_cons, List.drop_zero, List.cons_append, List.nil_append, Nat.reduceMul, aFill, evParts, rep, List.replicate_succ, List.replicate_zero, List.flatten_cons, List.flatten_nil, List.append_nil, newSl, newVar, evOpt, hA0, hA, q9, hC, gC, hD, rD, q12, hmx, wl, r15, hixm, Nat.mul_one, hz, hg, g3, hv, l1, Nat.le_refl, List.append_assoc, hS4, r10, mR, c3, hcut, g10, hS5]
    refine end4 f (what := what) (at_ := at_) (turn := turn) (cx := cx) (cb := none) hP5 hR5 sz (by show R.cs.length + R.ex.length + Z.length + 12000 ≤ f; omega) (by omega) (by omega) g10' g15' hX5 (hbb.ext xS5) hbl hn ?_ ?_ ?_ ?_ ?_ ?_ ?_ ?_
    all_goals first | rfl | (rw [hXl]; rfl)
theorem words_of : ∀ (len : Nat) (xs : List AV), len ≤ xs.length → (∀ i, i < len → Scs [.int .u32] ((xs.drop (i * 1)).take 1)) → ∃ l : List Int, l.length = len ∧ Wrd l ∧ xs.take len = uv l
  | 0, xs, _, _ => ⟨[], rfl, fun _ h => (by cases h), by simp [uv]⟩
  | n + 1, [], h, _ => by simp at h
  | n + 1, x :: xs, h, hs => by
    obtain ⟨l, h1, h2, h3⟩ := words_of n xs (by simpa using h) fun i hi => by
      have := hs (i + 1) (by omega)
      rw [Nat.add_mul, List.drop_succ_cons] at this
      exact this
    have h0 := hs 0 (by omega)
    simp only [Nat.zero_mul, List.drop_zero, List.take_succ_cons, List.take_zero] at h0
    obtain ⟨⟨⟩⟩ | ⟨b, rfl, hb⟩ : False ∨ ∃ b : Int, x = .int .u32 b ∧ (0 ≤ b ∧ b < 4294967296) := by
      cases x with
      | int k n =>
        obtain ⟨⟨rfl, hw⟩, _⟩ := h0
        have := wf_u32 hw
        exact .inr ⟨n, rfl, by omega, by omega⟩
      | _ => exact .inl h0.1
    refine ⟨b :: l, by rw [List.length_cons, h1], fun y hy => ?_, by rw [List.take_succ_cons, h3]; rfl⟩
    rcases List.mem_cons.1 hy with rfl | hy
    · exact hb
    · exact h2 y hy
theorem Ur.of_arg {S : St} {p : Option (Nat × Nat × Nat)} {o len : Nat} {xs : List AV} (h : Arg p o len [.int .u32] xs) (hg : S.get o = some (.cells xs 0 0 false)) (ho : o < S.next) : ∃ l, l.length = len ∧ Ur S p 1 l := by
  have hle : len ≤ xs.length := by have := h.le; simpa using this
  obtain ⟨l, h1, h2, h3⟩ := words_of len xs hle h.el
  refine ⟨l, h1, .inr rfl, fun hp => ?_, fun o' v i hp => ?_, h2, by rw [h1]; exact h.max⟩
  · by_cases h0 : len = 0
    · exact List.length_eq_zero_iff.1 (by omega)
    · have := h.at_ h0; rw [hp] at this; cases this
  · rcases h.at0 with h4 | h4
    · rw [hp] at h4; cases h4
    · rw [hp] at h4; cases h4
      refine ⟨ho, ?_⟩
      rw [rd_cells hg (Nat.le_refl _) (by omega), List.drop_zero, h1, h3]
theorem law4 {what n at_ turn : Int} {p0 pb : Option (Nat × Nat × Nat)} {n0 nb : Nat} {xs0 xsb : List AV} {mrk : Bool} {ty sq tm ss pf : Int} {pc : Option (Nat × Nat × Nat)} {lc : Nat} {xc : List AV} {pe : Option (Nat × Nat × Nat)} {le : Nat} {xe : List AV} {pp : Option (Nat × Nat × Nat)} {lp : Nat} {xp : List AV}
    (h0 : Arg p0 0 n0 [.int .i64] xs0) (_ : (Lit.int .i64 what).wf = true) (wn : (Lit.int .i64 n).wf = true) (wf : (Lit.int .i64 ty).wf = true ∧ (Lit.int .u16 sq).wf = true ∧ (Lit.int .u32 tm).wf = true ∧ (Lit.int .u32 ss).wf = true ∧ (Lit.int .u16 pf).wf = true)
    (ar : Arg pc 1 lc [.int .u32] xc ∧ Arg pe 2 le [.int .u8] xe ∧ Arg pp 3 lp [.int .u8] xp) (rm : lc * 4 ≤ 140737488351232 ∧ le * 1 ≤ 140737488351232 ∧ lp * 1 ≤ 140737488351232) (hb : Arg pb 4 nb [.int .u8] xsb) (rb : nb * 1 ≤ 140737488351232) (_ : (Lit.int .i64 at_).wf = true) (_ : (Lit.int .u8 turn).wf = true) :
    ∃ k S', evF Y AP k 4 [.slice p0 n0 1 none, .int .i64 what, .int .i64 n, .agg [.bool mrk, .int .i64 ty, .int .u16 sq, .int .u32 tm, .int .u32 ss, .slice pc lc 1 none, .int .u16 pf, .slice pe le 1 none, .slice pp lp 1 none], .slice pb nb 1 none, .int .i64 at_, .int .u8 turn]
      (((((S0.alloc (.cells xs0 0 0 false)).alloc (.cells xc 0 0 false)).alloc (.cells xe 0 0 false)).alloc (.cells xp 0 0 false)).alloc (.cells xsb 0 0 false)) = some (.bool true, S') := by
  obtain ⟨Z, hZ⟩ : ∃ Z, (((((S0.alloc (.cells xs0 0 0 false)).alloc (.cells xc 0 0 false)).alloc (.cells xe 0 0 false)).alloc (.cells xp 0 0 false)).alloc (.cells xsb 0 0 false)) = Z := ⟨_, rfl⟩
  have nZ : Z.next = 5 := by rw [← hZ]; rfl
  have g0 : Z.get 0 = some (.cells xs0 0 0 false) := by rw [← hZ]; simp only [St.get_alloc]; rfl
  have g1 : Z.get 1 = some (.cells xc 0 0 false) := by rw [← hZ]; simp only [St.get_alloc]; rfl
  have g2 : Z.get 2 = some (.cells xe 0 0 false) := by rw [← hZ]; simp only [St.get_alloc]; rfl
  have g3 : Z.get 3 = some (.cells xp 0 0 false) := by rw [← hZ]; simp only [St.get_alloc]; rfl
  have g4 : Z.get 4 = some (.cells xsb 0 0 false) := by rw [← hZ]; simp only [St.get_alloc]; rfl
  obtain ⟨cs, rfl, uc⟩ := Ur.of_arg ar.1 g1 (by omega)
  obtain ⟨xx, rfl, ue⟩ := By.of_arg ar.2.1 g2 (by omega)
  obtain ⟨ll, rfl, ul⟩ := By.of_arg ar.2.2 g3 (by omega)
  obtain ⟨b, rfl, ub⟩ := By.of_arg hb g4 (by omega)
  have w1 := wf_i64 wf.1; have w2 := wf_u16 wf.2.1; have w3 := wf_u32 wf.2.2.1; have w4 := wf_u32 wf.2.2.2.1; have w5 := wf_u16 wf.2.2.2.2
  have hR : Pv Z ⟨mrk, ty, sq, tm, ss, cs, pf, xx, ll⟩ (.slice pc cs.length 1 none) (.slice pe xx.length 1 none) (.slice pp ll.length 1 none) :=
    ⟨⟨pc, 1, none, rfl, uc⟩, ⟨pe, 1, none, rfl, ue⟩, ⟨pp, 1, none, rfl, ul⟩, w1, ⟨w2.1, by show sq < 65536; omega⟩, ⟨w3.1, by show tm < 4294967296; omega⟩, ⟨w4.1, by show ss < 4294967296; omega⟩, ⟨w5.1, by show pf < 65536; omega⟩, by show cs.length ≤ _; omega, by show xx.length ≤ _; omega, by show ll.length ≤ _; omega⟩
  rw [hZ]
  obtain ⟨S', h⟩ := ev4 0 (what := what) (at_ := at_) (turn := turn) (.of_arg h0 g0 (by omega)) (fun o v i hp => by
    rcases h0.at0 with h0 | h0
    · rw [hp] at h0; cases h0
    · rw [hp] at h0; cases h0; omega) hR ub (by omega) (wf_i64 wn)
  exact ⟨_, S', h⟩
end Go.Proofs.YthejkmfmcjpfhaaA
