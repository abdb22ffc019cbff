/- Chapter 3: RtpApart. -/
import Derived.Test.YthejkmfmcjpfhaaRpV
set_option linter.unusedVariables false
set_option linter.unusedSimpArgs false
set_option maxRecDepth 10000
namespace Go.Proofs.YthejkmfmcjpfhaaA
open Go.RowKit
attribute [local congr] bind_congr1 map_congr1 cond_congr1 withX_congr after_congr br_congr gd_congr

def tE7 : AC :=
 (.seq
 (.reg [⟨(some 63), none, (.loadN 9 (.t 13))⟩,
   ⟨(some 64), none, (.call 18 [(.t 63)])⟩,
   ⟨(some 62), none, (.mv (.t 64))⟩,
   ⟨(some 65), none, (.extract 0 (.t 62))⟩,
   ⟨(some 66), none, (.extract 1 (.t 62))⟩,
   ⟨(some 14), none, (.mv (.t 65))⟩,
   ⟨(some 15), none, (.mv (.t 66))⟩])
 (.seq
 (.dreg [⟨(some 67), none, (.mv (.t 10))⟩,
   ⟨(some 68), none, (.bin .eql .num (.t 67) (.c (.int .i64 0)))⟩,
   ⟨(some 69), none, (.mv (.t 68))⟩,
   ⟨(some 70), (some (69, true)), (.mv (.t 12))⟩,
   ⟨(some 71), (some (69, true)), (.bin .eql .num (.t 70) (.c (.int .i64 0)))⟩,
   ⟨(some 72), none, (.pick (.t 69) (.t 71) (.c (.bool false)))⟩,
   ⟨(some 73), none, (.mv (.t 72))⟩,
   ⟨(some 74), (some (73, true)), (.mv (.t 15))⟩,
   ⟨(some 75), (some (73, true)), (.bin .eql .num (.t 74) (.c (.int .i64 0)))⟩,
   ⟨(some 76), none, (.pick (.t 73) (.t 75) (.c (.bool false)))⟩,
   ⟨(some 77), none, (.mv (.t 76))⟩,
   ⟨(some 78), (some (77, true)), (.mv (.t 9))⟩,
   ⟨(some 79), (some (77, true)), (.conv .bytesStr (.t 78))⟩,
   ⟨(some 80), (some (77, true)), (.mv (.t 11))⟩,
   ⟨(some 81), (some (77, true)), (.conv .bytesStr (.t 80))⟩,
   ⟨(some 82), (some (77, true)), (.bin .eql .str (.t 79) (.t 81))⟩,
   ⟨(some 83), (some (77, true)), (.loadN 9 (.t 7))⟩,
   ⟨(some 84), (some (77, true)), (.loadN 9 (.t 8))⟩,
   ⟨(some 85), (some (77, true)), (.call 17 [(.t 83), (.t 84)])⟩,
   ⟨(some 86), (some (77, true)), (.bin .eql .bool (.t 82) (.t 85))⟩,
   ⟨(some 87), none, (.pick (.t 77) (.t 86) (.c (.bool false)))⟩,
   ⟨(some 88), none, (.mv (.t 87))⟩,
   ⟨(some 89), (some (88, true)), (.mv (.t 9))⟩,
   ⟨(some 90), (some (88, true)), (.conv .bytesStr (.t 89))⟩,
   ⟨(some 91), (some (88, true)), (.mv (.t 14))⟩,
   ⟨(some 92), (some (88, true)), (.conv .bytesStr (.t 91))⟩,
   ⟨(some 93), (some (88, true)), (.bin .neq .str (.t 90) (.t 92))⟩,
   ⟨(some 94), none, (.pick (.t 88) (.t 93) (.c (.bool false)))⟩,
   ⟨(some 95), none, (.mv (.t 94))⟩,
   ⟨(some 96), (some (95, true)), (.loadN 9 (.t 7))⟩,
   ⟨(some 97), (some (95, true)), (.loadN 9 (.t 13))⟩,
   ⟨(some 98), (some (95, true)), (.call 16 [(.t 96), (.t 97)])⟩,
   ⟨(some 99), (some (95, true)), (.un .not (.t 98))⟩,
   ⟨(some 100), none, (.pick (.t 95) (.t 99) (.c (.bool false)))⟩,
   ⟨(some 101), none, (.mv (.t 100))⟩,
   ⟨(some 102), (some (101, true)), (.call 14 [])⟩,
   ⟨(some 103), none, (.pick (.t 101) (.t 102) (.c (.bool false)))⟩,
   ⟨(some 6), none, (.mv (.t 103))⟩] [(12, 19), (14, 19)]) .ret))
def b7 : AC :=
 (.seq
 (.reg [⟨(some 6), none, (.mv (.c (.bool false)))⟩])
 (.seq
 (.reg [⟨(some 16), none, (.mv (.t 0))⟩,
   ⟨(some 17), none, (.build [(.slice none 0 0 none), (.int .i64 0)] [(0, (1, (.t 16)))])⟩,
   ⟨(some 18), none, (.box (.t 17))⟩,
   ⟨(some 19), none, (.call 9 [(.t 18)])⟩,
   ⟨(some 20), none, (.mv (.t 1))⟩,
   ⟨(some 21), none, (.build [(.slice none 0 0 none), (.int .i64 0)] [(0, (1, (.t 20)))])⟩,
   ⟨(some 22), none, (.box (.t 21))⟩,
   ⟨(some 23), none, (.call 9 [(.t 22)])⟩,
   ⟨(some 7), none, (.alloc [(.bool false), (.int .i64 0), (.int .u16 0), (.int .u32 0), (.int .u32 0), (.slice none 0 0 none), (.int .u16 0), (.slice none 0 0 none), (.slice none 0 0 none)])⟩,
   ⟨(some 8), none, (.alloc [(.bool false), (.int .i64 0), (.int .u16 0), (.int .u32 0), (.int .u32 0), (.slice none 0 0 none), (.int .u16 0), (.slice none 0 0 none), (.slice none 0 0 none)])⟩,
   ⟨none, none, (.store 9 (.t 7) (.t 19))⟩,
   ⟨none, none, (.store 9 (.t 8) (.t 23))⟩])
 (.seq
 (.reg [⟨(some 25), none, (.loadN 9 (.t 7))⟩,
   ⟨(some 26), none, (.call 18 [(.t 25)])⟩,
   ⟨(some 24), none, (.mv (.t 26))⟩,
   ⟨(some 27), none, (.extract 0 (.t 24))⟩,
   ⟨(some 28), none, (.extract 1 (.t 24))⟩,
   ⟨(some 9), none, (.mv (.t 27))⟩,
   ⟨(some 10), none, (.mv (.t 28))⟩])
 (.seq
 (.reg [⟨(some 30), none, (.loadN 9 (.t 8))⟩,
   ⟨(some 31), none, (.call 18 [(.t 30)])⟩,
   ⟨(some 29), none, (.mv (.t 31))⟩,
   ⟨(some 32), none, (.extract 0 (.t 29))⟩,
   ⟨(some 33), none, (.extract 1 (.t 29))⟩,
   ⟨(some 11), none, (.mv (.t 32))⟩,
   ⟨(some 12), none, (.mv (.t 33))⟩])
 (.seq
 (.reg [⟨(some 34), none, (.loadN 9 (.t 7))⟩,
   ⟨(some 13), none, (.alloc [(.bool false), (.int .i64 0), (.int .u16 0), (.int .u32 0), (.int .u32 0), (.slice none 0 0 none), (.int .u16 0), (.slice none 0 0 none), (.slice none 0 0 none)])⟩,
   ⟨none, none, (.store 9 (.t 13) (.t 34))⟩])
 (.seq
 (.seq
 (.reg [⟨(some 35), none, (.mv (.t 2))⟩,
   ⟨(some 36), none, (.call 15 [(.t 35), (.c (.int .i64 0)), (.c (.int .i64 3))])⟩])
 (.block 0
 (.seq
 (.reg [⟨(some 45), none, (.bin .eql .num (.t 36) (.c (.int .i64 0)))⟩,
   ⟨(some 44), none, (.mv (.t 45))⟩])
 (.cond (.t 44)
 (.reg [⟨(some 46), none, (.fieldAddr 2 1 (.t 13))⟩,
   ⟨(some 47), none, (.load1 (.t 46))⟩,
   ⟨(some 48), none, (.bin .add .num (.t 47) (.c (.int .u16 1)))⟩,
   ⟨(some 49), none, (.fieldAddr 2 1 (.t 13))⟩,
   ⟨none, none, (.store 1 (.t 49) (.t 48))⟩])
 (.seq
 (.reg [⟨(some 51), none, (.bin .eql .num (.t 36) (.c (.int .i64 1)))⟩,
   ⟨(some 50), none, (.mv (.t 51))⟩])
 (.cond (.t 50)
 (.reg [⟨(some 52), none, (.fieldAddr 3 1 (.t 13))⟩,
   ⟨(some 53), none, (.load1 (.t 52))⟩,
   ⟨(some 54), none, (.bin .add .num (.t 53) (.c (.int .u32 1)))⟩,
   ⟨(some 55), none, (.fieldAddr 3 1 (.t 13))⟩,
   ⟨none, none, (.store 1 (.t 55) (.t 54))⟩])
 (.seq
 (.reg [⟨(some 57), none, (.bin .eql .num (.t 36) (.c (.int .i64 2)))⟩,
   ⟨(some 56), none, (.mv (.t 57))⟩])
 (.cond (.t 56)
 (.reg [⟨(some 58), none, (.fieldAddr 0 1 (.t 13))⟩,
   ⟨(some 59), none, (.load1 (.t 58))⟩,
   ⟨(some 60), none, (.un .not (.t 59))⟩,
   ⟨(some 61), none, (.fieldAddr 0 1 (.t 13))⟩,
   ⟨none, none, (.store 1 (.t 61) (.t 60))⟩])
 (.reg [⟨(some 37), none, (.buildSlice 1 [(.int .u8 0)] 0 [])⟩,
   ⟨(some 38), none, (.fieldAddr 8 1 (.t 13))⟩,
   ⟨(some 39), none, (.load1 (.t 38))⟩,
   ⟨(some 40), none, (.append 1 1 (.t 37) (.t 39))⟩,
   ⟨(some 41), none, (.buildSlice 1 [(.int .u8 0)] 1 [(0, (1, (.c (.int .u8 7))))])⟩,
   ⟨(some 42), none, (.append 1 1 (.t 40) (.t 41))⟩,
   ⟨(some 43), none, (.fieldAddr 8 1 (.t 13))⟩,
   ⟨none, none, (.store 1 (.t 43) (.t 42))⟩])))))))))
 tE7))))))
set_option maxHeartbeats 8000000 in
theorem end7 (k : Nat) {T : Tm} {S : St} {o7 o8 o13 : Nat} {P Q R : Pk} {c e l c' e' l' c'' e'' l'' : AV} {pa pb : Option (Nat × Nat × Nat)} {ea eb : Nat} {ca cb : Option Nat} (hP : Pv S P c e l) (hQ : Pv S Q c' e' l') (hR : Pv S R c'' e'' l'') (okP : Ok0 P) (okQ : Ok0 Q) (okR : Ok0 R) (sz : P.cs.length ≤ 3 ∧ P.ex.length ≤ 80 ∧ P.pl.length ≤ 30) (hne : ¬ P = R)
    (n7 : o7 < S.next) (n8 : o8 < S.next) (n13 : o13 < S.next) (g7 : S.get o7 = some (.cells (pkc P c e l) 0 0 true)) (g8 : S.get o8 = some (.cells (pkc Q c' e' l') 0 0 true)) (g13 : S.get o13 = some (.cells (pkc R c'' e'' l'') 0 0 true)) (ha : By S pa ea (bytesP P)) (hb : By S pb eb (bytesP Q))
    (t7 : T.get 7 = some (.ptr (some ⟨o7, 0, 0, 9⟩))) (t8 : T.get 8 = some (.ptr (some ⟨o8, 0, 0, 9⟩))) (t9 : T.get 9 = some (.slice pa (bytesP P).length ea ca)) (t10 : T.get 10 = some (.int .i64 0)) (t11 : T.get 11 = some (.slice pb (bytesP Q).length eb cb)) (t12 : T.get 12 = some (.int .i64 0)) (t13 : T.get 13 = some (.ptr (some ⟨o13, 0, 0, 9⟩))) :
    Goes (evF Y AP (k + 8000)) (k + 8000) tE7 T S fun r T S2 => ∃ w S3, fin [.tmp 6] (r, T, S2) = some (w, S3) ∧ w = .bool true := by
  have r7 : ∀ {X : St}, Ext S X → ∀ v i m, X.rd o7 v i m = rdO (.cells (pkc P c e l) 0 0 true) v i m := fun x => rd_of (x.get n7 g7)
  have r8 : ∀ {X : St}, Ext S X → ∀ v i m, X.rd o8 v i m = rdO (.cells (pkc Q c' e' l') 0 0 true) v i m := fun x => rd_of (x.get n8 g8)
  have r13 : ∀ {X : St}, Ext S X → ∀ v i m, X.rd o13 v i m = rdO (.cells (pkc R c'' e'' l'') 0 0 true) v i m := fun x => rd_of (x.get n13 g13)
  have q130 := r13 (.refl S)
  obtain ⟨vc, S1, q18, N1⟩ := T18 (k + 7975) hR
  rw [if_pos (right_ok okR)] at N1
  rw [right_ok okR] at q18
  have q18 : evF Y AP (k + 8000) 18 [.agg (pkc R c'' e'' l'')] S = _ := q18
  have x1 := N1.ext
  have q71 := r7 x1; have q81 := r8 x1
  obtain ⟨S2, q17, x2⟩ := T17 (k + 8000 - P.cs.length - P.ex.length - P.pl.length - 4) (hP.ext x1) (hQ.ext x1)
  have fu : k + 8000 - P.cs.length - P.ex.length - P.pl.length - 4 + P.cs.length + P.ex.length + P.pl.length + 4 = k + 8000 := by omega
  rw [fu] at q17
  have x12 := x1.trans x2
  have q72 := r7 x12; have q82 := r8 x12; have q132 := r13 x12
  have q131 := r13 x1
  obtain ⟨S3, q16, x3⟩ := T16 (k + 8000 - P.cs.length - P.ex.length - P.pl.length - 4) (hP.ext x12) (hR.ext x12)
  rw [fu, decide_eq_false hne] at q16
  have sa1 := (ha.ext x1).str ca
  have sb1 := (hb.ext x1).str cb
  have sa2 := (ha.ext x12).str ca
  have sb2 := (hb.ext x12).str cb
  have sc2 := (N1.bs.ext x2).str
  have sc1 := N1.bs.str
  have hab : eqStr (bytesP P) (bytesP Q) = decide (P = Q) := by
    rw [eqStr_dec]
    refine decide_eq_decide.2 ⟨fun h => bytesP_inj okP hP.rn okQ hQ.rn h, fun h => by rw [h]⟩
  have hac : eqStr (bytesP P) (bytesP R) = false := by
    rw [eqStr_dec]
    exact decide_eq_false fun h => hne (bytesP_inj okP hP.rn okR hR.rn h)
  have hpp : eqStr (bytesP P) (bytesP P) = true := by rw [eqStr_dec]; exact decide_eq_true rfl
  have hqq : eqStr (bytesP Q) (bytesP Q) = true := by rw [eqStr_dec]; exact decide_eq_true rfl
  have q14 : evF Y AP (k + 8000) 14 [] S3 = _ := y14 (k + 7999) S3
  simp -implicitDefEqProofs -dsimp (maxSteps := 10000000) only [tE7, ↓kS, after_some, br_true, br_false, kC, ↓kQ, ↓Option.bind_some, ↓Option.map_some, ↓cond_true, ↓cond_false, evC, evOp, XO.lit, setArgs, Tr.get_set, Option.bind_some, Option.map_some, cond_true, cond_false, maxI, maxFrom, minI, minFrom, aBinE, aEq, eqScal, aUn, evRes, fin, oneOf, if_true, if_false, callee, reduceCtorEq, Nat.reduceEqDiff, List.getElem?_cons_zero, List.getElem?_cons_succ, beq_self_eq_true, gt_iff_lt, List.head?_cons, AV.undef, eq_self, ne_eq, Int.reduceLT, Int.reduceLE, Int.reduceToNat, Int.reduceEq, Int.reduceNeg, Nat.reduceAdd, Nat.reduceLT, Nat.reduceLeDiff, Nat.reduceMul, Nat.reduceSub, ↓evDraw_nil, bir, putD, evDraw, trace, List.all_cons, List.all_nil, chk, stAt, again, sameV, sameL, sameA, AV.undef, Bool.and_self, Bool.and_true, decide_eq_true_eq, List.getElem?_nil, kM, AV.cells, AV.tup, List.drop_nil, List.append_nil, rdO, St.wr, List.length_cons, List.length_nil, List.take_succ_cons, List.take_zero, List.drop_succ_cons, List.drop_zero, List.cons_append, List.nil_append, Nat.reduceMul, aFill, evParts, rep, List.replicate_succ, List.replicate_zero, List.flatten_cons, List.flatten_nil, List.append_nil, newSl, newVar, t7, t8, t9, t10, t11, t12, t13, q130, q18, q71, q81, q131, sa1, sb1, sc1, aStr, hab, q17, q72, q82, q132, sa2, sb2, sc2, hac, hpp, hqq, q16, q14]
  exact ⟨_, _, rfl, rfl⟩
theorem or_ne {n : Int} (h : 0 ≤ n ∧ n < 65536) : ¬ n = IntKind.u16.wrap (n + 1) := by
  have : IntKind.u16.wrap (n + 1) = (n + 1) % 65536 := wrap_u16 _
  rw [this]; omega
theorem or_ne' {n : Int} (h : 0 ≤ n ∧ n < 4294967296) : ¬ n = IntKind.u32.wrap (n + 1) := by
  rw [IntKind.wrap_u32]; omega
set_option maxHeartbeats 16000000 in
theorem ev7 (k : Nat) {pt : Option (Nat × Nat × Nat)} {lt : Nat} {pu : Option (Nat × Nat × Nat)} {lu : Nat} {what : Int} {S : St} (ht : Sl S pt lt [.int .i64]) (hpt : ∀ o v i, pt = some (o, v, i) → o < S.next) (hu : Sl S pu lu [.int .i64]) (hpu : ∀ o v i, pu = some (o, v, i) → o < S.next) :
    ∃ S', evF Y AP (k + 8001) 7 [.slice pt lt 1 none, .slice pu lu 1 none, .int .i64 what] S = some (.bool true, S') := by
  suffices hh : ∃ w S', evF Y AP (k + 8001) 7 [.slice pt lt 1 none, .slice pu lu 1 none, .int .i64 what] S = some (w, S') ∧ w = .bool true by
    obtain ⟨w, S', h1, rfl⟩ := hh; exact ⟨S', h1⟩
  obtain ⟨A, P, c, e, l, S2, hA, q9, hP, okP, sz, x2⟩ := rtp_of (k + 7870) ht hpt
  have q9 : evF Y AP (k + 8000) 9 [.ptr (some ⟨S.next, 0, 0, 2⟩)] A = _ := q9
  obtain ⟨A', Q, c', e', l', S3, hA', q9', hQ, okQ, sz', x3⟩ := rtp_of (k + 7870) (hu.ext x2) fun o v i hp => by have := hpu o v i hp; have := x2.next; omega
  have q9' : evF Y AP (k + 8000) 9 [.ptr (some ⟨S2.next, 0, 0, 2⟩)] A' = _ := q9'
  obtain ⟨C, hC⟩ : ∃ C, (S3.alloc (.cells [.bool false, .int .i64 0, .int .u16 0, .int .u32 0, .int .u32 0, .slice none 0 0 none, .int .u16 0, .slice none 0 0 none, .slice none 0 0 none] 0 0 true)).alloc (.cells [.bool false, .int .i64 0, .int .u16 0, .int .u32 0, .int .u32 0, .slice none 0 0 none, .int .u16 0, .slice none 0 0 none, .slice none 0 0 none] 0 0 true) = C := ⟨_, rfl⟩
  have eC : Ext S3 C := by rw [← hC]; exact (Ext.alloc _ _).then_alloc _
  have nC : C.next = S3.next + 2 := by rw [← hC]; rfl
  have ne1 : ¬ S3.next = S3.next + 1 := by omega
  have ne2 : ¬ S3.next + 1 = S3.next := by omega
  have gC7 : C.get S3.next = some (.cells [.bool false, .int .i64 0, .int .u16 0, .int .u32 0, .int .u32 0, .slice none 0 0 none, .int .u16 0, .slice none 0 0 none, .slice none 0 0 none] 0 0 true) := by rw [← hC, St.get_alloc, if_neg (show ¬ S3.next = (S3.alloc _).next from ne1), St.get_alloc, if_pos rfl]
  have gC8 : C.get (S3.next + 1) = some (.cells [.bool false, .int .i64 0, .int .u16 0, .int .u32 0, .int .u32 0, .slice none 0 0 none, .int .u16 0, .slice none 0 0 none, .slice none 0 0 none] 0 0 true) := by rw [← hC, St.get_alloc]; exact if_pos rfl
  obtain ⟨D1, hD1⟩ : ∃ X, C.put S3.next (.cells (pkc P c e l) 0 0 true) = X := ⟨_, rfl⟩
  have gD18 : D1.get (S3.next + 1) = some (.cells [.bool false, .int .i64 0, .int .u16 0, .int .u32 0, .int .u32 0, .slice none 0 0 none, .int .u16 0, .slice none 0 0 none, .slice none 0 0 none] 0 0 true) := by rw [← hD1, St.get_put, if_neg ne2]; exact gC8
  obtain ⟨D, hD⟩ : ∃ X, D1.put (S3.next + 1) (.cells (pkc Q c' e' l') 0 0 true) = X := ⟨_, rfl⟩
  have xD : Ext S3 D := by rw [← hD, ← hD1]; exact (eC.then_put (Nat.le_refl _) _).then_put (by omega) _
  have nD : D.next = S3.next + 2 := by rw [← hD, ← hD1]; exact nC
  have gD7 : D.get S3.next = some (.cells (pkc P c e l) 0 0 true) := by rw [← hD, ← hD1, St.get_put, if_neg ne1, St.get_put, if_pos rfl]
  have gD8 : D.get (S3.next + 1) = some (.cells (pkc Q c' e' l') 0 0 true) := by rw [← hD, St.get_put, if_pos rfl]
  have r7 : ∀ {X : St}, Ext D X → ∀ v i m, X.rd S3.next v i m = rdO (.cells (pkc P c e l) 0 0 true) v i m := fun x => rd_of (x.get (by omega) gD7)
  have r8 : ∀ {X : St}, Ext D X → ∀ v i m, X.rd (S3.next + 1) v i m = rdO (.cells (pkc Q c' e' l') 0 0 true) v i m := fun x => rd_of (x.get (by omega) gD8)
  have hPD := hP.ext (x3.trans xD)
  have hQD := hQ.ext xD
  obtain ⟨va, S4, q18, N4⟩ := T18 (k + 7975) hPD
  rw [if_pos (right_ok okP)] at N4
  rw [right_ok okP] at q18
  have q18 : evF Y AP (k + 8000) 18 [.agg (pkc P c e l)] D = _ := q18
  obtain ⟨pa, ea, ca, rfl, ha⟩ := N4.bs
  have x4 := N4.ext
  obtain ⟨vb, S5, q18', N5⟩ := T18 (k + 7975) (hQD.ext x4)
  rw [if_pos (right_ok okQ)] at N5
  rw [right_ok okQ] at q18'
  have q18' : evF Y AP (k + 8000) 18 [.agg (pkc Q c' e' l')] S4 = _ := q18'
  obtain ⟨pb, eb, cb, rfl, hb⟩ := N5.bs
  have x5 := N5.ext
  have xD5 := x4.trans x5
  obtain ⟨E, F, hE, gE, hF, xF, nF, gF⟩ := spot S5 P c e l
  have xDF := xD5.trans xF
  have r70 := r7 (.refl D); have r84 := r8 x4; have r75 := r7 xD5
  have r15 : evF Y AP (k + 8000) 15 [.int .i64 what, .int .i64 0, .int .i64 3] F = some (.int .i64 (within what 0 3), F) := T15 (k + 7996) F (by decide) (by decide) (by decide)
  have bw := within_bd what (show (0 : Int) ≤ 3 by decide)
  obtain ⟨y, hy⟩ : ∃ y, within what 0 3 = y := ⟨_, rfl⟩
  rw [hy] at r15 bw
  have rF : ∀ v i m, F.rd S5.next v i m = rdO (.cells (pkc P c e l) 0 0 true) v i m := rd_of gF
  have n5D := xD5.next
  -- what lies there when one thing is turned
  have fin_ : ∀ (X : St) (R : Pk) (c2 e2 l2 : AV) (T : Tm), Ext F X → ¬ P = R → Ok0 R → Pv (X.put S5.next (.cells (pkc R c2 e2 l2) 0 0 true)) R c2 e2 l2 → T.get 7 = some (.ptr (some ⟨S3.next, 0, 0, 9⟩)) → T.get 8 = some (.ptr (some ⟨S3.next + 1, 0, 0, 9⟩)) → T.get 9 = some (.slice pa (bytesP P).length ea ca) → T.get 10 = some (.int .i64 0) → T.get 11 = some (.slice pb (bytesP Q).length eb cb) → T.get 12 = some (.int .i64 0) → T.get 13 = some (.ptr (some ⟨S5.next, 0, 0, 9⟩)) →
      Goes (evF Y AP (k + 8000)) (k + 8000) tE7 T (X.put S5.next (.cells (pkc R c2 e2 l2) 0 0 true)) fun r T S2 => ∃ w S3, fin [.tmp 6] (r, T, S2) = some (w, S3) ∧ w = .bool true := by
    intro X R c2 e2 l2 T x hne okR hR t7 t8 t9 t10 t11 t12 t13
    have xX : Ext S5 (X.put S5.next (.cells (pkc R c2 e2 l2) 0 0 true)) := (xF.trans x).then_put (Nat.le_refl _) _
    have hX := x.next
    exact end7 k (hPD.ext (xD5.trans xX)) (hQD.ext (xD5.trans xX)) hR okP okQ okR sz hne (by show S3.next < X.next; omega) (by show S3.next + 1 < X.next; omega) (by show S5.next < X.next; omega) ((xD5.trans xX).get (by omega) gD7) ((xD5.trans xX).get (by omega) gD8) (by rw [St.get_put, if_pos rfl]) (ha.ext (x5.trans xX)) (hb.ext xX) t7 t8 t9 t10 t11 t12 t13
  have xP : ∀ (X : St) (z : AO), Ext F X → Ext S5 (X.put S5.next z) := fun X z x => (xF.trans x).then_put (Nat.le_refl _) _
  have hy4 : y = 0 ∨ y = 1 ∨ y = 2 ∨ y = 3 := by omega
  refine evF_goes (af := af7) (k := k + 8000) rfl rfl rfl ?_
  rw [show af7.body = b7 from rfl]
  have rn := hP.rn
  rcases hy4 with rfl | rfl | rfl | rfl
  · simp -implicitDefEqProofs -dsimp (maxSteps := 10000000) only [b7, af7, ↓kS, after_some, br_true, br_false, kC, ↓kQ, ↓Option.bind_some, ↓Option.map_some, ↓cond_true, ↓cond_false, evC, evOp, XO.lit, setArgs, Tr.tabG, Tr.tabS, Tr.tabL, Tr.get_lf, Option.bind_some, Option.map_some, cond_true, cond_false, maxI, maxFrom, minI, minFrom, aConv, aBinE, aEq, eqScal, aUn, evRes, fin, oneOf, if_true, if_false, callee, reduceCtorEq, Nat.reduceEqDiff, List.getElem?_cons_zero, List.getElem?_cons_succ, beq_self_eq_true, gt_iff_lt, List.head?_cons, AV.undef, eq_self, ne_eq, Int.reduceLT, Int.reduceLE, Int.reduceToNat, Int.reduceEq, Int.reduceNeg, Nat.reduceAdd, Nat.reduceLT, Nat.reduceLeDiff, Nat.reduceMul, Nat.reduceSub, ↓evDraw_nil, bir, putD, evDraw, trace, List.all_cons, List.all_nil, chk, stAt, again, sameV, sameL, sameA, AV.undef, Bool.and_self, Bool.and_true, decide_eq_true_eq, List.getElem?_nil, kM, AV.cells, AV.tup, List.drop_nil, List.append_nil, rdO, St.wr, List.length_cons, List.length_nil, List.take_succ_cons, List.take_zero, List.drop_succ_cons, List.drop_zero, List.cons_append, List.nil_append, Nat.reduceMul, aFill, evParts, rep, List.replicate_succ, List.replicate_zero, List.flatten_cons, List.flatten_nil, List.append_nil, newSl, newVar, hA, q9, hA', q9', hC, gC7, hD1, gD18, hD, r70, q18, r84, q18', r75, hE, gE, hF, r15, rF, gF]
    have x := xP F (.cells (pkc { P with sq := IntKind.u16.wrap (P.sq + 1) } c e l) 0 0 true) (.refl F)
    have hPx := hPD.ext (xD5.trans x)
    refine fin_ F { P with sq := IntKind.u16.wrap (P.sq + 1) } c e l _ (.refl F) (fun h => or_ne rn.sq (congrArg Pk.sq h)) ⟨okP.t0, okP.t1, okP.cl, okP.e4, okP.e0, okP.sz⟩ ⟨hPx.c, hPx.e, hPx.l, hPx.ty, by show 0 ≤ IntKind.u16.wrap (P.sq + 1) ∧ IntKind.u16.wrap (P.sq + 1) < 65536; rw [wrap_u16]; omega, hPx.tm, hPx.ss, hPx.pf, hPx.cl, hPx.el, hPx.ll⟩ ?_ ?_ ?_ ?_ ?_ ?_ ?_ <;> rfl
  · simp -implicitDefEqProofs -dsimp (maxSteps := 10000000) only [b7, af7, ↓kS, after_some, br_true, br_false, kC, ↓kQ, ↓Option.bind_some, ↓Option.map_some, ↓cond_true, ↓cond_false, evC, evOp, XO.lit, setArgs, Tr.tabG, Tr.tabS, Tr.tabL, Tr.get_lf, Option.bind_some, Option.map_some, cond_true, cond_false, maxI, maxFrom, minI, minFrom, aConv, aBinE, aEq, eqScal, aUn, evRes, fin, oneOf, if_true, if_false, callee, reduceCtorEq, Nat.reduceEqDiff, List.getElem?_cons_zero, List.getElem?_cons_succ, beq_self_eq_true, gt_iff_lt, List.head?_cons, AV.undef, eq_self, ne_eq, Int.reduceLT, Int.reduceLE, Int.reduceToNat, Int.reduceEq, Int.reduceNeg, Nat.reduceAdd, Nat.reduceLT, Nat.reduceLeDiff, Nat.reduceMul, Nat.reduceSub, ↓evDraw_nil, bir, putD, evDraw, trace, List.all_cons, List.all_nil, chk, stAt, again, sameV, sameL, sameA, AV.undef, Bool.and_self, Bool.and_true, decide_eq_true_eq, List.getElem?_nil, kM, AV.cells, AV.tup, List.drop_nil, List.append_nil, rdO, St.wr, List.length_cons, List.length_nil, List.take_succ_cons, List.take_zero, List.drop_succ_cons, List.drop_zero, List.cons_append, List.nil_append, Nat.reduceMul, aFill, evParts, rep, List.replicate_succ, List.replicate_zero, List.flatten_cons, List.flatten_nil, List.append_nil, newSl, newVar, hA, q9, hA', q9', hC, gC7, hD1, gD18, hD, r70, q18, r84, q18', r75, hE, gE, hF, r15, rF, gF]
    have x := xP F (.cells (pkc { P with tm := IntKind.u32.wrap (P.tm + 1) } c e l) 0 0 true) (.refl F)
    have hPx := hPD.ext (xD5.trans x)
    refine fin_ F { P with tm := IntKind.u32.wrap (P.tm + 1) } c e l _ (.refl F) (fun h => or_ne' rn.tm (congrArg Pk.tm h)) ⟨okP.t0, okP.t1, okP.cl, okP.e4, okP.e0, okP.sz⟩ ⟨hPx.c, hPx.e, hPx.l, hPx.ty, hPx.sq, u32_rng _, hPx.ss, hPx.pf, hPx.cl, hPx.el, hPx.ll⟩ ?_ ?_ ?_ ?_ ?_ ?_ ?_ <;> rfl
  · simp -implicitDefEqProofs -dsimp (maxSteps := 10000000) only [b7, af7, ↓kS, after_some, br_true, br_false, kC, ↓kQ, ↓Option.bind_some, ↓Option.map_some, ↓cond_true, ↓cond_false, evC, evOp, XO.lit, setArgs, Tr.tabG, Tr.tabS, Tr.tabL, Tr.get_lf, Option.bind_some, Option.map_some, cond_true, cond_false, maxI, maxFrom, minI, minFrom, aConv, aBinE, aEq, eqScal, aUn, evRes, fin, oneOf, if_true, if_false, callee, reduceCtorEq, Nat.reduceEqDiff, List.getElem?_cons_zero, List.getElem?_cons_succ, beq_self_eq_true, gt_iff_lt, List.head?_cons, AV.undef, eq_self, ne_eq, Int.reduceLT, Int.reduceLE, Int.reduceToNat, Int.reduceEq, Int.reduceNeg, Nat.reduceAdd, Nat.reduceLT, Nat.reduceLeDiff, Nat.reduceMul, Nat.reduceSub, ↓evDraw_nil, bir, putD, evDraw, trace, List.all_cons, List.all_nil, chk, stAt, again, sameV, sameL, sameA, AV.undef, Bool.and_self, Bool.and_true, decide_eq_true_eq, List.getElem?_nil, kM, AV.cells, AV.tup, List.drop_nil, List.append_nil, rdO, St.wr, List.length_cons, List.length_nil, List.take_succ_cons, List.take_zero, List.drop_succ_cons, List.drop_zero, List.cons_append, List.nil_append, Nat.reduceMul, aFill, evParts, rep, List.replicate_succ, List.replicate_zero, List.flatten_cons, List.flatten_nil, List.append_nil, newSl, newVar, hA, q9, hA', q9', hC, gC7, hD1, gD18, hD, r70, q18, r84, q18', r75, hE, gE, hF, r15, rF, gF]
    have x := xP F (.cells (pkc { P with mrk := !P.mrk } c e l) 0 0 true) (.refl F)
    have hPx := hPD.ext (xD5.trans x)
    refine fin_ F { P with mrk := !P.mrk } c e l _ (.refl F) (fun h => by have h2 : P.mrk = !P.mrk := congrArg Pk.mrk h; revert h2; cases P.mrk <;> decide) ⟨okP.t0, okP.t1, okP.cl, okP.e4, okP.e0, okP.sz⟩ ⟨hPx.c, hPx.e, hPx.l, hPx.ty, hPx.sq, hPx.tm, hPx.ss, hPx.pf, hPx.cl, hPx.el, hPx.ll⟩ ?_ ?_ ?_ ?_ ?_ ?_ ?_ <;> rfl
  · obtain ⟨pl, el, cl, rfl, bl⟩ := hPD.l
    obtain ⟨B, hB⟩ : ∃ B, F.alloc (.cells [] 0 0 true) = B := ⟨_, rfl⟩
    have eB : Ext F B := by rw [← hB]; exact .alloc _ _
    have rB : ∀ v i m, B.rd S5.next v i m = rdO (.cells (pkc P c e (.slice pl P.pl.length el cl)) 0 0 true) v i m := rd_of (eB.get nF gF)
    have blB := bl.ext (xDF.trans eB)
    obtain ⟨p1, e1, S6, q1, G1⟩ := (Gr.empty F).app (m := P.pl) bl.bd (by simp only [List.length_nil]; omega)
    rw [List.nil_append, hB] at q1
    rw [List.nil_append] at G1
    have q1 : aAppend 1 1 B (.slice (some (F.next, 0, 0)) 0 1 none) P.pl.length (bv P.pl) = _ := q1
    obtain ⟨H, hH⟩ : ∃ H, S6.alloc (.cells [.int .u8 7] 0 0 true) = H := ⟨_, rfl⟩
    have eH : Ext S6 H := by rw [← hH]; exact .alloc _ _
    have rH : H.rd S6.next 0 0 1 = some [.int .u8 7] := by rw [← hH, rd_alloc, if_pos rfl]; rfl
    obtain ⟨p2, e2, S7, q2, G2⟩ := (G1.more eH).app1 (b := 7) (by decide) (by omega)
    have q2 : aAppend 1 1 H (.slice p1 P.pl.length e1 none) 1 [.int .u8 7] = some (.slice p2 (P.pl.length + 1) e2 none, S7) := q2
    have g7 := G2.ext.get nF gF
    have hl2 : (P.pl ++ [7]).length = P.pl.length + 1 := by rw [List.length_append]; rfl
    have b2 := G2.by_ (by rw [hl2]; omega)
    have x := xP S7 (.cells (pkc { P with pl := P.pl ++ [7] } c e (.slice p2 (P.pl.length + 1) e2 none)) 0 0 true) G2.ext
    have hPx := hPD.ext (xD5.trans x)
    have o7 : Old (· = S5.next) S7 (S7.put S5.next (.cells (pkc { P with pl := P.pl ++ [7] } c e (.slice p2 (P.pl.length + 1) e2 none)) 0 0 true)) := .put (N := (· = S5.next)) _ rfl _
    have okR : Ok0 { P with pl := P.pl ++ [7] } := ⟨okP.t0, okP.t1, okP.cl, okP.e4, okP.e0, by
      have := okP.e0
      show 12 + 4 * (P.cs.length : Int) + ((P.pl ++ [7]).length : Int) + (if P.pf = 0 then (0 : Int) else 4 + (P.ex.length : Int)) ≤ 1500
      rw [hl2]; split <;> omega⟩
    have hR : Pv (S7.put S5.next (.cells (pkc { P with pl := P.pl ++ [7] } c e (.slice p2 (P.pl.length + 1) e2 none)) 0 0 true)) { P with pl := P.pl ++ [7] } c e (.slice p2 (P.pl.length + 1) e2 none) :=
      ⟨hPx.c, hPx.e, ⟨p2, e2, none, by show _ = AV.slice _ (P.pl ++ [7]).length _ _; rw [hl2], o7.by_ b2 fun o v i hp he => by have := G2.new o v i hp; omega⟩, hPx.ty, hPx.sq, hPx.tm, hPx.ss, hPx.pf, hPx.cl, hPx.el, by show (P.pl ++ [7]).length ≤ _; rw [hl2]; omega⟩
    have hne : ¬ P = { P with pl := P.pl ++ [7] } := fun h => by have := congrArg (fun p : Pk => p.pl.length) h; simp only [hl2] at this; omega
    rcases pl with _ | ⟨oo, vv, ii⟩
    · have hx0 := bl.nil rfl
      have q1 : aAppend 1 1 B (.slice (some (F.next, 0, 0)) 0 1 none) 0 [] = some (.slice p1 P.pl.length e1 none, S6) := by rw [hx0] at q1 ⊢; exact q1
      simp -implicitDefEqProofs -dsimp (maxSteps := 10000000) only [b7, af7, ↓kS, after_some, br_true, br_false, kC, ↓kQ, ↓Option.bind_some, ↓Option.map_some, ↓cond_true, ↓cond_false, evC, evOp, XO.lit, setArgs, Tr.tabG, Tr.tabS, Tr.tabL, Tr.get_lf, Option.bind_some, Option.map_some, cond_true, cond_false, maxI, maxFrom, minI, minFrom, aConv, aBinE, aEq, eqScal, aUn, evRes, fin, oneOf, if_true, if_false, callee, reduceCtorEq, Nat.reduceEqDiff, List.getElem?_cons_zero, List.getElem?_cons_succ, beq_self_eq_true, gt_iff_lt, List.head?_cons, AV.undef, eq_self, ne_eq, Int.reduceLT, Int.reduceLE, Int.reduceToNat, Int.reduceEq, Int.reduceNeg, Nat.reduceAdd, Nat.reduceLT, Nat.reduceLeDiff, Nat.reduceMul, Nat.reduceSub, ↓evDraw_nil, bir, putD, evDraw, trace, List.all_cons, List.all_nil, chk, stAt, again, sameV, sameL, sameA, AV.undef, Bool.and_self, Bool.and_true, decide_eq_true_eq, List.getElem?_nil, kM, AV.cells, AV.tup, List.drop_nil, List.append_nil, rdO, St.wr, List.length_cons, List.length_nil, List.take_succ_cons, List.take_zero, List.drop_succ_cons, List.drop_zero, List.cons_append, List.nil_append, Nat.reduceMul, aFill, evParts, rep, List.replicate_succ, List.replicate_zero, List.flatten_cons, List.flatten_nil, List.append_nil, newSl, newVar, hA, q9, hA', q9', hC, gC7, hD1, gD18, hD, r70, q18, r84, q18', r75, hE, gE, hF, r15, hB, rB, q1, hH, Nat.mul_one, rH, q2, g7]
      refine fin_ S7 { P with pl := P.pl ++ [7] } c e (.slice p2 (P.pl.length + 1) e2 none) _ G2.ext hne okR hR ?_ ?_ ?_ ?_ ?_ ?_ ?_ <;> rfl
    · obtain rfl := bl.ez.resolve_left (by simp)
      have hr := (blB.at_ oo vv ii rfl).2
      simp -implicitDefEqProofs -dsimp (maxSteps := 10000000) only [b7, af7, ↓kS, after_some, br_true, br_false, kC, ↓kQ, ↓Option.bind_some, ↓Option.map_some, ↓cond_true, ↓cond_false, evC, evOp, XO.lit, setArgs, Tr.tabG, Tr.tabS, Tr.tabL, Tr.get_lf, Option.bind_some, Option.map_some, cond_true, cond_false, maxI, maxFrom, minI, minFrom, aConv, aBinE, aEq, eqScal, aUn, evRes, fin, oneOf, if_true, if_false, callee, reduceCtorEq, Nat.reduceEqDiff, List.getElem?_cons_zero, List.getElem?_cons_succ, beq_self_eq_true, gt_iff_lt, List.head?_cons, AV.undef, eq_self, ne_eq, Int.reduceLT, Int.reduceLE, Int.reduceToNat, Int.reduceEq, Int.reduceNeg, Nat.reduceAdd, Nat.reduceLT, Nat.reduceLeDiff, Nat.reduceMul, Nat.reduceSub, ↓evDraw_nil, bir, putD, evDraw, trace, List.all_cons, List.all_nil, chk, stAt, again, sameV, sameL, sameA, AV.undef, Bool.and_self, Bool.and_true, decide_eq_true_eq, List.getElem?_nil, kM, AV.cells, AV.tup, List.drop_nil, List.append_nil, rdO, St.wr, List.length_cons, List.length_nil, List.take_succ_cons, List.take_zero, List.drop_succ_cons, List.drop_zero, List.cons_append, List.nil_append, Nat.reduceMul, aFill, evParts, rep, List.replicate_succ, List.replicate_zero, List.flatten_cons, List.flatten_nil, List.append_nil, newSl, newVar, hA, q9, hA', q9', hC, gC7, hD1, gD18, hD, r70, q18, r84, q18', r75, hE, gE, hF, r15, hB, rB, Nat.mul_one, hr, q1, hH, rH, q2, g7]
      refine fin_ S7 { P with pl := P.pl ++ [7] } c e (.slice p2 (P.pl.length + 1) e2 none) _ G2.ext hne okR hR ?_ ?_ ?_ ?_ ?_ ?_ ?_ <;> rfl
theorem law7 {what : Int} {p1 p2 : Option (Nat × Nat × Nat)} {n1 n2 : Nat} {xs ys : List AV} (h1 : Arg p1 0 n1 [.int .i64] xs) (h2 : Arg p2 1 n2 [.int .i64] ys) (_ : (Lit.int .i64 what).wf = true) :
    ∃ S', evF Y AP 8001 7 [.slice p1 n1 1 none, .slice p2 n2 1 none, .int .i64 what] ((S0.alloc (.cells xs 0 0 false)).alloc (.cells ys 0 0 false)) = some (.bool true, S') := by
  refine ev7 0 (.of_arg h1 (by simp only [St.get_alloc]; rfl) (by show 0 < 2; decide)) (fun o v i hp => ?_) (.of_arg h2 (by rw [St.get_alloc]; rfl) (by show 1 < 2; decide)) (fun o v i hp => ?_)
  · rcases h1.at0 with h0 | h0
    · rw [hp] at h0; cases h0
    · rw [hp] at h0; cases h0; show 0 < 2; decide
  · rcases h2.at0 with h0 | h0
    · rw [hp] at h0; cases h0
    · rw [hp] at h0; cases h0; show 1 < 2; decide
end Go.Proofs.YthejkmfmcjpfhaaA
