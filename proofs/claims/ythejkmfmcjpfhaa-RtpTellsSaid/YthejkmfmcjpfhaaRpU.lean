/- Chapter 3: RtpBack. -/
import Derived.Test.YthejkmfmcjpfhaaRpT
set_option linter.unusedVariables false
set_option linter.unusedSimpArgs false
set_option maxRecDepth 10000
namespace Go.Proofs.YthejkmfmcjpfhaaA
open Go.RowKit
attribute [local congr] bind_congr1 map_congr1 cond_congr1 withX_congr after_congr br_congr gd_congr

theorem rtp_of' (k : Nat) {S : St} {pt : Option (Nat × Nat × Nat)} {lt : Nat} (ht : Sl S pt lt [.int .i64]) (hpt : ∀ o v i, pt = some (o, v, i) → o < S.next) :
    ∃ A P c e l S2, S.alloc (.cells [.slice pt lt 1 none, .int .i64 0] 0 0 true) = A ∧ evF Y AP (k + 130) 9 [.ptr (some ⟨S.next, 0, 0, 2⟩)] A = some (.agg (pkc P c e l), S2) ∧ (∀ S', Old (· < A.next) S2 S' → Pv S' P c e l) ∧ Ok0 P ∧ (P.cs.length ≤ 3 ∧ P.ex.length ≤ 80 ∧ P.pl.length ≤ 30) ∧ Ext S S2 := by
  obtain ⟨A, hA⟩ : ∃ A, S.alloc (.cells [.slice pt lt 1 none, .int .i64 0] 0 0 true) = A := ⟨_, rfl⟩
  have eA : Ext S A := by rw [← hA]; exact .alloc _ _
  have nA : A.next = S.next + 1 := by rw [← hA]; rfl
  have tp : Tpe A pt lt S.next := ⟨ht.ext eA, fun o v i h => by have := hpt o v i h; omega, ⟨0, by rw [← hA, St.get_alloc, if_pos rfl]; rfl, by omega⟩, by omega⟩
  obtain ⟨w, S2, q9, P, c, e, l, rfl, hP, ok, s1, s2, s3, oT⟩ := T9 k tp fun o v i h => by have := hpt o v i h; omega
  exact ⟨A, P, c, e, l, S2, hA, q9, hP, ok, ⟨s1, s2, s3⟩, oT.ext eA fun o h => by rw [h]; exact Nat.le_refl _⟩
theorem rtp_of (k : Nat) {S : St} {pt : Option (Nat × Nat × Nat)} {lt : Nat} (ht : Sl S pt lt [.int .i64]) (hpt : ∀ o v i, pt = some (o, v, i) → o < S.next) :
    ∃ A P c e l S2, S.alloc (.cells [.slice pt lt 1 none, .int .i64 0] 0 0 true) = A ∧ evF Y AP (k + 130) 9 [.ptr (some ⟨S.next, 0, 0, 2⟩)] A = some (.agg (pkc P c e l), S2) ∧ Pv S2 P c e l ∧ Ok0 P ∧ (P.cs.length ≤ 3 ∧ P.ex.length ≤ 80 ∧ P.pl.length ≤ 30) ∧ Ext S S2 := by
  obtain ⟨A, P, c, e, l, S2, h1, h2, h3, h4⟩ := rtp_of' k ht hpt
  exact ⟨A, P, c, e, l, S2, h1, h2, h3 S2 (.refl _ _), h4⟩
theorem T19p (k : Nat) {S : St} {p : Option (Nat × Nat × Nat)} {e : Nat} {c : Option Nat} {l : List Nat} (h : By S p e l) :
    ∃ c1 e1 l1 S', evF Y AP (k + 22) 19 [.slice p l.length e c] S = some (.tuple [.agg (pkc (readP l).1 c1 e1 l1), .int .i64 (readP l).2], S') ∧ Pv S' (readP l).1 c1 e1 l1 ∧ Ext S S' := by
  obtain ⟨w1, S1, q1, c1, e1, l1, rfl, u1, b1, y1, x1⟩ := T19 k (c := c) h
  exact ⟨c1, e1, l1, S1, q1, (readP_rng h.bd).pv u1 b1 y1, x1⟩
theorem spot (S : St) (P : Pk) (c e l : AV) : ∃ C D, S.alloc (.cells [.bool false, .int .i64 0, .int .u16 0, .int .u32 0, .int .u32 0, .slice none 0 0 none, .int .u16 0, .slice none 0 0 none, .slice none 0 0 none] 0 0 true) = C ∧
    C.get S.next = some (.cells [.bool false, .int .i64 0, .int .u16 0, .int .u32 0, .int .u32 0, .slice none 0 0 none, .int .u16 0, .slice none 0 0 none, .slice none 0 0 none] 0 0 true) ∧ C.put S.next (.cells (pkc P c e l) 0 0 true) = D ∧
    Ext S D ∧ S.next < D.next ∧ D.get S.next = some (.cells (pkc P c e l) 0 0 true) := by
  refine ⟨_, _, rfl, by rw [St.get_alloc, if_pos rfl], rfl, (put_new _ _ _).1, (put_new _ _ _).2.2, (put_new _ _ _).2.1⟩
theorem rep0 (l : List AV) : rep 0 l = [] := rfl
theorem rep1' (x : AV) : rep 1 [x] = [x] := rfl
theorem repb' (j : Nat) : rep j [AV.int .u8 0] = bv (List.replicate j 0) := bv_rep j
theorem bv_set' : ∀ (l : List Nat) (j : Nat) (f : Nat), j < l.length → List.take j (bv l) ++ AV.int .u8 (f : Int) :: List.drop (j + 1) (bv l) = bv (l.set j f)
  | b :: l, 0, f, _ => rfl
  | b :: l, j + 1, f, h => by
    have := bv_set' l j f (by rw [List.length_cons] at h; omega)
    show AV.int .u8 (b : Int) :: (List.take j (bv l) ++ AV.int .u8 (f : Int) :: List.drop (j + 1) (bv l)) = AV.int .u8 (b : Int) :: bv (l.set j f)
    rw [this]
theorem Gr.set' {S0 S : St} {p : Option (Nat × Nat × Nat)} {e : Nat} {l : List Nat} (h : Gr S0 S p e l) {j f : Nat} (hj : j < l.length) (hf : f < 256) :
    ∃ o ver minv, p = some (o, ver, 0) ∧ e = 1 ∧ S0.next ≤ o ∧ o < S.next ∧ S.get o = some (.cells (bv l) ver minv true) ∧ minv ≤ ver ∧ Gr S0 (S.put o (.cells (bv (l.set j f)) ver ver true)) p e (l.set j f) := by
  rcases h.vec.at_ with ⟨_, h0⟩ | ⟨o, ver, minv, rfl, ho, hg, hv⟩
  · omega
  · have hz := h.vec.ez.resolve_left (by simp)
    have hn := h.new o ver 0 rfl
    refine ⟨o, ver, minv, rfl, hz, hn, ho, hg, hv, ⟨⟨.inr hz, by rw [bv_len, Nat.mul_one], .inr ⟨o, ver, ver, rfl, ho, by rw [St.get_put, if_pos rfl], Nat.le_refl _⟩⟩, h.ext.then_put hn _, h.new, fun y hy => ?_⟩⟩
    rcases List.mem_or_eq_of_mem_set hy with hy | rfl
    · exact h.bd y hy
    · exact hf
theorem or32 {n : Nat} (h : n < 32) : Go.bits .or .u8 ((128 + n : Nat) : Int) 32 = ((128 + n + 32 : Nat) : Int) := by
  have : ∀ n : Fin 32, Go.bits .or .u8 ((128 + n.val : Nat) : Int) 32 = ((128 + n.val + 32 : Nat) : Int) := by decide +kernel
  exact this ⟨n, h⟩
theorem first_rng {P : Pk} (ok : Ok0 P) : ∃ n, firstP P = 128 + n ∧ n < 32 := ⟨P.cs.length + (if P.pf = 0 then 0 else 16), by unfold firstP; omega, by have := ok.cl; split <;> omega⟩
theorem padded {P : Pk} {j : Nat} (hj : 1 ≤ j) : ((bytesP P ++ List.replicate j 0).set 0 (firstP P + 32)).set ((bytesP P).length + j - 1) j = bytesQ P true (List.replicate (j - 1) 0 ++ [j]) := by
  obtain ⟨i, rfl⟩ : ∃ i, j = i + 1 := ⟨j - 1, by omega⟩
  rw [List.replicate_succ', Nat.add_sub_cancel]
  have h1 : (bytesP P ++ (List.replicate i 0 ++ [0])).set 0 (firstP P + 32) = (bytesQ P true (List.replicate i 0)) ++ [0] := by
    unfold bytesP headP bytesQ
    simp [List.append_assoc]
  have h2 : (bytesQ P true (List.replicate i 0)).length = (bytesP P).length + i := by
    unfold bytesP headP bytesQ
    simp only [List.length_append, List.length_cons, List.length_nil, List.length_replicate]
  rw [h1, show (bytesP P).length + (i + 1) - 1 = (bytesQ P true (List.replicate i 0)).length by rw [h2]; omega, List.set_append_right _ _ (Nat.le_refl _), Nat.sub_self]
  unfold bytesQ
  simp [List.append_assoc]
theorem sizeP_rng' {P : Pk} (ok : Ok0 P) (sz : P.cs.length ≤ 3 ∧ P.ex.length ≤ 80 ∧ P.pl.length ≤ 30) : 12 ≤ (bytesP P).length ∧ (bytesP P).length ≤ 150 := by
  have h := bytesP_len ok
  unfold sizeP at h
  split at h <;> omega
set_option maxHeartbeats 16000000 in
theorem ev5 (k : Nat) {pt : Option (Nat × Nat × Nat)} {lt : Nat} {pad cut : Int} {S : St} (ht : Sl S pt lt [.int .i64]) (hpt : ∀ o v i, pt = some (o, v, i) → o < S.next) :
    ∃ S', evF Y AP (k + 8001) 5 [.slice pt lt 1 none, .int .i64 pad, .int .i64 cut] S = some (.bool true, S') := by
  obtain ⟨A, P, c, e, l, S2, hA, q9, hP, ok, sz, x2⟩ := rtp_of (k + 7870) ht hpt
  have q9 : evF Y AP (k + 8000) 9 [.ptr (some ⟨S.next, 0, 0, 2⟩)] A = _ := q9
  obtain ⟨C, D, hC, gC, hD, xD, nD, gD⟩ := spot S2 P c e l
  have rD : ∀ {X : St}, Ext D X → ∀ v i m, X.rd S2.next v i m = rdO (.cells (pkc P c e l) 0 0 true) v i m := fun x => rd_of (x.get nD gD)
  have rD0 := rD (.refl D)
  have hPD := hP.ext xD
  have rn := hP.rn
  obtain ⟨v', S3, q18, N3⟩ := T18 (k + 7975) hPD
  have q18 : evF Y AP (k + 8000) 18 [.agg (pkc P c e l)] D = _ := q18
  rw [if_pos (right_ok ok)] at N3
  rw [right_ok ok] at q18
  obtain ⟨pb, eb, cb, rfl, hb⟩ := N3.bs
  have hln := sizeP_rng' ok sz
  have hmx := hb.mx
  have x3 := N3.ext
  obtain ⟨c4, e4, l4, S4, q19, hP4, x4⟩ := T19p (k + 7978) (c := cb) hb
  have q19 : evF Y AP (k + 8000) 19 [.slice pb (bytesP P).length eb cb] S3 = _ := q19
  rw [read_back ok rn] at q19 hP4
  have hP4 : Pv S4 P c4 e4 l4 := hP4
  have q19 : evF Y AP (k + 8000) 19 [.slice pb (bytesP P).length eb cb] S3 = some (.tuple [.agg (pkc P c4 e4 l4), .int .i64 0], S4) := q19
  obtain ⟨E, F, hE, gE, hF, xF, nF, gF⟩ := spot S4 P c4 e4 l4
  have rF : ∀ {X : St}, Ext F X → ∀ v i m, X.rd S4.next v i m = rdO (.cells (pkc P c4 e4 l4) 0 0 true) v i m := fun x => rd_of (x.get nF gF)
  have rF0 := rF (.refl F)
  have xDF := x3.trans (x4.trans xF)
  have rDF := rD xDF
  have fu : k + 8000 - P.cs.length - P.ex.length - P.pl.length - 4 + P.cs.length + P.ex.length + P.pl.length + 4 = k + 8000 := by omega
  obtain ⟨S5, q17, x5⟩ := T17 (k + 8000 - P.cs.length - P.ex.length - P.pl.length - 4) (hPD.ext xDF) (hP4.ext xF)
  rw [fu] at q17
  have z12 : ¬ ((bytesP P).length : Int) < 12 := by omega
  have r15 : evF Y AP (k + 8000) 15 [.int .i64 pad, .int .i64 1, .int .i64 40] S5 = some (.int .i64 (within pad 1 40), S5) := T15 (k + 7996) S5 (by decide) (by decide) (by decide)
  have bw := within_bd pad (show (1 : Int) ≤ 40 by decide)
  obtain ⟨j, hj⟩ : ∃ j : Nat, within pad 1 40 = (j : Int) := ⟨(within pad 1 40).toNat, by omega⟩
  rw [hj] at r15 bw
  -- the padded bytes
  obtain ⟨G, hG⟩ : ∃ G, S5.alloc (.cells [] 0 0 true) = G := ⟨_, rfl⟩
  have eG : Ext S5 G := by rw [← hG]; exact .alloc _ _
  have hbG := hb.ext (x4.trans (xF.trans (x5.trans eG)))
  obtain ⟨o, v, i, rfl, rfl, ho⟩ := hbG.some_ (by omega)
  have hr := (hbG.at_ o v i rfl).2
  obtain ⟨p6, e6, S6, q6, G6⟩ := (Gr.empty S5).app (m := bytesP P) hb.bd (by simp only [List.length_nil]; omega)
  rw [List.nil_append, hG] at q6
  rw [List.nil_append] at G6
  have q6 : aAppend 1 1 G (.slice (some (S5.next, 0, 0)) 0 1 none) (bytesP P).length (bv (bytesP P)) = _ := q6
  obtain ⟨p7, e7, S7, q7, G7⟩ := G6.app (m := List.replicate j 0) (byt_rep j) (by rw [List.length_replicate]; omega)
  obtain ⟨n, hn⟩ : ∃ n, (bytesP P).length = n := ⟨_, rfl⟩
  have hl7 : (bytesP P ++ List.replicate j 0).length = n + j := by rw [List.length_append, List.length_replicate, hn]
  rw [List.length_replicate, hl7] at q7
  have p1 : rep j [AV.int .u8 0] = bv (List.replicate j 0) := repb' j
  obtain ⟨f0, hf0, hf1⟩ := first_rng ok
  have hor := or32 hf1
  rw [← hf0] at hor
  obtain ⟨ox, ver, minv, rfl, rfl, hnx, hox, g7, hv, G8⟩ := G7.set' (j := 0) (f := firstP P + 32) (by omega) (by omega)
  have r70 : S7.rd ox ver 0 1 = some [.int .u8 (firstP P : Nat)] := by rw [rd_cells g7 hv (by rw [bv_len]; omega)]; rfl
  have hbs := bv_set' (bytesP P ++ List.replicate j 0) 0 (firstP P + 32) (by omega)
  rw [← hbs] at G8
  obtain ⟨L7, hL7⟩ : ∃ L, bytesP P ++ List.replicate j 0 = L := ⟨_, rfl⟩
  rw [hL7] at hl7 g7 G8 hbs
  obtain ⟨S8, hS8⟩ : ∃ S8, S7.put ox (.cells (AV.int .u8 ((firstP P + 32 : Nat) : Int) :: List.drop 1 (bv L7)) ver ver true) = S8 := ⟨_, rfl⟩
  rw [show List.take 0 (bv L7) ++ AV.int .u8 ((firstP P + 32 : Nat) : Int) :: List.drop (0 + 1) (bv L7) = AV.int .u8 ((firstP P + 32 : Nat) : Int) :: List.drop 1 (bv L7) from rfl, hS8] at G8
  have g8 : S8.get ox = some (.cells (bv (L7.set 0 (firstP P + 32))) ver ver true) := by rw [← hS8, St.get_put, if_pos rfl, ← hbs]; rfl
  obtain ⟨L8, hL8⟩ : ∃ L, L7.set 0 (firstP P + 32) = L := ⟨_, rfl⟩
  rw [hL8] at G8 g8
  have hl8 : L8.length = n + j := by rw [← hL8, List.length_set, hl7]
  have wj : IntKind.u8.wrap (j : Int) = (j : Int) := by rw [IntKind.wrap_u8]; omega
  obtain ⟨ox', ver', minv', hp', _, _, _, _, _, G9⟩ := G8.set' (j := n + j - 1) (f := j) (by omega) (by omega)
  cases hp'
  have hbs' := bv_set' L8 (n + j - 1) j (by omega)
  rw [← hbs'] at G9
  obtain ⟨S9, hS9⟩ : ∃ S9, S8.put ox (.cells (List.take (n + j - 1) (bv L8) ++ AV.int .u8 (j : Int) :: List.drop (n + j - 1 + 1) (bv L8)) ver ver true) = S9 := ⟨_, rfl⟩
  rw [hS9] at G9
  have hL9 : L8.set (n + j - 1) j = bytesQ P true (List.replicate (j - 1) 0 ++ [j]) := by rw [← hL8, ← hL7, ← hn]; exact padded (by omega)
  rw [hL9] at G9
  have hl9 : (bytesQ P true (List.replicate (j - 1) 0 ++ [j])).length = n + j := by rw [← hL9, List.length_set, hl8]
  have l1 := eq_true (show 1 ≤ (bv L7).length by rw [bv_len]; omega)
  have l2 := eq_true (show n + j - 1 + 1 ≤ (bv L8).length by rw [bv_len]; omega)
  have wl : IntKind.i64.wrap (((n + j : Nat) : Int) - 1) = ((n + j - 1 : Nat) : Int) := by rw [w64_id (by omega) (by omega)]; omega
  have hx0 : ixOf (.int .i64 0) (n + j) = some 0 := by rw [ix_ok (by omega) (by omega)]; rfl
  have hx1 : ixOf (.int .i64 ((n + j - 1 : Nat) : Int)) (n + j) = some (n + j - 1) := by rw [ix_ok (by omega) (by omega)]; rfl
  have hmx9 : n + j ≤ 9223372036854775807 := by omega
  have z0 := eq_true (show (0 : Int) ≤ (j : Int) by omega)
  have hQ := readQ ok rn true (List.replicate (j - 1) 0 ++ [j]) (.inr ⟨rfl, by simp, by simp; omega, by simp only [List.length_append, List.length_replicate, List.length_cons, List.length_nil]; rw [show j - 1 + (0 + 1) = j by omega]; simp [List.getD_eq_getElem?_getD]⟩) (by omega)
  obtain ⟨c10, e10, l10, S10, q10, hP10, x10⟩ := T19p (k + 7978) (c := none) (G9.by_ (by omega))
  rw [hl9, hQ] at q10
  rw [hQ] at hP10
  have hP10 : Pv S10 P c10 e10 l10 := hP10
  have q10 : evF Y AP (k + 8000) 19 [.slice (some (ox, ver, 0)) (n + j) 1 none] S9 = some (.tuple [.agg (pkc P c10 e10 l10), .int .i64 0], S10) := q10
  obtain ⟨H, K, hH, gH, hK, xK, nK, gK⟩ := spot S10 P c10 e10 l10
  -- cut off
  have r15' : evF Y AP (k + 8000) 15 [.int .i64 cut, .int .i64 0, .int .i64 11] K = some (.int .i64 (within cut 0 11), K) := T15 (k + 7996) K (by decide) (by decide) (by decide)
  have bw' := within_bd cut (show (0 : Int) ≤ 11 by decide)
  obtain ⟨m, hm⟩ : ∃ m : Nat, within cut 0 11 = (m : Int) := ⟨(within cut 0 11).toNat, by omega⟩
  rw [hm] at r15' bw'
  have x9 := G9.ext
  have xbK := x4.trans (xF.trans (x5.trans (x9.trans (x10.trans xK))))
  obtain ⟨p', e', c', hcut, hy⟩ := (hb.ext xbK).cut cb (lo := none) (hi := some (.int .i64 (m : Nat))) (a := 0) (b := m) (by rw [bnd_some (by omega) (by omega)]; rfl) (bnd_none _ _) (by omega) (by omega)
  rw [List.drop_zero, Nat.sub_zero] at hcut hy
  obtain ⟨c11, e11, l11, S11, q11, hP11, x11⟩ := T19p (k + 7978) (c := c') hy
  have q11 : evF Y AP (k + 8000) 19 [.slice p' (List.take m (bytesP P)).length e' c'] K = _ := q11
  rw [read_cut ok (n := m) (by omega)] at q11
  obtain ⟨R, hR⟩ : ∃ R, (readP (List.take m (bytesP P))).1 = R := ⟨_, rfl⟩
  rw [hR] at q11 hP11
  obtain ⟨L, M, hL, gL, hM, xM, nM, gM⟩ := spot S11 R c11 e11 l11
  have xKM := x11.trans xM
  have rK : ∀ v i m, M.rd S10.next v i m = rdO (.cells (pkc P c10 e10 l10) 0 0 true) v i m := rd_of (xKM.get nK gK)
  have xDM := xDF.trans (x5.trans (x9.trans (x10.trans (xK.trans xKM))))
  have rDM := rD xDM
  obtain ⟨S12, q12, x12⟩ := T17 (k + 8000 - P.cs.length - P.ex.length - P.pl.length - 4) (hP10.ext (xK.trans xKM)) (hPD.ext xDM)
  rw [fu] at q12
  have q14 : evF Y AP (k + 8000) 14 [] S12 = _ := y14 (k + 7999) S12
  refine ⟨S12, ?_⟩
  rw [hn] at q18 q19 z12 hmx q6 q7 hr hcut
  rw [evF_body (af := af5) rfl rfl rfl]
  simp -implicitDefEqProofs -dsimp (maxSteps := 10000000) only [af5, kC, ↓kQ, ↓Option.bind_some, ↓Option.map_some, ↓cond_true, ↓cond_false, evC, evOp, XO.lit, setArgs, Tr.tabG, Tr.tabS, Tr.tabL, Tr.get_lf, Option.bind_some, Option.map_some, cond_true, cond_false, maxI, maxFrom, minI, minFrom, aConv, aBinE, aEq, eqScal, aUn, evRes, fin, oneOf, if_true, if_false, callee, reduceCtorEq, Nat.reduceEqDiff, List.getElem?_cons_zero, List.getElem?_cons_succ, beq_self_eq_true, gt_iff_lt, List.head?_cons, AV.undef, eq_self, ne_eq, Int.reduceLT, Int.reduceLE, Int.reduceToNat, Int.reduceEq, Int.reduceNeg, Nat.reduceAdd, Nat.reduceLT, Nat.reduceLeDiff, Nat.reduceMul, Nat.reduceSub, ↓evDraw_nil, bir, putD, evDraw, trace, List.all_cons, List.all_nil, chk, stAt, again, sameV, sameL, sameA, AV.undef, Bool.and_self, Bool.and_true, decide_eq_true_eq, List.getElem?_nil, kM, AV.cells, AV.tup, List.drop_nil, List.append_nil, rdO, St.wr, List.length_cons, List.length_nil, List.take_succ_cons, List.take_zero, List.drop_succ_cons, List.drop_zero, List.cons_append, List.nil_append, Nat.reduceMul, aFill, evParts, newSl, newVar, rep0, evOpt, hA, q9, hC, gC, hD, rD0, q18, q19, hE, gE, hF, rDF, rF0, q17, hmx, z12, r15, hG, Nat.mul_one, hr, q6, z0, Int.toNat_natCast, p1, q7, hx0, r70, hor, g7, hv, l1, hS8, hmx9, wl, wj, hx1, g8, l2, hS9, Nat.le_refl, List.append_assoc, q10, hH, gH, hK, r15', hcut, q11, hL, gL, hM, rK, rDM, q12, q14]
theorem law5 {pad cut : Int} {p1 : Option (Nat × Nat × Nat)} {n1 : Nat} {xs : List AV} (h1 : Arg p1 0 n1 [.int .i64] xs) (_ : (Lit.int .i64 pad).wf = true) (_ : (Lit.int .i64 cut).wf = true) :
    ∃ S', evF Y AP 8001 5 [.slice p1 n1 1 none, .int .i64 pad, .int .i64 cut] (S0.alloc (.cells xs 0 0 false)) = some (.bool true, S') := by
  refine ev5 0 (.of_arg h1 (by simp only [St.get_alloc]; rfl) (by show 0 < 1; decide)) (fun o v i hp => ?_)
  rcases h1.at0 with h0 | h0
  · rw [hp] at h0; cases h0
  · rw [hp] at h0; cases h0; show 0 < 1; decide
end Go.Proofs.YthejkmfmcjpfhaaA
