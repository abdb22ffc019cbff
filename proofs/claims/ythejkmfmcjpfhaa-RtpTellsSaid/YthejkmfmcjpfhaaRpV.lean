/- Chapter 3: RtpExt. -/
import Derived.Test.YthejkmfmcjpfhaaRpU
set_option linter.unusedVariables false
set_option linter.unusedSimpArgs false
set_option maxRecDepth 10000
namespace Go.Proofs.YthejkmfmcjpfhaaA
open Go.RowKit
attribute [local congr] bind_congr1 map_congr1 cond_congr1 withX_congr after_congr br_congr gd_congr

/-- What an argument's bytes are. -/
theorem bytes_of : ∀ (len : Nat) (xs : List AV), len ≤ xs.length → (∀ i, i < len → Scs [.int .u8] ((xs.drop (i * 1)).take 1)) → ∃ l : List Nat, l.length = len ∧ Byt l ∧ xs.take len = bv l
  | 0, xs, _, _ => ⟨[], rfl, .nil, by simp [bv]⟩
  | n + 1, [], h, _ => by simp at h
  | n + 1, x :: xs, h, hs => by
    obtain ⟨l, h1, h2, h3⟩ := bytes_of n xs (by simpa using h) fun i hi => by
      have := hs (i + 1) (by omega)
      rw [Nat.add_mul, List.drop_succ_cons] at this
      exact this
    have h0 := hs 0 (by omega)
    simp only [Nat.zero_mul, List.drop_zero, List.take_succ_cons, List.take_zero] at h0
    obtain ⟨⟨⟩⟩ | ⟨b, rfl, hb⟩ : False ∨ ∃ b : Nat, x = .int .u8 (b : Int) ∧ b < 256 := by
      cases x with
      | int k n =>
        obtain ⟨⟨rfl, hw⟩, _⟩ := h0
        have := wf_u8 hw
        exact .inr ⟨n.toNat, by congr 1; omega, by omega⟩
      | _ => exact .inl h0.1
    refine ⟨b :: l, by rw [List.length_cons, h1], fun y hy => ?_, by rw [List.take_succ_cons, h3]; rfl⟩
    rcases List.mem_cons.1 hy with rfl | hy
    · exact hb
    · exact h2 y hy
theorem By.of_arg {S : St} {p : Option (Nat × Nat × Nat)} {o len : Nat} {xs : List AV} (h : Arg p o len [.int .u8] xs) (hg : S.get o = some (.cells xs 0 0 false)) (ho : o < S.next) : ∃ l, l.length = len ∧ By S p 1 l := by
  have hle : len ≤ xs.length := by have := h.le; simpa using this
  obtain ⟨l, h1, h2, h3⟩ := bytes_of len xs hle h.el
  refine ⟨l, h1, .inr rfl, fun hp => ?_, fun o' v i hp => ?_, h2, by rw [h1]; exact h.max⟩
  · by_cases h0 : len = 0
    · exact List.length_eq_zero_iff.1 (by omega)
    · have := h.at_ h0; rw [hp] at this; cases this
  · rcases h.at0 with h4 | h4
    · rw [hp] at h4; cases h4
    · rw [hp] at h4; cases h4
      refine ⟨ho, ?_⟩
      rw [rd_cells hg (Nat.le_refl _) (by omega), List.drop_zero, h1, h3]
theorem m32767 (x : Int) : Go.bits .and .u16 x 32767 = x % 32768 := and_u16 15 (by decide) x
theorem bnd_some' {k : IntKind} {n : Int} {d y : Nat} (h0 : 0 ≤ n) (h1 : n ≤ y) : bnd (some (.int k n)) d y = some n.toNat := bnd_some h0 h1
/-- A new place, filled at once, and filled anew. -/
theorem spot2 (S : St) (x : AO) : ∃ D, S.put S.next x = D := ⟨_, rfl⟩
theorem T19q (k : Nat) {S : St} {p : Option (Nat × Nat × Nat)} {e : Nat} {c : Option Nat} {l : List Nat} (h : By S p e l) :
    ∃ c1 e1 l1 S', evF Y AP (k + 22) 19 [.slice p l.length e c] S = some (.tuple [.agg (pkc (readP l).1 c1 e1 l1), .int .i64 (readP l).2], S') ∧ (∀ S'', Old (· < S.next) S' S'' → Pv S'' (readP l).1 c1 e1 l1) ∧ Ext S S' := by
  obtain ⟨w1, S1, q1, c1, e1, l1, rfl, u, x1⟩ := T19f k (c := c) h
  exact ⟨c1, e1, l1, S1, q1, fun S'' t => (readP_rng h.bd).pv (u S'' t).1 (u S'' t).2.1 (u S'' t).2.2, x1⟩
set_option maxHeartbeats 16000000 in
theorem ev6 (k : Nat) {pt : Option (Nat × Nat × Nat)} {lt : Nat} {pe : Option (Nat × Nat × Nat)} {ex : List Nat} {pr : Int} {S : St} (ht : Sl S pt lt [.int .i64]) (hpt : ∀ o v i, pt = some (o, v, i) → o < S.next) (he : By S pe 1 ex) (hpr : 0 ≤ pr) :
    ∃ S', evF Y AP (k + 8001) 6 [.slice pt lt 1 none, .slice pe ex.length 1 none, .int .u16 pr] S = some (.bool true, S') := by
  obtain ⟨A, P, c, e, l, S2, hA, q9, hP, ok, sz, x2⟩ := rtp_of (k + 7870) ht hpt
  have q9 : evF Y AP (k + 8000) 9 [.ptr (some ⟨S.next, 0, 0, 2⟩)] A = _ := q9
  obtain ⟨C, D, hC, gC, hD, xD, nD, gD⟩ := spot S2 P c e l
  -- the packet without its extension
  obtain ⟨P', hP'⟩ : ∃ P' : Pk, P' = { P with pf := 0, ex := [] } := ⟨_, rfl⟩
  obtain ⟨D1, hD1⟩ : ∃ X, D.put S2.next (.cells (pkc { P with pf := 0 } c e l) 0 0 true) = X := ⟨_, rfl⟩
  have gD1 : D1.get S2.next = some (.cells (pkc { P with pf := 0 } c e l) 0 0 true) := by rw [← hD1, St.get_put, if_pos rfl]
  obtain ⟨D2, hD2⟩ : ∃ X, D1.put S2.next (.cells (pkc { P with pf := 0 } c (.slice none 0 0 none) l) 0 0 true) = X := ⟨_, rfl⟩
  have xD2 : Ext S2 D2 := by rw [← hD2, ← hD1]; exact (xD.then_put (Nat.le_refl _) _).then_put (Nat.le_refl _) _
  have nD2 : S2.next < D2.next := by rw [← hD2, ← hD1]; exact nD
  have gD2 : D2.get S2.next = some (.cells (pkc { P with pf := 0 } c (.slice none 0 0 none) l) 0 0 true) := by rw [← hD2, St.get_put, if_pos rfl]
  have r2 : ∀ {X : St}, Ext D2 X → ∀ v i m, X.rd S2.next v i m = rdO (.cells (pkc { P with pf := 0 } c (.slice none 0 0 none) l) 0 0 true) v i m := fun x => rd_of (x.get nD2 gD2)
  have r20 := r2 (.refl D2)
  have hPD : Pv D2 P' c (.slice none 0 0 none) l := by
    rw [hP']
    exact ⟨hP.c.ext xD2, .zero _ _, hP.l.ext xD2, hP.ty, hP.sq, hP.tm, hP.ss, ⟨by show (0 : Int) ≤ 0; omega, by show (0 : Int) < 65536; omega⟩, hP.cl, Nat.zero_le _, hP.ll⟩
  -- the packet with another one
  obtain ⟨E, F, hE, gE, hF, xF, nF, gF⟩ := spot D2 { P with pf := 0 } c (.slice none 0 0 none) l
  have w1 : IntKind.u16.wrap (1 + pr % 32768) = 1 + pr % 32768 := u16_id (by omega) (by omega)
  have mm := m32767 pr
  obtain ⟨F1, hF1⟩ : ∃ X, F.put D2.next (.cells (pkc { P with pf := 1 + pr % 32768 } c (.slice none 0 0 none) l) 0 0 true) = X := ⟨_, rfl⟩
  have gF1 : F1.get D2.next = some (.cells (pkc { P with pf := 1 + pr % 32768 } c (.slice none 0 0 none) l) 0 0 true) := by rw [← hF1, St.get_put, if_pos rfl]
  obtain ⟨mn, hmn, hmn2⟩ : ∃ mn : Nat, (if (200 : Int) < (ex.length : Int) then (200 : Int) else (ex.length : Int)) = (mn : Int) ∧ mn ≤ 200 ∧ mn ≤ ex.length := by
    split
    · exact ⟨200, rfl, by omega, by omega⟩
    · exact ⟨ex.length, rfl, by omega, by omega⟩
  have hmin : minI [.int .i64 (ex.length : Int), .int .i64 200] = some (.int .i64 (mn : Int)) := by
    show minFrom .i64 (ex.length : Int) [.int .i64 200] = _
    rw [minFrom, if_pos rfl, minFrom, ← hmn]
  have hmx := he.mx
  have z4 : ¬ (4 : Int) = 0 := by decide
  have tq : Int.tdiv (mn : Int) 4 = ((mn / 4 : Nat) : Int) := by rw [Int.tdiv_eq_ediv_of_nonneg (by omega)]; omega
  have w2 : IntKind.i64.wrap ((mn / 4 : Nat) : Int) = ((mn / 4 : Nat) : Int) := w64_id (by omega) (by omega)
  have w3 : IntKind.i64.wrap (((mn / 4 : Nat) : Int) * 4) = ((mn / 4 * 4 : Nat) : Int) := w64_id (by omega) (by omega)
  obtain ⟨m, hm⟩ : ∃ m, mn / 4 * 4 = m := ⟨_, rfl⟩
  obtain ⟨p', e', c', hcut, hy⟩ := he.cut none (lo := none) (hi := some (.int .i64 (m : Nat))) (a := 0) (b := m) (by rw [bnd_some' (by omega) (by omega)]; rfl) (bnd_none _ _) (by omega) (by omega)
  rw [List.drop_zero, Nat.sub_zero] at hcut hy
  obtain ⟨X, hX⟩ : ∃ X, ex.take m = X := ⟨_, rfl⟩
  have hXl : X.length = m := by rw [← hX, List.length_take]; omega
  rw [hX] at hcut hy
  obtain ⟨Q, hQ⟩ : ∃ Q : Pk, Q = { P with pf := 1 + pr % 32768, ex := X } := ⟨_, rfl⟩
  obtain ⟨F2, hF2⟩ : ∃ Z, F1.put D2.next (.cells (pkc { P with pf := 1 + pr % 32768 } c (.slice p' X.length e' c') l) 0 0 true) = Z := ⟨_, rfl⟩
  have xF2 : Ext D2 F2 := by rw [← hF2, ← hF1]; exact (xF.then_put (Nat.le_refl _) _).then_put (Nat.le_refl _) _
  have nF2 : D2.next < F2.next := by rw [← hF2, ← hF1]; exact nF
  have gF2 : F2.get D2.next = some (.cells (pkc { P with pf := 1 + pr % 32768 } c (.slice p' X.length e' c') l) 0 0 true) := by rw [← hF2, St.get_put, if_pos rfl]
  have rF : ∀ {X' : St}, Ext F2 X' → ∀ v i m, X'.rd D2.next v i m = rdO (.cells (pkc { P with pf := 1 + pr % 32768 } c (.slice p' X.length e' c') l) 0 0 true) v i m := fun x => rd_of (x.get nF2 gF2)
  have hyF2 : By F2 p' e' X := hy.ext (x2.trans (xD2.trans xF2))
  have okP : Ok0 P' := by
    rw [hP']
    refine ⟨ok.t0, ok.t1, ok.cl, rfl, fun _ => rfl, ?_⟩
    show 12 + 4 * (P.cs.length : Int) + P.pl.length + (if (0 : Int) = 0 then (0 : Int) else _) ≤ 1500
    rw [if_pos rfl]; omega
  have okQ : Ok0 Q := by
    rw [hQ]
    refine ⟨ok.t0, ok.t1, ok.cl, by show (X.length : Int) % 4 = 0; omega, fun h => absurd h (show ¬ 1 + pr % 32768 = 0 by omega), ?_⟩
    show 12 + 4 * (P.cs.length : Int) + P.pl.length + (if 1 + pr % 32768 = 0 then (0 : Int) else 4 + (X.length : Int)) ≤ 1500
    rw [if_neg (by omega)]; omega
  have hPF : Pv F2 Q c (.slice p' X.length e' c') l := by
    rw [hQ]
    have x := xD2.trans xF2
    exact ⟨hP.c.ext x, ⟨p', e', c', rfl, hyF2⟩, hP.l.ext x, hP.ty, hP.sq, hP.tm, hP.ss, ⟨by show 0 ≤ 1 + pr % 32768; omega, by show 1 + pr % 32768 < 65536; omega⟩, hP.cl, by show X.length ≤ _; omega, hP.ll⟩
  have rnP := hPD.rn
  have rnQ := hPF.rn
  have r2F := r2 xF2
  -- both are written
  obtain ⟨va, S3, q18, N3⟩ := T18 (k + 7975) (hPD.ext xF2)
  rw [if_pos (right_ok okP)] at N3
  rw [right_ok okP, hP'] at q18
  have q18 : evF Y AP (k + 8000) 18 [.agg (pkc { P with pf := 0 } c (.slice none 0 0 none) l)] F2 = some (.tuple [va, .int .i64 0], S3) := q18
  obtain ⟨pa, ea, ca, rfl, ha⟩ := N3.bs
  have x3 := N3.ext
  have rF3 := rF x3
  obtain ⟨vb, S4, q18', N4⟩ := T18 (k + 7975) (hPF.ext x3)
  rw [if_pos (right_ok okQ)] at N4
  rw [right_ok okQ, hQ] at q18'
  have q18' : evF Y AP (k + 8000) 18 [.agg (pkc { P with pf := 1 + pr % 32768 } c (.slice p' X.length e' c') l)] S3 = some (.tuple [vb, .int .i64 0], S4) := q18'
  obtain ⟨pb, eb, cb, rfl, hb⟩ := N4.bs
  have x4 := N4.ext
  -- both are read
  obtain ⟨c5, e5, l5, S5, q19, hP5, x5⟩ := T19p (k + 7978) (c := cb) hb
  have q19 : evF Y AP (k + 8000) 19 [.slice pb (bytesP Q).length eb cb] S4 = _ := q19
  rw [read_back okQ rnQ] at q19 hP5
  have hP5 : Pv S5 Q c5 e5 l5 := hP5
  rw [hQ] at q19
  have q19 : evF Y AP (k + 8000) 19 [.slice pb (bytesP { P with pf := 1 + pr % 32768, ex := X }).length eb cb] S4 = some (.tuple [.agg (pkc { P with pf := 1 + pr % 32768 } c5 e5 l5), .int .i64 0], S5) := q19
  rw [← hQ] at q19
  obtain ⟨G, H, hG, gG, hH, xH, nH, gH⟩ := spot S5 { P with pf := 1 + pr % 32768 } c5 e5 l5
  obtain ⟨c6, e6, l6, S6, q19', hP6, x6⟩ := T19q (k + 7978) (c := ca) (ha.ext (x4.trans (x5.trans xH)))
  have q19' : evF Y AP (k + 8000) 19 [.slice pa (bytesP P').length ea ca] H = _ := q19'
  rw [read_back okP rnP] at q19' hP6
  have hP6 : ∀ S'', Old (· < H.next) S6 S'' → Pv S'' P' c6 e6 l6 := hP6
  have q19' : evF Y AP (k + 8000) 19 [.slice pa (bytesP P').length ea ca] H = some (.tuple [.agg (pkc P' c6 e6 l6), .int .i64 0], S6) := q19'
  obtain ⟨I, J, hI, gI, hJ, xJ, nJ, gJ⟩ := spot S6 P' c6 e6 l6
  -- what was read is made as it was
  have gJ5 : J.get S5.next = some (.cells (pkc { P with pf := 1 + pr % 32768 } c5 e5 l5) 0 0 true) := (x6.trans xJ).get nH gH
  obtain ⟨J1, hJ1⟩ : ∃ Z, J.put S5.next (.cells (pkc { P with pf := 0 } c5 e5 l5) 0 0 true) = Z := ⟨_, rfl⟩
  have gJ1 : J1.get S5.next = some (.cells (pkc { P with pf := 0 } c5 e5 l5) 0 0 true) := by rw [← hJ1, St.get_put, if_pos rfl]
  obtain ⟨J2, hJ2⟩ : ∃ Z, J1.put S5.next (.cells (pkc { P with pf := 0 } c5 (.slice none 0 0 none) l5) 0 0 true) = Z := ⟨_, rfl⟩
  have xJ2 : Ext S5 J2 := by rw [← hJ2, ← hJ1]; exact ((xH.trans (x6.trans xJ)).then_put (Nat.le_refl _) _).then_put (Nat.le_refl _) _
  have oJ2 : Old (· = S5.next) J J2 := by rw [← hJ2, ← hJ1]; exact (Old.put (N := (· = S5.next)) _ rfl _).trans (.put (N := (· = S5.next)) _ rfl _)
  have hP5J : Pv J2 P' c5 (.slice none 0 0 none) l5 := by
    have h5c := hP5.c; have h5l := hP5.l
    rw [hQ] at h5c h5l
    have h := hPD
    rw [hP'] at h ⊢
    exact ⟨h5c.ext xJ2, .zero _ _, h5l.ext xJ2, h.ty, h.sq, h.tm, h.ss, h.pf, h.cl, h.el, h.ll⟩
  have nS6 : ¬ S6.next = S5.next := by have := xH.next; have := x6.next; omega
  have gJ6 : J2.get S6.next = some (.cells (pkc P' c6 e6 l6) 0 0 true) := (oJ2.2 _ nJ nS6).trans gJ
  have hP6J : Pv J2 P' c6 e6 l6 := hP6 J2 ((Old.of_ext xJ).trans (oJ2.imp fun o _ h => by show o < H.next; rw [h]; exact nH))
  have r5 : ∀ v i m, J2.rd S5.next v i m = rdO (.cells (pkc { P with pf := 0 } c5 (.slice none 0 0 none) l5) 0 0 true) v i m := rd_of (by rw [← hJ2, St.get_put, if_pos rfl])
  have r6 : ∀ v i m, J2.rd S6.next v i m = rdO (.cells (pkc P' c6 e6 l6) 0 0 true) v i m := rd_of gJ6
  have fu : k + 8000 - P'.cs.length - P'.ex.length - P'.pl.length - 4 + P'.cs.length + P'.ex.length + P'.pl.length + 4 = k + 8000 := by rw [hP']; show k + 8000 - P.cs.length - 0 - P.pl.length - 4 + P.cs.length + 0 + P.pl.length + 4 = k + 8000; omega
  obtain ⟨S7, q16, x7⟩ := T16 (k + 8000 - P'.cs.length - P'.ex.length - P'.pl.length - 4) hP5J hP6J
  rw [fu] at q16
  have q16 : evF Y AP (k + 8000) 16 [.agg (pkc { P with pf := 0 } c5 (.slice none 0 0 none) l5), .agg (pkc P' c6 e6 l6)] J2 = some (.bool (decide (P' = P')), S7) := by
    have h : pkc P' c5 (.slice none 0 0 none) l5 = pkc { P with pf := 0 } c5 (.slice none 0 0 none) l5 := by rw [hP']
    rw [h] at q16; exact q16
  have xF7 : Ext F2 J2 := x3.trans (x4.trans (x5.trans xJ2))
  have rF7 := rF (xF7.trans x7)
  have rFJ := rF xF7
  obtain ⟨S8, q20, x8⟩ := T20 (k + 7995) (hPF.ext (xF7.trans x7))
  have q20 : evF Y AP (k + 8000) 20 [.agg (pkc Q c (.slice p' X.length e' c') l)] S7 = _ := q20
  rw [if_pos (right_ok okQ), ← bytesP_len okQ] at q20
  have q20 : evF Y AP (k + 8000) 20 [.agg (pkc { P with pf := 1 + pr % 32768 } c (.slice p' X.length e' c') l)] S7 = some (.int .i64 ((bytesP Q).length : Nat), S8) := by
    have h : pkc Q c (.slice p' X.length e' c') l = pkc { P with pf := 1 + pr % 32768 } c (.slice p' X.length e' c') l := by rw [hQ]
    rw [h] at q20; exact q20
  have lP := bytesP_len okP
  have lQ := bytesP_len okQ
  have lPQ : (bytesP Q).length = (bytesP P').length + 4 + X.length ∧ 12 ≤ (bytesP P').length ∧ (bytesP Q).length ≤ 1500 := by
    have hz := okQ.sz
    have e1 : sizeP P' = 12 + 4 * (P.cs.length : Int) + P.pl.length + 0 := by rw [hP']; unfold sizeP; rw [if_pos rfl]
    have e2 : sizeP Q = 12 + 4 * (P.cs.length : Int) + P.pl.length + (4 + (X.length : Int)) := by rw [hQ]; unfold sizeP; rw [if_neg (show ¬ 1 + pr % 32768 = 0 by omega)]
    rw [e1] at lP; rw [e2] at lQ hz
    omega
  have ha8 := ha.ext (x4.trans (x5.trans (xJ2.trans (x7.trans x8))))
  have hb8 := hb.ext (x5.trans (xJ2.trans (x7.trans x8)))
  obtain ⟨oa, va, ia, rfl, rfl, _⟩ := ha8.some_ (by omega)
  obtain ⟨ob, vb, ib, rfl, rfl, _⟩ := hb8.some_ (by omega)
  have ga0 := ha8.get (j := 0) (by omega)
  have gb0 := hb8.get (j := 0) (by omega)
  rw [show (bytesP P')[0]'(by omega) = firstP P' from rfl, Nat.add_zero] at ga0
  rw [show (bytesP Q)[0]'(by omega) = firstP Q from rfl, Nat.add_zero] at gb0
  have hor : Go.bits .or .u8 ((firstP P' : Nat) : Int) 16 = ((firstP Q : Nat) : Int) := by
    have e1 : firstP P' = 128 + P.cs.length := by rw [hP']; rfl
    have e2 : firstP Q = 128 + P.cs.length + 16 := by rw [hQ]; unfold firstP; rw [if_neg (show ¬ 1 + pr % 32768 = 0 by omega)]
    rw [e1, e2]; exact (or2 (by have := ok.cl; omega)).1
  have ma := ha.mx; have mb := hb.mx
  obtain ⟨na, hna⟩ : ∃ n, (bytesP P').length = n := ⟨_, rfl⟩
  obtain ⟨nb, hnb⟩ : ∃ n, (bytesP Q).length = n := ⟨_, rfl⟩
  rw [hna] at q18 q19' ma lPQ
  rw [hnb] at q18' q19 q20 mb lPQ
  have w5 : IntKind.i64.wrap ((na : Int) + 4) = ((na + 4 : Nat) : Int) := w64_id (by omega) (by omega)
  have w6 : IntKind.i64.wrap (((na + 4 : Nat) : Int) + (X.length : Int)) = (nb : Int) := by rw [w64_id (by omega) (by omega)]; omega
  have mX : X.length ≤ 9223372036854775807 := by omega
  have ixa : ixOf (.int .i64 0) na = some 0 := by rw [ix_ok (by omega) (by omega)]; rfl
  have ixb : ixOf (.int .i64 0) nb = some 0 := by rw [ix_ok (by omega) (by omega)]; rfl
  have q14 : evF Y AP (k + 8000) 14 [] S8 = _ := y14 (k + 7999) S8
  refine ⟨S8, ?_⟩
  rw [evF_body (af := af6) rfl rfl rfl]
  simp -implicitDefEqProofs -dsimp (maxSteps := 10000000) only [af6, kC, ↓kQ, ↓Option.bind_some, ↓Option.map_some, ↓cond_true, ↓cond_false, evC, evOp, XO.lit, setArgs, Tr.tabG, Tr.tabS, Tr.tabL, Tr.get_lf, Option.bind_some, Option.map_some, cond_true, cond_false, maxI, maxFrom, minI, minFrom, aConv, aBinE, aEq, eqScal, aUn, evRes, fin, oneOf, if_true, if_false, callee, reduceCtorEq, Nat.reduceEqDiff, List.getElem?_cons_zero, List.getElem?_cons_succ, beq_self_eq_true, gt_iff_lt, List.head?_cons, AV.undef, eq_self, ne_eq, Int.reduceLT, Int.reduceLE, Int.reduceToNat, Int.reduceEq, Int.reduceNeg, Nat.reduceAdd, Nat.reduceLT, Nat.reduceLeDiff, Nat.reduceMul, Nat.reduceSub, ↓evDraw_nil, bir, putD, evDraw, trace, List.all_cons, List.all_nil, chk, stAt, again, sameV, sameL, sameA, AV.undef, Bool.and_self, Bool.and_true, decide_eq_true_eq, List.getElem?_nil, kM, AV.cells, AV.tup, List.drop_nil, List.append_nil, rdO, St.wr, List.length_cons, List.length_nil, List.take_succ_cons, List.take_zero, List.drop_succ_cons, List.drop_zero, List.cons_append, List.nil_append, Nat.reduceMul, aFill, evParts, rep, List.replicate_succ, List.replicate_zero, List.flatten_cons, List.flatten_nil, List.append_nil, newSl, newVar, evOpt, hA, q9, hC, gC, hD, gD, hD1, gD1, hD2, r20, hE, gE, hF, gF, mm, w1, hF1, hmx, hmn, z4, tq, w2, w3, hm, hcut, gF1, hF2, r2F, q18, rF3, q18', q19, hG, gG, hH, q19', hI, gI, hJ, gJ5, hJ1, gJ1, hJ2, ma, mb, w5, rFJ, mX, w6, r5, r6, q16, rF7, q20, ixa, ixb, Nat.mul_one, Nat.zero_mul, Nat.add_zero, ga0, gb0, hor, q14]
theorem law6 {pr : Int} {p1 p2 : Option (Nat × Nat × Nat)} {n1 n2 : Nat} {xs ys : List AV} (h1 : Arg p1 0 n1 [.int .i64] xs) (h2 : Arg p2 1 n2 [.int .u8] ys) (wp : (Lit.int .u16 pr).wf = true) :
    ∃ S', evF Y AP 8001 6 [.slice p1 n1 1 none, .slice p2 n2 1 none, .int .u16 pr] ((S0.alloc (.cells xs 0 0 false)).alloc (.cells ys 0 0 false)) = some (.bool true, S') := by
  obtain ⟨l, rfl, hb⟩ := By.of_arg (S := (S0.alloc (.cells xs 0 0 false)).alloc (.cells ys 0 0 false)) h2 (by rw [St.get_alloc]; rfl) (by show 1 < 2; decide)
  refine ev6 0 (.of_arg h1 (by simp only [St.get_alloc]; rfl) (by show 0 < 2; decide)) (fun o v i hp => ?_) hb (wf_u16 wp).1
  rcases h1.at0 with h0 | h0
  · rw [hp] at h0; cases h0
  · rw [hp] at h0; cases h0; show 0 < 2; decide
end Go.Proofs.YthejkmfmcjpfhaaA
