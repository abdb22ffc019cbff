/- Top: a layer that rests plays again as soon as someone wants it: six closed cases. -/
import Derived.Test.YtdppfdpmpekpnaaGreatWkY
set_option linter.unusedVariables false
set_option maxRecDepth 1000000
namespace Go.Proofs.YtdppfdpmpekpnaaGreatA
open Go.RowKit

def T8 (x0 x14 x15 x16 x17 x18 h : AV) (K : Int) : Tm :=
  (((((((setArgs [x0, h] 0 .lf).set 4 (.bool false)).set 14 x14).set 15 x15).set 16 x16).set 17 x17).set 18 x18).set 5 (.int .i64 K)
def K8 (n : Int) : Int := IntKind.i64.wrap (1 + (IntKind.i64.wrap (n.tmod 3 + 3)).tmod 3)
def X8 (K h : Int) : Int := IntKind.i64.wrap (100 * IntKind.i64.wrap (1 + (IntKind.i64.wrap (h.tmod K + K)).tmod K))
theorem pre8 (call : Cal) (n : Int) (h : AV) : ∃ x0 x14 x15 x16 x17 x18, evC call 300 (preC 2 af4.body) (setArgs [.int .i64 n, h] 0 .lf) S0 = some (.normal, T8 x0 x14 x15 x16 x17 x18 h (K8 n), S0) :=
  ⟨.int .i64 n, .int .i64 n, .int .i64 (n.tmod 3), .int .i64 (IntKind.i64.wrap (n.tmod 3 + 3)), .int .i64 ((IntKind.i64.wrap (n.tmod 3 + 3)).tmod 3), .int .i64 (K8 n), by kernel_rfl⟩
theorem tm3 (n : Int) : n.tmod 3 = -2 ∨ n.tmod 3 = -1 ∨ n.tmod 3 = 0 ∨ n.tmod 3 = 1 ∨ n.tmod 3 = 2 := by
  have h1 := Int.tmod_lt_of_pos n (show (0 : Int) < 3 by decide)
  have h2 := Int.lt_tmod_of_pos n (show (0 : Int) < 3 by decide)
  omega
theorem k3 (n : Int) : K8 n = 1 ∨ K8 n = 2 ∨ K8 n = 3 := by
  unfold K8
  rcases tm3 n with h | h | h | h | h <;> rw [h] <;> decide
theorem x1 (n : Int) : X8 1 n = 100 := by
  unfold X8
  rw [Int.tmod_one]; decide
theorem x2 (n : Int) : X8 2 n = 100 ∨ X8 2 n = 200 := by
  have h : n.tmod 2 = -1 ∨ n.tmod 2 = 0 ∨ n.tmod 2 = 1 := by
    have h1 := Int.tmod_lt_of_pos n (show (0 : Int) < 2 by decide)
    have h2 := Int.lt_tmod_of_pos n (show (0 : Int) < 2 by decide)
    omega
  unfold X8
  rcases h with h | h | h <;> rw [h] <;> decide
theorem x3 (n : Int) : X8 3 n = 100 ∨ X8 3 n = 200 ∨ X8 3 n = 300 := by
  unfold X8
  rcases tm3 n with h | h | h | h | h <;> rw [h] <;> decide
noncomputable def RA (call : Cal) (x0 x14 x15 x16 x17 x18 h : AV) (K : Int) : RC := evCK call 300 (preC 4 (sufC 2 af4.body)) (T8 x0 x14 x15 x16 x17 x18 h K) S0
noncomputable def T8b (T : Tm) (x35 x36 x37 x38 x39 x40 x41 x42 x43 : AV) (X : Int) : Tm :=
  (((((((((T.set 35 x35).set 36 x36).set 37 x37).set 38 x38).set 39 x39).set 40 x40).set 41 x41).set 42 x42).set 43 x43).set 7 (.int .i64 X)
theorem n00 (x0 x14 x15 x16 x17 x18 h : AV) : nrmR (RA Wk_c00 x0 x14 x15 x16 x17 x18 h 1) = true := by kernel_rfl
theorem p00 (x0 x14 x15 x16 x17 x18 : AV) (h : Int) : evC Wk_c00 300 (preC 1 (sufC 4 (sufC 2 af4.body))) (tmR (RA Wk_c00 x0 x14 x15 x16 x17 x18 (.int .i64 h) 1)) (stR (RA Wk_c00 x0 x14 x15 x16 x17 x18 (.int .i64 h) 1)) =
    some (.normal, T8b (tmR (RA Wk_c00 x0 x14 x15 x16 x17 x18 (.int .i64 h) 1)) (.int .i64 h) (.int .i64 1) (.int .i64 (h.tmod 1)) (.int .i64 1) (.int .i64 (IntKind.i64.wrap (h.tmod 1 + 1))) (.int .i64 1) (.int .i64 ((IntKind.i64.wrap (h.tmod 1 + 1)).tmod 1)) (.int .i64 (IntKind.i64.wrap (1 + (IntKind.i64.wrap (h.tmod 1 + 1)).tmod 1))) (.int .i64 (X8 1 h)) (X8 1 h), stR (RA Wk_c00 x0 x14 x15 x16 x17 x18 (.int .i64 h) 1)) := by kernel_rfl
theorem r00 (x0 x14 x15 x16 x17 x18 h x35 x36 x37 x38 x39 x40 x41 x42 x43 : AV) : rootChk af4.results (.bool true) (evCK Wk_c00 300 (sufC 1 (sufC 4 (sufC 2 af4.body))) (T8b (tmR (RA Wk_c00 x0 x14 x15 x16 x17 x18 h 1)) x35 x36 x37 x38 x39 x40 x41 x42 x43 100) (stR (RA Wk_c00 x0 x14 x15 x16 x17 x18 h 1))) = true := by kernel_rfl
theorem w00 {n h : Int} (hk : K8 n = 1) (hx : X8 1 h = 100) : EntryOk Tryz.prog 4 ∧ ∃ S2, Con Tryz.prog 4 [.int .i64 n, .int .i64 h] S0 (.bool true) S2 := by
  obtain ⟨x0, x14, x15, x16, x17, x18, h1⟩ := pre8 Wk_c00 n (.int .i64 h)
  rw [hk] at h1
  have h2 := seg (n00 x0 x14 x15 x16 x17 x18 (.int .i64 h))
  have h3 := p00 x0 x14 x15 x16 x17 x18 h
  rw [hx] at h3
  exact con_fin mixed Wk_ok00 apOk (af := af4) rfl rfl (k := 300) ((ev_split _ _ 2 _ _ _ _ _ h1).trans ((ev_split _ _ 4 _ _ _ _ _ h2).trans (ev_split _ _ 1 _ _ _ _ _ h3))) (r00 ..)
theorem n10 (x0 x14 x15 x16 x17 x18 h : AV) : nrmR (RA Wk_c10 x0 x14 x15 x16 x17 x18 h 2) = true := by kernel_rfl
theorem p10 (x0 x14 x15 x16 x17 x18 : AV) (h : Int) : evC Wk_c10 300 (preC 1 (sufC 4 (sufC 2 af4.body))) (tmR (RA Wk_c10 x0 x14 x15 x16 x17 x18 (.int .i64 h) 2)) (stR (RA Wk_c10 x0 x14 x15 x16 x17 x18 (.int .i64 h) 2)) =
    some (.normal, T8b (tmR (RA Wk_c10 x0 x14 x15 x16 x17 x18 (.int .i64 h) 2)) (.int .i64 h) (.int .i64 2) (.int .i64 (h.tmod 2)) (.int .i64 2) (.int .i64 (IntKind.i64.wrap (h.tmod 2 + 2))) (.int .i64 2) (.int .i64 ((IntKind.i64.wrap (h.tmod 2 + 2)).tmod 2)) (.int .i64 (IntKind.i64.wrap (1 + (IntKind.i64.wrap (h.tmod 2 + 2)).tmod 2))) (.int .i64 (X8 2 h)) (X8 2 h), stR (RA Wk_c10 x0 x14 x15 x16 x17 x18 (.int .i64 h) 2)) := by kernel_rfl
theorem r10 (x0 x14 x15 x16 x17 x18 h x35 x36 x37 x38 x39 x40 x41 x42 x43 : AV) : rootChk af4.results (.bool true) (evCK Wk_c10 300 (sufC 1 (sufC 4 (sufC 2 af4.body))) (T8b (tmR (RA Wk_c10 x0 x14 x15 x16 x17 x18 h 2)) x35 x36 x37 x38 x39 x40 x41 x42 x43 100) (stR (RA Wk_c10 x0 x14 x15 x16 x17 x18 h 2))) = true := by kernel_rfl
theorem w10 {n h : Int} (hk : K8 n = 2) (hx : X8 2 h = 100) : EntryOk Tryz.prog 4 ∧ ∃ S2, Con Tryz.prog 4 [.int .i64 n, .int .i64 h] S0 (.bool true) S2 := by
  obtain ⟨x0, x14, x15, x16, x17, x18, h1⟩ := pre8 Wk_c10 n (.int .i64 h)
  rw [hk] at h1
  have h2 := seg (n10 x0 x14 x15 x16 x17 x18 (.int .i64 h))
  have h3 := p10 x0 x14 x15 x16 x17 x18 h
  rw [hx] at h3
  exact con_fin mixed Wk_ok10 apOk (af := af4) rfl rfl (k := 300) ((ev_split _ _ 2 _ _ _ _ _ h1).trans ((ev_split _ _ 4 _ _ _ _ _ h2).trans (ev_split _ _ 1 _ _ _ _ _ h3))) (r10 ..)
theorem n11 (x0 x14 x15 x16 x17 x18 h : AV) : nrmR (RA Wk_c11 x0 x14 x15 x16 x17 x18 h 2) = true := by kernel_rfl
theorem p11 (x0 x14 x15 x16 x17 x18 : AV) (h : Int) : evC Wk_c11 300 (preC 1 (sufC 4 (sufC 2 af4.body))) (tmR (RA Wk_c11 x0 x14 x15 x16 x17 x18 (.int .i64 h) 2)) (stR (RA Wk_c11 x0 x14 x15 x16 x17 x18 (.int .i64 h) 2)) =
    some (.normal, T8b (tmR (RA Wk_c11 x0 x14 x15 x16 x17 x18 (.int .i64 h) 2)) (.int .i64 h) (.int .i64 2) (.int .i64 (h.tmod 2)) (.int .i64 2) (.int .i64 (IntKind.i64.wrap (h.tmod 2 + 2))) (.int .i64 2) (.int .i64 ((IntKind.i64.wrap (h.tmod 2 + 2)).tmod 2)) (.int .i64 (IntKind.i64.wrap (1 + (IntKind.i64.wrap (h.tmod 2 + 2)).tmod 2))) (.int .i64 (X8 2 h)) (X8 2 h), stR (RA Wk_c11 x0 x14 x15 x16 x17 x18 (.int .i64 h) 2)) := by kernel_rfl
theorem r11 (x0 x14 x15 x16 x17 x18 h x35 x36 x37 x38 x39 x40 x41 x42 x43 : AV) : rootChk af4.results (.bool true) (evCK Wk_c11 300 (sufC 1 (sufC 4 (sufC 2 af4.body))) (T8b (tmR (RA Wk_c11 x0 x14 x15 x16 x17 x18 h 2)) x35 x36 x37 x38 x39 x40 x41 x42 x43 200) (stR (RA Wk_c11 x0 x14 x15 x16 x17 x18 h 2))) = true := by kernel_rfl
theorem w11 {n h : Int} (hk : K8 n = 2) (hx : X8 2 h = 200) : EntryOk Tryz.prog 4 ∧ ∃ S2, Con Tryz.prog 4 [.int .i64 n, .int .i64 h] S0 (.bool true) S2 := by
  obtain ⟨x0, x14, x15, x16, x17, x18, h1⟩ := pre8 Wk_c11 n (.int .i64 h)
  rw [hk] at h1
  have h2 := seg (n11 x0 x14 x15 x16 x17 x18 (.int .i64 h))
  have h3 := p11 x0 x14 x15 x16 x17 x18 h
  rw [hx] at h3
  exact con_fin mixed Wk_ok11 apOk (af := af4) rfl rfl (k := 300) ((ev_split _ _ 2 _ _ _ _ _ h1).trans ((ev_split _ _ 4 _ _ _ _ _ h2).trans (ev_split _ _ 1 _ _ _ _ _ h3))) (r11 ..)
theorem n20 (x0 x14 x15 x16 x17 x18 h : AV) : nrmR (RA Wk_c20 x0 x14 x15 x16 x17 x18 h 3) = true := by kernel_rfl
theorem p20 (x0 x14 x15 x16 x17 x18 : AV) (h : Int) : evC Wk_c20 300 (preC 1 (sufC 4 (sufC 2 af4.body))) (tmR (RA Wk_c20 x0 x14 x15 x16 x17 x18 (.int .i64 h) 3)) (stR (RA Wk_c20 x0 x14 x15 x16 x17 x18 (.int .i64 h) 3)) =
    some (.normal, T8b (tmR (RA Wk_c20 x0 x14 x15 x16 x17 x18 (.int .i64 h) 3)) (.int .i64 h) (.int .i64 3) (.int .i64 (h.tmod 3)) (.int .i64 3) (.int .i64 (IntKind.i64.wrap (h.tmod 3 + 3))) (.int .i64 3) (.int .i64 ((IntKind.i64.wrap (h.tmod 3 + 3)).tmod 3)) (.int .i64 (IntKind.i64.wrap (1 + (IntKind.i64.wrap (h.tmod 3 + 3)).tmod 3))) (.int .i64 (X8 3 h)) (X8 3 h), stR (RA Wk_c20 x0 x14 x15 x16 x17 x18 (.int .i64 h) 3)) := by kernel_rfl
theorem r20 (x0 x14 x15 x16 x17 x18 h x35 x36 x37 x38 x39 x40 x41 x42 x43 : AV) : rootChk af4.results (.bool true) (evCK Wk_c20 300 (sufC 1 (sufC 4 (sufC 2 af4.body))) (T8b (tmR (RA Wk_c20 x0 x14 x15 x16 x17 x18 h 3)) x35 x36 x37 x38 x39 x40 x41 x42 x43 100) (stR (RA Wk_c20 x0 x14 x15 x16 x17 x18 h 3))) = true := by kernel_rfl
theorem w20 {n h : Int} (hk : K8 n = 3) (hx : X8 3 h = 100) : EntryOk Tryz.prog 4 ∧ ∃ S2, Con Tryz.prog 4 [.int .i64 n, .int .i64 h] S0 (.bool true) S2 := by
  obtain ⟨x0, x14, x15, x16, x17, x18, h1⟩ := pre8 Wk_c20 n (.int .i64 h)
  rw [hk] at h1
  have h2 := seg (n20 x0 x14 x15 x16 x17 x18 (.int .i64 h))
  have h3 := p20 x0 x14 x15 x16 x17 x18 h
  rw [hx] at h3
  exact con_fin mixed Wk_ok20 apOk (af := af4) rfl rfl (k := 300) ((ev_split _ _ 2 _ _ _ _ _ h1).trans ((ev_split _ _ 4 _ _ _ _ _ h2).trans (ev_split _ _ 1 _ _ _ _ _ h3))) (r20 ..)
theorem n21 (x0 x14 x15 x16 x17 x18 h : AV) : nrmR (RA Wk_c21 x0 x14 x15 x16 x17 x18 h 3) = true := by kernel_rfl
theorem p21 (x0 x14 x15 x16 x17 x18 : AV) (h : Int) : evC Wk_c21 300 (preC 1 (sufC 4 (sufC 2 af4.body))) (tmR (RA Wk_c21 x0 x14 x15 x16 x17 x18 (.int .i64 h) 3)) (stR (RA Wk_c21 x0 x14 x15 x16 x17 x18 (.int .i64 h) 3)) =
    some (.normal, T8b (tmR (RA Wk_c21 x0 x14 x15 x16 x17 x18 (.int .i64 h) 3)) (.int .i64 h) (.int .i64 3) (.int .i64 (h.tmod 3)) (.int .i64 3) (.int .i64 (IntKind.i64.wrap (h.tmod 3 + 3))) (.int .i64 3) (.int .i64 ((IntKind.i64.wrap (h.tmod 3 + 3)).tmod 3)) (.int .i64 (IntKind.i64.wrap (1 + (IntKind.i64.wrap (h.tmod 3 + 3)).tmod 3))) (.int .i64 (X8 3 h)) (X8 3 h), stR (RA Wk_c21 x0 x14 x15 x16 x17 x18 (.int .i64 h) 3)) := by kernel_rfl
theorem r21 (x0 x14 x15 x16 x17 x18 h x35 x36 x37 x38 x39 x40 x41 x42 x43 : AV) : rootChk af4.results (.bool true) (evCK Wk_c21 300 (sufC 1 (sufC 4 (sufC 2 af4.body))) (T8b (tmR (RA Wk_c21 x0 x14 x15 x16 x17 x18 h 3)) x35 x36 x37 x38 x39 x40 x41 x42 x43 200) (stR (RA Wk_c21 x0 x14 x15 x16 x17 x18 h 3))) = true := by kernel_rfl
theorem w21 {n h : Int} (hk : K8 n = 3) (hx : X8 3 h = 200) : EntryOk Tryz.prog 4 ∧ ∃ S2, Con Tryz.prog 4 [.int .i64 n, .int .i64 h] S0 (.bool true) S2 := by
  obtain ⟨x0, x14, x15, x16, x17, x18, h1⟩ := pre8 Wk_c21 n (.int .i64 h)
  rw [hk] at h1
  have h2 := seg (n21 x0 x14 x15 x16 x17 x18 (.int .i64 h))
  have h3 := p21 x0 x14 x15 x16 x17 x18 h
  rw [hx] at h3
  exact con_fin mixed Wk_ok21 apOk (af := af4) rfl rfl (k := 300) ((ev_split _ _ 2 _ _ _ _ _ h1).trans ((ev_split _ _ 4 _ _ _ _ _ h2).trans (ev_split _ _ 1 _ _ _ _ _ h3))) (r21 ..)
theorem n22 (x0 x14 x15 x16 x17 x18 h : AV) : nrmR (RA Wk_c22 x0 x14 x15 x16 x17 x18 h 3) = true := by kernel_rfl
theorem p22 (x0 x14 x15 x16 x17 x18 : AV) (h : Int) : evC Wk_c22 300 (preC 1 (sufC 4 (sufC 2 af4.body))) (tmR (RA Wk_c22 x0 x14 x15 x16 x17 x18 (.int .i64 h) 3)) (stR (RA Wk_c22 x0 x14 x15 x16 x17 x18 (.int .i64 h) 3)) =
    some (.normal, T8b (tmR (RA Wk_c22 x0 x14 x15 x16 x17 x18 (.int .i64 h) 3)) (.int .i64 h) (.int .i64 3) (.int .i64 (h.tmod 3)) (.int .i64 3) (.int .i64 (IntKind.i64.wrap (h.tmod 3 + 3))) (.int .i64 3) (.int .i64 ((IntKind.i64.wrap (h.tmod 3 + 3)).tmod 3)) (.int .i64 (IntKind.i64.wrap (1 + (IntKind.i64.wrap (h.tmod 3 + 3)).tmod 3))) (.int .i64 (X8 3 h)) (X8 3 h), stR (RA Wk_c22 x0 x14 x15 x16 x17 x18 (.int .i64 h) 3)) := by kernel_rfl
theorem r22 (x0 x14 x15 x16 x17 x18 h x35 x36 x37 x38 x39 x40 x41 x42 x43 : AV) : rootChk af4.results (.bool true) (evCK Wk_c22 300 (sufC 1 (sufC 4 (sufC 2 af4.body))) (T8b (tmR (RA Wk_c22 x0 x14 x15 x16 x17 x18 h 3)) x35 x36 x37 x38 x39 x40 x41 x42 x43 300) (stR (RA Wk_c22 x0 x14 x15 x16 x17 x18 h 3))) = true := by kernel_rfl
theorem w22 {n h : Int} (hk : K8 n = 3) (hx : X8 3 h = 300) : EntryOk Tryz.prog 4 ∧ ∃ S2, Con Tryz.prog 4 [.int .i64 n, .int .i64 h] S0 (.bool true) S2 := by
  obtain ⟨x0, x14, x15, x16, x17, x18, h1⟩ := pre8 Wk_c22 n (.int .i64 h)
  rw [hk] at h1
  have h2 := seg (n22 x0 x14 x15 x16 x17 x18 (.int .i64 h))
  have h3 := p22 x0 x14 x15 x16 x17 x18 h
  rw [hx] at h3
  exact con_fin mixed Wk_ok22 apOk (af := af4) rfl rfl (k := 300) ((ev_split _ _ 2 _ _ _ _ _ h1).trans ((ev_split _ _ 4 _ _ _ _ _ h2).trans (ev_split _ _ 1 _ _ _ _ _ h3))) (r22 ..)
theorem wakes (n h : Int) : EntryOk Tryz.prog 4 ∧ ∃ S2, Con Tryz.prog 4 [.int .i64 n, .int .i64 h] S0 (.bool true) S2 := by
  rcases k3 n with hk | hk | hk
  · exact w00 hk (x1 h)
  · rcases x2 h with hx | hx
    · exact w10 hk hx
    · exact w11 hk hx
  · rcases x3 h with hx | hx | hx
    · exact w20 hk hx
    · exact w21 hk hx
    · exact w22 hk hx
def XW : Nat → List AV → Option AV := addX X0 4 (sN2 .i64 .i64 fun _ _ => .bool true)
theorem okW : XOk Tryz.prog XW := by
  intro f args v h
  unfold XW addX at h
  by_cases hf : f = 4
  · rw [if_pos hf] at h
    subst hf
    unfold sN2 at h
    split at h
    · split at h
      · rename_i j1 a j2 b hj
        obtain ⟨rfl, rfl⟩ := hj
        cases h
        obtain ⟨h1, S2, h2⟩ := wakes a b
        exact ⟨h1, con_pure rfl rfl h2⟩
      · cases h
    · cases h
  · rw [if_neg hf] at h; cases h
theorem law8 {n h : Int} (_ : (Lit.int .i64 n).wf = true) (_ : (Lit.int .i64 h).wf = true) : ∃ S', evF XW AP (0 + 1) 4 [.int .i64 n, .int .i64 h] S0 = some (.bool true, S') := ⟨S0, rfl⟩
end Go.Proofs.YtdppfdpmpekpnaaGreatA
