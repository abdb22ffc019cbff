/- Of two publishers, where one layer alone fits, the one of the first class is given. -/
import Derived.Test.YtidhpcjbllnjgaaGreatTcFZ
import Derived.Test.YtidhpcjbllnjgaaGreatTcGZ
import Derived.Test.YtidhpcjbllnjgaaGreatTcR1
import Derived.Test.YtidhpcjbllnjgaaGreatTcR2
import Derived.Test.YtidhpcjbllnjgaaGreatTcR3
set_option linter.unusedVariables false
set_option maxRecDepth 1000000
namespace Go.Proofs.YtidhpcjbllnjgaaGreatA
open Go.RowKit
theorem lR_ok : LibOk Tryz.prog lR := ⟨List.forall_mem_cons.2 ⟨⟨rfl, tc0⟩, List.forall_mem_cons.2 ⟨⟨rfl, tc12⟩, List.forall_mem_cons.2 ⟨⟨rfl, tc99⟩, List.forall_mem_cons.2 ⟨⟨rfl, tc108⟩, List.forall_mem_cons.2 ⟨⟨rfl, tc115⟩, List.forall_mem_cons.2 ⟨⟨rfl, tc118⟩, (fun _ h => nomatch h)⟩⟩⟩⟩⟩⟩, ⟨List.forall_mem_cons.2 ⟨⟨rfl, tc1⟩, List.forall_mem_cons.2 ⟨⟨rfl, tc13⟩, List.forall_mem_cons.2 ⟨⟨rfl, tc100⟩, List.forall_mem_cons.2 ⟨⟨rfl, tc102⟩, List.forall_mem_cons.2 ⟨⟨rfl, tc103⟩, List.forall_mem_cons.2 ⟨⟨rfl, tc109⟩, List.forall_mem_cons.2 ⟨⟨rfl, tc113⟩, List.forall_mem_cons.2 ⟨⟨rfl, tc114⟩, List.forall_mem_cons.2 ⟨⟨rfl, tc116⟩, List.forall_mem_cons.2 ⟨⟨rfl, tc117⟩, List.forall_mem_cons.2 ⟨⟨rfl, tc119⟩, List.forall_mem_cons.2 ⟨⟨rfl, tc120⟩, (fun _ h => nomatch h)⟩⟩⟩⟩⟩⟩⟩⟩⟩⟩⟩⟩, ⟨List.forall_mem_cons.2 ⟨⟨rfl, tc3⟩, (fun _ h => nomatch h)⟩, ⟨List.forall_mem_cons.2 ⟨⟨rfl, tc2⟩, (fun _ h => nomatch h)⟩, ⟨List.forall_mem_cons.2 ⟨⟨rfl, tc4⟩, List.forall_mem_cons.2 ⟨⟨rfl, tc14⟩, List.forall_mem_cons.2 ⟨⟨rfl, tc110⟩, (fun _ h => nomatch h)⟩⟩⟩, ⟨List.forall_mem_cons.2 ⟨⟨rfl, tc6⟩, List.forall_mem_cons.2 ⟨⟨rfl, tc106⟩, List.forall_mem_cons.2 ⟨⟨rfl, tc107⟩, List.forall_mem_cons.2 ⟨⟨rfl, tc111⟩, List.forall_mem_cons.2 ⟨⟨rfl, tc112⟩, (fun _ h => nomatch h)⟩⟩⟩⟩⟩, ⟨List.forall_mem_cons.2 ⟨⟨rfl, tc101⟩, (fun _ h => nomatch h)⟩, ⟨List.forall_mem_cons.2 ⟨⟨rfl, tc5⟩, List.forall_mem_cons.2 ⟨⟨rfl, tc11⟩, (fun _ h => nomatch h)⟩⟩, ⟨List.forall_mem_cons.2 ⟨⟨rfl, tc104⟩, (fun _ h => nomatch h)⟩, ⟨List.forall_mem_cons.2 ⟨⟨rfl, tc105⟩, (fun _ h => nomatch h)⟩, trivial⟩⟩⟩⟩⟩⟩⟩⟩⟩⟩
theorem uQ_has {p q : Int} (h0 : 0 ≤ p) (h1 : p ≤ 2) (h2 : p < q) (h3 : q ≤ 3) : spQ.has (uQ p q) := by
  refine ⟨fun i => ?_, fun f hf => ?_, fun p hp => (by cases hp), trivial⟩
  · by_cases e0 : i = 0
    · subst e0; rw [show spQ.lim 0 = (0, 2) by kernel_rfl]; exact ⟨h0, h1⟩
    · by_cases e1 : i = 1
      · subst e1; rw [show spQ.lim 1 = (1, 3) by kernel_rfl]; exact ⟨show (1 : Int) ≤ q by omega, h3⟩
      · have hz : spQ.lim i = (0, 0) := by
          unfold Sp.lim
          rw [Tr.getK_eq]
          cases hg : spQ.bs.get i with
          | none => rfl
          | some v =>
            have := bsT_get (l := [(0, 0, 2), (1, 1, 3)]) hg
            simp only [List.mem_cons, Prod.mk.injEq, List.not_mem_nil, or_false] at this
            omega
        rw [hz]
        have : uQ p q i = 0 := by unfold uQ; split <;> first | omega | rfl
        rw [this]; exact ⟨Int.le_refl 0, Int.le_refl 0⟩
  · simp only [spQ, List.mem_cons, List.not_mem_nil, or_false] at hf
    subst hf
    show (0 : Int) ≤ -1 + (-1 * p + (1 * q + 0))
    omega
theorem spW_has {a b : Int} (ha : I64 a) (hb : I64 b) : (spW (a % 3) (b % 3)).has (uQ a b) := by
  refine ⟨fun i => ?_, fun f hf => (by cases hf), fun p hp => (by cases hp), rfl, rfl⟩
  have g : (spW (a % 3) (b % 3)).lim i = (spW 0 0).lim i := rfl
  rw [g]
  by_cases e0 : i = 0
  · subst e0; rw [show (spW 0 0).lim 0 = (-9223372036854775808, 9223372036854775807) by kernel_rfl]; exact ⟨ha.1, ha.2⟩
  · by_cases e1 : i = 1
    · subst e1; rw [show (spW 0 0).lim 1 = (-9223372036854775808, 9223372036854775807) by kernel_rfl]; exact ⟨hb.1, hb.2⟩
    · have hz : (spW 0 0).lim i = (0, 0) := by
        unfold Sp.lim
        rw [Tr.getK_eq]
        cases hg : (spW 0 0).bs.get i with
        | none => rfl
        | some v =>
          have := bsT_get (l := [(0, -9223372036854775808, 9223372036854775807), (1, -9223372036854775808, 9223372036854775807)]) hg
          simp only [List.mem_cons, Prod.mk.injEq, List.not_mem_nil, or_false] at this
          omega
      rw [hz]
      have : uQ a b i = 0 := by unfold uQ; split <;> first | omega | rfl
      rw [this]; exact ⟨Int.le_refl 0, Int.le_refl 0⟩
theorem rootF {x y p q a b : Int} (hp : 0 ≤ p) (hp2 : p ≤ 2) (hq : p < q) (hq3 : q ≤ 3) (ha : I64 a) (hb : I64 b) (ex : a % 3 = x) (ey : b % 3 = y)
    (h : spineB (spW x y) (calW x y lR) af3.body 7 (setArgs [vU0, vU1, .bool false] 0 .lf) (stO [] 0) (gTl (uQ p q) F_T0) (gOl (uQ p q) F_S0) 776 = true) : EntryOk Tryz.prog 3 ∧ ∃ S2, Con Tryz.prog 3 [.int .i64 a, .int .i64 b, .bool false] S0 (.bool true) S2 := by
  subst ex ey
  have hu := spW_has ha hb
  have ht := F_tri (uQ p q) (uQ_has hp hp2 hq hq3)
  rw [← gTl_g (uQ a b), ← gOl_g (uQ a b)] at ht
  have hs := spine_of mixed (calW_ok lR_ok) h (uQ a b) hu ht
  rw [setArgs_g, show gT (uQ a b) .lf = .lf from rfl] at hs
  simp only [List.map_cons, List.map_nil, gU0, gU1, g_bool] at hs
  have hs : TriC Tryz.prog af3.body (setArgs [.int .i64 a, .int .i64 b, .bool false] 0 .lf) S0 .ret (gT (uQ p q) (tmOf F_TE)) (gS (uQ p q) (stO F_SE 32857)) := hs
  have hf : fin af3.results (.ret, tmOf F_TE, stO F_SE 32857) = some (.bool true, stO F_SE 32857) := by kernel_rfl
  obtain ⟨h1, h2⟩ := con_tri apOk (f := 3) (af := af3) rfl rfl hs (by have := fin_g (u := uQ p q) hf; rw [g_bool] at this; exact this)
  exact ⟨h1, _, h2⟩
theorem rootG {x y p q a b : Int} (hp : 0 ≤ p) (hp2 : p ≤ 2) (hq : p < q) (hq3 : q ≤ 3) (ha : I64 a) (hb : I64 b) (ex : a % 3 = x) (ey : b % 3 = y)
    (h : spineB (spW x y) (calW x y lR) af3.body 7 (setArgs [vU0, vU1, .bool true] 0 .lf) (stO [] 0) (gTl (uQ p q) G_T0) (gOl (uQ p q) G_S0) 776 = true) : EntryOk Tryz.prog 3 ∧ ∃ S2, Con Tryz.prog 3 [.int .i64 a, .int .i64 b, .bool true] S0 (.bool true) S2 := by
  subst ex ey
  have hu := spW_has ha hb
  have ht := G_tri (uQ p q) (uQ_has hp hp2 hq hq3)
  rw [← gTl_g (uQ a b), ← gOl_g (uQ a b)] at ht
  have hs := spine_of mixed (calW_ok lR_ok) h (uQ a b) hu ht
  rw [setArgs_g, show gT (uQ a b) .lf = .lf from rfl] at hs
  simp only [List.map_cons, List.map_nil, gU0, gU1, g_bool] at hs
  have hs : TriC Tryz.prog af3.body (setArgs [.int .i64 a, .int .i64 b, .bool true] 0 .lf) S0 .ret (gT (uQ p q) (tmOf G_TE)) (gS (uQ p q) (stO G_SE 32416)) := hs
  have hf : fin af3.results (.ret, tmOf G_TE, stO G_SE 32416) = some (.bool true, stO G_SE 32416) := by kernel_rfl
  obtain ⟨h1, h2⟩ := con_tri apOk (f := 3) (af := af3) rfl rfl hs (by have := fin_g (u := uQ p q) hf; rw [g_bool] at this; exact this)
  exact ⟨h1, _, h2⟩
theorem classes {a b : Int} (ha : I64 a) (hb : I64 b) (w : Bool) : EntryOk Tryz.prog 3 ∧ ∃ S2, Con Tryz.prog 3 [.int .i64 a, .int .i64 b, .bool w] S0 (.bool true) S2 := by
  have hx : a % 3 = 0 ∨ a % 3 = 1 ∨ a % 3 = 2 := by omega
  have hy : b % 3 = 0 ∨ b % 3 = 1 ∨ b % 3 = 2 := by omega
  cases w <;> rcases hx with hx | hx | hx <;> rcases hy with hy | hy | hy
  · exact rootF (p := 0) (q := 1) (by decide) (by decide) (by decide) (by decide) ha hb hx hy R_000
  · exact rootF (p := 0) (q := 2) (by decide) (by decide) (by decide) (by decide) ha hb hx hy R_010
  · exact rootF (p := 0) (q := 3) (by decide) (by decide) (by decide) (by decide) ha hb hx hy R_020
  · exact rootF (p := 0) (q := 2) (by decide) (by decide) (by decide) (by decide) ha hb hx hy R_100
  · exact rootF (p := 1) (q := 2) (by decide) (by decide) (by decide) (by decide) ha hb hx hy R_110
  · exact rootF (p := 1) (q := 3) (by decide) (by decide) (by decide) (by decide) ha hb hx hy R_120
  · exact rootF (p := 0) (q := 3) (by decide) (by decide) (by decide) (by decide) ha hb hx hy R_200
  · exact rootF (p := 1) (q := 3) (by decide) (by decide) (by decide) (by decide) ha hb hx hy R_210
  · exact rootF (p := 2) (q := 3) (by decide) (by decide) (by decide) (by decide) ha hb hx hy R_220
  · exact rootG (p := 0) (q := 1) (by decide) (by decide) (by decide) (by decide) ha hb hx hy R_001
  · exact rootG (p := 0) (q := 2) (by decide) (by decide) (by decide) (by decide) ha hb hx hy R_011
  · exact rootG (p := 0) (q := 3) (by decide) (by decide) (by decide) (by decide) ha hb hx hy R_021
  · exact rootG (p := 0) (q := 2) (by decide) (by decide) (by decide) (by decide) ha hb hx hy R_101
  · exact rootG (p := 1) (q := 2) (by decide) (by decide) (by decide) (by decide) ha hb hx hy R_111
  · exact rootG (p := 1) (q := 3) (by decide) (by decide) (by decide) (by decide) ha hb hx hy R_121
  · exact rootG (p := 0) (q := 3) (by decide) (by decide) (by decide) (by decide) ha hb hx hy R_201
  · exact rootG (p := 1) (q := 3) (by decide) (by decide) (by decide) (by decide) ha hb hx hy R_211
  · exact rootG (p := 2) (q := 3) (by decide) (by decide) (by decide) (by decide) ha hb hx hy R_221
def s3 (l : List AV) : Option AV := match l with
  | [.int .i64 _, .int .i64 _, .bool _] => some (.bool true)
  | _ => none
def XC : Nat → List AV → Option AV := addX X0 3 s3
theorem con_wf {a b : Int} {w : Bool} (h : I64 a → I64 b → EntryOk Tryz.prog 3 ∧ ∃ S2, Con Tryz.prog 3 [.int .i64 a, .int .i64 b, .bool w] S0 (.bool true) S2) : EntryOk Tryz.prog 3 ∧ ∃ S2, Con Tryz.prog 3 [.int .i64 a, .int .i64 b, .bool w] S0 (.bool true) S2 := by
  by_cases ha : I64 a
  · by_cases hb : I64 b
    · exact h ha hb
    · refine ⟨entry_of apOk (af := af3) rfl, S0, fun B w0 ρ W cs hS hv => ?_⟩
      cases hv with | cons h1 t => cases t with | cons h2 t => cases h2 with | int h3 => exact absurd (wf_i64 h3) hb
  · refine ⟨entry_of apOk (af := af3) rfl, S0, fun B w0 ρ W cs hS hv => ?_⟩
    cases hv with | cons h1 t => cases h1 with | int h3 => exact absurd (wf_i64 h3) ha
theorem okC : XOk Tryz.prog XC := by
  intro f args v h
  unfold XC addX at h
  by_cases hf : f = 3
  · rw [if_pos hf] at h
    subst hf
    unfold s3 at h
    split at h
    · rename_i a b w
      cases h
      obtain ⟨h1, S2, h2⟩ := con_wf fun ha hb => classes ha hb w
      exact ⟨h1, con_pure rfl rfl h2⟩
    · cases h
  · rw [if_neg hf] at h; cases h
theorem lawC {a b : Int} (_ : (Lit.int .i64 a).wf = true) (_ : (Lit.int .i64 b).wf = true) (w : Bool) : ∃ S', evF XC AP (0 + 1) 3 [.int .i64 a, .int .i64 b, .bool w] S0 = some (.bool true, S') := ⟨S0, rfl⟩
end Go.Proofs.YtidhpcjbllnjgaaGreatA
