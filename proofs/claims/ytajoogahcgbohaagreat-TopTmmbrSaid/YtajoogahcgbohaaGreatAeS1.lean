/- An abstract evaluator, what is used with it: what is known of pure functions, and how it is reckoned with values that are not known. -/
import Derived.Test.YtajoogahcgbohaaGreatAeZ
set_option linter.unusedVariables false
set_option linter.unusedSimpArgs false
namespace Go.Proofs.YtajoogahcgbohaaGreatA
open Go.RowKit

/-! ### What is known of pure functions, one more -/
def X0 : Nat → List AV → Option AV := fun _ _ => none
def addX (X : Nat → List AV → Option AV) (g : Nat) (s : List AV → Option AV) : Nat → List AV → Option AV := fun f args => if f = g then s args else X f args
/-- What a value that stands for one keeps to. -/
def AV.wf : AV → Prop
  | .int k n => (Lit.int k n).wf = true
  | .str l => ∀ b ∈ l, b < 256
  | _ => True
theorem VR.wf {ρ : Rho} {a : AV} {c : Value} (h : VR ρ a c) : a.wf := by
  cases h <;> first | assumption | trivial | skip
  case str s h => subst h; exact fun b hb => bytesN_lt hb
theorem VRs.wf {ρ : Rho} : ∀ {l : List AV} {cs : List Value}, VRs ρ l cs → ∀ a ∈ l, a.wf
  | [], _, _, a, h => by simp at h
  | x :: l, _, .cons h t, a, ha => by
    rcases List.mem_cons.1 ha with rfl | ha
    · exact h.wf
    · exact t.wf a ha
theorem X0_ok (P : Program) : XOk P X0 := fun _ _ _ h => by cases h
theorem addX_ok {P : Program} (hm : P.follows .mixedOrders = true) {X : Nat → List AV → Option AV} {AP : Nat → Option AFunc} (hX : XOk P X) (hAP : APOk P AP) {g : Nat} {s : List AV → Option AV}
    (hg : EntryOk P g) (hs : ∀ args v, s args = some v → AV.pures args = true ∧ v.pure = true ∧ ((∀ a ∈ args, a.wf) → ∃ k S', evF X AP k g args S0 = some (v, S'))) : XOk P (addX X g s) := by
  intro f args v h
  unfold addX at h
  by_cases hfg : f = g
  case neg => rw [if_neg hfg] at h; exact hX f args v h
  case pos =>
    rw [if_pos hfg] at h
    subst hfg
    obtain ⟨h1, h2, h3⟩ := hs args v h
    refine ⟨hg, fun S B w0 ρ w cs hS hcs => ?_⟩
    obtain ⟨k, S', he⟩ := h3 hcs.wf
    exact con_pure h1 h2 (evF_sound hm hX hAP k f args S0 v S' he).2 S B w0 ρ w cs hS hcs
/-- A whole call, from a state of no object. -/
theorem call_pure {P : Program} (hm : P.follows .mixedOrders = true) {X : Nat → List AV → Option AV} {AP : Nat → Option AFunc} (hX : XOk P X) (hAP : APOk P AP) {k f : Nat} {args : List AV} {v : AV} {S' : St}
    (he : evF X AP k f args S0 = some (v, S')) {cs : List Value} (hcs : VRs ρ0 args cs) (W : World) :
    Calls P f cs.toArray W fun e W' => (∃ ρ c, e = .returned c ∧ VR ρ v c) ∧ Below W.heap.size W W' := by
  refine Calls.mono ((evF_sound hm hX hAP k f args S0 v S' he).2 W.heap.size W ρ0 W cs (sim0 W) hcs) ?_
  rintro e w' ⟨ρ', c, _, rfl, h2, h3⟩
  exact ⟨⟨ρ', c, rfl, h2⟩, h3.below⟩
theorem call_true {P : Program} (hm : P.follows .mixedOrders = true) {X : Nat → List AV → Option AV} {AP : Nat → Option AFunc} (hX : XOk P X) (hAP : APOk P AP) {k f : Nat} {args : List AV} {S' : St}
    (he : evF X AP k f args S0 = some (.bool true, S')) {cs : List Value} (hcs : VRs ρ0 args cs) (W : World) :
    Calls P f cs.toArray W fun e W' => e = .returned (.bool true) ∧ Below W.heap.size W W' := by
  refine (call_pure hm hX hAP he hcs W).mono ?_
  rintro e w' ⟨⟨ρ, c, rfl, hv⟩, hb⟩
  cases hv
  exact ⟨rfl, hb⟩

/-! ### Reckoning with values that are not known -/
theorem bind_congr1 {α β : Type} {x y : Option α} {f : α → Option β} (h : x = y) : x.bind f = y.bind f := by rw [h]
theorem map_congr1 {α β : Type} {x y : Option α} {f : α → β} (h : x = y) : x.map f = y.map f := by rw [h]
theorem cond_congr1 {α : Type} {c d : Bool} {a b : α} (h : c = d) : (bif c then a else b) = (bif d then a else b) := by rw [h]
/-- What is known of a call, or what its body comes to. -/
def withX (o : Option AV) (S : St) (r : Unit → Option (AV × St)) : Option (AV × St) :=
  match o with
  | some v => some (v, S)
  | none => r ()
theorem withX_some {v : AV} {S : St} {r : Unit → Option (AV × St)} : withX (some v) S r = some (v, S) := rfl
theorem withX_none {S : St} {r : Unit → Option (AV × St)} : withX none S r = r () := rfl
theorem withX_congr {o o' : Option AV} {S : St} {r : Unit → Option (AV × St)} (h : o = o') : withX o S r = withX o' S r := by rw [h]
theorem evF_eq {X : Nat → List AV → Option AV} {AP : Nat → Option AFunc} {k f : Nat} {args : List AV} {S : St} :
    evF X AP (k + 1) f args S = withX (X f args) S fun _ => (AP f).bind fun af => bif Nat.ble args.length af.ntmps then (evC (evF X AP k) k af.body (setArgs args 0 .lf) S).bind (fin af.results) else none := by
  simp only [evF]
  cases X f args <;> rfl
theorem evF_body {X : Nat → List AV → Option AV} {AP : Nat → Option AFunc} {k f : Nat} {args : List AV} {S : St} {af : AFunc} (h : X f args = none) (ha : AP f = some af) (hn : Nat.ble args.length af.ntmps = true) :
    evF X AP (k + 1) f args S = (evC (evF X AP k) k af.body (setArgs args 0 .lf) S).bind (fin af.results) := by
  simp only [evF, h, ha, Option.bind_some, hn, cond_true]
theorem evF_known {X : Nat → List AV → Option AV} {AP : Nat → Option AFunc} {k f : Nat} {args : List AV} {S : St} {v : AV} (h : X f args = some v) : evF X AP (k + 1) f args S = some (v, S) := by
  simp only [evF, h]
theorem ble_dec (a b : Nat) : Nat.ble a b = decide (a ≤ b) := by rw [Bool.eq_iff_iff]; simp [Nat.ble_eq]
theorem beq_dec (a b : Nat) : Nat.beq a b = decide (a = b) := by rw [Bool.eq_iff_iff]; simp [Nat.beq_eq]
theorem ix_ok {k : IntKind} {i : Int} {n : Nat} (h0 : 0 ≤ i) (h1 : i < n) : ixOf (.int k i) n = some i.toNat := by simp only [ixOf]; rw [if_pos ⟨h0, h1⟩]
/-! ### Summaries of functions of numbers -/
def sN0 (v : AV) (l : List AV) : Option AV := match l with | [] => some v | _ => none
def sN1 (k : IntKind) (F : Int → AV) (l : List AV) : Option AV := match l with | [.int j a] => if j = k then some (F a) else none | _ => none
def sN2 (k1 k2 : IntKind) (F : Int → Int → AV) (l : List AV) : Option AV := match l with | [.int j1 a, .int j2 b] => if j1 = k1 ∧ j2 = k2 then some (F a b) else none | _ => none
def sN3 (k1 k2 k3 : IntKind) (F : Int → Int → Int → AV) (l : List AV) : Option AV := match l with | [.int j1 a, .int j2 b, .int j3 c] => if j1 = k1 ∧ j2 = k2 ∧ j3 = k3 then some (F a b c) else none | _ => none
def sN4 (k1 k2 k3 k4 : IntKind) (F : Int → Int → Int → Int → AV) (l : List AV) : Option AV := match l with | [.int j1 a, .int j2 b, .int j3 c, .int j4 d] => if j1 = k1 ∧ j2 = k2 ∧ j3 = k3 ∧ j4 = k4 then some (F a b c d) else none | _ => none
section
variable {P : Program} (hm : P.follows .mixedOrders = true) {X : Nat → List AV → Option AV} {AP : Nat → Option AFunc} (hX : XOk P X) (hAP : APOk P AP) {g : Nat} (hg : EntryOk P g)
include hm hX hAP hg
theorem addX_N0 {v : AV} (hv : v.pure = true) (he : ∃ k S', evF X AP k g [] S0 = some (v, S')) : XOk P (addX X g (sN0 v)) := by
  refine addX_ok hm hX hAP hg fun args u h => ?_
  unfold sN0 at h
  split at h
  · cases h; exact ⟨rfl, hv, fun _ => he⟩
  · cases h
theorem addX_N1 {k1 : IntKind} {F : Int → AV} (hv : ∀ a, (F a).pure = true) (he : ∀ a, (Lit.int k1 a).wf = true → ∃ k S', evF X AP k g [.int k1 a] S0 = some (F a, S')) : XOk P (addX X g (sN1 k1 F)) := by
  refine addX_ok hm hX hAP hg fun args u h => ?_
  unfold sN1 at h
  split at h
  · rename_i j a
    split at h
    · rename_i hk; subst hk; cases h
      exact ⟨rfl, hv _, fun hw => he a (hw (.int j a) (by simp))⟩
    · cases h
  · cases h
theorem addX_N2 {k1 k2 : IntKind} {F : Int → Int → AV} (hv : ∀ a b, (F a b).pure = true) (he : ∀ a b, (Lit.int k1 a).wf = true → (Lit.int k2 b).wf = true → ∃ k S', evF X AP k g [.int k1 a, .int k2 b] S0 = some (F a b, S')) :
    XOk P (addX X g (sN2 k1 k2 F)) := by
  refine addX_ok hm hX hAP hg fun args u h => ?_
  unfold sN2 at h
  split at h
  · rename_i j1 a j2 b
    split at h
    · rename_i hk; obtain ⟨rfl, rfl⟩ := hk; cases h
      exact ⟨rfl, hv _ _, fun hw => he a b (hw (.int j1 a) (by simp)) (hw (.int j2 b) (by simp))⟩
    · cases h
  · cases h
theorem addX_N3 {k1 k2 k3 : IntKind} {F : Int → Int → Int → AV} (hv : ∀ a b c, (F a b c).pure = true) (he : ∀ a b c, (Lit.int k1 a).wf = true → (Lit.int k2 b).wf = true → (Lit.int k3 c).wf = true → ∃ k S', evF X AP k g [.int k1 a, .int k2 b, .int k3 c] S0 = some (F a b c, S')) :
    XOk P (addX X g (sN3 k1 k2 k3 F)) := by
  refine addX_ok hm hX hAP hg fun args u h => ?_
  unfold sN3 at h
  split at h
  · rename_i j1 a j2 b j3 c
    split at h
    · rename_i hk; obtain ⟨rfl, rfl, rfl⟩ := hk; cases h
      exact ⟨rfl, hv _ _ _, fun hw => he a b c (hw (.int j1 a) (by simp)) (hw (.int j2 b) (by simp)) (hw (.int j3 c) (by simp))⟩
    · cases h
  · cases h
theorem addX_N4 {k1 k2 k3 k4 : IntKind} {F : Int → Int → Int → Int → AV} (hv : ∀ a b c d, (F a b c d).pure = true)
    (he : ∀ a b c d, (Lit.int k1 a).wf = true → (Lit.int k2 b).wf = true → (Lit.int k3 c).wf = true → (Lit.int k4 d).wf = true → ∃ k S', evF X AP k g [.int k1 a, .int k2 b, .int k3 c, .int k4 d] S0 = some (F a b c d, S')) : XOk P (addX X g (sN4 k1 k2 k3 k4 F)) := by
  refine addX_ok hm hX hAP hg fun args u h => ?_
  unfold sN4 at h
  split at h
  · rename_i j1 a j2 b j3 c j4 d
    split at h
    · rename_i hk; obtain ⟨rfl, rfl, rfl, rfl⟩ := hk; cases h
      exact ⟨rfl, hv _ _ _ _, fun hw => he a b c d (hw (.int j1 a) (by simp)) (hw (.int j2 b) (by simp)) (hw (.int j3 c) (by simp)) (hw (.int j4 d) (by simp))⟩
    · cases h
  · cases h
end
theorem entry_of {P : Program} {AP : Nat → Option AFunc} (hAP : APOk P AP) {g : Nat} {af : AFunc} (h : AP g = some af) : EntryOk P g := by
  obtain ⟨fn, h1, h2⟩ := hAP g af h
  unfold cFunc at h2
  cases hn : fn.name == "runtime.NumGoroutine" with
  | true => rw [hn] at h2; cases h2
  | false =>
    rw [hn, cond_false] at h2
    simp only [Option.bind_eq_some_iff] at h2
    obtain ⟨c, hc, _⟩ := h2
    exact ⟨fn, h1, by rw [hc]; rfl, hn⟩
end Go.Proofs.YtajoogahcgbohaaGreatA
