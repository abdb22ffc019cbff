/- An abstract evaluator, part Y: codes. -/
import Derived.Test.YtajoogahcgbohaaGreatAeX2
set_option linter.unusedVariables false
set_option linter.unusedSimpArgs false
namespace Go.Proofs.YtajoogahcgbohaaGreatA
open Go.RowKit

def cCode (P : Program) (n : Nat) : Code → Option AC
  | .skip => some .skip
  | .region _ ops draw => (cOps P n ops ops.toList).bind fun l => bif draw then (cDraw ops.toList l).map (.dreg l) else some (.reg l)
  | .seq a b => (cCode P n a).bind fun x => (cCode P n b).map (.seq x)
  | .cond c a b => (cX c).bind fun c => (cCode P n a).bind fun x => (cCode P n b).map (.cond c x)
  | .block id b => (cCode P n b).map (.block id)
  | .loop b => (cCode P n b).map .loop
  | .exit id => some (.exit id)
  | .ret => some .ret
  | _ => none
def Ex.of : Ex → Exit
  | .normal => .normal
  | .exit id => .exit id
  | .ret => .ret
section
variable {P : Program} {B : Nat} {w0 : Base} {n : Nat} {call : Nat → List AV → St → Option (AV × St)}
theorem ops_sound (hcall : CallOk P call) {ops : Array Oper} {Q : Exit → Act → World → Prop} : ∀ {l : List Oper} {al : List AOper} {i : Nat}, cOps P n ops l = some al → (∀ k, k < l.length → l[k]? = ops[i + k]?) →
    ∀ {T T' : Tm} {S S' : St}, evOps call al T S = some (T', S') → ∀ {ρ : Rho} {a : Act} {w : World}, Rel B w0 n ρ T S a w → (∀ ρ' a' w', ρ.le ρ' → Rel B w0 n ρ' T' S' a' w' → Q .normal a' w') → wpOps P ops Q (List.range' i l.length) a w
  | [], al, i, hc, hi, T, T', S, S', he, ρ, a, w, h, hQ => by cases hc; cases he; exact hQ ρ a w (Rho.le_refl ρ) h
  | o :: r, al, i, hc, hi, T, T', S, S', he, ρ, a, w, h, hQ => by
    simp only [cOps, Option.bind_eq_some_iff, Option.map_eq_some_iff] at hc
    obtain ⟨x, hx, r', hr, rfl⟩ := hc
    simp only [evOps, Option.bind_eq_some_iff] at he
    obtain ⟨⟨v, S1⟩, hv, he⟩ := he
    have ho : ops[i]? = some o := by have := hi 0 (by simp); simpa using this.symm
    obtain ⟨hd, hdn⟩ := cOper_dst hx
    rw [List.length_cons, List.range'_succ, wpOps_cons]
    refine oper_sound hcall ho hx h.tr h.sim hv fun ρ1 c w1 hle hvc hS1 => ?_
    have hT1 : TR ρ1 (putD T o.dst v) (a.put o.dst c).tmps := TR.putD (h.tr.mono hle) (fun d e => Nat.lt_of_lt_of_le (hdn d e) h.sz) hvc
    rw [hd] at he
    exact ops_sound hcall hr (fun k hk => by have := hi (k + 1) (by simpa using hk); rw [List.getElem?_cons_succ] at this; rw [this]; congr 1; omega) he
      ⟨hT1, by rw [put_size]; exact h.sz, by rw [put_defers]; exact h.df, hS1⟩ fun ρ2 a2 w2 hle2 h2 => hQ ρ2 a2 w2 (Rho.le_trans hle hle2) h2
theorem code_sound (hcall : CallOk P call) (hm : P.follows .mixedOrders = true) (k : Nat) : ∀ (c : Code) (ac : AC), cCode P n c = some ac → ∀ (T : Tm) (S : St) (r : Ex) (T' : Tm) (S' : St), evC call k ac T S = some (r, T', S') →
    ∀ (ρ : Rho) (a : Act) (w : World), Rel B w0 n ρ T S a w → ∀ (Q : Exit → Act → World → Prop), (∀ ρ' a' w', ρ.le ρ' → Rel B w0 n ρ' T' S' a' w' → Q r.of a' w') → c.wp P Q a w := by
  intro c
  induction c with
  | skip =>
    intro ac hc T S r T' S' he ρ a w h Q hQ
    cases hc
    cases he
    exact wp_skip (hQ ρ a w (Rho.le_refl ρ) h)
  | region id ops draw =>
    intro ac hc T S r T' S' he ρ a w h Q hQ
    simp only [cCode, Option.bind_eq_some_iff] at hc
    obtain ⟨l, hl, hc⟩ := hc
    cases draw with
    | false =>
      cases hc
      simp only [evC, Option.map_eq_some_iff, Prod.mk.injEq] at he
      obtain ⟨⟨T1, S1⟩, he, rfl, rfl, rfl⟩ := he
      apply wp_region
      have := ops_sound (i := 0) (Q := Q) hcall hl (fun k hk => by simp) he h hQ
      rw [List.range_eq_range', show ops.size = ops.toList.length by simp]
      exact this
    | true =>
      simp only [cond_true, Option.map_eq_some_iff] at hc
      obtain ⟨pl, hpl, rfl⟩ := hc
      simp only [evC, Option.map_eq_some_iff, Prod.mk.injEq] at he
      obtain ⟨⟨T1, S1⟩, he, rfl, rfl, rfl⟩ := he
      exact draw_sound hcall hm hl hpl he h hQ id
  | seq x y ihx ihy =>
    intro ac hc T S r T' S' he ρ a w h Q hQ
    simp only [cCode, Option.bind_eq_some_iff, Option.map_eq_some_iff] at hc
    obtain ⟨x', hx, y', hy, rfl⟩ := hc
    simp only [evC, Option.bind_eq_some_iff] at he
    obtain ⟨⟨r1, T1, S1⟩, h1, h2⟩ := he
    apply wp_seq
    refine ihx x' hx T S r1 T1 S1 h1 ρ a w h _ fun ρ1 a1 w1 hle hr1 => ?_
    cases r1 with
    | normal => exact ihy y' hy T1 S1 r T' S' h2 ρ1 a1 w1 hr1 Q fun ρ2 a2 w2 hle2 hr2 => hQ ρ2 a2 w2 (Rho.le_trans hle hle2) hr2
    | exit id => cases h2; exact hQ ρ1 a1 w1 hle hr1
    | ret => cases h2; exact hQ ρ1 a1 w1 hle hr1
  | cond c x y ihx ihy =>
    intro ac hc T S r T' S' he ρ a w h Q hQ
    simp only [cCode, Option.bind_eq_some_iff, Option.map_eq_some_iff] at hc
    obtain ⟨c', hcc, x', hx, y', hy, rfl⟩ := hc
    simp only [evC, Option.bind_eq_some_iff] at he
    obtain ⟨v, hv, he⟩ := he
    have hval := cX_sound h.tr hcc hv
    cases v with
    | bool t =>
      generalize hg : a.eval c = cv at hval
      cases hval
      cases t with
      | true => exact wp_cond_true hg (ihx x' hx T S r T' S' he ρ a w h Q hQ)
      | false => exact wp_cond_false hg (ihy y' hy T S r T' S' he ρ a w h Q hQ)
    | _ => cases he
  | block id b ih =>
    intro ac hc T S r T' S' he ρ a w h Q hQ
    simp only [cCode, Option.map_eq_some_iff] at hc
    obtain ⟨b', hb, rfl⟩ := hc
    simp only [evC, Option.map_eq_some_iff] at he
    obtain ⟨⟨r1, T1, S1⟩, h1, h2⟩ := he
    apply wp_block
    refine ih b' hb T S r1 T1 S1 h1 ρ a w h _ fun ρ1 a1 w1 hle hr1 => ?_
    cases r1 with
    | normal => cases h2; exact hQ ρ1 a1 w1 hle hr1
    | ret => cases h2; exact hQ ρ1 a1 w1 hle hr1
    | exit i =>
      simp only [Prod.mk.injEq] at h2
      obtain ⟨h2, rfl, rfl⟩ := h2
      simp only [Ex.of, Exit.inBlock]
      by_cases hi : i = id
      · rw [if_pos hi]
        rw [show Nat.beq i id = true by simpa using hi, cond_true] at h2
        subst h2
        exact hQ ρ1 a1 w1 hle hr1
      · rw [if_neg hi]
        rw [show Nat.beq i id = false by (cases hb2 : Nat.beq i id with | false => rfl | true => exact absurd (Nat.eq_of_beq_eq_true hb2) hi), cond_false] at h2
        subst h2
        exact hQ ρ1 a1 w1 hle hr1
  | loop b ih =>
    intro ac hc T S r T' S' he ρ a w h Q hQ
    simp only [cCode, Option.map_eq_some_iff] at hc
    obtain ⟨b', hb, rfl⟩ := hc
    simp only [evC] at he
    have key : ∀ (m : Nat) (T : Tm) (S : St) (ρ : Rho) (a : Act) (w : World), iter (evC call k b') m T S = some (r, T', S') → Rel B w0 n ρ T S a w → (∀ ρ' a' w', ρ.le ρ' → Rel B w0 n ρ' T' S' a' w' → Q r.of a' w') → Code.rounds P b Q m a w := by
      intro m
      induction m with
      | zero => intro T S ρ a w he; cases he
      | succ m ihm =>
        intro T S ρ a w he h hQ
        simp only [iter, Option.bind_eq_some_iff] at he
        obtain ⟨⟨r1, T1, S1⟩, h1, h2⟩ := he
        rw [rounds_succ]
        refine ih b' hb T S r1 T1 S1 h1 ρ a w h _ fun ρ1 a1 w1 hle hr1 => ?_
        cases r1 with
        | normal => exact ihm T1 S1 ρ1 a1 w1 h2 hr1 fun ρ2 a2 w2 hle2 hr2 => hQ ρ2 a2 w2 (Rho.le_trans hle hle2) hr2
        | exit id => cases h2; exact hQ ρ1 a1 w1 hle hr1
        | ret => cases h2; exact hQ ρ1 a1 w1 hle hr1
    exact wp_loop_rounds k (key k T S ρ a w he h hQ)
  | exit id =>
    intro ac hc T S r T' S' he ρ a w h Q hQ
    cases hc
    cases he
    exact wp_exit (hQ ρ a w (Rho.le_refl ρ) h)
  | ret =>
    intro ac hc T S r T' S' he ρ a w h Q hQ
    cases hc
    cases he
    exact wp_ret (hQ ρ a w (Rho.le_refl ρ) h)
  | _ => intro ac hc; cases hc

end
end Go.Proofs.YtajoogahcgbohaaGreatA
