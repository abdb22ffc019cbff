/- An abstract evaluator, what is used with it: codes with loops, by what holds at each round. -/
import Derived.Test.YtajakdllbpnnpaaGreatAeS1
set_option linter.unusedVariables false
set_option linter.unusedSimpArgs false
namespace Go.Proofs.YtajakdllbpnnpaaGreatA
open Go.RowKit

/-- A code comes to an end of which Q holds. -/
def Goes (call : Nat → List AV → St → Option (AV × St)) (k : Nat) (c : AC) (T : Tm) (S : St) (Q : Ex → Tm → St → Prop) : Prop :=
  ∃ r T' S', evC call k c T S = some (r, T', S') ∧ Q r T' S'
/-- What holds behind a code that goes on. -/
def Then (N : Tm → St → Prop) (Q : Ex → Tm → St → Prop) : Ex → Tm → St → Prop
  | .normal, T, S => N T S
  | .exit id, T, S => Q (.exit id) T S
  | .ret, T, S => Q .ret T S
/-- What holds behind a block. -/
def Blk (id : Nat) (Q : Ex → Tm → St → Prop) : Ex → Tm → St → Prop
  | .normal, T, S => Q .normal T S
  | .exit i, T, S => if i = id then Q .normal T S else Q (.exit i) T S
  | .ret, T, S => Q .ret T S
section
variable {call : Nat → List AV → St → Option (AV × St)} {k : Nat} {T : Tm} {S : St} {Q Q' : Ex → Tm → St → Prop}
theorem Goes.mono {c : AC} (h : Goes call k c T S Q) (hq : ∀ r T S, Q r T S → Q' r T S) : Goes call k c T S Q' :=
  let ⟨r, T', S', h1, h2⟩ := h
  ⟨r, T', S', h1, hq r T' S' h2⟩
theorem Goes.skip (h : Q .normal T S) : Goes call k .skip T S Q := ⟨.normal, T, S, rfl, h⟩
theorem Goes.ret (h : Q .ret T S) : Goes call k .ret T S Q := ⟨.ret, T, S, rfl, h⟩
theorem Goes.exit {id : Nat} (h : Q (.exit id) T S) : Goes call k (.exit id) T S Q := ⟨.exit id, T, S, rfl, h⟩
theorem Goes.reg {ops : List AOper} (h : ∃ T' S', evOps call ops T S = some (T', S') ∧ Q .normal T' S') : Goes call k (.reg ops) T S Q := by
  obtain ⟨T', S', h1, h2⟩ := h
  exact ⟨.normal, T', S', by simp only [evC, h1, Option.map_some], h2⟩
theorem Goes.dreg {ops : List AOper} {pl : Plan} (h : ∃ T' S', evDraw call ops pl T S = some (T', S') ∧ Q .normal T' S') : Goes call k (.dreg ops pl) T S Q := by
  obtain ⟨T', S', h1, h2⟩ := h
  exact ⟨.normal, T', S', by simp only [evC, h1, Option.map_some], h2⟩
theorem Goes.reg1 {ops : List AOper} {T' : Tm} {S' : St} (h : evOps call ops T S = some (T', S')) (hq : Q .normal T' S') : Goes call k (.reg ops) T S Q := .reg ⟨T', S', h, hq⟩
theorem Goes.dreg1 {ops : List AOper} {pl : Plan} {T' : Tm} {S' : St} (h : evDraw call ops pl T S = some (T', S')) (hq : Q .normal T' S') : Goes call k (.dreg ops pl) T S Q := .dreg ⟨T', S', h, hq⟩
theorem Goes.preg1 {ops : List AOper} {pl : Plan} {T' : Tm} {S' : St} (h : evPar call ops pl T S = some (T', S')) (hq : Q .normal T' S') : Goes call k (.preg ops pl) T S Q := ⟨.normal, T', S', by simp only [evC, h, Option.map_some], hq⟩
theorem Goes.seq {a b : AC} (h : Goes call k a T S (Then (fun T S => Goes call k b T S Q) Q)) : Goes call k (.seq a b) T S Q := by
  obtain ⟨r, T1, S1, h1, h2⟩ := h
  cases r with
  | normal =>
    obtain ⟨r, T2, S2, h3, h4⟩ := h2
    exact ⟨r, T2, S2, by simp only [evC, h1, Option.bind_some, h3], h4⟩
  | exit id => exact ⟨_, T1, S1, by simp only [evC, h1, Option.bind_some], h2⟩
  | ret => exact ⟨_, T1, S1, by simp only [evC, h1, Option.bind_some], h2⟩
theorem Goes.cond {c : XO} {a b : AC} {t : Bool} (hc : c.ev T = some (.bool t)) (h : if t = true then Goes call k a T S Q else Goes call k b T S Q) : Goes call k (.cond c a b) T S Q := by
  cases t with
  | true =>
    obtain ⟨r, T1, S1, h1, h2⟩ := h
    exact ⟨r, T1, S1, by simp only [evC, hc, Option.bind_some, cond_true, h1], h2⟩
  | false =>
    obtain ⟨r, T1, S1, h1, h2⟩ := h
    exact ⟨r, T1, S1, by simp only [evC, hc, Option.bind_some, cond_false, h1], h2⟩
theorem Goes.condT {c : XO} {a b : AC} (hc : c.ev T = some (.bool true)) (h : Goes call k a T S Q) : Goes call k (.cond c a b) T S Q := .cond hc h
theorem Goes.condF {c : XO} {a b : AC} (hc : c.ev T = some (.bool false)) (h : Goes call k b T S Q) : Goes call k (.cond c a b) T S Q := .cond hc h
theorem Goes.block {id : Nat} {b : AC} (h : Goes call k b T S (Blk id Q)) : Goes call k (.block id b) T S Q := by
  obtain ⟨r, T1, S1, h1, h2⟩ := h
  cases r with
  | normal => exact ⟨.normal, T1, S1, by simp only [evC, h1, Option.map_some], h2⟩
  | ret => exact ⟨.ret, T1, S1, by simp only [evC, h1, Option.map_some], h2⟩
  | exit i =>
    by_cases hi : i = id
    · subst hi
      refine ⟨.normal, T1, S1, by simp only [evC, h1, Option.map_some, Nat.beq_refl, cond_true], ?_⟩
      simpa [Blk] using h2
    · refine ⟨.exit i, T1, S1, ?_, by simpa [Blk, hi] using h2⟩
      have hb : Nat.beq i id = false := by cases hb : Nat.beq i id with | false => rfl | true => exact absurd (Nat.eq_of_beq_eq_true hb) hi
      simp only [evC, h1, Option.map_some, hb, cond_false]
/-- A loop: I holds ahead of each round, m bounds the rounds that are left. -/
theorem Goes.loop {b : AC} (I : Tm → St → Prop) (m : Tm → St → Nat) (h0 : I T S) (hm : m T S < k)
    (round : ∀ T S, I T S → Goes call k b T S (Then (fun T' S' => I T' S' ∧ m T' S' < m T S) Q)) : Goes call k (.loop b) T S Q := by
  have key : ∀ (n : Nat) (T : Tm) (S : St), I T S → m T S < n → ∃ r T' S', iter (evC call k b) n T S = some (r, T', S') ∧ Q r T' S' := by
    intro n
    induction n with
    | zero => intro T S _ h; omega
    | succ n ih =>
      intro T S hI hlt
      obtain ⟨r, T1, S1, h1, h2⟩ := round T S hI
      cases r with
      | normal =>
        obtain ⟨r, T2, S2, h3, h4⟩ := ih T1 S1 h2.1 (by have := h2.2; omega)
        exact ⟨r, T2, S2, by simp only [iter, h1, Option.bind_some, h3], h4⟩
      | exit id => exact ⟨_, T1, S1, by simp only [iter, h1, Option.bind_some], h2⟩
      | ret => exact ⟨_, T1, S1, by simp only [iter, h1, Option.bind_some], h2⟩
  obtain ⟨r, T', S', h1, h2⟩ := key k T S h0 hm
  exact ⟨r, T', S', by simp only [evC, h1], h2⟩
end
/-- A call by its body. -/
theorem evF_goes {X : Nat → List AV → Option AV} {AP : Nat → Option AFunc} {k f : Nat} {args : List AV} {S : St} {af : AFunc} (h : X f args = none) (ha : AP f = some af) (hn : Nat.ble args.length af.ntmps = true)
    {Q : AV → St → Prop} (hg : Goes (evF X AP k) k af.body (setArgs args 0 .lf) S fun r T S' => ∃ v S2, fin af.results (r, T, S') = some (v, S2) ∧ Q v S2) : ∃ v S', evF X AP (k + 1) f args S = some (v, S') ∧ Q v S' := by
  obtain ⟨r, T, S', h1, v, S2, h2, h3⟩ := hg
  exact ⟨v, S2, by rw [evF_body h ha hn, h1, Option.bind_some, h2], h3⟩
theorem trace_ops {call : Nat → List AV → St → Option (AV × St)} : ∀ (ops : List AOper) (T : Tm) (S : St), (trace call ops T S).map (fun q => q.2) = evOps call ops T S
  | [], T, S => rfl
  | o :: r, T, S => by
    simp only [trace, evOps]
    cases evOper call o T S with
    | none => rfl
    | some p =>
      simp only [Option.bind_some, Option.map_map]
      rw [← trace_ops r]
      congr 1
theorem evDraw_nil {call : Nat → List AV → St → Option (AV × St)} {ops : List AOper} {T : Tm} {S : St} : evDraw call ops [] T S = evOps call ops T S := by
  rw [← trace_ops]
  unfold evDraw
  cases trace call ops T S with
  | none => rfl
  | some q => rfl
end Go.Proofs.YtajakdllbpnnpaaGreatA
