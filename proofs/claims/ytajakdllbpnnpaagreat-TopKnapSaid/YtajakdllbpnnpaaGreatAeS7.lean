/- An abstract evaluator, what is used with it: elements of several cells. -/
import Derived.Test.YtajakdllbpnnpaaGreatAeS6
set_option linter.unusedVariables false
set_option linter.unusedSimpArgs false
namespace Go.Proofs.YtajakdllbpnnpaaGreatA
open Go.RowKit

/-- A part of what is read. -/
theorem rd_sub {S : St} {o v i n m l : Nat} {ys : List AV} (h : S.rd o v i n = some ys) (hl : m + l ≤ n) : S.rd o v (i + m) l = some ((ys.drop m).take l) := by
  unfold St.rd at h ⊢
  split at h
  · rename_i c ver minv own hg
    simp only [ble_dec] at h ⊢
    by_cases h1 : minv ≤ v
    · by_cases h2 : v ≤ ver
      · by_cases h3 : i + n ≤ c.length
        · simp only [decide_eq_true h1, decide_eq_true h2, decide_eq_true h3, Bool.and_self, cond_true, Option.some.injEq] at h
          simp only [decide_eq_true h1, decide_eq_true h2, decide_eq_true (show i + m + l ≤ c.length by omega), Bool.and_self, cond_true]
          rw [← h, List.drop_take, List.take_take, List.drop_drop, Nat.min_eq_left (by omega)]
        · simp [h3] at h
      · simp [h2] at h
    · simp [h1] at h
  · rename_i c ver minv g hg
    cases hb : (Nat.ble minv v && Nat.ble v ver && Nat.ble (i + n) c.length && (Nat.beq v ver || Nat.ble (i + n) g)) with
    | false => rw [hb] at h; cases h
    | true =>
      rw [hb] at h
      cases h
      simp only [Bool.and_eq_true, Bool.or_eq_true, Nat.ble_eq, Nat.beq_eq] at hb
      have : (Nat.ble minv v && Nat.ble v ver && Nat.ble (i + m + l) c.length && (Nat.beq v ver || Nat.ble (i + m + l) g)) = true := by
        simp only [Bool.and_eq_true, Bool.or_eq_true, Nat.ble_eq, Nat.beq_eq]
        exact ⟨⟨hb.1.1, by omega⟩, hb.2.imp_right fun h => by omega⟩
      rw [this]
      simp only [cond_true]
      rw [List.drop_take, List.take_take, List.drop_drop, Nat.min_eq_left (by omega)]
  · cases h
/-- An element of two scalars. -/
theorem Sl.two {S : St} {o v i len : Nat} {k1 k2 : Sc} (h : Sl S (some (o, v, i)) len [k1, k2]) {j : Int} (h0 : 0 ≤ j) (h1 : j < len) :
    ∃ a b, S.rd o v (i + j.toNat * 2) 2 = some [a, b] ∧ S.rd o v (i + j.toNat * 2) 1 = some [a] ∧ S.rd o v (i + j.toNat * 2 + 1) 1 = some [b] ∧ k1.of a ∧ k2.of b := by
  obtain ⟨ys, hy, hs⟩ := h.el o v i rfl j.toNat (by omega)
  match ys, hs with
  | [a, b], hs =>
    obtain ⟨ha, hb, _⟩ := hs
    refine ⟨a, b, hy, ?_, ?_, ha, hb⟩
    · exact rd_sub (m := 0) (l := 1) hy (by show 0 + 1 ≤ 2; decide)
    · exact rd_sub (m := 1) (l := 1) hy (by show 1 + 1 ≤ 2; decide)
theorem Sc.of_int {k : IntKind} {a : AV} (h : (Sc.int k).of a) : ∃ n, a = .int k n ∧ (Lit.int k n).wf = true := by
  cases a with
  | int k' n => obtain ⟨rfl, hw⟩ := h; exact ⟨n, rfl, hw⟩
  | _ => exact h.elim
theorem Sc.of_bool {a : AV} (h : Sc.bool.of a) : ∃ b, a = .bool b := by
  cases a with
  | bool b => exact ⟨b, rfl⟩
  | _ => exact h.elim
/-- A slice that is laid out whole is read. -/
def scB : Sc → AV → Bool
  | .int k, .int k' n => decide (k' = k) && (Lit.int k n).wf
  | .bool, .bool _ => true
  | _, _ => false
def scsB : List Sc → List AV → Bool
  | [], [] => true
  | k :: ks, x :: xs => scB k x && scsB ks xs
  | _, _ => false
theorem scsB_ok : ∀ {ks : List Sc} {xs : List AV}, scsB ks xs = true → Scs ks xs
  | [], [], _ => trivial
  | k :: ks, x :: xs, h => by
    simp only [scsB, Bool.and_eq_true] at h
    refine ⟨?_, scsB_ok h.2⟩
    have h1 := h.1
    cases k <;> cases x <;> simp only [scB, Bool.and_eq_true, decide_eq_true_eq, Bool.false_eq_true] at h1
    · exact h1
    · trivial
theorem Sl.mk_lit (S : St) (xs : List AV) (len : Nat) (ks : List Sc) (hm : len ≤ 1000000) (hl : xs.length = len * ks.length) (hs : ∀ i, i < len → Scs ks ((xs.drop (i * ks.length)).take ks.length)) :
    Sl (S.alloc (.cells xs 0 0 true)) (some (S.next, 0, 0)) len ks := by
  refine ⟨fun _ => ⟨_, _, _, rfl, Nat.lt_succ_self _⟩, by omega, fun o v i e j hj => ?_⟩
  cases e
  have hle : (j + 1) * ks.length ≤ len * ks.length := Nat.mul_le_mul_right _ (by omega)
  rw [Nat.succ_mul] at hle
  refine ⟨_, rd_cells (by rw [St.get_alloc, if_pos rfl]) (Nat.le_refl _) (by omega), ?_⟩
  rw [Nat.zero_add]
  exact hs j hj
theorem Sl.lit (S : St) (xs : List AV) (len : Nat) (ks : List Sc) (hm : len ≤ 1000000) (hl : xs.length = len * ks.length) (hs : ((List.range len).all fun i => scsB ks ((xs.drop (i * ks.length)).take ks.length)) = true) :
    Sl (S.alloc (.cells xs 0 0 true)) (some (S.next, 0, 0)) len ks :=
  .mk_lit S xs len ks hm hl fun i hi => scsB_ok (List.all_eq_true.1 hs i (List.mem_range.2 hi))
end Go.Proofs.YtajakdllbpnnpaaGreatA
