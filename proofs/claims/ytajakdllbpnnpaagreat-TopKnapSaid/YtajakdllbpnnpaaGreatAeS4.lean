/- An abstract evaluator, what is used with it: arguments that are slices of scalars, or of structs of scalars. -/
import Derived.Test.YtajakdllbpnnpaaGreatAeS3
import Derived.Deep.Slices
import Derived.WideShapes
import Derived.ChangeArms
set_option linter.unusedVariables false
set_option linter.unusedSimpArgs false
namespace Go.Proofs.YtajakdllbpnnpaaGreatA
open Go.RowKit

inductive Sc where
  | int (k : IntKind)
  | bool
  | str
def Sc.of : Sc → AV → Prop
  | .int k, .int k' n => k' = k ∧ (Lit.int k n).wf = true
  | .bool, .bool _ => True
  | .str, .str s => s.length ≤ maxLen ∧ ∀ b ∈ s, b < 256
  | _, _ => False
def Scs : List Sc → List AV → Prop
  | [], [] => True
  | k :: ks, x :: xs => k.of x ∧ Scs ks xs
  | _, _ => False
theorem Scs.length : ∀ {ks : List Sc} {xs : List AV}, Scs ks xs → xs.length = ks.length
  | [], [], _ => rfl
  | _ :: _, _ :: _, h => by simp [Scs.length h.2]
  | [], _ :: _, h => h.elim
  | _ :: _, [], h => h.elim
theorem Scs.append : ∀ {ks ks' : List Sc} {xs xs' : List AV}, Scs ks xs → Scs ks' xs' → Scs (ks ++ ks') (xs ++ xs')
  | [], _, [], _, _, h => h
  | _ :: _, _, _ :: _, _, h, h' => ⟨h.1, Scs.append h.2 h'⟩
  | [], _, _ :: _, _, h, _ => h.elim
  | _ :: _, _, [], _, h, _ => h.elim
theorem Scs.atoms : ∀ {ks : List Sc} {xs : List AV}, Scs ks xs → xs.all AV.atom = true
  | [], [], _ => rfl
  | k :: _, x :: _, h => by
    have : x.atom = true := by cases k <;> cases x <;> first | rfl | exact h.1.elim
    simp [this, Scs.atoms h.2]
  | [], _ :: _, h => h.elim
  | _ :: _, [], h => h.elim
/-- The fields of a struct of scalars, one behind the other. -/
def flatS (g : TypeId → Option (List Sc)) (P : Program) : List Field → Nat → Option (List Sc)
  | [], _ => some []
  | f :: r, off => if f.offset = off then (g f.type).bind fun l => if P.cellsOf f.type = l.length then (flatS g P r (off + l.length)).map (l ++ ·) else none else none
def flat : Nat → Program → TypeId → Option (List Sc)
  | 0, _, _ => none
  | n + 1, P, t => match P.underlying t with
    | some .bool => some [.bool]
    | some (.int k) => some [.int k]
    | some .string => some [.str]
    | some (.struct fs) => (flatS (flat n P) P fs.toList 0).bind fun l => if P.cellsOf t = l.length then some l else none
    | _ => none
section
variable {H : Type} {enc : TypeId × Value → H} {P : Program} {w : World} {base : Nat} {spare : Nat → Bool} {held : Bool}
theorem flatS_open {g : TypeId → Option (List Sc)} {r : TypeId → List Value → Option (DataW H × List MemPlace)}
    (hg : ∀ t ks cs x, g t = some ks → r t cs = some x → ∃ xs, Scs ks xs ∧ ∀ ρ, VRs ρ xs cs) (cs : List Value) :
    ∀ (fs : List Field) (off : Nat) (ks : List Sc) (ys : List (DataW H × List MemPlace)), flatS g P fs off = some ks → fs.mapM (fun f => r f.type ((cs.drop f.offset).take (P.cellsOf f.type))) = some ys → cs.length = off + ks.length →
      ∃ xs, Scs ks xs ∧ ∀ ρ, VRs ρ xs (cs.drop off) := by
  intro fs
  induction fs with
  | nil =>
    intro off ks ys h1 h2 h3
    simp only [flatS, Option.some.injEq] at h1
    subst h1
    refine ⟨[], trivial, fun ρ => ?_⟩
    rw [List.drop_eq_nil_of_le (by simpa using Nat.le_of_eq h3)]
    exact .nil
  | cons f fr ih =>
    intro off ks ys h1 h2 h3
    simp only [flatS] at h1
    by_cases ho : f.offset = off
    · rw [if_pos ho] at h1
      obtain ⟨l, hl, h1⟩ := Option.bind_eq_some_iff.1 h1
      by_cases hc : P.cellsOf f.type = l.length
      · rw [if_pos hc] at h1
        obtain ⟨k2, hk2, rfl⟩ := Option.map_eq_some_iff.1 h1
        rw [List.mapM_cons] at h2
        obtain ⟨y, hy, h2⟩ := Option.bind_eq_some_iff.1 h2
        obtain ⟨ys2, hys2, _⟩ := Option.bind_eq_some_iff.1 h2
        obtain ⟨x1, s1, v1⟩ := hg _ _ _ _ hl hy
        simp only [List.length_append] at h3
        obtain ⟨x2, s2, v2⟩ := ih (off + l.length) k2 ys2 hk2 hys2 (by omega)
        refine ⟨x1 ++ x2, s1.append s2, fun ρ => ?_⟩
        have e : cs.drop off = (cs.drop off).take l.length ++ cs.drop (off + l.length) := by
          rw [← List.drop_drop]
          exact (List.take_append_drop _ _).symm
        rw [e]
        refine (?_ : VRs ρ x1 _).append (v2 ρ)
        have := v1 ρ
        rwa [ho, hc] at this
      · rw [if_neg hc] at h1; cases h1
    · rw [if_neg ho] at h1; cases h1
theorem flat_open : ∀ (n : Nat) (t : TypeId) (ks : List Sc) (fuel : Nat) (cs : List Value) (x : DataW H × List MemPlace), flat n P t = some ks → DataW.trod enc P w base spare held fuel t cs = some x → ∃ xs, Scs ks xs ∧ ∀ ρ, VRs ρ xs cs := by
  intro n
  induction n with
  | zero => intro t ks fuel cs x h; cases h
  | succ n ih =>
    intro t ks fuel cs x h hx
    simp only [flat] at h
    split at h
    · rename_i ht
      cases h
      cases fuel with
      | zero => cases hx
      | succ fuel =>
      rw [DataW.trod_step] at hx
      unfold DataW.trodStep at hx
      rw [ht] at hx
      match cs, hx with
      | [.bool b], _ => exact ⟨[.bool b], ⟨trivial, trivial⟩, fun ρ => .one .bool⟩
    · rename_i k ht
      cases h
      obtain ⟨m, rfl, _, hw⟩ := DataW.trod_int ht hx
      exact ⟨[.int k m], ⟨⟨rfl, hw⟩, trivial⟩, fun ρ => .one (.int hw)⟩
    · rename_i ht
      cases h
      obtain ⟨s, rfl, _, hs⟩ := DataW.trod_string ht hx
      refine ⟨[.str (bytesN s)], ⟨⟨by simpa [bytesN] using hs, ?_⟩, trivial⟩, fun ρ => .one (.str rfl)⟩
      intro b hb
      simp only [bytesN, List.mem_map] at hb
      obtain ⟨u, _, rfl⟩ := hb
      exact u.toNat_lt
    · rename_i fs ht
      obtain ⟨l, hl, h⟩ := Option.bind_eq_some_iff.1 h
      by_cases hc : P.cellsOf t = l.length
      · rw [if_pos hc] at h
        cases h
        cases fuel with
        | zero => cases hx
        | succ fuel =>
        rw [DataW.trod_step] at hx
        unfold DataW.trodStep at hx
        simp only [ht] at hx
        by_cases hcl : cs.length = P.cellsOf t
        · rw [if_pos hcl] at hx
          obtain ⟨ys, hys, _⟩ := Option.map_eq_some_iff.1 hx
          have := flatS_open (g := flat n P) (r := DataW.trod enc P w base spare held fuel) (fun t ks cs x h1 h2 => ih t ks fuel cs x h1 h2) cs fs.toList 0 _ ys hl hys (by omega)
          simpa using this
        · rw [if_neg hcl] at hx; cases hx
      · rw [if_neg hc] at h; cases h
    · cases h
/-- So many elements. -/
theorem flat_rows {n : Nat} {e : TypeId} {ks : List Sc} (hf : flat n P e = some ks) {a : Addr} (D : Nat → DataW H) (Pl : Nat → List MemPlace) : ∀ (m : Nat),
    (∀ i, i < m → ∃ cs' fu, w.cells? base (a.add (i * ks.length)) ks.length = some cs' ∧ DataW.trod enc P w base spare held fu e cs' = some (D i, Pl i)) →
    ∃ xs : List AV, xs.length = m * ks.length ∧ xs.all AV.atom = true ∧ (∀ i, i < m → Scs ks ((xs.drop (i * ks.length)).take ks.length)) ∧ ∀ (j : Nat) x, xs[j]? = some x → ∃ v, w.cell? (a.add j) = some v ∧ ∀ ρ, VR ρ x v := by
  intro m
  induction m with
  | zero => intro _; exact ⟨[], by simp, rfl, fun i hi => absurd hi (Nat.not_lt_zero _), fun j x h => by simp at h⟩
  | succ m ih =>
    intro h
    obtain ⟨xs, hl, ha, hs, hv⟩ := ih fun i hi => h i (by omega)
    obtain ⟨cs', fu, h1, h2⟩ := h m (by omega)
    obtain ⟨ys, sy, vy⟩ := flat_open n e ks fu cs' _ hf h2
    obtain ⟨_, hcl, hce⟩ := World.cells?_some h1
    refine ⟨xs ++ ys, ?_, ?_, ?_, ?_⟩
    · rw [List.length_append, hl, sy.length, Nat.succ_mul]
    · rw [List.all_append, ha, sy.atoms]; rfl
    · intro i hi
      by_cases him : i < m
      · have hle : (i + 1) * ks.length ≤ m * ks.length := Nat.mul_le_mul_right _ (by omega)
        rw [Nat.succ_mul] at hle
        rw [List.drop_append_of_le_length (by omega), List.take_append_of_le_length (by rw [List.length_drop]; omega)]
        exact hs i him
      · obtain rfl : i = m := by omega
        rw [← hl, List.drop_left, ← sy.length, List.take_length]
        exact sy
    · intro j x hx
      by_cases hj : j < xs.length
      · rw [List.getElem?_append_left hj] at hx
        exact hv j x hx
      · rw [List.getElem?_append_right (by omega)] at hx
        have hjl : j - xs.length < ys.length := (List.getElem?_eq_some_iff.1 hx).1
        have hjk : j - xs.length < ks.length := by rw [← sy.length]; exact hjl
        obtain ⟨v, hcv, hvr⟩ := (vy (fun _ _ => none)).get hx
        refine ⟨v, ?_, fun ρ => ?_⟩
        · have := hce (j - xs.length) hjk
          rw [hcv] at this
          rw [← this]
          congr 1
          have : a.add j = (a.add (m * ks.length)).add (j - xs.length) := by
            rw [Go.Deep.add_add]
            congr 1
            omega
          exact this
        · obtain ⟨v', hcv', hvr'⟩ := (vy ρ).get hx
          rw [hcv] at hcv'
          cases hcv'
          exact hvr'
end
/-- What an argument that is a slice stands for: object o, or none. -/
structure Arg (p : Option (Nat × Nat × Nat)) (o len : Nat) (ks : List Sc) (xs : List AV) : Prop where
  at_ : len ≠ 0 → p = some (o, 0, 0)
  le : len * ks.length ≤ xs.length
  max : len ≤ 9223372036854775807
  el : ∀ i, i < len → Scs ks ((xs.drop (i * ks.length)).take ks.length)
  at0 : p = none ∨ p = some (o, 0, 0)
theorem Sim.noArg {B : Nat} {w0 : Base} {w : World} {ρ : Rho} {S : St} (h : Sim B w0 ρ S w) (xs : List AV) (ha : xs.all AV.atom = true) : Sim B w0 ρ (S.alloc (.cells xs 0 0 false)) w := by
  refine ⟨h.below, h.base, ?_, ?_, h.heap, ?_, h.apart, h.gh⟩
  · intro o u L e; exact Nat.lt_succ_of_lt (h.fresh o u L e)
  · intro o x e
    rw [St.get_alloc] at e
    by_cases ho : o = S.next
    · subst ho; exact Nat.lt_succ_self _
    · rw [if_neg ho] at e; exact Nat.lt_succ_of_lt (h.dom o x e)
  · intro o x e
    rw [St.get_alloc] at e
    by_cases ho : o = S.next
    · rw [if_pos ho] at e
      cases e
      subst ho
      have no : ∀ u L, ρ S.next u = some L → False := fun u L e => Nat.lt_irrefl _ (h.fresh _ _ _ e)
      exact (show CellsAt B ρ w S.next xs 0 0 false from ⟨fun u L e => (no u L e).elim, fun L e => (no _ L e).elim, fun u L e _ => (no u L e).elim, fun u L e => (no u L e).elim, fun u L _ _ e => (no u L e).elim, ha⟩)
    · rw [if_neg ho] at e; exact h.obj o x e
theorem Sim.argSl {H : Type} {enc : TypeId × Value → H} {P : Program} {held : Bool} {B : Nat} {w0 : Base} {w : World} {ρ : Rho} {S : St} (h : Sim B w0 ρ S w) (hB : B = w.heap.size) {t e : TypeId} {ks : List Sc} (n : Nat)
    (ht : P.underlying t = some (.slice e)) (hf : flat n P e = some ks) (hc : P.cellsOf e = ks.length) (hk : ks.length ≠ 0) {b0 : Nat} {v : Value} (hval : Value.okWide P w .any b0 t v) {d : DataW H} {ps : List MemPlace}
    (hd : DataW.Trod enc P w 0 (fun _ => true) held t v d ps) :
    ∃ (p : Option (Nat × Nat × Nat)) (len : Nat) (xs : List AV) (ρ' : Rho), ρ.le ρ' ∧ Sim B w0 ρ' (S.alloc (.cells xs 0 0 false)) w ∧ VR ρ' (.slice p len ks.length none) v ∧ Arg p S.next len ks xs := by
  obtain ⟨av, len, cap, rfl⟩ := Go.WideShapes.okWide_slice ht hval
  obtain ⟨fuel, hf0⟩ := hd
  rcases Go.Deep.open_slice ht hf0 with ⟨hcs, _⟩ | ⟨a, len', cap', m, fu, D, Pl, hcs, _, hl, hm, hmm, _, hx⟩
  · simp [Value.cells] at hcs
    obtain ⟨rfl, rfl, rfl⟩ := hcs
    exact ⟨none, 0, [], ρ, ρ.le_refl, h.noArg [] rfl, .sliceNil, ⟨fun h => absurd rfl h, by simp, by omega, fun i hi => absurd hi (Nat.not_lt_zero _), .inl rfl⟩⟩
  · simp [Value.cells] at hcs
    obtain ⟨rfl, rfl, rfl⟩ := hcs
    simp only [if_true] at hmm
    subst hmm
    simp only [Value.okWide, ht, Go.Cell.okWide, Cell.ok] at hval
    obtain ⟨_, _, hhas⟩ := hval
    obtain ⟨_, hspot, row, cells, hshape, _⟩ := hhas
    obtain ⟨b, off, spot⟩ := a
    simp only at hspot hshape
    subst hspot
    have hmax : len ≤ 9223372036854775807 := Nat.le_trans hl (Nat.le_trans hm (by decide))
    have hblk : ∃ cs0 e0 fz0, w.heap[b]? = some (.cells cs0 e0 fz0) := by
      unfold World.shape? at hshape
      split at hshape
      · rename_i c el f hb; exact ⟨_, _, _, hb⟩
      · cases hshape
    obtain ⟨cs0, e0, fz0, hblk⟩ := hblk
    have hb : b < B := by
      rw [hB]
      rcases Nat.lt_or_ge b w.heap.size with h' | h'
      · exact h'
      · rw [Array.getElem?_eq_none h'] at hblk; cases hblk
    obtain ⟨xs, hxl, hxa, hxs, hxv⟩ := flat_rows hf D Pl m fun i hi => by
      obtain ⟨cs', h1, h2⟩ := hx i hi
      rw [hc] at h1
      exact ⟨cs', fu, h1, h2⟩
    have hcell : ∀ (i : Nat) x, xs[i]? = some x → ∃ v, cs0[off + i]? = some v ∧ ∀ ρ, VR ρ x v := by
      intro i x hi
      obtain ⟨v, h1, h2⟩ := hxv i x hi
      refine ⟨v, ?_, h2⟩
      have e1 : (Addr.add ⟨b, off, none⟩ i) = ⟨b, off + i, none⟩ := Go.WideShapes.add_plain _ _ _
      rw [e1] at h1
      simpa [World.cell?, hblk] using h1
    have hr : xs.length ≠ 0 → off + xs.length ≤ cs0.size := by
      intro h0
      have hlt : xs.length - 1 < xs.length := by omega
      obtain ⟨v, hv, _⟩ := hcell (xs.length - 1) _ (List.getElem?_eq_getElem hlt)
      have := (Array.getElem?_eq_some_iff.1 hv).1
      omega
    have hle : len * ks.length ≤ xs.length := by rw [hxl]; exact Nat.mul_le_mul_right _ hl
    by_cases h0 : xs.length = 0
    · obtain ⟨ρ', hρ, hL, hS⟩ := h.arg (xs := xs) (b := b) (off := 0) hb hblk (by omega) (fun i a hi => by
        have := (List.getElem?_eq_some_iff.1 hi).1
        omega) hxa
      by_cases hcap : m = 0
      · have hlen : len = 0 := by omega
        subst hlen
        subst hcap
        exact ⟨some (S.next, 0, 0), 0, xs, ρ', hρ, hS, .slice hL (Nat.le_refl _) (by simp) (by simp) (Nat.le_refl _) (fun c hc => by cases hc) (.inl rfl), ⟨fun _ => rfl, hle, hmax, fun i hi => absurd hi (Nat.not_lt_zero _), .inr rfl⟩⟩
      · -- elements of no cells
        have hk0 : ks.length = 0 := by
          rw [hxl] at h0
          rcases Nat.mul_eq_zero.1 h0 with h | h
          · exact absurd h hcap
          · exact h
        exfalso
        exact hk hk0
    · obtain ⟨ρ', hρ, hL, hS⟩ := h.arg (xs := xs) (b := b) (off := off) hb hblk (hr h0) (fun i a hi => by
        obtain ⟨v, h1, h2⟩ := hcell i a hi
        exact ⟨v, h1, h2 ρ⟩) hxa
      exact ⟨some (S.next, 0, 0), len, xs, ρ', hρ, hS, .slice hL (Nat.le_refl _) (by simpa using hle) (by simpa using Nat.le_of_eq hxl.symm) hl (fun c hc => by cases hc) (.inr (by simp [Loc.at])),
        ⟨fun _ => rfl, hle, hmax, fun i hi => hxs i (Nat.lt_of_lt_of_le hi hl), .inr rfl⟩⟩
end Go.Proofs.YtajakdllbpnnpaaGreatA
