/- Chapter 7: ValueTells, its arguments. -/
import Derived.Test.YtbfkhnpginlpdaaVaM
set_option linter.unusedVariables false
set_option linter.unusedSimpArgs false
set_option maxRecDepth 10000
namespace Go.Proofs.YtbfkhnpginlpdaaA
open Go.RowKit

section
variable {H : Type} {enc : TypeId × Value → H} {P : Program} {w : World} {held : Bool}
/-- A struct of scalars, by value. -/
theorem openFlat {t : TypeId} {fs : Array Field} (hs : P.underlying t = some (.struct fs)) {ks : List Sc} {fu : Nat} (hf : flat fu P t = some ks) {b0 : Nat} {v : Value} {d : DataW H} {p : List MemPlace} (hv : Value.okWide P w .any b0 t v) (h : DataW.Trod enc P w 0 (fun _ => true) held t v d p) :
    ∃ xs, Scs ks xs ∧ ∀ ρ, VR ρ (.agg xs) v := by
  obtain ⟨cs, rfl, _⟩ := Go.WideShapes.okWide_struct hs hv
  obtain ⟨n, hn⟩ := h
  obtain ⟨xs, s, e⟩ := flat_open fu t ks n _ _ hf hn
  exact ⟨xs, s, fun ρ => .agg (e ρ) s.atoms⟩
end
theorem bytesN_len {a : ByteArray} (h : a.size ≤ maxLen) : (bytesN a).length ≤ 9223372036854775807 := by
  unfold bytesN
  rw [List.length_map, Array.length_toList]
  exact h
theorem law4 {n1 n2 r u : Int} (w1 : (Lit.int .i64 n1).wf = true) (w2 : (Lit.int .i64 n2).wf = true) (hr : (Lit.int .i32 r).wf = true) (hu : (Lit.int .u32 u).wf = true) (a : ByteArray) (wa : a.size ≤ maxLen) (b : Bool) {ys : List AV} (hx : Scs lks ys)
    {p : Option (Nat × Nat × Nat)} {n : Nat} {xs : List AV} (h : Arg p 0 n lks xs) :
    ∃ S', evF Y AP 31 4 [.int .i64 n1, .int .i64 n2, .int .i32 r, .int .u32 u, .str (bytesN a), .bool b, .agg ys, .slice p n 3 none] (S0.alloc (.cells xs 0 0 false)) = some (.bool true, S') := by
  obtain ⟨x, rfl, hok⟩ := hx.ly
  exact law4a w1 w2 hr hu (bytesN a) ⟨bytesN_len wa, fun _ hc => bytesN_lt hc⟩ hok h
end Go.Proofs.YtbfkhnpginlpdaaA
