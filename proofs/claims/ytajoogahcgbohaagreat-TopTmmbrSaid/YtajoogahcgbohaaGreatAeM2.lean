/- Closed runs in parts: short names in which states are told. -/
import Derived.Test.YtajoogahcgbohaaGreatAeM1
set_option linter.unusedVariables false
namespace Go.Proofs.YtajoogahcgbohaaGreatA
open Go.RowKit
abbrev vI (n : Int) : AV := .int .i64 n
abbrev vK (k : IntKind) (n : Int) : AV := .int k n
abbrev vB (b : Bool) : AV := .bool b
abbrev vT (l : List Nat) : AV := .str l
abbrev vN : AV := .ptr none
abbrev vP (o v i n : Nat) : AV := .ptr (some ⟨o, v, i, n⟩)
abbrev vZ (l e : Nat) (c : Option Nat) : AV := .slice none l e c
abbrev vS (o v i l e : Nat) (c : Option Nat) : AV := .slice (some (o, v, i)) l e c
abbrev vF (f : Nat) (l : List AV) : AV := .func f l
abbrev vNF : AV := .nilFunc
abbrev vJ (t : Nat) (v : AV) : AV := .iface t v
abbrev vNI : AV := .nilIface
abbrev vA (l : List AV) : AV := .agg l
abbrev vU (l : List AV) : AV := .tuple l
abbrev oC (l : List AV) : AO := .cells l 0 0 true
noncomputable def r8 (l : List Nat) : List AV := List.rec (motive := fun _ => List AV) [] (fun n _ ih => .int .u8 (.ofNat n) :: ih) l
noncomputable def r64 (l : List Int) : List AV := List.rec (motive := fun _ => List AV) [] (fun n _ ih => .int .i64 n :: ih) l
noncomputable def hasN (n : Nat) (l : List Nat) : Bool := List.rec (motive := fun _ => Bool) false (fun a _ ih => Bool.casesOn (motive := fun _ => Bool) (Nat.beq a n) ih true) l
noncomputable def hasP (n : Nat) (l : Obs) : Bool := List.rec (motive := fun _ => Bool) false (fun a _ ih => Bool.casesOn (motive := fun _ => Bool) (Nat.beq a.1 n) ih true) l
/-- A state as the last one, without some objects, with others. -/
noncomputable def pat (l : Obs) (ds : List Nat) (ps : Obs) : Obs :=
  List.rec (motive := fun _ => Obs) ps (fun p _ ih => Bool.casesOn (motive := fun _ => Obs) (hasN p.1 ds) (Bool.casesOn (motive := fun _ => Obs) (hasP p.1 ps) (p :: ih) ih) ih) l
theorem base_ok {P : Program} (hm : P.follows .mixedOrders = true) {X : Nat → List AV → Option AV} {AP : Nat → Option AFunc} (hX : XOk P X) (hAP : APOk P AP) (k : Nat) : CallOk P (evFK X AP k) := by
  rw [evFK_eq]; exact evF_sound hm hX hAP k
end Go.Proofs.YtajoogahcgbohaaGreatA
