/- An abstract evaluator for the loaded Go text, part A: values, tables, states, operations, what they come to. -/
import Derived.Below
import Derived.Orders
import Derived.LoopN
import Derived.Laws.Rows
import Derived.Laws.Cells
import Derived.KernelRfl
set_option linter.unusedVariables false
set_option linter.unusedSimpArgs false
namespace Go.Proofs.YtajoogahcgbohaaGreatA
open Go.RowKit

/-! ### Tables by number -/
inductive Tr (α : Type) where
  | lf
  | nd (l : Tr α) (v : Option α) (r : Tr α)
namespace Tr
variable {α : Type}
def get : Tr α → Nat → Option α
  | lf, _ => none
  | nd l v r, k => match k with
    | 0 => v
    | j + 1 => bif Nat.beq (j % 2) 0 then l.get (j / 2) else r.get (j / 2)
def sing (v : α) : Nat → Nat → Tr α
  | 0, _ => nd lf (some v) lf
  | f + 1, k => match k with
    | 0 => nd lf (some v) lf
    | j + 1 => bif Nat.beq (j % 2) 0 then nd (sing v f (j / 2)) none lf else nd lf none (sing v f (j / 2))
def set : Tr α → Nat → α → Tr α
  | lf, k, v => sing v k k
  | nd l x r, k, v => match k with
    | 0 => nd l (some v) r
    | j + 1 => bif Nat.beq (j % 2) 0 then nd (l.set (j / 2) v) x r else nd l x (r.set (j / 2) v)
theorem get_lf (k : Nat) : (lf : Tr α).get k = none := rfl
theorem get_sing (v : α) : ∀ (f k j : Nat), k ≤ f → (sing v f k).get j = if j = k then some v else none := by
  intro f
  induction f with
  | zero =>
    intro k j h
    obtain rfl : k = 0 := by omega
    cases j with
    | zero => simp [sing, get]
    | succ j => simp only [sing, get]; cases Nat.beq (j % 2) 0 <;> simp [get_lf]
  | succ f ih =>
    intro k j h
    cases k with
    | zero =>
      cases j with
      | zero => simp [sing, get]
      | succ j => simp only [sing, get]; cases Nat.beq (j % 2) 0 <;> simp [get_lf]
    | succ k =>
      simp only [sing]
      cases hk : Nat.beq (k % 2) 0
      · have hk' : k % 2 ≠ 0 := fun e => by rw [e] at hk; simp at hk
        cases j with
        | zero => simp [get]
        | succ j =>
          simp only [cond_false, get]
          cases hj : Nat.beq (j % 2) 0
          · have hj' : j % 2 ≠ 0 := fun e => by rw [e] at hj; simp at hj
            rw [cond_false, ih (k / 2) (j / 2) (by omega)]
            by_cases e : j = k
            · simp [e]
            · rw [if_neg (by omega), if_neg (by omega)]
          · have hj' : j % 2 = 0 := by simpa using hj
            rw [cond_true, if_neg (by omega)]
      · have hk' : k % 2 = 0 := by simpa using hk
        cases j with
        | zero => simp [get]
        | succ j =>
          simp only [cond_true, get]
          cases hj : Nat.beq (j % 2) 0
          · have hj' : j % 2 ≠ 0 := fun e => by rw [e] at hj; simp at hj
            rw [cond_false, if_neg (by omega)]
          · have hj' : j % 2 = 0 := by simpa using hj
            rw [cond_true, ih (k / 2) (j / 2) (by omega)]
            by_cases e : j = k
            · simp [e]
            · rw [if_neg (by omega), if_neg (by omega)]
theorem get_set (t : Tr α) : ∀ (k : Nat) (v : α) (j : Nat), (t.set k v).get j = if j = k then some v else t.get j := by
  induction t with
  | lf => intro k v j; simp only [set, get_sing v k k j (Nat.le_refl _), get_lf]
  | nd l x r ihl ihr =>
    intro k v j
    cases k with
    | zero => cases j with
      | zero => simp [set, get]
      | succ j => simp [set, get]
    | succ k =>
      simp only [set]
      cases hk : Nat.beq (k % 2) 0
      · have hk' : k % 2 ≠ 0 := fun e => by rw [e] at hk; simp at hk
        cases j with
        | zero => simp [get]
        | succ j =>
          simp only [cond_false, get]
          cases hj : Nat.beq (j % 2) 0
          · have hj' : j % 2 ≠ 0 := fun e => by rw [e] at hj; simp at hj
            simp only [cond_false]
            rw [ihr]
            by_cases e : j = k
            · simp [e]
            · rw [if_neg (by omega), if_neg (by omega)]
          · have hj' : j % 2 = 0 := by simpa using hj
            simp only [cond_true]
            rw [if_neg (by omega)]
      · have hk' : k % 2 = 0 := by simpa using hk
        cases j with
        | zero => simp [get]
        | succ j =>
          simp only [cond_true, get]
          cases hj : Nat.beq (j % 2) 0
          · have hj' : j % 2 ≠ 0 := fun e => by rw [e] at hj; simp at hj
            simp only [cond_false]
            rw [if_neg (by omega)]
          · have hj' : j % 2 = 0 := by simpa using hj
            simp only [cond_true]
            rw [ihl]
            by_cases e : j = k
            · simp [e]
            · rw [if_neg (by omega), if_neg (by omega)]
end Tr

/-! ### Abstract values -/
/-- A place: an object, its version, an offset, so many cells from there on. -/
structure Pl where
  o : Nat
  v : Nat
  i : Nat
  n : Nat
  deriving DecidableEq
inductive AV where
  | int (k : IntKind) (n : Int)
  | bool (b : Bool)
  | float (k : FloatKind) (bits : Nat)
  | str (s : List Nat)
  | ptr (a : Option Pl)
  | slice (a : Option (Nat × Nat × Nat)) (len esz : Nat) (clip : Option Nat)
  | func (f : Nat) (caps : List AV)
  | nilFunc
  | iface (t : Nat) (v : AV)
  | nilIface
  | agg (cs : List AV)
  | tuple (vs : List AV)
  | map (r : Option Nat)
def AV.atom : AV → Bool
  | .agg _ | .tuple _ => false
  | _ => true
def AV.cells : AV → List AV
  | .agg cs => cs
  | v => [v]
def AV.tup : AV → Bool
  | .tuple _ => true
  | _ => false
def AV.undef : AV := .tuple []

/-- An object: cells (those of its last version; from which version on they stand; may they be written), cells whose older versions stand up to a place alone, an iterator over a string, or a map of whole numbers (key, value, when it was made). -/
inductive AO where
  | cells (c : List AV) (ver minv : Nat) (own : Bool)
  | fork (c : List AV) (ver minv g : Nat)
  | iter (s : List Nat) (pos : Nat)
  | map (kk kv : IntKind) (l : List (Int × Int × Nat)) (clock : Nat)
structure St where
  next : Nat
  objs : Tr AO
abbrev Tm := Tr AV
namespace St
def get (S : St) (o : Nat) : Option AO := S.objs.get o
def put (S : St) (o : Nat) (x : AO) : St := { S with objs := S.objs.set o x }
def alloc (S : St) (x : AO) : St := { next := S.next + 1, objs := S.objs.set S.next x }
theorem get_put (S : St) (o : Nat) (x : AO) (j : Nat) : (S.put o x).get j = if j = o then some x else S.get j := Tr.get_set _ _ _ _
theorem get_alloc (S : St) (x : AO) (j : Nat) : (S.alloc x).get j = if j = S.next then some x else S.get j := Tr.get_set _ _ _ _
theorem next_put (S : St) (o : Nat) (x : AO) : (S.put o x).next = S.next := rfl
theorem next_alloc (S : St) (x : AO) : (S.alloc x).next = S.next + 1 := rfl
/-- So many cells of an object from a place on. -/
def rd (S : St) (o v i n : Nat) : Option (List AV) :=
  match S.get o with
  | some (.cells c ver minv _) => bif Nat.ble minv v && Nat.ble v ver && Nat.ble (i + n) c.length then some ((c.drop i).take n) else none
  | some (.fork c ver minv g) => bif Nat.ble minv v && Nat.ble v ver && Nat.ble (i + n) c.length && (Nat.beq v ver || Nat.ble (i + n) g) then some ((c.drop i).take n) else none
  | _ => none
/-- Cells are written. -/
def wr (S : St) (o v i : Nat) (xs : List AV) : Option St :=
  match S.get o with
  | some (.cells c ver minv true) => bif Nat.beq v ver && Nat.ble minv v && Nat.ble (i + xs.length) c.length then some (S.put o (.cells (c.take i ++ xs ++ c.drop (i + xs.length)) ver ver true)) else none
  | _ => none
end St
def newVar (S : St) (xs : List AV) : AV × St := (.ptr (some ⟨S.next, 0, 0, xs.length⟩), S.alloc (.cells xs 0 0 true))
def newSl (S : St) (xs : List AV) (len esz : Nat) : AV × St := (.slice (some (S.next, 0, 0)) len esz none, S.alloc (.cells xs 0 0 true))

/-! ### Operations, their types resolved -/
inductive XO where
  | t (i : Nat)
  | c (v : AV)
def XO.ev (T : Tm) : XO → Option AV
  | .t i => T.get i
  | .c v => some v
/-- How two values of a type are held against each other. -/
inductive ET where
  | bool
  | num
  | str
  | ptr    -- against nil alone
  | slc
  | fn
  | face   -- interface values, against the literal nil
  | strct (fs : List (Nat × ET))  -- structs of scalars: their offsets
inductive CV where
  | int (k : IntKind)
  | runeStr
  | same
  | strBytes
  | bytesStr
  | strRunes
  | runesStr
  | mark
inductive AOp where
  | mv (x : XO)
  | pick (c a b : XO)
  | alloc (zero : List AV)
  | box (x : XO)
  | build (zero : List AV) (parts : List (Nat × Nat × XO))
  | buildSlice (esz : Nat) (zero : List AV) (len : Nat) (parts : List (Nat × Nat × XO))
  | load1 (a : XO)
  | loadN (n : Nat) (a : XO)
  | store (n : Nat) (a x : XO)
  | nilCheck (x : XO)
  | bin (op : BinOp) (et : ET) (x y : XO)
  | un (op : UnOp) (x : XO)
  | conv (c : CV) (x : XO)
  | mkIface (t : Nat) (x : XO)
  | mkFunc (f : Nat) (caps : List XO)
  | mkSlice (esz bytes : Nat) (zero : List AV) (len cap : XO)
  | cutStr (x : XO) (lo hi : Option XO)
  | cut (esz : Nat) (x : XO) (lo hi mx : Option XO)
  | fieldAddr (off n : Nat) (x : XO)
  | field1 (off : Nat) (x : XO)
  | fieldN (off n : Nat) (x : XO)
  | ixSlice (esz : Nat) (x i : XO)
  | ixArr (len esz : Nat) (x i : XO)
  | ixStr (x i : XO)
  | ixAgg1 (len : Nat) (x i : XO)
  | ixAggN (len esz : Nat) (x i : XO)
  | range (x : XO)
  | next (x : XO)
  | assert (t : Nat) (zero : AV) (ok : Bool) (x : XO)
  | assertI (yes no : List Nat) (ok : Bool) (x : XO)
  | extract (i : Nat) (x : XO)
  | call (f : Nat) (args : List XO)
  | callV (f : XO) (args : List XO)
  | invoke (name : String) (tab : List (Nat × Nat)) (x : XO) (args : List XO)
  | append (esz bytes : Nat) (s x : XO)
  | appendS (bytes : Nat) (s x : XO)
  | len (x : XO)
  | lenS (x : XO)
  | lenArr (n : Nat)
  | mx (xs : List XO)
  | mn (xs : List XO)
  | copy (esz : Nat) (d s : XO)
  | cap (x : XO)
  | appendZ (esz bytes : Nat) (zero : List AV) (s n : XO)
  | cutArr (n esz : Nat) (x : XO) (lo hi : Option XO)
  | mkMap (kk kv : IntKind)
  | lookup (kk kv : IntKind) (ok : Bool) (m k : XO)
  | mapSet (kk kv : IntKind) (m k x : XO)
  | clr (esz : Nat) (zero : List AV) (x : XO)
  | stop
structure AOper where
  dst : Option Nat
  guard : Option (Nat × Bool)
  op : AOp
/-- Of a region that draws its order: what is read again, and at which states. -/
abbrev Plan := List (Nat × Nat)
inductive AC where
  | skip
  | reg (ops : List AOper)
  | dreg (ops : List AOper) (plan : Plan)
  | preg (ops : List AOper) (plan : Plan)
  | seq (a b : AC)
  | cond (c : XO) (a b : AC)
  | block (id : Nat) (b : AC)
  | loop (b : AC)
  | exit (id : Nat)
  | ret
/-- A result: a temporary, or a variable in memory. -/
inductive RV where
  | tmp (t : Nat)
  | cell1 (t : Nat)
  | cellN (t n : Nat)
structure AFunc where
  ntmps : Nat
  results : List RV
  body : AC
inductive Ex where
  | normal
  | exit (id : Nat)
  | ret
end Go.Proofs.YtajoogahcgbohaaGreatA
