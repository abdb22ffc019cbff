/- An abstract evaluator for the loaded Go text, part A: values, tables, states, operations, what they come to. An abstract evaluator, part B: what an operation, a code, a call comes to. An abstract evaluator, part C: how abstract values and states stand to values and worlds. An abstract evaluator, part D: cells read and written in worlds. An abstract evaluator, part E: the loaded operations, their types resolved. An abstract evaluator, part F: numbers, strings, comparings are what the model says. An abstract evaluator, part G: an operation that calls nothing does what the evaluator says. An abstract evaluator, part H: two-place operations, one-place operations, conversions. An abstract evaluator, part I: conversions between texts and slices, built values. An abstract evaluator, part J: runes, values built of parts, slices made. An abstract evaluator, part K: values built of parts, slices made, cut. An abstract evaluator, part L: cuts, appends. An abstract evaluator, part M: appends. An abstract evaluator, part N: an append as the states see it. -/
import Derived.Below
import Derived.Orders
import Derived.LoopN
import Derived.Laws.Rows
import Derived.Laws.Cells
import Derived.KernelRfl
import Derived.OpenShut
import Derived.ChangeKeysEq
import Derived.Deep.DeepAppendWide
set_option linter.unusedVariables false
set_option linter.unusedSimpArgs false
namespace Go.Proofs.YtidhpcjbllnjgaaGreatA
open Go.RowKit
/-! ### Tables by number -/
inductive Tr (α : Type) where
  | lf
  | nd (l : Tr α) (v : Option α) (r : Tr α)
namespace Tr
variable {α : Type}
def get : Tr α → Nat → Option α
  | lf, _ => none
  | nd l v r, k => match k with
    | 0 => v
    | j + 1 => bif Nat.beq (j % 2) 0 then l.get (j / 2) else r.get (j / 2)
def sing (v : α) : Nat → Nat → Tr α
  | 0, _ => nd lf (some v) lf
  | f + 1, k => match k with
    | 0 => nd lf (some v) lf
    | j + 1 => bif Nat.beq (j % 2) 0 then nd (sing v f (j / 2)) none lf else nd lf none (sing v f (j / 2))
def set : Tr α → Nat → α → Tr α
  | lf, k, v => sing v k k
  | nd l x r, k, v => match k with
    | 0 => nd l (some v) r
    | j + 1 => bif Nat.beq (j % 2) 0 then nd (l.set (j / 2) v) x r else nd l x (r.set (j / 2) v)
theorem get_lf (k : Nat) : (lf : Tr α).get k = none := rfl
theorem get_sing (v : α) : ∀ (f k j : Nat), k ≤ f → (sing v f k).get j = if j = k then some v else none := by
  intro f
  induction f with
  | zero =>
    intro k j h
    obtain rfl : k = 0 := by omega
    cases j with
    | zero => simp [sing, get]
    | succ j => simp only [sing, get]; cases Nat.beq (j % 2) 0 <;> simp [get_lf]
  | succ f ih =>
    intro k j h
    cases k with
    | zero =>
      cases j with
      | zero => simp [sing, get]
      | succ j => simp only [sing, get]; cases Nat.beq (j % 2) 0 <;> simp [get_lf]
    | succ k =>
      simp only [sing]
      cases hk : Nat.beq (k % 2) 0
      · have hk' : k % 2 ≠ 0 := fun e => by rw [e] at hk; simp at hk
        cases j with
        | zero => simp [get]
        | succ j =>
          simp only [cond_false, get]
          cases hj : Nat.beq (j % 2) 0
          · have hj' : j % 2 ≠ 0 := fun e => by rw [e] at hj; simp at hj
            rw [cond_false, ih (k / 2) (j / 2) (by omega)]
            by_cases e : j = k
            · simp [e]
            · rw [if_neg (by omega), if_neg (by omega)]
          · have hj' : j % 2 = 0 := by simpa using hj
            rw [cond_true, if_neg (by omega)]
      · have hk' : k % 2 = 0 := by simpa using hk
        cases j with
        | zero => simp [get]
        | succ j =>
          simp only [cond_true, get]
          cases hj : Nat.beq (j % 2) 0
          · have hj' : j % 2 ≠ 0 := fun e => by rw [e] at hj; simp at hj
            rw [cond_false, if_neg (by omega)]
          · have hj' : j % 2 = 0 := by simpa using hj
            rw [cond_true, ih (k / 2) (j / 2) (by omega)]
            by_cases e : j = k
            · simp [e]
            · rw [if_neg (by omega), if_neg (by omega)]
theorem get_set (t : Tr α) : ∀ (k : Nat) (v : α) (j : Nat), (t.set k v).get j = if j = k then some v else t.get j := by
  induction t with
  | lf => intro k v j; simp only [set, get_sing v k k j (Nat.le_refl _), get_lf]
  | nd l x r ihl ihr =>
    intro k v j
    cases k with
    | zero => cases j with
      | zero => simp [set, get]
      | succ j => simp [set, get]
    | succ k =>
      simp only [set]
      cases hk : Nat.beq (k % 2) 0
      · have hk' : k % 2 ≠ 0 := fun e => by rw [e] at hk; simp at hk
        cases j with
        | zero => simp [get]
        | succ j =>
          simp only [cond_false, get]
          cases hj : Nat.beq (j % 2) 0
          · have hj' : j % 2 ≠ 0 := fun e => by rw [e] at hj; simp at hj
            simp only [cond_false]
            rw [ihr]
            by_cases e : j = k
            · simp [e]
            · rw [if_neg (by omega), if_neg (by omega)]
          · have hj' : j % 2 = 0 := by simpa using hj
            simp only [cond_true]
            rw [if_neg (by omega)]
      · have hk' : k % 2 = 0 := by simpa using hk
        cases j with
        | zero => simp [get]
        | succ j =>
          simp only [cond_true, get]
          cases hj : Nat.beq (j % 2) 0
          · have hj' : j % 2 ≠ 0 := fun e => by rw [e] at hj; simp at hj
            simp only [cond_false]
            rw [if_neg (by omega)]
          · have hj' : j % 2 = 0 := by simpa using hj
            simp only [cond_true]
            rw [ihl]
            by_cases e : j = k
            · simp [e]
            · rw [if_neg (by omega), if_neg (by omega)]
end Tr

/-! ### Abstract values -/
/-- A place: an object, its version, an offset, so many cells from there on. -/
structure Pl where
  o : Nat
  v : Nat
  i : Nat
  n : Nat
  deriving DecidableEq
inductive AV where
  | int (k : IntKind) (n : Int)
  | bool (b : Bool)
  | float (k : FloatKind) (bits : Nat)
  | str (s : List Nat)
  | ptr (a : Option Pl)
  | slice (a : Option (Nat × Nat × Nat)) (len esz : Nat) (clip : Option Nat)
  | func (f : Nat) (caps : List AV)
  | nilFunc
  | iface (t : Nat) (v : AV)
  | nilIface
  | agg (cs : List AV)
  | tuple (vs : List AV)
  | map (r : Option Nat)
def AV.atom : AV → Bool
  | .agg _ | .tuple _ => false
  | _ => true
def AV.cells : AV → List AV
  | .agg cs => cs
  | v => [v]
def AV.tup : AV → Bool
  | .tuple _ => true
  | _ => false
def AV.undef : AV := .tuple []

/-- An object: cells (those of its last version; from which version on they stand; may they be written), cells whose older versions stand up to a place alone, an iterator over a string, or a map of whole numbers (key, value, when it was made). -/
inductive AO where
  | cells (c : List AV) (ver minv : Nat) (own : Bool)
  | fork (c : List AV) (ver minv g : Nat)
  | iter (s : List Nat) (pos : Nat)
  | map (kk kv : IntKind) (l : List (Int × Int × Nat)) (clock : Nat)
structure St where
  next : Nat
  objs : Tr AO
abbrev Tm := Tr AV
namespace St
def get (S : St) (o : Nat) : Option AO := S.objs.get o
def put (S : St) (o : Nat) (x : AO) : St := { S with objs := S.objs.set o x }
def alloc (S : St) (x : AO) : St := { next := S.next + 1, objs := S.objs.set S.next x }
theorem get_put (S : St) (o : Nat) (x : AO) (j : Nat) : (S.put o x).get j = if j = o then some x else S.get j := Tr.get_set _ _ _ _
theorem get_alloc (S : St) (x : AO) (j : Nat) : (S.alloc x).get j = if j = S.next then some x else S.get j := Tr.get_set _ _ _ _
theorem next_put (S : St) (o : Nat) (x : AO) : (S.put o x).next = S.next := rfl
theorem next_alloc (S : St) (x : AO) : (S.alloc x).next = S.next + 1 := rfl
/-- So many cells of an object from a place on. -/
def rd (S : St) (o v i n : Nat) : Option (List AV) :=
  match S.get o with
  | some (.cells c ver minv _) => bif Nat.ble minv v && Nat.ble v ver && Nat.ble (i + n) c.length then some ((c.drop i).take n) else none
  | some (.fork c ver minv g) => bif Nat.ble minv v && Nat.ble v ver && Nat.ble (i + n) c.length && (Nat.beq v ver || Nat.ble (i + n) g) then some ((c.drop i).take n) else none
  | _ => none
/-- Cells are written. -/
def wr (S : St) (o v i : Nat) (xs : List AV) : Option St :=
  match S.get o with
  | some (.cells c ver minv true) => bif Nat.beq v ver && Nat.ble minv v && Nat.ble (i + xs.length) c.length then some (S.put o (.cells (c.take i ++ xs ++ c.drop (i + xs.length)) ver ver true)) else none
  | _ => none
end St
def newVar (S : St) (xs : List AV) : AV × St := (.ptr (some ⟨S.next, 0, 0, xs.length⟩), S.alloc (.cells xs 0 0 true))
def newSl (S : St) (xs : List AV) (len esz : Nat) : AV × St := (.slice (some (S.next, 0, 0)) len esz none, S.alloc (.cells xs 0 0 true))

/-! ### Operations, their types resolved -/
inductive XO where
  | t (i : Nat)
  | c (v : AV)
def XO.ev (T : Tm) : XO → Option AV
  | .t i => T.get i
  | .c v => some v
/-- How two values of a type are held against each other. -/
inductive ET where
  | bool
  | num
  | str
  | ptr    -- against nil alone
  | slc
  | fn
  | face   -- interface values, against the literal nil
  | strct (fs : List (Nat × ET))  -- structs of scalars: their offsets
inductive CV where
  | int (k : IntKind)
  | runeStr
  | same
  | strBytes
  | bytesStr
  | strRunes
  | runesStr
  | mark
inductive AOp where
  | mv (x : XO)
  | pick (c a b : XO)
  | alloc (zero : List AV)
  | box (x : XO)
  | build (zero : List AV) (parts : List (Nat × Nat × XO))
  | buildSlice (esz : Nat) (zero : List AV) (len : Nat) (parts : List (Nat × Nat × XO))
  | load1 (a : XO)
  | loadN (n : Nat) (a : XO)
  | store (n : Nat) (a x : XO)
  | nilCheck (x : XO)
  | bin (op : BinOp) (et : ET) (x y : XO)
  | un (op : UnOp) (x : XO)
  | conv (c : CV) (x : XO)
  | mkIface (t : Nat) (x : XO)
  | mkFunc (f : Nat) (caps : List XO)
  | mkSlice (esz bytes : Nat) (zero : List AV) (len cap : XO)
  | cutStr (x : XO) (lo hi : Option XO)
  | cut (esz : Nat) (x : XO) (lo hi mx : Option XO)
  | fieldAddr (off n : Nat) (x : XO)
  | field1 (off : Nat) (x : XO)
  | fieldN (off n : Nat) (x : XO)
  | ixSlice (esz : Nat) (x i : XO)
  | ixArr (len esz : Nat) (x i : XO)
  | ixStr (x i : XO)
  | ixAgg1 (len : Nat) (x i : XO)
  | ixAggN (len esz : Nat) (x i : XO)
  | range (x : XO)
  | next (x : XO)
  | assert (t : Nat) (zero : AV) (ok : Bool) (x : XO)
  | assertI (yes no : List Nat) (ok : Bool) (x : XO)
  | extract (i : Nat) (x : XO)
  | call (f : Nat) (args : List XO)
  | callV (f : XO) (args : List XO)
  | invoke (name : String) (tab : List (Nat × Nat)) (x : XO) (args : List XO)
  | append (esz bytes : Nat) (s x : XO)
  | appendS (bytes : Nat) (s x : XO)
  | len (x : XO)
  | lenS (x : XO)
  | lenArr (n : Nat)
  | mx (xs : List XO)
  | mn (xs : List XO)
  | copy (esz : Nat) (d s : XO)
  | cap (x : XO)
  | appendZ (esz bytes : Nat) (zero : List AV) (s n : XO)
  | cutArr (n esz : Nat) (x : XO) (lo hi : Option XO)
  | mkMap (kk kv : IntKind)
  | lookup (kk kv : IntKind) (ok : Bool) (m k : XO)
  | mapSet (kk kv : IntKind) (m k x : XO)
  | clr (esz : Nat) (zero : List AV) (x : XO)
  | stop
structure AOper where
  dst : Option Nat
  guard : Option (Nat × Bool)
  op : AOp
/-- Of a region that draws its order: what is read again, and at which states. -/
abbrev Plan := List (Nat × Nat)
inductive AC where
  | skip
  | reg (ops : List AOper)
  | dreg (ops : List AOper) (plan : Plan)
  | preg (ops : List AOper) (plan : Plan)
  | seq (a b : AC)
  | cond (c : XO) (a b : AC)
  | block (id : Nat) (b : AC)
  | loop (b : AC)
  | exit (id : Nat)
  | ret
/-- A result: a temporary, or a variable in memory. -/
inductive RV where
  | tmp (t : Nat)
  | cell1 (t : Nat)
  | cellN (t n : Nat)
structure AFunc where
  ntmps : Nat
  results : List RV
  body : AC
inductive Ex where
  | normal
  | exit (id : Nat)
  | ret
/-- Bytes of a rune, as numbers. -/
def encR (r : Int) : List Nat := (Utf8.encode r).data.toList.map UInt8.toNat
/-- The rune at the front of bytes, and how many they are. -/
def decR (l : List Nat) : Nat × Nat := Utf8.decode ⟨((l.take 4).map UInt8.ofNat).toArray⟩ 0
def runesOf : Nat → List Nat → List AV
  | 0, _ => []
  | f + 1, l => match l with
    | [] => []
    | _ :: _ => .int .i32 (decR l).1 :: runesOf f (l.drop (decR l).2)
def ltStr : List Nat → List Nat → Bool
  | _, [] => false
  | [], _ :: _ => true
  | a :: x, b :: y => Nat.blt a b || (Nat.beq a b && ltStr x y)
mutual
/-- A value that holds no place. -/
def AV.pure : AV → Bool
  | .ptr (some _) | .slice (some _) _ _ _ | .map _ => false
  | .func _ l | .agg l | .tuple l => AV.pures l
  | .iface _ v => v.pure
  | _ => true
def AV.pures : List AV → Bool
  | [] => true
  | v :: r => v.pure && AV.pures r
end
def eqStr : List Nat → List Nat → Bool
  | [], [] => true
  | a :: x, b :: y => Nat.beq a b && eqStr x y
  | _, _ => false

def aInt (op : BinOp) (k : IntKind) (a b : Int) : Option AV :=
  match op with
  | .add => some (.int k (k.wrap (a + b)))
  | .sub => some (.int k (k.wrap (a - b)))
  | .mul => some (.int k (k.wrap (a * b)))
  | .quo => if b = 0 then none else some (.int k (k.wrap (a.tdiv b)))
  | .rem => if b = 0 then none else some (.int k (a.tmod b))
  | .and => some (.int k (Go.bits .and k a b))
  | .or => some (.int k (Go.bits .or k a b))
  | .xor => some (.int k (Go.bits .xor k a b))
  | .andNot => some (.int k (Go.bits .andNot k a b))
  | .eql => some (.bool (decide (a = b)))
  | .neq => some (.bool (decide (a ≠ b)))
  | .lss => some (.bool (decide (a < b)))
  | .leq => some (.bool (decide (a ≤ b)))
  | .gtr => some (.bool (decide (b < a)))
  | .geq => some (.bool (decide (b ≤ a)))
  | .shl | .shr => none
def aStr (op : BinOp) (a b : List Nat) : Option AV :=
  match op with
  | .add => if a.length + b.length ≤ 9223372036854775807 then some (.str (a ++ b)) else none
  | .eql => some (.bool (eqStr a b))
  | .neq => some (.bool (!eqStr a b))
  | .lss => some (.bool (ltStr a b))
  | .leq => some (.bool (ltStr a b || eqStr a b))
  | .gtr => some (.bool (!(ltStr a b || eqStr a b)))
  | .geq => some (.bool (!ltStr a b))
  | _ => none
/-- Scalars held against each other. -/
def eqScal : ET → AV → AV → Option Bool
  | .num, .int k a, .int k' b => if k = k' then some (decide (a = b)) else none
  | .bool, .bool a, .bool b => some (a == b)
  | .str, .str a, .str b => some (eqStr a b)
  | _, _, _ => none
def eqFields (xs ys : List AV) : List (Nat × ET) → Option Bool
  | [] => some true
  | (o, e) :: r => match xs[o]?, ys[o]? with
    | some x, some y => (eqScal e x y).bind fun b => bif b then eqFields xs ys r else some false
    | _, _ => none
def aEq (et : ET) (lit : Bool) (x y : AV) : Option Bool :=
  match et with
  | .ptr => match x, y with
    | .ptr none, .ptr b => some b.isNone
    | .ptr (some _), .ptr none => some false
    | _, _ => none
  | .slc => match x, y with
    | .slice none _ _ _, .slice b _ _ _ => some b.isNone
    | .slice (some _) _ _ _, .slice none _ _ _ => some false
    | _, _ => none
  | .fn => match x, y with
    | .nilFunc, .nilFunc => some true
    | .nilFunc, .func _ _ => some false
    | .func _ _, .nilFunc => some false
    | _, _ => none
  | .face => match x, y with
    | .nilIface, .nilIface => if lit then some true else none
    | .nilIface, .iface _ _ => some false
    | .iface _ _, .nilIface => some false
    | _, _ => none
  | .strct fs => match x, y with
    | .agg xs, .agg ys => eqFields xs ys fs
    | _, _ => none
  | e => eqScal e x y
def aBinE (op : BinOp) (et : ET) (lit : Bool) (x y : AV) : Option AV :=
  match op with
  | .eql => (aEq et lit x y).map .bool
  | .neq => (aEq et lit x y).map fun b => .bool (!b)
  | _ => none
def aBin (op : BinOp) (et : ET) (lit : Bool) (x y : AV) : Option AV :=
  match x, y with
  | .int k a, .int yk b => match op with
    | .shl => if b < 0 then none else some (.int k (k.wrap (a * 2 ^ min b.toNat k.bits)))
    | .shr => if b < 0 then none else some (.int k (a / 2 ^ min b.toNat k.bits))
    | op => if k = yk then aInt op k a b else none
  | .str a, .str b => aStr op a b
  | x, y => aBinE op et lit x y
def aUn (op : UnOp) (x : AV) : Option AV :=
  match op, x with
  | .neg, .int k n => some (.int k (k.wrap (0 - n)))
  | .xor, .int k n => some (.int k (Go.bits .xor k (if k.signed then -1 else k.max) n))
  | .not, .bool b => some (.bool !b)
  | _, _ => none
def byteOf : AV → Option Nat
  | .int .u8 n => some (n.toNat % 256)
  | _ => none
def runeOf : AV → Option Int
  | .int .i32 n => some n
  | _ => none
def strOf : List AV → Option (List Nat)
  | [] => some []
  | x :: r => (byteOf x).bind fun b => (strOf r).map (b :: ·)
def strOfR : List AV → Option (List Nat)
  | [] => some []
  | x :: r => (runeOf x).bind fun b => (strOfR r).map (encR b ++ ·)
def aConv (c : CV) (x : AV) (S : St) : Option (AV × St) :=
  match c, x with
  | .int k, .int _ n => some (.int k (k.wrap n), S)
  | .runeStr, .int _ n => some (.str (encR n), S)
  | .same, .str s => some (.str s, S)
  | .strBytes, .str s => some (newSl S (s.map fun b : Nat => .int .u8 (b : Int)) s.length 1)
  | .strRunes, .str s => some (newSl S (runesOf s.length s) (runesOf s.length s).length 1)
  | .bytesStr, .slice none _ _ _ => some (.str [], S)
  | .bytesStr, .slice (some (o, v, i)) len 1 _ => (S.rd o v i len).bind fun l => (strOf l).map fun s => (.str s, S)
  | .runesStr, .slice none _ _ _ => some (.str [], S)
  | .runesStr, .slice (some (o, v, i)) len 1 _ => (S.rd o v i len).bind fun l => (strOfR l).map fun s => (.str s, S)
  | .mark, .slice (some (o, v, i)) len esz clip => match S.get o with
    | some (.cells _ _ minv true) => bif Nat.ble minv v && !Nat.beq len 0 then some (.slice (some (o, v, i)) len esz clip, S) else none
    | _ => none
  | _, _ => none
/-- Parts laid into cells. -/
def aFill (cells : List AV) : List (Nat × Nat × AV) → Option (List AV)
  | [] => some cells
  | (off, size, v) :: r => if v.cells.length = size ∧ off + size ≤ cells.length ∧ v.tup = false then aFill (cells.take off ++ v.cells ++ cells.drop (off + size)) r else none
def rep (n : Nat) (l : List AV) : List AV := (List.replicate n l).flatten
def evParts (T : Tm) : List (Nat × Nat × XO) → Option (List (Nat × Nat × AV))
  | [] => some []
  | (a, b, x) :: r => (x.ev T).bind fun v => (evParts T r).map ((a, b, v) :: ·)
def evArgs (T : Tm) : List XO → Option (List AV)
  | [] => some []
  | x :: r => (x.ev T).bind fun v => (evArgs T r).map (v :: ·)
def evOpt (T : Tm) : Option XO → Option (Option AV)
  | none => some none
  | some x => (x.ev T).map some
/-- A bound of a cut: not below 0, at most y. -/
def bnd (v : Option AV) (d y : Nat) : Option Nat :=
  match v with
  | none => some d
  | some (.int _ n) => if 0 ≤ n ∧ n ≤ y then some n.toNat else none
  | some _ => none
def aCutStr (x : AV) (lo hi : Option AV) : Option AV :=
  match x with
  | .str s => (bnd hi s.length s.length).bind fun h => (bnd lo 0 h).map fun l => .str ((s.take h).drop l)
  | _ => none
def aCut (esz : Nat) (x : AV) (lo hi mx : Option AV) : Option AV :=
  match x with
  | .slice none _ _ _ => if mx.isSome ∧ hi.isNone then none else (bnd mx 0 0).bind fun _ => (bnd hi 0 0).bind fun _ => (bnd lo 0 0).map fun _ => .slice none 0 esz none
  | .slice (some (o, v, i)) len e clip => bif Nat.beq e esz then
      match mx with
      | some m => if hi.isSome then (bnd (some m) 0 len).bind fun m => (bnd hi 0 m).bind fun h => (bnd lo 0 h).map fun l =>
          .slice (some (o, v, i + l * esz)) (h - l) esz (some (m - l)) else none
      | none => (bnd hi len len).bind fun h => (bnd lo 0 h).map fun l => .slice (some (o, v, i + l * esz)) (h - l) esz (clip.map (· - l))
    else none
  | _ => none
/-- What an append comes to: an object's next version. -/
def aAppend (esz bytes : Nat) (S : St) (s : AV) (n : Nat) (xs : List AV) : Option (AV × St) :=
  match s with
  | .slice none len _ _ =>
    if n = 0 then some (s, S) else
    if (n + n / 4 + 256) * bytes ≤ 281474976710656 then some (newSl S xs n esz) else none
  | .slice (some (o, v, i)) len e clip =>
    if e ≠ esz then none else
    if n = 0 then some (s, S) else
    if ¬ ((len + n) + (len + n) / 4 + 256) * bytes ≤ 281474976710656 then none else
    match clip with
    | some c =>
      if c < len + n then (S.rd o v i (len * esz)).map fun l => newSl S (l ++ xs) (len + n) esz
      else none
    | none =>
      match S.get o with
      | some (.cells c ver minv true) =>
        if v = ver ∧ i + len * esz ≤ c.length ∧ minv ≤ v then
          some (.slice (some (o, ver + 1, i)) (len + n) esz none,
            S.put o (.cells (c.take (i + len * esz) ++ xs) (ver + 1) (if i + len * esz = c.length then minv else ver + 1) true))
        else if minv ≤ v ∧ v < ver ∧ i + len * esz ≤ c.length then
          some (.slice (some (o, ver + 1, i)) (len + n) esz none, S.put o (.fork (c.take (i + len * esz) ++ xs) (ver + 1) minv (i + len * esz)))
        else none
      | some (.fork c ver minv g) =>
        if minv ≤ v ∧ v < ver ∧ i + len * esz ≤ g ∧ g ≤ c.length then
          some (.slice (some (o, ver + 1, i)) (len + n) esz none, S.put o (.fork (c.take (i + len * esz) ++ xs) (ver + 1) minv (i + len * esz)))
        else none
      | _ => none
  | _ => none
def minFrom (k : IntKind) (a : Int) : List AV → Option AV
  | [] => some (.int k a)
  | .int k' b :: r => if k = k' then minFrom k (if b < a then b else a) r else none
  | _ => none
def maxFrom (k : IntKind) (a : Int) : List AV → Option AV
  | [] => some (.int k a)
  | .int k' b :: r => if k = k' then maxFrom k (if a < b then b else a) r else none
  | _ => none
def minI : List AV → Option AV
  | .int k a :: r => minFrom k a r
  | _ => none
def maxI : List AV → Option AV
  | .int k a :: r => maxFrom k a r
  | _ => none
/-- An index, from 0 on, below n. -/
def ixOf (x : AV) (n : Nat) : Option Nat :=
  match x with
  | .int _ i => if 0 ≤ i ∧ i < n then some i.toNat else none
  | _ => none
def XO.lit : XO → Bool
  | .c _ => true
  | .t _ => false
def aCopy (esz : Nat) (S : St) (d s : AV) : Option (AV × St) :=
  match d with
  | .slice none _ _ _ => match s with
    | .slice _ _ _ _ => some (.int .i64 0, S)
    | _ => none
  | .slice (some (o, v, i)) dl e _ => match s with
    | .slice none _ _ _ => some (.int .i64 0, S)
    | .slice (some (o', v', i')) sl e' _ => if e ≠ esz ∨ e' ≠ esz ∨ 9223372036854775807 < sl then none else (S.rd o' v' i' (min sl dl * esz)).bind fun l => (S.wr o v i l).map fun S' => (.int .i64 (min sl dl : Nat), S')
    | _ => none
  | _ => none
def aClear (esz : Nat) (z : List AV) (S : St) (x : AV) : Option (AV × St) :=
  match x with
  | .slice none _ _ _ => some (AV.undef, S)
  | .slice (some (o, v, i)) len e _ => if e = esz then (S.wr o v i (rep len z)).map fun S' => (AV.undef, S') else none
  | _ => none
def aAssert (t : Nat) (z : AV) (ok : Bool) (x : AV) : Option AV :=
  match x with
  | .iface u v => if u = t then some (bif ok then .tuple [v, .bool true] else v) else bif ok then some (.tuple [z, .bool false]) else none
  | .nilIface => bif ok then some (.tuple [z, .bool false]) else none
  | _ => none
def aAssertI (yes no : List Nat) (ok : Bool) (x : AV) : Option AV :=
  match x with
  | .iface u v => if u ∈ yes then some (bif ok then .tuple [.iface u v, .bool true] else .iface u v) else if u ∈ no ∧ ok = true then some (.tuple [.nilIface, .bool false]) else none
  | .nilIface => bif ok then some (.tuple [.nilIface, .bool false]) else none
  | _ => none
/-- An entry of a map: its place, its value, when it was made. -/
def findM (k : Int) : List (Int × Int × Nat) → Nat → Option (Nat × Int × Nat)
  | [], _ => none
  | e :: r, i => if k = e.1 then some (i, e.2) else findM k r (i + 1)
def aLook (ok : Bool) (kv : IntKind) (k : Int) (l : List (Int × Int × Nat)) : AV :=
  match findM k l 0 with
  | some e => bif ok then .tuple [.int kv e.2.1, .bool true] else .int kv e.2.1
  | none => bif ok then .tuple [.int kv 0, .bool false] else .int kv 0
def setM (l : List (Int × Int × Nat)) (i : Nat) (v : Int) : List (Int × Int × Nat) := l.modify i fun e => (e.1, v, e.2.2)
def putM (kk kv : IntKind) (k v : Int) (l : List (Int × Int × Nat)) (c : Nat) : AO :=
  match findM k l 0 with
  | some e => .map kk kv (setM l e.1 v) c
  | none => .map kk kv (l ++ [(k, v, c)]) (c + 1)
/-- What an operation that calls nothing comes to. -/
def evOp (op : AOp) (T : Tm) (S : St) : Option (AV × St) :=
  match op with
  | .mv x => (x.ev T).map (·, S)
  | .pick c a b => (c.ev T).bind fun
    | .bool t => (bif t then a.ev T else b.ev T).map (·, S)
    | _ => none
  | .alloc zero => some (newVar S zero)
  | .box x => (x.ev T).bind fun v => bif v.tup then none else some (newVar S v.cells)
  | .build zero parts => (evParts T parts).bind fun ps => (aFill zero ps).map fun cs => (.agg cs, S)
  | .buildSlice esz zero len parts => (evParts T parts).bind fun ps => (aFill (rep len zero) ps).map fun cs => newSl S cs len esz
  | .load1 a => (a.ev T).bind fun
    | .ptr (some p) => (S.rd p.o p.v p.i 1).bind fun l => bif Nat.ble 1 p.n then (l.head?).map (·, S) else none
    | _ => none
  | .loadN n a => (a.ev T).bind fun
    | .ptr (some p) => bif Nat.ble n p.n then (S.rd p.o p.v p.i n).map fun l => (.agg l, S) else none
    | _ => none
  | .store n a x => (a.ev T).bind fun
    | .ptr (some p) => (x.ev T).bind fun v =>
      if v.cells.length = n ∧ n ≤ p.n ∧ v.tup = false then (S.wr p.o p.v p.i v.cells).map fun S' => (AV.undef, S') else none
    | _ => none
  | .nilCheck x => (x.ev T).bind fun
    | .ptr (some p) => some (.ptr (some p), S)
    | .iface t v => some (.iface t v, S)
    | .func f cs => some (.func f cs, S)
    | _ => none
  | .bin op et x y => (x.ev T).bind fun a => (y.ev T).bind fun b => (aBin op et (x.lit || y.lit) a b).map (·, S)
  | .un op x => (x.ev T).bind fun a => (aUn op a).map (·, S)
  | .conv c x => (x.ev T).bind fun a => aConv c a S
  | .mkIface t x => (x.ev T).map fun v => (.iface t v, S)
  | .mkFunc f caps => (evArgs T caps).map fun l => (.func f l, S)
  | .mkSlice esz bytes zero len cap => (len.ev T).bind fun
    | .int .i64 l => (cap.ev T).bind fun
      | .int .i64 c => if 0 ≤ l ∧ l ≤ c ∧ c * bytes ≤ 281474976710656 then some (newSl S (rep l.toNat zero) l.toNat esz) else none
      | _ => none
    | _ => none
  | .cutStr x lo hi => (x.ev T).bind fun a => (evOpt T lo).bind fun l => (evOpt T hi).bind fun h => (aCutStr a l h).map (·, S)
  | .cut esz x lo hi mx => (x.ev T).bind fun a => (evOpt T lo).bind fun l => (evOpt T hi).bind fun h => (evOpt T mx).bind fun m => (aCut esz a l h m).map (·, S)
  | .fieldAddr off n x => (x.ev T).bind fun
    | .ptr (some p) => bif Nat.ble (off + n) p.n && Nat.ble 1 n then some (.ptr (some ⟨p.o, p.v, p.i + off, n⟩), S) else none
    | _ => none
  | .field1 off x => (x.ev T).bind fun
    | .agg cs => (cs[off]?).map (·, S)
    | _ => none
  | .fieldN off n x => (x.ev T).bind fun
    | .agg cs => if off + n ≤ cs.length then some (.agg ((cs.drop off).take n), S) else none
    | _ => none
  | .ixSlice esz x i => (x.ev T).bind fun
    | .slice (some (o, v, j)) len e _ => if e = esz then (i.ev T).bind fun k => (ixOf k len).map fun k => (.ptr (some ⟨o, v, j + k * esz, esz⟩), S) else none
    | _ => none
  | .ixArr len esz x i => (x.ev T).bind fun
    | .ptr (some p) => (i.ev T).bind fun k => (ixOf k len).bind fun k => bif Nat.ble (len * esz) p.n then some (.ptr (some ⟨p.o, p.v, p.i + k * esz, esz⟩), S) else none
    | _ => none
  | .ixStr x i => (x.ev T).bind fun
    | .str s => (i.ev T).bind fun k => (ixOf k s.length).bind fun k => (s[k]?).map fun b : Nat => (.int .u8 (b : Int), S)
    | _ => none
  | .ixAgg1 len x i => (x.ev T).bind fun
    | .agg cs => (i.ev T).bind fun k => (ixOf k len).bind fun k => (cs[k]?).map (·, S)
    | _ => none
  | .ixAggN len esz x i => (x.ev T).bind fun
    | .agg cs => (i.ev T).bind fun k => (ixOf k len).bind fun k => if k * esz + esz ≤ cs.length then some (.agg ((cs.drop (k * esz)).take esz), S) else none
    | _ => none
  | .range x => (x.ev T).bind fun
    | .str s => some (.ptr (some ⟨S.next, 0, 0, 1⟩), S.alloc (.iter s 0))
    | _ => none
  | .next x => (x.ev T).bind fun
    | .ptr (some p) => bif Nat.beq p.i 0 then match S.get p.o with
      | some (.iter s pos) =>
        match s.drop pos with
        | [] => some (.tuple [.bool false], S)
        | b :: l => if 9223372036854775807 < pos then none else some (.tuple [.bool true, .int .i64 pos, .int .i32 (decR (b :: l)).1], S.put p.o (.iter s (pos + (decR (b :: l)).2)))
      | _ => none else none
    | _ => none
  | .assert t zero ok x => (x.ev T).bind fun v => (aAssert t zero ok v).map (·, S)
  | .assertI yes no ok x => (x.ev T).bind fun v => (aAssertI yes no ok v).map (·, S)
  | .extract i x => (x.ev T).bind fun
    | .tuple vs => (vs[i]?).map (·, S)
    | _ => none
  | .append esz bytes s x => (s.ev T).bind fun a => (x.ev T).bind fun
    | .slice none _ _ _ => aAppend esz bytes S a 0 []
    | .slice (some (o, v, i)) len e _ => if e = esz then (S.rd o v i (len * esz)).bind fun l => aAppend esz bytes S a len l else none
    | _ => none
  | .appendS bytes s x => (s.ev T).bind fun a => (x.ev T).bind fun
    | .str l => aAppend 1 bytes S a l.length (l.map fun b : Nat => .int .u8 (b : Int))
    | _ => none
  | .lenS x => (x.ev T).bind fun
    | .str s => if s.length ≤ 9223372036854775807 then some (.int .i64 s.length, S) else none
    | _ => none
  | .len x => (x.ev T).bind fun
    | .slice _ n _ _ => if n ≤ 9223372036854775807 then some (.int .i64 n, S) else none
    | _ => none
  | .lenArr n => some (.int .i64 n, S)
  | .mx xs => (evArgs T xs).bind fun l => (maxI l).map (·, S)
  | .mn xs => (evArgs T xs).bind fun l => (minI l).map (·, S)
  | .copy esz d s => (d.ev T).bind fun d => (s.ev T).bind fun s => aCopy esz S d s
  | .cap x => (x.ev T).bind fun
    | .slice none _ _ _ => some (.int .i64 0, S)
    | .slice (some _) _ _ (some c) => if c ≤ 9223372036854775807 then some (.int .i64 c, S) else none
    | _ => none
  | .appendZ esz bytes zero s n => (s.ev T).bind fun a => (n.ev T).bind fun
    | .int .i64 k => if 0 ≤ k then aAppend esz bytes S a k.toNat (rep k.toNat zero) else none
    | _ => none
  | .cutArr n esz x lo hi => (x.ev T).bind fun
    | .ptr (some p) => bif Nat.ble (n * esz) p.n then (S.rd p.o p.v p.i (n * esz)).bind fun _ => (evOpt T lo).bind fun l => (evOpt T hi).bind fun h => (bnd h n n).bind fun h => (bnd l 0 h).map fun l =>
        (.slice (some (p.o, p.v, p.i + l * esz)) (h - l) esz (some (n - l)), S) else none
    | _ => none
  | .mkMap kk kv => some (.map (some S.next), S.alloc (.map kk kv [] 0))
  | .lookup kk kv ok m k => (m.ev T).bind fun
    | .map (some o) => (k.ev T).bind fun
      | .int k1 k => match S.get o with
        | some (.map k2 v2 l _) => if k1 = kk ∧ k2 = kk ∧ v2 = kv then some (aLook ok kv k l, S) else none
        | _ => none
      | _ => none
    | _ => none
  | .mapSet kk kv m k x => (m.ev T).bind fun
    | .map (some o) => (k.ev T).bind fun
      | .int k1 k => (x.ev T).bind fun
        | .int x1 v => match S.get o with
          | some (.map k2 v2 l c) => if k1 = kk ∧ k2 = kk ∧ v2 = kv ∧ x1 = kv then some (AV.undef, S.put o (putM kk kv k v l c)) else none
          | _ => none
        | _ => none
      | _ => none
    | _ => none
  | .clr esz z x => (x.ev T).bind fun a => aClear esz z S a
  | .call .. | .callV .. | .invoke .. | .stop => none
/-- The function that an operation calls, and with what. -/
def callee (op : AOp) (T : Tm) : Option (Nat × List AV) :=
  match op with
  | .call f args => (evArgs T args).map (f, ·)
  | .callV f args => (f.ev T).bind fun
    | .func g caps => (evArgs T args).map fun l => (g, l ++ caps)
    | _ => none
  | .invoke _ tab x args => (x.ev T).bind fun
    | .iface t v => ((tab.find? fun p => p.1 == t)).bind fun p => (evArgs T args).map fun l => (p.2, v :: l)
    | _ => none
  | _ => none
def AOp.calls : AOp → Bool
  | .call .. | .callV .. | .invoke .. => true
  | _ => false
/-- An operation. -/
def evAny (call : Nat → List AV → St → Option (AV × St)) (op : AOp) (T : Tm) (S : St) : Option (AV × St) :=
  bif op.calls then (callee op T).bind fun p => call p.1 p.2 S else evOp op T S
def wanted (g : Option (Nat × Bool)) (T : Tm) : Option Bool :=
  match g with
  | none => some true
  | some (d, b) => match T.get d with
    | some (.bool c) => some (c == b)
    | some _ => some false
    | none => none
def putD (T : Tm) (d : Option Nat) (v : AV) : Tm :=
  match d with
  | none => T
  | some d => T.set d v
/-- One operation of a region. -/
def evOper (call : Nat → List AV → St → Option (AV × St)) (o : AOper) (T : Tm) (S : St) : Option (AV × St) :=
  (wanted o.guard T).bind fun w => bif w then evAny call o.op T S else some (AV.undef, S)
def evOps (call : Nat → List AV → St → Option (AV × St)) : List AOper → Tm → St → Option (Tm × St)
  | [], T, S => some (T, S)
  | o :: r, T, S => (evOper call o T S).bind fun p => evOps call r (putD T o.dst p.1) p.2
/-- An operation reads memory, and does no more. -/
def AOp.reads : AOp → Bool
  | .load1 _ | .loadN _ _ | .conv .bytesStr _ | .conv .runesStr _ | .cutArr .. => true
  | _ => false
/-- An operation turns memory, makes some, or calls. -/
def AOp.heavy : AOp → Bool
  | .alloc _ | .box _ | .buildSlice .. | .store .. | .conv .strBytes _ | .conv .strRunes _ | .conv .mark _ | .mkSlice .. | .range _ | .next _ | .append .. | .appendS .. | .appendZ .. | .copy .. | .call .. | .callV .. | .invoke .. | .mkMap .. | .lookup .. | .mapSet .. | .clr .. => true
  | _ => false
def sameA : AV → AV → Bool
  | .int k a, .int k' b => decide (k = k') && decide (a = b)
  | .bool a, .bool b => a == b
  | .str a, .str b => eqStr a b
  | .ptr a, .ptr b => decide (a = b)
  | .slice a l e c, .slice a' l' e' c' => decide (a = a') && Nat.beq l l' && Nat.beq e e' && decide (c = c')
  | .nilFunc, .nilFunc => true
  | .nilIface, .nilIface => true
  | .tuple [], .tuple [] => true
  | _, _ => false
def sameL : List AV → List AV → Bool
  | [], [] => true
  | a :: x, b :: y => sameA a b && sameL x y
  | _, _ => false
def sameV (x y : AV) : Bool :=
  match x, y with
  | .agg a, .agg b => sameL a b
  | x, y => sameA x y
def XO.tmps : XO → List Nat
  | .t i => [i]
  | .c _ => []
def tmpsL : List XO → List Nat
  | [] => []
  | x :: r => x.tmps ++ tmpsL r
def tmpsP : List (Nat × Nat × XO) → List Nat
  | [] => []
  | x :: r => x.2.2.tmps ++ tmpsP r
def tmpsO : Option XO → List Nat
  | none => []
  | some x => x.tmps
/-- The temporaries that an operation reads. -/
def AOp.tmps : AOp → List Nat
  | .mv x | .box x | .load1 x | .loadN _ x | .nilCheck x | .un _ x | .conv _ x | .mkIface _ x | .fieldAddr _ _ x | .field1 _ x | .fieldN _ _ x | .range x | .next x | .assert _ _ _ x | .assertI _ _ _ x | .extract _ x | .len x | .lenS x | .cap x | .clr _ _ x => x.tmps
  | .pick c a b => c.tmps ++ a.tmps ++ b.tmps
  | .alloc _ | .lenArr _ | .stop | .mkMap _ _ => []
  | .build _ ps | .buildSlice _ _ _ ps => tmpsP ps
  | .store _ x y | .bin _ _ x y | .mkSlice _ _ _ x y | .ixSlice _ x y | .ixArr _ _ x y | .ixStr x y | .ixAgg1 _ x y | .ixAggN _ _ x y | .append _ _ x y | .appendS _ x y | .copy _ x y | .appendZ _ _ _ x y | .lookup _ _ _ x y => x.tmps ++ y.tmps
  | .mapSet _ _ x y z => x.tmps ++ y.tmps ++ z.tmps
  | .mkFunc _ xs | .call _ xs | .mx xs | .mn xs => tmpsL xs
  | .callV x xs | .invoke _ _ x xs => x.tmps ++ tmpsL xs
  | .cutStr x lo hi | .cutArr _ _ x lo hi => x.tmps ++ tmpsO lo ++ tmpsO hi
  | .cut _ x lo hi m => x.tmps ++ tmpsO lo ++ tmpsO hi ++ tmpsO m
def AOper.tmps (o : AOper) : List Nat :=
  match o.guard with
  | none => o.op.tmps
  | some (g, _) => g :: o.op.tmps
/-- Read again, the same. -/
def again (op : AOper) (T : Tm) (v : AV) (S : St) : Bool :=
  match evOper (fun _ _ _ => none) op T S with
  | some (u, _) => sameV u v
  | none => false
/-- The operations in the text's order, each with the temporaries and the state ahead of it, and its value. -/
def trace (call : Nat → List AV → St → Option (AV × St)) : List AOper → Tm → St → Option (List (AOper × Tm × St × AV) × Tm × St)
  | [], T, S => some ([], T, S)
  | o :: r, T, S => (evOper call o T S).bind fun p => (trace call r (putD T o.dst p.1) p.2).map fun q => ((o, T, S, p.1) :: q.1, q.2)
def stAt (l : List (AOper × Tm × St × AV)) (S : St) (j : Nat) : St :=
  match l[j]? with
  | some e => e.2.2.1
  | none => S
/-- An operation that makes one new object, and looks at no memory. -/
def AOp.birth : AOp → Bool
  | .alloc _ | .buildSlice .. | .mkSlice .. => true
  | _ => false
/-- A birth that may come early: what it names, and what it makes, holds no place. -/
def chkB (o : AOper) (T : Tm) : Bool :=
  (o.tmps.all fun t => match T.get t with | some v => v.pure | none => true) &&
    match evOper (fun _ _ _ => none) o T ⟨0, .lf⟩ with
    | some p => (match p.2.get 0 with | some (.cells xs 0 0 true) => AV.pures xs | _ => false)
    | none => false
def chk (l : List (AOper × Tm × St × AV)) (S : St) (p : Nat × Nat) : Bool :=
  match l[p.1]? with
  | some e => bif e.1.op.birth then chkB e.1 e.2.1 else again e.1 e.2.1 e.2.2.2 (stAt l S p.2)
  | none => false
/-- A region whose order is drawn: in the order of the text; and what is read is read again at each state that another order may show it (pairs: operation, state). -/
def evDraw (call : Nat → List AV → St → Option (AV × St)) (ops : List AOper) (ps : List (Nat × Nat)) (T : Tm) (S : St) : Option (Tm × St) :=
  (trace call ops T S).bind fun q =>
    bif ps.all (chk q.1 q.2.2) then some q.2 else none

/-- The object of a value. -/
def objOf : AV → Option Nat
  | .ptr (some p) => some p.o
  | .slice (some (o, _, _)) _ _ _ => some o
  | _ => none
def oL : Option AV → List Nat
  | some v => match objOf v with
    | some q => [q]
    | none => []
  | none => []
/-- The objects that an operation looks at. -/
def fpOf (op : AOp) (T : Tm) : List Nat :=
  match op with
  | .append _ _ s x => oL (s.ev T) ++ oL (x.ev T)
  | .load1 a | .loadN _ a => oL (a.ev T)
  | _ => []
/-- The second turns no object that the first looks at. -/
def lookP (l : List (AOper × Tm × St × AV)) (p : Nat × Nat) : Bool :=
  match l[p.1]? with
  | some a => match l[p.2]? with
    | some b => match objOf b.2.2.2 with
      | some q => !((fpOf a.1.op a.2.1).any fun o => Nat.beq o q)
      | none => true
    | none => false
  | none => false
/-- What is new holds no place. -/
def pureP (l : List (AOper × Tm × St × AV)) (S' : St) (i : Nat) : Bool :=
  match l[i]? with
  | some a => bif a.1.op.heavy then match objOf a.2.2.2 with
      | some q => bif Nat.ble a.2.2.1.next q then match (stAt l S' (i + 1)).get q with
          | some (.cells xs _ _ _) => AV.pures xs
          | _ => false else true
      | none => true else true
  | none => false
/-- A region whose order is drawn, of operations on objects apart. -/
def evPar (call : Nat → List AV → St → Option (AV × St)) (ops : List AOper) (ps : List (Nat × Nat)) (T : Tm) (S : St) : Option (Tm × St) :=
  (trace call ops T S).bind fun q =>
    bif ps.all (lookP q.1) && (List.range ops.length).all (pureP q.1 q.2.2) then some q.2 else none

/-! ### Codes and calls -/
def iter (f : Tm → St → Option (Ex × Tm × St)) : Nat → Tm → St → Option (Ex × Tm × St)
  | 0, _, _ => none
  | k + 1, T, S => (f T S).bind fun r => match r with
    | (.normal, T', S') => iter f k T' S'
    | r => some r
def evC (call : Nat → List AV → St → Option (AV × St)) (k : Nat) : AC → Tm → St → Option (Ex × Tm × St)
  | .skip, T, S => some (.normal, T, S)
  | .reg ops, T, S => (evOps call ops T S).map fun p => (.normal, p.1, p.2)
  | .dreg ops pl, T, S => (evDraw call ops pl T S).map fun p => (.normal, p.1, p.2)
  | .preg ops pl, T, S => (evPar call ops pl T S).map fun p => (.normal, p.1, p.2)
  | .seq a b, T, S => (evC call k a T S).bind fun r => match r with
    | (.normal, T', S') => evC call k b T' S'
    | r => some r
  | .cond c a b, T, S => (c.ev T).bind fun v => match v with
    | .bool t => bif t then evC call k a T S else evC call k b T S
    | _ => none
  | .block id b, T, S => (evC call k b T S).map fun r => match r with
    | (.exit i, T', S') => (bif Nat.beq i id then .normal else .exit i, T', S')
    | r => r
  | .loop b, T, S => iter (evC call k b) k T S
  | .exit id, T, S => some (.exit id, T, S)
  | .ret, T, S => some (.ret, T, S)
def setArgs : List AV → Nat → Tm → Tm
  | [], _, T => T
  | v :: r, i, T => setArgs r (i + 1) (T.set i v)
def evRes (T : Tm) (S : St) : List RV → Option (List AV)
  | [] => some []
  | .tmp t :: r => (T.get t).bind fun v => (evRes T S r).map (v :: ·)
  | .cell1 t :: r => (T.get t).bind fun v => match v with
    | .ptr (some p) => bif Nat.ble 1 p.n then (S.rd p.o p.v p.i 1).bind fun l => (l.head?).bind fun v => (evRes T S r).map (v :: ·) else none
    | _ => none
  | .cellN t n :: r => (T.get t).bind fun v => match v with
    | .ptr (some p) => bif Nat.ble n p.n then (S.rd p.o p.v p.i n).bind fun l => (evRes T S r).map (.agg l :: ·) else none
    | _ => none
def oneOf : List AV → AV
  | [v] => v
  | vs => .tuple vs
/-- What a body's end tells. -/
def fin (rs : List RV) : Ex × Tm × St → Option (AV × St)
  | (.normal, T, S) | (.ret, T, S) => (evRes T S rs).map fun l => (oneOf l, S)
  | _ => none
/-- A call: what is known of pure functions first, else the body. -/
def evF (X : Nat → List AV → Option AV) (AP : Nat → Option AFunc) : Nat → Nat → List AV → St → Option (AV × St)
  | 0, _, _, _ => none
  | k + 1, f, args, S => match X f args with
    | some v => some (v, S)
    | none => (AP f).bind fun af => bif Nat.ble args.length af.ntmps then
        (evC (evF X AP k) k af.body (setArgs args 0 .lf) S).bind (fin af.results)
      else none
/-- Where a version of an object lies: a block; its cell 'start' at 'boff' of the block; it reaches to 'ext'; the block has room for so many cells from there on. -/
structure Loc where
  blk : Nat
  boff : Nat
  start : Nat
  ext : Nat
  room : Nat
def Loc.at (L : Loc) (i : Nat) : Nat := L.boff + (i - L.start)
abbrev Rho := Nat → Nat → Option Loc
def Rho.le (ρ ρ' : Rho) : Prop := ∀ o v L, ρ o v = some L → ρ' o v = some L
theorem Rho.le_refl (ρ : Rho) : ρ.le ρ := fun _ _ _ h => h
theorem Rho.le_trans {ρ ρ' ρ'' : Rho} (h : ρ.le ρ') (k : ρ'.le ρ'') : ρ.le ρ'' := fun o v L e => k o v L (h o v L e)
def bytesN (s : ByteArray) : List Nat := s.data.toList.map UInt8.toNat

mutual
inductive VR (ρ : Rho) : AV → Value → Prop
  | int {k : IntKind} {n : Int} (h : (Lit.int k n).wf = true) : VR ρ (.int k n) (.int k n)
  | bool {b : Bool} : VR ρ (.bool b) (.bool b)
  | float {k : FloatKind} {b : Nat} : VR ρ (.float k b) (.float k b)
  | str {l : List Nat} {s : ByteArray} (h : bytesN s = l) : VR ρ (.str l) (.string s)
  | ptrNil : VR ρ (.ptr none) (.pointer none)
  | ptr {p : Pl} {L : Loc} {a : Addr} (hL : ρ p.o p.v = some L) (h0 : L.start ≤ p.i) (h1 : p.i + p.n ≤ L.ext) (ha : a = ⟨L.blk, L.at p.i, none⟩) : VR ρ (.ptr (some p)) (.pointer (some a))
  | sliceNil {esz : Nat} {clip : Option Nat} : VR ρ (.slice none 0 esz clip) (.slice none 0 0)
  | slice {o v i len esz cap : Nat} {clip : Option Nat} {L : Loc} {a : Addr} (hL : ρ o v = some L) (h0 : L.start ≤ i) (h1 : i + len * esz ≤ L.ext) (h2 : i + cap * esz ≤ L.start + L.room)
      (h3 : len ≤ cap) (h4 : ∀ c, clip = some c → cap = c) (ha : cap = 0 ∨ a = ⟨L.blk, L.at i, none⟩) : VR ρ (.slice (some (o, v, i)) len esz clip) (.slice (some a) len cap)
  | func {f : Nat} {l : List AV} {cs : Array Value} (h : VRs ρ l cs.toList) : VR ρ (.func f l) (.func (.func f) #[] cs)
  | nilFunc : VR ρ .nilFunc .nilFunc
  | iface {t : Nat} {v : AV} {c : Value} (h : VR ρ v c) : VR ρ (.iface t v) (.iface t c)
  | nilIface : VR ρ .nilIface .nilIface
  | agg {l : List AV} {cs : Array Value} (h : VRs ρ l cs.toList) (h' : l.all AV.atom = true) : VR ρ (.agg l) (.agg cs)
  | tuple {l : List AV} {cs : Array Value} (h : VRs ρ l cs.toList) : VR ρ (.tuple l) (.tuple cs)
  | map {o : Nat} {L : Loc} (hL : ρ o 0 = some L) : VR ρ (.map (some o)) (.map (some L.blk))
inductive VRs (ρ : Rho) : List AV → List Value → Prop
  | nil : VRs ρ [] []
  | cons {a : AV} {v : Value} {l : List AV} {cs : List Value} (h : VR ρ a v) (t : VRs ρ l cs) : VRs ρ (a :: l) (v :: cs)
end
mutual
theorem VR.mono {ρ ρ' : Rho} (hle : ρ.le ρ') : ∀ {a : AV} {v : Value}, VR ρ a v → VR ρ' a v
  | _, _, .int h => .int h
  | _, _, .bool => .bool
  | _, _, .float => .float
  | _, _, .str h => .str h
  | _, _, .ptrNil => .ptrNil
  | _, _, .ptr hL h0 h1 ha => .ptr (hle _ _ _ hL) h0 h1 ha
  | _, _, .sliceNil => .sliceNil
  | _, _, .slice hL h0 h1 h2 h3 h4 ha => .slice (hle _ _ _ hL) h0 h1 h2 h3 h4 ha
  | _, _, .func h => .func (VRs.mono hle h)
  | _, _, .nilFunc => .nilFunc
  | _, _, .iface h => .iface (VR.mono hle h)
  | _, _, .nilIface => .nilIface
  | _, _, .agg h h' => .agg (VRs.mono hle h) h'
  | _, _, .tuple h => .tuple (VRs.mono hle h)
  | _, _, .map hL => .map (hle _ _ _ hL)
theorem VRs.mono {ρ ρ' : Rho} (hle : ρ.le ρ') : ∀ {l : List AV} {cs : List Value}, VRs ρ l cs → VRs ρ' l cs
  | _, _, .nil => .nil
  | _, _, .cons h t => .cons (VR.mono hle h) (VRs.mono hle t)
end
section
variable {ρ : Rho}
theorem VRs.length {l : List AV} {cs : List Value} (h : VRs ρ l cs) : cs.length = l.length := by
  induction l generalizing cs with
  | nil => cases h; rfl
  | cons a l ih => cases h with | cons h t => simp [ih t]
theorem VRs.get {l : List AV} {cs : List Value} (h : VRs ρ l cs) {i : Nat} {a : AV} (hi : l[i]? = some a) : ∃ v, cs[i]? = some v ∧ VR ρ a v := by
  induction l generalizing cs i with
  | nil => simp at hi
  | cons x l ih =>
    cases h with
    | cons h t =>
      cases i with
      | zero => simp at hi; subst hi; exact ⟨_, rfl, h⟩
      | succ i => simp at hi; simpa using ih t hi
theorem VRs.of_get {l : List AV} {cs : List Value} (hl : cs.length = l.length) (h : ∀ (i : Nat) a v, l[i]? = some a → cs[i]? = some v → VR ρ a v) : VRs ρ l cs := by
  induction l generalizing cs with
  | nil => cases cs with | nil => exact .nil | cons => simp at hl
  | cons a l ih =>
    cases cs with
    | nil => simp at hl
    | cons v cs => exact .cons (h 0 a v rfl rfl) (ih (by simpa using hl) fun i a v h1 h2 => h (i + 1) a v (by simpa using h1) (by simpa using h2))
theorem VRs.append {l l' : List AV} {cs cs' : List Value} (h : VRs ρ l cs) (h' : VRs ρ l' cs') : VRs ρ (l ++ l') (cs ++ cs') := by
  induction l generalizing cs with
  | nil => cases h; exact h'
  | cons a l ih => cases h with | cons h t => exact .cons h (ih t)
theorem VRs.take {l : List AV} {cs : List Value} (h : VRs ρ l cs) (n : Nat) : VRs ρ (l.take n) (cs.take n) := by
  induction l generalizing cs n with
  | nil => cases h; simp; exact .nil
  | cons a l ih => cases h with | cons h t => cases n with
    | zero => exact .nil
    | succ n => exact .cons h (ih t n)
theorem VRs.drop {l : List AV} {cs : List Value} (h : VRs ρ l cs) (n : Nat) : VRs ρ (l.drop n) (cs.drop n) := by
  induction l generalizing cs n with
  | nil => cases h; simp; exact .nil
  | cons a l ih => cases h with | cons h t => cases n with
    | zero => exact .cons h t
    | succ n => exact ih t n
theorem VRs.one {a : AV} {v : Value} (h : VR ρ a v) : VRs ρ [a] [v] := .cons h .nil
theorem VR.atom {a : AV} {v : Value} (h : VR ρ a v) : v.oneCell' = a.atom := by cases h <;> rfl
theorem VRs.atoms {l : List AV} {cs : List Value} (h : VRs ρ l cs) (ha : l.all AV.atom = true) : ∀ v ∈ cs, v.oneCell' = true := by
  induction l generalizing cs with
  | nil => cases h; simp
  | cons a l ih =>
    cases h with
    | cons h t =>
      simp only [List.all_cons, Bool.and_eq_true] at ha
      intro v hv
      rcases List.mem_cons.1 hv with rfl | hv
      · rw [VR.atom h]; exact ha.1
      · exact ih t ha.2 v hv
theorem VR.cells {a : AV} {v : Value} (h : VR ρ a v) : VRs ρ a.cells v.cells.toList := by
  cases h <;> first | assumption | exact .one (by constructor <;> assumption) | (apply VRs.one; constructor)
theorem VR.undef : VR ρ AV.undef undef := .tuple .nil
end

/-! ### States -/
/-- What is frozen of a block is none of its cells. -/
def Fz (fz : Nat × Nat) (n : Nat) : Prop := fz.1 = fz.2 ∨ n ≤ fz.1
theorem Fz.not {fz : Nat × Nat} {n : Nat} (h : Fz fz n) {j : Nat} (hj : j < n) : ¬ (fz.1 ≤ j ∧ j < fz.2) := by rcases h with h | h <;> omega
structure CellsAt (B : Nat) (ρ : Rho) (w : World) (o : Nat) (c : List AV) (ver minv : Nat) (own : Bool) : Prop where
  vers : ∀ u L, ρ o u = some L → u ≤ ver
  last : ∀ L, ρ o ver = some L → L.ext = c.length
  mem : ∀ u L, ρ o u = some L → minv ≤ u → L.ext ≤ c.length ∧ L.ext ≤ L.start + L.room ∧ ∃ cs e fz, w.heap[L.blk]? = some (.cells cs e fz) ∧ L.boff + L.room ≤ cs.size ∧
    (∀ i, L.start ≤ i → i < L.ext → ∃ a v, c[i]? = some a ∧ cs[L.at i]? = some v ∧ VR ρ a v) ∧ (own = true → Fz fz cs.size)
  side : ∀ u L, ρ o u = some L → if own = true then B ≤ L.blk else L.blk < B
  align : ∀ u L u' L', ρ o u = some L → ρ o u' = some L' → L.blk = L'.blk → L.boff = L'.boff ∧ L.start = L'.start
  atoms : c.all AV.atom = true
/-- Cells whose older versions stand up to a place. -/
structure ForkAt (B : Nat) (ρ : Rho) (w : World) (o : Nat) (c : List AV) (ver minv g : Nat) : Prop where
  vers : ∀ u L, ρ o u = some L → u ≤ ver
  last : ∀ L, ρ o ver = some L → L.ext = c.length
  mem : ∀ u L, ρ o u = some L → minv ≤ u → L.ext ≤ L.start + L.room ∧ ∃ cs e fz, w.heap[L.blk]? = some (.cells cs e fz) ∧ L.boff + L.room ≤ cs.size ∧
    (∀ i, L.start ≤ i → i < L.ext → (u = ver ∨ i < g) → ∃ a v, c[i]? = some a ∧ cs[L.at i]? = some v ∧ VR ρ a v) ∧ Fz fz cs.size
  side : ∀ u L, ρ o u = some L → B ≤ L.blk
  align : ∀ u L u' L', ρ o u = some L → ρ o u' = some L' → L.blk = L'.blk → L.boff = L'.boff ∧ L.start = L'.start
  atoms : c.all AV.atom = true
theorem CellsAt.fork {B : Nat} {ρ : Rho} {w : World} {o : Nat} {c : List AV} {ver minv : Nat} (h : CellsAt B ρ w o c ver minv true) : ForkAt B ρ w o c ver minv c.length :=
  ⟨h.vers, h.last, fun u L e hm => by
    obtain ⟨h1, h2, cs, t, fz, h3, h4, h5, h6⟩ := h.mem u L e hm
    exact ⟨h2, cs, t, fz, h3, h4, fun i a b _ => h5 i a b, h6 rfl⟩, fun u L e => by simpa using h.side u L e, h.align, h.atoms⟩
theorem ForkAt.mono {B : Nat} {ρ ρ' : Rho} {w w' : World} {o : Nat} {c : List AV} {ver minv g : Nat} (h : ForkAt B ρ w o c ver minv g) (hρ : ∀ u, ρ' o u = ρ o u) (hle : ρ.le ρ') (same : ∀ u L, ρ o u = some L → w'.heap[L.blk]? = w.heap[L.blk]?) : ForkAt B ρ' w' o c ver minv g :=
  ⟨fun u L e => by rw [hρ] at e; exact h.vers u L e, fun L e => by rw [hρ] at e; exact h.last L e, fun u L e hm => by
    rw [hρ] at e
    obtain ⟨h2, cs, t, fz, h3, h4, h5, h6⟩ := h.mem u L e hm
    refine ⟨h2, cs, t, fz, (same u L e).trans h3, h4, fun i a b d => ?_, h6⟩
    obtain ⟨x, v, g1, g2, g3⟩ := h5 i a b d
    exact ⟨x, v, g1, g2, VR.mono hle g3⟩, fun u L e => by rw [hρ] at e; exact h.side u L e, fun u L u' L' e e' => by rw [hρ] at e e'; exact h.align u L u' L' e e', h.atoms⟩
structure IterAt (B : Nat) (ρ : Rho) (w : World) (o : Nat) (s : List Nat) (pos : Nat) : Prop where
  side : ∀ u L, ρ o u = some L → B ≤ L.blk
  mem : ∀ u L, ρ o u = some L → L.boff = 0 ∧ L.start = 0 ∧ L.ext = 1 ∧ ∃ b, w.heap[L.blk]? = some (.stringIter b pos) ∧ bytesN b = s
  uniq : ∀ u L u' L', ρ o u = some L → ρ o u' = some L' → L.blk = L'.blk
/-- The entries of a map of whole numbers. -/
def toEs (kk kv : IntKind) (l : List (Int × Int × Nat)) : List MapEntry := l.map fun e => { key := .int kk e.1, val := .int kv e.2.1, born := e.2.2 }
structure MapAt (B : Nat) (ρ : Rho) (w : World) (o : Nat) (kk kv : IntKind) (l : List (Int × Int × Nat)) (clock : Nat) : Prop where
  side : ∀ u L, ρ o u = some L → B ≤ L.blk
  mem : ∀ u L, ρ o u = some L → ∃ es, w.heap[L.blk]? = some (.map es clock) ∧ es.toList = toEs kk kv l
  uniq : ∀ u L u' L', ρ o u = some L → ρ o u' = some L' → L.blk = L'.blk
  wf : ∀ e ∈ l, (Lit.int kv e.2.1).wf = true
theorem MapAt.mono {B : Nat} {ρ ρ' : Rho} {w w' : World} {o : Nat} {kk kv : IntKind} {l : List (Int × Int × Nat)} {clock : Nat} (h : MapAt B ρ w o kk kv l clock) (hρ : ∀ u, ρ' o u = ρ o u) (same : ∀ u L, ρ o u = some L → w'.heap[L.blk]? = w.heap[L.blk]?) : MapAt B ρ' w' o kk kv l clock :=
  ⟨fun u L e => by rw [hρ] at e; exact h.side u L e, fun u L e => by
    rw [hρ] at e
    obtain ⟨es, h1, h2⟩ := h.mem u L e
    exact ⟨es, (same u L e).trans h1, h2⟩, fun u L u' L' e e' => by rw [hρ] at e e'; exact h.uniq u L u' L' e e', h.wf⟩
def ObjAt (B : Nat) (ρ : Rho) (w : World) (o : Nat) : AO → Prop
  | .cells c ver minv own => CellsAt B ρ w o c ver minv own
  | .fork c ver minv g => ForkAt B ρ w o c ver minv g
  | .iter s pos => IterAt B ρ w o s pos
  | .map kk kv l c => MapAt B ρ w o kk kv l c
/-- From where a run starts: its world, and blocks that lie ready for what comes later in the text. -/
structure Base where
  w : World
  G : Nat → Option Obj
def Base.of (w : World) : Base := ⟨w, fun _ => none⟩
instance : Coe World Base := ⟨Base.of⟩
instance : Coe Base World := ⟨Base.w⟩
structure Sim (B : Nat) (w0 : Base) (ρ : Rho) (S : St) (w : World) : Prop where
  below : Below B w0 w
  base : B ≤ w.heap.size
  fresh : ∀ o u L, ρ o u = some L → o < S.next
  dom : ∀ o x, S.get o = some x → o < S.next
  heap : ∀ o u L, ρ o u = some L → L.blk < w.heap.size
  obj : ∀ o x, S.get o = some x → ObjAt B ρ w o x
  apart : ∀ o u L o' u' L', ρ o u = some L → ρ o' u' = some L' → o ≠ o' → B ≤ L.blk → L.blk ≠ L'.blk
  gh : ∀ g x, w0.G g = some x → w.heap[g]? = some x ∧ B ≤ g ∧ ∀ o u L, ρ o u = some L → L.blk ≠ g

section
variable {B : Nat} {w0 : Base} {w w' : World} {ρ ρ' : Rho} {S S' : St}
/-- What turns one object, and its blocks or new ones alone. -/
theorem Sim.upd (h : Sim B w0 ρ S w) (o1 : Nat) (x : AO) (hS : ∀ o, S'.get o = if o = o1 then some x else S.get o) (hn : S.next ≤ S'.next) (ho1 : o1 < S'.next)
    (hρ : ∀ o u, o ≠ o1 → ρ' o u = ρ o u) (hle : ρ.le ρ') (hb : Below B w0 w') (hsz : w.heap.size ≤ w'.heap.size)
    (hk : ∀ b, b < w.heap.size → w'.heap[b]? = w.heap[b]? ∨ (B ≤ b ∧ ∃ u L, ρ o1 u = some L ∧ L.blk = b))
    (hin : ∀ u L, ρ' o1 u = some L → L.blk < w'.heap.size)
    (hnew : ∀ u L, ρ' o1 u = some L → w.heap.size ≤ L.blk ∨ ∃ u' L', ρ o1 u' = some L' ∧ L'.blk = L.blk)
    (hx : ObjAt B ρ' w' o1 x) : Sim B w0 ρ' S' w' where
  below := hb
  base := Nat.le_trans h.base hsz
  fresh o u L e := by
    by_cases ho : o = o1
    · subst ho; exact ho1
    · rw [hρ o u ho] at e; exact Nat.lt_of_lt_of_le (h.fresh o u L e) hn
  dom o y e := by
    rw [hS] at e
    by_cases ho : o = o1
    · subst ho; exact ho1
    · rw [if_neg ho] at e; exact Nat.lt_of_lt_of_le (h.dom o y e) hn
  heap o u L e := by
    by_cases ho : o = o1
    · subst ho; exact hin u L e
    · rw [hρ o u ho] at e; exact Nat.lt_of_lt_of_le (h.heap o u L e) hsz
  gh := by
    intro g y hg
    obtain ⟨h1, h2, h3⟩ := h.gh g y hg
    have hlt : g < w.heap.size := by
      rcases Nat.lt_or_ge g w.heap.size with h' | h'
      · exact h'
      · rw [Array.getElem?_eq_none h'] at h1; cases h1
    refine ⟨?_, h2, fun o u L e => ?_⟩
    · rcases hk g hlt with h4 | ⟨_, u, L, e, h5⟩
      · rw [h4]; exact h1
      · exact absurd h5 (h3 o1 u L e)
    · by_cases ho : o = o1
      · subst ho
        rcases hnew u L e with h6 | ⟨u', L', e', h7⟩
        · omega
        · rw [← h7]; exact h3 o u' L' e'
      · rw [hρ o u ho] at e; exact h3 o u L e
  apart := by
    intro o u L o' u' L' e e' hne hB heq
    by_cases ho : o = o1
    · subst ho
      rw [hρ o' u' (Ne.symm hne)] at e'
      rcases hnew u L e with hge | ⟨u2, L2, e2, hb2⟩
      · have := h.heap o' u' L' e'; omega
      · exact h.apart o u2 L2 o' u' L' e2 e' hne (by omega) (by omega)
    · rw [hρ o u ho] at e
      by_cases ho' : o' = o1
      · subst ho'
        rcases hnew u' L' e' with hge | ⟨u2, L2, e2, hb2⟩
        · have := h.heap o u L e; omega
        · exact h.apart o u L o' u2 L2 e e2 hne hB (by omega)
      · rw [hρ o' u' ho'] at e'
        exact h.apart o u L o' u' L' e e' hne hB heq
  obj o y e := by
    rw [hS] at e
    by_cases ho : o = o1
    · rw [if_pos ho] at e; cases e; subst ho; exact hx
    · rw [if_neg ho] at e
      have hobj := h.obj o y e
      have same : ∀ u L, ρ o u = some L → w'.heap[L.blk]? = w.heap[L.blk]? := by
        intro u L eL
        rcases hk L.blk (h.heap o u L eL) with h1 | ⟨hB, u2, L2, e2, hb2⟩
        · exact h1
        · exact absurd hb2 (h.apart o1 u2 L2 o u L e2 eL (Ne.symm ho) (by omega))
      cases y with
      | cells c ver minv own =>
        have hc : CellsAt B ρ w o c ver minv own := hobj
        refine (show CellsAt B ρ' w' o c ver minv own from ⟨?_, ?_, ?_, ?_, ?_, hc.atoms⟩)
        · intro u L eL; rw [hρ o u ho] at eL; exact hc.vers u L eL
        · intro L eL; rw [hρ o ver ho] at eL; exact hc.last L eL
        · intro u L eL hm
          rw [hρ o u ho] at eL
          obtain ⟨h1, h2, cs, e, fz, h3, h4, h5, h6⟩ := hc.mem u L eL hm
          refine ⟨h1, h2, cs, e, fz, (same u L eL).trans h3, h4, fun i hi hi' => ?_, h6⟩
          obtain ⟨a, v, ha, hv, hvr⟩ := h5 i hi hi'
          exact ⟨a, v, ha, hv, VR.mono hle hvr⟩
        · intro u L eL; rw [hρ o u ho] at eL; exact hc.side u L eL
        · intro u L u' L' eL eL'; rw [hρ o u ho] at eL; rw [hρ o u' ho] at eL'; exact hc.align u L u' L' eL eL'
      | fork c ver minv g => exact (show ForkAt B ρ' w' o c ver minv g from ForkAt.mono hobj (fun u => hρ o u ho) hle same)
      | map kk kv l c => exact (show MapAt B ρ' w' o kk kv l c from MapAt.mono hobj (fun u => hρ o u ho) same)
      | iter s pos =>
        have hc : IterAt B ρ w o s pos := hobj
        refine (show IterAt B ρ' w' o s pos from ⟨?_, ?_, fun u L u' L' e1 e2 => by rw [hρ o u ho] at e1; rw [hρ o u' ho] at e2; exact hc.uniq u L u' L' e1 e2⟩)
        · intro u L eL; rw [hρ o u ho] at eL; exact hc.side u L eL
        · intro u L eL
          rw [hρ o u ho] at eL
          obtain ⟨h1, h2, h3, b, h4, h5⟩ := hc.mem u L eL
          exact ⟨h1, h2, h3, b, (same u L eL).trans h4, h5⟩
/-- What turns no block but makes new ones, and no object. -/
theorem Sim.world (h : Sim B w0 ρ S w) (hb : Below w.heap.size w w') : Sim B w0 ρ S w' where
  below := ⟨hb.os.trans h.below.os, hb.tape.trans h.below.tape, hb.output.trans h.below.output, Nat.le_trans h.below.size hb.size,
    fun k hk => (hb.block k (Nat.lt_of_lt_of_le hk h.base)).trans (h.below.block k hk)⟩
  base := Nat.le_trans h.base hb.size
  fresh := h.fresh
  dom := h.dom
  heap o u L e := Nat.lt_of_lt_of_le (h.heap o u L e) hb.size
  gh := by
    intro g y hg
    obtain ⟨h1, h2, h3⟩ := h.gh g y hg
    have hlt : g < w.heap.size := by
      rcases Nat.lt_or_ge g w.heap.size with h' | h'
      · exact h'
      · rw [Array.getElem?_eq_none h'] at h1; cases h1
    exact ⟨(hb.block g hlt).trans h1, h2, h3⟩
  apart := h.apart
  obj o y e := by
    have hobj := h.obj o y e
    have same : ∀ u L, ρ o u = some L → w'.heap[L.blk]? = w.heap[L.blk]? := fun u L eL => hb.block _ (h.heap o u L eL)
    cases y with
    | cells c ver minv own =>
      have hc : CellsAt B ρ w o c ver minv own := hobj
      refine (show CellsAt B ρ w' o c ver minv own from ⟨hc.vers, hc.last, ?_, hc.side, hc.align, hc.atoms⟩)
      intro u L eL hm
      obtain ⟨h1, h2, cs, e, fz, h3, h4, h5, h6⟩ := hc.mem u L eL hm
      exact ⟨h1, h2, cs, e, fz, (same u L eL).trans h3, h4, h5, h6⟩
    | fork c ver minv g => exact (show ForkAt B ρ w' o c ver minv g from ForkAt.mono hobj (fun u => rfl) (Rho.le_refl _) same)
    | map kk kv l c => exact (show MapAt B ρ w' o kk kv l c from MapAt.mono hobj (fun u => rfl) same)
    | iter s pos =>
      have hc : IterAt B ρ w o s pos := hobj
      refine (show IterAt B ρ w' o s pos from ⟨hc.side, ?_, hc.uniq⟩)
      intro u L eL
      obtain ⟨h1, h2, h3, b, h4, h5⟩ := hc.mem u L eL
      exact ⟨h1, h2, h3, b, (same u L eL).trans h4, h5⟩
theorem below_drawn (w : World) (d : Nat) : Below w.heap.size w { w with drawn := d } := ⟨rfl, rfl, rfl, Nat.le_refl _, fun _ _ => rfl⟩
theorem Sim.drawn (h : Sim B w0 ρ S w) (d : Nat) : Sim B w0 ρ S { w with drawn := d } := h.world (below_drawn w d)

/-- A new block of cells is a new object. -/
theorem Sim.alloc (h : Sim B w0 ρ S w) {xs : List AV} {cs : Array Value} {e : TypeId} {fz : Nat × Nat} (room : Nat) (hl : xs.length ≤ room) (hr : room ≤ cs.size)
    (hv : ∀ (i : Nat) a, xs[i]? = some a → ∃ v, cs[i]? = some v ∧ VR ρ a v) (ha : xs.all AV.atom = true) (hf : Fz fz cs.size) :
    ∃ ρ', ρ.le ρ' ∧ ρ' S.next 0 = some ⟨w.heap.size, 0, 0, xs.length, room⟩ ∧ Sim B w0 ρ' (S.alloc (.cells xs 0 0 true)) { w with heap := w.heap.push (.cells cs e fz) } := by
  have hnone : ∀ u, ρ S.next u = none := fun u => by
    cases hq : ρ S.next u with
    | none => rfl
    | some L => exact absurd (h.fresh _ _ _ hq) (Nat.lt_irrefl _)
  refine ⟨fun o u => if o = S.next ∧ u = 0 then some ⟨w.heap.size, 0, 0, xs.length, room⟩ else ρ o u, ?_, by simp, ?_⟩
  · intro o u L e'
    by_cases ho : o = S.next ∧ u = 0
    · rw [ho.1, hnone] at e'; cases e'
    · simp only [if_neg ho]; exact e'
  · have hle : ρ.le (fun o u => if o = S.next ∧ u = 0 then some ⟨w.heap.size, 0, 0, xs.length, room⟩ else ρ o u) := by
      intro o u L e'
      by_cases ho : o = S.next ∧ u = 0
      · rw [ho.1, hnone] at e'; cases e'
      · simp only [if_neg ho]; exact e'
    have only : ∀ u L, (if S.next = S.next ∧ u = 0 then some (⟨w.heap.size, 0, 0, xs.length, room⟩ : Loc) else ρ S.next u) = some L → u = 0 ∧ L = ⟨w.heap.size, 0, 0, xs.length, room⟩ := by
      intro u L e'
      by_cases hu : u = 0
      · simp [hu] at e'; exact ⟨hu, e'.symm⟩
      · rw [if_neg (fun k => hu k.2), hnone] at e'; cases e'
    refine h.upd S.next (.cells xs 0 0 true) (fun o => St.get_alloc _ _ _) (by simp [St.alloc]) (by simp [St.alloc]) (fun o u ho => if_neg fun k => ho k.1) hle ?_ (by simp) ?_ ?_ ?_ ?_
    · exact ⟨h.below.os, h.below.tape, h.below.output, Nat.le_trans h.below.size (by simp), fun k hk => by
        have h1 := h.base
        rw [← h.below.block k hk]
        simp [Array.getElem?_push, Nat.ne_of_lt (Nat.lt_of_lt_of_le hk h1)]⟩
    · intro b hb; left; simp [Array.getElem?_push, Nat.ne_of_lt hb]
    · intro u L e'; obtain ⟨_, rfl⟩ := only u L e'; simp
    · intro u L e'; obtain ⟨_, rfl⟩ := only u L e'; exact .inl (Nat.le_refl _)
    · refine (show CellsAt _ _ _ _ _ _ _ _ from ⟨?_, ?_, ?_, ?_, ?_, ha⟩)
      · intro u L e'; obtain ⟨rfl, _⟩ := only u L e'; exact Nat.le_refl _
      · intro L e'; obtain ⟨_, rfl⟩ := only 0 L e'; rfl
      · intro u L e' _
        obtain ⟨_, rfl⟩ := only u L e'
        refine ⟨Nat.le_refl _, by simpa using hl, cs, e, fz, by simp, by simpa using hr, fun i _ hi => ?_, fun _ => hf⟩
        have hi' : i < xs.length := hi
        obtain ⟨v, hcv, hvr⟩ := hv i xs[i] (List.getElem?_eq_getElem hi')
        exact ⟨xs[i], v, List.getElem?_eq_getElem hi', by simpa [Loc.at] using hcv, VR.mono hle hvr⟩
      · intro u L e'; obtain ⟨_, rfl⟩ := only u L e'; simpa using h.base
      · intro u L u' L' e1 e2 _; obtain ⟨_, rfl⟩ := only u L e1; obtain ⟨_, rfl⟩ := only u' L' e2; exact ⟨rfl, rfl⟩
end
theorem add_at (b x j : Nat) : (⟨b, x, none⟩ : Addr).add j = ⟨b, x + j, none⟩ := by unfold Addr.add; split <;> simp_all
theorem cell_at {w : World} {g : Nat} {cs : Array Value} {e : TypeId} {fz : Nat × Nat} (h : w.heap[g]? = some (.cells cs e fz)) (i : Nat) : w.cell? ⟨g, i, none⟩ = cs[i]? := by
  simp [World.cell?, h]
theorem frozen_at {w : World} {g : Nat} {cs : Array Value} {e : TypeId} {fz : Nat × Nat} (h : w.heap[g]? = some (.cells cs e fz)) (i : Nat) : w.frozen? ⟨g, i, none⟩ = (decide (fz.1 ≤ i) && decide (i < fz.2)) := by
  simp [World.frozen?, h]
theorem Below.set_ {B : Nat} {w0 w : World} (h : Below B w0 w) {g : Nat} (hg : B ≤ g) (o : Obj) : Below B w0 { w with heap := w.heap.setIfInBounds g o } :=
  ⟨h.os, h.tape, h.output, by simpa using h.size, fun k hk => by
    have : (w.heap.setIfInBounds g o)[k]? = w.heap[k]? := Array.getElem?_setIfInBounds_ne (by omega)
    exact this.trans (h.block k hk)⟩

/-- Cells stored one by one: the block's cells, some of them turned. -/
theorem run_stores {P : Program} (g o : Nat) (e : TypeId) (fz : Nat × Nat) : ∀ (vs : List Value) (i : Nat) (cur : Array Value) (w : World), w.heap[g]? = some (.cells cur e fz) →
    o + i + vs.length ≤ cur.size → (∀ j, o + i ≤ j → j < o + i + vs.length → ¬ (fz.1 ≤ j ∧ j < fz.2)) → (∀ v ∈ vs, v.oneCell' = true) →
    ∃ cur' : Array Value, cur'.size = cur.size ∧ (∀ j, cur'[j]? = if o + i ≤ j ∧ j < o + i + vs.length then vs[j - (o + i)]? else cur[j]?) ∧
      (storeCells ⟨g, o, none⟩ vs i).run P w = .ok () { w with heap := w.heap.setIfInBounds g (.cells cur' e fz) } := by
  intro vs
  induction vs with
  | nil =>
    intro i cur w hg hl hf h1
    refine ⟨cur, rfl, fun j => by rw [if_neg (by simp)], ?_⟩
    have hg' : g < w.heap.size := (Array.getElem?_eq_some_iff.1 hg).1
    have : w.heap.setIfInBounds g (.cells cur e fz) = w.heap := by
      apply Array.ext_getElem?
      intro k
      by_cases hk : k = g
      · subst hk; simp [hg', (Array.getElem?_eq_some_iff.1 hg).2]
      · rw [Array.getElem?_setIfInBounds_ne (Ne.symm hk)]
    rw [this]
    rfl
  | cons v rest ih =>
    intro i cur w hg hl hf h1
    simp only [List.length_cons] at hl hf
    have hi : o + i < cur.size := by omega
    have hg' : g < w.heap.size := (Array.getElem?_eq_some_iff.1 hg).1
    have hcell : w.cell? ⟨g, o + i, none⟩ = some cur[o + i] := by rw [cell_at hg]; simp [hi]
    have hfro : w.frozen? ⟨g, o + i, none⟩ = false := by
      rw [frozen_at hg]
      have := hf (o + i) (by omega) (by omega)
      simp only [Bool.and_eq_false_iff, decide_eq_false_iff_not]
      omega
    have hset : w.setCell ⟨g, o + i, none⟩ v = { w with heap := w.heap.setIfInBounds g (.cells (cur.setIfInBounds (o + i) v) e fz) } := by
      unfold World.setCell
      congr 1
      apply Array.ext_getElem?
      intro k
      rw [Array.getElem?_modify]
      by_cases hk : g = k
      · subst hk; simp [hg', (Array.getElem?_eq_some_iff.1 hg).2]
      · rw [if_neg hk, Array.getElem?_setIfInBounds_ne hk]
    have hst : (Go.store ((⟨g, o, none⟩ : Addr).add i) v).run P w = .ok () { w with heap := w.heap.setIfInBounds g (.cells (cur.setIfInBounds (o + i) v) e fz) } := by
      rw [add_at, run_store P w _ v _ (h1 v (by simp)), hcell]
      simp only [hfro, hset]
      rfl
    obtain ⟨cur', hs, hc, hr⟩ := ih (i + 1) (cur.setIfInBounds (o + i) v) { w with heap := w.heap.setIfInBounds g (.cells (cur.setIfInBounds (o + i) v) e fz) }
      (by simp [hg']) (by simp; omega) (fun j h2 h3 => hf j (by omega) (by omega)) (fun x hx => h1 x (by simp [hx]))
    refine ⟨cur', by simpa using hs, fun j => ?_, ?_⟩
    · rw [hc j]
      by_cases hj : j = o + i
      · subst hj
        rw [if_neg (by omega), if_pos (by simp)]
        simp [hi]
      · by_cases hin : o + (i + 1) ≤ j ∧ j < o + (i + 1) + rest.length
        · rw [if_pos hin, if_pos (by simp; omega), show j - (o + i) = (j - (o + (i + 1))) + 1 by omega]
          simp
        · rw [if_neg hin, if_neg (by simp; omega), Array.getElem?_setIfInBounds_ne (Ne.symm hj)]
    · simp only [storeCells, Sem.run_bind, hst, Result.andThen_ok, hr]
      congr 2
      apply Array.ext_getElem?
      intro k
      by_cases hk : g = k
      · subst hk; simp [hg']
      · rw [Array.getElem?_setIfInBounds_ne hk, Array.getElem?_setIfInBounds_ne hk, Array.getElem?_setIfInBounds_ne hk]

section
variable {P : Program} {B : Nat} {w0 : Base} {w : World} {ρ : Rho} {S S' : St}
theorem rd_inv {o v i n : Nat} {l : List AV} (h : S.rd o v i n = some l) : ∃ c, i + n ≤ c.length ∧ l = (c.drop i).take n ∧ ((∃ ver minv own, S.get o = some (.cells c ver minv own) ∧ minv ≤ v ∧ v ≤ ver) ∨ ∃ ver minv g, S.get o = some (.fork c ver minv g) ∧ minv ≤ v ∧ (v = ver ∨ i + n ≤ g)) := by
  unfold St.rd at h
  cases hg : S.get o with
  | none => rw [hg] at h; cases h
  | some x =>
    rw [hg] at h
    cases x with
    | iter => cases h
    | map => cases h
    | cells c ver minv own =>
      simp only at h
      cases hb : (Nat.ble minv v && Nat.ble v ver && Nat.ble (i + n) c.length) with
      | false => rw [hb] at h; cases h
      | true =>
        rw [hb] at h
        simp only [Bool.and_eq_true, Nat.ble_eq] at hb
        exact ⟨c, hb.2, by simpa using h.symm, .inl ⟨ver, minv, own, rfl, hb.1.1, hb.1.2⟩⟩
    | fork c ver minv g =>
      simp only at h
      cases hb : (Nat.ble minv v && Nat.ble v ver && Nat.ble (i + n) c.length && (Nat.beq v ver || Nat.ble (i + n) g)) with
      | false => rw [hb] at h; cases h
      | true =>
        rw [hb] at h
        simp only [Bool.and_eq_true, Bool.or_eq_true, Nat.ble_eq, Nat.beq_eq] at hb
        exact ⟨c, hb.1.2, by simpa using h.symm, .inr ⟨ver, minv, g, rfl, hb.1.1.1, hb.2⟩⟩
theorem rd_length {o v i n : Nat} {l : List AV} (h : S.rd o v i n = some l) : l.length = n := by
  obtain ⟨c, h4, rfl, _⟩ := rd_inv h
  simp; omega
/-- What is read abstractly is what lies in the block. -/
theorem rd_lies (h : Sim B w0 ρ S w) {o v i n : Nat} {l : List AV} (hr : S.rd o v i n = some l) {L : Loc} (hL : ρ o v = some L) (h0 : L.start ≤ i) (h1 : i + n ≤ L.ext) :
    ∃ vs : List Value, vs.length = n ∧ VRs ρ l vs ∧ l.all AV.atom = true ∧ ∃ cs e fz, w.heap[L.blk]? = some (.cells cs e fz) ∧ L.at i + n ≤ cs.size ∧ ∀ j, j < n → cs[L.at i + j]? = vs[j]? := by
  obtain ⟨c, hc, rfl, hor⟩ := rd_inv hr
  obtain ⟨hatoms, k2, cs, e, fz, k3, k4, k5⟩ : c.all AV.atom = true ∧ L.ext ≤ L.start + L.room ∧ ∃ cs e fz, w.heap[L.blk]? = some (.cells cs e fz) ∧ L.boff + L.room ≤ cs.size ∧ (∀ j, i ≤ j → j < i + n → ∃ a u, c[j]? = some a ∧ cs[L.at j]? = some u ∧ VR ρ a u) := by
    rcases hor with ⟨ver, minv, own, hg, hm, hv⟩ | ⟨ver, minv, g, hg, hm, hv⟩
    · have hc' : CellsAt B ρ w o c ver minv own := h.obj o _ hg
      obtain ⟨k1, k2, cs, e, fz, k3, k4, k5, k6⟩ := hc'.mem v L hL hm
      exact ⟨hc'.atoms, k2, cs, e, fz, k3, k4, fun j h2 h3 => k5 j (by omega) (by omega)⟩
    · have hc' : ForkAt B ρ w o c ver minv g := h.obj o _ hg
      obtain ⟨k2, cs, e, fz, k3, k4, k5, k6⟩ := hc'.mem v L hL hm
      exact ⟨hc'.atoms, k2, cs, e, fz, k3, k4, fun j h2 h3 => k5 j (by omega) (by omega) (hv.imp_right fun x => by omega)⟩
  have hat : ∀ j, L.at i + j = L.at (i + j) := fun j => by unfold Loc.at; omega
  have hlen : L.at i + n ≤ cs.size := by unfold Loc.at; omega
  refine ⟨(cs.toList.drop (L.at i)).take n, by simp; omega, VRs.of_get (by simp; omega) ?_, ?_, cs, e, fz, k3, hlen, fun j hj => ?_⟩
  · intro j a v' ha hv'
    have hj : j < n := by
      have := (List.getElem?_eq_some_iff.1 ha).1
      simp at this; omega
    obtain ⟨a2, v2, ha2, hv2, hvr⟩ := k5 (i + j) (by omega) (by omega)
    rw [List.getElem?_take_of_lt hj, List.getElem?_drop] at ha hv'
    rw [ha2] at ha; cases ha
    rw [← hat j] at hv2
    rw [Array.getElem?_toList, hv2] at hv'; cases hv'
    exact hvr
  · have ha := hatoms
    simp only [List.all_eq_true] at ha ⊢
    exact fun x hx => ha x (List.mem_of_mem_drop (List.mem_of_mem_take hx))
  · rw [List.getElem?_take_of_lt hj, List.getElem?_drop, Array.getElem?_toList]
theorem rd_run (h : Sim B w0 ρ S w) {o v i n : Nat} {l : List AV} (hr : S.rd o v i n = some l) {L : Loc} (hL : ρ o v = some L) (h0 : L.start ≤ i) (h1 : i + n ≤ L.ext) :
    ∃ vs : List Value, vs.length = n ∧ VRs ρ l vs ∧ l.all AV.atom = true ∧ (loadCells ⟨L.blk, L.at i, none⟩ n).run P w = .ok vs.toArray w := by
  obtain ⟨vs, hl, hv, ha, cs, e, fz, k3, k4, k5⟩ := rd_lies h hr hL h0 h1
  refine ⟨vs, hl, hv, ha, ?_⟩
  have := run_loadCells_list (P := P) w ⟨L.blk, L.at i, none⟩ vs (fun j x hx => by
    have hj : j < n := by have := (List.getElem?_eq_some_iff.1 hx).1; omega
    rw [add_at, cell_at k3, k5 j hj, hx])
  rwa [hl] at this
theorem rd_run1 (h : Sim B w0 ρ S w) {o v i : Nat} {a : AV} (hr : S.rd o v i 1 = some [a]) {L : Loc} (hL : ρ o v = some L) (h0 : L.start ≤ i) (h1 : i + 1 ≤ L.ext) :
    ∃ x : Value, VR ρ a x ∧ (Go.load ⟨L.blk, L.at i, none⟩).run P w = .ok x w := by
  obtain ⟨vs, hl, hv, ha, cs, e, fz, k3, k4, k5⟩ := rd_lies h hr hL h0 h1
  cases hv with
  | cons hx ht =>
    rename_i x cs'
    refine ⟨x, hx, ?_⟩
    have := k5 0 (by omega)
    simp only [Nat.add_zero, List.getElem?_cons_zero] at this
    rw [run_load, cell_at k3, this]
theorem wr_inv {o v i : Nat} {xs : List AV} (h : S.wr o v i xs = some S') : ∃ c minv, S.get o = some (.cells c v minv true) ∧ minv ≤ v ∧ i + xs.length ≤ c.length ∧
    S' = S.put o (.cells (c.take i ++ xs ++ c.drop (i + xs.length)) v v true) := by
  unfold St.wr at h
  cases hg : S.get o with
  | none => rw [hg] at h; cases h
  | some x =>
    rw [hg] at h
    cases x with
    | iter => cases h
    | map => cases h
    | fork => cases h
    | cells c ver minv own =>
      cases own with
      | false => cases h
      | true =>
        simp only at h
        cases hb : (Nat.beq v ver && Nat.ble minv v && Nat.ble (i + xs.length) c.length) with
        | false => rw [hb] at h; cases h
        | true =>
          rw [hb] at h
          simp only [Bool.and_eq_true, Nat.ble_eq] at hb
          obtain ⟨⟨hv, hm⟩, hb⟩ := hb
          obtain rfl := Nat.eq_of_beq_eq_true hv
          exact ⟨c, minv, rfl, hm, hb, by simpa using h.symm⟩
/-- What is written abstractly is written in the block. -/
theorem wr_run (h : Sim B w0 ρ S w) {o v i : Nat} {xs : List AV} {vs : List Value} (hw : S.wr o v i xs = some S') (hv : VRs ρ xs vs) (ha : xs.all AV.atom = true)
    {L : Loc} (hL : ρ o v = some L) (h0 : L.start ≤ i) (h1 : i + xs.length ≤ L.ext) :
    ∃ w', (storeCells ⟨L.blk, L.at i, none⟩ vs).run P w = .ok () w' ∧ Sim B w0 ρ S' w' := by
  obtain ⟨c, minv, hg, hm, hl, rfl⟩ := wr_inv hw
  have hc : CellsAt B ρ w o c v minv true := h.obj o _ hg
  obtain ⟨k1, k2, cs, e, fz, k3, k4, k5, k6⟩ := hc.mem v L hL hm
  have hlen := hv.length
  have hext := hc.last L hL
  have hB : B ≤ L.blk := by have := hc.side v L hL; simpa using this
  obtain ⟨cur', s1, s2, s3⟩ := run_stores (P := P) L.blk (L.at i) e fz vs 0 cs w k3 (by unfold Loc.at; omega)
    (fun j j1 j2 => (k6 rfl).not (by unfold Loc.at at j2; omega)) (hv.atoms ha)
  refine ⟨_, s3, ?_⟩
  have hblk := h.heap o v L hL
  refine h.upd o _ (fun j => St.get_put _ _ _ _) (Nat.le_refl _) (h.dom o _ hg) (fun _ _ _ => rfl) (Rho.le_refl _) (Below.set_ h.below hB _) (by simp) ?_ ?_ (fun u L' e' => .inr ⟨u, L', e', rfl⟩) ?_
  · intro b hb
    by_cases hbl : b = L.blk
    · subst hbl; exact .inr ⟨hB, v, L, hL, rfl⟩
    · left; simp [Array.getElem?_setIfInBounds_ne (Ne.symm hbl)]
  · intro u L' e'; simpa using h.heap o u L' e'
  · refine (show CellsAt _ _ _ _ _ _ _ _ from ⟨hc.vers, ?_, ?_, hc.side, hc.align, ?_⟩)
    · intro L' e'; rw [hL] at e'; cases e'; simp; omega
    · intro u L' e' hu
      have : u = v := Nat.le_antisymm (hc.vers u L' e') hu
      subst this
      rw [hL] at e'; cases e'
      refine ⟨by simp; omega, k2, cur', e, fz, by simp [hblk], by omega, ?_, fun _ => by rw [s1]; exact k6 rfl⟩
      intro j hj hj'
      have hat : L.at j = L.at i + j - i ∨ j < i := by unfold Loc.at; omega
      by_cases hin : i ≤ j ∧ j < i + xs.length
      · have hx : xs[j - i]? = some xs[j - i] := List.getElem?_eq_getElem (by omega)
        obtain ⟨x, hx1, hx2⟩ := hv.get hx
        refine ⟨xs[j - i], x, ?_, ?_, hx2⟩
        · rw [List.append_assoc, List.getElem?_append_right (by simp; omega), List.getElem?_append_left (by simp; omega)]
          simp only [List.length_take]
          rw [show min i c.length = i by omega]; exact hx
        · rw [s2, if_pos (by unfold Loc.at; omega), show L.at j - (L.at i + 0) = j - i by unfold Loc.at; omega]; exact hx1
      · obtain ⟨a, x, ha1, ha2, ha3⟩ := k5 j hj hj'
        refine ⟨a, x, ?_, ?_, ha3⟩
        · by_cases hlt : j < i
          · rw [List.append_assoc, List.getElem?_append_left (by simp; omega), List.getElem?_take_of_lt hlt]; exact ha1
          · rw [List.getElem?_append_right (by simp; omega)]
            simp only [List.length_append, List.length_take, List.getElem?_drop]
            rw [show i + xs.length + (j - (min i c.length + xs.length)) = j by omega]; exact ha1
        · rw [s2, if_neg (by unfold Loc.at; omega)]; exact ha2
    · have h2 := hc.atoms
      simp only [List.all_append, Bool.and_eq_true]
      simp only [List.all_eq_true] at h2 ha ⊢
      exact ⟨⟨fun x hx => h2 x (List.mem_of_mem_take hx), ha⟩, fun x hx => h2 x (List.mem_of_mem_drop hx)⟩
end
/-- All methods that are wanted are there (told so that the kernel reckons it). -/
def hasAll (want : Array (String × TypeId)) (got : Array Method) : Bool := want.toList.all fun w => got.any fun m => m.name == w.1 && m.sig == w.2
theorem hasAll_none {want : Array (String × TypeId)} {got : Array Method} (h : hasAll want got = true) : Instr.missingMethod want got = none := by
  have e : (want.toList.filter fun (name, sig) => !got.any fun m => m.name == name && m.sig == sig) = [] := by
    rw [List.filter_eq_nil_iff]
    rintro ⟨n, s⟩ hm
    have := List.all_eq_true.1 h _ hm
    simp only at this
    simp [this]
  unfold Instr.missingMethod
  rw [e]
  rfl
theorem hasAll_some {want : Array (String × TypeId)} {got : Array Method} (h : hasAll want got = false) : ∃ m, Instr.missingMethod want got = some m := by
  have e : ((want.toList.filter fun (name, sig) => !got.any fun m => m.name == name && m.sig == sig).map (·.1)) ≠ [] := by
    intro h0
    rw [List.map_eq_nil_iff, List.filter_eq_nil_iff] at h0
    have : hasAll want got = true := List.all_eq_true.2 fun ⟨n, s⟩ hm => by
      have := h0 _ hm
      simpa using this
    rw [h] at this; cases this
  unfold Instr.missingMethod
  generalize ((want.toList.filter fun (name, sig) => !got.any fun m => m.name == name && m.sig == sig).map (·.1)) = l at e
  simp only [List.partition_eq_filter_filter]
  cases h1 : l.filter (fun x => !(x.contains '.')) with
  | cons a r => exact ⟨_, by simp only [Function.comp_def, h1]; rfl⟩
  | nil =>
    have h2 : l.filter (fun x => x.contains '.') ≠ [] := by
      intro h2
      cases l with
      | nil => exact e rfl
      | cons a r =>
        by_cases hc : a.contains '.' = true
        · have : a ∈ (a :: r).filter (fun x => x.contains '.') := List.mem_filter.2 ⟨List.mem_cons_self, hc⟩
          rw [h2] at this; cases this
        · have : a ∈ (a :: r).filter (fun x => !(x.contains '.')) := List.mem_filter.2 ⟨List.mem_cons_self, by simpa using hc⟩
          rw [h1] at this; cases this
    cases h3 : l.filter (fun x => x.contains '.') with
    | nil => exact absurd h3 h2
    | cons a r => exact ⟨_, by simp only [Function.comp_def, h1, h3]; rfl⟩

def ofV : Nat → Value → Option AV
  | 0, _ => none
  | d + 1, v => match v with
    | .int k n => if (Lit.int k n).wf = true then some (.int k n) else none
    | .bool b => some (.bool b)
    | .float k b => some (.float k b)
    | .string s => some (.str (bytesN s))
    | .pointer none => some (.ptr none)
    | .slice none 0 0 => some (.slice none 0 0 none)
    | .nilFunc => some .nilFunc
    | .nilIface => some .nilIface
    | .func (.func f) first caps => if first.isEmpty && caps.isEmpty then some (.func f []) else none
    | .agg cs => (cs.toList.mapM (ofV d)).bind fun l => if l.all AV.atom = true then some (.agg l) else none
    | .iface t v => (ofV d v).map (.iface t)
    | _ => none
def cX : Operand → Option XO
  | .tmp t => some (.t t)
  | .const v => (ofV 4 v).map .c
  | .func f => some (.c (.func f []))
  | .global _ => none
def cXs (l : List Operand) : Option (List XO) := l.mapM cX
def cXo : Option Operand → Option (Option XO)
  | none => some none
  | some x => (cX x).map some
def szOf (P : Program) (t : TypeId) : Option Nat := (P.info? t).map (·.size)
def byOf (P : Program) (t : TypeId) : Option Nat := (P.info? t).map (·.bytes)
def isAggT (P : Program) (t : TypeId) : Option Bool := (P.underlying t).map fun | .struct _ | .array _ _ => true | _ => false
def zeroOf (P : Program) (t : TypeId) : Option (List AV) := ((P.info? t).bind (·.zero)).bind fun z => (ofV 4 z).map AV.cells
def zeroV (P : Program) (t : TypeId) : Option AV := ((P.info? t).bind (·.zero)).bind (ofV 4)
def scalT (P : Program) (t : TypeId) : Option ET := match P.underlying t with | some .bool => some .bool | some (.int _) => some .num | some .string => some .str | _ => none
def etFs (P : Program) : List Field → Option (List (Nat × ET))
  | [] => some []
  | f :: r => if (f.name != "_") = true ∧ szOf P f.type = some 1 then (scalT P f.type).bind fun e => (etFs P r).map ((f.offset, e) :: ·) else none
def etOf (P : Program) (t : TypeId) : Option ET :=
  match P.underlying t with
  | some (.pointer _) => some .ptr
  | some (.slice _) => some .slc
  | some (.func _ _ _) => some .fn
  | some (.interface _) => some .face
  | some (.struct fs) => if P.stoodInHeld t = false ∧ P.eqGuardType P.depth t = false then (etFs P fs.toList).map .strct else none
  | some (.array n e) => if szOf P e = some 1 ∧ P.eqGuardType P.depth t = false then (scalT P e).map fun k => .strct ((List.range n).map fun i => (i, k)) else none
  | _ => scalT P t
def cPartsS (P : Program) (fs : Array Field) : List (Nat × Operand) → Option (List (Nat × Nat × XO))
  | [] => some []
  | (i, x) :: r => match fs[i]? with
    | none => none
    | some f => (szOf P f.type).bind fun n => (cX x).bind fun x => (cPartsS P fs r).map ((f.offset, n, x) :: ·)
def cPartsA (size : Nat) : List (Nat × Operand) → Option (List (Nat × Nat × XO))
  | [] => some []
  | (i, x) :: r => (cX x).bind fun x => (cPartsA size r).map ((i * size, size, x) :: ·)
def cBuiltin (P : Program) (b : Builtin) (ats : List TypeId) (args : List Operand) : Option AOp :=
  match b, ats, args with
  | .append, [t, u], [s, x] =>
    match P.underlying t with
    | some (.slice e) => (szOf P e).bind fun n => (byOf P e).bind fun by_ => (zeroOf P e).bind fun z => (cX s).bind fun s => (cX x).bind fun x =>
      if z.length = n ∧ 0 < n ∧ 0 < by_ ∧ z.all AV.atom = true then
      match P.underlying u with
      | some (.int _) => some (.appendZ n by_ z s x)
      | some (.slice _) => some (.append n by_ s x)
      | some .string => if n = 1 then some (.appendS by_ s x) else none
      | _ => none else none
    | _ => none
  | .len, [t], [x] => (cX x).bind fun x => match P.underlying t with
    | some .string => some (.lenS x)
    | some (.slice _) => some (.len x)
    | some (.array n _) => if n ≤ 9223372036854775807 then some (.lenArr n) else none
    | _ => none
  | .cap, [t], [x] => (cX x).bind fun x => match P.underlying t with
    | some (.slice _) => some (.cap x)
    | _ => none
  | .max, _, xs => (cXs xs).map .mx
  | .min, _, xs => (cXs xs).map .mn
  | .copy, [t, u], [d, s] => match P.underlying t with
    | some (.slice e) => (szOf P e).bind fun n => (cX d).bind fun d => (cX s).map fun s => .copy n d s
    | _ => none
  | .clear, [t], [x] => match P.underlying t with
    | some (.slice e) => (szOf P e).bind fun n => (zeroOf P e).bind fun z => if z.length = n ∧ 0 < n ∧ z.all AV.atom = true then (cX x).map fun x => .clr n z x else none
    | _ => none
  | _, _, _ => none
/-- The functions that a method of this name is, of each type whose values bear it plainly. -/
def cTab (P : Program) (name : String) : List (Nat × Nat) :=
  (List.range P.types.size).filterMap fun t => match P.info? t with
    | some i => match i.methods.find? (·.name == name) with
      | some m => if m.path.isEmpty then match m.func with
          | some (f, pr) => if pr == (match P.underlying t with | some (.pointer _) => true | some _ => false | none => !pr) then some (t, f) else none
          | none => none
        else none
      | none => none
    | none => none
/-- A map of whole numbers: the kinds of its keys and values. -/
def mapT (P : Program) (t : TypeId) : Option (IntKind × IntKind) :=
  match P.underlying t with
  | some (.map k e) => match P.underlying k, zeroV P e with
      | some (.int kk), some (.int kv z) => if z = 0 then some (kk, kv) else none
      | _, _ => none
  | _ => none
def cOp (P : Program) (op : Op) : Option AOp :=
  match op with
  | .move x | .assign x => (cX x).map .mv
  | .pick c a b => (cX c).bind fun c => (cX a).bind fun a => (cX b).map fun b => .pick c a b
  | .alloc t => (zeroOf P t).bind fun z => if z.all AV.atom = true then some (.alloc z) else none
  | .box _ x => (cX x).map .box
  | .build t parts => (zeroOf P t).bind fun z => if z.all AV.atom = true then match P.underlying t with
      | some (.struct fs) => if (fs.toList.all fun f => (szOf P f.type).isSome) = true then (cPartsS P fs parts.toList).map (.build z) else none
      | some (.array _ e) => (szOf P e).bind fun n => (cPartsA n parts.toList).map (.build z)
      | _ => none else none
  | .buildSlice t len parts => match P.underlying t with
      | some (.slice e) => (szOf P e).bind fun n => (zeroOf P e).bind fun z => if z.length = n ∧ 0 < n ∧ len * n ≤ 16777216 ∧ z.all AV.atom = true then (cPartsA n parts.toList).map (.buildSlice n z len) else none
      | _ => none
  | .load t a => (isAggT P t).bind fun g => (szOf P t).bind fun n => (cX a).map fun a => bif g then .loadN n a else .load1 a
  | .store t a x => (szOf P t).bind fun n => (cX a).bind fun a => (cX x).map fun x => .store n a x
  | .nilCheck x => (cX x).map .nilCheck
  | .binOp op t x y _ => (cX x).bind fun x => (cX y).bind fun y => match op with
      | .eql | .neq => (etOf P t).map fun e => .bin op e x y
      | _ => some (.bin op .num x y)
  | .unOp op _ x => (cX x).map (.un op)
  | .convert s d x => (cX x).bind fun x => match P.underlying s, P.underlying d with
      | some (.int _), some (.int k) => some (.conv (.int k) x)
      | some (.int _), some .string => some (.conv .runeStr x)
      | some .string, some .string => some (.conv .same x)
      | some .string, some (.slice e) => match P.underlying e with
          | some (.int .u8) => some (.conv .strBytes x)
          | some (.int .i32) => some (.conv .strRunes x)
          | _ => none
      | some (.slice e), some .string => match P.underlying e with
          | some (.int .u8) => some (.conv .bytesStr x)
          | some (.int .i32) => some (.conv .runesStr x)
          | _ => none
      | some (.slice _), some (.slice e) => match s == d, P.underlying e with
          | true, some (.int .u8) => some (.conv .mark x)
          | _, _ => none
      | _, _ => none
  | .makeInterface t x => match P.underlying t with
      | some (.interface _) | none => none
      | _ => (cX x).map (.mkIface t)
  | .makeFunc (.func f) first caps => if first.isEmpty then (cXs caps.toList).map (.mkFunc f) else none
  | .makeSlice t l c => match P.underlying t with
      | some (.slice e) => (szOf P e).bind fun n => (byOf P e).bind fun by_ => (zeroOf P e).bind fun z => (cX l).bind fun l => (cX c).bind fun c =>
          if z.length = n ∧ 0 < n ∧ z.all AV.atom = true then some (.mkSlice n by_ z l c) else none
      | _ => none
  | .slice t x lo hi mx => (cX x).bind fun x => (cXo lo).bind fun lo => (cXo hi).bind fun hi => (cXo mx).bind fun mx => match P.underlying t with
      | some .string => if mx.isNone then some (.cutStr x lo hi) else none
      | some (.slice e) => (szOf P e).map fun n => .cut n x lo hi mx
      | some (.array n e) => if mx.isNone then (szOf P e).map fun s => .cutArr n s x lo hi else none
      | _ => none
  | .fieldAddr s x f => (cX x).bind fun x => match P.underlying s with
      | some (.struct fs) => match fs[f]? with
          | some fd => (szOf P fd.type).bind fun n => if 0 < n then some (.fieldAddr fd.offset n x) else none
          | none => none
      | _ => none
  | .field s x f => (cX x).bind fun x => match P.underlying s with
      | some (.struct fs) => match fs[f]? with
          | some fd => (isAggT P fd.type).bind fun g => (szOf P fd.type).map fun n => bif g then .fieldN fd.offset n x else .field1 fd.offset x
          | none => none
      | _ => none
  | .indexAddr t x i => (cX x).bind fun x => (cX i).bind fun i => match P.underlying t with
      | some (.array n e) => (szOf P e).map fun s => .ixArr n s x i
      | some (.slice e) => (szOf P e).map fun s => .ixSlice s x i
      | _ => none
  | .index t x i => (cX x).bind fun x => (cX i).bind fun i => match P.underlying t with
      | some (.array n e) => (isAggT P e).bind fun g => (szOf P e).bind fun s => bif g then some (.ixAggN n s x i) else if s = 1 then some (.ixAgg1 n x i) else none
      | some .string => some (.ixStr x i)
      | _ => none
  | .range t x => match P.underlying t with
      | some .string => (cX x).map .range
      | _ => none
  | .next x true => (cX x).map .next
  | .typeAssert x _ t ok => (cX x).bind fun x => match P.underlying t with
      | some (.interface want) =>
        match zeroV P t with
        | some .nilIface => some (.assertI ((List.range P.types.size).filter fun u => match P.info? u with | some i => hasAll want i.methods | none => false)
            ((List.range P.types.size).filter fun u => match P.info? u with | some i => !hasAll want i.methods | none => false) ok x)
        | _ => none
      | some _ => (zeroV P t).map fun z => .assert t z ok x
      | none => none
  | .extract x i => (cX x).map (.extract i)
  | .call c => match c.callee with
      | .value (.func f) => (cXs c.args.toList).map (.call f)
      | .value x => (cX x).bind fun x => (cXs c.args.toList).map (.callV x)
      | .builtin b => cBuiltin P b c.argTypes.toList c.args.toList
      | .invoke x name => (cX x).bind fun x => (cXs c.args.toList).map (.invoke name (cTab P name) x)
  | .makeMap t none => (mapT P t).map fun p => .mkMap p.1 p.2
  | .lookup t m k ok => (mapT P t).bind fun p => (cX m).bind fun m => (cX k).map fun k => .lookup p.1 p.2 ok m k
  | .mapUpdate t m k x => (mapT P t).bind fun p => (cX m).bind fun m => (cX k).bind fun k => (cX x).map fun x => .mapSet p.1 p.2 m k x
  | .panic _ => some .stop
  | _ => none

/-! ### Constants -/
section
variable {ρ : Rho}
theorem mapM_cons_some {α β : Type} {f : α → Option β} {a : α} {l : List α} {r : List β} (h : (a :: l).mapM f = some r) : ∃ b r', f a = some b ∧ l.mapM f = some r' ∧ r = b :: r' := by
  simp only [List.mapM_cons, Option.bind_eq_bind, Option.bind_eq_some_iff, Option.pure_def, Option.some.injEq] at h
  obtain ⟨b, hb, r', hr, rfl⟩ := h
  exact ⟨b, r', hb, hr, rfl⟩
theorem ofV_sound : ∀ (d : Nat) (v : Value) (a : AV), ofV d v = some a → VR ρ a v := by
  intro d
  induction d with
  | zero => intro v a h; cases h
  | succ d ih =>
    have list : ∀ (vs : List Value) (l : List AV), vs.mapM (ofV d) = some l → VRs ρ l vs := by
      intro vs
      induction vs with
      | nil => intro l h; simp at h; subst h; exact .nil
      | cons v vs ihv =>
        intro l h
        obtain ⟨b, r', h1, h2, rfl⟩ := mapM_cons_some h
        exact .cons (ih v b h1) (ihv r' h2)
    intro v a h
    unfold ofV at h
    split at h
    · split at h
      · rename_i hw; cases h; exact .int hw
      · cases h
    · cases h; exact .bool
    · cases h; exact .float
    · cases h; exact .str rfl
    · cases h; exact .ptrNil
    · cases h; exact .sliceNil
    · cases h; exact .nilFunc
    · cases h; exact .nilIface
    · split at h
      · rename_i he
        simp only [Bool.and_eq_true, Array.isEmpty_iff] at he
        obtain ⟨rfl, rfl⟩ := he
        cases h
        exact .func .nil
      · cases h
    · rename_i cs
      cases hm : cs.toList.mapM (ofV d) with
      | none => rw [hm] at h; cases h
      | some l =>
        rw [hm] at h
        simp only [Option.bind_some] at h
        split at h
        · rename_i ha; cases h; exact .agg (list _ _ hm) ha
        · cases h
    · rename_i t v'
      cases hm : ofV d v' with
      | none => rw [hm] at h; cases h
      | some x => rw [hm] at h; cases h; exact .iface (ih v' x hm)
    · cases h

/-! ### Temporaries -/
def TR (ρ : Rho) (T : Tm) (tmps : Array Value) : Prop := ∀ i v, T.get i = some v → ∃ c, tmps[i]? = some c ∧ VR ρ v c
theorem TR.mono {ρ' : Rho} {T : Tm} {tmps : Array Value} (h : TR ρ T tmps) (hle : ρ.le ρ') : TR ρ' T tmps := fun i v e => let ⟨c, h1, h2⟩ := h i v e; ⟨c, h1, VR.mono hle h2⟩
theorem TR.put {T : Tm} {tmps : Array Value} (h : TR ρ T tmps) {d : Nat} (hd : d < tmps.size) {v : AV} {c : Value} (hv : VR ρ v c) : TR ρ (T.set d v) (tmps.setIfInBounds d c) := by
  intro i x e
  rw [Tr.get_set] at e
  by_cases hi : i = d
  · rw [if_pos hi] at e; cases e; subst hi; exact ⟨c, by simp [hd], hv⟩
  · rw [if_neg hi] at e
    obtain ⟨c', h1, h2⟩ := h i x e
    exact ⟨c', by rw [Array.getElem?_setIfInBounds_ne (Ne.symm hi)]; exact h1, h2⟩
theorem cX_sound {T : Tm} {a : Act} (hT : TR ρ T a.tmps) {x : Operand} {y : XO} (hc : cX x = some y) {v : AV} (he : y.ev T = some v) : VR ρ v (a.eval x) := by
  cases x with
  | tmp t =>
    cases hc
    obtain ⟨c, h1, h2⟩ := hT t v he
    simpa [Act.eval, h1] using h2
  | const u =>
    simp only [cX, Option.map_eq_some_iff] at hc
    obtain ⟨b, hb, rfl⟩ := hc
    cases he
    exact ofV_sound _ _ _ hb
  | func f => cases hc; cases he; exact .func .nil
  | global g => cases hc
theorem cXs_sound {T : Tm} {a : Act} (hT : TR ρ T a.tmps) : ∀ {l : List Operand} {ys : List XO}, cXs l = some ys → ∀ {vs : List AV}, evArgs T ys = some vs → VRs ρ vs (l.map a.eval) := by
  intro l
  induction l with
  | nil => intro ys h vs he; simp [cXs] at h; subst h; cases he; exact .nil
  | cons x l ih =>
    intro ys h vs he
    obtain ⟨y, ys', h1, h2, rfl⟩ := mapM_cons_some h
    simp only [evArgs, Option.bind_eq_some_iff, Option.map_eq_some_iff] at he
    obtain ⟨v, hv, vs', hvs, rfl⟩ := he
    exact .cons (cX_sound hT h1 hv) (ih h2 hvs)
theorem lit_const {T : Tm} {x : Operand} {y : XO} (hc : cX x = some y) (hl : y.lit = true) (he : y.ev T = some .nilIface) : (match x with | .const _ => true | _ => false) = true := by
  cases x with
  | tmp t => cases hc; cases hl
  | const v => rfl
  | func f => cases hc; cases he
  | global g => cases hc
end
theorem toList_loop (s : ByteArray) : ∀ (n i : Nat) (r : List UInt8), s.size - i = n → ByteArray.toList.loop s i r = r.reverse ++ s.data.toList.drop i := by
  intro n
  induction n with
  | zero =>
    intro i r h
    rw [ByteArray.toList.loop, if_neg (by omega), List.drop_eq_nil_of_le (by simp; exact Nat.sub_eq_zero_iff_le.1 h)]
    simp
  | succ n ih =>
    intro i r h
    have hi : i < s.size := by omega
    rw [ByteArray.toList.loop, if_pos hi, ih (i + 1) _ (by omega)]
    have hg : s.get! i = s.data.toList[i]'(by simpa using hi) := by
      cases s with
      | mk d => simp only [ByteArray.get!]; exact getElem!_pos d i hi
    rw [List.reverse_cons, List.append_assoc, hg]
    congr 1
    exact (List.drop_eq_getElem_cons (by simpa using hi)).symm
theorem toList_eq (s : ByteArray) : s.toList = s.data.toList := by
  have := toList_loop s (s.size - 0) 0 [] rfl
  simpa [ByteArray.toList] using this
theorem bytesN_length (s : ByteArray) : (bytesN s).length = s.size := by simp [bytesN]
theorem bytesN_lt {s : ByteArray} {b : Nat} (h : b ∈ bytesN s) : b < 256 := by
  simp only [bytesN, List.mem_map] at h
  obtain ⟨x, _, rfl⟩ := h
  exact x.toNat_lt
theorem eqStr_iff (a b : List Nat) : eqStr a b = decide (a = b) := by
  induction a generalizing b with
  | nil => cases b <;> simp [eqStr]
  | cons x a ih =>
    cases b with
    | nil => simp [eqStr]
    | cons y b =>
      simp only [eqStr, ih]
      by_cases hxy : x = y
      · subst hxy; simp
      · have : Nat.beq x y = false := by cases h : Nat.beq x y with | false => rfl | true => exact absurd (Nat.eq_of_beq_eq_true h) hxy
        simp [this, hxy]
theorem map_toNat_inj {a b : List UInt8} (h : a.map UInt8.toNat = b.map UInt8.toNat) : a = b := by
  induction a generalizing b with
  | nil => cases b with | nil => rfl | cons => simp at h
  | cons x a ih => cases b with
    | nil => simp at h
    | cons y b =>
      simp only [List.map_cons, List.cons.injEq] at h
      rw [UInt8.toNat_inj.1 h.1, ih h.2]
theorem str_eq (a b : ByteArray) : (a.toList == b.toList) = eqStr (bytesN a) (bytesN b) := by
  rw [eqStr_iff, toList_eq, toList_eq]
  by_cases h : a.data.toList = b.data.toList
  · simp [bytesN, h]
  · have : ¬ bytesN a = bytesN b := fun k => h (map_toNat_inj k)
    have hd : ¬ a.data = b.data := fun k => h (by rw [k])
    simp [this, hd]
theorem str_lt (a b : List UInt8) : Op.bytesLess a b = ltStr (a.map UInt8.toNat) (b.map UInt8.toNat) := by
  induction a generalizing b with
  | nil => cases b <;> rfl
  | cons x a ih => cases b with
    | nil => rfl
    | cons y b =>
      simp only [Op.bytesLess, List.map_cons, ltStr, ih]
      have h1 : decide (x < y) = Nat.blt x.toNat y.toNat := by
        rw [Bool.eq_iff_iff]; simp [Nat.blt_eq, UInt8.lt_iff_toNat_lt]
      have h2 : (x == y) = Nat.beq x.toNat y.toNat := by
        rw [Bool.eq_iff_iff, Nat.beq_eq]; simp [← UInt8.toNat_inj]
      rw [h1, h2]
theorem bytesN_append (a b : ByteArray) : bytesN (a ++ b) = bytesN a ++ bytesN b := by simp [bytesN]
theorem wf_bounds {k : IntKind} {n : Int} : (Lit.int k n).wf = true ↔ k.min ≤ n ∧ n ≤ k.max := by simp [Lit.wf]
theorem min_nonpos (k : IntKind) : k.min ≤ 0 ∧ 0 ≤ k.max ∧ -k.max - 1 ≤ k.min ∨ k.min = 0 := by cases k <;> simp [IntKind.min, IntKind.max, IntKind.signed, IntKind.bits]
theorem wf_tmod {k : IntKind} {a b : Int} (ha : (Lit.int k a).wf = true) : (Lit.int k (a.tmod b)).wf = true := by
  rw [wf_bounds] at *
  rcases Int.le_total 0 a with h | h
  · have h1 := Int.tmod_nonneg b h
    have h2 : a.tmod b ≤ a := by
      rw [Int.tmod_eq_emod_of_nonneg h]
      by_cases hb : b = 0
      · simp [hb]
      · have := Int.emod_add_mul_ediv a b
        rcases Int.lt_or_gt_of_ne hb with hb' | hb'
        · have h3 : a / b ≤ 0 := Int.ediv_nonpos_of_nonneg_of_nonpos h (Int.le_of_lt hb')
          have h4 := Int.mul_nonneg_of_nonpos_of_nonpos (Int.le_of_lt hb') h3
          omega
        · have h3 : 0 ≤ a / b := Int.ediv_nonneg h (Int.le_of_lt hb')
          have h4 := Int.mul_nonneg (Int.le_of_lt hb') h3
          omega
    have : k.min ≤ 0 := by cases k <;> simp [IntKind.min, IntKind.signed, IntKind.bits]
    omega
  · have h1 : (-a).tmod b = -(a.tmod b) := Int.neg_tmod a b
    have h0 : 0 ≤ -a := by omega
    have h2 := Int.tmod_nonneg b h0
    have h3 : (-a).tmod b ≤ -a := by
      rw [Int.tmod_eq_emod_of_nonneg h0]
      by_cases hb : b = 0
      · simp [hb]
      · have := Int.emod_add_mul_ediv (-a) b
        rcases Int.lt_or_gt_of_ne hb with hb' | hb'
        · have h3 : (-a) / b ≤ 0 := Int.ediv_nonpos_of_nonneg_of_nonpos h0 (Int.le_of_lt hb')
          have h4 := Int.mul_nonneg_of_nonpos_of_nonpos (Int.le_of_lt hb') h3
          omega
        · have h3 : 0 ≤ (-a) / b := Int.ediv_nonneg h0 (Int.le_of_lt hb')
          have h4 := Int.mul_nonneg (Int.le_of_lt hb') h3
          omega
    have : 0 ≤ k.max := by cases k <;> simp [IntKind.max, IntKind.signed, IntKind.bits]
    omega
theorem wf_shr {k : IntKind} {a : Int} (n : Nat) (ha : (Lit.int k a).wf = true) : (Lit.int k (a / 2 ^ n)).wf = true := by
  rw [wf_bounds] at *
  have hp : (0 : Int) < 2 ^ n := Int.pow_pos (by decide)
  have h1 := Int.mul_ediv_add_emod a (2 ^ n)
  have h2 := Int.emod_nonneg a (Int.ne_of_gt hp)
  have h3 := Int.emod_lt_of_pos a hp
  have k1 : k.min ≤ 0 := by cases k <;> simp [IntKind.min, IntKind.signed, IntKind.bits]
  have k2 : 0 ≤ k.max := by cases k <;> simp [IntKind.max, IntKind.signed, IntKind.bits]
  generalize a / 2 ^ n = q at *
  generalize a % 2 ^ n = r at *
  generalize (2 : Int) ^ n = p at *
  rcases Int.le_total 0 q with hq | hq
  · have := Int.mul_le_mul_of_nonneg_right (show 1 ≤ p by omega) hq
    omega
  · by_cases hq0 : q = 0
    · omega
    · have h4 := Int.mul_le_mul_of_nonneg_right (show 1 ≤ p by omega) (show 0 ≤ -(q + 1) by omega)
      have h5 : p * -(q + 1) = -(p * q) - p := by rw [Int.mul_neg, Int.mul_add, Int.mul_one]; omega
      omega
section
variable {P : Program} {w : World} {ρ : Rho}
theorem bin_int {op : BinOp} {k : IntKind} {a b : Int} {r : AV} (ha : (Lit.int k a).wf = true) (t : TypeId) (hop : op ≠ .shl) (hop' : op ≠ .shr) (h : aInt op k a b = some r) :
    ∃ c, (binOp op t (.int k a) (.int k b)).run P w = .ok c w ∧ VR ρ r c := by
  cases op <;> simp only [aInt] at h
  case shl => cases h
  case shr => cases h
  case quo =>
    split at h
    · cases h
    · rename_i hb; cases h; exact ⟨_, by simp [binOp, Op.intDiv, hb], .int (wf_wrap _ _)⟩
  case rem =>
    split at h
    · cases h
    · rename_i hb; cases h; exact ⟨_, by simp [binOp, Op.intDiv, hb], .int (wf_tmod ha)⟩
  case eql => cases h; exact ⟨.bool (a == b), by simp [binOp, Op.intCmp], by rw [show decide (a = b) = (a == b) from rfl]; exact .bool⟩
  case neq => cases h; exact ⟨.bool (a != b), by simp [binOp, Op.intCmp], by rw [show decide (a ≠ b) = (a != b) from by simp [bne]; rfl]; exact .bool⟩
  case lss => cases h; exact ⟨_, by simp [binOp, Op.intCmp], .bool⟩
  case leq => cases h; exact ⟨_, by simp [binOp, Op.intCmp], .bool⟩
  case gtr => cases h; exact ⟨_, by simp [binOp, Op.intCmp], .bool⟩
  case geq => cases h; exact ⟨_, by simp [binOp, Op.intCmp], .bool⟩
  all_goals (cases h; exact ⟨_, by simp [binOp, Op.intArith, Op.intBits, Go.bits], .int (wf_wrap _ _)⟩)
theorem bin_str {op : BinOp} {a b : ByteArray} {r : AV} (t : TypeId) (h : aStr op (bytesN a) (bytesN b) = some r) :
    ∃ c, (binOp op t (.string a) (.string b)).run P w = .ok c w ∧ VR ρ r c := by
  have e1 := str_eq a b
  have e2 := str_lt a.toList b.toList
  rw [toList_eq, toList_eq] at e2
  have e2' : Op.bytesLess a.toList b.toList = ltStr (bytesN a) (bytesN b) := by rw [toList_eq, toList_eq]; exact e2
  have hsz : IntKind.i64.max = 9223372036854775807 := by decide
  cases op <;> simp only [aStr] at h
  case add =>
    split at h
    · rename_i hl
      cases h
      rw [bytesN_length, bytesN_length] at hl
      refine ⟨_, ?_, .str (bytesN_append a b)⟩
      simp only [binOp, Op.stringOp, hsz]
      rw [if_neg (by omega)]
      rfl
    · cases h
  case eql => cases h; exact ⟨_, by simp only [binOp, Op.stringOp, e1]; rfl, .bool⟩
  case neq => cases h; exact ⟨_, by simp only [binOp, Op.stringOp, e1]; rfl, .bool⟩
  case lss => cases h; exact ⟨_, by simp only [binOp, Op.stringOp, e2']; rfl, .bool⟩
  case leq => cases h; exact ⟨_, by simp only [binOp, Op.stringOp, e1, e2']; rfl, .bool⟩
  case gtr => cases h; exact ⟨_, by simp only [binOp, Op.stringOp, e1, e2']; rfl, .bool⟩
  case geq => cases h; exact ⟨_, by simp only [binOp, Op.stringOp, e2']; rfl, .bool⟩
  all_goals cases h
end
/-- What a run of an operation comes to: the value told (or none, where nothing is told), the state told. -/
def Out (B : Nat) (w0 : Base) (ρ : Rho) (S' : St) (v : AV) (r : Result Next) : Prop :=
  ∃ ρ' c w', ρ.le ρ' ∧ VR ρ' v c ∧ Sim B w0 ρ' S' w' ∧ (r = .ok (.value c) w' ∨ (r = .ok .skip w' ∧ c = undef))
section
variable {P : Program} {B : Nat} {w0 : Base} {w : World} {ρ : Rho} {S S' : St}
theorem Out.of {ρ' : Rho} {v : AV} {c : Value} {w' : World} {s : Sem Value} (hle : ρ.le ρ') (hv : VR ρ' v c) (hS : Sim B w0 ρ' S' w') (hr : s.run P w = .ok c w') :
    Out B w0 ρ S' v ((do pure (Next.value (← s)) : Sem Next).run P w) :=
  ⟨ρ', c, w', hle, hv, hS, .inl (by simp [hr])⟩
theorem Out.val {v : AV} {c : Value} {s : Sem Value} (h : Sim B w0 ρ S w) (hv : VR ρ v c) (hr : s.run P w = .ok c w) :
    Out B w0 ρ S v ((do pure (Next.value (← s)) : Sem Next).run P w) := .of (Rho.le_refl ρ) hv h hr
theorem VR.cells_atoms {v : AV} {c : Value} (h : VR ρ v c) (ht : v.tup = false) : v.cells.all AV.atom = true := by
  cases h <;> first | assumption | rfl | (simp [AV.tup] at ht)
theorem zero_inv {t : TypeId} {z : List AV} (h : zeroOf P t = some z) : ∃ i zv av, P.info? t = some i ∧ i.zero = some zv ∧ (∀ ρ, VR ρ av zv) ∧ av.cells = z := by
  simp only [zeroOf, Option.bind_eq_some_iff, Option.map_eq_some_iff] at h
  obtain ⟨zv, ⟨i, hi, hz⟩, av, hav, rfl⟩ := h
  exact ⟨i, zv, av, hi, hz, fun ρ => ofV_sound _ _ _ hav, rfl⟩
theorem run_zero {t : TypeId} {i : TypeInfo} {zv : Value} (h : P.info? t = some i) (hz : i.zero = some zv) (w : World) : (zeroValue t).run P w = .ok zv w := by
  simp [zeroValue, typeInfo, h, hz]
theorem sz_inv {t : TypeId} {n : Nat} (h : szOf P t = some n) : ∃ i, P.info? t = some i ∧ i.size = n := by
  simp only [szOf, Option.map_eq_some_iff] at h; exact h
theorem run_size {t : TypeId} {n : Nat} (h : szOf P t = some n) (w : World) : (sizeOf t).run P w = .ok n w := by
  obtain ⟨i, hi, rfl⟩ := sz_inv h
  simp [sizeOf, typeInfo, hi]
theorem run_info {t : TypeId} {i : TypeInfo} (h : P.info? t = some i) (w : World) : (typeInfo t).run P w = .ok i w := by simp [typeInfo, h]
theorem run_und {t : TypeId} {d : TypeDesc} (h : P.underlying t = some d) (w : World) : (underlying t).run P w = .ok d w := run_underlying h w
theorem run_agg {t : TypeId} {g : Bool} (h : isAggT P t = some g) (w : World) : (isAgg t).run P w = .ok g w := by
  simp only [isAggT, Option.map_eq_some_iff] at h
  obtain ⟨d, hd, rfl⟩ := h
  simp only [isAgg, Sem.run_bind, run_und hd, Result.andThen_ok]
  cases d <;> rfl

/-- A new block of cells, and its place. -/
theorem new_row (h : Sim B w0 ρ S w) {xs : List AV} {cs : Array Value} (e : TypeId) (hv : VRs ρ xs cs.toList) (ha : xs.all AV.atom = true) :
    ∃ ρ', ρ.le ρ' ∧ ρ' S.next 0 = some ⟨w.heap.size, 0, 0, xs.length, xs.length⟩ ∧ Sim B w0 ρ' (S.alloc (.cells xs 0 0 true)) { w with heap := w.heap.push (.cells cs e) } ∧
      (newRow e cs).run P w = .ok ⟨w.heap.size, 0, none⟩ { w with heap := w.heap.push (.cells cs e) } := by
  have hl := hv.length
  obtain ⟨ρ', h1, h2, h3⟩ := h.alloc (e := e) (fz := (0, 0)) (cs := cs) xs.length (Nat.le_refl _) (by simp at hl; omega)
    (fun i a hi => by obtain ⟨v, hv1, hv2⟩ := hv.get hi; exact ⟨v, by simpa using hv1, hv2⟩) ha (.inl rfl)
  exact ⟨ρ', h1, h2, h3, by simp [newRow]⟩
theorem out_newVar (h : Sim B w0 ρ S w) {v : AV} {c : Value} (e : TypeId) (hv : VR ρ v c) (ht : v.tup = false) :
    Out B w0 ρ (newVar S v.cells).2 (newVar S v.cells).1 ((do pure (Next.value (← (do pure (.pointer (some (← Go.newVar e c)))))) : Sem Next).run P w) := by
  obtain ⟨ρ', h1, h2, h3, h4⟩ := new_row (P := P) h e hv.cells (hv.cells_atoms ht)
  refine Out.of (c := .pointer (some ⟨w.heap.size, 0, none⟩)) h1 (.ptr h2 (Nat.zero_le _) (by simp) rfl) h3 ?_
  simp [Go.newVar, h4]
theorem out_newSl (h : Sim B w0 ρ S w) {xs : List AV} {cs : Array Value} (e : TypeId) (len esz : Nat) (hl : xs.length = len * esz) (hv : VRs ρ xs cs.toList) (ha : xs.all AV.atom = true) {s : Sem Value}
    (hs : s.run P w = .ok (.slice (some ⟨w.heap.size, 0, none⟩) len len) { w with heap := w.heap.push (.cells cs e) }) :
    Out B w0 ρ (newSl S xs len esz).2 (newSl S xs len esz).1 ((do pure (Next.value (← s)) : Sem Next).run P w) := by
  obtain ⟨ρ', h1, h2, h3, h4⟩ := new_row (P := P) h e hv ha
  exact Out.of h1 (.slice h2 (Nat.zero_le _) (by simp; omega) (by simp; omega) (Nat.le_refl _) (by simp) (.inr rfl)) h3 hs
/-- The same with room behind. -/
theorem out_newSlR (h : Sim B w0 ρ S w) {xs : List AV} {cs : Array Value} (e : TypeId) (fz : Nat × Nat) (len esz cap : Nat) (hl : xs.length = len * esz) (hc : len ≤ cap) (hsz : cs.size = cap * esz)
    (hv : VRs ρ xs (cs.toList.take xs.length)) (ha : xs.all AV.atom = true) (hf : Fz fz cs.size) {d : Nat} {s : Sem Value}
    (hs : s.run P w = .ok (.slice (some ⟨w.heap.size, 0, none⟩) len cap) { w with heap := w.heap.push (.cells cs e fz), drawn := d }) :
    Out B w0 ρ (newSl S xs len esz).2 (newSl S xs len esz).1 ((do pure (Next.value (← s)) : Sem Next).run P w) := by
  have hle : len * esz ≤ cap * esz := Nat.mul_le_mul_right _ hc
  obtain ⟨ρ', h1, h2, h3⟩ := h.alloc (e := e) (fz := fz) (cs := cs) (cap * esz) (by omega) (by omega)
    (fun i a hi => by
      obtain ⟨v, hv1, hv2⟩ := hv.get hi
      have hlt := (List.getElem?_eq_some_iff.1 hi).1
      rw [List.getElem?_take_of_lt hlt] at hv1
      exact ⟨v, by simpa using hv1, hv2⟩) ha hf
  exact Out.of h1 (.slice h2 (Nat.zero_le _) (by simp; omega) (by simp) hc (by simp) (.inr rfl)) (h3.drawn d) hs

/-! ### Comparing -/
theorem isAgg_scal {t : TypeId} {e : ET} (h : scalT P t = some e) (w : World) : (isAgg t).run P w = .ok false w := by
  unfold scalT at h
  split at h <;> first | (cases h; rename_i hu; simp [isAgg, run_und hu]) | cases h
theorem eq_scal {d : Nat} {t : TypeId} {e : ET} (he : scalT P t = some e) {x y : AV} {cx cy : Value} (hx : VR ρ x cx) (hy : VR ρ y cy) {b : Bool} (h : eqScal e x y = some b) (w : World) :
    (Op.equalIn (d + 1) t cx cy).run P w = .ok b w := by
  unfold scalT at he
  split at he
  · rename_i hu; cases he
    cases hx <;> simp only [eqScal] at h <;> try cases h
    cases hy <;> simp only [eqScal] at h <;> try cases h
    exact run_equalIn_bool' w d t _ _ hu
  · rename_i hu; cases he
    cases hx <;> simp only [eqScal] at h <;> try cases h
    cases hy <;> simp only [eqScal] at h <;> try cases h
    split at h
    · rename_i hk; cases h; subst hk; exact run_equalIn_int w d t _ _ _ _ hu
    · cases h
  · rename_i hu; cases he
    cases hx <;> simp only [eqScal] at h <;> try cases h
    rename_i l s hs
    cases hy <;> simp only [eqScal] at h <;> try cases h
    rename_i l' s' hs'
    subst hs hs'
    rw [run_equalIn_string w d t _ _ hu, str_eq]
  · cases he
theorem eq_fields {d : Nat} {xs ys : Array Value} {as bs : List AV} (hx : VRs ρ as xs.toList) (hy : VRs ρ bs ys.toList) (w : World) :
    ∀ (fs : List Field) (es : List (Nat × ET)), etFs P fs = some es → ∀ {b : Bool}, eqFields as bs es = some b → (Op.eqFields (d + 1) xs ys fs).run P w = .ok b w := by
  intro fs
  induction fs with
  | nil => intro es h b hb; cases h; cases hb; rfl
  | cons f fs ih =>
    intro es h b hb
    simp only [etFs] at h
    split at h
    · rename_i hc
      obtain ⟨hn, hs⟩ := hc
      simp only [Option.bind_eq_some_iff, Option.map_eq_some_iff] at h
      obtain ⟨e, he, es', hes, rfl⟩ := h
      simp only [eqFields] at hb
      split at hb
      · rename_i x y h1 h2
        obtain ⟨cx, hcx, hvx⟩ := hx.get h1
        obtain ⟨cy, hcy, hvy⟩ := hy.get h2
        simp only [Array.getElem?_toList] at hcx hcy
        simp only [Option.bind_eq_some_iff] at hb
        obtain ⟨b1, hb1, hb2⟩ := hb
        have p1 : (part f.type xs f.offset).run P w = .ok cx w := by simp [part, isAgg_scal he, hcx]
        have p2 : (part f.type ys f.offset).run P w = .ok cy w := by simp [part, isAgg_scal he, hcy]
        have hn' : f.name ≠ "_" := by simpa using hn
        simp only [Op.eqFields, if_pos hn', Sem.run_bind, p1, p2, Result.andThen_ok, eq_scal he hvx hvy hb1]
        cases b1
        · simp only [cond_false] at hb2; cases hb2; rfl
        · simp only [cond_true] at hb2
          simpa using ih es' hes hb2
      · cases hb
    · cases h
theorem eq_items {d : Nat} {xs ys : Array Value} {as bs : List AV} {e : TypeId} {k : ET} (he : scalT P e = some k) (hx : VRs ρ as xs.toList) (hy : VRs ρ bs ys.toList) (w : World) :
    ∀ (is : List Nat) {b : Bool}, eqFields as bs (is.map fun i => (i, k)) = some b → (Op.eqItems (d + 1) e 1 xs ys is).run P w = .ok b w := by
  intro is
  induction is with
  | nil => intro b hb; cases hb; rfl
  | cons i is ih =>
    intro b hb
    simp only [List.map_cons, eqFields] at hb
    split at hb
    · rename_i x y h1 h2
      obtain ⟨cx, hcx, hvx⟩ := hx.get h1
      obtain ⟨cy, hcy, hvy⟩ := hy.get h2
      simp only [Array.getElem?_toList] at hcx hcy
      simp only [Option.bind_eq_some_iff] at hb
      obtain ⟨b1, hb1, hb2⟩ := hb
      have p1 : (part e xs (i * 1)).run P w = .ok cx w := by simp [part, isAgg_scal he, hcx]
      have p2 : (part e ys (i * 1)).run P w = .ok cy w := by simp [part, isAgg_scal he, hcy]
      simp only [Op.eqItems, Sem.run_bind, p1, p2, Result.andThen_ok, eq_scal he hvx hvy hb1]
      cases b1
      · simp only [cond_false] at hb2; cases hb2; rfl
      · simp only [cond_true] at hb2
        simpa using ih hb2
    · cases hb
section
variable {t : TypeId} (d : Nat) (w : World)
theorem eq_p1 {e : TypeId} (hu : P.underlying t = some (.pointer e)) (b : Option Addr) : (Op.equalIn (d + 1) t (.pointer none) (.pointer b)).run P w = .ok b.isNone w := by
  rw [Op.equalIn, Sem.run_bind, run_und hu]; rfl
theorem eq_p2 {e : TypeId} (hu : P.underlying t = some (.pointer e)) (a : Addr) : (Op.equalIn (d + 1) t (.pointer (some a)) (.pointer none)).run P w = .ok false w := by
  rw [Op.equalIn, Sem.run_bind, run_und hu]; rfl
theorem eq_s1 {e : TypeId} (hu : P.underlying t = some (.slice e)) (b : Option Addr) (n c n' c' : Nat) : (Op.equalIn (d + 1) t (.slice none n c) (.slice b n' c')).run P w = .ok b.isNone w := by
  rw [Op.equalIn, Sem.run_bind, run_und hu]; rfl
theorem eq_s2 {e : TypeId} (hu : P.underlying t = some (.slice e)) (a : Addr) (n c n' c' : Nat) : (Op.equalIn (d + 1) t (.slice (some a) n c) (.slice none n' c')).run P w = .ok false w := by
  rw [Op.equalIn, Sem.run_bind, run_und hu]; rfl
theorem eq_f1 {p r : Array TypeId} {v : Bool} (hu : P.underlying t = some (.func p r v)) : (Op.equalIn (d + 1) t .nilFunc .nilFunc).run P w = .ok true w := by
  rw [Op.equalIn, Sem.run_bind, run_und hu]; rfl
theorem eq_f2 {p r : Array TypeId} {v : Bool} (hu : P.underlying t = some (.func p r v)) (f : Fn) (x y : Array Value) : (Op.equalIn (d + 1) t .nilFunc (.func f x y)).run P w = .ok false w := by
  rw [Op.equalIn, Sem.run_bind, run_und hu]; rfl
theorem eq_f3 {p r : Array TypeId} {v : Bool} (hu : P.underlying t = some (.func p r v)) (f : Fn) (x y : Array Value) : (Op.equalIn (d + 1) t (.func f x y) .nilFunc).run P w = .ok false w := by
  rw [Op.equalIn, Sem.run_bind, run_und hu]; rfl
theorem eq_i1 {m : Array (String × TypeId)} (hu : P.underlying t = some (.interface m)) : (Op.equalIn (d + 1) t .nilIface .nilIface).run P w = .ok true w := by
  rw [Op.equalIn, Sem.run_bind, run_und hu]; rfl
theorem eq_i2 {m : Array (String × TypeId)} (hu : P.underlying t = some (.interface m)) (u : TypeId) (v : Value) : (Op.equalIn (d + 1) t .nilIface (.iface u v)).run P w = .ok false w := by
  rw [Op.equalIn, Sem.run_bind, run_und hu]; rfl
theorem eq_i3 {m : Array (String × TypeId)} (hu : P.underlying t = some (.interface m)) (u : TypeId) (v : Value) : (Op.equalIn (d + 1) t (.iface u v) .nilIface).run P w = .ok false w := by
  rw [Op.equalIn, Sem.run_bind, run_und hu]; rfl
end
theorem eq_sound {t : TypeId} {et : ET} (he : etOf P t = some et) {x y : AV} {cx cy : Value} (hx : VR ρ x cx) (hy : VR ρ y cy) {lit b : Bool} (h : aEq et lit x y = some b) (w : World) :
    (Op.equal t cx cy).run P w = .ok b w := by
  unfold Op.equal
  obtain ⟨dd, hdd⟩ : ∃ dd, Op.maxDepth = dd + 1 + 1 := ⟨9998, rfl⟩
  rw [hdd]
  clear hdd
  unfold etOf at he
  split at he
  · rename_i hu; cases he
    simp only [aEq] at h
    cases hx <;> try cases h
    · cases hy <;> try cases h
      · exact eq_p1 _ _ hu _
      · exact eq_p1 _ _ hu _
    · cases hy <;> try cases h
      exact eq_p2 _ _ hu _
  · rename_i hu; cases he
    simp only [aEq] at h
    cases hx <;> try cases h
    · cases hy <;> try cases h
      · exact eq_s1 _ _ hu _ _ _ _ _
      · exact eq_s1 _ _ hu _ _ _ _ _
    · cases hy <;> try cases h
      exact eq_s2 _ _ hu _ _ _ _ _
  · rename_i hu; cases he
    simp only [aEq] at h
    cases hx <;> try cases h
    · cases hy <;> try cases h
      exact eq_f3 _ _ hu _ _ _
    · cases hy <;> try cases h
      · exact eq_f2 _ _ hu _ _ _
      · exact eq_f1 _ _ hu
  · rename_i hu; cases he
    simp only [aEq] at h
    cases hx <;> try cases h
    · cases hy <;> try cases h
      exact eq_i3 _ _ hu _ _
    · cases hy <;> try cases h
      · exact eq_i2 _ _ hu _ _
      · replace h : (if lit = true then some true else none) = some b := h
        cases lit
        · simp at h
        · simp at h; subst h; exact eq_i1 _ _ hu
  · rename_i fs hu
    split at he
    · rename_i hc
      simp only [Option.map_eq_some_iff] at he
      obtain ⟨es, hes, rfl⟩ := he
      simp only [aEq] at h
      cases hx <;> try cases h
      cases hy <;> try cases h
      rename_i hx' _ _ _ hy' _
      have hf : P.fieldsOf t = fs := by simp [Program.fieldsOf, hu]
      rw [run_equalIn_struct w (dd + 1) t _ _ (by rw [hf]; exact hu) hc.1, hf]
      exact eq_fields hx' hy' w fs.toList es hes h
    · cases he
  · rename_i n e hu
    split at he
    · rename_i hc
      simp only [Option.map_eq_some_iff] at he
      obtain ⟨k, hk, rfl⟩ := he
      simp only [aEq] at h
      cases hx <;> try cases h
      cases hy <;> try cases h
      rename_i hx' _ _ _ hy' _
      obtain ⟨i, hi, hsz⟩ := sz_inv hc.1
      rw [run_equalIn_array w (dd + 1) _ _ hu hi]
      have hcell : P.cellsOf e = 1 := by simp [Program.cellsOf, hi, hsz]
      rw [hcell]
      exact eq_items hk hx' hy' w (List.range n) h
    · cases he
  · have h' : eqScal et x y = some b := by
      unfold scalT at he
      split at he <;> first | (cases he; exact h) | cases he
    exact eq_scal he hx hy h' w
end
section
variable {P : Program} {B : Nat} {w0 : Base} {w : World} {ρ : Rho} {S S' : St}
def isConst : Operand → Bool
  | .const _ => true
  | _ => false
theorem guard_ok (op : BinOp) (t : TypeId) (ox oy : Operand) (a b : Value) (w : World) (h1 : a = .nilIface → b = .nilIface → (isConst ox || isConst oy) = true) (h2 : ∀ p q, a = .agg p → b = .agg q → (op = .eql ∨ op = .neq) → P.eqGuardType P.depth t = false) :
    (eqGuard op t ox oy a b).run P w = .ok () w := by
  unfold eqGuard
  cases op <;> first
    | (simp; done)
    | (simp only [Bool.not_true, Bool.false_eq_true, if_false, pure_bind, bind_pure_comp]
       cases a <;> cases b <;> first
        | rfl
        | (rename_i p q; simp [h2 p q rfl rfl (by simp)]; done)
        | (have h := h1 rfl rfl
           cases ox <;> cases oy <;> simp [isConst] at h <;> rfl))
theorem bin_eq_run {x y : AV} {cx cy : Value} (hx : VR ρ x cx) (hy : VR ρ y cy) {et : ET} {lit b : Bool} (t : TypeId) (h : aEq et lit x y = some b) (hnum : ∀ k n k' n', ¬ (x = .int k n ∧ y = .int k' n')) (hstr : ∀ p q, ¬ (x = .str p ∧ y = .str q)) :
    binOp .eql t cx cy = (do pure (.bool (← Op.equal t cx cy))) ∧ binOp .neq t cx cy = (do pure (.bool (!(← Op.equal t cx cy)))) := by
  cases hx <;> cases hy <;> first
    | exact ⟨rfl, rfl⟩
    | exact absurd ⟨rfl, rfl⟩ (hnum _ _ _ _)
    | exact absurd ⟨rfl, rfl⟩ (hstr _ _)
    | (exfalso; cases et <;> simp [aEq, eqScal] at h; done)
theorem bin_sound {op : BinOp} {et : ET} {lit : Bool} {x y r : AV} {cx cy : Value} {ox oy : Operand} {t : TypeId} (hx : VR ρ x cx) (hy : VR ρ y cy) (he : op = .eql ∨ op = .neq → etOf P t = some et)
    (hl : lit = true → cx = .nilIface → cy = .nilIface → (isConst ox || isConst oy) = true) (h : aBin op et lit x y = some r) (w : World) :
    ∃ c, ((do eqGuard op t ox oy cx cy; binOp op t cx cy) : Sem Value).run P w = .ok c w ∧ VR ρ r c := by
  by_cases hnum : ∃ k n k' n', x = .int k n ∧ y = .int k' n'
  · obtain ⟨k, n, k', n', rfl, rfl⟩ := hnum
    cases hx; cases hy
    rename_i hw hw'
    have hg := guard_ok (P := P) op t ox oy (.int k n) (.int k' n') w (fun e => by cases e) (fun p q e => by cases e)
    simp only [aBin] at h
    by_cases h1 : op = .shl
    · subst h1
      simp only at h
      split at h
      · cases h
      · rename_i hb
        cases h
        refine ⟨.int k (k.wrap (n * 2 ^ min n'.toNat k.bits)), ?_, .int (wf_wrap _ _)⟩
        simp only [Sem.run_bind, hg, Result.andThen_ok, binOp, Op.shift, if_neg hb]
        rfl
    · by_cases h2 : op = .shr
      · subst h2
        simp only at h
        split at h
        · cases h
        · rename_i hb
          cases h
          refine ⟨.int k (n / 2 ^ min n'.toNat k.bits), ?_, .int (wf_shr _ hw)⟩
          simp only [Sem.run_bind, hg, Result.andThen_ok, binOp, Op.shift, if_neg hb]
          rw [Int.fdiv_eq_ediv_of_nonneg _ (Int.pow_nonneg (by decide))]
          rfl
      · have h' : (if k = k' then aInt op k n n' else none) = some r := by
          cases op <;> first | exact h | exact absurd rfl h1 | exact absurd rfl h2
        split at h'
        · rename_i hk
          subst hk
          obtain ⟨c, hc, hv⟩ := bin_int (P := P) (w := w) (ρ := ρ) hw t h1 h2 h'
          exact ⟨c, by simp only [Sem.run_bind, hg, Result.andThen_ok, hc], hv⟩
        · cases h'
  · by_cases hstr : ∃ p q, x = .str p ∧ y = .str q
    · obtain ⟨p, q, rfl, rfl⟩ := hstr
      cases hx; cases hy
      rename_i s hs s' hs'
      subst hs hs'
      have hg := guard_ok (P := P) op t ox oy (.string s) (.string s') w (fun e => by cases e) (fun p q e => by cases e)
      obtain ⟨c, hc, hv⟩ := bin_str (P := P) (w := w) (ρ := ρ) t (show aStr op (bytesN s) (bytesN s') = some r from h)
      exact ⟨c, by simp only [Sem.run_bind, hg, Result.andThen_ok, hc], hv⟩
    · have hn1 : ∀ k n k' n', ¬ (x = .int k n ∧ y = .int k' n') := fun k n k' n' e => hnum ⟨k, n, k', n', e⟩
      have hn2 : ∀ p q, ¬ (x = .str p ∧ y = .str q) := fun p q e => hstr ⟨p, q, e⟩
      have h' : aBinE op et lit x y = some r := by
        unfold aBin at h
        split at h
        · exact absurd ⟨rfl, rfl⟩ (hn1 _ _ _ _)
        · exact absurd ⟨rfl, rfl⟩ (hn2 _ _)
        · exact h
      have key : ∀ b, aEq et lit x y = some b → (op = .eql ∨ op = .neq) → (eqGuard op t ox oy cx cy).run P w = .ok () w := by
        intro b hb ho
        refine guard_ok op t ox oy cx cy w (fun e1 e2 => hl ?_ e1 e2) (fun p q e1 e2 _ => ?_)
        · subst e1 e2
          cases hx; cases hy
          cases lit
          · cases et <;> simp [aEq, eqScal] at hb
          · rfl
        · subst e1 e2
          have := he ho
          cases hx; cases hy
          unfold etOf at this
          split at this <;> try (cases this; simp [aEq, eqScal] at hb; done)
          · split at this
            · rename_i hc; exact hc.2
            · cases this
          · split at this
            · rename_i hc; exact hc.2
            · cases this
          · unfold scalT at this
            split at this <;> first | (cases this; simp [aEq, eqScal] at hb; done) | cases this
      by_cases h1 : op = .eql
      · subst h1
        simp only [aBinE, Option.map_eq_some_iff] at h'
        obtain ⟨b, hb, rfl⟩ := h'
        refine ⟨.bool b, ?_, .bool⟩
        simp only [Sem.run_bind, key b hb (.inl rfl), Result.andThen_ok, (bin_eq_run hx hy t hb hn1 hn2).1, eq_sound (he (.inl rfl)) hx hy hb, Sem.run_pure]
      · by_cases h2 : op = .neq
        · subst h2
          simp only [aBinE, Option.map_eq_some_iff] at h'
          obtain ⟨b, hb, rfl⟩ := h'
          refine ⟨.bool (!b), ?_, .bool⟩
          simp only [Sem.run_bind, key b hb (.inr rfl), Result.andThen_ok, (bin_eq_run hx hy t hb hn1 hn2).2, eq_sound (he (.inr rfl)) hx hy hb, Sem.run_pure]
        · exfalso
          cases op <;> first | cases h' | exact h1 rfl | exact h2 rfl
theorem un_sound {op : UnOp} {x r : AV} {cx : Value} (hx : VR ρ x cx) (h : aUn op x = some r) (w : World) : ∃ c, (Op.unary op cx).run P w = .ok c w ∧ VR ρ r c := by
  cases hx <;> cases op <;> simp only [aUn] at h <;> try cases h
  · exact ⟨_, rfl, .int (wf_wrap _ _)⟩
  · exact ⟨_, rfl, .int (wf_wrap _ _)⟩
  · exact ⟨_, rfl, .bool⟩

/-! ### Texts of bytes and runes -/
theorem str_bytes : ∀ (l : List AV) (cs : List Value) (s : List Nat), VRs ρ l cs → strOf l = some s → ∀ (acc : ByteArray),
    ∃ b : ByteArray, bytesN b = bytesN acc ++ s ∧ ∀ (f : Value → ByteArray → Sem (ForInStep ByteArray)), (∀ n r, f (.int .u8 n) r = pure (ForInStep.yield (r.push (UInt8.ofNat n.toNat)))) → ∀ w, (forIn cs acc f).run P w = .ok b w := by
  intro l
  induction l with
  | nil => intro cs s h hs acc; cases h; cases hs; exact ⟨acc, by simp, fun f hf w => rfl⟩
  | cons a l ih =>
    intro cs s h hs acc
    cases h with
    | cons hv ht =>
      simp only [strOf, Option.bind_eq_some_iff, Option.map_eq_some_iff] at hs
      obtain ⟨b, hb, s', hs', rfl⟩ := hs
      cases hv <;> simp only [byteOf] at hb <;> try cases hb
      rename_i k n hw
      cases k <;> simp only [byteOf] at hb <;> try cases hb
      obtain ⟨r, hr, hrun⟩ := ih _ _ ht hs' (acc.push (UInt8.ofNat n.toNat))
      refine ⟨r, ?_, fun f hf w => ?_⟩
      · rw [hr]
        simp [bytesN, UInt8.toNat_ofNat]
      · simp only [List.forIn_cons, Sem.run_bind, hf, Sem.run_pure, Result.andThen_ok, hrun f hf]
theorem str_runes : ∀ (l : List AV) (cs : List Value) (s : List Nat), VRs ρ l cs → strOfR l = some s → ∀ (acc : ByteArray),
    ∃ b : ByteArray, bytesN b = bytesN acc ++ s ∧ ∀ (f : Value → ByteArray → Sem (ForInStep ByteArray)), (∀ n r, f (.int .i32 n) r = pure (ForInStep.yield (r ++ Utf8.encode n))) → ∀ w, (forIn cs acc f).run P w = .ok b w := by
  intro l
  induction l with
  | nil => intro cs s h hs acc; cases h; cases hs; exact ⟨acc, by simp, fun f hf w => rfl⟩
  | cons a l ih =>
    intro cs s h hs acc
    cases h with
    | cons hv ht =>
      simp only [strOfR, Option.bind_eq_some_iff, Option.map_eq_some_iff] at hs
      obtain ⟨b, hb, s', hs', rfl⟩ := hs
      cases hv <;> simp only [runeOf] at hb <;> try cases hb
      rename_i k n hw
      cases k <;> simp only [runeOf] at hb <;> try cases hb
      obtain ⟨r, hr, hrun⟩ := ih _ _ ht hs' (acc ++ Utf8.encode b)
      refine ⟨r, ?_, fun f hf w => ?_⟩
      · rw [hr, bytesN_append, List.append_assoc]; rfl
      · simp only [List.forIn_cons, Sem.run_bind, hf, Sem.run_pure, Result.andThen_ok, hrun f hf]
end
section
variable {P : Program} {B : Nat} {w0 : Base} {w : World} {ρ : Rho} {S S' : St}
/-- The cells of a slice. -/
theorem slice_cells (h : Sim B w0 ρ S w) {o v i len esz cap : Nat} {clip : Option Nat} {a : Addr} (hv : VR ρ (.slice (some (o, v, i)) len esz clip) (.slice (some a) len cap)) {m : Nat} (hm : m ≤ len) {l : List AV}
    (hr : S.rd o v i (m * esz) = some l) : ∃ vs : List Value, vs.length = m * esz ∧ VRs ρ l vs ∧ l.all AV.atom = true ∧ (loadCells a (m * esz)).run P w = .ok vs.toArray w := by
  cases hv with
  | slice hL h0 h1 h2 h3 h4 ha =>
    rcases ha with rfl | rfl
    · have : m = 0 := by omega
      subst this
      have hl := rd_length hr
      simp only [Nat.zero_mul] at hl
      have : l = [] := List.length_eq_zero_iff.1 hl
      subst this
      exact ⟨[], by simp, .nil, rfl, by simp [loadCells, loadCellsFrom]⟩
    · have : m * esz ≤ len * esz := Nat.mul_le_mul_right _ hm
      exact rd_run h hr hL h0 (by omega)
theorem forIn_arr {β : Type} (cs : Array Value) (b : β) (f : Value → β → Sem (ForInStep β)) : forIn cs b f = forIn cs.toList b f := (Array.forIn_toList).symm
theorem sl1_cells (h : Sim B w0 ρ S w) {o v i len cap : Nat} {clip : Option Nat} {a : Addr} (hv : VR ρ (.slice (some (o, v, i)) len 1 clip) (.slice (some a) len cap)) {l : List AV}
    (hr : S.rd o v i len = some l) : ∃ vs : List Value, VRs ρ l vs ∧ (loadCells a len).run P w = .ok vs.toArray w := by
  obtain ⟨vs, _, h2, _, h4⟩ := slice_cells (P := P) h hv (Nat.le_refl len) (by simpa using hr)
  exact ⟨vs, h2, by simpa using h4⟩
theorem conv_bytes (h : Sim B w0 ρ S w) {x r : AV} {cx : Value} (hv : VR ρ x cx) (hx : aConv .bytesStr x S = some (r, S')) : S' = S ∧ ∃ c, (Conv.bytesToString cx).run P w = .ok c w ∧ VR ρ r c := by
  cases hv with
  | sliceNil => cases hx; exact ⟨rfl, _, rfl, .str rfl⟩
  | @slice o v i len esz cap clip L a hL h0 h1 h2 h3 h4 ha =>
    by_cases he : esz = 1
    · subst he
      simp only [aConv, Option.bind_eq_some_iff, Option.map_eq_some_iff] at hx
      obtain ⟨l, hr, s', hs', hxe⟩ := hx
      simp only [Prod.mk.injEq] at hxe
      obtain ⟨rfl, rfl⟩ := hxe
      obtain ⟨vs, hvs, hrun⟩ := sl1_cells (P := P) h (.slice hL h0 h1 h2 h3 h4 ha) hr
      obtain ⟨b, hb, hbr⟩ := str_bytes (P := P) l vs _ hvs hs' ByteArray.empty
      refine ⟨rfl, .string b, ?_, .str (by simpa [bytesN] using hb)⟩
      simp only [Conv.bytesToString, Sem.run_bind, hrun, Result.andThen_ok, forIn_arr]
      rw [hbr _ (fun _ _ => rfl)]
      rfl
    · exfalso
      unfold aConv at hx
      split at hx <;> simp_all
  | _ => simp [aConv] at hx
theorem conv_runes (h : Sim B w0 ρ S w) {x r : AV} {cx : Value} (hv : VR ρ x cx) (hx : aConv .runesStr x S = some (r, S')) : S' = S ∧ ∃ c, (Conv.runesToString cx).run P w = .ok c w ∧ VR ρ r c := by
  cases hv with
  | sliceNil => cases hx; exact ⟨rfl, _, rfl, .str rfl⟩
  | @slice o v i len esz cap clip L a hL h0 h1 h2 h3 h4 ha =>
    by_cases he : esz = 1
    · subst he
      simp only [aConv, Option.bind_eq_some_iff, Option.map_eq_some_iff] at hx
      obtain ⟨l, hr, s', hs', hxe⟩ := hx
      simp only [Prod.mk.injEq] at hxe
      obtain ⟨rfl, rfl⟩ := hxe
      obtain ⟨vs, hvs, hrun⟩ := sl1_cells (P := P) h (.slice hL h0 h1 h2 h3 h4 ha) hr
      obtain ⟨b, hb, hbr⟩ := str_runes (P := P) l vs _ hvs hs' ByteArray.empty
      refine ⟨rfl, .string b, ?_, .str (by simpa [bytesN] using hb)⟩
      simp only [Conv.runesToString, Sem.run_bind, hrun, Result.andThen_ok, forIn_arr]
      rw [hbr _ (fun _ _ => rfl)]
      rfl
    · exfalso
      unfold aConv at hx
      split at hx <;> simp_all
  | _ => simp [aConv] at hx
/-- A text's bytes in a new block. -/
theorem out_strBytes (h : Sim B w0 ρ S w) (b : ByteArray) (e : TypeId) :
    Out B w0 ρ (newSl S ((bytesN b).map fun b : Nat => .int .u8 (b : Int)) (bytesN b).length 1).2 (newSl S ((bytesN b).map fun b : Nat => .int .u8 (b : Int)) (bytesN b).length 1).1
      ((do pure (Next.value (← Conv.stringToBytes e b)) : Sem Next).run P w) := by
  obtain ⟨cap, hcap, hle⟩ : ∃ cap, (Question.appendCap b.size 0 e).cut (w.tape w.drawn (.appendCap b.size 0 e)) = cap ∧ b.size ≤ cap := ⟨_, rfl, by simp [Question.cut]⟩
  have hforced : (Question.appendCap b.size 0 e).forced = false := rfl
  have hbl := bytesN_length b
  let cs : Array Value := (b.data.map fun x => Value.int .u8 x.toNat) ++ Array.replicate (cap - b.size) (.int .u8 0)
  have hcs : cs.size = cap := by
    have : b.data.size = b.size := rfl
    simp [cs]; omega
  refine out_newSlR (cs := cs) h e (cap, cap + 1) _ 1 cap (by simp) (by omega) (by omega) ?_ (by simp [AV.atom]) (.inr (by simp [hcs])) (d := w.drawn + 1) ?_
  · refine VRs.of_get (by simp; omega) ?_
    intro i a v h1 h2
    have hi : i < b.size := by have := (List.getElem?_eq_some_iff.1 h1).1; simp at this; omega
    rw [List.getElem?_take_of_lt (by simp; omega)] at h2
    have hd : i < b.data.size := hi
    simp only [bytesN, List.map_map, List.getElem?_map, Array.getElem?_toList, Array.getElem?_eq_getElem hd, Option.map_some, Option.some.injEq] at h1
    subst h1
    simp only [cs, Array.getElem?_toList] at h2
    rw [Array.getElem?_append_left (by simpa using hd)] at h2
    simp only [Array.getElem?_map, Array.getElem?_eq_getElem hd, Option.map_some, Option.some.injEq] at h2
    subst h2
    refine .int ?_
    rw [wf_bounds]
    have := b.data[i].toNat_lt
    simp [IntKind.min, IntKind.max, IntKind.signed, IntKind.bits]
    omega
  · simp only [Conv.stringToBytes, Sem.run_bind, run_choose, hforced, hcap, Result.andThen_ok, newRow, run_newObj, Bool.false_eq_true, if_false, Sem.run_pure, markStringish, run_shape, World.shape?, Array.getElem?_push_size, run_freeze]
    simp only [Result.andThen_ok, Sem.run_pure, World.freeze, cs, hbl]
    congr 1
    simp only [World.mk.injEq, and_true, true_and, Nat.one_ne_zero, if_false]
    apply Array.ext_getElem?
    intro k
    rw [Array.getElem?_modify]
    have hs : ((b.data.map fun x => Value.int .u8 (x.toNat : Int)) ++ Array.replicate (cap - b.size) (Value.int .u8 0)).size = cap := hcs
    by_cases hk : w.heap.size = k
    · subst hk; simp [hs]
    · rw [if_neg hk, Array.getElem?_push, Array.getElem?_push]
      simp [Ne.symm hk]
end
theorem get_bang (d : Array UInt8) (i : Nat) : (ByteArray.mk d).get! i = (d.toList[i]?).getD default := by
  simp only [ByteArray.get!]
  by_cases h : i < d.size
  · rw [getElem!_pos d i h]; simp [h]
  · rw [getElem!_neg d i h]; simp [List.getElem?_eq_none (show d.toList.length ≤ i by simp; omega)]
theorem dec_eq (s : ByteArray) (i : Nat) (h : i < s.size) : Utf8.decode s i = decR ((bytesN s).drop i) := by
  obtain ⟨d⟩ := s
  have hd : (ByteArray.mk d).size = d.size := rfl
  have hl : ((((bytesN ⟨d⟩).drop i).take 4).map UInt8.ofNat) = (d.toList.drop i).take 4 := by
    simp only [bytesN, ← List.map_drop, ← List.map_take, List.map_map]
    conv => rhs; rw [← List.map_id ((d.toList.drop i).take 4)]
    refine List.map_congr_left fun x _ => ?_
    simp
  have hget : ∀ k, k < 4 → (ByteArray.mk ((d.toList.drop i).take 4).toArray).get! (0 + k) = (ByteArray.mk d).get! (i + k) := by
    intro k hk
    rw [get_bang, get_bang, Nat.zero_add, List.getElem?_take_of_lt hk, List.getElem?_drop]
  have hsz : ∀ k, k < 4 → ((0 + k < (ByteArray.mk ((d.toList.drop i).take 4).toArray).size) ↔ (i + k < (ByteArray.mk d).size)) := by
    intro k hk
    show (0 + k < ((d.toList.drop i).take 4).toArray.size) ↔ _
    simp [hd]; omega
  unfold decR
  rw [hl]
  unfold Utf8.decode
  simp only [hget 0 (by omega), hget 1 (by omega), hget 2 (by omega), hget 3 (by omega), hsz 1 (by omega), hsz 2 (by omega), hsz 3 (by omega)]
section
variable {P : Program} {B : Nat} {w0 : Base} {w : World} {ρ : Rho} {S S' : St}
theorem wf_rune {n : Nat} (h : n ≤ 2147483647) : (Lit.int .i32 (n : Int)).wf = true := by
  rw [wf_bounds]; simp [IntKind.min, IntKind.max, IntKind.signed, IntKind.bits]; omega
theorem dec_bound (s : ByteArray) (i : Nat) : (Utf8.decode s i).1 ≤ 2147483647 ∧ 1 ≤ (Utf8.decode s i).2 ∧ (Utf8.decode s i).2 ≤ 4 := by
  have hb : ∀ k, (s.get! k).toNat < 256 := fun k => UInt8.toNat_lt _
  have h0 := hb i
  have h1 := hb (i + 1)
  have h2 := hb (i + 2)
  have h3 := hb (i + 3)
  unfold Utf8.decode
  simp only [Nat.add_zero, Utf8.runeError]
  repeat' split
  all_goals (simp only; omega)
theorem decR_bound (l : List Nat) : (decR l).1 ≤ 2147483647 ∧ 1 ≤ (decR l).2 ∧ (decR l).2 ≤ 4 := dec_bound _ _
theorem runes_eq (s : ByteArray) : ∀ (f i : Nat) (acc : Array Value), s.size - i ≤ f → (∃ vs : List Value, (Conv.runesFrom s f i acc).toList = acc.toList ++ vs ∧ VRs ρ (runesOf f ((bytesN s).drop i)) vs) := by
  intro f
  induction f with
  | zero =>
    intro i acc h
    exact ⟨[], by simp [Conv.runesFrom], .nil⟩
  | succ f ih =>
    intro i acc h
    by_cases hi : i < s.size
    · have hne : (bytesN s).drop i ≠ [] := by
        intro k
        have := congrArg List.length k
        simp [bytesN_length] at this
        omega
      have hw := decR_bound ((bytesN s).drop i)
      have hd := dec_eq s i hi
      obtain ⟨vs, h1, h2⟩ := ih (i + (decR ((bytesN s).drop i)).2) (acc.push (.int .i32 (Int.ofNat (decR ((bytesN s).drop i)).1))) (by omega)
      refine ⟨.int .i32 (Int.ofNat (decR ((bytesN s).drop i)).1) :: vs, ?_, ?_⟩
      · simp only [Conv.runesFrom, if_pos hi, hd]
        rw [h1]; simp
      · have e : runesOf (f + 1) ((bytesN s).drop i) = .int .i32 (decR ((bytesN s).drop i)).1 :: runesOf f (((bytesN s).drop i).drop (decR ((bytesN s).drop i)).2) := by
          cases hc : (bytesN s).drop i with
          | nil => exact absurd hc hne
          | cons x l => rfl
        rw [e, List.drop_drop]
        exact .cons (.int (wf_rune hw.1)) h2
    · refine ⟨[], by simp [Conv.runesFrom, hi], ?_⟩
      rw [List.drop_eq_nil_of_le (by rw [bytesN_length]; omega)]
      exact .nil
theorem runes_atoms (f : Nat) (l : List Nat) : (runesOf f l).all AV.atom = true := by
  induction f generalizing l with
  | zero => rfl
  | succ f ih => cases l with
    | nil => rfl
    | cons x l => simp [runesOf, AV.atom, ih]
/-- A text's runes in a new block. -/
theorem out_strRunes (h : Sim B w0 ρ S w) (b : ByteArray) (e : TypeId) :
    Out B w0 ρ (newSl S (runesOf (bytesN b).length (bytesN b)) (runesOf (bytesN b).length (bytesN b)).length 1).2 (newSl S (runesOf (bytesN b).length (bytesN b)) (runesOf (bytesN b).length (bytesN b)).length 1).1
      ((do pure (Next.value (← Conv.stringToRunes e b)) : Sem Next).run P w) := by
  obtain ⟨vs, h1, h2⟩ := runes_eq (ρ := ρ) b b.size 0 #[] (by omega)
  rw [List.drop_zero] at h2
  have hl := h2.length
  rw [bytesN_length]
  have hel : (Conv.runesFrom b b.size 0 #[]).toList = vs := by simpa using h1
  have hes : (Conv.runesFrom b b.size 0 #[]).size = vs.length := by rw [← hel]; simp
  obtain ⟨cap, hcap, hle⟩ : ∃ cap, (Question.appendCap (Conv.runesFrom b b.size 0 #[]).size 0 e).cut (w.tape w.drawn (.appendCap (Conv.runesFrom b b.size 0 #[]).size 0 e)) = cap ∧ (Conv.runesFrom b b.size 0 #[]).size ≤ cap := ⟨_, rfl, by simp [Question.cut]⟩
  have hforced : (Question.appendCap (Conv.runesFrom b b.size 0 #[]).size 0 e).forced = false := rfl
  refine out_newSlR (cs := Conv.runesFrom b b.size 0 #[] ++ Array.replicate (cap - (Conv.runesFrom b b.size 0 #[]).size) (.int .i32 0)) h e (0, 0) _ 1 cap (by simp) (by omega) (by simp; omega) ?_ (runes_atoms _ _) (.inl rfl) (d := w.drawn + 1) ?_
  · rw [Array.toList_append, hel, ← hl, List.take_append_of_le_length (Nat.le_refl _), List.take_length]
    exact h2
  · simp only [Conv.stringToRunes, Sem.run_bind, run_choose, hforced, hcap, Result.andThen_ok, newRow, run_newObj, Bool.false_eq_true, if_false, Sem.run_pure]
    rw [← hl, hes]
end
theorem seg_fold (off : Nat) : ∀ (vs : List Value) (k : Nat) (A : Array Value), off + k + vs.length ≤ A.size →
    ((vs.zipIdx k).foldl (fun (cs : Array Value) (x : Value × Nat) => cs.setIfInBounds (off + x.2) x.1) A).toList = A.toList.take (off + k) ++ vs ++ A.toList.drop (off + k + vs.length) := by
  intro vs
  induction vs with
  | nil => intro k A h; simp
  | cons v vs ih =>
    intro k A h
    simp only [List.length_cons] at h
    simp only [List.zipIdx_cons, List.foldl_cons]
    rw [ih (k + 1) _ (by simp; omega)]
    simp only [Array.toList_setIfInBounds, List.length_cons]
    rw [List.drop_set_of_lt (by omega), show off + (k + 1) = off + k + 1 by omega, show off + k + 1 + vs.length = off + k + (vs.length + 1) by omega]
    have hl : off + k < (A.toList.set (off + k) v).length := by simp; omega
    rw [List.take_succ_eq_append_getElem hl, List.take_set_of_le (Nat.le_refl _)]
    simp
section
variable {P : Program} {B : Nat} {w0 : Base} {w : World} {ρ : Rho} {S S' : St}
inductive PR (ρ : Rho) (place : Nat → Option (Nat × Nat)) : List (Nat × Nat × AV) → List (Nat × Value) → Prop
  | nil : PR ρ place [] []
  | cons {off size i : Nat} {v : AV} {c : Value} {l : List (Nat × Nat × AV)} {r : List (Nat × Value)} (hp : place i = some (off, size)) (hv : VR ρ v c) (h : PR ρ place l r) : PR ρ place ((off, size, v) :: l) ((i, c) :: r)
theorem fill_sound (place : Nat → Option (Nat × Nat)) : ∀ {l : List (Nat × Nat × AV)} {r : List (Nat × Value)}, PR ρ place l r → ∀ {cells out : List AV} {cc : Array Value}, VRs ρ cells cc.toList → cells.all AV.atom = true →
    aFill cells l = some out → ∃ co, Instr.fill place cc r = some co ∧ VRs ρ out co.toList ∧ out.all AV.atom = true ∧ out.length = cells.length := by
  intro l r h
  induction h with
  | nil => intro cells out cc hv ha hf; cases hf; exact ⟨cc, rfl, hv, ha, rfl⟩
  | @cons off size i v c l r hp hv h ih =>
    intro cells out cc hc ha hf
    simp only [aFill] at hf
    split at hf
    · rename_i hcond
      obtain ⟨h1, h2, h3⟩ := hcond
      have hcl := hc.length
      have hvl := hv.cells.length
      simp only [Array.length_toList] at hcl hvl
      have hn : (decide (c.cells.size ≠ size) || decide (off + c.cells.size > cc.size)) = false := by simp; omega
      have hseg := seg_fold off c.cells.toList 0 cc (by simp; omega)
      have hfold : (c.cells.zipIdx.foldl (fun cs (x : Value × Nat) => cs.setIfInBounds (off + x.2) x.1) cc).toList = cc.toList.take off ++ c.cells.toList ++ cc.toList.drop (off + size) := by
        rw [← Array.foldl_toList]
        simp only [Array.toList_zipIdx]
        rw [hseg]
        simp only [Nat.add_zero, Array.length_toList]
        rw [show c.cells.size = size by omega]
      have hv' : VRs ρ (cells.take off ++ v.cells ++ cells.drop (off + size)) (c.cells.zipIdx.foldl (fun cs (x : Value × Nat) => cs.setIfInBounds (off + x.2) x.1) cc).toList := by
        rw [hfold]
        exact ((hc.take off).append hv.cells).append (hc.drop (off + size))
      have ha' : (cells.take off ++ v.cells ++ cells.drop (off + size)).all AV.atom = true := by
        have h4 := hv.cells_atoms h3
        simp only [List.all_append, Bool.and_eq_true]
        simp only [List.all_eq_true] at ha h4 ⊢
        exact ⟨⟨fun x hx => ha x (List.mem_of_mem_take hx), h4⟩, fun x hx => ha x (List.mem_of_mem_drop hx)⟩
      obtain ⟨co, g1, g2, g3, g4⟩ := ih hv' ha' hf
      refine ⟨co, ?_, g2, g3, ?_⟩
      · rw [Instr.fill]
        simp only [hp, hn, Bool.false_eq_true, if_false]
        exact g1
      · rw [g4]; simp; omega
    · cases hf
theorem parts_A {T : Tm} {a : Act} (hT : TR ρ T a.tmps) (n : Nat) : ∀ {l : List (Nat × Operand)} {ys : List (Nat × Nat × XO)}, cPartsA n l = some ys → ∀ {ps : List (Nat × Nat × AV)}, evParts T ys = some ps →
    PR ρ (fun i => some (i * n, n)) ps (l.map fun x => (x.1, a.eval x.2)) := by
  intro l
  induction l with
  | nil => intro ys h ps hp; cases h; cases hp; exact .nil
  | cons x l ih =>
    obtain ⟨i, x⟩ := x
    intro ys h ps hp
    simp only [cPartsA, Option.bind_eq_some_iff, Option.map_eq_some_iff] at h
    obtain ⟨y, hy, ys', hys, rfl⟩ := h
    simp only [evParts, Option.bind_eq_some_iff, Option.map_eq_some_iff] at hp
    obtain ⟨v, hv, ps', hps, rfl⟩ := hp
    exact .cons rfl (cX_sound hT hy hv) (ih hys hps)
theorem parts_S {T : Tm} {a : Act} (hT : TR ρ T a.tmps) (fs : Array Field) (g : Field → Nat × Nat) (hg : ∀ f n, szOf P f.type = some n → g f = (f.offset, n)) : ∀ {l : List (Nat × Operand)} {ys : List (Nat × Nat × XO)}, cPartsS P fs l = some ys → ∀ {ps : List (Nat × Nat × AV)}, evParts T ys = some ps →
    PR ρ ((fs.map g)[·]?) ps (l.map fun x => (x.1, a.eval x.2)) := by
  intro l
  induction l with
  | nil => intro ys h ps hp; cases h; cases hp; exact .nil
  | cons x l ih =>
    obtain ⟨i, x⟩ := x
    intro ys h ps hp
    simp only [cPartsS] at h
    split at h
    · cases h
    · rename_i f hf
      simp only [Option.bind_eq_some_iff, Option.map_eq_some_iff] at h
      obtain ⟨n, hn, y, hy, ys', hys, rfl⟩ := h
      simp only [evParts, Option.bind_eq_some_iff, Option.map_eq_some_iff] at hp
      obtain ⟨v, hv, ps', hps, rfl⟩ := hp
      exact .cons (by simp [hf, hg f n hn]) (cX_sound hT hy hv) (ih hys hps)
theorem run_mapM_list {α β : Type} (g : α → Sem β) (g' : α → β) : ∀ (l : List α), (∀ x ∈ l, ∀ w, (g x).run P w = .ok (g' x) w) → ∀ w, (l.mapM g).run P w = .ok (l.map g') w := by
  intro l
  induction l with
  | nil => intro _ w; simp
  | cons x l ih =>
    intro h w
    simp only [List.mapM_cons, Sem.run_bind, h x (by simp) w, Result.andThen_ok, ih (fun y hy => h y (by simp [hy])) w, Sem.run_pure, List.map_cons]
theorem run_mapM_arr {α β : Type} (g : α → Sem β) (g' : α → β) (A : Array α) (h : ∀ x ∈ A.toList, ∀ w, (g x).run P w = .ok (g' x) w) (w : World) : (A.mapM g).run P w = .ok (A.map g') w := by
  have e : A.mapM g = (fun l => l.toArray) <$> A.toList.mapM g := by rw [Array.mapM_eq_mapM_toList]
  rw [e, Sem.run_map, run_mapM_list g g' A.toList h w]
  simp only [Result.andThen_ok]
  congr 1
  apply Array.ext'
  simp
theorem map_parts (a : Act) (parts : Array (Nat × Operand)) : (parts.map fun (x : Nat × Operand) => match x with | (i, x) => (i, a.eval x)).toList = parts.toList.map fun x => (x.1, a.eval x.2) := by
  simp
theorem build_sound {T : Tm} {a : Act} (hT : TR ρ T a.tmps) (t : TypeId) (parts : Array (Nat × Operand)) {z : List AV} {ys : List (Nat × Nat × XO)} (hz : zeroOf P t = some z) (ha : z.all AV.atom = true)
    (hc : (∃ fs, P.underlying t = some (.struct fs) ∧ (fs.toList.all fun f => (szOf P f.type).isSome) = true ∧ cPartsS P fs parts.toList = some ys) ∨ (∃ m e n, P.underlying t = some (.array m e) ∧ szOf P e = some n ∧ cPartsA n parts.toList = some ys))
    {ps : List (Nat × Nat × AV)} (hps : evParts T ys = some ps) {cs : List AV} (hf : aFill z ps = some cs) (w : World) :
    ∃ co, (Instr.build t (parts.map fun (i, x) => (i, a.eval x))).run P w = .ok (.agg co) w ∧ VRs ρ cs co.toList ∧ cs.all AV.atom = true := by
  obtain ⟨i, zv, av, hi, hzv, hvr, rfl⟩ := zero_inv hz
  rcases hc with ⟨fs, hu, hall, hp⟩ | ⟨m, e, n, hu, hn, hp⟩
  · have hpr := parts_S (P := P) (ρ := ρ) hT fs (fun f => (f.offset, (szOf P f.type).getD 0)) (fun f n hn => by simp [hn]) hp hps
    obtain ⟨co, g1, g2, g3, _⟩ := fill_sound _ hpr (hvr ρ).cells ha hf
    refine ⟨co, ?_, g2, g3⟩
    have hm : ∀ w, (fs.mapM fun f => (do pure (f.offset, ← sizeOf f.type) : Sem (Nat × Nat))).run P w = .ok (fs.map fun f => (f.offset, (szOf P f.type).getD 0)) w := by
      intro w
      refine run_mapM_arr _ _ fs (fun f hf w => ?_) w
      have : (szOf P f.type).isSome = true := (List.all_eq_true.1 hall) f hf
      obtain ⟨n, hn⟩ := Option.isSome_iff_exists.1 this
      simp [run_size hn, hn]
    simp only [Instr.build, Sem.run_bind, run_zero hi hzv, Result.andThen_ok, run_und hu, hm, map_parts, g1, Sem.run_pure]
  · have hpr := parts_A (ρ := ρ) hT n hp hps
    obtain ⟨co, g1, g2, g3, _⟩ := fill_sound _ hpr (hvr ρ).cells ha hf
    refine ⟨co, ?_, g2, g3⟩
    simp only [Instr.build, Sem.run_bind, run_zero hi hzv, Result.andThen_ok, run_und hu, run_size hn, map_parts, g1, Sem.run_pure]
theorem rep_length (n : Nat) (z : List AV) : (rep n z).length = n * z.length := by
  induction n with
  | zero => simp [rep]
  | succ n ih => simp only [rep, List.replicate_succ, List.flatten_cons, List.length_append] at ih ⊢; rw [ih, Nat.succ_mul]; omega
theorem rep_atoms {n : Nat} {z : List AV} (h : z.all AV.atom = true) : (rep n z).all AV.atom = true := by
  induction n with
  | zero => rfl
  | succ n ih => simp only [rep, List.replicate_succ, List.flatten_cons, List.all_append, Bool.and_eq_true] at ih ⊢; exact ⟨h, ih⟩
theorem rep_get (n : Nat) (z : List AV) (hz : 0 < z.length) (i : Nat) (hi : i < n * z.length) : (rep n z)[i]? = z[i % z.length]? := by
  induction n generalizing i with
  | zero => omega
  | succ n ih =>
    simp only [rep, List.replicate_succ, List.flatten_cons]
    by_cases h : i < z.length
    · rw [List.getElem?_append_left h, Nat.mod_eq_of_lt h]
    · rw [List.getElem?_append_right (by omega)]
      have := ih (i - z.length) (by rw [Nat.succ_mul] at hi; omega)
      simp only [rep] at this
      rw [this, ← Nat.mod_eq_sub_mod (by omega)]
/-- A zero value's cells, over and over. -/
theorem zeros_VRs {z : List AV} {zc : Array Value} (hz : VRs ρ z zc.toList) (hpos : 0 < z.length) (n : Nat) : VRs ρ (rep n z) ((Array.range (n * z.length)).map fun i => zc[i % zc.size]!).toList := by
  have hl := hz.length
  simp only [Array.length_toList] at hl
  refine VRs.of_get (by simp [rep_length]) ?_
  intro i a v h1 h2
  have hi : i < n * z.length := by have := (List.getElem?_eq_some_iff.1 h1).1; rwa [rep_length] at this
  rw [rep_get n z hpos i hi] at h1
  obtain ⟨c, hc, hv⟩ := hz.get h1
  simp only [Array.getElem?_toList] at hc h2
  rw [Array.getElem?_map, Array.getElem?_range] at h2
  simp only [hi, if_true, Option.map_some, Option.some.injEq] at h2
  subst h2
  rw [hl]
  have hm : i % z.length < zc.size := by rw [hl]; exact Nat.mod_lt _ hpos
  rw [getElem!_pos zc _ hm]
  rw [Array.getElem?_eq_getElem hm] at hc
  cases hc
  exact hv
end
section
variable {P : Program} {B : Nat} {w0 : Base} {w : World} {ρ : Rho} {S S' : St}
def VRo (ρ : Rho) : Option AV → Option Value → Prop
  | none, none => True
  | some a, some v => VR ρ a v
  | _, _ => False
theorem bound_run {v : AV} {c : Value} (hv : VR ρ v c) {d y k : Nat} (h : bnd (some v) d y = some k) {y' : Nat} (hy : y ≤ y') (code : BoundsCode) (w : World) : (Instr.sliceBound c y' code).run P w = .ok k w ∧ k ≤ y := by
  cases hv <;> simp only [bnd] at h <;> try cases h
  split at h
  · rename_i hb
    cases h
    refine ⟨?_, by omega⟩
    simp only [Instr.sliceBound, asIntOf, Sem.run_bind, Sem.run_pure, Result.andThen_ok]
    rw [if_pos (by omega)]
    rfl
  · cases h
theorem cut_sound {x r : AV} {cx : Value} (hx : VR ρ x cx) {esz : Nat} {t e : TypeId} (ht : P.underlying t = some (.slice e)) (hs : szOf P e = some esz) {lo hi mx : Option AV} {clo chi cmx : Option Value}
    (hlo : VRo ρ lo clo) (hhi : VRo ρ hi chi) (hmx : VRo ρ mx cmx) (h : aCut esz x lo hi mx = some r) (w : World) : ∃ c, (Instr.sliceAt t cx clo chi cmx).run P w = .ok c w ∧ VR ρ r c := by
  have hat : (Instr.sliceAt t cx clo chi cmx).run P w = (Instr.slice t cx clo chi cmx).run P w := by
    simp only [Instr.sliceAt, Sem.run_bind, run_und ht, Result.andThen_ok]
  rw [hat]
  cases hx with
  | sliceNil =>
    simp only [aCut] at h
    split at h
    · cases h
    · rename_i hc
      simp only [Option.bind_eq_some_iff, Option.map_eq_some_iff] at h
      obtain ⟨m, h1, h', h2, l, h3, rfl⟩ := h
      refine ⟨.slice none 0 0, ?_, .sliceNil⟩
      simp only [Instr.slice, Sem.run_bind, run_und ht, Result.andThen_ok]
      have hb : (Instr.sliceBounds true 0 0 clo chi cmx).run P w = .ok (0, 0, 0) w := by
        unfold Instr.sliceBounds
        have z : ∀ {v : AV} {c : Value} {d : Nat} {k : Nat}, VR ρ v c → bnd (some v) d 0 = some k → ∀ code, (Instr.sliceBound c 0 code).run P w = .ok 0 w := by
          intro v c d k hv hk code
          obtain ⟨g1, g2⟩ := bound_run (P := P) hv hk (Nat.le_refl 0) code w
          have : k = 0 := by omega
          rw [this] at g1; exact g1
        cases mx <;> cases cmx <;> simp only [VRo] at hmx <;> cases hi <;> cases chi <;> simp only [VRo] at hhi <;> cases lo <;> cases clo <;> simp only [VRo] at hlo <;> try (simp at hc; done)
        · simp
        · simp [z hlo h3]
        · simp [z hhi h2]
        · simp [z hhi h2, z hlo h3]
        · simp [z hmx h1, z hhi h2]
        · simp [z hmx h1, z hhi h2, z hlo h3]
      simp only [hb, Result.andThen_ok, run_size hs, Sem.run_pure, if_true, Nat.sub_self]
  | @slice o v i len e' cap clip L a hL h0 h1 h2 h3 h4 ha =>
    simp only [aCut] at h
    cases he : Nat.beq e' esz with
    | false => rw [he] at h; cases h
    | true =>
      rw [he] at h
      simp only [cond_true] at h
      obtain rfl := Nat.eq_of_beq_eq_true he
      have key : ∀ (l hh m : Nat) (cl : Option Nat), (Instr.sliceBounds true len cap clo chi cmx).run P w = .ok (l, hh, m) w → l ≤ hh → hh ≤ len → hh ≤ m → m ≤ cap → (∀ c, cl = some c → m - l = c) →
          ∃ c, (Instr.slice t (.slice (some a) len cap) clo chi cmx).run P w = .ok c w ∧ VR ρ (.slice (some (o, v, i + l * e')) (hh - l) e' cl) c := by
        intro l hh m cl hb hl hh' hm hcap hcl
        have e1 : l * e' + (hh - l) * e' = hh * e' := by rw [← Nat.add_mul]; congr 1; omega
        have e2 : l * e' + (m - l) * e' = m * e' := by rw [← Nat.add_mul]; congr 1; omega
        have e3 : hh * e' ≤ len * e' := Nat.mul_le_mul_right _ hh'
        have e4 : m * e' ≤ cap * e' := Nat.mul_le_mul_right _ hcap
        refine ⟨.slice (some (if m = l then a else a.add (l * e'))) (hh - l) (m - l), ?_, .slice hL (by omega) (by omega) (by omega) (by omega) hcl ?_⟩
        · simp only [Instr.slice, Sem.run_bind, run_und ht, Result.andThen_ok, hb, run_size hs, Sem.run_pure, Option.map_some]
          split <;> rfl
        · by_cases hml : m = l
          · left; omega
          · right
            rw [if_neg hml]
            rcases ha with hz | rfl
            · omega
            · rw [add_at]
              congr 1
              unfold Loc.at
              omega
      cases mx with
      | none =>
        cases cmx with
        | some _ => simp [VRo] at hmx
        | none =>
          simp only [Option.bind_eq_some_iff, Option.map_eq_some_iff] at h
          obtain ⟨hh, k1, l, k2, rfl⟩ := h
          have hl : l ≤ hh := by
            cases lo with
            | none => simp [bnd] at k2; omega
            | some u => cases clo with
              | none => simp [VRo] at hlo
              | some c => exact (bound_run (P := P) hlo k2 (Nat.le_refl _) .sliceB w).2
          have hhl : hh ≤ len := by
            cases hi with
            | none => simp [bnd] at k1; omega
            | some u => cases chi with
              | none => simp [VRo] at hhi
              | some c => exact (bound_run (P := P) hhi k1 (Nat.le_refl _) .sliceB w).2
          refine key l hh cap (clip.map (· - l)) ?_ hl hhl (by omega) (Nat.le_refl _) ?_
          · unfold Instr.sliceBounds
            cases hi <;> cases chi <;> simp only [VRo] at hhi <;> cases lo <;> cases clo <;> simp only [VRo] at hlo
            · simp [bnd] at k1 k2; simp [k1, k2]
            · simp [bnd] at k1; simp [k1, (bound_run (P := P) hlo k2 (Nat.le_refl _) _ w).1]
            · simp [bnd] at k2; simp [← k2, (bound_run (P := P) hhi k1 h3 _ w).1]
            · simp [(bound_run (P := P) hhi k1 h3 _ w).1, (bound_run (P := P) hlo k2 (Nat.le_refl _) _ w).1]
          · intro c hc
            simp only [Option.map_eq_some_iff] at hc
            obtain ⟨c', hc', rfl⟩ := hc
            rw [h4 c' hc']
      | some u =>
        cases cmx with
        | none => simp [VRo] at hmx
        | some cu =>
          simp only [VRo] at hmx
          dsimp only at h
          split at h
          · rename_i his
            simp only [Option.bind_eq_some_iff, Option.map_eq_some_iff] at h
            obtain ⟨m, k0, hh, k1, l, k2, rfl⟩ := h
            cases hi with
            | none => simp at his
            | some uh =>
              cases chi with
              | none => simp [VRo] at hhi
              | some ch =>
                simp only [VRo] at hhi
                have b0 := bound_run (P := P) hmx k0 h3 .slice3Acap w
                have b1 := bound_run (P := P) hhi k1 (Nat.le_refl _) .slice3B w
                have hl : l ≤ hh := by
                  cases lo with
                  | none => simp [bnd] at k2; omega
                  | some u => cases clo with
                    | none => simp [VRo] at hlo
                    | some c => exact (bound_run (P := P) hlo k2 (Nat.le_refl _) .sliceB w).2
                refine key l hh m (some (m - l)) ?_ hl (by omega) b1.2 (by omega) (by simp)
                unfold Instr.sliceBounds
                cases lo <;> cases clo <;> simp only [VRo] at hlo
                · simp [bnd] at k2; simp [← k2, b0.1, b1.1]
                · simp [b0.1, b1.1, (bound_run (P := P) hlo k2 (Nat.le_refl _) _ w).1]
          · cases h
  | _ => simp [aCut] at h
theorem cutStr_sound {x r : AV} {cx : Value} (hx : VR ρ x cx) {t : TypeId} (ht : P.underlying t = some .string) {lo hi : Option AV} {clo chi : Option Value}
    (hlo : VRo ρ lo clo) (hhi : VRo ρ hi chi) (h : aCutStr x lo hi = some r) (w : World) : ∃ c, (Instr.sliceAt t cx clo chi none).run P w = .ok c w ∧ VR ρ r c := by
  have hat : (Instr.sliceAt t cx clo chi none).run P w = (Instr.slice t cx clo chi none).run P w := by
    simp only [Instr.sliceAt, Sem.run_bind, run_und ht, Result.andThen_ok]
  rw [hat]
  cases hx with
  | @str l s hs =>
    subst hs
    simp only [aCutStr, Option.bind_eq_some_iff, Option.map_eq_some_iff] at h
    obtain ⟨hh, k1, l, k2, rfl⟩ := h
    have hsz := bytesN_length s
    have hb : (Instr.sliceBounds false s.size s.size clo chi none).run P w = .ok (l, hh, s.size) w := by
      unfold Instr.sliceBounds
      rw [hsz] at k1
      cases hi <;> cases chi <;> simp only [VRo] at hhi <;> cases lo <;> cases clo <;> simp only [VRo] at hlo
      · simp [bnd] at k1 k2; simp [k1, k2]
      · simp [bnd] at k1; simp [k1, (bound_run (P := P) hlo k2 (Nat.le_refl _) _ w).1]
      · simp [bnd] at k2; simp [← k2, (bound_run (P := P) hhi k1 (Nat.le_refl _) _ w).1]
      · simp [(bound_run (P := P) hhi k1 (Nat.le_refl _) _ w).1, (bound_run (P := P) hlo k2 (Nat.le_refl _) _ w).1]
    refine ⟨.string (s.extract l hh), ?_, .str ?_⟩
    · simp [Instr.slice, run_und ht, hb]
    · unfold bytesN
      rw [ByteArray.data_extract]
      simp [List.map_drop, List.map_take, List.drop_take]
  | _ => simp [aCutStr] at h
theorem bnd_le {v : Option AV} {d y k : Nat} (h : bnd v d y = some k) (hd : d ≤ y) : k ≤ y := by
  unfold bnd at h
  split at h
  · cases h; exact hd
  · split at h
    · rename_i hb; cases h; omega
    · cases h
  · cases h
theorem rd_room (h : Sim B w0 ρ S w) {o v i n : Nat} {l : List AV} (hr : S.rd o v i n = some l) {L : Loc} (hL : ρ o v = some L) : L.ext ≤ L.start + L.room := by
  obtain ⟨c, hc, rfl, hor⟩ := rd_inv hr
  rcases hor with ⟨ver, minv, own, hg, hm, hv⟩ | ⟨ver, minv, g, hg, hm, hv⟩
  · have hc' : CellsAt B ρ w o c ver minv own := h.obj o _ hg
    exact (hc'.mem v L hL hm).2.1
  · have hc' : ForkAt B ρ w o c ver minv g := h.obj o _ hg
    exact (hc'.mem v L hL hm).1
theorem cutArr_sound (h : Sim B w0 ρ S w) {p : Pl} {cx : Value} (hx : VR ρ (.ptr (some p)) cx) {n esz : Nat} {t e : TypeId} (ht : P.underlying t = some (.array n e)) (hs : szOf P e = some esz) (hle : n * esz ≤ p.n) {l0 : List AV} (hr : S.rd p.o p.v p.i (n * esz) = some l0)
    {lo hi : Option AV} {clo chi : Option Value} (hlo : VRo ρ lo clo) (hhi : VRo ρ hi chi) {hh l : Nat} (k1 : bnd hi n n = some hh) (k2 : bnd lo 0 hh = some l) :
    ∃ c, (Instr.sliceAt t cx clo chi none).run P w = .ok c w ∧ VR ρ (.slice (some (p.o, p.v, p.i + l * esz)) (hh - l) esz (some (n - l))) c := by
  have b1 := bnd_le k1 (Nat.le_refl _)
  have b2 := bnd_le k2 (Nat.zero_le _)
  have m1 : hh * esz ≤ n * esz := Nat.mul_le_mul_right _ b1
  have m2 : l * esz ≤ hh * esz := Nat.mul_le_mul_right _ b2
  have m3 : (hh - l) * esz = hh * esz - l * esz := Nat.sub_mul ..
  have m4 : (n - l) * esz = n * esz - l * esz := Nat.sub_mul ..
  cases hx with
  | @ptr _ L _ hL h0 h1 ha =>
    subst ha
    have hroom := rd_room h hr hL
    have hb : (Instr.sliceBounds false n n clo chi none).run P w = .ok (l, hh, n) w := by
      unfold Instr.sliceBounds
      cases hi <;> cases chi <;> simp only [VRo] at hhi <;> cases lo <;> cases clo <;> simp only [VRo] at hlo
      · simp [bnd] at k1 k2; simp [k1, k2]
      · simp [bnd] at k1; simp [k1, (bound_run (P := P) hlo k2 (Nat.le_refl _) _ w).1]
      · simp [bnd] at k2; simp [← k2, (bound_run (P := P) hhi k1 (Nat.le_refl _) _ w).1]
      · simp [(bound_run (P := P) hhi k1 (Nat.le_refl _) _ w).1, (bound_run (P := P) hlo k2 (Nat.le_refl _) _ w).1]
    refine ⟨.slice (some (if n = l then ⟨L.blk, L.at p.i, none⟩ else (⟨L.blk, L.at p.i, none⟩ : Addr).add (l * esz))) (hh - l) (n - l), ?_, ?_⟩
    · simp only [Instr.sliceAt, Instr.sureAddr, Sem.run_bind, run_und ht, Result.andThen_ok, Sem.run_pure, hb, run_size hs]
    · refine .slice hL (by omega) (by omega) (by omega) (by omega) (fun c hc => by cases hc; rfl) ?_
      by_cases hn : n = l
      · exact .inl (by omega)
      · right
        rw [if_neg hn, add_at]
        congr 1
        unfold Loc.at; omega
end
section
variable {P : Program} {B : Nat} {w0 : Base} {w : World} {ρ : Rho} {S S' : St}
/-- What is appended: so many elements, their cells; which form of append it is. -/
structure Src (P : Program) (w : World) (e : TypeId) (esz : Nat) (u : TypeId) (x : Value) (n : Nat) (vs : List Value) : Prop where
  len : vs.length = n * esz
  und : ∃ d, P.underlying u = some d ∧
    ((∃ k, d = .int k ∧ ∃ m : Int, x = .int .i64 m ∧ 0 ≤ m ∧ m ≤ 9223372036854775807 ∧ n = m.toNat ∧ ∃ i zv, P.info? e = some i ∧ i.zero = some zv ∧ zv.cells.size = esz ∧ vs.toArray = Builtin.zeroCells zv.cells n) ∨
     ((∀ k, d ≠ .int k) ∧ (∀ w', (Builtin.lenOf x).run P w' = .ok n w') ∧ (Builtin.firstCells esz n x).run P w = .ok vs.toArray w))
theorem app_room {t u ty e : TypeId} {x : Value} {esz n : Nat} {vs : List Value} {i : TypeInfo} (ht : P.underlying t = some (.slice e)) (hi : P.info? e = some i) (hs : i.size = esz) (hz : i.zero.isSome = true)
    (hb : n * i.bytes ≤ 281474976710656) (src : Src P w e esz u x n vs) {base : Option Addr} {sLen sCap : Nat} (hroom : sLen + n ≤ sCap) {w' : World}
    (hst : ∀ a, base = some a → (storeCells (a.add (sLen * esz)) vs).run P w = .ok () w') (hno : base = none → w' = w) :
    (Builtin.append_ #[t, u] ty #[.slice base sLen sCap, x]).run P w = .ok (.slice base (sLen + n) sCap) w' := by
  obtain ⟨zv, hzv⟩ := Option.isSome_iff_exists.1 hz
  obtain ⟨d, hd, hcase⟩ := src.und
  have hsz : ∀ w, (sizeOf e).run P w = .ok esz w := fun w => by simp [sizeOf, typeInfo, hi, hs]
  rcases hcase with ⟨k, rfl, m, rfl, hm0, hm1, rfl, i', zv', hi', hz', hzs, hvs⟩ | ⟨hk, hlen, hfc⟩
  · rw [hi] at hi'; cases hi'
    rw [hzv] at hz'; cases hz'
    have hw : IntKind.i64.wrap m = m := by rw [IntKind.wrap_i64]; omega
    have hbig : ¬ (m * i.bytes > 2 ^ 48) := by
      have h48 : (2 : Int) ^ 48 = 281474976710656 := by decide
      have : ((m.toNat * i.bytes : Nat) : Int) ≤ 281474976710656 := by omega
      rw [Int.natCast_mul, Int.toNat_of_nonneg hm0] at this
      omega
    have hap : ((if m.toNat * esz = 0 then pure #[] else do pure (Builtin.zeroCells (← zeroValue e).cells m.toNat) : Sem (Array Value))).run P w = .ok vs.toArray w := by
      by_cases h0 : m.toNat * esz = 0
      · have : vs = [] := List.length_eq_zero_iff.1 (by rw [src.len, h0])
        subst this
        rw [if_pos h0]; rfl
      · rw [if_neg h0]
        simp [run_zero hi hzv, hvs]
    simp only [Builtin.append_, run_und ht, run_und hd, hsz, typeInfo, hi, Sem.run_bind, Result.andThen_ok, Sem.run_pure, List.getElem?_toArray, List.getElem?_cons_zero, List.getElem?_cons_succ, asInt, asIntOf, hw, run_program,
      if_true, if_neg (show ¬ m < 0 by omega), hbig, if_false]
    simp only [hroom, if_true, Sem.run_bind, Bool.not_true, Bool.false_eq_true, if_false, hap, Result.andThen_ok]
    cases base with
    | none => simp [hno rfl]
    | some a => simp [hst a rfl]
  · have hnz : (match d with | .int _ => true | _ => false) = false := by cases d <;> first | rfl | exact absurd rfl (hk _)
    simp only [Builtin.append_, run_und ht, run_und hd, hsz, typeInfo, hi, Sem.run_bind, Result.andThen_ok, Sem.run_pure, List.getElem?_toArray, List.getElem?_cons_zero, List.getElem?_cons_succ, hnz, Bool.false_eq_true, if_false, hlen, hroom, if_true, Bool.not_false, hfc]
    cases base with
    | none => simp [hno rfl]
    | some a => simp [hst a rfl]
theorem app_grow {t u ty e : TypeId} {x : Value} {esz n : Nat} {vs old : List Value} {i : TypeInfo} {zv : Value} (ht : P.underlying t = some (.slice e)) (hi : P.info? e = some i) (hs : i.size = esz) (hzv : i.zero = some zv) (hzs : zv.cells.size = esz)
    {base : Option Addr} {sLen sCap : Nat} (hroom : ¬ sLen + n ≤ sCap) (hb : ((sLen + n) + (sLen + n) / 4 + 256) * i.bytes ≤ 281474976710656) (hmax : 0 < i.bytes ∨ sLen + n ≤ 9223372036854775807) (src : Src P w e esz u x n vs)
    (hsrc : ∀ d, Src P { w with drawn := d } e esz u x n vs)
    (hold : ∀ d, (Builtin.firstCells esz sLen (.slice base sLen sCap)).run P { w with drawn := d } = .ok old.toArray { w with drawn := d }) (hol : old.length = sLen * esz) :
    ∃ newCap rest, sLen + n ≤ newCap ∧ rest.length = (newCap - (sLen + n)) * esz ∧ (Builtin.append_ #[t, u] ty #[.slice base sLen sCap, x]).run P w =
      .ok (.slice (some ⟨w.heap.size, 0, none⟩) (sLen + n) newCap) { w with heap := w.heap.push (.cells ((old ++ vs ++ rest).toArray) e), drawn := w.drawn + 1 } := by
  obtain ⟨d, hd, hcase⟩ := src.und
  obtain ⟨d', hd', hcase'⟩ := (hsrc (w.drawn + 1)).und
  rw [hd] at hd'; cases hd'
  have hsz : ∀ w, (sizeOf e).run P w = .ok esz w := fun w => by simp [sizeOf, typeInfo, hi, hs]
  obtain ⟨cap, hcap, hle⟩ : ∃ cap, (Question.appendCap (sLen + n) sCap e).cut (w.tape w.drawn (.appendCap (sLen + n) sCap e)) = cap ∧ sLen + n ≤ cap := ⟨_, rfl, by simp [Question.cut]⟩
  have hforced : (Question.appendCap (sLen + n) sCap e).forced = false := rfl
  have hnext : ¬ (Builtin.nextslicecap (sLen + n) sCap * i.bytes > 2 ^ 48) := by
    have h1 := nextslicecap_le_wide (show sCap < sLen + n by omega)
    have h2 : Builtin.nextslicecap (sLen + n) sCap * i.bytes ≤ ((sLen + n) + (sLen + n) / 4 + 256) * i.bytes := Nat.mul_le_mul_right _ (by omega)
    have h3 : (2 : Nat) ^ 48 = 281474976710656 := by decide
    omega
  have hrest : (Builtin.zeroCells zv.cells (cap - (sLen + n))).size = (cap - (sLen + n)) * esz := by simp [Builtin.zeroCells, hzs]
  have hov : ∀ (b : Bool), ¬ (((sLen + n : Nat) : Int) > IntKind.i64.max ∧ (b = true ∨ i.bytes = 0)) := by
    intro b hc
    have : IntKind.i64.max = 9223372036854775807 := by decide
    rcases hmax with h | h
    · have hbb : (sLen + n) * 1 ≤ ((sLen + n) + (sLen + n) / 4 + 256) * i.bytes := Nat.mul_le_mul (by omega) h
      omega
    · omega
  refine ⟨cap, (Builtin.zeroCells zv.cells (cap - (sLen + n))).toList, hle, by simp [hrest], ?_⟩
  have hfin : (old.toArray ++ vs.toArray ++ Builtin.zeroCells zv.cells (cap - (sLen + n))) = (old ++ vs ++ (Builtin.zeroCells zv.cells (cap - (sLen + n))).toList).toArray := by
    apply Array.ext'; simp
  rcases hcase with ⟨k, rfl, m, rfl, hm0, hm1, rfl, i', zv', hi', hz', hzs', hvs⟩ | ⟨hk, hlen, hfc⟩
  · rw [hi] at hi'; cases hi'
    rw [hzv] at hz'; cases hz'
    have hw : IntKind.i64.wrap m = m := by rw [IntKind.wrap_i64]; omega
    have hbig : ¬ (m * i.bytes > 2 ^ 48) := by
      have h48 : (2 : Int) ^ 48 = 281474976710656 := by decide
      have h1 : m.toNat * i.bytes ≤ ((sLen + m.toNat) + (sLen + m.toNat) / 4 + 256) * i.bytes := Nat.mul_le_mul_right _ (by omega)
      have : ((m.toNat * i.bytes : Nat) : Int) ≤ 281474976710656 := by have := Nat.le_trans h1 hb; omega
      rw [Int.natCast_mul, Int.toNat_of_nonneg hm0] at this
      omega
    have hap : ((if m.toNat * esz = 0 then pure #[] else do pure (Builtin.zeroCells (← zeroValue e).cells m.toNat) : Sem (Array Value))).run P { w with drawn := w.drawn + 1 } = .ok vs.toArray { w with drawn := w.drawn + 1 } := by
      by_cases h0 : m.toNat * esz = 0
      · have : vs = [] := List.length_eq_zero_iff.1 (by rw [src.len, h0])
        subst this
        rw [if_pos h0]; rfl
      · rw [if_neg h0]
        simp [run_zero hi hzv, hvs]
    have ho := hov true
    simp only [Builtin.append_, run_und ht, run_und hd, hsz, typeInfo, hi, Sem.run_bind, Result.andThen_ok, Sem.run_pure, List.getElem?_toArray, List.getElem?_cons_zero, List.getElem?_cons_succ, asInt, asIntOf, hw, run_program,
      if_true, if_neg (show ¬ m < 0 by omega), hbig, if_false]
    simp only [hroom, if_false, Sem.run_bind, Bool.not_true, Bool.false_eq_true, Result.andThen_ok, run_program, hi, Sem.run_pure]
    rw [if_neg (by simpa using ho)]
    simp only [Sem.run_bind, Sem.run_pure, Result.andThen_ok, run_program, hi, if_neg hnext, run_choose, hforced, Bool.false_eq_true, if_false, hcap, run_askRoom, hold, hap, run_zero hi hzv, newRow, run_newObj, hfin]
  · rcases hcase' with ⟨k, rfl, _⟩ | ⟨_, _, hfc'⟩
    · exact absurd rfl (hk k)
    have hnz : (match d with | .int _ => true | _ => false) = false := by cases d <;> first | rfl | exact absurd rfl (hk _)
    have ho := hov false
    simp only [Builtin.append_, run_und ht, run_und hd, hsz, typeInfo, hi, Sem.run_bind, Result.andThen_ok, Sem.run_pure, List.getElem?_toArray, List.getElem?_cons_zero, List.getElem?_cons_succ, hnz, Bool.false_eq_true, if_false, hlen, hroom, run_program, false_or]
    rw [if_neg (by simpa using ho)]
    simp only [Sem.run_bind, Sem.run_pure, Result.andThen_ok, run_program, hi, if_neg hnext, run_choose, hforced, Bool.false_eq_true, if_false, hcap, run_askRoom, hold, hfc', run_zero hi hzv, newRow, run_newObj, hfin, Bool.not_false, if_true]
end
section
variable {P : Program} {B : Nat} {w0 : Base} {w : World} {ρ : Rho} {S S' : St}
/-- An object's next version: where it lies, and the world behind. -/
theorem Sim.bump (h : Sim B w0 ρ S w) {o ver minv e : Nat} {c xs : List AV} (hg : S.get o = some (.cells c ver minv true)) (hm : minv ≤ ver) (he : e ≤ c.length) (hxa : xs.all AV.atom = true)
    {L N : Loc} (hL : ρ o ver = some L) {w' : World} (hb : Below B w0 w') (hsz : w.heap.size ≤ w'.heap.size) (hN : N.ext = e + xs.length) (hNr : N.ext ≤ N.start + N.room) (hNb : B ≤ N.blk) (hNw : N.blk < w'.heap.size)
    (hcase : (N.blk = L.blk ∧ N.boff = L.boff ∧ N.start = L.start) ∨ w.heap.size ≤ N.blk)
    (hk : ∀ b, b < w.heap.size → w'.heap[b]? = w.heap[b]? ∨ b = L.blk)
    (hlies : ∃ cs e' fz, w'.heap[N.blk]? = some (.cells cs e' fz) ∧ N.boff + N.room ≤ cs.size ∧ (∀ i, N.start ≤ i → i < N.ext → ∃ a v, (c.take e ++ xs)[i]? = some a ∧ cs[N.at i]? = some v ∧ VR ρ a v) ∧ Fz fz cs.size)
    (hold : e = c.length → w'.heap[L.blk]? = w.heap[L.blk]? ∨ ∃ cs cs' e' fz, w.heap[L.blk]? = some (.cells cs e' fz) ∧ w'.heap[L.blk]? = some (.cells cs' e' fz) ∧ cs'.size = cs.size ∧ ∀ i, L.start ≤ i → i < e → cs'[L.at i]? = cs[L.at i]?) :
    ∃ ρ', ρ.le ρ' ∧ ρ' o (ver + 1) = some N ∧ Sim B w0 ρ' (S.put o (.cells (c.take e ++ xs) (ver + 1) (if e = c.length then minv else ver + 1) true)) w' := by
  have hc : CellsAt B ρ w o c ver minv true := h.obj o _ hg
  have hnone : ρ o (ver + 1) = none := by
    cases hq : ρ o (ver + 1) with
    | none => rfl
    | some M => have := hc.vers _ _ hq; omega
  have hle : ρ.le (fun o' u => if o' = o ∧ u = ver + 1 then some N else ρ o' u) := by
    intro o' u M e'
    by_cases ho : o' = o ∧ u = ver + 1
    · rw [ho.1, ho.2, hnone] at e'; cases e'
    · simp only [if_neg ho]; exact e'
  have hLB : B ≤ L.blk := by have := hc.side ver L hL; simpa using this
  have hLw := h.heap o ver L hL
  have cls : ∀ u M, (if o = o ∧ u = ver + 1 then some N else ρ o u) = some M → (u = ver + 1 ∧ M = N) ∨ (u ≤ ver ∧ ρ o u = some M) := by
    intro u M e'
    by_cases hu : u = ver + 1
    · simp [hu] at e'; exact .inl ⟨hu, e'.symm⟩
    · rw [if_neg (fun k => hu k.2)] at e'; exact .inr ⟨hc.vers u M e', e'⟩
  refine ⟨_, hle, by simp, ?_⟩
  refine h.upd o _ (fun j => St.get_put _ _ _ _) (Nat.le_refl _) (h.dom o _ hg) (fun o' u ho => if_neg fun k => ho k.1) hle hb hsz ?_ ?_ ?_ ?_
  · intro b hb'
    rcases hk b hb' with h1 | rfl
    · exact .inl h1
    · exact .inr ⟨hLB, ver, L, hL, rfl⟩
  · intro u M e'
    rcases cls u M e' with ⟨_, rfl⟩ | ⟨_, e''⟩
    · exact hNw
    · exact Nat.lt_of_lt_of_le (h.heap o u M e'') hsz
  · intro u M e'
    rcases cls u M e' with ⟨_, rfl⟩ | ⟨_, e''⟩
    · rcases hcase with ⟨h1, _, _⟩ | h1
      · exact .inr ⟨ver, L, hL, h1.symm⟩
      · exact .inl h1
    · exact .inr ⟨u, M, e'', rfl⟩
  · obtain ⟨ncs, ne, nfz, n1, n2, n3, n4⟩ := hlies
    refine (show CellsAt _ _ _ _ _ _ _ _ from ⟨?_, ?_, ?_, ?_, ?_, ?_⟩)
    · intro u M e'
      rcases cls u M e' with ⟨rfl, _⟩ | ⟨h1, _⟩ <;> omega
    · intro M e'
      rcases cls _ M e' with ⟨_, rfl⟩ | ⟨h1, _⟩
      · rw [hN]; simp; omega
      · omega
    · intro u M e' hu
      rcases cls u M e' with ⟨rfl, rfl⟩ | ⟨h1, e''⟩
      · refine ⟨by rw [hN]; simp; omega, hNr, ncs, ne, nfz, n1, n2, fun i hi hi' => ?_, fun _ => n4⟩
        obtain ⟨a, v, k1, k2, k3⟩ := n3 i hi hi'
        exact ⟨a, v, k1, k2, VR.mono hle k3⟩
      · by_cases hec : e = c.length
        · rw [if_pos hec] at hu
          obtain ⟨k1, k2, cs, e1, fz, k3, k4, k5, k6⟩ := hc.mem u M e'' hu
          have hpre : ∀ i, i < M.ext → (c.take e ++ xs)[i]? = c[i]? := by
            intro i hi
            rw [hec, List.take_length, List.getElem?_append_left (by omega)]
          by_cases hbl : M.blk = L.blk
          · obtain ⟨a1, a2⟩ := hc.align u M ver L e'' hL hbl
            have hat : ∀ i, M.at i = L.at i := fun i => by unfold Loc.at; rw [a1, a2]
            rcases hold hec with hsame | ⟨cs1, cs2, e2, fz2, g1, g2, g3, g4⟩
            · refine ⟨by simp; omega, k2, cs, e1, fz, by rw [hbl, hsame, ← hbl]; exact k3, k4, fun i hi hi' => ?_, k6⟩
              obtain ⟨a, v, q1, q2, q3⟩ := k5 i hi hi'
              exact ⟨a, v, by rw [hpre i hi']; exact q1, q2, VR.mono hle q3⟩
            · rw [hbl, g1] at k3; cases k3
              refine ⟨by simp; omega, k2, cs2, e1, fz, by rw [hbl]; exact g2, by omega, fun i hi hi' => ?_, fun ho => by rw [g3]; exact k6 ho⟩
              obtain ⟨a, v, q1, q2, q3⟩ := k5 i hi hi'
              refine ⟨a, v, by rw [hpre i hi']; exact q1, ?_, VR.mono hle q3⟩
              rw [hat, g4 i (by omega) (by omega), ← hat]; exact q2
          · have hsame : w'.heap[M.blk]? = w.heap[M.blk]? := by
              rcases hk M.blk (h.heap o u M e'') with h1 | h1
              · exact h1
              · exact absurd h1 hbl
            refine ⟨by simp; omega, k2, cs, e1, fz, hsame.trans k3, k4, fun i hi hi' => ?_, k6⟩
            obtain ⟨a, v, q1, q2, q3⟩ := k5 i hi hi'
            exact ⟨a, v, by rw [hpre i hi']; exact q1, q2, VR.mono hle q3⟩
        · rw [if_neg hec] at hu; omega
    · intro u M e'
      rcases cls u M e' with ⟨_, rfl⟩ | ⟨_, e''⟩
      · simpa using hNb
      · exact hc.side u M e''
    · intro u M u' M' e1 e2 hbl
      have self : ∀ u M, ρ o u = some M → N.blk = M.blk → N.boff = M.boff ∧ N.start = M.start := by
        intro u M e'' hb2
        rcases hcase with ⟨h1, h2, h3⟩ | h1
        · obtain ⟨a1, a2⟩ := hc.align ver L u M hL e'' (by omega)
          exact ⟨by omega, by omega⟩
        · have := h.heap o u M e''; omega
      rcases cls u M e1 with ⟨_, rfl⟩ | ⟨_, e1'⟩
      · rcases cls u' M' e2 with ⟨_, rfl⟩ | ⟨_, e2'⟩
        · exact ⟨rfl, rfl⟩
        · exact self u' M' e2' hbl
      · rcases cls u' M' e2 with ⟨_, rfl⟩ | ⟨_, e2'⟩
        · obtain ⟨a1, a2⟩ := self u M e1' hbl.symm; exact ⟨a1.symm, a2.symm⟩
        · exact hc.align u M u' M' e1' e2' hbl
    · have ha := hc.atoms
      simp only [List.all_append, Bool.and_eq_true]
      simp only [List.all_eq_true] at ha hxa ⊢
      exact ⟨fun x hx => ha x (List.mem_of_mem_take hx), hxa⟩
/-- An older version's next one: the versions up to now stand up to there alone. -/
theorem Sim.bumpF (h : Sim B w0 ρ S w) {o ver minv g e v : Nat} {c xs : List AV} {x : AO} (hg : S.get o = some x) (hc : ForkAt B ρ w o c ver minv g) (he : e ≤ g) (hgc : g ≤ c.length) (hxa : xs.all AV.atom = true)
    {L N : Loc} (hL : ρ o v = some L) {w' : World} (hb : Below B w0 w') (hsz : w.heap.size ≤ w'.heap.size) (hN : N.ext = e + xs.length) (hNr : N.ext ≤ N.start + N.room) (hNb : B ≤ N.blk) (hNw : N.blk < w'.heap.size)
    (hcase : (N.blk = L.blk ∧ N.boff = L.boff ∧ N.start = L.start) ∨ w.heap.size ≤ N.blk)
    (hk : ∀ b, b < w.heap.size → w'.heap[b]? = w.heap[b]? ∨ b = L.blk)
    (hlies : ∃ cs e' fz, w'.heap[N.blk]? = some (.cells cs e' fz) ∧ N.boff + N.room ≤ cs.size ∧ (∀ i, N.start ≤ i → i < N.ext → ∃ a v, (c.take e ++ xs)[i]? = some a ∧ cs[N.at i]? = some v ∧ VR ρ a v) ∧ Fz fz cs.size)
    (hold : w'.heap[L.blk]? = w.heap[L.blk]? ∨ ∃ cs cs' e' fz, w.heap[L.blk]? = some (.cells cs e' fz) ∧ w'.heap[L.blk]? = some (.cells cs' e' fz) ∧ cs'.size = cs.size ∧ ∀ i, L.start ≤ i → i < e → cs'[L.at i]? = cs[L.at i]?) :
    ∃ ρ', ρ.le ρ' ∧ ρ' o (ver + 1) = some N ∧ Sim B w0 ρ' (S.put o (.fork (c.take e ++ xs) (ver + 1) minv e)) w' := by
  have hnone : ρ o (ver + 1) = none := by
    cases hq : ρ o (ver + 1) with
    | none => rfl
    | some M => have := hc.vers _ _ hq; omega
  have hle : ρ.le (fun o' u => if o' = o ∧ u = ver + 1 then some N else ρ o' u) := by
    intro o' u M e'
    by_cases ho : o' = o ∧ u = ver + 1
    · rw [ho.1, ho.2, hnone] at e'; cases e'
    · simp only [if_neg ho]; exact e'
  have hLB : B ≤ L.blk := hc.side v L hL
  have hLw := h.heap o v L hL
  have cls : ∀ u M, (if o = o ∧ u = ver + 1 then some N else ρ o u) = some M → (u = ver + 1 ∧ M = N) ∨ (u ≤ ver ∧ ρ o u = some M) := by
    intro u M e'
    by_cases hu : u = ver + 1
    · simp [hu] at e'; exact .inl ⟨hu, e'.symm⟩
    · rw [if_neg (fun k => hu k.2)] at e'; exact .inr ⟨hc.vers u M e', e'⟩
  refine ⟨_, hle, by simp, ?_⟩
  refine h.upd o _ (fun j => St.get_put _ _ _ _) (Nat.le_refl _) (h.dom o _ hg) (fun o' u ho => if_neg fun k => ho k.1) hle hb hsz ?_ ?_ ?_ ?_
  · intro b hb'
    rcases hk b hb' with h1 | rfl
    · exact .inl h1
    · exact .inr ⟨hLB, v, L, hL, rfl⟩
  · intro u M e'
    rcases cls u M e' with ⟨_, rfl⟩ | ⟨_, e''⟩
    · exact hNw
    · exact Nat.lt_of_lt_of_le (h.heap o u M e'') hsz
  · intro u M e'
    rcases cls u M e' with ⟨_, rfl⟩ | ⟨_, e''⟩
    · rcases hcase with ⟨h1, _, _⟩ | h1
      · exact .inr ⟨v, L, hL, h1.symm⟩
      · exact .inl h1
    · exact .inr ⟨u, M, e'', rfl⟩
  · obtain ⟨ncs, ne, nfz, n1, n2, n3, n4⟩ := hlies
    refine (show ForkAt _ _ _ _ _ _ _ _ from ⟨?_, ?_, ?_, ?_, ?_, ?_⟩)
    · intro u M e'
      rcases cls u M e' with ⟨rfl, _⟩ | ⟨h1, _⟩ <;> omega
    · intro M e'
      rcases cls _ M e' with ⟨_, rfl⟩ | ⟨h1, _⟩
      · rw [hN]; simp; omega
      · omega
    · intro u M e' hu
      rcases cls u M e' with ⟨rfl, rfl⟩ | ⟨h1, e''⟩
      · refine ⟨hNr, ncs, ne, nfz, n1, n2, fun i hi hi' _ => ?_, n4⟩
        obtain ⟨a, v, k1, k2, k3⟩ := n3 i hi hi'
        exact ⟨a, v, k1, k2, VR.mono hle k3⟩
      · obtain ⟨k2, cs, e1, fz, k3, k4, k5, k6⟩ := hc.mem u M e'' hu
        have hpre : ∀ i, i < e → (c.take e ++ xs)[i]? = c[i]? := by
          intro i hi
          rw [List.getElem?_append_left (by simp; omega), List.getElem?_take_of_lt hi]
        by_cases hbl : M.blk = L.blk
        · obtain ⟨a1, a2⟩ := hc.align u M v L e'' hL hbl
          have hat : ∀ i, M.at i = L.at i := fun i => by unfold Loc.at; rw [a1, a2]
          rcases hold with hsame | ⟨cs1, cs2, e2, fz2, g1, g2, g3, g4⟩
          · refine ⟨k2, cs, e1, fz, by rw [hbl, hsame, ← hbl]; exact k3, k4, fun i hi hi' hie => ?_, k6⟩
            have hie : i < e := hie.resolve_left (by omega)
            obtain ⟨a, v, q1, q2, q3⟩ := k5 i hi hi' (.inr (by omega))
            exact ⟨a, v, by rw [hpre i hie]; exact q1, q2, VR.mono hle q3⟩
          · rw [hbl, g1] at k3; cases k3
            refine ⟨k2, cs2, e1, fz, by rw [hbl]; exact g2, by omega, fun i hi hi' hie => ?_, by rw [g3]; exact k6⟩
            have hie : i < e := hie.resolve_left (by omega)
            obtain ⟨a, v, q1, q2, q3⟩ := k5 i hi hi' (.inr (by omega))
            refine ⟨a, v, by rw [hpre i hie]; exact q1, ?_, VR.mono hle q3⟩
            rw [hat, g4 i (by omega) hie, ← hat]; exact q2
        · have hsame : w'.heap[M.blk]? = w.heap[M.blk]? := by
            rcases hk M.blk (h.heap o u M e'') with h1 | h1
            · exact h1
            · exact absurd h1 hbl
          refine ⟨k2, cs, e1, fz, hsame.trans k3, k4, fun i hi hi' hie => ?_, k6⟩
          have hie : i < e := hie.resolve_left (by omega)
          obtain ⟨a, v, q1, q2, q3⟩ := k5 i hi hi' (.inr (by omega))
          exact ⟨a, v, by rw [hpre i hie]; exact q1, q2, VR.mono hle q3⟩
    · intro u M e'
      rcases cls u M e' with ⟨_, rfl⟩ | ⟨_, e''⟩
      · exact hNb
      · exact hc.side u M e''
    · intro u M u' M' e1 e2 hbl
      have self : ∀ u M, ρ o u = some M → N.blk = M.blk → N.boff = M.boff ∧ N.start = M.start := by
        intro u M e'' hb2
        rcases hcase with ⟨h1, h2, h3⟩ | h1
        · obtain ⟨a1, a2⟩ := hc.align v L u M hL e'' (by omega)
          exact ⟨by omega, by omega⟩
        · have := h.heap o u M e''; omega
      rcases cls u M e1 with ⟨_, rfl⟩ | ⟨_, e1'⟩
      · rcases cls u' M' e2 with ⟨_, rfl⟩ | ⟨_, e2'⟩
        · exact ⟨rfl, rfl⟩
        · exact self u' M' e2' hbl
      · rcases cls u' M' e2 with ⟨_, rfl⟩ | ⟨_, e2'⟩
        · obtain ⟨a1, a2⟩ := self u M e1' hbl.symm; exact ⟨a1.symm, a2.symm⟩
        · exact hc.align u M u' M' e1' e2' hbl
    · have ha := hc.atoms
      simp only [List.all_append, Bool.and_eq_true]
      simp only [List.all_eq_true] at ha hxa ⊢
      exact ⟨fun x hx => ha x (List.mem_of_mem_take hx), hxa⟩
end
end Go.Proofs.YtidhpcjbllnjgaaGreatA
