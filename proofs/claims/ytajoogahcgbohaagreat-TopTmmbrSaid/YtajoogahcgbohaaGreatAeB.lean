/- An abstract evaluator, part B: what an operation, a code, a call comes to. -/
import Derived.Test.YtajoogahcgbohaaGreatAeA
set_option linter.unusedVariables false
set_option linter.unusedSimpArgs false
namespace Go.Proofs.YtajoogahcgbohaaGreatA
open Go.RowKit

/-- Bytes of a rune, as numbers. -/
def encR (r : Int) : List Nat := (Utf8.encode r).data.toList.map UInt8.toNat
/-- The rune at the front of bytes, and how many they are. -/
def decR (l : List Nat) : Nat × Nat := Utf8.decode ⟨((l.take 4).map UInt8.ofNat).toArray⟩ 0
def runesOf : Nat → List Nat → List AV
  | 0, _ => []
  | f + 1, l => match l with
    | [] => []
    | _ :: _ => .int .i32 (decR l).1 :: runesOf f (l.drop (decR l).2)
def ltStr : List Nat → List Nat → Bool
  | _, [] => false
  | [], _ :: _ => true
  | a :: x, b :: y => Nat.blt a b || (Nat.beq a b && ltStr x y)
mutual
/-- A value that holds no place. -/
def AV.pure : AV → Bool
  | .ptr (some _) | .slice (some _) _ _ _ | .map _ => false
  | .func _ l | .agg l | .tuple l => AV.pures l
  | .iface _ v => v.pure
  | _ => true
def AV.pures : List AV → Bool
  | [] => true
  | v :: r => v.pure && AV.pures r
end
def eqStr : List Nat → List Nat → Bool
  | [], [] => true
  | a :: x, b :: y => Nat.beq a b && eqStr x y
  | _, _ => false

def aInt (op : BinOp) (k : IntKind) (a b : Int) : Option AV :=
  match op with
  | .add => some (.int k (k.wrap (a + b)))
  | .sub => some (.int k (k.wrap (a - b)))
  | .mul => some (.int k (k.wrap (a * b)))
  | .quo => if b = 0 then none else some (.int k (k.wrap (a.tdiv b)))
  | .rem => if b = 0 then none else some (.int k (a.tmod b))
  | .and => some (.int k (Go.bits .and k a b))
  | .or => some (.int k (Go.bits .or k a b))
  | .xor => some (.int k (Go.bits .xor k a b))
  | .andNot => some (.int k (Go.bits .andNot k a b))
  | .eql => some (.bool (decide (a = b)))
  | .neq => some (.bool (decide (a ≠ b)))
  | .lss => some (.bool (decide (a < b)))
  | .leq => some (.bool (decide (a ≤ b)))
  | .gtr => some (.bool (decide (b < a)))
  | .geq => some (.bool (decide (b ≤ a)))
  | .shl | .shr => none
def aStr (op : BinOp) (a b : List Nat) : Option AV :=
  match op with
  | .add => if a.length + b.length ≤ 9223372036854775807 then some (.str (a ++ b)) else none
  | .eql => some (.bool (eqStr a b))
  | .neq => some (.bool (!eqStr a b))
  | .lss => some (.bool (ltStr a b))
  | .leq => some (.bool (ltStr a b || eqStr a b))
  | .gtr => some (.bool (!(ltStr a b || eqStr a b)))
  | .geq => some (.bool (!ltStr a b))
  | _ => none
/-- Scalars held against each other. -/
def eqScal : ET → AV → AV → Option Bool
  | .num, .int k a, .int k' b => if k = k' then some (decide (a = b)) else none
  | .bool, .bool a, .bool b => some (a == b)
  | .str, .str a, .str b => some (eqStr a b)
  | _, _, _ => none
def eqFields (xs ys : List AV) : List (Nat × ET) → Option Bool
  | [] => some true
  | (o, e) :: r => match xs[o]?, ys[o]? with
    | some x, some y => (eqScal e x y).bind fun b => bif b then eqFields xs ys r else some false
    | _, _ => none
def aEq (et : ET) (lit : Bool) (x y : AV) : Option Bool :=
  match et with
  | .ptr => match x, y with
    | .ptr none, .ptr b => some b.isNone
    | .ptr (some _), .ptr none => some false
    | _, _ => none
  | .slc => match x, y with
    | .slice none _ _ _, .slice b _ _ _ => some b.isNone
    | .slice (some _) _ _ _, .slice none _ _ _ => some false
    | _, _ => none
  | .fn => match x, y with
    | .nilFunc, .nilFunc => some true
    | .nilFunc, .func _ _ => some false
    | .func _ _, .nilFunc => some false
    | _, _ => none
  | .face => match x, y with
    | .nilIface, .nilIface => if lit then some true else none
    | .nilIface, .iface _ _ => some false
    | .iface _ _, .nilIface => some false
    | _, _ => none
  | .strct fs => match x, y with
    | .agg xs, .agg ys => eqFields xs ys fs
    | _, _ => none
  | e => eqScal e x y
def aBinE (op : BinOp) (et : ET) (lit : Bool) (x y : AV) : Option AV :=
  match op with
  | .eql => (aEq et lit x y).map .bool
  | .neq => (aEq et lit x y).map fun b => .bool (!b)
  | _ => none
def aBin (op : BinOp) (et : ET) (lit : Bool) (x y : AV) : Option AV :=
  match x, y with
  | .int k a, .int yk b => match op with
    | .shl => if b < 0 then none else some (.int k (k.wrap (a * 2 ^ min b.toNat k.bits)))
    | .shr => if b < 0 then none else some (.int k (a / 2 ^ min b.toNat k.bits))
    | op => if k = yk then aInt op k a b else none
  | .str a, .str b => aStr op a b
  | x, y => aBinE op et lit x y
def aUn (op : UnOp) (x : AV) : Option AV :=
  match op, x with
  | .neg, .int k n => some (.int k (k.wrap (0 - n)))
  | .xor, .int k n => some (.int k (Go.bits .xor k (if k.signed then -1 else k.max) n))
  | .not, .bool b => some (.bool !b)
  | _, _ => none
def byteOf : AV → Option Nat
  | .int .u8 n => some (n.toNat % 256)
  | _ => none
def runeOf : AV → Option Int
  | .int .i32 n => some n
  | _ => none
def strOf : List AV → Option (List Nat)
  | [] => some []
  | x :: r => (byteOf x).bind fun b => (strOf r).map (b :: ·)
def strOfR : List AV → Option (List Nat)
  | [] => some []
  | x :: r => (runeOf x).bind fun b => (strOfR r).map (encR b ++ ·)
def aConv (c : CV) (x : AV) (S : St) : Option (AV × St) :=
  match c, x with
  | .int k, .int _ n => some (.int k (k.wrap n), S)
  | .runeStr, .int _ n => some (.str (encR n), S)
  | .same, .str s => some (.str s, S)
  | .strBytes, .str s => some (newSl S (s.map fun b : Nat => .int .u8 (b : Int)) s.length 1)
  | .strRunes, .str s => some (newSl S (runesOf s.length s) (runesOf s.length s).length 1)
  | .bytesStr, .slice none _ _ _ => some (.str [], S)
  | .bytesStr, .slice (some (o, v, i)) len 1 _ => (S.rd o v i len).bind fun l => (strOf l).map fun s => (.str s, S)
  | .runesStr, .slice none _ _ _ => some (.str [], S)
  | .runesStr, .slice (some (o, v, i)) len 1 _ => (S.rd o v i len).bind fun l => (strOfR l).map fun s => (.str s, S)
  | .mark, .slice (some (o, v, i)) len esz clip => match S.get o with
    | some (.cells _ _ minv true) => bif Nat.ble minv v && !Nat.beq len 0 then some (.slice (some (o, v, i)) len esz clip, S) else none
    | _ => none
  | _, _ => none
/-- Parts laid into cells. -/
def aFill (cells : List AV) : List (Nat × Nat × AV) → Option (List AV)
  | [] => some cells
  | (off, size, v) :: r => if v.cells.length = size ∧ off + size ≤ cells.length ∧ v.tup = false then aFill (cells.take off ++ v.cells ++ cells.drop (off + size)) r else none
def rep (n : Nat) (l : List AV) : List AV := (List.replicate n l).flatten
def evParts (T : Tm) : List (Nat × Nat × XO) → Option (List (Nat × Nat × AV))
  | [] => some []
  | (a, b, x) :: r => (x.ev T).bind fun v => (evParts T r).map ((a, b, v) :: ·)
def evArgs (T : Tm) : List XO → Option (List AV)
  | [] => some []
  | x :: r => (x.ev T).bind fun v => (evArgs T r).map (v :: ·)
def evOpt (T : Tm) : Option XO → Option (Option AV)
  | none => some none
  | some x => (x.ev T).map some
/-- A bound of a cut: not below 0, at most y. -/
def bnd (v : Option AV) (d y : Nat) : Option Nat :=
  match v with
  | none => some d
  | some (.int _ n) => if 0 ≤ n ∧ n ≤ y then some n.toNat else none
  | some _ => none
def aCutStr (x : AV) (lo hi : Option AV) : Option AV :=
  match x with
  | .str s => (bnd hi s.length s.length).bind fun h => (bnd lo 0 h).map fun l => .str ((s.take h).drop l)
  | _ => none
def aCut (esz : Nat) (x : AV) (lo hi mx : Option AV) : Option AV :=
  match x with
  | .slice none _ _ _ => if mx.isSome ∧ hi.isNone then none else (bnd mx 0 0).bind fun _ => (bnd hi 0 0).bind fun _ => (bnd lo 0 0).map fun _ => .slice none 0 esz none
  | .slice (some (o, v, i)) len e clip => bif Nat.beq e esz then
      match mx with
      | some m => if hi.isSome then (bnd (some m) 0 len).bind fun m => (bnd hi 0 m).bind fun h => (bnd lo 0 h).map fun l =>
          .slice (some (o, v, i + l * esz)) (h - l) esz (some (m - l)) else none
      | none => (bnd hi len len).bind fun h => (bnd lo 0 h).map fun l => .slice (some (o, v, i + l * esz)) (h - l) esz (clip.map (· - l))
    else none
  | _ => none
/-- What an append comes to: an object's next version. -/
def aAppend (esz bytes : Nat) (S : St) (s : AV) (n : Nat) (xs : List AV) : Option (AV × St) :=
  match s with
  | .slice none len _ _ =>
    if n = 0 then some (s, S) else
    if (n + n / 4 + 256) * bytes ≤ 281474976710656 then some (newSl S xs n esz) else none
  | .slice (some (o, v, i)) len e clip =>
    if e ≠ esz then none else
    if n = 0 then some (s, S) else
    if ¬ ((len + n) + (len + n) / 4 + 256) * bytes ≤ 281474976710656 then none else
    match clip with
    | some c =>
      if c < len + n then (S.rd o v i (len * esz)).map fun l => newSl S (l ++ xs) (len + n) esz
      else none
    | none =>
      match S.get o with
      | some (.cells c ver minv true) =>
        if v = ver ∧ i + len * esz ≤ c.length ∧ minv ≤ v then
          some (.slice (some (o, ver + 1, i)) (len + n) esz none,
            S.put o (.cells (c.take (i + len * esz) ++ xs) (ver + 1) (if i + len * esz = c.length then minv else ver + 1) true))
        else if minv ≤ v ∧ v < ver ∧ i + len * esz ≤ c.length then
          some (.slice (some (o, ver + 1, i)) (len + n) esz none, S.put o (.fork (c.take (i + len * esz) ++ xs) (ver + 1) minv (i + len * esz)))
        else none
      | some (.fork c ver minv g) =>
        if minv ≤ v ∧ v < ver ∧ i + len * esz ≤ g ∧ g ≤ c.length then
          some (.slice (some (o, ver + 1, i)) (len + n) esz none, S.put o (.fork (c.take (i + len * esz) ++ xs) (ver + 1) minv (i + len * esz)))
        else none
      | _ => none
  | _ => none
def minFrom (k : IntKind) (a : Int) : List AV → Option AV
  | [] => some (.int k a)
  | .int k' b :: r => if k = k' then minFrom k (if b < a then b else a) r else none
  | _ => none
def maxFrom (k : IntKind) (a : Int) : List AV → Option AV
  | [] => some (.int k a)
  | .int k' b :: r => if k = k' then maxFrom k (if a < b then b else a) r else none
  | _ => none
def minI : List AV → Option AV
  | .int k a :: r => minFrom k a r
  | _ => none
def maxI : List AV → Option AV
  | .int k a :: r => maxFrom k a r
  | _ => none
/-- An index, from 0 on, below n. -/
def ixOf (x : AV) (n : Nat) : Option Nat :=
  match x with
  | .int _ i => if 0 ≤ i ∧ i < n then some i.toNat else none
  | _ => none
def XO.lit : XO → Bool
  | .c _ => true
  | .t _ => false
def aCopy (esz : Nat) (S : St) (d s : AV) : Option (AV × St) :=
  match d with
  | .slice none _ _ _ => match s with
    | .slice _ _ _ _ => some (.int .i64 0, S)
    | _ => none
  | .slice (some (o, v, i)) dl e _ => match s with
    | .slice none _ _ _ => some (.int .i64 0, S)
    | .slice (some (o', v', i')) sl e' _ => if e ≠ esz ∨ e' ≠ esz ∨ 9223372036854775807 < sl then none else (S.rd o' v' i' (min sl dl * esz)).bind fun l => (S.wr o v i l).map fun S' => (.int .i64 (min sl dl : Nat), S')
    | _ => none
  | _ => none
def aClear (esz : Nat) (z : List AV) (S : St) (x : AV) : Option (AV × St) :=
  match x with
  | .slice none _ _ _ => some (AV.undef, S)
  | .slice (some (o, v, i)) len e _ => if e = esz then (S.wr o v i (rep len z)).map fun S' => (AV.undef, S') else none
  | _ => none
def aAssert (t : Nat) (z : AV) (ok : Bool) (x : AV) : Option AV :=
  match x with
  | .iface u v => if u = t then some (bif ok then .tuple [v, .bool true] else v) else bif ok then some (.tuple [z, .bool false]) else none
  | .nilIface => bif ok then some (.tuple [z, .bool false]) else none
  | _ => none
def aAssertI (yes no : List Nat) (ok : Bool) (x : AV) : Option AV :=
  match x with
  | .iface u v => if u ∈ yes then some (bif ok then .tuple [.iface u v, .bool true] else .iface u v) else if u ∈ no ∧ ok = true then some (.tuple [.nilIface, .bool false]) else none
  | .nilIface => bif ok then some (.tuple [.nilIface, .bool false]) else none
  | _ => none
/-- An entry of a map: its place, its value, when it was made. -/
def findM (k : Int) : List (Int × Int × Nat) → Nat → Option (Nat × Int × Nat)
  | [], _ => none
  | e :: r, i => if k = e.1 then some (i, e.2) else findM k r (i + 1)
def aLook (ok : Bool) (kv : IntKind) (k : Int) (l : List (Int × Int × Nat)) : AV :=
  match findM k l 0 with
  | some e => bif ok then .tuple [.int kv e.2.1, .bool true] else .int kv e.2.1
  | none => bif ok then .tuple [.int kv 0, .bool false] else .int kv 0
def setM (l : List (Int × Int × Nat)) (i : Nat) (v : Int) : List (Int × Int × Nat) := l.modify i fun e => (e.1, v, e.2.2)
def putM (kk kv : IntKind) (k v : Int) (l : List (Int × Int × Nat)) (c : Nat) : AO :=
  match findM k l 0 with
  | some e => .map kk kv (setM l e.1 v) c
  | none => .map kk kv (l ++ [(k, v, c)]) (c + 1)
/-- What an operation that calls nothing comes to. -/
def evOp (op : AOp) (T : Tm) (S : St) : Option (AV × St) :=
  match op with
  | .mv x => (x.ev T).map (·, S)
  | .pick c a b => (c.ev T).bind fun
    | .bool t => (bif t then a.ev T else b.ev T).map (·, S)
    | _ => none
  | .alloc zero => some (newVar S zero)
  | .box x => (x.ev T).bind fun v => bif v.tup then none else some (newVar S v.cells)
  | .build zero parts => (evParts T parts).bind fun ps => (aFill zero ps).map fun cs => (.agg cs, S)
  | .buildSlice esz zero len parts => (evParts T parts).bind fun ps => (aFill (rep len zero) ps).map fun cs => newSl S cs len esz
  | .load1 a => (a.ev T).bind fun
    | .ptr (some p) => (S.rd p.o p.v p.i 1).bind fun l => bif Nat.ble 1 p.n then (l.head?).map (·, S) else none
    | _ => none
  | .loadN n a => (a.ev T).bind fun
    | .ptr (some p) => bif Nat.ble n p.n then (S.rd p.o p.v p.i n).map fun l => (.agg l, S) else none
    | _ => none
  | .store n a x => (a.ev T).bind fun
    | .ptr (some p) => (x.ev T).bind fun v =>
      if v.cells.length = n ∧ n ≤ p.n ∧ v.tup = false then (S.wr p.o p.v p.i v.cells).map fun S' => (AV.undef, S') else none
    | _ => none
  | .nilCheck x => (x.ev T).bind fun
    | .ptr (some p) => some (.ptr (some p), S)
    | .iface t v => some (.iface t v, S)
    | .func f cs => some (.func f cs, S)
    | _ => none
  | .bin op et x y => (x.ev T).bind fun a => (y.ev T).bind fun b => (aBin op et (x.lit || y.lit) a b).map (·, S)
  | .un op x => (x.ev T).bind fun a => (aUn op a).map (·, S)
  | .conv c x => (x.ev T).bind fun a => aConv c a S
  | .mkIface t x => (x.ev T).map fun v => (.iface t v, S)
  | .mkFunc f caps => (evArgs T caps).map fun l => (.func f l, S)
  | .mkSlice esz bytes zero len cap => (len.ev T).bind fun
    | .int .i64 l => (cap.ev T).bind fun
      | .int .i64 c => if 0 ≤ l ∧ l ≤ c ∧ c * bytes ≤ 281474976710656 then some (newSl S (rep l.toNat zero) l.toNat esz) else none
      | _ => none
    | _ => none
  | .cutStr x lo hi => (x.ev T).bind fun a => (evOpt T lo).bind fun l => (evOpt T hi).bind fun h => (aCutStr a l h).map (·, S)
  | .cut esz x lo hi mx => (x.ev T).bind fun a => (evOpt T lo).bind fun l => (evOpt T hi).bind fun h => (evOpt T mx).bind fun m => (aCut esz a l h m).map (·, S)
  | .fieldAddr off n x => (x.ev T).bind fun
    | .ptr (some p) => bif Nat.ble (off + n) p.n && Nat.ble 1 n then some (.ptr (some ⟨p.o, p.v, p.i + off, n⟩), S) else none
    | _ => none
  | .field1 off x => (x.ev T).bind fun
    | .agg cs => (cs[off]?).map (·, S)
    | _ => none
  | .fieldN off n x => (x.ev T).bind fun
    | .agg cs => if off + n ≤ cs.length then some (.agg ((cs.drop off).take n), S) else none
    | _ => none
  | .ixSlice esz x i => (x.ev T).bind fun
    | .slice (some (o, v, j)) len e _ => if e = esz then (i.ev T).bind fun k => (ixOf k len).map fun k => (.ptr (some ⟨o, v, j + k * esz, esz⟩), S) else none
    | _ => none
  | .ixArr len esz x i => (x.ev T).bind fun
    | .ptr (some p) => (i.ev T).bind fun k => (ixOf k len).bind fun k => bif Nat.ble (len * esz) p.n then some (.ptr (some ⟨p.o, p.v, p.i + k * esz, esz⟩), S) else none
    | _ => none
  | .ixStr x i => (x.ev T).bind fun
    | .str s => (i.ev T).bind fun k => (ixOf k s.length).bind fun k => (s[k]?).map fun b : Nat => (.int .u8 (b : Int), S)
    | _ => none
  | .ixAgg1 len x i => (x.ev T).bind fun
    | .agg cs => (i.ev T).bind fun k => (ixOf k len).bind fun k => (cs[k]?).map (·, S)
    | _ => none
  | .ixAggN len esz x i => (x.ev T).bind fun
    | .agg cs => (i.ev T).bind fun k => (ixOf k len).bind fun k => if k * esz + esz ≤ cs.length then some (.agg ((cs.drop (k * esz)).take esz), S) else none
    | _ => none
  | .range x => (x.ev T).bind fun
    | .str s => some (.ptr (some ⟨S.next, 0, 0, 1⟩), S.alloc (.iter s 0))
    | _ => none
  | .next x => (x.ev T).bind fun
    | .ptr (some p) => bif Nat.beq p.i 0 then match S.get p.o with
      | some (.iter s pos) =>
        match s.drop pos with
        | [] => some (.tuple [.bool false], S)
        | b :: l => if 9223372036854775807 < pos then none else some (.tuple [.bool true, .int .i64 pos, .int .i32 (decR (b :: l)).1], S.put p.o (.iter s (pos + (decR (b :: l)).2)))
      | _ => none else none
    | _ => none
  | .assert t zero ok x => (x.ev T).bind fun v => (aAssert t zero ok v).map (·, S)
  | .assertI yes no ok x => (x.ev T).bind fun v => (aAssertI yes no ok v).map (·, S)
  | .extract i x => (x.ev T).bind fun
    | .tuple vs => (vs[i]?).map (·, S)
    | _ => none
  | .append esz bytes s x => (s.ev T).bind fun a => (x.ev T).bind fun
    | .slice none _ _ _ => aAppend esz bytes S a 0 []
    | .slice (some (o, v, i)) len e _ => if e = esz then (S.rd o v i (len * esz)).bind fun l => aAppend esz bytes S a len l else none
    | _ => none
  | .appendS bytes s x => (s.ev T).bind fun a => (x.ev T).bind fun
    | .str l => aAppend 1 bytes S a l.length (l.map fun b : Nat => .int .u8 (b : Int))
    | _ => none
  | .lenS x => (x.ev T).bind fun
    | .str s => if s.length ≤ 9223372036854775807 then some (.int .i64 s.length, S) else none
    | _ => none
  | .len x => (x.ev T).bind fun
    | .slice _ n _ _ => if n ≤ 9223372036854775807 then some (.int .i64 n, S) else none
    | _ => none
  | .lenArr n => some (.int .i64 n, S)
  | .mx xs => (evArgs T xs).bind fun l => (maxI l).map (·, S)
  | .mn xs => (evArgs T xs).bind fun l => (minI l).map (·, S)
  | .copy esz d s => (d.ev T).bind fun d => (s.ev T).bind fun s => aCopy esz S d s
  | .cap x => (x.ev T).bind fun
    | .slice none _ _ _ => some (.int .i64 0, S)
    | .slice (some _) _ _ (some c) => if c ≤ 9223372036854775807 then some (.int .i64 c, S) else none
    | _ => none
  | .appendZ esz bytes zero s n => (s.ev T).bind fun a => (n.ev T).bind fun
    | .int .i64 k => if 0 ≤ k then aAppend esz bytes S a k.toNat (rep k.toNat zero) else none
    | _ => none
  | .cutArr n esz x lo hi => (x.ev T).bind fun
    | .ptr (some p) => bif Nat.ble (n * esz) p.n then (S.rd p.o p.v p.i (n * esz)).bind fun _ => (evOpt T lo).bind fun l => (evOpt T hi).bind fun h => (bnd h n n).bind fun h => (bnd l 0 h).map fun l =>
        (.slice (some (p.o, p.v, p.i + l * esz)) (h - l) esz (some (n - l)), S) else none
    | _ => none
  | .mkMap kk kv => some (.map (some S.next), S.alloc (.map kk kv [] 0))
  | .lookup kk kv ok m k => (m.ev T).bind fun
    | .map (some o) => (k.ev T).bind fun
      | .int k1 k => match S.get o with
        | some (.map k2 v2 l _) => if k1 = kk ∧ k2 = kk ∧ v2 = kv then some (aLook ok kv k l, S) else none
        | _ => none
      | _ => none
    | _ => none
  | .mapSet kk kv m k x => (m.ev T).bind fun
    | .map (some o) => (k.ev T).bind fun
      | .int k1 k => (x.ev T).bind fun
        | .int x1 v => match S.get o with
          | some (.map k2 v2 l c) => if k1 = kk ∧ k2 = kk ∧ v2 = kv ∧ x1 = kv then some (AV.undef, S.put o (putM kk kv k v l c)) else none
          | _ => none
        | _ => none
      | _ => none
    | _ => none
  | .clr esz z x => (x.ev T).bind fun a => aClear esz z S a
  | .call .. | .callV .. | .invoke .. | .stop => none
/-- The function that an operation calls, and with what. -/
def callee (op : AOp) (T : Tm) : Option (Nat × List AV) :=
  match op with
  | .call f args => (evArgs T args).map (f, ·)
  | .callV f args => (f.ev T).bind fun
    | .func g caps => (evArgs T args).map fun l => (g, l ++ caps)
    | _ => none
  | .invoke _ tab x args => (x.ev T).bind fun
    | .iface t v => ((tab.find? fun p => p.1 == t)).bind fun p => (evArgs T args).map fun l => (p.2, v :: l)
    | _ => none
  | _ => none
def AOp.calls : AOp → Bool
  | .call .. | .callV .. | .invoke .. => true
  | _ => false
/-- An operation. -/
def evAny (call : Nat → List AV → St → Option (AV × St)) (op : AOp) (T : Tm) (S : St) : Option (AV × St) :=
  bif op.calls then (callee op T).bind fun p => call p.1 p.2 S else evOp op T S
def wanted (g : Option (Nat × Bool)) (T : Tm) : Option Bool :=
  match g with
  | none => some true
  | some (d, b) => match T.get d with
    | some (.bool c) => some (c == b)
    | some _ => some false
    | none => none
def putD (T : Tm) (d : Option Nat) (v : AV) : Tm :=
  match d with
  | none => T
  | some d => T.set d v
/-- One operation of a region. -/
def evOper (call : Nat → List AV → St → Option (AV × St)) (o : AOper) (T : Tm) (S : St) : Option (AV × St) :=
  (wanted o.guard T).bind fun w => bif w then evAny call o.op T S else some (AV.undef, S)
def evOps (call : Nat → List AV → St → Option (AV × St)) : List AOper → Tm → St → Option (Tm × St)
  | [], T, S => some (T, S)
  | o :: r, T, S => (evOper call o T S).bind fun p => evOps call r (putD T o.dst p.1) p.2
/-- An operation reads memory, and does no more. -/
def AOp.reads : AOp → Bool
  | .load1 _ | .loadN _ _ | .conv .bytesStr _ | .conv .runesStr _ | .cutArr .. => true
  | _ => false
/-- An operation turns memory, makes some, or calls. -/
def AOp.heavy : AOp → Bool
  | .alloc _ | .box _ | .buildSlice .. | .store .. | .conv .strBytes _ | .conv .strRunes _ | .conv .mark _ | .mkSlice .. | .range _ | .next _ | .append .. | .appendS .. | .appendZ .. | .copy .. | .call .. | .callV .. | .invoke .. | .mkMap .. | .lookup .. | .mapSet .. | .clr .. => true
  | _ => false
def sameA : AV → AV → Bool
  | .int k a, .int k' b => decide (k = k') && decide (a = b)
  | .bool a, .bool b => a == b
  | .str a, .str b => eqStr a b
  | .ptr a, .ptr b => decide (a = b)
  | .slice a l e c, .slice a' l' e' c' => decide (a = a') && Nat.beq l l' && Nat.beq e e' && decide (c = c')
  | .nilFunc, .nilFunc => true
  | .nilIface, .nilIface => true
  | .tuple [], .tuple [] => true
  | _, _ => false
def sameL : List AV → List AV → Bool
  | [], [] => true
  | a :: x, b :: y => sameA a b && sameL x y
  | _, _ => false
def sameV (x y : AV) : Bool :=
  match x, y with
  | .agg a, .agg b => sameL a b
  | x, y => sameA x y
def XO.tmps : XO → List Nat
  | .t i => [i]
  | .c _ => []
def tmpsL : List XO → List Nat
  | [] => []
  | x :: r => x.tmps ++ tmpsL r
def tmpsP : List (Nat × Nat × XO) → List Nat
  | [] => []
  | x :: r => x.2.2.tmps ++ tmpsP r
def tmpsO : Option XO → List Nat
  | none => []
  | some x => x.tmps
/-- The temporaries that an operation reads. -/
def AOp.tmps : AOp → List Nat
  | .mv x | .box x | .load1 x | .loadN _ x | .nilCheck x | .un _ x | .conv _ x | .mkIface _ x | .fieldAddr _ _ x | .field1 _ x | .fieldN _ _ x | .range x | .next x | .assert _ _ _ x | .assertI _ _ _ x | .extract _ x | .len x | .lenS x | .cap x | .clr _ _ x => x.tmps
  | .pick c a b => c.tmps ++ a.tmps ++ b.tmps
  | .alloc _ | .lenArr _ | .stop | .mkMap _ _ => []
  | .build _ ps | .buildSlice _ _ _ ps => tmpsP ps
  | .store _ x y | .bin _ _ x y | .mkSlice _ _ _ x y | .ixSlice _ x y | .ixArr _ _ x y | .ixStr x y | .ixAgg1 _ x y | .ixAggN _ _ x y | .append _ _ x y | .appendS _ x y | .copy _ x y | .appendZ _ _ _ x y | .lookup _ _ _ x y => x.tmps ++ y.tmps
  | .mapSet _ _ x y z => x.tmps ++ y.tmps ++ z.tmps
  | .mkFunc _ xs | .call _ xs | .mx xs | .mn xs => tmpsL xs
  | .callV x xs | .invoke _ _ x xs => x.tmps ++ tmpsL xs
  | .cutStr x lo hi | .cutArr _ _ x lo hi => x.tmps ++ tmpsO lo ++ tmpsO hi
  | .cut _ x lo hi m => x.tmps ++ tmpsO lo ++ tmpsO hi ++ tmpsO m
def AOper.tmps (o : AOper) : List Nat :=
  match o.guard with
  | none => o.op.tmps
  | some (g, _) => g :: o.op.tmps
/-- Read again, the same. -/
def again (op : AOper) (T : Tm) (v : AV) (S : St) : Bool :=
  match evOper (fun _ _ _ => none) op T S with
  | some (u, _) => sameV u v
  | none => false
/-- The operations in the text's order, each with the temporaries and the state ahead of it, and its value. -/
def trace (call : Nat → List AV → St → Option (AV × St)) : List AOper → Tm → St → Option (List (AOper × Tm × St × AV) × Tm × St)
  | [], T, S => some ([], T, S)
  | o :: r, T, S => (evOper call o T S).bind fun p => (trace call r (putD T o.dst p.1) p.2).map fun q => ((o, T, S, p.1) :: q.1, q.2)
def stAt (l : List (AOper × Tm × St × AV)) (S : St) (j : Nat) : St :=
  match l[j]? with
  | some e => e.2.2.1
  | none => S
/-- An operation that makes one new object, and looks at no memory. -/
def AOp.birth : AOp → Bool
  | .alloc _ | .buildSlice .. | .mkSlice .. => true
  | _ => false
/-- A birth that may come early: what it names, and what it makes, holds no place. -/
def chkB (o : AOper) (T : Tm) : Bool :=
  (o.tmps.all fun t => match T.get t with | some v => v.pure | none => true) &&
    match evOper (fun _ _ _ => none) o T ⟨0, .lf⟩ with
    | some p => (match p.2.get 0 with | some (.cells xs 0 0 true) => AV.pures xs | _ => false)
    | none => false
def chk (l : List (AOper × Tm × St × AV)) (S : St) (p : Nat × Nat) : Bool :=
  match l[p.1]? with
  | some e => bif e.1.op.birth then chkB e.1 e.2.1 else again e.1 e.2.1 e.2.2.2 (stAt l S p.2)
  | none => false
/-- A region whose order is drawn: in the order of the text; and what is read is read again at each state that another order may show it (pairs: operation, state). -/
def evDraw (call : Nat → List AV → St → Option (AV × St)) (ops : List AOper) (ps : List (Nat × Nat)) (T : Tm) (S : St) : Option (Tm × St) :=
  (trace call ops T S).bind fun q =>
    bif ps.all (chk q.1 q.2.2) then some q.2 else none

/-- The object of a value. -/
def objOf : AV → Option Nat
  | .ptr (some p) => some p.o
  | .slice (some (o, _, _)) _ _ _ => some o
  | _ => none
def oL : Option AV → List Nat
  | some v => match objOf v with
    | some q => [q]
    | none => []
  | none => []
/-- The objects that an operation looks at. -/
def fpOf (op : AOp) (T : Tm) : List Nat :=
  match op with
  | .append _ _ s x => oL (s.ev T) ++ oL (x.ev T)
  | .load1 a | .loadN _ a => oL (a.ev T)
  | _ => []
/-- The second turns no object that the first looks at. -/
def lookP (l : List (AOper × Tm × St × AV)) (p : Nat × Nat) : Bool :=
  match l[p.1]? with
  | some a => match l[p.2]? with
    | some b => match objOf b.2.2.2 with
      | some q => !((fpOf a.1.op a.2.1).any fun o => Nat.beq o q)
      | none => true
    | none => false
  | none => false
/-- What is new holds no place. -/
def pureP (l : List (AOper × Tm × St × AV)) (S' : St) (i : Nat) : Bool :=
  match l[i]? with
  | some a => bif a.1.op.heavy then match objOf a.2.2.2 with
      | some q => bif Nat.ble a.2.2.1.next q then match (stAt l S' (i + 1)).get q with
          | some (.cells xs _ _ _) => AV.pures xs
          | _ => false else true
      | none => true else true
  | none => false
/-- A region whose order is drawn, of operations on objects apart. -/
def evPar (call : Nat → List AV → St → Option (AV × St)) (ops : List AOper) (ps : List (Nat × Nat)) (T : Tm) (S : St) : Option (Tm × St) :=
  (trace call ops T S).bind fun q =>
    bif ps.all (lookP q.1) && (List.range ops.length).all (pureP q.1 q.2.2) then some q.2 else none

/-! ### Codes and calls -/
def iter (f : Tm → St → Option (Ex × Tm × St)) : Nat → Tm → St → Option (Ex × Tm × St)
  | 0, _, _ => none
  | k + 1, T, S => (f T S).bind fun r => match r with
    | (.normal, T', S') => iter f k T' S'
    | r => some r
def evC (call : Nat → List AV → St → Option (AV × St)) (k : Nat) : AC → Tm → St → Option (Ex × Tm × St)
  | .skip, T, S => some (.normal, T, S)
  | .reg ops, T, S => (evOps call ops T S).map fun p => (.normal, p.1, p.2)
  | .dreg ops pl, T, S => (evDraw call ops pl T S).map fun p => (.normal, p.1, p.2)
  | .preg ops pl, T, S => (evPar call ops pl T S).map fun p => (.normal, p.1, p.2)
  | .seq a b, T, S => (evC call k a T S).bind fun r => match r with
    | (.normal, T', S') => evC call k b T' S'
    | r => some r
  | .cond c a b, T, S => (c.ev T).bind fun v => match v with
    | .bool t => bif t then evC call k a T S else evC call k b T S
    | _ => none
  | .block id b, T, S => (evC call k b T S).map fun r => match r with
    | (.exit i, T', S') => (bif Nat.beq i id then .normal else .exit i, T', S')
    | r => r
  | .loop b, T, S => iter (evC call k b) k T S
  | .exit id, T, S => some (.exit id, T, S)
  | .ret, T, S => some (.ret, T, S)
def setArgs : List AV → Nat → Tm → Tm
  | [], _, T => T
  | v :: r, i, T => setArgs r (i + 1) (T.set i v)
def evRes (T : Tm) (S : St) : List RV → Option (List AV)
  | [] => some []
  | .tmp t :: r => (T.get t).bind fun v => (evRes T S r).map (v :: ·)
  | .cell1 t :: r => (T.get t).bind fun v => match v with
    | .ptr (some p) => bif Nat.ble 1 p.n then (S.rd p.o p.v p.i 1).bind fun l => (l.head?).bind fun v => (evRes T S r).map (v :: ·) else none
    | _ => none
  | .cellN t n :: r => (T.get t).bind fun v => match v with
    | .ptr (some p) => bif Nat.ble n p.n then (S.rd p.o p.v p.i n).bind fun l => (evRes T S r).map (.agg l :: ·) else none
    | _ => none
def oneOf : List AV → AV
  | [v] => v
  | vs => .tuple vs
/-- What a body's end tells. -/
def fin (rs : List RV) : Ex × Tm × St → Option (AV × St)
  | (.normal, T, S) | (.ret, T, S) => (evRes T S rs).map fun l => (oneOf l, S)
  | _ => none
/-- A call: what is known of pure functions first, else the body. -/
def evF (X : Nat → List AV → Option AV) (AP : Nat → Option AFunc) : Nat → Nat → List AV → St → Option (AV × St)
  | 0, _, _, _ => none
  | k + 1, f, args, S => match X f args with
    | some v => some (v, S)
    | none => (AP f).bind fun af => bif Nat.ble args.length af.ntmps then
        (evC (evF X AP k) k af.body (setArgs args 0 .lf) S).bind (fin af.results)
      else none
end Go.Proofs.YtajoogahcgbohaaGreatA
