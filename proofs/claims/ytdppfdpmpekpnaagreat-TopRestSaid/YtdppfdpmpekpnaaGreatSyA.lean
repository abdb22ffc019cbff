/- Numbers that are not known: a value may be a line in a number u of a known span; what an operation comes to for each u of the span. -/
import Derived.Test.YtdppfdpmpekpnaaGreatAeS1
set_option linter.unusedVariables false
set_option linter.unusedSimpArgs false
namespace Go.Proofs.YtdppfdpmpekpnaaGreatA
open Go.RowKit

/-! ### What a value is for a given u -/
def kOf (n : Nat) : IntKind := match n with
  | 0 => .i8 | 1 => .i16 | 2 => .i32 | 3 => .i64 | 4 => .u8 | 5 => .u16 | 6 => .u32 | _ => .u64
structure Ln where
  k : IntKind
  a : Int
  b : Int
/-- A line told as a number: 8, 2^80, 2^64. -/
def decL (n : Nat) : Ln := ⟨kOf (n % 8), ((n / 8 % 1208925819614629174706176 : Nat) : Int) - 604462909807314587353088, ((n / 8 / 1208925819614629174706176 : Nat) : Int) - 18446744073709551616⟩
def encL (l : Ln) : Nat := ((l.b + 18446744073709551616).toNat * 1208925819614629174706176 + (l.a + 604462909807314587353088).toNat) * 8 + (match l.k with | .i8 => 0 | .i16 => 1 | .i32 => 2 | .i64 => 3 | .u8 => 4 | .u16 => 5 | .u32 => 6 | .u64 => 7)
mutual
def gV (u : Int) : AV → AV
  | .float .f64 n => .int (decL n).k ((decL n).a + (decL n).b * u)
  | .func f l => .func f (gVs u l)
  | .agg l => .agg (gVs u l)
  | .tuple l => .tuple (gVs u l)
  | .iface t v => .iface t (gV u v)
  | v => v
def gVs (u : Int) : List AV → List AV
  | [] => []
  | v :: r => gV u v :: gVs u r
end
theorem gVs_eq (u : Int) : ∀ l, gVs u l = l.map (gV u)
  | [] => by simp [gVs]
  | v :: r => by simp [gVs, gVs_eq u r]
section
variable {u : Int}
@[simp] theorem g_int {k n} : gV u (.int k n) = .int k n := by simp [gV]
@[simp] theorem g_bool {b} : gV u (.bool b) = .bool b := by simp [gV]
@[simp] theorem g_f32 {b} : gV u (.float .f32 b) = .float .f32 b := by simp [gV]
@[simp] theorem g_f64 {n} : gV u (.float .f64 n) = .int (decL n).k ((decL n).a + (decL n).b * u) := by simp [gV]
@[simp] theorem g_str {s} : gV u (.str s) = .str s := by simp [gV]
@[simp] theorem g_ptr {a} : gV u (.ptr a) = .ptr a := by simp [gV]
@[simp] theorem g_slice {a l e c} : gV u (.slice a l e c) = .slice a l e c := by simp [gV]
@[simp] theorem g_func {f l} : gV u (.func f l) = .func f (l.map (gV u)) := by simp [gV, gVs_eq]
@[simp] theorem g_nilFunc : gV u .nilFunc = .nilFunc := by simp [gV]
@[simp] theorem g_iface {t v} : gV u (.iface t v) = .iface t (gV u v) := by simp [gV]
@[simp] theorem g_nilIface : gV u .nilIface = .nilIface := by simp [gV]
@[simp] theorem g_agg {l} : gV u (.agg l) = .agg (l.map (gV u)) := by simp [gV, gVs_eq]
@[simp] theorem g_tuple {l} : gV u (.tuple l) = .tuple (l.map (gV u)) := by simp [gV, gVs_eq]
@[simp] theorem g_map {r} : gV u (.map r) = .map r := by simp [gV]
end
def gO (u : Int) : AO → AO
  | .cells c v m o => .cells (c.map (gV u)) v m o
  | .fork c v m g => .fork (c.map (gV u)) v m g
  | x => x
def Tr.map {α β : Type} (f : α → β) : Tr α → Tr β
  | .lf => .lf
  | .nd l v r => .nd (l.map f) (v.map f) (r.map f)
theorem Tr.get_map {α β : Type} (f : α → β) : ∀ (t : Tr α) (k : Nat), (t.map f).get k = (t.get k).map f
  | .lf, k => rfl
  | .nd l v r, 0 => rfl
  | .nd l v r, j + 1 => by
    simp only [Tr.map, Tr.get]
    cases Nat.beq (j % 2) 0 <;> simp [Tr.get_map f]
theorem Tr.sing_map {α β : Type} (f : α → β) (v : α) : ∀ (n k : Nat), (Tr.sing v n k).map f = Tr.sing (f v) n k
  | 0, k => rfl
  | n + 1, 0 => rfl
  | n + 1, j + 1 => by
    simp only [Tr.sing]
    cases Nat.beq (j % 2) 0 <;> simp [Tr.map, Tr.sing_map f v n]
theorem Tr.set_map {α β : Type} (f : α → β) : ∀ (t : Tr α) (k : Nat) (v : α), (t.set k v).map f = (t.map f).set k (f v)
  | .lf, k, v => Tr.sing_map f v k k
  | .nd l x r, 0, v => rfl
  | .nd l x r, j + 1, v => by
    simp only [Tr.set, Tr.map]
    cases Nat.beq (j % 2) 0 <;> simp [Tr.map, Tr.set_map f]
def gT (u : Int) (T : Tm) : Tm := T.map (gV u)
def gS (u : Int) (S : St) : St := ⟨S.next, S.objs.map (gO u)⟩
section
variable {u : Int}
theorem gT_get (T : Tm) (i : Nat) : (gT u T).get i = (T.get i).map (gV u) := Tr.get_map _ _ _
theorem gT_set (T : Tm) (i : Nat) (v : AV) : gT u (T.set i v) = (gT u T).set i (gV u v) := Tr.set_map _ _ _ _
theorem gS_get (S : St) (o : Nat) : (gS u S).get o = (S.get o).map (gO u) := Tr.get_map _ _ _
theorem gS_put (S : St) (o : Nat) (x : AO) : gS u (S.put o x) = (gS u S).put o (gO u x) := by
  simp only [gS, St.put, Tr.set_map]
theorem gS_alloc (S : St) (x : AO) : gS u (S.alloc x) = (gS u S).alloc (gO u x) := by
  simp only [gS, St.alloc, Tr.set_map]
theorem gS_next (S : St) : (gS u S).next = S.next := rfl
theorem rd_g {S : St} {o v i n : Nat} {l : List AV} (h : S.rd o v i n = some l) : (gS u S).rd o v i n = some (l.map (gV u)) := by
  unfold St.rd at h ⊢
  rw [gS_get]
  cases hg : S.get o with
  | none => rw [hg] at h; cases h
  | some x =>
    rw [hg] at h
    cases x with
    | cells c ver minv own =>
      simp only [Option.map_some, gO, List.length_map] at h ⊢
      cases hb : (Nat.ble minv v && Nat.ble v ver && Nat.ble (i + n) c.length) with
      | false => rw [hb] at h; cases h
      | true => rw [hb] at h; cases h; simp [List.map_drop, List.map_take]
    | fork c ver minv g =>
      simp only [Option.map_some, gO, List.length_map] at h ⊢
      cases hb : (Nat.ble minv v && Nat.ble v ver && Nat.ble (i + n) c.length && (Nat.beq v ver || Nat.ble (i + n) g)) with
      | false => rw [hb] at h; cases h
      | true => rw [hb] at h; cases h; simp [List.map_drop, List.map_take]
    | _ => cases h
theorem wr_g {S S' : St} {o v i : Nat} {xs : List AV} (h : S.wr o v i xs = some S') : (gS u S).wr o v i (xs.map (gV u)) = some (gS u S') := by
  unfold St.wr at h ⊢
  rw [gS_get]
  cases hg : S.get o with
  | none => rw [hg] at h; cases h
  | some x =>
    rw [hg] at h
    cases x with
    | cells c ver minv own =>
      cases own with
      | false => cases h
      | true =>
        simp only [Option.map_some, gO, List.length_map] at h ⊢
        cases hb : (Nat.beq v ver && Nat.ble minv v && Nat.ble (i + xs.length) c.length) with
        | false => rw [hb] at h; cases h
        | true => rw [hb] at h; cases h; simp [gS_put, gO, List.map_drop, List.map_take]
    | _ => cases h
/-! ### Lines -/
def AV.isF : AV → Bool
  | .float .f64 _ => true
  | _ => false
def lnOf : AV → Option Ln
  | .int k a => some ⟨k, a, 0⟩
  | .float .f64 n => some (decL n)
  | _ => none
/-- A number u of a span. -/
structure Sp where
  lo : Int
  hi : Int
def Ln.at (l : Ln) (u : Int) : Int := l.a + l.b * u
def Ln.lo (s : Sp) (l : Ln) : Int := l.a + (if 0 ≤ l.b then l.b * s.lo else l.b * s.hi)
def Ln.hi (s : Sp) (l : Ln) : Int := l.a + (if 0 ≤ l.b then l.b * s.hi else l.b * s.lo)
def Sp.has (s : Sp) (u : Int) : Prop := s.lo ≤ u ∧ u ≤ s.hi
theorem Ln.lo_le {s : Sp} (h : s.has u) (l : Ln) : l.lo s ≤ l.at u := by
  unfold Ln.lo Ln.at
  split
  · rename_i hb; have := Int.mul_le_mul_of_nonneg_left h.1 hb; omega
  · rename_i hb; have := Int.mul_le_mul_of_nonpos_left (show l.b ≤ 0 by omega) h.2; omega
theorem Ln.le_hi {s : Sp} (h : s.has u) (l : Ln) : l.at u ≤ l.hi s := by
  unfold Ln.hi Ln.at
  split
  · rename_i hb; have := Int.mul_le_mul_of_nonneg_left h.2 hb; omega
  · rename_i hb; have := Int.mul_le_mul_of_nonpos_left (show l.b ≤ 0 by omega) h.1; omega
/-- A line as a value; it must be told back, and keep to its kind. -/
def mkL (s : Sp) (l : Ln) : Option AV :=
  if l.k.min ≤ l.lo s ∧ l.hi s ≤ l.k.max then
    if l.b = 0 then some (.int l.k l.a) else
    let n := encL l
    let m := decL n
    if m.k = l.k ∧ m.a = l.a ∧ m.b = l.b then some (.float .f64 n) else none
  else none
theorem mkL_g {s : Sp} (h : s.has u) {l : Ln} {v : AV} (hv : mkL s l = some v) : gV u v = .int l.k (l.at u) ∧ l.k.min ≤ l.at u ∧ l.at u ≤ l.k.max := by
  unfold mkL at hv
  split at hv
  · rename_i hr
    have h1 := l.lo_le h
    have h2 := l.le_hi h
    refine ⟨?_, by omega, by omega⟩
    split at hv
    · rename_i hb; cases hv; simp [Ln.at, hb]
    · dsimp only at hv
      split at hv
      · rename_i hm; cases hv; simp [Ln.at, hm.1, hm.2.1, hm.2.2]
      · cases hv
  · cases hv
theorem lnOf_g {v : AV} {l : Ln} (h : lnOf v = some l) : gV u v = .int l.k (l.at u) := by
  unfold lnOf at h
  split at h
  · cases h; simp [Ln.at]
  · cases h; simp [Ln.at]
  · cases h
def subL (x y : Ln) : Ln := ⟨x.k, x.a - y.a, x.b - y.b⟩
theorem subL_at (x y : Ln) : (subL x y).at u = x.at u - y.at u := by
  simp only [subL, Ln.at, Int.sub_mul]; omega
/-- Is x below y, for all u or for none? -/
def ltL (s : Sp) (x y : Ln) : Option Bool :=
  let d := subL x y
  if d.hi s < 0 then some true else if 0 ≤ d.lo s then some false else none
theorem ltL_g {s : Sp} (h : s.has u) {x y : Ln} {b : Bool} (hb : ltL s x y = some b) : decide (x.at u < y.at u) = b := by
  unfold ltL at hb
  have h1 := (subL x y).lo_le h
  have h2 := (subL x y).le_hi h
  have h3 := subL_at (u := u) x y
  dsimp only at hb
  split at hb
  · cases hb; rw [decide_eq_true_iff]; omega
  · split at hb
    · cases hb; rw [decide_eq_false_iff_not]; omega
    · cases hb
def eqL (s : Sp) (x y : Ln) : Option Bool :=
  let d := subL x y
  if d.hi s < 0 ∨ 0 < d.lo s then some false else if d.lo s = 0 ∧ d.hi s = 0 then some true else none
theorem eqL_g {s : Sp} (h : s.has u) {x y : Ln} {b : Bool} (hb : eqL s x y = some b) : decide (x.at u = y.at u) = b := by
  unfold eqL at hb
  have h1 := (subL x y).lo_le h
  have h2 := (subL x y).le_hi h
  have h3 := subL_at (u := u) x y
  dsimp only at hb
  split at hb
  · cases hb; rw [decide_eq_false_iff_not]; omega
  · split at hb
    · cases hb; rw [decide_eq_true_iff]; omega
    · cases hb
/-- The quotient of a line by a number, where it is the same for all u. -/
def quoL (s : Sp) (x : Ln) (c : Int) : Option Int :=
  if 0 < c ∧ 0 ≤ x.lo s ∧ x.lo s / c = x.hi s / c then some (x.lo s / c) else none
theorem quoL_g {s : Sp} (h : s.has u) {x : Ln} {c q : Int} (hq : quoL s x c = some q) : 0 < c ∧ 0 ≤ x.at u ∧ x.at u / c = q := by
  unfold quoL at hq
  have h1 := x.lo_le h
  have h2 := x.le_hi h
  split at hq
  · rename_i hc
    cases hq
    refine ⟨hc.1, by omega, ?_⟩
    have a1 := Int.ediv_le_ediv hc.1 h1
    have a2 := Int.ediv_le_ediv hc.1 h2
    omega
  · cases hq
def binL (s : Sp) (op : BinOp) (x y : Ln) : Option AV :=
  match op with
  | .add => if x.k = y.k then mkL s ⟨x.k, x.a + y.a, x.b + y.b⟩ else none
  | .sub => if x.k = y.k then mkL s ⟨x.k, x.a - y.a, x.b - y.b⟩ else none
  | .mul => if x.k = y.k then (if y.b = 0 then mkL s ⟨x.k, x.a * y.a, x.b * y.a⟩ else if x.b = 0 then mkL s ⟨x.k, x.a * y.a, x.a * y.b⟩ else none) else none
  | .quo => if x.k = y.k ∧ y.b = 0 then (quoL s x y.a).bind fun q => mkL s ⟨x.k, q, 0⟩ else none
  | .rem => if x.k = y.k ∧ y.b = 0 then (quoL s x y.a).bind fun q => mkL s ⟨x.k, x.a - q * y.a, x.b⟩ else none
  | .eql => if x.k = y.k then (eqL s x y).map .bool else none
  | .neq => if x.k = y.k then (eqL s x y).map fun b => .bool (!b) else none
  | .lss => if x.k = y.k then (ltL s x y).map .bool else none
  | .leq => if x.k = y.k then (ltL s y x).map fun b => .bool (!b) else none
  | .gtr => if x.k = y.k then (ltL s y x).map .bool else none
  | .geq => if x.k = y.k then (ltL s x y).map fun b => .bool (!b) else none
  | _ => none
theorem wrap_in {k : IntKind} {n : Int} (h1 : k.min ≤ n) (h2 : n ≤ k.max) : k.wrap n = n := by
  cases k <;> simp only [IntKind.min, IntKind.max, IntKind.signed, IntKind.bits] at h1 h2 <;> simp only [IntKind.wrap, IntKind.signed, IntKind.bits] <;> simp at h1 h2 ⊢ <;> omega
end
end Go.Proofs.YtdppfdpmpekpnaaGreatA
