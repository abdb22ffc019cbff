/- Numbers that are not known: a value may be a form, linear in numbers of known spans; what an operation comes to for each u of the span. -/
import Derived.Test.YtajoogahcgbohaaGreatAeS1
set_option linter.unusedVariables false
set_option linter.unusedSimpArgs false
namespace Go.Proofs.YtajoogahcgbohaaGreatA
open Go.RowKit

/-! ### What a value is for given numbers -/
abbrev Asg := Nat → Int
def kOf (n : Nat) : IntKind := match n with
  | 0 => .i8 | 1 => .i16 | 2 => .i32 | 3 => .i64 | 4 => .u8 | 5 => .u16 | 6 => .u32 | _ => .u64
/-- A form: a number, and how often each number u 0, u 1 .. -/
structure Ln where
  k : IntKind
  a : Int
  c : List Int
def dot : List Int → Nat → Asg → Int
  | [], _, _ => 0
  | b :: r, i, u => b * u i + dot r (i + 1) u
def Ln.at (l : Ln) (u : Asg) : Int := l.a + dot l.c 0 u
def decC : Nat → Nat → List Int
  | 0, _ => []
  | j + 1, m => (((m % 1180591620717411303424 : Nat) : Int) - 590295810358705651712) :: decC j (m / 1180591620717411303424)
def encC : List Int → Nat
  | [] => 0
  | b :: r => (b + 590295810358705651712).toNat + 1180591620717411303424 * encC r
/-- A form told as a number: 8, 64, 2^80, then 2^70 each. -/
def decL (n : Nat) : Ln := ⟨kOf (n % 8), ((n / 512 % 1208925819614629174706176 : Nat) : Int) - 604462909807314587353088, decC (n / 8 % 64) (n / 512 / 1208925819614629174706176)⟩
def encL (l : Ln) : Nat := (encC l.c * 1208925819614629174706176 + (l.a + 604462909807314587353088).toNat) * 512 + l.c.length * 8 + (match l.k with | .i8 => 0 | .i16 => 1 | .i32 => 2 | .i64 => 3 | .u8 => 4 | .u16 => 5 | .u32 => 6 | .u64 => 7)
mutual
def gV (u : Asg) : AV → AV
  | .float .f64 n => .int (decL n).k ((decL n).at u)
  | .func f l => .func f (gVs u l)
  | .agg l => .agg (gVs u l)
  | .tuple l => .tuple (gVs u l)
  | .iface t v => .iface t (gV u v)
  | v => v
def gVs (u : Asg) : List AV → List AV
  | [] => []
  | v :: r => gV u v :: gVs u r
end
theorem gVs_eq (u : Asg) : ∀ l, gVs u l = l.map (gV u)
  | [] => by simp [gVs]
  | v :: r => by simp [gVs, gVs_eq u r]
section
variable {u : Asg}
@[simp] theorem g_int {k n} : gV u (.int k n) = .int k n := by simp [gV]
@[simp] theorem g_bool {b} : gV u (.bool b) = .bool b := by simp [gV]
@[simp] theorem g_f32 {b} : gV u (.float .f32 b) = .float .f32 b := by simp [gV]
@[simp] theorem g_f64 {n} : gV u (.float .f64 n) = .int (decL n).k ((decL n).at u) := by simp [gV]
@[simp] theorem g_str {s} : gV u (.str s) = .str s := by simp [gV]
@[simp] theorem g_ptr {a} : gV u (.ptr a) = .ptr a := by simp [gV]
@[simp] theorem g_slice {a l e c} : gV u (.slice a l e c) = .slice a l e c := by simp [gV]
@[simp] theorem g_func {f l} : gV u (.func f l) = .func f (l.map (gV u)) := by simp [gV, gVs_eq]
@[simp] theorem g_nilFunc : gV u .nilFunc = .nilFunc := by simp [gV]
@[simp] theorem g_iface {t v} : gV u (.iface t v) = .iface t (gV u v) := by simp [gV]
@[simp] theorem g_nilIface : gV u .nilIface = .nilIface := by simp [gV]
@[simp] theorem g_agg {l} : gV u (.agg l) = .agg (l.map (gV u)) := by simp [gV, gVs_eq]
@[simp] theorem g_tuple {l} : gV u (.tuple l) = .tuple (l.map (gV u)) := by simp [gV, gVs_eq]
@[simp] theorem g_map {r} : gV u (.map r) = .map r := by simp [gV]
end
def gO (u : Asg) : AO → AO
  | .cells c v m o => .cells (c.map (gV u)) v m o
  | .fork c v m g => .fork (c.map (gV u)) v m g
  | x => x
def Tr.map {α β : Type} (f : α → β) : Tr α → Tr β
  | .lf => .lf
  | .nd l v r => .nd (l.map f) (v.map f) (r.map f)
theorem Tr.get_map {α β : Type} (f : α → β) : ∀ (t : Tr α) (k : Nat), (t.map f).get k = (t.get k).map f
  | .lf, k => rfl
  | .nd l v r, 0 => rfl
  | .nd l v r, j + 1 => by
    simp only [Tr.map, Tr.get]
    cases Nat.beq (j % 2) 0 <;> simp [Tr.get_map f]
theorem Tr.sing_map {α β : Type} (f : α → β) (v : α) : ∀ (n k : Nat), (Tr.sing v n k).map f = Tr.sing (f v) n k
  | 0, k => rfl
  | n + 1, 0 => rfl
  | n + 1, j + 1 => by
    simp only [Tr.sing]
    cases Nat.beq (j % 2) 0 <;> simp [Tr.map, Tr.sing_map f v n]
theorem Tr.set_map {α β : Type} (f : α → β) : ∀ (t : Tr α) (k : Nat) (v : α), (t.set k v).map f = (t.map f).set k (f v)
  | .lf, k, v => Tr.sing_map f v k k
  | .nd l x r, 0, v => rfl
  | .nd l x r, j + 1, v => by
    simp only [Tr.set, Tr.map]
    cases Nat.beq (j % 2) 0 <;> simp [Tr.map, Tr.set_map f]
def gT (u : Asg) (T : Tm) : Tm := T.map (gV u)
def gS (u : Asg) (S : St) : St := ⟨S.next, S.objs.map (gO u)⟩
section
variable {u : Asg}
theorem gT_get (T : Tm) (i : Nat) : (gT u T).get i = (T.get i).map (gV u) := Tr.get_map _ _ _
theorem gT_set (T : Tm) (i : Nat) (v : AV) : gT u (T.set i v) = (gT u T).set i (gV u v) := Tr.set_map _ _ _ _
theorem gS_get (S : St) (o : Nat) : (gS u S).get o = (S.get o).map (gO u) := Tr.get_map _ _ _
theorem gS_put (S : St) (o : Nat) (x : AO) : gS u (S.put o x) = (gS u S).put o (gO u x) := by
  simp only [gS, St.put, Tr.set_map]
theorem gS_alloc (S : St) (x : AO) : gS u (S.alloc x) = (gS u S).alloc (gO u x) := by
  simp only [gS, St.alloc, Tr.set_map]
theorem gS_next (S : St) : (gS u S).next = S.next := rfl
theorem rd_g {S : St} {o v i n : Nat} {l : List AV} (h : S.rd o v i n = some l) : (gS u S).rd o v i n = some (l.map (gV u)) := by
  unfold St.rd at h ⊢
  rw [gS_get]
  cases hg : S.get o with
  | none => rw [hg] at h; cases h
  | some x =>
    rw [hg] at h
    cases x with
    | cells c ver minv own =>
      simp only [Option.map_some, gO, List.length_map] at h ⊢
      cases hb : (Nat.ble minv v && Nat.ble v ver && Nat.ble (i + n) c.length) with
      | false => rw [hb] at h; cases h
      | true => rw [hb] at h; cases h; simp [List.map_drop, List.map_take]
    | fork c ver minv g =>
      simp only [Option.map_some, gO, List.length_map] at h ⊢
      cases hb : (Nat.ble minv v && Nat.ble v ver && Nat.ble (i + n) c.length && (Nat.beq v ver || Nat.ble (i + n) g)) with
      | false => rw [hb] at h; cases h
      | true => rw [hb] at h; cases h; simp [List.map_drop, List.map_take]
    | _ => cases h
theorem wr_g {S S' : St} {o v i : Nat} {xs : List AV} (h : S.wr o v i xs = some S') : (gS u S).wr o v i (xs.map (gV u)) = some (gS u S') := by
  unfold St.wr at h ⊢
  rw [gS_get]
  cases hg : S.get o with
  | none => rw [hg] at h; cases h
  | some x =>
    rw [hg] at h
    cases x with
    | cells c ver minv own =>
      cases own with
      | false => cases h
      | true =>
        simp only [Option.map_some, gO, List.length_map] at h ⊢
        cases hb : (Nat.beq v ver && Nat.ble minv v && Nat.ble (i + xs.length) c.length) with
        | false => rw [hb] at h; cases h
        | true => rw [hb] at h; cases h; simp [gS_put, gO, List.map_drop, List.map_take]
    | _ => cases h
/-! ### Forms -/
def AV.isF : AV → Bool
  | .float .f64 _ => true
  | _ => false
def lnOf : AV → Option Ln
  | .int k a => some ⟨k, a, []⟩
  | .float .f64 n => some (decL n)
  | _ => none
/-- Spans of the numbers; and what else is known of them. -/
structure Sp where
  bs : List (Int × Int)
  ex : Asg → Prop
def hasB : List (Int × Int) → Nat → Asg → Prop
  | [], i, u => ∀ j, i ≤ j → u j = 0
  | p :: t, i, u => p.1 ≤ u i ∧ u i ≤ p.2 ∧ hasB t (i + 1) u
def Sp.has (s : Sp) (u : Asg) : Prop := hasB s.bs 0 u ∧ s.ex u
def loD : List Int → List (Int × Int) → Int
  | [], _ => 0
  | _ :: _, [] => 0
  | b :: r, p :: t => (if 0 ≤ b then b * p.1 else b * p.2) + loD r t
def hiD : List Int → List (Int × Int) → Int
  | [], _ => 0
  | _ :: _, [] => 0
  | b :: r, p :: t => (if 0 ≤ b then b * p.2 else b * p.1) + hiD r t
theorem dot_zero : ∀ (c : List Int) (i : Nat), (∀ j, i ≤ j → u j = 0) → dot c i u = 0
  | [], _, _ => rfl
  | b :: r, i, h => by
    simp only [dot]
    rw [h i (Nat.le_refl _), dot_zero r (i + 1) fun j hj => h j (by omega)]
    omega
theorem dot_bd : ∀ (c : List Int) (t : List (Int × Int)) (i : Nat), hasB t i u → loD c t ≤ dot c i u ∧ dot c i u ≤ hiD c t
  | [], _, _, _ => by simp [loD, hiD, dot]
  | b :: r, [], i, h => by
    rw [dot_zero (b :: r) i h]; simp [loD, hiD]
  | b :: r, p :: t, i, h => by
    obtain ⟨h1, h2, h3⟩ := h
    have ih := dot_bd r t (i + 1) h3
    simp only [loD, hiD, dot]
    by_cases hb : 0 ≤ b
    · rw [if_pos hb, if_pos hb]
      have a1 := Int.mul_le_mul_of_nonneg_left h1 hb
      have a2 := Int.mul_le_mul_of_nonneg_left h2 hb
      omega
    · rw [if_neg hb, if_neg hb]
      have a1 := Int.mul_le_mul_of_nonpos_left (show b ≤ 0 by omega) h2
      have a2 := Int.mul_le_mul_of_nonpos_left (show b ≤ 0 by omega) h1
      omega
def Ln.lo (s : Sp) (l : Ln) : Int := l.a + loD l.c s.bs
def Ln.hi (s : Sp) (l : Ln) : Int := l.a + hiD l.c s.bs
theorem Ln.lo_le {s : Sp} (h : s.has u) (l : Ln) : l.lo s ≤ l.at u := by
  have := (dot_bd l.c s.bs 0 h.1).1
  unfold Ln.lo Ln.at; omega
theorem Ln.le_hi {s : Sp} (h : s.has u) (l : Ln) : l.at u ≤ l.hi s := by
  have := (dot_bd l.c s.bs 0 h.1).2
  unfold Ln.hi Ln.at; omega
def trimC : List Int → List Int
  | [] => []
  | b :: r => match trimC r with
    | [] => if b = 0 then [] else [b]
    | x :: y => b :: x :: y
theorem trim_dot : ∀ (c : List Int) (i : Nat), dot (trimC c) i u = dot c i u
  | [], _ => rfl
  | b :: r, i => by
    have ih := trim_dot r (i + 1)
    simp only [trimC]
    cases h : trimC r with
    | nil =>
      rw [h] at ih
      simp only [dot] at ih ⊢
      split
      · rename_i hb; subst hb; simp only [dot]; omega
      · simp only [dot]; omega
    | cons x y =>
      rw [h] at ih
      simp only [dot] at ih ⊢
      omega
def eqC : List Int → List Int → Bool
  | [], [] => true
  | a :: x, b :: y => decide (a = b) && eqC x y
  | _, _ => false
theorem eqC_eq : ∀ {a b : List Int}, eqC a b = true → a = b
  | [], [], _ => rfl
  | [], _ :: _, h => by cases h
  | _ :: _, [], h => by cases h
  | a :: x, b :: y, h => by
    simp only [eqC, Bool.and_eq_true, decide_eq_true_eq] at h
    rw [h.1, eqC_eq h.2]
/-- Numbers of which one alone is in their span. -/
def fixK : List Int → List (Int × Int) → Int
  | [], _ => 0
  | _ :: _, [] => 0
  | b :: r, p :: t => (if p.1 = p.2 then b * p.1 else 0) + fixK r t
def fixC : List Int → List (Int × Int) → List Int
  | [], _ => []
  | _ :: _, [] => []
  | b :: r, p :: t => (if p.1 = p.2 then 0 else b) :: fixC r t
theorem fix_dot : ∀ (c : List Int) (t : List (Int × Int)) (i : Nat), hasB t i u → dot c i u = fixK c t + dot (fixC c t) i u
  | [], _, _, _ => by simp [fixK, fixC, dot]
  | b :: r, [], i, h => by rw [dot_zero (b :: r) i h]; simp [fixK, fixC, dot]
  | b :: r, p :: t, i, h => by
    obtain ⟨h1, h2, h3⟩ := h
    have ih := fix_dot r t (i + 1) h3
    simp only [fixK, fixC, dot, ih]
    by_cases hp : p.1 = p.2
    · rw [if_pos hp, if_pos hp]
      have : u i = p.1 := by omega
      rw [this]; omega
    · rw [if_neg hp, if_neg hp]; omega
/-- A form as a value; it must be told back, and keep to its kind. -/
def mkL (s : Sp) (l : Ln) : Option AV :=
  if l.k.min ≤ l.lo s ∧ l.hi s ≤ l.k.max then
    let a := l.a + fixK l.c s.bs
    match trimC (fixC l.c s.bs) with
    | [] => some (.int l.k a)
    | b :: r =>
      let n := encL ⟨l.k, a, b :: r⟩
      let m := decL n
      if m.k = l.k ∧ m.a = a ∧ eqC m.c (b :: r) = true then some (.float .f64 n) else none
  else none
theorem mkL_g {s : Sp} (h : s.has u) {l : Ln} {v : AV} (hv : mkL s l = some v) : gV u v = .int l.k (l.at u) ∧ l.k.min ≤ l.at u ∧ l.at u ≤ l.k.max := by
  unfold mkL at hv
  split at hv
  · rename_i hr
    have h1 := l.lo_le h
    have h2 := l.le_hi h
    have ht := trim_dot (u := u) (fixC l.c s.bs) 0
    have hx := fix_dot l.c s.bs 0 h.1
    refine ⟨?_, by omega, by omega⟩
    dsimp only at hv
    split at hv
    · rename_i hb
      rw [hb] at ht
      cases hv
      have e : l.at u = l.a + fixK l.c s.bs := by unfold Ln.at; rw [hx, ← ht]; simp only [dot]; omega
      rw [e]; simp
    · rename_i b r hb
      rw [hb] at ht
      split at hv
      · rename_i hm
        cases hv
        simp only [g_f64, hm.1]
        unfold Ln.at
        rw [hm.2.1, eqC_eq hm.2.2, ht, hx]
        congr 1; omega
      · cases hv
  · cases hv
theorem lnOf_g {v : AV} {l : Ln} (h : lnOf v = some l) : gV u v = .int l.k (l.at u) := by
  unfold lnOf at h
  split at h
  · cases h; simp [Ln.at, dot]
  · cases h; simp
  · cases h
def addC : List Int → List Int → List Int
  | [], y => y
  | x, [] => x
  | a :: x, b :: y => (a + b) :: addC x y
def mulC (k : Int) : List Int → List Int
  | [] => []
  | a :: x => a * k :: mulC k x
theorem addC_dot : ∀ (x y : List Int) (i : Nat), dot (addC x y) i u = dot x i u + dot y i u
  | [], y, i => by cases y <;> simp [addC, dot]
  | a :: x, [], i => by simp [addC, dot]
  | a :: x, b :: y, i => by simp only [addC, dot, addC_dot x y (i + 1), Int.add_mul]; omega
theorem mulC_dot (k : Int) : ∀ (x : List Int) (i : Nat), dot (mulC k x) i u = dot x i u * k
  | [], i => by simp [mulC, dot]
  | a :: x, i => by simp only [mulC, dot, mulC_dot k x (i + 1), Int.add_mul]; rw [Int.mul_right_comm]
def addL (x y : Ln) : Ln := ⟨x.k, x.a + y.a, addC x.c y.c⟩
def mulL (x : Ln) (k : Int) : Ln := ⟨x.k, x.a * k, mulC k x.c⟩
def subL (x y : Ln) : Ln := ⟨x.k, x.a - y.a, addC x.c (mulC (-1) y.c)⟩
theorem addL_at (x y : Ln) : (addL x y).at u = x.at u + y.at u := by simp only [addL, Ln.at, addC_dot]; omega
theorem mulL_at (x : Ln) (k : Int) : (mulL x k).at u = x.at u * k := by simp only [mulL, Ln.at, mulC_dot, Int.add_mul]
theorem subL_at (x y : Ln) : (subL x y).at u = x.at u - y.at u := by simp only [subL, Ln.at, addC_dot, mulC_dot]; omega
/-- Is x below y, for all or for none? -/
def ltL (s : Sp) (x y : Ln) : Option Bool :=
  let d := subL x y
  if d.hi s < 0 then some true else if 0 ≤ d.lo s then some false else none
theorem ltL_g {s : Sp} (h : s.has u) {x y : Ln} {b : Bool} (hb : ltL s x y = some b) : decide (x.at u < y.at u) = b := by
  unfold ltL at hb
  have h1 := (subL x y).lo_le h
  have h2 := (subL x y).le_hi h
  have h3 := subL_at (u := u) x y
  dsimp only at hb
  split at hb
  · cases hb; rw [decide_eq_true_iff]; omega
  · split at hb
    · cases hb; rw [decide_eq_false_iff_not]; omega
    · cases hb
def eqL (s : Sp) (x y : Ln) : Option Bool :=
  let d := subL x y
  if d.hi s < 0 ∨ 0 < d.lo s then some false else if d.lo s = 0 ∧ d.hi s = 0 then some true else none
theorem eqL_g {s : Sp} (h : s.has u) {x y : Ln} {b : Bool} (hb : eqL s x y = some b) : decide (x.at u = y.at u) = b := by
  unfold eqL at hb
  have h1 := (subL x y).lo_le h
  have h2 := (subL x y).le_hi h
  have h3 := subL_at (u := u) x y
  dsimp only at hb
  split at hb
  · cases hb; rw [decide_eq_false_iff_not]; omega
  · split at hb
    · cases hb; rw [decide_eq_true_iff]; omega
    · cases hb
/-! ### Quotients -/
def divC (d : Int) : List Int → List Int
  | [] => []
  | a :: x => a / d :: divC d x
def remC (d : Int) : List Int → List Int
  | [] => []
  | a :: x => a % d :: remC d x
theorem divC_dot {d : Int} : ∀ (x : List Int) (i : Nat), dot x i u = d * dot (divC d x) i u + dot (remC d x) i u
  | [], i => by simp [divC, remC, dot]
  | a :: x, i => by
    simp only [divC, remC, dot]
    rw [divC_dot (d := d) x (i + 1)]
    have h : a = d * (a / d) + a % d := (Int.mul_ediv_add_emod a d).symm
    have h2 : a * u i = d * (a / d * u i) + a % d * u i := by
      conv => lhs; rw [h]
      rw [Int.add_mul, Int.mul_assoc]
    rw [h2, Int.mul_add]
    omega
/-- The quotient, the remainder of a form by a number; the floor. -/
def qrL (s : Sp) (x : Ln) (d : Int) : Option (Ln × Ln) :=
  let r : Ln := ⟨x.k, x.a % d, remC d x.c⟩
  let m := r.lo s / d
  if 0 < d ∧ r.hi s / d = m then some (⟨x.k, x.a / d + m, divC d x.c⟩, ⟨x.k, x.a % d - m * d, remC d x.c⟩) else none
theorem qrL_g {s : Sp} (h : s.has u) {x q r : Ln} {d : Int} (hq : qrL s x d = some (q, r)) : 0 < d ∧ q.at u = x.at u / d ∧ r.at u = x.at u % d ∧ q.k = x.k ∧ r.k = x.k := by
  unfold qrL at hq
  dsimp only at hq
  split at hq
  · rename_i hc
    cases hq
    have h1 := (⟨x.k, x.a % d, remC d x.c⟩ : Ln).lo_le h
    have h2 := (⟨x.k, x.a % d, remC d x.c⟩ : Ln).le_hi h
    have a1 := Int.ediv_le_ediv hc.1 h1
    have a2 := Int.ediv_le_ediv hc.1 h2
    obtain ⟨m, hm⟩ : ∃ m, (⟨x.k, x.a % d, remC d x.c⟩ : Ln).lo s / d = m := ⟨_, rfl⟩
    rw [hc.2] at a2
    rw [hm] at a1 a2 ⊢
    have e1 : (⟨x.k, x.a % d, remC d x.c⟩ : Ln).at u / d = m := by omega
    have e2 : x.at u = d * (x.a / d + dot (divC d x.c) 0 u) + (⟨x.k, x.a % d, remC d x.c⟩ : Ln).at u := by
      unfold Ln.at
      dsimp only
      have b1 := divC_dot (u := u) (d := d) x.c 0
      have b2 := Int.mul_ediv_add_emod x.a d
      rw [Int.mul_add, b1]
      omega
    obtain ⟨R, hR⟩ : ∃ R, (⟨x.k, x.a % d, remC d x.c⟩ : Ln).at u = R := ⟨_, rfl⟩
    rw [hR] at e1 e2
    have e3 := Int.mul_ediv_add_emod R d
    rw [e1] at e3
    have hne : d ≠ 0 := by omega
    have f1 : x.at u / d = (x.a / d + dot (divC d x.c) 0 u) + m := by rw [e2, Int.add_comm, Int.add_mul_ediv_left _ _ hne, e1]; omega
    have f2 : x.at u % d = R % d := by rw [e2, Int.add_comm, Int.add_mul_emod_self_left]
    refine ⟨hc.1, ?_, ?_, rfl, rfl⟩
    · rw [f1]
      show (x.a / d + m) + dot (divC d x.c) 0 u = _
      omega
    · rw [f2]
      have hR' : x.a % d + dot (remC d x.c) 0 u = R := hR
      show (x.a % d - m * d) + dot (remC d x.c) 0 u = _
      rw [Int.mul_comm] at e3
      omega
  · cases hq
theorem wrap_in {k : IntKind} {n : Int} (h1 : k.min ≤ n) (h2 : n ≤ k.max) : k.wrap n = n := by
  cases k <;> simp only [IntKind.min, IntKind.max, IntKind.signed, IntKind.bits] at h1 h2 <;> simp only [IntKind.wrap, IntKind.signed, IntKind.bits] <;> simp at h1 h2 ⊢ <;> omega
end
end Go.Proofs.YtajoogahcgbohaaGreatA
