/- An abstract evaluator, part C: how abstract values and states stand to values and worlds. -/
import Derived.Test.YtajoogahcgbohaaGreatAeB
set_option linter.unusedVariables false
set_option linter.unusedSimpArgs false
namespace Go.Proofs.YtajoogahcgbohaaGreatA
open Go.RowKit

/-- Where a version of an object lies: a block; its cell 'start' at 'boff' of the block; it reaches to 'ext'; the block has room for so many cells from there on. -/
structure Loc where
  blk : Nat
  boff : Nat
  start : Nat
  ext : Nat
  room : Nat
def Loc.at (L : Loc) (i : Nat) : Nat := L.boff + (i - L.start)
abbrev Rho := Nat → Nat → Option Loc
def Rho.le (ρ ρ' : Rho) : Prop := ∀ o v L, ρ o v = some L → ρ' o v = some L
theorem Rho.le_refl (ρ : Rho) : ρ.le ρ := fun _ _ _ h => h
theorem Rho.le_trans {ρ ρ' ρ'' : Rho} (h : ρ.le ρ') (k : ρ'.le ρ'') : ρ.le ρ'' := fun o v L e => k o v L (h o v L e)
def bytesN (s : ByteArray) : List Nat := s.data.toList.map UInt8.toNat

mutual
inductive VR (ρ : Rho) : AV → Value → Prop
  | int {k : IntKind} {n : Int} (h : (Lit.int k n).wf = true) : VR ρ (.int k n) (.int k n)
  | bool {b : Bool} : VR ρ (.bool b) (.bool b)
  | float {k : FloatKind} {b : Nat} : VR ρ (.float k b) (.float k b)
  | str {l : List Nat} {s : ByteArray} (h : bytesN s = l) : VR ρ (.str l) (.string s)
  | ptrNil : VR ρ (.ptr none) (.pointer none)
  | ptr {p : Pl} {L : Loc} {a : Addr} (hL : ρ p.o p.v = some L) (h0 : L.start ≤ p.i) (h1 : p.i + p.n ≤ L.ext) (ha : a = ⟨L.blk, L.at p.i, none⟩) : VR ρ (.ptr (some p)) (.pointer (some a))
  | sliceNil {esz : Nat} {clip : Option Nat} : VR ρ (.slice none 0 esz clip) (.slice none 0 0)
  | slice {o v i len esz cap : Nat} {clip : Option Nat} {L : Loc} {a : Addr} (hL : ρ o v = some L) (h0 : L.start ≤ i) (h1 : i + len * esz ≤ L.ext) (h2 : i + cap * esz ≤ L.start + L.room)
      (h3 : len ≤ cap) (h4 : ∀ c, clip = some c → cap = c) (ha : cap = 0 ∨ a = ⟨L.blk, L.at i, none⟩) : VR ρ (.slice (some (o, v, i)) len esz clip) (.slice (some a) len cap)
  | func {f : Nat} {l : List AV} {cs : Array Value} (h : VRs ρ l cs.toList) : VR ρ (.func f l) (.func (.func f) #[] cs)
  | nilFunc : VR ρ .nilFunc .nilFunc
  | iface {t : Nat} {v : AV} {c : Value} (h : VR ρ v c) : VR ρ (.iface t v) (.iface t c)
  | nilIface : VR ρ .nilIface .nilIface
  | agg {l : List AV} {cs : Array Value} (h : VRs ρ l cs.toList) (h' : l.all AV.atom = true) : VR ρ (.agg l) (.agg cs)
  | tuple {l : List AV} {cs : Array Value} (h : VRs ρ l cs.toList) : VR ρ (.tuple l) (.tuple cs)
  | map {o : Nat} {L : Loc} (hL : ρ o 0 = some L) : VR ρ (.map (some o)) (.map (some L.blk))
inductive VRs (ρ : Rho) : List AV → List Value → Prop
  | nil : VRs ρ [] []
  | cons {a : AV} {v : Value} {l : List AV} {cs : List Value} (h : VR ρ a v) (t : VRs ρ l cs) : VRs ρ (a :: l) (v :: cs)
end
mutual
theorem VR.mono {ρ ρ' : Rho} (hle : ρ.le ρ') : ∀ {a : AV} {v : Value}, VR ρ a v → VR ρ' a v
  | _, _, .int h => .int h
  | _, _, .bool => .bool
  | _, _, .float => .float
  | _, _, .str h => .str h
  | _, _, .ptrNil => .ptrNil
  | _, _, .ptr hL h0 h1 ha => .ptr (hle _ _ _ hL) h0 h1 ha
  | _, _, .sliceNil => .sliceNil
  | _, _, .slice hL h0 h1 h2 h3 h4 ha => .slice (hle _ _ _ hL) h0 h1 h2 h3 h4 ha
  | _, _, .func h => .func (VRs.mono hle h)
  | _, _, .nilFunc => .nilFunc
  | _, _, .iface h => .iface (VR.mono hle h)
  | _, _, .nilIface => .nilIface
  | _, _, .agg h h' => .agg (VRs.mono hle h) h'
  | _, _, .tuple h => .tuple (VRs.mono hle h)
  | _, _, .map hL => .map (hle _ _ _ hL)
theorem VRs.mono {ρ ρ' : Rho} (hle : ρ.le ρ') : ∀ {l : List AV} {cs : List Value}, VRs ρ l cs → VRs ρ' l cs
  | _, _, .nil => .nil
  | _, _, .cons h t => .cons (VR.mono hle h) (VRs.mono hle t)
end
section
variable {ρ : Rho}
theorem VRs.length {l : List AV} {cs : List Value} (h : VRs ρ l cs) : cs.length = l.length := by
  induction l generalizing cs with
  | nil => cases h; rfl
  | cons a l ih => cases h with | cons h t => simp [ih t]
theorem VRs.get {l : List AV} {cs : List Value} (h : VRs ρ l cs) {i : Nat} {a : AV} (hi : l[i]? = some a) : ∃ v, cs[i]? = some v ∧ VR ρ a v := by
  induction l generalizing cs i with
  | nil => simp at hi
  | cons x l ih =>
    cases h with
    | cons h t =>
      cases i with
      | zero => simp at hi; subst hi; exact ⟨_, rfl, h⟩
      | succ i => simp at hi; simpa using ih t hi
theorem VRs.of_get {l : List AV} {cs : List Value} (hl : cs.length = l.length) (h : ∀ (i : Nat) a v, l[i]? = some a → cs[i]? = some v → VR ρ a v) : VRs ρ l cs := by
  induction l generalizing cs with
  | nil => cases cs with | nil => exact .nil | cons => simp at hl
  | cons a l ih =>
    cases cs with
    | nil => simp at hl
    | cons v cs => exact .cons (h 0 a v rfl rfl) (ih (by simpa using hl) fun i a v h1 h2 => h (i + 1) a v (by simpa using h1) (by simpa using h2))
theorem VRs.append {l l' : List AV} {cs cs' : List Value} (h : VRs ρ l cs) (h' : VRs ρ l' cs') : VRs ρ (l ++ l') (cs ++ cs') := by
  induction l generalizing cs with
  | nil => cases h; exact h'
  | cons a l ih => cases h with | cons h t => exact .cons h (ih t)
theorem VRs.take {l : List AV} {cs : List Value} (h : VRs ρ l cs) (n : Nat) : VRs ρ (l.take n) (cs.take n) := by
  induction l generalizing cs n with
  | nil => cases h; simp; exact .nil
  | cons a l ih => cases h with | cons h t => cases n with
    | zero => exact .nil
    | succ n => exact .cons h (ih t n)
theorem VRs.drop {l : List AV} {cs : List Value} (h : VRs ρ l cs) (n : Nat) : VRs ρ (l.drop n) (cs.drop n) := by
  induction l generalizing cs n with
  | nil => cases h; simp; exact .nil
  | cons a l ih => cases h with | cons h t => cases n with
    | zero => exact .cons h t
    | succ n => exact ih t n
theorem VRs.one {a : AV} {v : Value} (h : VR ρ a v) : VRs ρ [a] [v] := .cons h .nil
theorem VR.atom {a : AV} {v : Value} (h : VR ρ a v) : v.oneCell' = a.atom := by cases h <;> rfl
theorem VRs.atoms {l : List AV} {cs : List Value} (h : VRs ρ l cs) (ha : l.all AV.atom = true) : ∀ v ∈ cs, v.oneCell' = true := by
  induction l generalizing cs with
  | nil => cases h; simp
  | cons a l ih =>
    cases h with
    | cons h t =>
      simp only [List.all_cons, Bool.and_eq_true] at ha
      intro v hv
      rcases List.mem_cons.1 hv with rfl | hv
      · rw [VR.atom h]; exact ha.1
      · exact ih t ha.2 v hv
theorem VR.cells {a : AV} {v : Value} (h : VR ρ a v) : VRs ρ a.cells v.cells.toList := by
  cases h <;> first | assumption | exact .one (by constructor <;> assumption) | (apply VRs.one; constructor)
theorem VR.undef : VR ρ AV.undef undef := .tuple .nil
end

/-! ### States -/
/-- What is frozen of a block is none of its cells. -/
def Fz (fz : Nat × Nat) (n : Nat) : Prop := fz.1 = fz.2 ∨ n ≤ fz.1
theorem Fz.not {fz : Nat × Nat} {n : Nat} (h : Fz fz n) {j : Nat} (hj : j < n) : ¬ (fz.1 ≤ j ∧ j < fz.2) := by rcases h with h | h <;> omega
structure CellsAt (B : Nat) (ρ : Rho) (w : World) (o : Nat) (c : List AV) (ver minv : Nat) (own : Bool) : Prop where
  vers : ∀ u L, ρ o u = some L → u ≤ ver
  last : ∀ L, ρ o ver = some L → L.ext = c.length
  mem : ∀ u L, ρ o u = some L → minv ≤ u → L.ext ≤ c.length ∧ L.ext ≤ L.start + L.room ∧ ∃ cs e fz, w.heap[L.blk]? = some (.cells cs e fz) ∧ L.boff + L.room ≤ cs.size ∧
    (∀ i, L.start ≤ i → i < L.ext → ∃ a v, c[i]? = some a ∧ cs[L.at i]? = some v ∧ VR ρ a v) ∧ (own = true → Fz fz cs.size)
  side : ∀ u L, ρ o u = some L → if own = true then B ≤ L.blk else L.blk < B
  align : ∀ u L u' L', ρ o u = some L → ρ o u' = some L' → L.blk = L'.blk → L.boff = L'.boff ∧ L.start = L'.start
  atoms : c.all AV.atom = true
/-- Cells whose older versions stand up to a place. -/
structure ForkAt (B : Nat) (ρ : Rho) (w : World) (o : Nat) (c : List AV) (ver minv g : Nat) : Prop where
  vers : ∀ u L, ρ o u = some L → u ≤ ver
  last : ∀ L, ρ o ver = some L → L.ext = c.length
  mem : ∀ u L, ρ o u = some L → minv ≤ u → L.ext ≤ L.start + L.room ∧ ∃ cs e fz, w.heap[L.blk]? = some (.cells cs e fz) ∧ L.boff + L.room ≤ cs.size ∧
    (∀ i, L.start ≤ i → i < L.ext → (u = ver ∨ i < g) → ∃ a v, c[i]? = some a ∧ cs[L.at i]? = some v ∧ VR ρ a v) ∧ Fz fz cs.size
  side : ∀ u L, ρ o u = some L → B ≤ L.blk
  align : ∀ u L u' L', ρ o u = some L → ρ o u' = some L' → L.blk = L'.blk → L.boff = L'.boff ∧ L.start = L'.start
  atoms : c.all AV.atom = true
theorem CellsAt.fork {B : Nat} {ρ : Rho} {w : World} {o : Nat} {c : List AV} {ver minv : Nat} (h : CellsAt B ρ w o c ver minv true) : ForkAt B ρ w o c ver minv c.length :=
  ⟨h.vers, h.last, fun u L e hm => by
    obtain ⟨h1, h2, cs, t, fz, h3, h4, h5, h6⟩ := h.mem u L e hm
    exact ⟨h2, cs, t, fz, h3, h4, fun i a b _ => h5 i a b, h6 rfl⟩, fun u L e => by simpa using h.side u L e, h.align, h.atoms⟩
theorem ForkAt.mono {B : Nat} {ρ ρ' : Rho} {w w' : World} {o : Nat} {c : List AV} {ver minv g : Nat} (h : ForkAt B ρ w o c ver minv g) (hρ : ∀ u, ρ' o u = ρ o u) (hle : ρ.le ρ') (same : ∀ u L, ρ o u = some L → w'.heap[L.blk]? = w.heap[L.blk]?) : ForkAt B ρ' w' o c ver minv g :=
  ⟨fun u L e => by rw [hρ] at e; exact h.vers u L e, fun L e => by rw [hρ] at e; exact h.last L e, fun u L e hm => by
    rw [hρ] at e
    obtain ⟨h2, cs, t, fz, h3, h4, h5, h6⟩ := h.mem u L e hm
    refine ⟨h2, cs, t, fz, (same u L e).trans h3, h4, fun i a b d => ?_, h6⟩
    obtain ⟨x, v, g1, g2, g3⟩ := h5 i a b d
    exact ⟨x, v, g1, g2, VR.mono hle g3⟩, fun u L e => by rw [hρ] at e; exact h.side u L e, fun u L u' L' e e' => by rw [hρ] at e e'; exact h.align u L u' L' e e', h.atoms⟩
structure IterAt (B : Nat) (ρ : Rho) (w : World) (o : Nat) (s : List Nat) (pos : Nat) : Prop where
  side : ∀ u L, ρ o u = some L → B ≤ L.blk
  mem : ∀ u L, ρ o u = some L → L.boff = 0 ∧ L.start = 0 ∧ L.ext = 1 ∧ ∃ b, w.heap[L.blk]? = some (.stringIter b pos) ∧ bytesN b = s
  uniq : ∀ u L u' L', ρ o u = some L → ρ o u' = some L' → L.blk = L'.blk
/-- The entries of a map of whole numbers. -/
def toEs (kk kv : IntKind) (l : List (Int × Int × Nat)) : List MapEntry := l.map fun e => { key := .int kk e.1, val := .int kv e.2.1, born := e.2.2 }
structure MapAt (B : Nat) (ρ : Rho) (w : World) (o : Nat) (kk kv : IntKind) (l : List (Int × Int × Nat)) (clock : Nat) : Prop where
  side : ∀ u L, ρ o u = some L → B ≤ L.blk
  mem : ∀ u L, ρ o u = some L → ∃ es, w.heap[L.blk]? = some (.map es clock) ∧ es.toList = toEs kk kv l
  uniq : ∀ u L u' L', ρ o u = some L → ρ o u' = some L' → L.blk = L'.blk
  wf : ∀ e ∈ l, (Lit.int kv e.2.1).wf = true
theorem MapAt.mono {B : Nat} {ρ ρ' : Rho} {w w' : World} {o : Nat} {kk kv : IntKind} {l : List (Int × Int × Nat)} {clock : Nat} (h : MapAt B ρ w o kk kv l clock) (hρ : ∀ u, ρ' o u = ρ o u) (same : ∀ u L, ρ o u = some L → w'.heap[L.blk]? = w.heap[L.blk]?) : MapAt B ρ' w' o kk kv l clock :=
  ⟨fun u L e => by rw [hρ] at e; exact h.side u L e, fun u L e => by
    rw [hρ] at e
    obtain ⟨es, h1, h2⟩ := h.mem u L e
    exact ⟨es, (same u L e).trans h1, h2⟩, fun u L u' L' e e' => by rw [hρ] at e e'; exact h.uniq u L u' L' e e', h.wf⟩
def ObjAt (B : Nat) (ρ : Rho) (w : World) (o : Nat) : AO → Prop
  | .cells c ver minv own => CellsAt B ρ w o c ver minv own
  | .fork c ver minv g => ForkAt B ρ w o c ver minv g
  | .iter s pos => IterAt B ρ w o s pos
  | .map kk kv l c => MapAt B ρ w o kk kv l c
/-- From where a run starts: its world, and blocks that lie ready for what comes later in the text. -/
structure Base where
  w : World
  G : Nat → Option Obj
def Base.of (w : World) : Base := ⟨w, fun _ => none⟩
instance : Coe World Base := ⟨Base.of⟩
instance : Coe Base World := ⟨Base.w⟩
structure Sim (B : Nat) (w0 : Base) (ρ : Rho) (S : St) (w : World) : Prop where
  below : Below B w0 w
  base : B ≤ w.heap.size
  fresh : ∀ o u L, ρ o u = some L → o < S.next
  dom : ∀ o x, S.get o = some x → o < S.next
  heap : ∀ o u L, ρ o u = some L → L.blk < w.heap.size
  obj : ∀ o x, S.get o = some x → ObjAt B ρ w o x
  apart : ∀ o u L o' u' L', ρ o u = some L → ρ o' u' = some L' → o ≠ o' → B ≤ L.blk → L.blk ≠ L'.blk
  gh : ∀ g x, w0.G g = some x → w.heap[g]? = some x ∧ B ≤ g ∧ ∀ o u L, ρ o u = some L → L.blk ≠ g

section
variable {B : Nat} {w0 : Base} {w w' : World} {ρ ρ' : Rho} {S S' : St}
/-- What turns one object, and its blocks or new ones alone. -/
theorem Sim.upd (h : Sim B w0 ρ S w) (o1 : Nat) (x : AO) (hS : ∀ o, S'.get o = if o = o1 then some x else S.get o) (hn : S.next ≤ S'.next) (ho1 : o1 < S'.next)
    (hρ : ∀ o u, o ≠ o1 → ρ' o u = ρ o u) (hle : ρ.le ρ') (hb : Below B w0 w') (hsz : w.heap.size ≤ w'.heap.size)
    (hk : ∀ b, b < w.heap.size → w'.heap[b]? = w.heap[b]? ∨ (B ≤ b ∧ ∃ u L, ρ o1 u = some L ∧ L.blk = b))
    (hin : ∀ u L, ρ' o1 u = some L → L.blk < w'.heap.size)
    (hnew : ∀ u L, ρ' o1 u = some L → w.heap.size ≤ L.blk ∨ ∃ u' L', ρ o1 u' = some L' ∧ L'.blk = L.blk)
    (hx : ObjAt B ρ' w' o1 x) : Sim B w0 ρ' S' w' where
  below := hb
  base := Nat.le_trans h.base hsz
  fresh o u L e := by
    by_cases ho : o = o1
    · subst ho; exact ho1
    · rw [hρ o u ho] at e; exact Nat.lt_of_lt_of_le (h.fresh o u L e) hn
  dom o y e := by
    rw [hS] at e
    by_cases ho : o = o1
    · subst ho; exact ho1
    · rw [if_neg ho] at e; exact Nat.lt_of_lt_of_le (h.dom o y e) hn
  heap o u L e := by
    by_cases ho : o = o1
    · subst ho; exact hin u L e
    · rw [hρ o u ho] at e; exact Nat.lt_of_lt_of_le (h.heap o u L e) hsz
  gh := by
    intro g y hg
    obtain ⟨h1, h2, h3⟩ := h.gh g y hg
    have hlt : g < w.heap.size := by
      rcases Nat.lt_or_ge g w.heap.size with h' | h'
      · exact h'
      · rw [Array.getElem?_eq_none h'] at h1; cases h1
    refine ⟨?_, h2, fun o u L e => ?_⟩
    · rcases hk g hlt with h4 | ⟨_, u, L, e, h5⟩
      · rw [h4]; exact h1
      · exact absurd h5 (h3 o1 u L e)
    · by_cases ho : o = o1
      · subst ho
        rcases hnew u L e with h6 | ⟨u', L', e', h7⟩
        · omega
        · rw [← h7]; exact h3 o u' L' e'
      · rw [hρ o u ho] at e; exact h3 o u L e
  apart := by
    intro o u L o' u' L' e e' hne hB heq
    by_cases ho : o = o1
    · subst ho
      rw [hρ o' u' (Ne.symm hne)] at e'
      rcases hnew u L e with hge | ⟨u2, L2, e2, hb2⟩
      · have := h.heap o' u' L' e'; omega
      · exact h.apart o u2 L2 o' u' L' e2 e' hne (by omega) (by omega)
    · rw [hρ o u ho] at e
      by_cases ho' : o' = o1
      · subst ho'
        rcases hnew u' L' e' with hge | ⟨u2, L2, e2, hb2⟩
        · have := h.heap o u L e; omega
        · exact h.apart o u L o' u2 L2 e e2 hne hB (by omega)
      · rw [hρ o' u' ho'] at e'
        exact h.apart o u L o' u' L' e e' hne hB heq
  obj o y e := by
    rw [hS] at e
    by_cases ho : o = o1
    · rw [if_pos ho] at e; cases e; subst ho; exact hx
    · rw [if_neg ho] at e
      have hobj := h.obj o y e
      have same : ∀ u L, ρ o u = some L → w'.heap[L.blk]? = w.heap[L.blk]? := by
        intro u L eL
        rcases hk L.blk (h.heap o u L eL) with h1 | ⟨hB, u2, L2, e2, hb2⟩
        · exact h1
        · exact absurd hb2 (h.apart o1 u2 L2 o u L e2 eL (Ne.symm ho) (by omega))
      cases y with
      | cells c ver minv own =>
        have hc : CellsAt B ρ w o c ver minv own := hobj
        refine (show CellsAt B ρ' w' o c ver minv own from ⟨?_, ?_, ?_, ?_, ?_, hc.atoms⟩)
        · intro u L eL; rw [hρ o u ho] at eL; exact hc.vers u L eL
        · intro L eL; rw [hρ o ver ho] at eL; exact hc.last L eL
        · intro u L eL hm
          rw [hρ o u ho] at eL
          obtain ⟨h1, h2, cs, e, fz, h3, h4, h5, h6⟩ := hc.mem u L eL hm
          refine ⟨h1, h2, cs, e, fz, (same u L eL).trans h3, h4, fun i hi hi' => ?_, h6⟩
          obtain ⟨a, v, ha, hv, hvr⟩ := h5 i hi hi'
          exact ⟨a, v, ha, hv, VR.mono hle hvr⟩
        · intro u L eL; rw [hρ o u ho] at eL; exact hc.side u L eL
        · intro u L u' L' eL eL'; rw [hρ o u ho] at eL; rw [hρ o u' ho] at eL'; exact hc.align u L u' L' eL eL'
      | fork c ver minv g => exact (show ForkAt B ρ' w' o c ver minv g from ForkAt.mono hobj (fun u => hρ o u ho) hle same)
      | map kk kv l c => exact (show MapAt B ρ' w' o kk kv l c from MapAt.mono hobj (fun u => hρ o u ho) same)
      | iter s pos =>
        have hc : IterAt B ρ w o s pos := hobj
        refine (show IterAt B ρ' w' o s pos from ⟨?_, ?_, fun u L u' L' e1 e2 => by rw [hρ o u ho] at e1; rw [hρ o u' ho] at e2; exact hc.uniq u L u' L' e1 e2⟩)
        · intro u L eL; rw [hρ o u ho] at eL; exact hc.side u L eL
        · intro u L eL
          rw [hρ o u ho] at eL
          obtain ⟨h1, h2, h3, b, h4, h5⟩ := hc.mem u L eL
          exact ⟨h1, h2, h3, b, (same u L eL).trans h4, h5⟩
/-- What turns no block but makes new ones, and no object. -/
theorem Sim.world (h : Sim B w0 ρ S w) (hb : Below w.heap.size w w') : Sim B w0 ρ S w' where
  below := ⟨hb.os.trans h.below.os, hb.tape.trans h.below.tape, hb.output.trans h.below.output, Nat.le_trans h.below.size hb.size,
    fun k hk => (hb.block k (Nat.lt_of_lt_of_le hk h.base)).trans (h.below.block k hk)⟩
  base := Nat.le_trans h.base hb.size
  fresh := h.fresh
  dom := h.dom
  heap o u L e := Nat.lt_of_lt_of_le (h.heap o u L e) hb.size
  gh := by
    intro g y hg
    obtain ⟨h1, h2, h3⟩ := h.gh g y hg
    have hlt : g < w.heap.size := by
      rcases Nat.lt_or_ge g w.heap.size with h' | h'
      · exact h'
      · rw [Array.getElem?_eq_none h'] at h1; cases h1
    exact ⟨(hb.block g hlt).trans h1, h2, h3⟩
  apart := h.apart
  obj o y e := by
    have hobj := h.obj o y e
    have same : ∀ u L, ρ o u = some L → w'.heap[L.blk]? = w.heap[L.blk]? := fun u L eL => hb.block _ (h.heap o u L eL)
    cases y with
    | cells c ver minv own =>
      have hc : CellsAt B ρ w o c ver minv own := hobj
      refine (show CellsAt B ρ w' o c ver minv own from ⟨hc.vers, hc.last, ?_, hc.side, hc.align, hc.atoms⟩)
      intro u L eL hm
      obtain ⟨h1, h2, cs, e, fz, h3, h4, h5, h6⟩ := hc.mem u L eL hm
      exact ⟨h1, h2, cs, e, fz, (same u L eL).trans h3, h4, h5, h6⟩
    | fork c ver minv g => exact (show ForkAt B ρ w' o c ver minv g from ForkAt.mono hobj (fun u => rfl) (Rho.le_refl _) same)
    | map kk kv l c => exact (show MapAt B ρ w' o kk kv l c from MapAt.mono hobj (fun u => rfl) same)
    | iter s pos =>
      have hc : IterAt B ρ w o s pos := hobj
      refine (show IterAt B ρ w' o s pos from ⟨hc.side, ?_, hc.uniq⟩)
      intro u L eL
      obtain ⟨h1, h2, h3, b, h4, h5⟩ := hc.mem u L eL
      exact ⟨h1, h2, h3, b, (same u L eL).trans h4, h5⟩
theorem below_drawn (w : World) (d : Nat) : Below w.heap.size w { w with drawn := d } := ⟨rfl, rfl, rfl, Nat.le_refl _, fun _ _ => rfl⟩
theorem Sim.drawn (h : Sim B w0 ρ S w) (d : Nat) : Sim B w0 ρ S { w with drawn := d } := h.world (below_drawn w d)

/-- A new block of cells is a new object. -/
theorem Sim.alloc (h : Sim B w0 ρ S w) {xs : List AV} {cs : Array Value} {e : TypeId} {fz : Nat × Nat} (room : Nat) (hl : xs.length ≤ room) (hr : room ≤ cs.size)
    (hv : ∀ (i : Nat) a, xs[i]? = some a → ∃ v, cs[i]? = some v ∧ VR ρ a v) (ha : xs.all AV.atom = true) (hf : Fz fz cs.size) :
    ∃ ρ', ρ.le ρ' ∧ ρ' S.next 0 = some ⟨w.heap.size, 0, 0, xs.length, room⟩ ∧ Sim B w0 ρ' (S.alloc (.cells xs 0 0 true)) { w with heap := w.heap.push (.cells cs e fz) } := by
  have hnone : ∀ u, ρ S.next u = none := fun u => by
    cases hq : ρ S.next u with
    | none => rfl
    | some L => exact absurd (h.fresh _ _ _ hq) (Nat.lt_irrefl _)
  refine ⟨fun o u => if o = S.next ∧ u = 0 then some ⟨w.heap.size, 0, 0, xs.length, room⟩ else ρ o u, ?_, by simp, ?_⟩
  · intro o u L e'
    by_cases ho : o = S.next ∧ u = 0
    · rw [ho.1, hnone] at e'; cases e'
    · simp only [if_neg ho]; exact e'
  · have hle : ρ.le (fun o u => if o = S.next ∧ u = 0 then some ⟨w.heap.size, 0, 0, xs.length, room⟩ else ρ o u) := by
      intro o u L e'
      by_cases ho : o = S.next ∧ u = 0
      · rw [ho.1, hnone] at e'; cases e'
      · simp only [if_neg ho]; exact e'
    have only : ∀ u L, (if S.next = S.next ∧ u = 0 then some (⟨w.heap.size, 0, 0, xs.length, room⟩ : Loc) else ρ S.next u) = some L → u = 0 ∧ L = ⟨w.heap.size, 0, 0, xs.length, room⟩ := by
      intro u L e'
      by_cases hu : u = 0
      · simp [hu] at e'; exact ⟨hu, e'.symm⟩
      · rw [if_neg (fun k => hu k.2), hnone] at e'; cases e'
    refine h.upd S.next (.cells xs 0 0 true) (fun o => St.get_alloc _ _ _) (by simp [St.alloc]) (by simp [St.alloc]) (fun o u ho => if_neg fun k => ho k.1) hle ?_ (by simp) ?_ ?_ ?_ ?_
    · exact ⟨h.below.os, h.below.tape, h.below.output, Nat.le_trans h.below.size (by simp), fun k hk => by
        have h1 := h.base
        rw [← h.below.block k hk]
        simp [Array.getElem?_push, Nat.ne_of_lt (Nat.lt_of_lt_of_le hk h1)]⟩
    · intro b hb; left; simp [Array.getElem?_push, Nat.ne_of_lt hb]
    · intro u L e'; obtain ⟨_, rfl⟩ := only u L e'; simp
    · intro u L e'; obtain ⟨_, rfl⟩ := only u L e'; exact .inl (Nat.le_refl _)
    · refine (show CellsAt _ _ _ _ _ _ _ _ from ⟨?_, ?_, ?_, ?_, ?_, ha⟩)
      · intro u L e'; obtain ⟨rfl, _⟩ := only u L e'; exact Nat.le_refl _
      · intro L e'; obtain ⟨_, rfl⟩ := only 0 L e'; rfl
      · intro u L e' _
        obtain ⟨_, rfl⟩ := only u L e'
        refine ⟨Nat.le_refl _, by simpa using hl, cs, e, fz, by simp, by simpa using hr, fun i _ hi => ?_, fun _ => hf⟩
        have hi' : i < xs.length := hi
        obtain ⟨v, hcv, hvr⟩ := hv i xs[i] (List.getElem?_eq_getElem hi')
        exact ⟨xs[i], v, List.getElem?_eq_getElem hi', by simpa [Loc.at] using hcv, VR.mono hle hvr⟩
      · intro u L e'; obtain ⟨_, rfl⟩ := only u L e'; simpa using h.base
      · intro u L u' L' e1 e2 _; obtain ⟨_, rfl⟩ := only u L e1; obtain ⟨_, rfl⟩ := only u' L' e2; exact ⟨rfl, rfl⟩
end
end Go.Proofs.YtajoogahcgbohaaGreatA
