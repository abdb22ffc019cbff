/- Chapter 3: what is known of closed functions. Chapter 1: rows of bytes: that are read, that grow; what the functions come to. Chapter 1: bytes put behind bytes, padding, cuts, numbers: what both sides come to. Chapter 1: numbers of bytes, padding, the document's own. Chapter 1: padding; both sides held against each other. limelightbook.Within. Chapter 3: packets as values; their size; whether they may be. Chapter 3: slices.Concat of two rows. -/
import Derived.Test.YthejkmfmcjpfhaaAf
import Derived.Test.YthejkmfmcjpfhaaAeNum
import Derived.Test.YthejkmfmcjpfhaaAeS8
import Derived.Test.YthejkmfmcjpfhaaAeS9
set_option linter.unusedVariables false
set_option linter.unusedSimpArgs false
set_option maxRecDepth 10000
namespace Go.Proofs.YthejkmfmcjpfhaaA
open Go.RowKit
attribute [local congr] bind_congr1 map_congr1 cond_congr1 withX_congr after_congr br_congr gd_congr
theorem ev14 : ∃ S', evF X0 AP 40 14 [] S0 = some (.bool true, S') := by
  have h : (evF X0 AP 40 14 [] S0).map Prod.fst = some (.bool true) := by kernel_rfl
  rw [Option.map_eq_some_iff] at h
  obtain ⟨⟨v, S'⟩, h1, h2⟩ := h
  exact ⟨S', by rw [h1]; cases h2; rfl⟩
def Y := addX X0 14 (sN0 (.bool true))
theorem yk : XOk Try.prog Y := addX_N0 (P := Try.prog) mixed (X0_ok _) apOk (entry_of apOk (af := af14) rfl) rfl ⟨40, ev14⟩
theorem y14 (k : Nat) (S : St) : evF Y AP (k + 1) 14 [] S = some (.bool true, S) := rfl
/-- Bytes as cells. -/
def bv (l : List Nat) : List AV := l.map fun b : Nat => .int .u8 (b : Int)
theorem bv_len (l : List Nat) : (bv l).length = l.length := List.length_map _
theorem bv_app (l m : List Nat) : bv (l ++ m) = bv l ++ bv m := List.map_append
theorem bv_drop (l : List Nat) (n : Nat) : (bv l).drop n = bv (l.drop n) := List.map_drop.symm
theorem bv_take (l : List Nat) (n : Nat) : (bv l).take n = bv (l.take n) := List.map_take.symm
def Byt (l : List Nat) : Prop := ∀ b ∈ l, b < 256
theorem strOf_bv : ∀ {l : List Nat}, Byt l → strOf (bv l) = some l
  | [], _ => rfl
  | b :: l, h => by
    have hb := h b List.mem_cons_self
    have := strOf_bv (l := l) fun x hx => h x (List.mem_cons_of_mem _ hx)
    show (byteOf (.int .u8 (b : Int))).bind (fun b => (strOf (bv l)).map (b :: ·)) = _
    rw [this]
    simp only [byteOf, Int.toNat_natCast, Nat.mod_eq_of_lt hb, Option.bind_some, Option.map_some]
theorem Byt.app {l m : List Nat} (h : Byt l) (h' : Byt m) : Byt (l ++ m) := fun b hb => (List.mem_append.1 hb).elim (h b) (h' b)
theorem Byt.sub {l : List Nat} (h : Byt l) (m n : Nat) : Byt ((l.drop m).take n) := fun b hb => h b (List.mem_of_mem_drop (List.mem_of_mem_take hb))
theorem Byt.nil : Byt [] := fun b hb => by cases hb
/-- A row of bytes that is read. -/
structure By (S : St) (p : Option (Nat × Nat × Nat)) (e : Nat) (l : List Nat) : Prop where
  ez : p = none ∨ e = 1
  nil : p = none → l = []
  at_ : ∀ o v i, p = some (o, v, i) → o < S.next ∧ S.rd o v i l.length = some (bv l)
  bd : Byt l
  mx : l.length ≤ 9223372036854775807
theorem By.ext {S S' : St} {p : Option (Nat × Nat × Nat)} {e : Nat} {l : List Nat} (h : By S p e l) (x : Ext S S') : By S' p e l :=
  ⟨h.ez, h.nil, fun o v i hp => by obtain ⟨h1, h2⟩ := h.at_ o v i hp; exact ⟨Nat.lt_of_lt_of_le h1 x.next, by rw [x.rd h1]; exact h2⟩, h.bd, h.mx⟩
theorem By.zero (S : St) (e : Nat) : By S none e [] := ⟨.inl rfl, fun _ => rfl, fun _ _ _ h => (by cases h), .nil, by simp⟩
theorem By.sub {S : St} {o v i e : Nat} {l : List Nat} (h : By S (some (o, v, i)) e l) (m n : Nat) (hm : m + n ≤ l.length) : By S (some (o, v, i + m)) e ((l.drop m).take n) := by
  obtain ⟨h1, h2⟩ := h.at_ o v i rfl
  have hl : ((l.drop m).take n).length = n := by rw [List.length_take, List.length_drop]; omega
  refine ⟨.inr (h.ez.resolve_left (by simp)), fun e => (by cases e), fun o' v' i' e => ?_, h.bd.sub m n, by have := h.mx; omega⟩
  cases e
  refine ⟨h1, ?_⟩
  rw [hl, rd_sub h2 hm, bv_drop, bv_take]
/-- A text of bytes. -/
theorem By.str {S : St} {p : Option (Nat × Nat × Nat)} {e : Nat} {l : List Nat} (h : By S p e l) (c : Option Nat) : aConv .bytesStr (.slice p l.length e c) S = some (.str l, S) := by
  rcases p with _ | ⟨o, v, i⟩
  · rw [h.nil rfl]; rfl
  · obtain rfl := h.ez.resolve_left (by simp)
    obtain ⟨_, h2⟩ := h.at_ o v i rfl
    simp only [aConv, h2, Option.bind_some, strOf_bv h.bd, Option.map_some]
/-- One byte of a row. -/
theorem By.get {S : St} {o v i e : Nat} {l : List Nat} (h : By S (some (o, v, i)) e l) {j : Nat} (hj : j < l.length) : S.rd o v (i + j) 1 = some [.int .u8 ((l[j] : Nat) : Int)] := by
  obtain ⟨_, h2⟩ := h.at_ o v i rfl
  rw [rd_sub h2 (by omega), bv_drop, bv_take, List.drop_eq_getElem_cons hj]
  rfl
/-- A part of a row. -/
theorem By.cut {S : St} {p : Option (Nat × Nat × Nat)} {e : Nat} {l : List Nat} (h : By S p e l) (c : Option Nat) {lo hi : Option AV} {a b : Nat} (hhi : bnd hi l.length l.length = some b) (hlo : bnd lo 0 b = some a) (hab : a ≤ b) (hb : b ≤ l.length) :
    ∃ p' e' c', aCut 1 (.slice p l.length e c) lo hi none = some (.slice p' ((l.drop a).take (b - a)).length e' c') ∧ By S p' e' ((l.drop a).take (b - a)) := by
  have hl : ((l.drop a).take (b - a)).length = b - a := by rw [List.length_take, List.length_drop]; omega
  rcases p with _ | ⟨o, v, i⟩
  · obtain rfl := h.nil rfl
    simp only [List.length_nil] at hhi hb
    obtain rfl : b = 0 := by omega
    obtain rfl : a = 0 := by omega
    refine ⟨none, 1, none, ?_, .zero S 1⟩
    have b0 : bnd none 0 0 = some 0 := rfl
    simp [aCut, hhi, hlo, b0]
  · obtain rfl := h.ez.resolve_left (by simp)
    have hs := h.sub a (b - a) (by omega)
    refine ⟨some (o, v, i + a), 1, c.map (· - a), ?_, hs⟩
    rw [hl]
    simp [aCut, hhi, hlo, beq_dec]
theorem bnd_some {k : IntKind} {n : Int} {d y : Nat} (h0 : 0 ≤ n) (h1 : n ≤ y) : bnd (some (.int k n)) d y = some n.toNat := by simp only [bnd]; rw [if_pos ⟨h0, h1⟩]
theorem bnd_none (d y : Nat) : bnd none d y = some d := rfl
/-- A row that grows, made since S0. -/
structure Gr (S0 S : St) (p : Option (Nat × Nat × Nat)) (e : Nat) (l : List Nat) : Prop where
  vec : Vec S p l.length 1 e (bv l)
  ext : Ext S0 S
  new : ∀ o v i, p = some (o, v, i) → S0.next ≤ o
  bd : Byt l
theorem Gr.by_ {S0 S : St} {p : Option (Nat × Nat × Nat)} {e : Nat} {l : List Nat} (h : Gr S0 S p e l) (hm : l.length ≤ 9223372036854775807) : By S p e l := by
  refine ⟨h.vec.ez, fun hp => ?_, fun o v i hp => ?_, h.bd, hm⟩
  · rcases h.vec.at_ with ⟨_, h0⟩ | ⟨o, ver, minv, hp', _⟩
    · exact List.length_eq_zero_iff.1 h0
    · rw [hp] at hp'; cases hp'
  · rcases h.vec.at_ with ⟨hp', _⟩ | ⟨o', ver, minv, hp', h1, h2, h3⟩
    · rw [hp] at hp'; cases hp'
    · rw [hp] at hp'; cases hp'
      refine ⟨h1, ?_⟩
      rw [rd_cells h2 h3 (by rw [bv_len]; omega), List.drop_zero, List.take_of_length_le (by rw [bv_len]; exact Nat.le_refl _)]
theorem Gr.zero (S0 : St) (e : Nat) : Gr S0 S0 none e [] := ⟨.nil _ _ _, .refl _, fun _ _ _ h => (by cases h), .nil⟩
theorem Gr.empty (S0 : St) : Gr S0 (S0.alloc (.cells [] 0 0 true)) (some (S0.next, 0, 0)) 1 [] :=
  ⟨⟨.inr rfl, rfl, .inr ⟨S0.next, 0, 0, rfl, Nat.lt_succ_self _, by rw [St.get_alloc, if_pos rfl]; rfl, Nat.le_refl _⟩⟩, .alloc _ _, fun o v i h => by cases h; exact Nat.le_refl _, .nil⟩
theorem Gr.more {S0 S S' : St} {p : Option (Nat × Nat × Nat)} {e : Nat} {l : List Nat} (h : Gr S0 S p e l) (x : Ext S S') : Gr S0 S' p e l := ⟨h.vec.ext x, h.ext.trans x, h.new, h.bd⟩
/-- Bytes more. -/
theorem Gr.app {S0 S : St} {p : Option (Nat × Nat × Nat)} {e : Nat} {l : List Nat} (h : Gr S0 S p e l) {m : List Nat} (hm : Byt m) (hr : l.length + m.length ≤ 140737488355328) :
    ∃ p' e' S', aAppend 1 1 S (.slice p l.length e none) m.length (bv m) = some (.slice p' (l ++ m).length e' none, S') ∧ Gr S0 S' p' e' (l ++ m) := by
  by_cases h0 : m.length = 0
  · have : m = [] := List.length_eq_zero_iff.1 h0
    subst this
    refine ⟨p, e, S, ?_, by rw [List.append_nil]; exact h⟩
    rw [List.append_nil]
    rcases p with _ | ⟨o, v, i⟩
    · simp [aAppend]
    · obtain rfl := h.vec.ez.resolve_left (by simp)
      simp [aAppend]
  · obtain ⟨p', S', h1, h2, h3, h4⟩ := h.vec.append (bytes := 1) (xs := bv m) (n := m.length) (by rw [bv_len, Nat.mul_one]) h0 (by omega)
    refine ⟨p', 1, S', by rw [h1, List.length_append], ⟨by rw [List.length_append, bv_app]; exact h2, ⟨Nat.le_trans h.ext.next h3.next, fun o ho => ?_⟩, fun o v i hp => ?_, h.bd.app hm⟩⟩
    · rw [h3.old o (Nat.lt_of_lt_of_le ho h.ext.next) (fun v i hp => by have := h.new o v i hp; omega)]
      exact h.ext.old o ho
    · rcases h4 o v i hp with h5 | ⟨v', i', h5⟩
      · exact Nat.le_trans h.ext.next h5
      · exact h.new _ _ _ h5
/-- One byte more, that lies in a row of its own. -/
theorem Gr.app1 {S0 S : St} {p : Option (Nat × Nat × Nat)} {e : Nat} {l : List Nat} (h : Gr S0 S p e l) {b : Nat} (hb : b < 256) (hr : l.length + 1 ≤ 140737488355328) :
    ∃ p' e' S', aAppend 1 1 S (.slice p l.length e none) 1 [.int .u8 (b : Int)] = some (.slice p' (l.length + 1) e' none, S') ∧ Gr S0 S' p' e' (l ++ [b]) := by
  obtain ⟨p', e', S', h1, h2⟩ := h.app (m := [b]) (fun x hx => by rw [List.mem_singleton] at hx; omega) hr
  rw [List.length_append] at h1
  exact ⟨p', e', S', h1, h2⟩
/-- A row as a value. -/
def Bs (S : St) (v : AV) (l : List Nat) : Prop := ∃ p e c, v = .slice p l.length e c ∧ By S p e l
theorem Bs.ext {S S' : St} {v : AV} {l : List Nat} (h : Bs S v l) (x : Ext S S') : Bs S' v l := let ⟨p, e, c, h1, h2⟩ := h; ⟨p, e, c, h1, h2.ext x⟩
theorem Bs.str {S : St} {v : AV} {l : List Nat} (h : Bs S v l) : aConv .bytesStr v S = some (.str l, S) := by
  obtain ⟨p, e, c, rfl, h⟩ := h
  exact h.str c
theorem Bs.zero (S : St) (e : Nat) : Bs S (.slice none 0 e none) [] := ⟨none, e, none, rfl, .zero S e⟩
section
variable {S : St} {p : Option (Nat × Nat × Nat)} {e : Nat} {c : Option Nat} {l : List Nat} (k : Nat)
/-- slices.Clone -/
theorem T41 (h : By S p e l) (hr : l.length ≤ 140737488355328) : ∃ p' e' S', evF Y AP (k + 3) 41 [.slice p l.length e c] S = some (.slice p' l.length e' none, S') ∧ Gr S S' p' e' l := by
  rcases p with _ | ⟨o, v, i⟩
  · obtain rfl := h.nil rfl
    refine ⟨none, 0, S, ?_, .zero _ _⟩
    rw [evF_body (af := af41) rfl rfl rfl]
    simp -implicitDefEqProofs -dsimp (maxSteps := 10000000) only [af41, kC, ↓kQ, ↓Option.bind_some, ↓Option.map_some, ↓cond_true, ↓cond_false, evC, evOp, XO.lit, setArgs, Tr.tabG, Tr.tabS, Tr.tabL, Tr.get_lf, Option.bind_some, Option.map_some, cond_true, cond_false, maxI, maxFrom, minI, minFrom, aConv, aBinE, aEq, eqScal, aUn, evRes, fin, oneOf, if_true, if_false, callee, reduceCtorEq, Nat.reduceEqDiff, List.getElem?_cons_zero, List.getElem?_cons_succ, beq_self_eq_true, gt_iff_lt, List.head?_cons, AV.undef, eq_self, ne_eq, Int.reduceLT, Int.reduceLE, Int.reduceToNat, Int.reduceEq, Int.reduceNeg, Nat.reduceAdd, Nat.reduceLT, Nat.reduceLeDiff, Nat.reduceMul, Nat.reduceSub, ↓evDraw_nil, bir, putD, evDraw, trace, List.all_cons, List.all_nil, chk, stAt, again, sameV, sameL, sameA, AV.undef, Bool.and_self, Bool.and_true, decide_eq_true_eq, List.getElem?_nil, aFill, evParts, rep, List.replicate_succ, List.replicate_zero, List.flatten_cons, List.flatten_nil, List.append_nil, newSl, newVar, Option.isNone_none, List.length_nil]
  · obtain rfl := h.ez.resolve_left (by simp)
    obtain ⟨h1, h2⟩ := h.at_ o v i rfl
    obtain ⟨p', e', S', h3, h4⟩ := (Gr.empty S).app h.bd (by simpa using hr)
    rw [List.nil_append] at h3 h4
    have h5 : (S.alloc (.cells [] 0 0 true)).rd o v i l.length = some (bv l) := by
      rw [rd_alloc, if_neg (by omega)]; exact h2
    refine ⟨p', e', S', ?_, h4⟩
    rw [evF_body (af := af41) rfl rfl rfl]
    simp only [List.length_nil] at h3
    simp -implicitDefEqProofs -dsimp (maxSteps := 10000000) only [af41, kC, ↓kQ, ↓Option.bind_some, ↓Option.map_some, ↓cond_true, ↓cond_false, evC, evOp, XO.lit, setArgs, Tr.tabG, Tr.tabS, Tr.tabL, Tr.get_lf, Option.bind_some, Option.map_some, cond_true, cond_false, maxI, maxFrom, minI, minFrom, aConv, aBinE, aEq, eqScal, aUn, evRes, fin, oneOf, if_true, if_false, callee, reduceCtorEq, Nat.reduceEqDiff, List.getElem?_cons_zero, List.getElem?_cons_succ, beq_self_eq_true, gt_iff_lt, List.head?_cons, AV.undef, eq_self, ne_eq, Int.reduceLT, Int.reduceLE, Int.reduceToNat, Int.reduceEq, Int.reduceNeg, Nat.reduceAdd, Nat.reduceLT, Nat.reduceLeDiff, Nat.reduceMul, Nat.reduceSub, ↓evDraw_nil, bir, putD, evDraw, trace, List.all_cons, List.all_nil, chk, stAt, again, sameV, sameL, sameA, AV.undef, Bool.and_self, Bool.and_true, decide_eq_true_eq, List.getElem?_nil, aFill, evParts, rep, List.replicate_succ, List.replicate_zero, List.flatten_cons, List.flatten_nil, List.append_nil, newSl, newVar, Option.isNone_some, h3, h5, h2, Nat.mul_one, Nat.zero_mul]
/-- slices.Clip -/
theorem T42 {S0 : St} (h : Gr S0 S p e l) (hm : l.length ≤ 140737488355328) : ∃ v', evF Y AP (k + 3) 42 [.slice p l.length e none] S = some (v', S) ∧ Bs S v' l := by
  have hb := h.by_ (by omega)
  have hm' : l.length ≤ 9223372036854775807 := by omega
  rcases p with _ | ⟨o, v, i⟩
  · obtain rfl := hb.nil rfl
    refine ⟨_, ?_, .zero S 1⟩
    rw [evF_body (af := af42) rfl rfl rfl]
    simp -implicitDefEqProofs -dsimp (maxSteps := 10000000) only [af42, kC, ↓kQ, ↓Option.bind_some, ↓Option.map_some, ↓cond_true, ↓cond_false, evC, evOp, XO.lit, setArgs, Tr.tabG, Tr.tabS, Tr.tabL, Tr.get_lf, Option.bind_some, Option.map_some, cond_true, cond_false, maxI, maxFrom, minI, minFrom, aConv, aBinE, aEq, eqScal, aUn, evRes, fin, oneOf, if_true, if_false, callee, reduceCtorEq, Nat.reduceEqDiff, List.getElem?_cons_zero, List.getElem?_cons_succ, beq_self_eq_true, gt_iff_lt, List.head?_cons, AV.undef, eq_self, ne_eq, Int.reduceLT, Int.reduceLE, Int.reduceToNat, Int.reduceEq, Int.reduceNeg, Nat.reduceAdd, Nat.reduceLT, Nat.reduceLeDiff, Nat.reduceMul, Nat.reduceSub, ↓evDraw_nil, bir, putD, evDraw, trace, List.all_cons, List.all_nil, chk, stAt, again, sameV, sameL, sameA, AV.undef, Bool.and_self, Bool.and_true, decide_eq_true_eq, List.getElem?_nil, aFill, evParts, rep, List.replicate_succ, List.replicate_zero, List.flatten_cons, List.flatten_nil, List.append_nil, newSl, newVar, evOpt, List.length_nil]
    rfl
  · obtain rfl := hb.ez.resolve_left (by simp)
    refine ⟨_, ?_, some (o, v, i), 1, some l.length, rfl, hb⟩
    have b1 : bnd (some (.int .i64 (l.length : Int))) 0 l.length = some l.length := by simp [bnd]
    have b2 : bnd none 0 l.length = some 0 := rfl
    rw [evF_body (af := af42) rfl rfl rfl]
    simp -implicitDefEqProofs -dsimp (maxSteps := 10000000) only [af42, kC, ↓kQ, ↓Option.bind_some, ↓Option.map_some, ↓cond_true, ↓cond_false, evC, evOp, XO.lit, setArgs, Tr.tabG, Tr.tabS, Tr.tabL, Tr.get_lf, Option.bind_some, Option.map_some, cond_true, cond_false, maxI, maxFrom, minI, minFrom, aConv, aBinE, aEq, eqScal, aUn, evRes, fin, oneOf, if_true, if_false, callee, reduceCtorEq, Nat.reduceEqDiff, List.getElem?_cons_zero, List.getElem?_cons_succ, beq_self_eq_true, gt_iff_lt, List.head?_cons, AV.undef, eq_self, ne_eq, Int.reduceLT, Int.reduceLE, Int.reduceToNat, Int.reduceEq, Int.reduceNeg, Nat.reduceAdd, Nat.reduceLT, Nat.reduceLeDiff, Nat.reduceMul, Nat.reduceSub, ↓evDraw_nil, bir, putD, evDraw, trace, List.all_cons, List.all_nil, chk, stAt, again, sameV, sameL, sameA, AV.undef, Bool.and_self, Bool.and_true, decide_eq_true_eq, List.getElem?_nil, aFill, evParts, rep, List.replicate_succ, List.replicate_zero, List.flatten_cons, List.flatten_nil, List.append_nil, newSl, newVar, evOpt, aCut, hm', b1, b2, Option.isSome_some, Nat.zero_mul, Nat.add_zero, Nat.sub_zero]
end
/-- The lowest bytes of a number, the highest first. -/
def be (n : Int) : Nat → List Nat
  | 0 => []
  | j + 1 => (n / 2 ^ (8 * j) % 256).toNat :: be n j
theorem be_len (n : Int) : ∀ j, (be n j).length = j
  | 0 => rfl
  | j + 1 => by rw [be, List.length_cons, be_len n j]
def putL (l : List Nat) (n size : Int) : List Nat := if size < 1 ∨ 8 < size then l else l ++ be n size.toNat
structure I33 (Sb : St) (l : List Nat) (n : Int) (z m : Nat) (T : Tm) (S : St) : Prop where
  t1 : T.get 1 = some (.int .u64 n)
  t8 : T.get 8 = some (.int .i64 ((m : Int) - 1))
  mz : m ≤ z
  more : ∃ p e c, T.get 7 = some (.slice p c.length e none) ∧ Gr Sb S p e c ∧ c ++ be n m = l ++ be n z
theorem u8_nat (n : Int) (j : Nat) : IntKind.u8.wrap (n / 2 ^ (8 * j)) = (((n / 2 ^ (8 * j) % 256).toNat : Nat) : Int) ∧ (n / 2 ^ (8 * j) % 256).toNat < 256 := by
  rw [IntKind.wrap_u8]
  omega
/-- A row, made since S, to which more may be appended. -/
inductive Nb (S S' : St) : AV → List Nat → Prop
  | gr {p : Option (Nat × Nat × Nat)} {e : Nat} {l : List Nat} (g : Gr S S' p e l) (hm : l.length ≤ 140737488355328) : Nb S S' (.slice p l.length e none) l
  | cl {o v i : Nat} {l : List Nat} (g : Gr S S' (some (o, v, i)) 1 l) (hm : l.length ≤ 140737488355328) : Nb S S' (.slice (some (o, v, i)) l.length 1 (some l.length)) l
theorem Nb.bs {S S' : St} {v : AV} {l : List Nat} (h : Nb S S' v l) : Bs S' v l := by
  cases h with
  | gr g hm => exact ⟨_, _, _, rfl, g.by_ (by omega)⟩
  | cl g hm => exact ⟨_, _, _, rfl, g.by_ (by omega)⟩
theorem Nb.ext {S S' : St} {v : AV} {l : List Nat} (h : Nb S S' v l) : Ext S S' := by
  cases h with
  | gr g hm => exact g.ext
  | cl g hm => exact g.ext
theorem Nb.more {S S' S'' : St} {v : AV} {l : List Nat} (h : Nb S S' v l) (x : Ext S' S'') : Nb S S'' v l := by
  cases h with
  | gr g hm => exact .gr (g.more x) hm
  | cl g hm => exact .cl (g.more x) hm
theorem Gr.base {S0 S S' : St} {p : Option (Nat × Nat × Nat)} {e : Nat} {l : List Nat} (x : Ext S0 S) (h : Gr S S' p e l) : Gr S0 S' p e l :=
  ⟨h.vec, x.trans h.ext, fun o v i hp => Nat.le_trans x.next (h.new o v i hp), h.bd⟩
theorem Nb.base {S0 S S' : St} {v : AV} {l : List Nat} (x : Ext S0 S) (h : Nb S S' v l) : Nb S0 S' v l := by
  cases h with
  | gr g hm => exact .gr (g.base x) hm
  | cl g hm => exact .cl (g.base x) hm
theorem Nb.app {S S' : St} {v : AV} {l : List Nat} (h : Nb S S' v l) {m : List Nat} (hm : Byt m) (hr : l.length + m.length ≤ 140737488355328) :
    ∃ v' S'', aAppend 1 1 S' v m.length (bv m) = some (v', S'') ∧ Nb S S'' v' (l ++ m) := by
  cases h with
  | gr g hl =>
    obtain ⟨p', e', S'', h1, h2⟩ := g.app hm hr
    exact ⟨_, S'', h1, .gr h2 (by rw [List.length_append]; exact hr)⟩
  | @cl o w i _ g hl =>
    have b := g.by_ (by omega)
    have x := g.ext
    by_cases h0 : m.length = 0
    · have : m = [] := List.length_eq_zero_iff.1 h0
      subst this
      refine ⟨_, S', ?_, by rw [List.append_nil]; exact .cl g hl⟩
      simp [aAppend]
    · obtain ⟨h1, h2⟩ := b.at_ o w i rfl
      have hb : ((l.length + m.length) + (l.length + m.length) / 4 + 256) * 1 ≤ 281474976710656 := by omega
      have hc : l.length < l.length + m.length := by omega
      refine ⟨.slice (some (S'.next, 0, 0)) (l ++ m).length 1 none, S'.alloc (.cells (bv (l ++ m)) 0 0 true), ?_, .gr ⟨⟨.inr rfl, by rw [bv_len, Nat.mul_one], .inr ⟨S'.next, 0, 0, rfl, Nat.lt_succ_self _, by rw [St.get_alloc, if_pos rfl], Nat.le_refl _⟩⟩, x.trans (.alloc _ _), fun o v i hp => by cases hp; exact x.next, b.bd.app hm⟩ (by rw [List.length_append]; exact hr)⟩
      simp only [aAppend, ne_eq, not_true_eq_false, if_false, if_neg h0, if_neg (not_not_intro hb), if_pos hc, Nat.mul_one, h2, Option.map_some, newSl, bv_app, List.length_append]
      rw [if_neg (by omega)]
theorem Nb.gr_ {S S' : St} {v : AV} {l : List Nat} (h : Nb S S' v l) : ∃ p e c, v = .slice p l.length e c ∧ Gr S S' p e l := by
  cases h with
  | gr g hm => exact ⟨_, _, _, rfl, g⟩
  | cl g hm => exact ⟨_, _, _, rfl, g⟩
/-- slices.Clip, more told. -/
theorem T42c {S0 S : St} {p : Option (Nat × Nat × Nat)} {e : Nat} {l : List Nat} (k : Nat) (h : Gr S0 S p e l) (hm : l.length ≤ 140737488355328) : ∃ v', evF Y AP (k + 3) 42 [.slice p l.length e none] S = some (v', S) ∧ Nb S0 S v' l := by
  have hb := h.by_ (by omega)
  have hm' : l.length ≤ 9223372036854775807 := by omega
  rcases p with _ | ⟨o, v, i⟩
  · obtain rfl := hb.nil rfl
    refine ⟨.slice none 0 1 none, ?_, .gr (e := 1) (l := []) ⟨.nil _ _ _, h.ext, fun _ _ _ h => (by cases h), .nil⟩ (by simp)⟩
    rw [evF_body (af := af42) rfl rfl rfl]
    simp -implicitDefEqProofs -dsimp (maxSteps := 10000000) only [af42, kC, ↓kQ, ↓Option.bind_some, ↓Option.map_some, ↓cond_true, ↓cond_false, evC, evOp, XO.lit, setArgs, Tr.tabG, Tr.tabS, Tr.tabL, Tr.get_lf, Option.bind_some, Option.map_some, cond_true, cond_false, maxI, maxFrom, minI, minFrom, aConv, aBinE, aEq, eqScal, aUn, evRes, fin, oneOf, if_true, if_false, callee, reduceCtorEq, Nat.reduceEqDiff, List.getElem?_cons_zero, List.getElem?_cons_succ, beq_self_eq_true, gt_iff_lt, List.head?_cons, AV.undef, eq_self, ne_eq, Int.reduceLT, Int.reduceLE, Int.reduceToNat, Int.reduceEq, Int.reduceNeg, Nat.reduceAdd, Nat.reduceLT, Nat.reduceLeDiff, Nat.reduceMul, Nat.reduceSub, ↓evDraw_nil, bir, putD, evDraw, trace, List.all_cons, List.all_nil, chk, stAt, again, sameV, sameL, sameA, AV.undef, Bool.and_self, Bool.and_true, decide_eq_true_eq, List.getElem?_nil, aFill, evParts, rep, List.replicate_succ, List.replicate_zero, List.flatten_cons, List.flatten_nil, List.append_nil, newSl, newVar, evOpt, List.length_nil]
    rfl
  · obtain rfl := hb.ez.resolve_left (by simp)
    refine ⟨_, ?_, .cl h hm⟩
    have b1 : bnd (some (.int .i64 (l.length : Int))) 0 l.length = some l.length := by simp [bnd]
    have b2 : bnd none 0 l.length = some 0 := rfl
    rw [evF_body (af := af42) rfl rfl rfl]
    simp -implicitDefEqProofs -dsimp (maxSteps := 10000000) only [af42, kC, ↓kQ, ↓Option.bind_some, ↓Option.map_some, ↓cond_true, ↓cond_false, evC, evOp, XO.lit, setArgs, Tr.tabG, Tr.tabS, Tr.tabL, Tr.get_lf, Option.bind_some, Option.map_some, cond_true, cond_false, maxI, maxFrom, minI, minFrom, aConv, aBinE, aEq, eqScal, aUn, evRes, fin, oneOf, if_true, if_false, callee, reduceCtorEq, Nat.reduceEqDiff, List.getElem?_cons_zero, List.getElem?_cons_succ, beq_self_eq_true, gt_iff_lt, List.head?_cons, AV.undef, eq_self, ne_eq, Int.reduceLT, Int.reduceLE, Int.reduceToNat, Int.reduceEq, Int.reduceNeg, Nat.reduceAdd, Nat.reduceLT, Nat.reduceLeDiff, Nat.reduceMul, Nat.reduceSub, ↓evDraw_nil, bir, putD, evDraw, trace, List.all_cons, List.all_nil, chk, stAt, again, sameV, sameL, sameA, AV.undef, Bool.and_self, Bool.and_true, decide_eq_true_eq, List.getElem?_nil, aFill, evParts, rep, List.replicate_succ, List.replicate_zero, List.flatten_cons, List.flatten_nil, List.append_nil, newSl, newVar, evOpt, aCut, hm', b1, b2, Option.isSome_some, Nat.zero_mul, Nat.add_zero, Nat.sub_zero]
section
variable {S : St} {p : Option (Nat × Nat × Nat)} {e : Nat} {c : Option Nat} {l : List Nat} (k : Nat)
set_option maxHeartbeats 1000000 in
theorem round33 {Sb : St} {n : Int} {z : Nat} (hz : z ≤ 8) (hr : l.length + 8 ≤ 140737488355328) (m : Nat) (T : Tm) (S : St) (h : I33 Sb l n z m T S) :
    Goes (evF Y AP (k + 19)) (k + 19) af33_l0 T S (Then (fun T' S' => ∃ m', I33 Sb l n z m' T' S' ∧ id m' < id m) fun r T' S' => r = .exit 0 ∧ I33 Sb l n z 0 T' S') := by
  obtain ⟨t1, t8, mz, p, e, c, t7, hg, hc⟩ := h
  rcases m with _ | j
  · have c0 : ¬ (0 : Int) ≤ ((0 : Nat) : Int) - 1 := by omega
    simp -implicitDefEqProofs -dsimp (maxSteps := 10000000) only [af33_l0, ↓kS, after_some, br_true, br_false, kC, ↓kQ, ↓Option.bind_some, ↓Option.map_some, ↓cond_true, ↓cond_false, evC, evOp, XO.lit, setArgs, Tr.get_set, Option.bind_some, Option.map_some, cond_true, cond_false, maxI, maxFrom, minI, minFrom, aConv, aBinE, aEq, eqScal, aUn, evRes, fin, oneOf, if_true, if_false, callee, reduceCtorEq, Nat.reduceEqDiff, List.getElem?_cons_zero, List.getElem?_cons_succ, beq_self_eq_true, gt_iff_lt, List.head?_cons, AV.undef, eq_self, ne_eq, Int.reduceLT, Int.reduceLE, Int.reduceToNat, Int.reduceEq, Int.reduceNeg, Nat.reduceAdd, Nat.reduceLT, Nat.reduceLeDiff, Nat.reduceMul, Nat.reduceSub, kM, AV.cells, AV.tup, List.drop_nil, List.append_nil, rdO, St.wr, List.length_cons, List.length_nil, List.take_succ_cons, List.take_zero, List.drop_succ_cons, List.drop_zero, List.cons_append, List.nil_append, Nat.reduceMul, t1, t7, t8, c0]
    refine ⟨?_, ?_, by omega, p, e, c, ?_, hg, hc⟩ <;> simp only [Tr.get_set, Nat.reduceEqDiff, if_false, if_true, t1, t7, t8]
  · have e8 : (((j + 1 : Nat) : Int)) - 1 = (j : Int) := by omega
    rw [e8] at t8
    have hlen : c.length + (j + 1) = l.length + z := by
      have := congrArg List.length hc
      simpa [be_len] using this
    have c0 : (0 : Int) ≤ (j : Int) := by omega
    have c1 : ¬ ((j : Int) * 8) < 0 := by omega
    have w1 : IntKind.i64.wrap ((j : Int) * 8) = (j : Int) * 8 := w64_id (by omega) (by omega)
    have w2 : IntKind.i64.wrap ((j : Int) - 1) = (j : Int) - 1 := w64_id (by omega) (by omega)
    have hs : min ((j : Int) * 8).toNat IntKind.u64.bits = 8 * j := by
      show min ((j : Int) * 8).toNat 64 = 8 * j
      omega
    obtain ⟨hw, hb⟩ := u8_nat n j
    obtain ⟨b, hbb⟩ : ∃ b, (n / 2 ^ (8 * j) % 256).toNat = b := ⟨_, rfl⟩
    rw [hbb] at hw hb
    obtain ⟨p', e', S', h1, h2⟩ := (hg.more (.alloc S (.cells [.int .u8 (b : Int)] 0 0 true))).app1 hb (by omega)
    simp -implicitDefEqProofs -dsimp (maxSteps := 10000000) only [af33_l0, ↓kS, after_some, br_true, br_false, kC, ↓kQ, ↓Option.bind_some, ↓Option.map_some, ↓cond_true, ↓cond_false, evC, evOp, XO.lit, setArgs, Tr.get_set, Option.bind_some, Option.map_some, cond_true, cond_false, maxI, maxFrom, minI, minFrom, aConv, aBinE, aEq, eqScal, aUn, evRes, fin, oneOf, if_true, if_false, callee, reduceCtorEq, Nat.reduceEqDiff, List.getElem?_cons_zero, List.getElem?_cons_succ, beq_self_eq_true, gt_iff_lt, List.head?_cons, AV.undef, eq_self, ne_eq, Int.reduceLT, Int.reduceLE, Int.reduceToNat, Int.reduceEq, Int.reduceNeg, Nat.reduceAdd, Nat.reduceLT, Nat.reduceLeDiff, Nat.reduceMul, Nat.reduceSub, kM, AV.cells, AV.tup, List.drop_nil, List.append_nil, rdO, St.wr, List.length_cons, List.length_nil, List.take_succ_cons, List.take_zero, List.drop_succ_cons, List.drop_zero, List.cons_append, List.nil_append, Nat.reduceMul, aFill, evParts, rep, List.replicate_succ, List.replicate_zero, List.flatten_cons, List.flatten_nil, List.append_nil, newSl, newVar, t1, t7, t8, c0, c1, w1, hs, hw, h1, w2]
    refine ⟨j, ⟨?_, ?_, by omega, p', e', c ++ [b], ?_, h2, ?_⟩, Nat.lt_succ_self j⟩
    rotate_right
    · rw [← hc, be, hbb, List.append_assoc]; rfl
    all_goals simp only [Tr.get_set, Nat.reduceEqDiff, if_false, if_true, t1, t7, t8, List.length_append, List.length_singleton]
set_option maxHeartbeats 1000000 in
/-- octet.Put -/
theorem T33 (h : By S p e l) (hr : l.length ≤ 140737488351500) {n size : Int} (hs : I64 size) :
    ∃ v' S', evF Y AP (k + 20) 33 [.slice p l.length e c, .int .u64 n, .int .i64 size] S = some (v', S') ∧ Nb S S' v' (putL l n size) := by
  obtain ⟨p1, e1, S1, h19, g1⟩ := T41 (k + 16) (c := c) h (by omega)
  have h19 : evF Y AP (k + 19) 41 [.slice p l.length e c] S = some (.slice p1 l.length e1 none, S1) := h19
  refine evF_goes (af := af33) (k := k + 19) rfl rfl rfl ?_
  have b1 := g1.by_ (by omega)
  by_cases c1 : size < 1
  · simp -implicitDefEqProofs -dsimp (maxSteps := 10000000) only [af33, ↓kS, after_some, br_true, br_false, kC, ↓kQ, ↓Option.bind_some, ↓Option.map_some, ↓cond_true, ↓cond_false, evC, evOp, XO.lit, setArgs, Tr.tabG, Tr.tabS, Tr.tabL, Tr.get_lf, Option.bind_some, Option.map_some, cond_true, cond_false, maxI, maxFrom, minI, minFrom, aConv, aBinE, aEq, eqScal, aUn, evRes, fin, oneOf, if_true, if_false, callee, reduceCtorEq, Nat.reduceEqDiff, List.getElem?_cons_zero, List.getElem?_cons_succ, beq_self_eq_true, gt_iff_lt, List.head?_cons, AV.undef, eq_self, ne_eq, Int.reduceLT, Int.reduceLE, Int.reduceToNat, Int.reduceEq, Int.reduceNeg, Nat.reduceAdd, Nat.reduceLT, Nat.reduceLeDiff, Nat.reduceMul, Nat.reduceSub, h19, c1]
    have hp : putL l n size = l := by simp only [putL, c1, true_or, if_true]
    rw [hp]
    exact ⟨_, _, rfl, .gr g1 (by omega)⟩
  by_cases c2 : 8 < size
  · simp -implicitDefEqProofs -dsimp (maxSteps := 10000000) only [af33, ↓kS, after_some, br_true, br_false, kC, ↓kQ, ↓Option.bind_some, ↓Option.map_some, ↓cond_true, ↓cond_false, evC, evOp, XO.lit, setArgs, Tr.tabG, Tr.tabS, Tr.tabL, Tr.get_lf, Option.bind_some, Option.map_some, cond_true, cond_false, maxI, maxFrom, minI, minFrom, aConv, aBinE, aEq, eqScal, aUn, evRes, fin, oneOf, if_true, if_false, callee, reduceCtorEq, Nat.reduceEqDiff, List.getElem?_cons_zero, List.getElem?_cons_succ, beq_self_eq_true, gt_iff_lt, List.head?_cons, AV.undef, eq_self, ne_eq, Int.reduceLT, Int.reduceLE, Int.reduceToNat, Int.reduceEq, Int.reduceNeg, Nat.reduceAdd, Nat.reduceLT, Nat.reduceLeDiff, Nat.reduceMul, Nat.reduceSub, h19, c1, c2]
    have hp : putL l n size = l := by simp only [putL, c2, or_true, if_true]
    rw [hp]
    exact ⟨_, _, rfl, .gr g1 (by omega)⟩
  have w1 : IntKind.i64.wrap (size - 1) = size - 1 := w64_id (by omega) (by omega)
  simp -implicitDefEqProofs -dsimp (maxSteps := 10000000) only [af33, ↓kS, after_some, br_true, br_false, kC, ↓kQ, ↓Option.bind_some, ↓Option.map_some, ↓cond_true, ↓cond_false, evC, evOp, XO.lit, setArgs, Tr.tabG, Tr.tabS, Tr.tabL, Tr.get_lf, Option.bind_some, Option.map_some, cond_true, cond_false, maxI, maxFrom, minI, minFrom, aConv, aBinE, aEq, eqScal, aUn, evRes, fin, oneOf, if_true, if_false, callee, reduceCtorEq, Nat.reduceEqDiff, List.getElem?_cons_zero, List.getElem?_cons_succ, beq_self_eq_true, gt_iff_lt, List.head?_cons, AV.undef, eq_self, ne_eq, Int.reduceLT, Int.reduceLE, Int.reduceToNat, Int.reduceEq, Int.reduceNeg, Nat.reduceAdd, Nat.reduceLT, Nat.reduceLeDiff, Nat.reduceMul, Nat.reduceSub, h19, c1, c2, w1]
  refine .while (I33 S l n size.toNat) id size.toNat ⟨rfl, ?_, Nat.le_refl _, p1, e1, l, rfl, g1, rfl⟩ (by show size.toNat < k + 19; omega) fun m T2 S2 h2 => (round33 k (by omega) (by omega) m T2 S2 h2).mono ?_
  · have : ((size.toNat : Nat) : Int) - 1 = size - 1 := by omega
    rw [this]; rfl
  · intro r T' S' hq
    cases r with
    | normal => exact hq
    | ret => exact absurd hq.1 (by simp)
    | exit i =>
      obtain ⟨hi, t1, t8, mz, p3, e3, c3, t7, g3, hc3⟩ := hq
      cases hi
      have hc3 : c3 = putL l n size := by
        simp only [be, List.append_nil] at hc3
        rw [hc3, putL, if_neg (by omega)]
      have hl3 : c3.length ≤ 140737488355328 := by
        rw [hc3, putL, if_neg (by omega), List.length_append, be_len]; omega
      obtain ⟨v', h20, hv⟩ := T42c (k + 16) g3 hl3
      have h20 : evF Y AP (k + 19) 42 [.slice p3 c3.length e3 none] S' = some (v', S') := h20
      simp -implicitDefEqProofs -dsimp (maxSteps := 10000000) only [↓kS, after_some, br_true, br_false, kC, ↓kQ, ↓Option.bind_some, ↓Option.map_some, ↓cond_true, ↓cond_false, evC, evOp, XO.lit, setArgs, Tr.get_set, Option.bind_some, Option.map_some, cond_true, cond_false, maxI, maxFrom, minI, minFrom, aConv, aBinE, aEq, eqScal, aUn, evRes, fin, oneOf, if_true, if_false, callee, reduceCtorEq, Nat.reduceEqDiff, List.getElem?_cons_zero, List.getElem?_cons_succ, beq_self_eq_true, gt_iff_lt, List.head?_cons, AV.undef, eq_self, ne_eq, Int.reduceLT, Int.reduceLE, Int.reduceToNat, Int.reduceEq, Int.reduceNeg, Nat.reduceAdd, Nat.reduceLT, Nat.reduceLeDiff, Nat.reduceMul, Nat.reduceSub, t7, h20]
      exact ⟨_, _, rfl, hc3 ▸ hv⟩
/-- octet.Cut, and the document's. -/
def cutOk (l : List Nat) (a n : Int) : Prop := 0 ≤ a ∧ 0 ≤ n ∧ a ≤ l.length ∧ n ≤ (l.length : Int) - a
instance (l : List Nat) (a n : Int) : Decidable (cutOk l a n) := by unfold cutOk; infer_instance
def cutL (l : List Nat) (a n : Int) : List Nat := if cutOk l a n then (l.drop a.toNat).take n.toNat else []
theorem cutL_byt {l : List Nat} (h : Byt l) (a n : Int) : Byt (cutL l a n) := by unfold cutL; split; exact h.sub _ _; exact .nil
theorem cutL_len {l : List Nat} {a n : Int} (h : cutOk l a n) : (cutL l a n).length = n.toNat := by
  have := h
  unfold cutOk at this
  rw [cutL, if_pos h, List.length_take, List.length_drop]; omega
set_option maxHeartbeats 1000000 in
theorem T45 (h : By S p e l) (hr : l.length ≤ 140737488351500) {a n : Int} (ha : I64 a) (hn : I64 n) :
    ∃ v' S', evF Y AP (k + 4) 45 [.slice p l.length e c, .int .i64 a, .int .i64 n] S = some (.tuple [v', .bool (decide (cutOk l a n))], S') ∧ Bs S' v' (cutL l a n) ∧ Ext S S' := by
  have hm : l.length ≤ 9223372036854775807 := by omega
  have w1 : IntKind.i64.wrap ((l.length : Int) - a) = (l.length : Int) - a ∨ a < 0 := by by_cases h : a < 0; exact .inr h; exact .inl (w64_id (by have := ha.2; omega) (by omega))
  by_cases c1 : a < 0
  · have hk : ¬ cutOk l a n := by unfold cutOk; omega
    refine ⟨_, S, ?_, by rw [cutL, if_neg hk]; exact .zero S 0, .refl S⟩
    rw [decide_eq_false hk, evF_body (af := af45) rfl rfl rfl]
    simp -implicitDefEqProofs -dsimp (maxSteps := 10000000) only [af45, kC, ↓kQ, ↓Option.bind_some, ↓Option.map_some, ↓cond_true, ↓cond_false, evC, evOp, XO.lit, setArgs, Tr.tabG, Tr.tabS, Tr.tabL, Tr.get_lf, Option.bind_some, Option.map_some, cond_true, cond_false, maxI, maxFrom, minI, minFrom, aConv, aBinE, aEq, eqScal, aUn, evRes, fin, oneOf, if_true, if_false, callee, reduceCtorEq, Nat.reduceEqDiff, List.getElem?_cons_zero, List.getElem?_cons_succ, beq_self_eq_true, gt_iff_lt, List.head?_cons, AV.undef, eq_self, ne_eq, Int.reduceLT, Int.reduceLE, Int.reduceToNat, Int.reduceEq, Int.reduceNeg, Nat.reduceAdd, Nat.reduceLT, Nat.reduceLeDiff, Nat.reduceMul, Nat.reduceSub, c1]
  have w1 := w1.resolve_right c1
  by_cases c2 : n < 0
  · have hk : ¬ cutOk l a n := by unfold cutOk; omega
    refine ⟨_, S, ?_, by rw [cutL, if_neg hk]; exact .zero S 0, .refl S⟩
    rw [decide_eq_false hk, evF_body (af := af45) rfl rfl rfl]
    simp -implicitDefEqProofs -dsimp (maxSteps := 10000000) only [af45, kC, ↓kQ, ↓Option.bind_some, ↓Option.map_some, ↓cond_true, ↓cond_false, evC, evOp, XO.lit, setArgs, Tr.tabG, Tr.tabS, Tr.tabL, Tr.get_lf, Option.bind_some, Option.map_some, cond_true, cond_false, maxI, maxFrom, minI, minFrom, aConv, aBinE, aEq, eqScal, aUn, evRes, fin, oneOf, if_true, if_false, callee, reduceCtorEq, Nat.reduceEqDiff, List.getElem?_cons_zero, List.getElem?_cons_succ, beq_self_eq_true, gt_iff_lt, List.head?_cons, AV.undef, eq_self, ne_eq, Int.reduceLT, Int.reduceLE, Int.reduceToNat, Int.reduceEq, Int.reduceNeg, Nat.reduceAdd, Nat.reduceLT, Nat.reduceLeDiff, Nat.reduceMul, Nat.reduceSub, c1, c2]
  by_cases c3 : (l.length : Int) < a
  · have hk : ¬ cutOk l a n := by unfold cutOk; omega
    refine ⟨_, S, ?_, by rw [cutL, if_neg hk]; exact .zero S 0, .refl S⟩
    rw [decide_eq_false hk, evF_body (af := af45) rfl rfl rfl]
    simp -implicitDefEqProofs -dsimp (maxSteps := 10000000) only [af45, kC, ↓kQ, ↓Option.bind_some, ↓Option.map_some, ↓cond_true, ↓cond_false, evC, evOp, XO.lit, setArgs, Tr.tabG, Tr.tabS, Tr.tabL, Tr.get_lf, Option.bind_some, Option.map_some, cond_true, cond_false, maxI, maxFrom, minI, minFrom, aConv, aBinE, aEq, eqScal, aUn, evRes, fin, oneOf, if_true, if_false, callee, reduceCtorEq, Nat.reduceEqDiff, List.getElem?_cons_zero, List.getElem?_cons_succ, beq_self_eq_true, gt_iff_lt, List.head?_cons, AV.undef, eq_self, ne_eq, Int.reduceLT, Int.reduceLE, Int.reduceToNat, Int.reduceEq, Int.reduceNeg, Nat.reduceAdd, Nat.reduceLT, Nat.reduceLeDiff, Nat.reduceMul, Nat.reduceSub, c1, c2, c3, hm]
  by_cases c4 : (l.length : Int) - a < n
  · have hk : ¬ cutOk l a n := by unfold cutOk; omega
    refine ⟨_, S, ?_, by rw [cutL, if_neg hk]; exact .zero S 0, .refl S⟩
    rw [decide_eq_false hk, evF_body (af := af45) rfl rfl rfl]
    simp -implicitDefEqProofs -dsimp (maxSteps := 10000000) only [af45, kC, ↓kQ, ↓Option.bind_some, ↓Option.map_some, ↓cond_true, ↓cond_false, evC, evOp, XO.lit, setArgs, Tr.tabG, Tr.tabS, Tr.tabL, Tr.get_lf, Option.bind_some, Option.map_some, cond_true, cond_false, maxI, maxFrom, minI, minFrom, aConv, aBinE, aEq, eqScal, aUn, evRes, fin, oneOf, if_true, if_false, callee, reduceCtorEq, Nat.reduceEqDiff, List.getElem?_cons_zero, List.getElem?_cons_succ, beq_self_eq_true, gt_iff_lt, List.head?_cons, AV.undef, eq_self, ne_eq, Int.reduceLT, Int.reduceLE, Int.reduceToNat, Int.reduceEq, Int.reduceNeg, Nat.reduceAdd, Nat.reduceLT, Nat.reduceLeDiff, Nat.reduceMul, Nat.reduceSub, c1, c2, c3, c4, hm, w1]
  have hk : cutOk l a n := by unfold cutOk; omega
  have w2 : IntKind.i64.wrap (a + n) = a + n := w64_id (by omega) (by omega)
  obtain ⟨p', e', c', h1, h2⟩ := h.cut c (lo := some (.int .i64 a)) (hi := some (.int .i64 (a + n))) (bnd_some (by omega) (by omega)) (bnd_some (by omega) (by omega)) (by omega) (by omega)
  have hd : (a + n).toNat - a.toNat = n.toNat := by omega
  rw [hd] at h1 h2
  have hl : ((l.drop a.toNat).take n.toNat).length ≤ l.length := by rw [List.length_take, List.length_drop]; omega
  obtain ⟨p1, e1, S1, h19, g1⟩ := T41 k (c := c') h2 (by omega)
  refine ⟨_, S1, ?_, by rw [cutL, if_pos hk]; exact ⟨p1, e1, none, rfl, g1.by_ (by omega)⟩, g1.ext⟩
  rw [decide_eq_true hk, evF_body (af := af45) rfl rfl rfl]
  simp -implicitDefEqProofs -dsimp (maxSteps := 10000000) only [af45, kC, ↓kQ, ↓Option.bind_some, ↓Option.map_some, ↓cond_true, ↓cond_false, evC, evOp, XO.lit, setArgs, Tr.tabG, Tr.tabS, Tr.tabL, Tr.get_lf, Option.bind_some, Option.map_some, cond_true, cond_false, maxI, maxFrom, minI, minFrom, aConv, aBinE, aEq, eqScal, aUn, evRes, fin, oneOf, if_true, if_false, callee, reduceCtorEq, Nat.reduceEqDiff, List.getElem?_cons_zero, List.getElem?_cons_succ, beq_self_eq_true, gt_iff_lt, List.head?_cons, AV.undef, eq_self, ne_eq, Int.reduceLT, Int.reduceLE, Int.reduceToNat, Int.reduceEq, Int.reduceNeg, Nat.reduceAdd, Nat.reduceLT, Nat.reduceLeDiff, Nat.reduceMul, Nat.reduceSub, c1, c2, c3, c4, hm, w1, w2, evOpt, h1, h19]
set_option maxHeartbeats 1000000 in
theorem T40 (h : By S p e l) (hr : l.length ≤ 140737488351500) {a n : Int} (ha : I64 a) (hn : I64 n) :
    ∃ v' S', evF Y AP (k + 4) 40 [.slice p l.length e c, .int .i64 a, .int .i64 n] S = some (.tuple [v', .bool (decide (cutOk l a n))], S') ∧ Bs S' v' (cutL l a n) ∧ Ext S S' := by
  have hm : l.length ≤ 9223372036854775807 := by omega
  have w1 : IntKind.i64.wrap ((l.length : Int) - a) = (l.length : Int) - a ∨ a < 0 := by by_cases h : a < 0; exact .inr h; exact .inl (w64_id (by have := ha.2; omega) (by omega))
  by_cases c1 : a < 0
  · have hk : ¬ cutOk l a n := by unfold cutOk; omega
    refine ⟨_, S, ?_, by rw [cutL, if_neg hk]; exact .zero S 0, .refl S⟩
    rw [decide_eq_false hk, evF_body (af := af40) rfl rfl rfl]
    simp -implicitDefEqProofs -dsimp (maxSteps := 10000000) only [af40, kC, ↓kQ, ↓Option.bind_some, ↓Option.map_some, ↓cond_true, ↓cond_false, evC, evOp, XO.lit, setArgs, Tr.tabG, Tr.tabS, Tr.tabL, Tr.get_lf, Option.bind_some, Option.map_some, cond_true, cond_false, maxI, maxFrom, minI, minFrom, aConv, aBinE, aEq, eqScal, aUn, evRes, fin, oneOf, if_true, if_false, callee, reduceCtorEq, Nat.reduceEqDiff, List.getElem?_cons_zero, List.getElem?_cons_succ, beq_self_eq_true, gt_iff_lt, List.head?_cons, AV.undef, eq_self, ne_eq, Int.reduceLT, Int.reduceLE, Int.reduceToNat, Int.reduceEq, Int.reduceNeg, Nat.reduceAdd, Nat.reduceLT, Nat.reduceLeDiff, Nat.reduceMul, Nat.reduceSub, c1]
  have w1 := w1.resolve_right c1
  by_cases c2 : n < 0
  · have hk : ¬ cutOk l a n := by unfold cutOk; omega
    refine ⟨_, S, ?_, by rw [cutL, if_neg hk]; exact .zero S 0, .refl S⟩
    rw [decide_eq_false hk, evF_body (af := af40) rfl rfl rfl]
    simp -implicitDefEqProofs -dsimp (maxSteps := 10000000) only [af40, kC, ↓kQ, ↓Option.bind_some, ↓Option.map_some, ↓cond_true, ↓cond_false, evC, evOp, XO.lit, setArgs, Tr.tabG, Tr.tabS, Tr.tabL, Tr.get_lf, Option.bind_some, Option.map_some, cond_true, cond_false, maxI, maxFrom, minI, minFrom, aConv, aBinE, aEq, eqScal, aUn, evRes, fin, oneOf, if_true, if_false, callee, reduceCtorEq, Nat.reduceEqDiff, List.getElem?_cons_zero, List.getElem?_cons_succ, beq_self_eq_true, gt_iff_lt, List.head?_cons, AV.undef, eq_self, ne_eq, Int.reduceLT, Int.reduceLE, Int.reduceToNat, Int.reduceEq, Int.reduceNeg, Nat.reduceAdd, Nat.reduceLT, Nat.reduceLeDiff, Nat.reduceMul, Nat.reduceSub, c1, c2]
  by_cases c3 : (l.length : Int) < a
  · have hk : ¬ cutOk l a n := by unfold cutOk; omega
    refine ⟨_, S, ?_, by rw [cutL, if_neg hk]; exact .zero S 0, .refl S⟩
    rw [decide_eq_false hk, evF_body (af := af40) rfl rfl rfl]
    simp -implicitDefEqProofs -dsimp (maxSteps := 10000000) only [af40, kC, ↓kQ, ↓Option.bind_some, ↓Option.map_some, ↓cond_true, ↓cond_false, evC, evOp, XO.lit, setArgs, Tr.tabG, Tr.tabS, Tr.tabL, Tr.get_lf, Option.bind_some, Option.map_some, cond_true, cond_false, maxI, maxFrom, minI, minFrom, aConv, aBinE, aEq, eqScal, aUn, evRes, fin, oneOf, if_true, if_false, callee, reduceCtorEq, Nat.reduceEqDiff, List.getElem?_cons_zero, List.getElem?_cons_succ, beq_self_eq_true, gt_iff_lt, List.head?_cons, AV.undef, eq_self, ne_eq, Int.reduceLT, Int.reduceLE, Int.reduceToNat, Int.reduceEq, Int.reduceNeg, Nat.reduceAdd, Nat.reduceLT, Nat.reduceLeDiff, Nat.reduceMul, Nat.reduceSub, c1, c2, c3, hm]
  by_cases c4 : (l.length : Int) - a < n
  · have hk : ¬ cutOk l a n := by unfold cutOk; omega
    refine ⟨_, S, ?_, by rw [cutL, if_neg hk]; exact .zero S 0, .refl S⟩
    rw [decide_eq_false hk, evF_body (af := af40) rfl rfl rfl]
    simp -implicitDefEqProofs -dsimp (maxSteps := 10000000) only [af40, kC, ↓kQ, ↓Option.bind_some, ↓Option.map_some, ↓cond_true, ↓cond_false, evC, evOp, XO.lit, setArgs, Tr.tabG, Tr.tabS, Tr.tabL, Tr.get_lf, Option.bind_some, Option.map_some, cond_true, cond_false, maxI, maxFrom, minI, minFrom, aConv, aBinE, aEq, eqScal, aUn, evRes, fin, oneOf, if_true, if_false, callee, reduceCtorEq, Nat.reduceEqDiff, List.getElem?_cons_zero, List.getElem?_cons_succ, beq_self_eq_true, gt_iff_lt, List.head?_cons, AV.undef, eq_self, ne_eq, Int.reduceLT, Int.reduceLE, Int.reduceToNat, Int.reduceEq, Int.reduceNeg, Nat.reduceAdd, Nat.reduceLT, Nat.reduceLeDiff, Nat.reduceMul, Nat.reduceSub, c1, c2, c3, c4, hm, w1]
  have hk : cutOk l a n := by unfold cutOk; omega
  have w2 : IntKind.i64.wrap (a + n) = a + n := w64_id (by omega) (by omega)
  obtain ⟨p', e', c', h1, h2⟩ := h.cut c (lo := some (.int .i64 a)) (hi := some (.int .i64 (a + n))) (bnd_some (by omega) (by omega)) (bnd_some (by omega) (by omega)) (by omega) (by omega)
  have hd : (a + n).toNat - a.toNat = n.toNat := by omega
  rw [hd] at h1 h2
  have hl : ((l.drop a.toNat).take n.toNat).length ≤ l.length := by rw [List.length_take, List.length_drop]; omega
  obtain ⟨p1, e1, S1, h3, g1⟩ := (Gr.empty S).app h2.bd (by simp only [List.length_nil]; omega)
  rw [List.nil_append] at h3 g1
  simp only [List.length_nil] at h3
  refine ⟨_, S1, ?_, by rw [cutL, if_pos hk]; exact ⟨p1, e1, none, rfl, g1.by_ (by omega)⟩, g1.ext⟩
  rw [decide_eq_true hk, evF_body (af := af40) rfl rfl rfl]
  rcases p' with _ | ⟨o, v, i⟩
  · have h0 := h2.nil rfl
    rw [h0] at h1 h3 ⊢
    simp only [bv, List.map_nil, List.length_nil] at h3
    simp -implicitDefEqProofs -dsimp (maxSteps := 10000000) only [af40, kC, ↓kQ, ↓Option.bind_some, ↓Option.map_some, ↓cond_true, ↓cond_false, evC, evOp, XO.lit, setArgs, Tr.tabG, Tr.tabS, Tr.tabL, Tr.get_lf, Option.bind_some, Option.map_some, cond_true, cond_false, maxI, maxFrom, minI, minFrom, aConv, aBinE, aEq, eqScal, aUn, evRes, fin, oneOf, if_true, if_false, callee, reduceCtorEq, Nat.reduceEqDiff, List.getElem?_cons_zero, List.getElem?_cons_succ, beq_self_eq_true, gt_iff_lt, List.head?_cons, AV.undef, eq_self, ne_eq, Int.reduceLT, Int.reduceLE, Int.reduceToNat, Int.reduceEq, Int.reduceNeg, Nat.reduceAdd, Nat.reduceLT, Nat.reduceLeDiff, Nat.reduceMul, Nat.reduceSub, aFill, evParts, rep, List.replicate_succ, List.replicate_zero, List.flatten_cons, List.flatten_nil, List.append_nil, newSl, newVar, c1, c2, c3, c4, hm, w1, w2, evOpt, h1, h3, List.length_nil, Nat.mul_zero]
  · obtain rfl := h2.ez.resolve_left (by simp)
    obtain ⟨h4, h5⟩ := h2.at_ o v i rfl
    have h6 : (S.alloc (.cells [] 0 0 true)).rd o v i ((l.drop a.toNat).take n.toNat).length = some (bv ((l.drop a.toNat).take n.toNat)) := by
      rw [rd_alloc, if_neg (by omega)]; exact h5
    simp -implicitDefEqProofs -dsimp (maxSteps := 10000000) only [af40, kC, ↓kQ, ↓Option.bind_some, ↓Option.map_some, ↓cond_true, ↓cond_false, evC, evOp, XO.lit, setArgs, Tr.tabG, Tr.tabS, Tr.tabL, Tr.get_lf, Option.bind_some, Option.map_some, cond_true, cond_false, maxI, maxFrom, minI, minFrom, aConv, aBinE, aEq, eqScal, aUn, evRes, fin, oneOf, if_true, if_false, callee, reduceCtorEq, Nat.reduceEqDiff, List.getElem?_cons_zero, List.getElem?_cons_succ, beq_self_eq_true, gt_iff_lt, List.head?_cons, AV.undef, eq_self, ne_eq, Int.reduceLT, Int.reduceLE, Int.reduceToNat, Int.reduceEq, Int.reduceNeg, Nat.reduceAdd, Nat.reduceLT, Nat.reduceLeDiff, Nat.reduceMul, Nat.reduceSub, aFill, evParts, rep, List.replicate_succ, List.replicate_zero, List.flatten_cons, List.flatten_nil, List.append_nil, newSl, newVar, c1, c2, c3, c4, hm, w1, w2, evOpt, h1, h3, h6, Nat.mul_one, Nat.zero_mul]
end
/-- A number of bytes, the highest first. -/
def hvF (n : Nat) (l : List Nat) : Nat := l.foldl (fun n c => n * 256 + c) n
theorem hvF_cons (n b : Nat) (l : List Nat) : hvF n (b :: l) = hvF (n * 256 + b) l := rfl
theorem hvF_nil (n : Nat) : hvF n [] = n := rfl
def hv (l : List Nat) : Nat := hvF 0 l
theorem hvF_lt : ∀ (l : List Nat) (n m : Nat), Byt l → n < 256 ^ m → hvF n l < 256 ^ (m + l.length)
  | [], n, m, _, h => h
  | b :: l, n, m, hb, h => by
    rw [hvF_cons, List.length_cons, show m + (l.length + 1) = (m + 1) + l.length by omega]
    refine hvF_lt l _ _ (fun x hx => hb x (List.mem_cons_of_mem _ hx)) ?_
    have := hb b List.mem_cons_self
    rw [Nat.pow_succ]
    omega
theorem or_step {n b j : Nat} (hn : n < 256 ^ j) (hj : j ≤ 7) (hb : b < 256) : IntKind.u64.wrap ((n : Int) * 2 ^ min 8 IntKind.u64.bits) = (n : Int) * 256 ∧ IntKind.u64.wrap (b : Int) = (b : Int) ∧
    Go.bits .or .u64 ((n : Int) * 256) (b : Int) = ((n * 256 + b : Nat) : Int) ∧ n * 256 + b < 256 ^ (j + 1) := by
  have h1 : 256 ^ j ≤ 256 ^ 7 := Nat.pow_le_pow_right (by decide) hj
  have h2 : (256 : Nat) ^ 7 = 72057594037927936 := rfl
  have h3 : ((n : Int) * 2 ^ min 8 IntKind.u64.bits) = (n : Int) * 256 := rfl
  refine ⟨?_, u64_id (by omega) (by omega), ?_, ?_⟩
  · rw [h3]; exact u64_id (by omega) (by omega)
  · rw [Go.bits_join .u64 64 (by decide) (fun m m0 m1 => u64_id m0 (by simpa using m1)) 8 ((n : Int) * 256) (b : Int) (by omega) (by omega) (by omega) (by omega) (by omega) (by omega)]
    omega
  · rw [Nat.pow_succ]; omega
def getL (l : List Nat) (a n : Int) : Nat := if cutOk l a n ∧ 1 ≤ n ∧ n ≤ 8 then hv (cutL l a n) else 0
def getOk (l : List Nat) (a n : Int) : Bool := decide (cutOk l a n ∧ 1 ≤ n ∧ n ≤ 8)
structure I44 (p : Option (Nat × Nat × Nat)) (e : Nat) (c : Option Nat) (l : List Nat) (Sb : St) (m : Nat) (T : Tm) (S : St) : Prop where
  t30 : T.get 30 = some (.slice p l.length e c)
  t31 : T.get 31 = some (.int .i64 l.length)
  st : S = Sb
  more : ∃ j n : Nat, T.get 32 = some (.int .i64 j) ∧ T.get 10 = some (.int .u64 n) ∧ j + m = l.length ∧ n < 256 ^ j ∧ hvF n (l.drop j) = hv l
section
variable {S : St} {p : Option (Nat × Nat × Nat)} {e : Nat} {c : Option Nat} {l : List Nat} (k : Nat)
set_option maxHeartbeats 1000000 in
theorem round44 {Sb : St} (h : By Sb p e l) (h8 : l.length ≤ 8) (m : Nat) (T : Tm) (S : St) (hI : I44 p e c l Sb m T S) :
    Goes (evF Y AP (k + 19)) (k + 19) af44_l0 T S (Then (fun T' S' => ∃ m', I44 p e c l Sb m' T' S' ∧ id m' < id m) fun r T' S' => r = .exit 0 ∧ I44 p e c l Sb 0 T' S') := by
  obtain ⟨t30, t31, rfl, j, n, t32, t10, hj, hn, hv'⟩ := hI
  rcases m with _ | m
  · have c0 : ¬ (j : Int) < (l.length : Int) := by omega
    simp -implicitDefEqProofs -dsimp (maxSteps := 10000000) only [af44_l0, ↓kS, after_some, br_true, br_false, kC, ↓kQ, ↓Option.bind_some, ↓Option.map_some, ↓cond_true, ↓cond_false, evC, evOp, XO.lit, setArgs, Tr.get_set, Option.bind_some, Option.map_some, cond_true, cond_false, maxI, maxFrom, minI, minFrom, aConv, aBinE, aEq, eqScal, aUn, evRes, fin, oneOf, if_true, if_false, callee, reduceCtorEq, Nat.reduceEqDiff, List.getElem?_cons_zero, List.getElem?_cons_succ, beq_self_eq_true, gt_iff_lt, List.head?_cons, AV.undef, eq_self, ne_eq, Int.reduceLT, Int.reduceLE, Int.reduceToNat, Int.reduceEq, Int.reduceNeg, Nat.reduceAdd, Nat.reduceLT, Nat.reduceLeDiff, Nat.reduceMul, Nat.reduceSub, kM, AV.cells, AV.tup, List.drop_nil, List.append_nil, rdO, St.wr, List.length_cons, List.length_nil, List.take_succ_cons, List.take_zero, List.drop_succ_cons, List.drop_zero, List.cons_append, List.nil_append, Nat.reduceMul, t30, t31, t32, t10, c0]
    refine ⟨?_, ?_, rfl, j, n, ?_, ?_, hj, hn, hv'⟩ <;> simp only [Tr.get_set, Nat.reduceEqDiff, if_false, if_true, t30, t31, t32, t10]
  · have c0 : (j : Int) < (l.length : Int) := by omega
    rcases p with _ | ⟨o, v, i⟩
    · have := h.nil rfl; rw [this] at hj; simp at hj
    obtain rfl := h.ez.resolve_left (by simp)
    have hb := h.bd l[j] (List.getElem_mem (by omega))
    obtain ⟨s1, s2, s3, s4⟩ := or_step hn (by omega) hb
    have hix : ixOf (.int .i64 (j : Int)) l.length = some j := by rw [ix_ok (by omega) c0]; rfl
    have hrd := h.get (j := j) (by omega)
    have w1 : IntKind.i64.wrap ((j : Int) + 1) = ((j + 1 : Nat) : Int) := w64_id (by omega) (by omega)
    obtain ⟨b, hbb⟩ : ∃ b, l[j] = b := ⟨_, rfl⟩
    rw [hbb] at hb s2 s3 s4 hrd
    have cs : ¬ (8 : Int) < 0 := by decide
    simp -implicitDefEqProofs -dsimp (maxSteps := 10000000) only [af44_l0, ↓kS, after_some, br_true, br_false, kC, ↓kQ, ↓Option.bind_some, ↓Option.map_some, ↓cond_true, ↓cond_false, evC, evOp, XO.lit, setArgs, Tr.get_set, Option.bind_some, Option.map_some, cond_true, cond_false, maxI, maxFrom, minI, minFrom, aConv, aBinE, aEq, eqScal, aUn, evRes, fin, oneOf, if_true, if_false, callee, reduceCtorEq, Nat.reduceEqDiff, List.getElem?_cons_zero, List.getElem?_cons_succ, beq_self_eq_true, gt_iff_lt, List.head?_cons, AV.undef, eq_self, ne_eq, Int.reduceLT, Int.reduceLE, Int.reduceToNat, Int.reduceEq, Int.reduceNeg, Nat.reduceAdd, Nat.reduceLT, Nat.reduceLeDiff, Nat.reduceMul, Nat.reduceSub, kM, AV.cells, AV.tup, List.drop_nil, List.append_nil, rdO, St.wr, List.length_cons, List.length_nil, List.take_succ_cons, List.take_zero, List.drop_succ_cons, List.drop_zero, List.cons_append, List.nil_append, Nat.reduceMul, t30, t31, t32, t10, c0, hix, Nat.mul_one, hrd, cs, s1, s2, s3, w1]
    refine ⟨m, ⟨?_, ?_, rfl, j + 1, n * 256 + b, ?_, ?_, by omega, s4, ?_⟩, Nat.lt_succ_self m⟩
    rotate_right
    · rw [← hv', List.drop_eq_getElem_cons (show j < l.length by omega), hvF_cons, hbb]
    all_goals simp only [Tr.get_set, Nat.reduceEqDiff, if_false, if_true, t30, t31, t32, t10]
set_option maxHeartbeats 1000000 in
/-- octet.Get -/
theorem T44 (h : By S p e l) (hr : l.length ≤ 140737488351500) {a n : Int} (ha : I64 a) (hn : I64 n) :
    ∃ S', evF Y AP (k + 20) 44 [.slice p l.length e c, .int .i64 a, .int .i64 n] S = some (.tuple [.int .u64 (getL l a n), .bool (getOk l a n)], S') ∧ Ext S S' := by
  suffices hh : ∃ v S', evF Y AP (k + 20) 44 [.slice p l.length e c, .int .i64 a, .int .i64 n] S = some (v, S') ∧ (v = .tuple [.int .u64 (getL l a n), .bool (getOk l a n)] ∧ Ext S S') by
    obtain ⟨v, S', h1, rfl, h2⟩ := hh; exact ⟨S', h1, h2⟩
  obtain ⟨v1, S1, h14, hb1, x1⟩ := T45 (k + 15) (c := c) h hr ha hn
  have h14 : evF Y AP (k + 19) 45 [.slice p l.length e c, .int .i64 a, .int .i64 n] S = some (.tuple [v1, .bool (decide (cutOk l a n))], S1) := h14
  refine evF_goes (af := af44) (k := k + 19) rfl rfl rfl ?_
  by_cases c0 : cutOk l a n
  · rw [decide_eq_true c0] at h14
    by_cases c1 : n < 1
    · have hf : ¬ (cutOk l a n ∧ 1 ≤ n ∧ n ≤ 8) := by omega
      simp -implicitDefEqProofs -dsimp (maxSteps := 10000000) only [af44, ↓kS, after_some, br_true, br_false, kC, ↓kQ, ↓Option.bind_some, ↓Option.map_some, ↓cond_true, ↓cond_false, evC, evOp, XO.lit, setArgs, Tr.tabG, Tr.tabS, Tr.tabL, Tr.get_lf, Option.bind_some, Option.map_some, cond_true, cond_false, maxI, maxFrom, minI, minFrom, aConv, aBinE, aEq, eqScal, aUn, evRes, fin, oneOf, if_true, if_false, callee, reduceCtorEq, Nat.reduceEqDiff, List.getElem?_cons_zero, List.getElem?_cons_succ, beq_self_eq_true, gt_iff_lt, List.head?_cons, AV.undef, eq_self, ne_eq, Int.reduceLT, Int.reduceLE, Int.reduceToNat, Int.reduceEq, Int.reduceNeg, Nat.reduceAdd, Nat.reduceLT, Nat.reduceLeDiff, Nat.reduceMul, Nat.reduceSub, h14, c1]
      exact ⟨_, _, rfl, by rw [getL, getOk, if_neg hf, decide_eq_false hf]; rfl, x1⟩
    by_cases c2 : 8 < n
    · have hf : ¬ (cutOk l a n ∧ 1 ≤ n ∧ n ≤ 8) := by omega
      simp -implicitDefEqProofs -dsimp (maxSteps := 10000000) only [af44, ↓kS, after_some, br_true, br_false, kC, ↓kQ, ↓Option.bind_some, ↓Option.map_some, ↓cond_true, ↓cond_false, evC, evOp, XO.lit, setArgs, Tr.tabG, Tr.tabS, Tr.tabL, Tr.get_lf, Option.bind_some, Option.map_some, cond_true, cond_false, maxI, maxFrom, minI, minFrom, aConv, aBinE, aEq, eqScal, aUn, evRes, fin, oneOf, if_true, if_false, callee, reduceCtorEq, Nat.reduceEqDiff, List.getElem?_cons_zero, List.getElem?_cons_succ, beq_self_eq_true, gt_iff_lt, List.head?_cons, AV.undef, eq_self, ne_eq, Int.reduceLT, Int.reduceLE, Int.reduceToNat, Int.reduceEq, Int.reduceNeg, Nat.reduceAdd, Nat.reduceLT, Nat.reduceLeDiff, Nat.reduceMul, Nat.reduceSub, h14, c1, c2]
      exact ⟨_, _, rfl, by rw [getL, getOk, if_neg hf, decide_eq_false hf]; rfl, x1⟩
    have ht : cutOk l a n ∧ 1 ≤ n ∧ n ≤ 8 := ⟨c0, by omega, by omega⟩
    obtain ⟨p1, e1, cc, rfl, hb1⟩ := hb1
    have hl8 : (cutL l a n).length ≤ 8 := by rw [cutL_len c0]; omega
    have hm1 : (cutL l a n).length ≤ 9223372036854775807 := by omega
    simp -implicitDefEqProofs -dsimp (maxSteps := 10000000) only [af44, ↓kS, after_some, br_true, br_false, kC, ↓kQ, ↓Option.bind_some, ↓Option.map_some, ↓cond_true, ↓cond_false, evC, evOp, XO.lit, setArgs, Tr.tabG, Tr.tabS, Tr.tabL, Tr.get_lf, Option.bind_some, Option.map_some, cond_true, cond_false, maxI, maxFrom, minI, minFrom, aConv, aBinE, aEq, eqScal, aUn, evRes, fin, oneOf, if_true, if_false, callee, reduceCtorEq, Nat.reduceEqDiff, List.getElem?_cons_zero, List.getElem?_cons_succ, beq_self_eq_true, gt_iff_lt, List.head?_cons, AV.undef, eq_self, ne_eq, Int.reduceLT, Int.reduceLE, Int.reduceToNat, Int.reduceEq, Int.reduceNeg, Nat.reduceAdd, Nat.reduceLT, Nat.reduceLeDiff, Nat.reduceMul, Nat.reduceSub, h14, c1, c2, hm1]
    refine .while (I44 p1 e1 cc (cutL l a n) S1) id (cutL l a n).length ⟨rfl, rfl, rfl, 0, 0, rfl, rfl, by omega, by decide, rfl⟩ (by show (cutL l a n).length < k + 19; omega) fun m T2 S2 h2 => (round44 k hb1 hl8 m T2 S2 h2).mono ?_
    intro r T' S' hq
    cases r with
    | normal => exact hq
    | ret => exact absurd hq.1 (by simp)
    | exit i =>
      obtain ⟨hi, t30, t31, rfl, j, x, t32, t10, hj, hx, hxv⟩ := hq
      cases hi
      have : x = getL l a n := by
        rw [getL, if_pos ht, ← hxv, List.drop_of_length_le (by omega)]; rfl
      simp -implicitDefEqProofs -dsimp (maxSteps := 10000000) only [↓kS, after_some, br_true, br_false, kC, ↓kQ, ↓Option.bind_some, ↓Option.map_some, ↓cond_true, ↓cond_false, evC, evOp, XO.lit, setArgs, Tr.get_set, Option.bind_some, Option.map_some, cond_true, cond_false, maxI, maxFrom, minI, minFrom, aConv, aBinE, aEq, eqScal, aUn, evRes, fin, oneOf, if_true, if_false, callee, reduceCtorEq, Nat.reduceEqDiff, List.getElem?_cons_zero, List.getElem?_cons_succ, beq_self_eq_true, gt_iff_lt, List.head?_cons, AV.undef, eq_self, ne_eq, Int.reduceLT, Int.reduceLE, Int.reduceToNat, Int.reduceEq, Int.reduceNeg, Nat.reduceAdd, Nat.reduceLT, Nat.reduceLeDiff, Nat.reduceMul, Nat.reduceSub, t10]
      exact ⟨_, _, rfl, by rw [this, getOk, decide_eq_true ht], x1⟩
  · rw [decide_eq_false c0] at h14
    have hf : ¬ (cutOk l a n ∧ 1 ≤ n ∧ n ≤ 8) := fun h => c0 h.1
    simp -implicitDefEqProofs -dsimp (maxSteps := 10000000) only [af44, ↓kS, after_some, br_true, br_false, kC, ↓kQ, ↓Option.bind_some, ↓Option.map_some, ↓cond_true, ↓cond_false, evC, evOp, XO.lit, setArgs, Tr.tabG, Tr.tabS, Tr.tabL, Tr.get_lf, Option.bind_some, Option.map_some, cond_true, cond_false, maxI, maxFrom, minI, minFrom, aConv, aBinE, aEq, eqScal, aUn, evRes, fin, oneOf, if_true, if_false, callee, reduceCtorEq, Nat.reduceEqDiff, List.getElem?_cons_zero, List.getElem?_cons_succ, beq_self_eq_true, gt_iff_lt, List.head?_cons, AV.undef, eq_self, ne_eq, Int.reduceLT, Int.reduceLE, Int.reduceToNat, Int.reduceEq, Int.reduceNeg, Nat.reduceAdd, Nat.reduceLT, Nat.reduceLeDiff, Nat.reduceMul, Nat.reduceSub, h14]
    exact ⟨_, _, rfl, by rw [getL, getOk, if_neg hf, decide_eq_false hf]; rfl, x1⟩
structure I46 (p : Option (Nat × Nat × Nat)) (e : Nat) (c : Option Nat) (l : List Nat) (a n : Int) (Sb : St) (m : Nat) (T : Tm) (S : St) : Prop where
  t0 : T.get 0 = some (.slice p l.length e c)
  t1 : T.get 1 = some (.int .i64 a)
  t2 : T.get 2 = some (.int .i64 n)
  st : S = Sb
  more : ∃ j x : Nat, T.get 9 = some (.int .i64 j) ∧ T.get 8 = some (.int .u64 x) ∧ (j : Int) + m = n ∧ x < 256 ^ j ∧ hvF x ((cutL l a n).drop j) = hv (cutL l a n)
set_option maxHeartbeats 1000000 in
theorem round46 {Sb : St} (h : By Sb p e l) {a n : Int} (ha : I64 a) (hk : cutOk l a n) (h8 : n ≤ 8) (hr : l.length ≤ 140737488351500) (m : Nat) (T : Tm) (S : St) (hI : I46 p e c l a n Sb m T S) :
    Goes (evF Y AP (k + 19)) (k + 19) af46_l0 T S (Then (fun T' S' => ∃ m', I46 p e c l a n Sb m' T' S' ∧ id m' < id m) fun r T' S' => r = .exit 0 ∧ I46 p e c l a n Sb 0 T' S') := by
  obtain ⟨t0, t1, t2, rfl, j, x, t9, t8, hj, hx, hv'⟩ := hI
  have hk' := hk
  unfold cutOk at hk'
  rcases m with _ | m
  · have c0 : ¬ (j : Int) < n := by omega
    simp -implicitDefEqProofs -dsimp (maxSteps := 10000000) only [af46_l0, ↓kS, after_some, br_true, br_false, kC, ↓kQ, ↓Option.bind_some, ↓Option.map_some, ↓cond_true, ↓cond_false, evC, evOp, XO.lit, setArgs, Tr.get_set, Option.bind_some, Option.map_some, cond_true, cond_false, maxI, maxFrom, minI, minFrom, aConv, aBinE, aEq, eqScal, aUn, evRes, fin, oneOf, if_true, if_false, callee, reduceCtorEq, Nat.reduceEqDiff, List.getElem?_cons_zero, List.getElem?_cons_succ, beq_self_eq_true, gt_iff_lt, List.head?_cons, AV.undef, eq_self, ne_eq, Int.reduceLT, Int.reduceLE, Int.reduceToNat, Int.reduceEq, Int.reduceNeg, Nat.reduceAdd, Nat.reduceLT, Nat.reduceLeDiff, Nat.reduceMul, Nat.reduceSub, kM, AV.cells, AV.tup, List.drop_nil, List.append_nil, rdO, St.wr, List.length_cons, List.length_nil, List.take_succ_cons, List.take_zero, List.drop_succ_cons, List.drop_zero, List.cons_append, List.nil_append, Nat.reduceMul, t0, t1, t2, t9, t8, c0]
    refine ⟨?_, ?_, ?_, rfl, j, x, ?_, ?_, hj, hx, hv'⟩ <;> simp only [Tr.get_set, Nat.reduceEqDiff, if_false, if_true, t0, t1, t2, t9, t8]
  · have c0 : (j : Int) < n := by omega
    rcases p with _ | ⟨o, v, i⟩
    · have := h.nil rfl; rw [this] at hk'; simp at hk'; omega
    obtain rfl := h.ez.resolve_left (by simp)
    have hjl : j < (cutL l a n).length := by rw [cutL_len hk]; omega
    have hat : a.toNat + j < l.length := by omega
    have hel : (cutL l a n)[j] = l[a.toNat + j] := by
      simp only [cutL, if_pos hk, List.getElem_take, List.getElem_drop]
    have hb := h.bd l[a.toNat + j] (List.getElem_mem hat)
    obtain ⟨s1, s2, s3, s4⟩ := or_step hx (by omega) hb
    have w0 : IntKind.i64.wrap (a + (j : Int)) = a + (j : Int) := w64_id (by omega) (by omega)
    have hix : ixOf (.int .i64 (a + (j : Int))) l.length = some (a.toNat + j) := by rw [ix_ok (by omega) (by omega)]; congr 1; omega
    have hrd := h.get hat
    have w1 : IntKind.i64.wrap ((j : Int) + 1) = ((j + 1 : Nat) : Int) := w64_id (by omega) (by omega)
    obtain ⟨b, hbb⟩ : ∃ b, l[a.toNat + j] = b := ⟨_, rfl⟩
    rw [hbb] at hb s2 s3 s4 hrd hel
    have cs : ¬ (8 : Int) < 0 := by decide
    simp -implicitDefEqProofs -dsimp (maxSteps := 10000000) only [af46_l0, ↓kS, after_some, br_true, br_false, kC, ↓kQ, ↓Option.bind_some, ↓Option.map_some, ↓cond_true, ↓cond_false, evC, evOp, XO.lit, setArgs, Tr.get_set, Option.bind_some, Option.map_some, cond_true, cond_false, maxI, maxFrom, minI, minFrom, aConv, aBinE, aEq, eqScal, aUn, evRes, fin, oneOf, if_true, if_false, callee, reduceCtorEq, Nat.reduceEqDiff, List.getElem?_cons_zero, List.getElem?_cons_succ, beq_self_eq_true, gt_iff_lt, List.head?_cons, AV.undef, eq_self, ne_eq, Int.reduceLT, Int.reduceLE, Int.reduceToNat, Int.reduceEq, Int.reduceNeg, Nat.reduceAdd, Nat.reduceLT, Nat.reduceLeDiff, Nat.reduceMul, Nat.reduceSub, kM, AV.cells, AV.tup, List.drop_nil, List.append_nil, rdO, St.wr, List.length_cons, List.length_nil, List.take_succ_cons, List.take_zero, List.drop_succ_cons, List.drop_zero, List.cons_append, List.nil_append, Nat.reduceMul, t0, t1, t2, t9, t8, c0, w0, hix, Nat.mul_one, hrd, cs, s1, s2, s3, w1]
    refine ⟨m, ⟨?_, ?_, ?_, rfl, j + 1, x * 256 + b, ?_, ?_, by omega, s4, ?_⟩, Nat.lt_succ_self m⟩
    rotate_right
    · rw [← hv', List.drop_eq_getElem_cons hjl, hvF_cons, hel]
    all_goals simp only [Tr.get_set, Nat.reduceEqDiff, if_false, if_true, t0, t1, t2, t9, t8]
set_option maxHeartbeats 1000000 in
/-- the document's Get -/
theorem T46 (h : By S p e l) (hr : l.length ≤ 140737488351500) {a n : Int} (ha : I64 a) (hn : I64 n) :
    evF Y AP (k + 20) 46 [.slice p l.length e c, .int .i64 a, .int .i64 n] S = some (.tuple [.int .u64 (getL l a n), .bool (getOk l a n)], S) := by
  suffices hh : ∃ v S', evF Y AP (k + 20) 46 [.slice p l.length e c, .int .i64 a, .int .i64 n] S = some (v, S') ∧ (v = .tuple [.int .u64 (getL l a n), .bool (getOk l a n)] ∧ S' = S) by
    obtain ⟨v, S', h1, rfl, rfl⟩ := hh; exact h1
  have hm : l.length ≤ 9223372036854775807 := by omega
  refine evF_goes (af := af46) (k := k + 19) rfl rfl rfl ?_
  have no : ¬ (cutOk l a n ∧ 1 ≤ n ∧ n ≤ 8) → AV.tuple [.int .u64 0, .bool false] = .tuple [.int .u64 (getL l a n), .bool (getOk l a n)] := fun hf => by
    rw [getL, getOk, if_neg hf, decide_eq_false hf]; rfl
  by_cases c1 : n < 1
  · simp -implicitDefEqProofs -dsimp (maxSteps := 10000000) only [af46, ↓kS, after_some, br_true, br_false, kC, ↓kQ, ↓Option.bind_some, ↓Option.map_some, ↓cond_true, ↓cond_false, evC, evOp, XO.lit, setArgs, Tr.tabG, Tr.tabS, Tr.tabL, Tr.get_lf, Option.bind_some, Option.map_some, cond_true, cond_false, maxI, maxFrom, minI, minFrom, aConv, aBinE, aEq, eqScal, aUn, evRes, fin, oneOf, if_true, if_false, callee, reduceCtorEq, Nat.reduceEqDiff, List.getElem?_cons_zero, List.getElem?_cons_succ, beq_self_eq_true, gt_iff_lt, List.head?_cons, AV.undef, eq_self, ne_eq, Int.reduceLT, Int.reduceLE, Int.reduceToNat, Int.reduceEq, Int.reduceNeg, Nat.reduceAdd, Nat.reduceLT, Nat.reduceLeDiff, Nat.reduceMul, Nat.reduceSub, c1]
    exact ⟨_, _, rfl, no (by omega), rfl⟩
  by_cases c2 : 8 < n
  · simp -implicitDefEqProofs -dsimp (maxSteps := 10000000) only [af46, ↓kS, after_some, br_true, br_false, kC, ↓kQ, ↓Option.bind_some, ↓Option.map_some, ↓cond_true, ↓cond_false, evC, evOp, XO.lit, setArgs, Tr.tabG, Tr.tabS, Tr.tabL, Tr.get_lf, Option.bind_some, Option.map_some, cond_true, cond_false, maxI, maxFrom, minI, minFrom, aConv, aBinE, aEq, eqScal, aUn, evRes, fin, oneOf, if_true, if_false, callee, reduceCtorEq, Nat.reduceEqDiff, List.getElem?_cons_zero, List.getElem?_cons_succ, beq_self_eq_true, gt_iff_lt, List.head?_cons, AV.undef, eq_self, ne_eq, Int.reduceLT, Int.reduceLE, Int.reduceToNat, Int.reduceEq, Int.reduceNeg, Nat.reduceAdd, Nat.reduceLT, Nat.reduceLeDiff, Nat.reduceMul, Nat.reduceSub, c1, c2]
    exact ⟨_, _, rfl, no (by omega), rfl⟩
  by_cases c3 : a < 0
  · simp -implicitDefEqProofs -dsimp (maxSteps := 10000000) only [af46, ↓kS, after_some, br_true, br_false, kC, ↓kQ, ↓Option.bind_some, ↓Option.map_some, ↓cond_true, ↓cond_false, evC, evOp, XO.lit, setArgs, Tr.tabG, Tr.tabS, Tr.tabL, Tr.get_lf, Option.bind_some, Option.map_some, cond_true, cond_false, maxI, maxFrom, minI, minFrom, aConv, aBinE, aEq, eqScal, aUn, evRes, fin, oneOf, if_true, if_false, callee, reduceCtorEq, Nat.reduceEqDiff, List.getElem?_cons_zero, List.getElem?_cons_succ, beq_self_eq_true, gt_iff_lt, List.head?_cons, AV.undef, eq_self, ne_eq, Int.reduceLT, Int.reduceLE, Int.reduceToNat, Int.reduceEq, Int.reduceNeg, Nat.reduceAdd, Nat.reduceLT, Nat.reduceLeDiff, Nat.reduceMul, Nat.reduceSub, c1, c2, c3]
    exact ⟨_, _, rfl, no (by unfold cutOk; omega), rfl⟩
  by_cases c4 : (l.length : Int) < a
  · simp -implicitDefEqProofs -dsimp (maxSteps := 10000000) only [af46, ↓kS, after_some, br_true, br_false, kC, ↓kQ, ↓Option.bind_some, ↓Option.map_some, ↓cond_true, ↓cond_false, evC, evOp, XO.lit, setArgs, Tr.tabG, Tr.tabS, Tr.tabL, Tr.get_lf, Option.bind_some, Option.map_some, cond_true, cond_false, maxI, maxFrom, minI, minFrom, aConv, aBinE, aEq, eqScal, aUn, evRes, fin, oneOf, if_true, if_false, callee, reduceCtorEq, Nat.reduceEqDiff, List.getElem?_cons_zero, List.getElem?_cons_succ, beq_self_eq_true, gt_iff_lt, List.head?_cons, AV.undef, eq_self, ne_eq, Int.reduceLT, Int.reduceLE, Int.reduceToNat, Int.reduceEq, Int.reduceNeg, Nat.reduceAdd, Nat.reduceLT, Nat.reduceLeDiff, Nat.reduceMul, Nat.reduceSub, c1, c2, c3, c4, hm]
    exact ⟨_, _, rfl, no (by unfold cutOk; omega), rfl⟩
  have w1 : IntKind.i64.wrap ((l.length : Int) - a) = (l.length : Int) - a := w64_id (by omega) (by omega)
  by_cases c5 : (l.length : Int) - a < n
  · simp -implicitDefEqProofs -dsimp (maxSteps := 10000000) only [af46, ↓kS, after_some, br_true, br_false, kC, ↓kQ, ↓Option.bind_some, ↓Option.map_some, ↓cond_true, ↓cond_false, evC, evOp, XO.lit, setArgs, Tr.tabG, Tr.tabS, Tr.tabL, Tr.get_lf, Option.bind_some, Option.map_some, cond_true, cond_false, maxI, maxFrom, minI, minFrom, aConv, aBinE, aEq, eqScal, aUn, evRes, fin, oneOf, if_true, if_false, callee, reduceCtorEq, Nat.reduceEqDiff, List.getElem?_cons_zero, List.getElem?_cons_succ, beq_self_eq_true, gt_iff_lt, List.head?_cons, AV.undef, eq_self, ne_eq, Int.reduceLT, Int.reduceLE, Int.reduceToNat, Int.reduceEq, Int.reduceNeg, Nat.reduceAdd, Nat.reduceLT, Nat.reduceLeDiff, Nat.reduceMul, Nat.reduceSub, c1, c2, c3, c4, c5, hm, w1]
    exact ⟨_, _, rfl, no (by unfold cutOk; omega), rfl⟩
  have hk : cutOk l a n := by unfold cutOk; omega
  have ht : cutOk l a n ∧ 1 ≤ n ∧ n ≤ 8 := ⟨hk, by omega, by omega⟩
  simp -implicitDefEqProofs -dsimp (maxSteps := 10000000) only [af46, ↓kS, after_some, br_true, br_false, kC, ↓kQ, ↓Option.bind_some, ↓Option.map_some, ↓cond_true, ↓cond_false, evC, evOp, XO.lit, setArgs, Tr.tabG, Tr.tabS, Tr.tabL, Tr.get_lf, Option.bind_some, Option.map_some, cond_true, cond_false, maxI, maxFrom, minI, minFrom, aConv, aBinE, aEq, eqScal, aUn, evRes, fin, oneOf, if_true, if_false, callee, reduceCtorEq, Nat.reduceEqDiff, List.getElem?_cons_zero, List.getElem?_cons_succ, beq_self_eq_true, gt_iff_lt, List.head?_cons, AV.undef, eq_self, ne_eq, Int.reduceLT, Int.reduceLE, Int.reduceToNat, Int.reduceEq, Int.reduceNeg, Nat.reduceAdd, Nat.reduceLT, Nat.reduceLeDiff, Nat.reduceMul, Nat.reduceSub, c1, c2, c3, c4, c5, hm, w1]
  refine .while (I46 p e c l a n S) id n.toNat ⟨rfl, rfl, rfl, rfl, 0, 0, rfl, rfl, by omega, by decide, rfl⟩ (by show n.toNat < k + 19; omega) fun m T2 S2 h2 => (round46 k h ha hk (by omega) hr m T2 S2 h2).mono ?_
  intro r T' S' hq
  cases r with
  | normal => exact hq
  | ret => exact absurd hq.1 (by simp)
  | exit i =>
    obtain ⟨hi, t0, t1, t2, rfl, j, x, t9, t8, hj, hx, hxv⟩ := hq
    cases hi
    have : x = getL l a n := by
      rw [getL, if_pos ht, ← hxv, List.drop_of_length_le (by rw [cutL_len hk]; omega)]; rfl
    simp -implicitDefEqProofs -dsimp (maxSteps := 10000000) only [↓kS, after_some, br_true, br_false, kC, ↓kQ, ↓Option.bind_some, ↓Option.map_some, ↓cond_true, ↓cond_false, evC, evOp, XO.lit, setArgs, Tr.get_set, Option.bind_some, Option.map_some, cond_true, cond_false, maxI, maxFrom, minI, minFrom, aConv, aBinE, aEq, eqScal, aUn, evRes, fin, oneOf, if_true, if_false, callee, reduceCtorEq, Nat.reduceEqDiff, List.getElem?_cons_zero, List.getElem?_cons_succ, beq_self_eq_true, gt_iff_lt, List.head?_cons, AV.undef, eq_self, ne_eq, Int.reduceLT, Int.reduceLE, Int.reduceToNat, Int.reduceEq, Int.reduceNeg, Nat.reduceAdd, Nat.reduceLT, Nat.reduceLeDiff, Nat.reduceMul, Nat.reduceSub, t8]
    exact ⟨_, _, rfl, by rw [this, getOk, decide_eq_true ht], rfl⟩
/-- The document's Put. -/
structure I29 (Sb : St) (l : List Nat) (n : Int) (z m : Nat) (T : Tm) (S : St) : Prop where
  t1 : T.get 1 = some (.int .u64 n)
  t8 : T.get 8 = some (.int .i64 ((m : Int) - 1))
  mz : m ≤ z
  more : ∃ p e c, T.get 7 = some (.slice p c.length e none) ∧ Gr Sb S p e c ∧ c ++ be n m = l ++ be n z
set_option maxHeartbeats 1000000 in
theorem round29 {Sb : St} {n : Int} {z : Nat} (hz : z ≤ 8) (hr : l.length + 8 ≤ 140737488355328) (m : Nat) (T : Tm) (S : St) (h : I29 Sb l n z m T S) :
    Goes (evF Y AP (k + 19)) (k + 19) af29_l0 T S (Then (fun T' S' => ∃ m', I29 Sb l n z m' T' S' ∧ id m' < id m) fun r T' S' => r = .exit 0 ∧ I29 Sb l n z 0 T' S') := by
  obtain ⟨t1, t8, mz, p, e, c, t7, hg, hc⟩ := h
  rcases m with _ | j
  · have c0 : ¬ (0 : Int) ≤ ((0 : Nat) : Int) - 1 := by omega
    simp -implicitDefEqProofs -dsimp (maxSteps := 10000000) only [af29_l0, ↓kS, after_some, br_true, br_false, kC, ↓kQ, ↓Option.bind_some, ↓Option.map_some, ↓cond_true, ↓cond_false, evC, evOp, XO.lit, setArgs, Tr.get_set, Option.bind_some, Option.map_some, cond_true, cond_false, maxI, maxFrom, minI, minFrom, aConv, aBinE, aEq, eqScal, aUn, evRes, fin, oneOf, if_true, if_false, callee, reduceCtorEq, Nat.reduceEqDiff, List.getElem?_cons_zero, List.getElem?_cons_succ, beq_self_eq_true, gt_iff_lt, List.head?_cons, AV.undef, eq_self, ne_eq, Int.reduceLT, Int.reduceLE, Int.reduceToNat, Int.reduceEq, Int.reduceNeg, Nat.reduceAdd, Nat.reduceLT, Nat.reduceLeDiff, Nat.reduceMul, Nat.reduceSub, kM, AV.cells, AV.tup, List.drop_nil, List.append_nil, rdO, St.wr, List.length_cons, List.length_nil, List.take_succ_cons, List.take_zero, List.drop_succ_cons, List.drop_zero, List.cons_append, List.nil_append, Nat.reduceMul, t1, t7, t8, c0]
    refine ⟨?_, ?_, by omega, p, e, c, ?_, hg, hc⟩ <;> simp only [Tr.get_set, Nat.reduceEqDiff, if_false, if_true, t1, t7, t8]
  · have e8 : (((j + 1 : Nat) : Int)) - 1 = (j : Int) := by omega
    rw [e8] at t8
    have hlen : c.length + (j + 1) = l.length + z := by
      have := congrArg List.length hc
      simpa [be_len] using this
    have c0 : (0 : Int) ≤ (j : Int) := by omega
    have c1 : ¬ (8 * (j : Int)) < 0 := by omega
    have w1 : IntKind.i64.wrap (8 * (j : Int)) = 8 * (j : Int) := w64_id (by omega) (by omega)
    have w3 : IntKind.u64.wrap (8 * (j : Int)) = 8 * (j : Int) := u64_id (by omega) (by omega)
    have w2 : IntKind.i64.wrap ((j : Int) - 1) = (j : Int) - 1 := w64_id (by omega) (by omega)
    have hs : min (8 * (j : Int)).toNat IntKind.u64.bits = 8 * j := by
      show min (8 * (j : Int)).toNat 64 = 8 * j
      omega
    obtain ⟨hw, hb⟩ := u8_nat n j
    obtain ⟨b, hbb⟩ : ∃ b, (n / 2 ^ (8 * j) % 256).toNat = b := ⟨_, rfl⟩
    rw [hbb] at hw hb
    obtain ⟨p', e', S', h1, h2⟩ := (hg.more (.alloc S (.cells [.int .u8 (b : Int)] 0 0 true))).app1 hb (by omega)
    simp -implicitDefEqProofs -dsimp (maxSteps := 10000000) only [af29_l0, ↓kS, after_some, br_true, br_false, kC, ↓kQ, ↓Option.bind_some, ↓Option.map_some, ↓cond_true, ↓cond_false, evC, evOp, XO.lit, setArgs, Tr.get_set, Option.bind_some, Option.map_some, cond_true, cond_false, maxI, maxFrom, minI, minFrom, aConv, aBinE, aEq, eqScal, aUn, evRes, fin, oneOf, if_true, if_false, callee, reduceCtorEq, Nat.reduceEqDiff, List.getElem?_cons_zero, List.getElem?_cons_succ, beq_self_eq_true, gt_iff_lt, List.head?_cons, AV.undef, eq_self, ne_eq, Int.reduceLT, Int.reduceLE, Int.reduceToNat, Int.reduceEq, Int.reduceNeg, Nat.reduceAdd, Nat.reduceLT, Nat.reduceLeDiff, Nat.reduceMul, Nat.reduceSub, kM, AV.cells, AV.tup, List.drop_nil, List.append_nil, rdO, St.wr, List.length_cons, List.length_nil, List.take_succ_cons, List.take_zero, List.drop_succ_cons, List.drop_zero, List.cons_append, List.nil_append, Nat.reduceMul, aFill, evParts, rep, List.replicate_succ, List.replicate_zero, List.flatten_cons, List.flatten_nil, List.append_nil, newSl, newVar, t1, t7, t8, c0, c1, w1, w3, hs, hw, h1, w2]
    refine ⟨j, ⟨?_, ?_, by omega, p', e', c ++ [b], ?_, h2, ?_⟩, Nat.lt_succ_self j⟩
    rotate_right
    · rw [← hc, be, hbb, List.append_assoc]; rfl
    all_goals simp only [Tr.get_set, Nat.reduceEqDiff, if_false, if_true, t1, t7, t8, List.length_append, List.length_singleton]
/-- A fresh row of what another one holds. -/
theorem fresh_app (h : By S p e l) (hr : l.length ≤ 140737488355328) (c : Option Nat) :
    ∃ p' e' S', evOp (.append 1 1 (.c (.slice (some (S.next, 0, 0)) 0 1 none)) (.c (.slice p l.length e c))) .lf (S.alloc (.cells [] 0 0 true)) = some (.slice p' l.length e' none, S') ∧ Gr S S' p' e' l := by
  obtain ⟨p', e', S', h3, g⟩ := (Gr.empty S).app h.bd (by simpa using hr)
  rw [List.nil_append] at h3 g
  simp only [List.length_nil] at h3
  refine ⟨p', e', S', ?_, g⟩
  rcases p with _ | ⟨o, v, i⟩
  · obtain rfl := h.nil rfl
    exact h3
  · obtain rfl := h.ez.resolve_left (by simp)
    obtain ⟨h4, h5⟩ := h.at_ o v i rfl
    have h6 : (S.alloc (.cells [] 0 0 true)).rd o v i l.length = some (bv l) := by
      rw [rd_alloc, if_neg (by omega)]; exact h5
    simp only [evOp, XO.ev, Option.bind_some, if_true, Nat.mul_one, h6, h3]
theorem wh29 {P : Tm → St → Prop} {Sb : St} {n : Int} {z : Nat} (hz : z ≤ 8) (hr : l.length + 8 ≤ 140737488355328) {T : Tm} {S : St} (h : I29 Sb l n z z T S) {Q : Ex → Tm → St → Prop}
    (hQ : ∀ T' S', I29 Sb l n z 0 T' S' → Q (.exit 0) T' S') : Goes (evF Y AP (k + 19)) (k + 19) (.loop af29_l0) T S Q := by
  refine .while (I29 Sb l n z) id z h (by show z < k + 19; omega) fun m T2 S2 h2 => (round29 k hz hr m T2 S2 h2).mono ?_
  intro r T' S' hq
  cases r with
  | normal => exact hq
  | ret => exact absurd hq.1 (by simp)
  | exit i => obtain ⟨hi, hq⟩ := hq; cases hi; exact hQ _ _ hq
set_option maxHeartbeats 2000000 in
theorem T29 (h : By S p e l) (hr : l.length ≤ 140737488351500) {n size : Int} (hs : I64 size) :
    ∃ v' S', evF Y AP (k + 20) 29 [.slice p l.length e c, .int .u64 n, .int .i64 size] S = some (v', S') ∧ Nb S S' v' (putL l n size) := by
  obtain ⟨p1, e1, S1, h3, g1⟩ := fresh_app h (by omega) c
  refine evF_goes (af := af29) (k := k + 19) rfl rfl rfl ?_
  have b1 := g1.by_ (by omega)
  rcases p with _ | ⟨o, v, i⟩
  all_goals
    simp only [evOp, XO.ev, Option.bind_some] at h3
    by_cases c1 : size < 1
    · simp -implicitDefEqProofs -dsimp (maxSteps := 10000000) only [af29, ↓kS, after_some, br_true, br_false, kC, ↓kQ, ↓Option.bind_some, ↓Option.map_some, ↓cond_true, ↓cond_false, evC, evOp, XO.lit, setArgs, Tr.tabG, Tr.tabS, Tr.tabL, Tr.get_lf, Option.bind_some, Option.map_some, cond_true, cond_false, maxI, maxFrom, minI, minFrom, aConv, aBinE, aEq, eqScal, aUn, evRes, fin, oneOf, if_true, if_false, callee, reduceCtorEq, Nat.reduceEqDiff, List.getElem?_cons_zero, List.getElem?_cons_succ, beq_self_eq_true, gt_iff_lt, List.head?_cons, AV.undef, eq_self, ne_eq, Int.reduceLT, Int.reduceLE, Int.reduceToNat, Int.reduceEq, Int.reduceNeg, Nat.reduceAdd, Nat.reduceLT, Nat.reduceLeDiff, Nat.reduceMul, Nat.reduceSub, aFill, evParts, rep, List.replicate_succ, List.replicate_zero, List.flatten_cons, List.flatten_nil, List.append_nil, newSl, newVar, h3, c1]
      have hp : putL l n size = l := by simp only [putL, c1, true_or, if_true]
      rw [hp]
      exact ⟨_, _, rfl, .gr g1 (by omega)⟩
    by_cases c2 : 8 < size
    · simp -implicitDefEqProofs -dsimp (maxSteps := 10000000) only [af29, ↓kS, after_some, br_true, br_false, kC, ↓kQ, ↓Option.bind_some, ↓Option.map_some, ↓cond_true, ↓cond_false, evC, evOp, XO.lit, setArgs, Tr.tabG, Tr.tabS, Tr.tabL, Tr.get_lf, Option.bind_some, Option.map_some, cond_true, cond_false, maxI, maxFrom, minI, minFrom, aConv, aBinE, aEq, eqScal, aUn, evRes, fin, oneOf, if_true, if_false, callee, reduceCtorEq, Nat.reduceEqDiff, List.getElem?_cons_zero, List.getElem?_cons_succ, beq_self_eq_true, gt_iff_lt, List.head?_cons, AV.undef, eq_self, ne_eq, Int.reduceLT, Int.reduceLE, Int.reduceToNat, Int.reduceEq, Int.reduceNeg, Nat.reduceAdd, Nat.reduceLT, Nat.reduceLeDiff, Nat.reduceMul, Nat.reduceSub, aFill, evParts, rep, List.replicate_succ, List.replicate_zero, List.flatten_cons, List.flatten_nil, List.append_nil, newSl, newVar, h3, c1, c2]
      have hp : putL l n size = l := by simp only [putL, c2, or_true, if_true]
      rw [hp]
      exact ⟨_, _, rfl, .gr g1 (by omega)⟩
    have w1 : IntKind.i64.wrap (size - 1) = size - 1 := w64_id (by omega) (by omega)
    simp -implicitDefEqProofs -dsimp (maxSteps := 10000000) only [af29, ↓kS, after_some, br_true, br_false, kC, ↓kQ, ↓Option.bind_some, ↓Option.map_some, ↓cond_true, ↓cond_false, evC, evOp, XO.lit, setArgs, Tr.tabG, Tr.tabS, Tr.tabL, Tr.get_lf, Option.bind_some, Option.map_some, cond_true, cond_false, maxI, maxFrom, minI, minFrom, aConv, aBinE, aEq, eqScal, aUn, evRes, fin, oneOf, if_true, if_false, callee, reduceCtorEq, Nat.reduceEqDiff, List.getElem?_cons_zero, List.getElem?_cons_succ, beq_self_eq_true, gt_iff_lt, List.head?_cons, AV.undef, eq_self, ne_eq, Int.reduceLT, Int.reduceLE, Int.reduceToNat, Int.reduceEq, Int.reduceNeg, Nat.reduceAdd, Nat.reduceLT, Nat.reduceLeDiff, Nat.reduceMul, Nat.reduceSub, aFill, evParts, rep, List.replicate_succ, List.replicate_zero, List.flatten_cons, List.flatten_nil, List.append_nil, newSl, newVar, h3, c1, c2, w1]
    refine wh29 (P := fun _ _ => True) (l := l) (n := n) (z := size.toNat) k (Sb := S) (by omega) (by omega) ⟨rfl, ?_, Nat.le_refl _, p1, e1, l, rfl, g1, rfl⟩ ?_
    · have : ((size.toNat : Nat) : Int) - 1 = size - 1 := by omega
      rw [this]; rfl
    · rintro T' S' ⟨t1, t8, mz, p3, e3, c3, t7, g3, hc3⟩
      have hc3 : c3 = putL l n size := by
        simp only [be, List.append_nil] at hc3
        rw [hc3, putL, if_neg (by omega)]
      have hl3 : c3.length ≤ 140737488355328 := by
        rw [hc3, putL, if_neg (by omega), List.length_append, be_len]; omega
      simp -implicitDefEqProofs -dsimp (maxSteps := 10000000) only [↓kS, after_some, br_true, br_false, kC, ↓kQ, ↓Option.bind_some, ↓Option.map_some, ↓cond_true, ↓cond_false, evC, evOp, XO.lit, setArgs, Tr.get_set, Option.bind_some, Option.map_some, cond_true, cond_false, maxI, maxFrom, minI, minFrom, aConv, aBinE, aEq, eqScal, aUn, evRes, fin, oneOf, if_true, if_false, callee, reduceCtorEq, Nat.reduceEqDiff, List.getElem?_cons_zero, List.getElem?_cons_succ, beq_self_eq_true, gt_iff_lt, List.head?_cons, AV.undef, eq_self, ne_eq, Int.reduceLT, Int.reduceLE, Int.reduceToNat, Int.reduceEq, Int.reduceNeg, Nat.reduceAdd, Nat.reduceLT, Nat.reduceLeDiff, Nat.reduceMul, Nat.reduceSub, t7]
      rw [← hc3]
      exact ⟨_, _, rfl, .gr g3 hl3⟩
end
def padN (n t : Nat) : Nat := (t - n % t) % t
theorem padN_lt (n : Nat) {t : Nat} (ht : 0 < t) : padN n t < t := Nat.mod_lt _ ht
theorem padN_end (n : Nat) {t : Nat} (ht : 0 < t) : (n + padN n t) % t = 0 := by
  unfold padN
  have h := Nat.mod_lt n ht
  rw [Nat.add_mod, Nat.mod_mod]
  by_cases h0 : n % t = 0
  · rw [h0]; simp
  · rw [Nat.mod_eq_of_lt (show t - n % t < t by omega), show n % t + (t - n % t) = t by omega, Nat.mod_self]
theorem padN_in (n : Nat) {t j : Nat} (ht : 0 < t) (hj : j < padN n t) : (n + j) % t ≠ 0 := by
  unfold padN at hj
  have h := Nat.mod_lt n ht
  by_cases h0 : n % t = 0
  · rw [h0] at hj; simp at hj
  · rw [Nat.mod_eq_of_lt (show t - n % t < t by omega)] at hj
    rw [Nat.add_mod, Nat.mod_eq_of_lt (show j < t by omega), Nat.mod_eq_of_lt (show n % t + j < t by omega)]
    omega
def padL (l : List Nat) (to : Int) : List Nat := if to < 1 ∨ 64 < to then l else l ++ List.replicate (padN l.length to.toNat) 0
theorem byt_rep (j : Nat) : Byt (List.replicate j 0) := fun b hb => by rw [(List.mem_replicate.1 hb).2]; decide
structure I13 (Sb : St) (l : List Nat) (to : Int) (m : Nat) (T : Tm) (S : St) : Prop where
  t1 : T.get 1 = some (.int .i64 to)
  more : ∃ p e c j, T.get 5 = some (.slice p c.length e none) ∧ Gr Sb S p e c ∧ c = l ++ List.replicate j 0 ∧ j + m = padN l.length to.toNat
section
variable {S : St} {p : Option (Nat × Nat × Nat)} {e : Nat} {c : Option Nat} {l : List Nat} (k : Nat)
set_option maxHeartbeats 1000000 in
theorem round26 {Sb : St} {to : Int} (h0 : 1 ≤ to) (h1 : to ≤ 64) (hr : l.length ≤ 140737488351500) (m : Nat) (T : Tm) (S : St) (h : I13 Sb l to m T S) :
    Goes (evF Y AP (k + 69)) (k + 69) af26_l0 T S (Then (fun T' S' => ∃ m', I13 Sb l to m' T' S' ∧ id m' < id m) fun r T' S' => r = .exit 0 ∧ I13 Sb l to 0 T' S') := by
  obtain ⟨t1, p, e, c, j, t5, hg, hc, hj⟩ := h
  have hp := padN_lt l.length (t := to.toNat) (by omega)
  have hl : c.length = l.length + j := by rw [hc, List.length_append, List.length_replicate]
  have hm : c.length ≤ 9223372036854775807 := by omega
  have z1 : ¬ to = 0 := by omega
  have htm : Int.tmod (c.length : Int) to = (((l.length + j) % to.toNat : Nat) : Int) := by
    rw [Int.tmod_eq_emod_of_nonneg (by omega), hl]
    conv => lhs; rw [show to = ((to.toNat : Nat) : Int) by omega]
    exact (Int.natCast_emod _ _).symm
  rcases m with _ | m
  · have c0 : (((l.length + j) % to.toNat : Nat) : Int) = 0 := by
      rw [show j = padN l.length to.toNat by omega, padN_end _ (by omega)]; rfl
    simp -implicitDefEqProofs -dsimp (maxSteps := 10000000) only [af26_l0, ↓kS, after_some, br_true, br_false, kC, ↓kQ, ↓Option.bind_some, ↓Option.map_some, ↓cond_true, ↓cond_false, evC, evOp, XO.lit, setArgs, Tr.get_set, Option.bind_some, Option.map_some, cond_true, cond_false, maxI, maxFrom, minI, minFrom, aConv, aBinE, aEq, eqScal, aUn, evRes, fin, oneOf, if_true, if_false, callee, reduceCtorEq, Nat.reduceEqDiff, List.getElem?_cons_zero, List.getElem?_cons_succ, beq_self_eq_true, gt_iff_lt, List.head?_cons, AV.undef, eq_self, ne_eq, Int.reduceLT, Int.reduceLE, Int.reduceToNat, Int.reduceEq, Int.reduceNeg, Nat.reduceAdd, Nat.reduceLT, Nat.reduceLeDiff, Nat.reduceMul, Nat.reduceSub, kM, AV.cells, AV.tup, List.drop_nil, List.append_nil, rdO, St.wr, List.length_cons, List.length_nil, List.take_succ_cons, List.take_zero, List.drop_succ_cons, List.drop_zero, List.cons_append, List.nil_append, Nat.reduceMul, t1, t5, hm, z1, htm, c0, h0, h1]
    refine ⟨?_, p, e, c, j, ?_, hg, hc, hj⟩ <;> simp only [Tr.get_set, Nat.reduceEqDiff, if_false, if_true, t1, t5]
  · have c0 : ¬ (((l.length + j) % to.toNat : Nat) : Int) = 0 := by
      have := padN_in l.length (t := to.toNat) (j := j) (by omega) (by omega)
      omega
    obtain ⟨p', e', S', h3, h2⟩ := (hg.more (.alloc S (.cells [.int .u8 ((0 : Nat) : Int)] 0 0 true))).app1 (b := 0) (by decide) (by omega)
    have hz : ((0 : Nat) : Int) = 0 := rfl
    rw [hz] at h3
    simp -implicitDefEqProofs -dsimp (maxSteps := 10000000) only [af26_l0, ↓kS, after_some, br_true, br_false, kC, ↓kQ, ↓Option.bind_some, ↓Option.map_some, ↓cond_true, ↓cond_false, evC, evOp, XO.lit, setArgs, Tr.get_set, Option.bind_some, Option.map_some, cond_true, cond_false, maxI, maxFrom, minI, minFrom, aConv, aBinE, aEq, eqScal, aUn, evRes, fin, oneOf, if_true, if_false, callee, reduceCtorEq, Nat.reduceEqDiff, List.getElem?_cons_zero, List.getElem?_cons_succ, beq_self_eq_true, gt_iff_lt, List.head?_cons, AV.undef, eq_self, ne_eq, Int.reduceLT, Int.reduceLE, Int.reduceToNat, Int.reduceEq, Int.reduceNeg, Nat.reduceAdd, Nat.reduceLT, Nat.reduceLeDiff, Nat.reduceMul, Nat.reduceSub, kM, AV.cells, AV.tup, List.drop_nil, List.append_nil, rdO, St.wr, List.length_cons, List.length_nil, List.take_succ_cons, List.take_zero, List.drop_succ_cons, List.drop_zero, List.cons_append, List.nil_append, Nat.reduceMul, aFill, evParts, rep, List.replicate_succ, List.replicate_zero, List.flatten_cons, List.flatten_nil, List.append_nil, newSl, newVar, t1, t5, hm, z1, htm, c0, h0, h1, h3]
    refine ⟨m, ⟨?_, p', e', c ++ [0], j + 1, ?_, h2, ?_, by omega⟩, Nat.lt_succ_self m⟩
    rotate_right
    · rw [hc, List.append_assoc, ← List.replicate_succ']
    all_goals simp only [Tr.get_set, Nat.reduceEqDiff, if_false, if_true, t1, t5, List.length_append, List.length_singleton]
/-- The document's padding loop, whatever is asked. -/
theorem wh26 {Sb : St} {to : Int} (hr : l.length ≤ 140737488351500) {T : Tm} {S : St} (t1 : T.get 1 = some (.int .i64 to)) {p : Option (Nat × Nat × Nat)} {e : Nat} (t5 : T.get 5 = some (.slice p l.length e none)) (g : Gr Sb S p e l) {Q : Ex → Tm → St → Prop}
    (hQ : ∀ T' S', (∃ p' e', T'.get 5 = some (.slice p' (padL l to).length e' none) ∧ Gr Sb S' p' e' (padL l to)) → Q (.exit 0) T' S') : Goes (evF Y AP (k + 69)) (k + 69) (.loop af26_l0) T S Q := by
  by_cases h0 : 1 ≤ to
  · by_cases h1 : to ≤ 64
    · have hp := padN_lt l.length (t := to.toNat) (by omega)
      refine .while (I13 Sb l to) id (padN l.length to.toNat) ⟨t1, p, e, l, 0, t5, g, by simp, by omega⟩ (by show padN l.length to.toNat < k + 69; omega) fun m T2 S2 h2 => (round26 k h0 h1 hr m T2 S2 h2).mono ?_
      intro r T' S' hq
      cases r with
      | normal => exact hq
      | ret => exact absurd hq.1 (by simp)
      | exit i =>
        obtain ⟨hi, t1, p3, e3, c3, j, t5, g3, hc3, hj⟩ := hq
        cases hi
        have hc3 : c3 = padL l to := by
          rw [hc3, padL, if_neg (by omega)]; congr 2
        subst hc3
        exact hQ _ _ ⟨p3, e3, t5, g3⟩
    · refine .while (fun (m : Nat) T' S' => T' = T ∧ S' = S) id 0 ⟨rfl, rfl⟩ (by show 0 < k + 69; omega) ?_
      rintro m T' S' ⟨rfl, rfl⟩
      simp -implicitDefEqProofs -dsimp (maxSteps := 10000000) only [af26_l0, ↓kS, after_some, br_true, br_false, kC, ↓kQ, ↓Option.bind_some, ↓Option.map_some, ↓cond_true, ↓cond_false, evC, evOp, XO.lit, setArgs, Tr.get_set, Option.bind_some, Option.map_some, cond_true, cond_false, maxI, maxFrom, minI, minFrom, aConv, aBinE, aEq, eqScal, aUn, evRes, fin, oneOf, if_true, if_false, callee, reduceCtorEq, Nat.reduceEqDiff, List.getElem?_cons_zero, List.getElem?_cons_succ, beq_self_eq_true, gt_iff_lt, List.head?_cons, AV.undef, eq_self, ne_eq, Int.reduceLT, Int.reduceLE, Int.reduceToNat, Int.reduceEq, Int.reduceNeg, Nat.reduceAdd, Nat.reduceLT, Nat.reduceLeDiff, Nat.reduceMul, Nat.reduceSub, kM, AV.cells, AV.tup, List.drop_nil, List.append_nil, rdO, St.wr, List.length_cons, List.length_nil, List.take_succ_cons, List.take_zero, List.drop_succ_cons, List.drop_zero, List.cons_append, List.nil_append, Nat.reduceMul, t1, t5, h0, h1]
      refine hQ _ _ ⟨p, e, ?_, ?_⟩
      · simp only [Tr.get_set, Nat.reduceEqDiff, if_false, if_true, t5, padL, if_pos (show to < 1 ∨ 64 < to by omega)]
      · simpa only [padL, if_pos (show to < 1 ∨ 64 < to by omega)] using g
  · refine .while (fun (m : Nat) T' S' => T' = T ∧ S' = S) id 0 ⟨rfl, rfl⟩ (by show 0 < k + 69; omega) ?_
    rintro m T' S' ⟨rfl, rfl⟩
    simp -implicitDefEqProofs -dsimp (maxSteps := 10000000) only [af26_l0, ↓kS, after_some, br_true, br_false, kC, ↓kQ, ↓Option.bind_some, ↓Option.map_some, ↓cond_true, ↓cond_false, evC, evOp, XO.lit, setArgs, Tr.get_set, Option.bind_some, Option.map_some, cond_true, cond_false, maxI, maxFrom, minI, minFrom, aConv, aBinE, aEq, eqScal, aUn, evRes, fin, oneOf, if_true, if_false, callee, reduceCtorEq, Nat.reduceEqDiff, List.getElem?_cons_zero, List.getElem?_cons_succ, beq_self_eq_true, gt_iff_lt, List.head?_cons, AV.undef, eq_self, ne_eq, Int.reduceLT, Int.reduceLE, Int.reduceToNat, Int.reduceEq, Int.reduceNeg, Nat.reduceAdd, Nat.reduceLT, Nat.reduceLeDiff, Nat.reduceMul, Nat.reduceSub, kM, AV.cells, AV.tup, List.drop_nil, List.append_nil, rdO, St.wr, List.length_cons, List.length_nil, List.take_succ_cons, List.take_zero, List.drop_succ_cons, List.drop_zero, List.cons_append, List.nil_append, Nat.reduceMul, t1, t5, h0]
    refine hQ _ _ ⟨p, e, ?_, ?_⟩
    · simp only [Tr.get_set, Nat.reduceEqDiff, if_false, if_true, t5, padL, if_pos (show to < 1 ∨ 64 < to by omega)]
    · simpa only [padL, if_pos (show to < 1 ∨ 64 < to by omega)] using g
theorem padL_len (to : Int) : (padL l to).length ≤ l.length + 64 := by
  unfold padL
  split
  · omega
  · have hp := padN_lt l.length (t := to.toNat) (by omega)
    rw [List.length_append, List.length_replicate]; omega
set_option maxHeartbeats 1000000 in
theorem T26 (h : By S p e l) (hr : l.length ≤ 140737488351500) {to : Int} :
    ∃ v' S', evF Y AP (k + 70) 26 [.slice p l.length e c, .int .i64 to] S = some (v', S') ∧ Bs S' v' (padL l to) ∧ Ext S S' := by
  obtain ⟨p1, e1, S1, h3, g1⟩ := fresh_app h (by omega) c
  refine evF_goes (af := af26) (k := k + 69) rfl rfl rfl ?_
  have b1 := g1.by_ (by omega)
  have hpl := padL_len (l := l) to
  rcases p with _ | ⟨o, v, i⟩
  all_goals
    simp only [evOp, XO.ev, Option.bind_some] at h3
    simp -implicitDefEqProofs -dsimp (maxSteps := 10000000) only [af26, ↓kS, after_some, br_true, br_false, kC, ↓kQ, ↓Option.bind_some, ↓Option.map_some, ↓cond_true, ↓cond_false, evC, evOp, XO.lit, setArgs, Tr.tabG, Tr.tabS, Tr.tabL, Tr.get_lf, Option.bind_some, Option.map_some, cond_true, cond_false, maxI, maxFrom, minI, minFrom, aConv, aBinE, aEq, eqScal, aUn, evRes, fin, oneOf, if_true, if_false, callee, reduceCtorEq, Nat.reduceEqDiff, List.getElem?_cons_zero, List.getElem?_cons_succ, beq_self_eq_true, gt_iff_lt, List.head?_cons, AV.undef, eq_self, ne_eq, Int.reduceLT, Int.reduceLE, Int.reduceToNat, Int.reduceEq, Int.reduceNeg, Nat.reduceAdd, Nat.reduceLT, Nat.reduceLeDiff, Nat.reduceMul, Nat.reduceSub, aFill, evParts, rep, List.replicate_succ, List.replicate_zero, List.flatten_cons, List.flatten_nil, List.append_nil, newSl, newVar, h3]
    refine wh26 k hr (to := to) rfl rfl g1 ?_
    rintro T' S' ⟨p3, e3, t5, g3⟩
    simp -implicitDefEqProofs -dsimp (maxSteps := 10000000) only [↓kS, after_some, br_true, br_false, kC, ↓kQ, ↓Option.bind_some, ↓Option.map_some, ↓cond_true, ↓cond_false, evC, evOp, XO.lit, setArgs, Tr.get_set, Option.bind_some, Option.map_some, cond_true, cond_false, maxI, maxFrom, minI, minFrom, aConv, aBinE, aEq, eqScal, aUn, evRes, fin, oneOf, if_true, if_false, callee, reduceCtorEq, Nat.reduceEqDiff, List.getElem?_cons_zero, List.getElem?_cons_succ, beq_self_eq_true, gt_iff_lt, List.head?_cons, AV.undef, eq_self, ne_eq, Int.reduceLT, Int.reduceLE, Int.reduceToNat, Int.reduceEq, Int.reduceNeg, Nat.reduceAdd, Nat.reduceLT, Nat.reduceLeDiff, Nat.reduceMul, Nat.reduceSub, t5]
    exact ⟨_, _, rfl, ⟨p3, e3, none, rfl, g3.by_ (by omega)⟩, g3.ext⟩
end
def within (n lo hi : Int) : Int := if lo ≤ n ∧ n ≤ hi then n else lo + n % (hi - lo + 1)
theorem within_bd (n : Int) {lo hi : Int} (h : lo ≤ hi) : lo ≤ within n lo hi ∧ within n lo hi ≤ hi := by
  unfold within
  have h0 := Int.emod_nonneg n (show hi - lo + 1 ≠ 0 by omega)
  have h1 := Int.emod_lt_of_pos n (show 0 < hi - lo + 1 by omega)
  split <;> omega
theorem tmod_up (n m : Int) (hm : 0 < m) : (if Int.tmod n m < 0 then Int.tmod n m + m else Int.tmod n m) = n % m := by
  rw [Int.tmod_eq_emod]
  have h0 := Int.emod_nonneg n (show m ≠ 0 by omega)
  have h1 := Int.emod_lt_of_pos n hm
  split
  · rw [if_neg (by omega)]; omega
  · have hn : ((m.natAbs : Nat) : Int) = m := Int.natAbs_of_nonneg (by omega)
    by_cases hz : n % m = 0
    · rename_i hc
      exact absurd (Or.inr (Int.dvd_of_emod_eq_zero hz)) hc
    · rw [if_pos (by omega)]; omega
theorem T15 (k : Nat) (S : St) {n lo hi : Int} (h : lo ≤ hi) (h0 : -4294967296 ≤ lo) (h1 : hi ≤ 4294967296) : evF Y AP (k + 4) 15 [.int .i64 n, .int .i64 lo, .int .i64 hi] S = some (.int .i64 (within n lo hi), S) := by
  rw [evF_body (af := af15) rfl rfl rfl]
  have w1 : IntKind.i64.wrap (hi - lo) = hi - lo := w64_id (by omega) (by omega)
  have w2 : IntKind.i64.wrap (hi - lo + 1) = hi - lo + 1 := w64_id (by omega) (by omega)
  have hne : ¬ hi - lo + 1 = 0 := by omega
  have hu := tmod_up n (hi - lo + 1) (by omega)
  have h2 := Int.emod_nonneg n (show hi - lo + 1 ≠ 0 by omega)
  have h3 := Int.emod_lt_of_pos n (show 0 < hi - lo + 1 by omega)
  obtain ⟨t, ht⟩ : ∃ t, Int.tmod n (hi - lo + 1) = t := ⟨_, rfl⟩
  rw [ht] at hu
  by_cases c1 : lo ≤ n
  · by_cases c2 : n ≤ hi
    · simp -implicitDefEqProofs -dsimp (maxSteps := 10000000) only [af15, kC, ↓kQ, ↓Option.bind_some, ↓Option.map_some, ↓cond_true, ↓cond_false, evC, evOp, XO.lit, setArgs, Tr.tabG, Tr.tabS, Tr.tabL, Tr.get_lf, Option.bind_some, Option.map_some, cond_true, cond_false, maxI, maxFrom, minI, minFrom, aConv, aBinE, aEq, eqScal, aUn, evRes, fin, oneOf, if_true, if_false, callee, reduceCtorEq, Nat.reduceEqDiff, List.getElem?_cons_zero, List.getElem?_cons_succ, beq_self_eq_true, gt_iff_lt, List.head?_cons, AV.undef, eq_self, ne_eq, Int.reduceLT, Int.reduceLE, Int.reduceToNat, Int.reduceEq, Int.reduceNeg, Nat.reduceAdd, Nat.reduceLT, Nat.reduceLeDiff, Nat.reduceMul, Nat.reduceSub, kM, AV.cells, AV.tup, List.drop_nil, List.append_nil, rdO, St.wr, List.length_cons, List.length_nil, List.take_succ_cons, List.take_zero, List.drop_succ_cons, List.drop_zero, List.cons_append, List.nil_append, Nat.reduceMul, c1, c2]
      simp only [within, c1, c2, and_self, if_true]
    · by_cases c3 : t < 0
      · rw [if_pos c3] at hu
        have w3 : IntKind.i64.wrap (t + hi) = t + hi := w64_id (by omega) (by omega)
        have w4 : IntKind.i64.wrap (t + hi - lo) = t + hi - lo := w64_id (by omega) (by omega)
        have w5 : IntKind.i64.wrap (t + hi - lo + 1) = t + hi - lo + 1 := w64_id (by omega) (by omega)
        have w6 : IntKind.i64.wrap (lo + (t + hi - lo + 1)) = lo + (t + hi - lo + 1) := w64_id (by omega) (by omega)
        simp -implicitDefEqProofs -dsimp (maxSteps := 10000000) only [af15, kC, ↓kQ, ↓Option.bind_some, ↓Option.map_some, ↓cond_true, ↓cond_false, evC, evOp, XO.lit, setArgs, Tr.tabG, Tr.tabS, Tr.tabL, Tr.get_lf, Option.bind_some, Option.map_some, cond_true, cond_false, maxI, maxFrom, minI, minFrom, aConv, aBinE, aEq, eqScal, aUn, evRes, fin, oneOf, if_true, if_false, callee, reduceCtorEq, Nat.reduceEqDiff, List.getElem?_cons_zero, List.getElem?_cons_succ, beq_self_eq_true, gt_iff_lt, List.head?_cons, AV.undef, eq_self, ne_eq, Int.reduceLT, Int.reduceLE, Int.reduceToNat, Int.reduceEq, Int.reduceNeg, Nat.reduceAdd, Nat.reduceLT, Nat.reduceLeDiff, Nat.reduceMul, Nat.reduceSub, kM, AV.cells, AV.tup, List.drop_nil, List.append_nil, rdO, St.wr, List.length_cons, List.length_nil, List.take_succ_cons, List.take_zero, List.drop_succ_cons, List.drop_zero, List.cons_append, List.nil_append, Nat.reduceMul, c1, c2, c3, ht, w1, w2, w3, w4, w5, w6, hne]
        simp only [within, c2, and_false, if_false]
        congr 3; omega
      · rw [if_neg c3] at hu
        have w6 : IntKind.i64.wrap (lo + t) = lo + t := w64_id (by omega) (by omega)
        simp -implicitDefEqProofs -dsimp (maxSteps := 10000000) only [af15, kC, ↓kQ, ↓Option.bind_some, ↓Option.map_some, ↓cond_true, ↓cond_false, evC, evOp, XO.lit, setArgs, Tr.tabG, Tr.tabS, Tr.tabL, Tr.get_lf, Option.bind_some, Option.map_some, cond_true, cond_false, maxI, maxFrom, minI, minFrom, aConv, aBinE, aEq, eqScal, aUn, evRes, fin, oneOf, if_true, if_false, callee, reduceCtorEq, Nat.reduceEqDiff, List.getElem?_cons_zero, List.getElem?_cons_succ, beq_self_eq_true, gt_iff_lt, List.head?_cons, AV.undef, eq_self, ne_eq, Int.reduceLT, Int.reduceLE, Int.reduceToNat, Int.reduceEq, Int.reduceNeg, Nat.reduceAdd, Nat.reduceLT, Nat.reduceLeDiff, Nat.reduceMul, Nat.reduceSub, kM, AV.cells, AV.tup, List.drop_nil, List.append_nil, rdO, St.wr, List.length_cons, List.length_nil, List.take_succ_cons, List.take_zero, List.drop_succ_cons, List.drop_zero, List.cons_append, List.nil_append, Nat.reduceMul, c1, c2, c3, ht, w1, w2, w6, hne]
        simp only [within, c2, and_false, if_false, hu]
  · by_cases c3 : t < 0
    · rw [if_pos c3] at hu
      have w3 : IntKind.i64.wrap (t + hi) = t + hi := w64_id (by omega) (by omega)
      have w4 : IntKind.i64.wrap (t + hi - lo) = t + hi - lo := w64_id (by omega) (by omega)
      have w5 : IntKind.i64.wrap (t + hi - lo + 1) = t + hi - lo + 1 := w64_id (by omega) (by omega)
      have w6 : IntKind.i64.wrap (lo + (t + hi - lo + 1)) = lo + (t + hi - lo + 1) := w64_id (by omega) (by omega)
      simp -implicitDefEqProofs -dsimp (maxSteps := 10000000) only [af15, kC, ↓kQ, ↓Option.bind_some, ↓Option.map_some, ↓cond_true, ↓cond_false, evC, evOp, XO.lit, setArgs, Tr.tabG, Tr.tabS, Tr.tabL, Tr.get_lf, Option.bind_some, Option.map_some, cond_true, cond_false, maxI, maxFrom, minI, minFrom, aConv, aBinE, aEq, eqScal, aUn, evRes, fin, oneOf, if_true, if_false, callee, reduceCtorEq, Nat.reduceEqDiff, List.getElem?_cons_zero, List.getElem?_cons_succ, beq_self_eq_true, gt_iff_lt, List.head?_cons, AV.undef, eq_self, ne_eq, Int.reduceLT, Int.reduceLE, Int.reduceToNat, Int.reduceEq, Int.reduceNeg, Nat.reduceAdd, Nat.reduceLT, Nat.reduceLeDiff, Nat.reduceMul, Nat.reduceSub, kM, AV.cells, AV.tup, List.drop_nil, List.append_nil, rdO, St.wr, List.length_cons, List.length_nil, List.take_succ_cons, List.take_zero, List.drop_succ_cons, List.drop_zero, List.cons_append, List.nil_append, Nat.reduceMul, c1, c3, ht, w1, w2, w3, w4, w5, w6, hne]
      simp only [within, c1, false_and, if_false]
      congr 3; omega
    · rw [if_neg c3] at hu
      have w6 : IntKind.i64.wrap (lo + t) = lo + t := w64_id (by omega) (by omega)
      simp -implicitDefEqProofs -dsimp (maxSteps := 10000000) only [af15, kC, ↓kQ, ↓Option.bind_some, ↓Option.map_some, ↓cond_true, ↓cond_false, evC, evOp, XO.lit, setArgs, Tr.tabG, Tr.tabS, Tr.tabL, Tr.get_lf, Option.bind_some, Option.map_some, cond_true, cond_false, maxI, maxFrom, minI, minFrom, aConv, aBinE, aEq, eqScal, aUn, evRes, fin, oneOf, if_true, if_false, callee, reduceCtorEq, Nat.reduceEqDiff, List.getElem?_cons_zero, List.getElem?_cons_succ, beq_self_eq_true, gt_iff_lt, List.head?_cons, AV.undef, eq_self, ne_eq, Int.reduceLT, Int.reduceLE, Int.reduceToNat, Int.reduceEq, Int.reduceNeg, Nat.reduceAdd, Nat.reduceLT, Nat.reduceLeDiff, Nat.reduceMul, Nat.reduceSub, kM, AV.cells, AV.tup, List.drop_nil, List.append_nil, rdO, St.wr, List.length_cons, List.length_nil, List.take_succ_cons, List.take_zero, List.drop_succ_cons, List.drop_zero, List.cons_append, List.nil_append, Nat.reduceMul, c1, c3, ht, w1, w2, w6, hne]
      simp only [within, c1, false_and, if_false, hu]
/-! ### Rows of words -/
def uv (l : List Int) : List AV := l.map fun n => .int .u32 n
theorem uv_len (l : List Int) : (uv l).length = l.length := List.length_map _
theorem uv_app (l m : List Int) : uv (l ++ m) = uv l ++ uv m := List.map_append
theorem uv_drop (l : List Int) (n : Nat) : (uv l).drop n = uv (l.drop n) := List.map_drop.symm
theorem uv_take (l : List Int) (n : Nat) : (uv l).take n = uv (l.take n) := List.map_take.symm
def Wrd (l : List Int) : Prop := ∀ n ∈ l, 0 ≤ n ∧ n < 4294967296
structure Ur (S : St) (p : Option (Nat × Nat × Nat)) (e : Nat) (l : List Int) : Prop where
  ez : p = none ∨ e = 1
  nil : p = none → l = []
  at_ : ∀ o v i, p = some (o, v, i) → o < S.next ∧ S.rd o v i l.length = some (uv l)
  bd : Wrd l
  mx : l.length ≤ 9223372036854775807
theorem Ur.ext {S S' : St} {p : Option (Nat × Nat × Nat)} {e : Nat} {l : List Int} (h : Ur S p e l) (x : Ext S S') : Ur S' p e l :=
  ⟨h.ez, h.nil, fun o v i hp => by obtain ⟨h1, h2⟩ := h.at_ o v i hp; exact ⟨Nat.lt_of_lt_of_le h1 x.next, by rw [x.rd h1]; exact h2⟩, h.bd, h.mx⟩
theorem Ur.zero (S : St) (e : Nat) : Ur S none e [] := ⟨.inl rfl, fun _ => rfl, fun _ _ _ h => (by cases h), fun _ h => (by cases h), by simp⟩
theorem Ur.get {S : St} {o v i e : Nat} {l : List Int} (h : Ur S (some (o, v, i)) e l) {j : Nat} (hj : j < l.length) : S.rd o v (i + j) 1 = some [.int .u32 l[j]] := by
  obtain ⟨_, h2⟩ := h.at_ o v i rfl
  rw [rd_sub h2 (by omega), uv_drop, List.drop_eq_getElem_cons hj]
  rfl
theorem Ur.some_ {S : St} {p : Option (Nat × Nat × Nat)} {e : Nat} {l : List Int} (h : Ur S p e l) (hl : 0 < l.length) : ∃ o v i, p = some (o, v, i) ∧ e = 1 ∧ o < S.next := by
  rcases p with _ | ⟨o, v, i⟩
  · rw [h.nil rfl] at hl; exact absurd hl (Nat.lt_irrefl _)
  · exact ⟨o, v, i, rfl, h.ez.resolve_left (by simp), (h.at_ o v i rfl).1⟩
def Us (S : St) (v : AV) (l : List Int) : Prop := ∃ p e c, v = .slice p l.length e c ∧ Ur S p e l
theorem Us.ext {S S' : St} {v : AV} {l : List Int} (h : Us S v l) (x : Ext S S') : Us S' v l := let ⟨p, e, c, h1, h2⟩ := h; ⟨p, e, c, h1, h2.ext x⟩
theorem Us.zero (S : St) (e : Nat) : Us S (.slice none 0 e none) [] := ⟨none, e, none, rfl, .zero S e⟩
/-- A row of words that grows, made since S0. -/
structure Gu (S0 S : St) (p : Option (Nat × Nat × Nat)) (e : Nat) (l : List Int) : Prop where
  vec : Vec S p l.length 1 e (uv l)
  ext : Ext S0 S
  new : ∀ o v i, p = some (o, v, i) → S0.next ≤ o
  bd : Wrd l
theorem Vec.ur {S : St} {p : Option (Nat × Nat × Nat)} {e : Nat} {l : List Int} (h : Vec S p l.length 1 e (uv l)) (bd : Wrd l) (hm : l.length ≤ 9223372036854775807) : Ur S p e l := by
  refine ⟨h.ez, fun hp => ?_, fun o v i hp => ?_, bd, hm⟩
  · rcases h.at_ with ⟨_, h0⟩ | ⟨o, ver, minv, hp', _⟩
    · exact List.length_eq_zero_iff.1 h0
    · rw [hp] at hp'; cases hp'
  · rcases h.at_ with ⟨hp', _⟩ | ⟨o', ver, minv, hp', h1, h2, h3⟩
    · rw [hp] at hp'; cases hp'
    · rw [hp] at hp'; cases hp'
      refine ⟨h1, ?_⟩
      rw [rd_cells h2 h3 (by rw [uv_len]; omega), List.drop_zero, List.take_of_length_le (by rw [uv_len]; exact Nat.le_refl _)]
/-! ### Packets -/
structure Pk where
  mrk : Bool
  ty : Int
  sq : Int
  tm : Int
  ss : Int
  cs : List Int
  pf : Int
  ex : List Nat
  pl : List Nat
abbrev pkc (p : Pk) (c e l : AV) : List AV := [.bool p.mrk, .int .i64 p.ty, .int .u16 p.sq, .int .u32 p.tm, .int .u32 p.ss, c, .int .u16 p.pf, e, l]
/-- What a packet's parts lie in. -/
structure Pv (S : St) (p : Pk) (c e l : AV) : Prop where
  c : Us S c p.cs
  e : Bs S e p.ex
  l : Bs S l p.pl
  ty : I64 p.ty
  sq : 0 ≤ p.sq ∧ p.sq < 65536
  tm : 0 ≤ p.tm ∧ p.tm < 4294967296
  ss : 0 ≤ p.ss ∧ p.ss < 4294967296
  pf : 0 ≤ p.pf ∧ p.pf < 65536
  cl : p.cs.length ≤ 140737488351500
  el : p.ex.length ≤ 140737488351500
  ll : p.pl.length ≤ 140737488351500
theorem Pv.ext {S S' : St} {p : Pk} {c e l : AV} (h : Pv S p c e l) (x : Ext S S') : Pv S' p c e l :=
  ⟨h.c.ext x, h.e.ext x, h.l.ext x, h.ty, h.sq, h.tm, h.ss, h.pf, h.cl, h.el, h.ll⟩
def sizeP (p : Pk) : Int := 12 + 4 * (p.cs.length : Int) + p.pl.length + (if p.pf = 0 then (0 : Int) else 4 + (p.ex.length : Int))
def rightP (p : Pk) : Int := if p.ty < 0 ∨ 127 < p.ty ∨ 15 < (p.cs.length : Int) ∨ ¬ (p.ex.length : Int) % 4 = 0 ∨ p.pf = 0 ∧ 0 < (p.ex.length : Int) then 1 else if 1500 < sizeP p then 3 else 0
section
variable {S : St} {p : Pk} {c e l : AV} (k : Nat)
theorem T37 (h : Pv S p c e l) : ∃ S', evF Y AP (k + 3) 37 [.agg (pkc p c e l)] S = some (.int .i64 (sizeP p), S') ∧ Ext S S' := by
  obtain ⟨⟨pc, ec, cc, rfl, hc⟩, ⟨pe, ee, ce, rfl, he⟩, ⟨pl, el, cl, rfl, hl⟩, _, _, _, _, _, l1, l2, l3⟩ := h
  rw [evF_body (af := af37) rfl rfl rfl]
  have m1 := hc.mx; have m2 := he.mx; have m3 := hl.mx
  obtain ⟨A, hA⟩ : ∃ A, S.alloc (.cells (pkc p (.slice pc p.cs.length ec cc) (.slice pe p.ex.length ee ce) (.slice pl p.pl.length el cl)) 0 0 true) = A := ⟨_, rfl⟩
  have eA : Ext S A := by rw [← hA]; exact .alloc _ _
  have rA : ∀ v i m, A.rd S.next v i m = rdO (.cells (pkc p (.slice pc p.cs.length ec cc) (.slice pe p.ex.length ee ce) (.slice pl p.pl.length el cl)) 0 0 true) v i m := rd_of (by rw [← hA, St.get_alloc, if_pos rfl])
  have w1 : IntKind.i64.wrap (4 * (p.cs.length : Int)) = 4 * (p.cs.length : Int) := w64_id (by omega) (by omega)
  have w2 : IntKind.i64.wrap (12 + 4 * (p.cs.length : Int)) = 12 + 4 * (p.cs.length : Int) := w64_id (by omega) (by omega)
  have w3 : IntKind.i64.wrap (12 + 4 * (p.cs.length : Int) + p.pl.length) = 12 + 4 * (p.cs.length : Int) + p.pl.length := w64_id (by omega) (by omega)
  refine ⟨A, ?_, eA⟩
  by_cases c1 : p.pf = 0
  · have hs : sizeP p = 12 + 4 * (p.cs.length : Int) + p.pl.length := by unfold sizeP; rw [if_pos c1, Int.add_zero]
    have c1' := eq_true c1
    rw [hs]
    simp -implicitDefEqProofs -dsimp (maxSteps := 10000000) only [af37, kC, ↓kQ, ↓Option.bind_some, ↓Option.map_some, ↓cond_true, ↓cond_false, evC, evOp, XO.lit, setArgs, Tr.tabG, Tr.tabS, Tr.tabL, Tr.get_lf, Option.bind_some, Option.map_some, cond_true, cond_false, maxI, maxFrom, minI, minFrom, aConv, aBinE, aEq, eqScal, aUn, evRes, fin, oneOf, if_true, if_false, callee, reduceCtorEq, Nat.reduceEqDiff, List.getElem?_cons_zero, List.getElem?_cons_succ, beq_self_eq_true, gt_iff_lt, List.head?_cons, AV.undef, eq_self, ne_eq, Int.reduceLT, Int.reduceLE, Int.reduceToNat, Int.reduceEq, Int.reduceNeg, Nat.reduceAdd, Nat.reduceLT, Nat.reduceLeDiff, Nat.reduceMul, Nat.reduceSub, kM, AV.cells, AV.tup, List.drop_nil, List.append_nil, rdO, St.wr, List.length_cons, List.length_nil, List.take_succ_cons, List.take_zero, List.drop_succ_cons, List.drop_zero, List.cons_append, List.nil_append, Nat.reduceMul, aFill, evParts, rep, List.replicate_succ, List.replicate_zero, List.flatten_cons, List.flatten_nil, List.append_nil, newSl, newVar, hA, rA, m1, m2, m3, w1, w2, w3, c1']
  · have hs : sizeP p = 12 + 4 * (p.cs.length : Int) + p.pl.length + (4 + p.ex.length) := by unfold sizeP; rw [if_neg c1]
    have w4 : IntKind.i64.wrap (4 + (p.ex.length : Int)) = 4 + (p.ex.length : Int) := w64_id (by omega) (by omega)
    have w5 : IntKind.i64.wrap (12 + 4 * (p.cs.length : Int) + p.pl.length + (4 + p.ex.length)) = 12 + 4 * (p.cs.length : Int) + p.pl.length + (4 + p.ex.length) := w64_id (by omega) (by omega)
    rw [hs]
    simp -implicitDefEqProofs -dsimp (maxSteps := 10000000) only [af37, kC, ↓kQ, ↓Option.bind_some, ↓Option.map_some, ↓cond_true, ↓cond_false, evC, evOp, XO.lit, setArgs, Tr.tabG, Tr.tabS, Tr.tabL, Tr.get_lf, Option.bind_some, Option.map_some, cond_true, cond_false, maxI, maxFrom, minI, minFrom, aConv, aBinE, aEq, eqScal, aUn, evRes, fin, oneOf, if_true, if_false, callee, reduceCtorEq, Nat.reduceEqDiff, List.getElem?_cons_zero, List.getElem?_cons_succ, beq_self_eq_true, gt_iff_lt, List.head?_cons, AV.undef, eq_self, ne_eq, Int.reduceLT, Int.reduceLE, Int.reduceToNat, Int.reduceEq, Int.reduceNeg, Nat.reduceAdd, Nat.reduceLT, Nat.reduceLeDiff, Nat.reduceMul, Nat.reduceSub, kM, AV.cells, AV.tup, List.drop_nil, List.append_nil, rdO, St.wr, List.length_cons, List.length_nil, List.take_succ_cons, List.take_zero, List.drop_succ_cons, List.drop_zero, List.cons_append, List.nil_append, Nat.reduceMul, aFill, evParts, rep, List.replicate_succ, List.replicate_zero, List.flatten_cons, List.flatten_nil, List.append_nil, newSl, newVar, hA, rA, m1, m2, m3, w1, w2, w3, w4, w5, c1]
theorem T38 (h : Pv S p c e l) : ∃ S', evF Y AP (k + 3) 38 [.agg (pkc p c e l)] S = some (.int .i64 (sizeP p), S') ∧ Ext S S' := by
  obtain ⟨⟨pc, ec, cc, rfl, hc⟩, ⟨pe, ee, ce, rfl, he⟩, ⟨pl, el, cl, rfl, hl⟩, _, _, _, _, _, l1, l2, l3⟩ := h
  rw [evF_body (af := af38) rfl rfl rfl]
  have m1 := hc.mx; have m2 := he.mx; have m3 := hl.mx
  obtain ⟨A, hA⟩ : ∃ A, S.alloc (.cells (pkc p (.slice pc p.cs.length ec cc) (.slice pe p.ex.length ee ce) (.slice pl p.pl.length el cl)) 0 0 true) = A := ⟨_, rfl⟩
  have eA : Ext S A := by rw [← hA]; exact .alloc _ _
  have rA : ∀ v i m, A.rd S.next v i m = rdO (.cells (pkc p (.slice pc p.cs.length ec cc) (.slice pe p.ex.length ee ce) (.slice pl p.pl.length el cl)) 0 0 true) v i m := rd_of (by rw [← hA, St.get_alloc, if_pos rfl])
  have w1 : IntKind.i64.wrap (4 * (p.cs.length : Int)) = 4 * (p.cs.length : Int) := w64_id (by omega) (by omega)
  have w2 : IntKind.i64.wrap (12 + 4 * (p.cs.length : Int)) = 12 + 4 * (p.cs.length : Int) := w64_id (by omega) (by omega)
  have w3 : IntKind.i64.wrap (12 + 4 * (p.cs.length : Int) + p.pl.length) = 12 + 4 * (p.cs.length : Int) + p.pl.length := w64_id (by omega) (by omega)
  refine ⟨A, ?_, eA⟩
  by_cases c1 : p.pf = 0
  · have hs : sizeP p = 12 + 4 * (p.cs.length : Int) + p.pl.length := by unfold sizeP; rw [if_pos c1, Int.add_zero]
    have c1' := eq_true c1
    rw [hs]
    simp -implicitDefEqProofs -dsimp (maxSteps := 10000000) only [af38, kC, ↓kQ, ↓Option.bind_some, ↓Option.map_some, ↓cond_true, ↓cond_false, evC, evOp, XO.lit, setArgs, Tr.tabG, Tr.tabS, Tr.tabL, Tr.get_lf, Option.bind_some, Option.map_some, cond_true, cond_false, maxI, maxFrom, minI, minFrom, aConv, aBinE, aEq, eqScal, aUn, evRes, fin, oneOf, if_true, if_false, callee, reduceCtorEq, Nat.reduceEqDiff, List.getElem?_cons_zero, List.getElem?_cons_succ, beq_self_eq_true, gt_iff_lt, List.head?_cons, AV.undef, eq_self, ne_eq, Int.reduceLT, Int.reduceLE, Int.reduceToNat, Int.reduceEq, Int.reduceNeg, Nat.reduceAdd, Nat.reduceLT, Nat.reduceLeDiff, Nat.reduceMul, Nat.reduceSub, kM, AV.cells, AV.tup, List.drop_nil, List.append_nil, rdO, St.wr, List.length_cons, List.length_nil, List.take_succ_cons, List.take_zero, List.drop_succ_cons, List.drop_zero, List.cons_append, List.nil_append, Nat.reduceMul, aFill, evParts, rep, List.replicate_succ, List.replicate_zero, List.flatten_cons, List.flatten_nil, List.append_nil, newSl, newVar, hA, rA, m1, m2, m3, w1, w2, w3, c1']
  · have hs : sizeP p = 12 + 4 * (p.cs.length : Int) + p.pl.length + (4 + p.ex.length) := by unfold sizeP; rw [if_neg c1]
    have w4 : IntKind.i64.wrap (12 + 4 * (p.cs.length : Int) + p.pl.length + 4) = 12 + 4 * (p.cs.length : Int) + p.pl.length + 4 := w64_id (by omega) (by omega)
    have w5 : IntKind.i64.wrap (12 + 4 * (p.cs.length : Int) + p.pl.length + 4 + p.ex.length) = 12 + 4 * (p.cs.length : Int) + p.pl.length + (4 + p.ex.length) := by rw [Int.add_assoc (12 + 4 * (p.cs.length : Int) + p.pl.length)]; exact w64_id (by omega) (by omega)
    rw [hs]
    simp -implicitDefEqProofs -dsimp (maxSteps := 10000000) only [af38, kC, ↓kQ, ↓Option.bind_some, ↓Option.map_some, ↓cond_true, ↓cond_false, evC, evOp, XO.lit, setArgs, Tr.tabG, Tr.tabS, Tr.tabL, Tr.get_lf, Option.bind_some, Option.map_some, cond_true, cond_false, maxI, maxFrom, minI, minFrom, aConv, aBinE, aEq, eqScal, aUn, evRes, fin, oneOf, if_true, if_false, callee, reduceCtorEq, Nat.reduceEqDiff, List.getElem?_cons_zero, List.getElem?_cons_succ, beq_self_eq_true, gt_iff_lt, List.head?_cons, AV.undef, eq_self, ne_eq, Int.reduceLT, Int.reduceLE, Int.reduceToNat, Int.reduceEq, Int.reduceNeg, Nat.reduceAdd, Nat.reduceLT, Nat.reduceLeDiff, Nat.reduceMul, Nat.reduceSub, kM, AV.cells, AV.tup, List.drop_nil, List.append_nil, rdO, St.wr, List.length_cons, List.length_nil, List.take_succ_cons, List.take_zero, List.drop_succ_cons, List.drop_zero, List.cons_append, List.nil_append, Nat.reduceMul, aFill, evParts, rep, List.replicate_succ, List.replicate_zero, List.flatten_cons, List.flatten_nil, List.append_nil, newSl, newVar, hA, rA, m1, m2, m3, w1, w2, w3, w4, w5, c1]
set_option maxHeartbeats 4000000 in
theorem T27 (h : Pv S p c e l) : ∃ S', evF Y AP (k + 4) 27 [.agg (pkc p c e l)] S = some (.int .i64 (rightP p), S') ∧ Ext S S' := by
  have h0 := h
  obtain ⟨⟨pc, ec, cc, rfl, hc⟩, ⟨pe, ee, ce, rfl, he⟩, ⟨pl, el, cl, rfl, hl⟩, _, _, _, _, _, l1, l2, l3⟩ := h
  rw [evF_body (af := af27) rfl rfl rfl]
  have m1 := hc.mx; have m2 := he.mx; have m3 := hl.mx
  obtain ⟨A, hA⟩ : ∃ A, S.alloc (.cells (pkc p (.slice pc p.cs.length ec cc) (.slice pe p.ex.length ee ce) (.slice pl p.pl.length el cl)) 0 0 true) = A := ⟨_, rfl⟩
  have eA : Ext S A := by rw [← hA]; exact .alloc _ _
  have rA : ∀ v i m, A.rd S.next v i m = rdO (.cells (pkc p (.slice pc p.cs.length ec cc) (.slice pe p.ex.length ee ce) (.slice pl p.pl.length el cl)) 0 0 true) v i m := rd_of (by rw [← hA, St.get_alloc, if_pos rfl])
  obtain ⟨S', r37, x37⟩ := T37 k (h0.ext eA)
  have r37 : evF Y AP (k + 3) 37 [.agg (pkc p (.slice pc p.cs.length ec cc) (.slice pe p.ex.length ee ce) (.slice pl p.pl.length el cl))] A = _ := r37
  have z4 : ¬ (4 : Int) = 0 := by decide
  have tm4 : Int.tmod (p.ex.length : Int) 4 = (p.ex.length : Int) % 4 := Int.tmod_eq_emod_of_nonneg (by omega)
  unfold rightP
  by_cases c1 : p.ty < 0
  · rw [if_pos (.inl c1)]
    exact ⟨A, by simp -implicitDefEqProofs -dsimp (maxSteps := 10000000) only [af27, kC, ↓kQ, ↓Option.bind_some, ↓Option.map_some, ↓cond_true, ↓cond_false, evC, evOp, XO.lit, setArgs, Tr.tabG, Tr.tabS, Tr.tabL, Tr.get_lf, Option.bind_some, Option.map_some, cond_true, cond_false, maxI, maxFrom, minI, minFrom, aConv, aBinE, aEq, eqScal, aUn, evRes, fin, oneOf, if_true, if_false, callee, reduceCtorEq, Nat.reduceEqDiff, List.getElem?_cons_zero, List.getElem?_cons_succ, beq_self_eq_true, gt_iff_lt, List.head?_cons, AV.undef, eq_self, ne_eq, Int.reduceLT, Int.reduceLE, Int.reduceToNat, Int.reduceEq, Int.reduceNeg, Nat.reduceAdd, Nat.reduceLT, Nat.reduceLeDiff, Nat.reduceMul, Nat.reduceSub, kM, AV.cells, AV.tup, List.drop_nil, List.append_nil, rdO, St.wr, List.length_cons, List.length_nil, List.take_succ_cons, List.take_zero, List.drop_succ_cons, List.drop_zero, List.cons_append, List.nil_append, Nat.reduceMul, aFill, evParts, rep, List.replicate_succ, List.replicate_zero, List.flatten_cons, List.flatten_nil, List.append_nil, newSl, newVar, hA, rA, m1, m2, m3, c1], eA⟩
  by_cases c2 : 127 < p.ty
  · rw [if_pos (.inr (.inl c2))]
    exact ⟨A, by simp -implicitDefEqProofs -dsimp (maxSteps := 10000000) only [af27, kC, ↓kQ, ↓Option.bind_some, ↓Option.map_some, ↓cond_true, ↓cond_false, evC, evOp, XO.lit, setArgs, Tr.tabG, Tr.tabS, Tr.tabL, Tr.get_lf, Option.bind_some, Option.map_some, cond_true, cond_false, maxI, maxFrom, minI, minFrom, aConv, aBinE, aEq, eqScal, aUn, evRes, fin, oneOf, if_true, if_false, callee, reduceCtorEq, Nat.reduceEqDiff, List.getElem?_cons_zero, List.getElem?_cons_succ, beq_self_eq_true, gt_iff_lt, List.head?_cons, AV.undef, eq_self, ne_eq, Int.reduceLT, Int.reduceLE, Int.reduceToNat, Int.reduceEq, Int.reduceNeg, Nat.reduceAdd, Nat.reduceLT, Nat.reduceLeDiff, Nat.reduceMul, Nat.reduceSub, kM, AV.cells, AV.tup, List.drop_nil, List.append_nil, rdO, St.wr, List.length_cons, List.length_nil, List.take_succ_cons, List.take_zero, List.drop_succ_cons, List.drop_zero, List.cons_append, List.nil_append, Nat.reduceMul, aFill, evParts, rep, List.replicate_succ, List.replicate_zero, List.flatten_cons, List.flatten_nil, List.append_nil, newSl, newVar, hA, rA, m1, m2, m3, c1, c2], eA⟩
  by_cases c3 : 15 < (p.cs.length : Int)
  · rw [if_pos (.inr (.inr (.inl c3)))]
    exact ⟨A, by simp -implicitDefEqProofs -dsimp (maxSteps := 10000000) only [af27, kC, ↓kQ, ↓Option.bind_some, ↓Option.map_some, ↓cond_true, ↓cond_false, evC, evOp, XO.lit, setArgs, Tr.tabG, Tr.tabS, Tr.tabL, Tr.get_lf, Option.bind_some, Option.map_some, cond_true, cond_false, maxI, maxFrom, minI, minFrom, aConv, aBinE, aEq, eqScal, aUn, evRes, fin, oneOf, if_true, if_false, callee, reduceCtorEq, Nat.reduceEqDiff, List.getElem?_cons_zero, List.getElem?_cons_succ, beq_self_eq_true, gt_iff_lt, List.head?_cons, AV.undef, eq_self, ne_eq, Int.reduceLT, Int.reduceLE, Int.reduceToNat, Int.reduceEq, Int.reduceNeg, Nat.reduceAdd, Nat.reduceLT, Nat.reduceLeDiff, Nat.reduceMul, Nat.reduceSub, kM, AV.cells, AV.tup, List.drop_nil, List.append_nil, rdO, St.wr, List.length_cons, List.length_nil, List.take_succ_cons, List.take_zero, List.drop_succ_cons, List.drop_zero, List.cons_append, List.nil_append, Nat.reduceMul, aFill, evParts, rep, List.replicate_succ, List.replicate_zero, List.flatten_cons, List.flatten_nil, List.append_nil, newSl, newVar, hA, rA, m1, m2, m3, c1, c2, c3], eA⟩
  by_cases c4 : (p.ex.length : Int) % 4 = 0
  rotate_left
  · rw [if_pos (.inr (.inr (.inr (.inl c4))))]
    exact ⟨A, by simp -implicitDefEqProofs -dsimp (maxSteps := 10000000) only [af27, kC, ↓kQ, ↓Option.bind_some, ↓Option.map_some, ↓cond_true, ↓cond_false, evC, evOp, XO.lit, setArgs, Tr.tabG, Tr.tabS, Tr.tabL, Tr.get_lf, Option.bind_some, Option.map_some, cond_true, cond_false, maxI, maxFrom, minI, minFrom, aConv, aBinE, aEq, eqScal, aUn, evRes, fin, oneOf, if_true, if_false, callee, reduceCtorEq, Nat.reduceEqDiff, List.getElem?_cons_zero, List.getElem?_cons_succ, beq_self_eq_true, gt_iff_lt, List.head?_cons, AV.undef, eq_self, ne_eq, Int.reduceLT, Int.reduceLE, Int.reduceToNat, Int.reduceEq, Int.reduceNeg, Nat.reduceAdd, Nat.reduceLT, Nat.reduceLeDiff, Nat.reduceMul, Nat.reduceSub, kM, AV.cells, AV.tup, List.drop_nil, List.append_nil, rdO, St.wr, List.length_cons, List.length_nil, List.take_succ_cons, List.take_zero, List.drop_succ_cons, List.drop_zero, List.cons_append, List.nil_append, Nat.reduceMul, aFill, evParts, rep, List.replicate_succ, List.replicate_zero, List.flatten_cons, List.flatten_nil, List.append_nil, newSl, newVar, hA, rA, m1, m2, m3, c1, c2, c3, z4, tm4, c4], eA⟩
  by_cases c5 : p.pf = 0
  · have c5' := eq_true c5
    by_cases c6 : 0 < (p.ex.length : Int)
    · rw [if_pos (.inr (.inr (.inr (.inr ⟨c5, c6⟩))))]
      exact ⟨A, by simp -implicitDefEqProofs -dsimp (maxSteps := 10000000) only [af27, kC, ↓kQ, ↓Option.bind_some, ↓Option.map_some, ↓cond_true, ↓cond_false, evC, evOp, XO.lit, setArgs, Tr.tabG, Tr.tabS, Tr.tabL, Tr.get_lf, Option.bind_some, Option.map_some, cond_true, cond_false, maxI, maxFrom, minI, minFrom, aConv, aBinE, aEq, eqScal, aUn, evRes, fin, oneOf, if_true, if_false, callee, reduceCtorEq, Nat.reduceEqDiff, List.getElem?_cons_zero, List.getElem?_cons_succ, beq_self_eq_true, gt_iff_lt, List.head?_cons, AV.undef, eq_self, ne_eq, Int.reduceLT, Int.reduceLE, Int.reduceToNat, Int.reduceEq, Int.reduceNeg, Nat.reduceAdd, Nat.reduceLT, Nat.reduceLeDiff, Nat.reduceMul, Nat.reduceSub, kM, AV.cells, AV.tup, List.drop_nil, List.append_nil, rdO, St.wr, List.length_cons, List.length_nil, List.take_succ_cons, List.take_zero, List.drop_succ_cons, List.drop_zero, List.cons_append, List.nil_append, Nat.reduceMul, aFill, evParts, rep, List.replicate_succ, List.replicate_zero, List.flatten_cons, List.flatten_nil, List.append_nil, newSl, newVar, hA, rA, m1, m2, m3, c1, c2, c3, z4, tm4, c4, c5', c6], eA⟩
    · rw [if_neg (by omega)]
      by_cases c7 : 1500 < sizeP p
      · rw [if_pos c7]
        exact ⟨S', by simp -implicitDefEqProofs -dsimp (maxSteps := 10000000) only [af27, kC, ↓kQ, ↓Option.bind_some, ↓Option.map_some, ↓cond_true, ↓cond_false, evC, evOp, XO.lit, setArgs, Tr.tabG, Tr.tabS, Tr.tabL, Tr.get_lf, Option.bind_some, Option.map_some, cond_true, cond_false, maxI, maxFrom, minI, minFrom, aConv, aBinE, aEq, eqScal, aUn, evRes, fin, oneOf, if_true, if_false, callee, reduceCtorEq, Nat.reduceEqDiff, List.getElem?_cons_zero, List.getElem?_cons_succ, beq_self_eq_true, gt_iff_lt, List.head?_cons, AV.undef, eq_self, ne_eq, Int.reduceLT, Int.reduceLE, Int.reduceToNat, Int.reduceEq, Int.reduceNeg, Nat.reduceAdd, Nat.reduceLT, Nat.reduceLeDiff, Nat.reduceMul, Nat.reduceSub, kM, AV.cells, AV.tup, List.drop_nil, List.append_nil, rdO, St.wr, List.length_cons, List.length_nil, List.take_succ_cons, List.take_zero, List.drop_succ_cons, List.drop_zero, List.cons_append, List.nil_append, Nat.reduceMul, aFill, evParts, rep, List.replicate_succ, List.replicate_zero, List.flatten_cons, List.flatten_nil, List.append_nil, newSl, newVar, hA, rA, m1, m2, m3, c1, c2, c3, z4, tm4, c4, c5', c6, r37, c7], eA.trans x37⟩
      · rw [if_neg c7]
        exact ⟨S', by simp -implicitDefEqProofs -dsimp (maxSteps := 10000000) only [af27, kC, ↓kQ, ↓Option.bind_some, ↓Option.map_some, ↓cond_true, ↓cond_false, evC, evOp, XO.lit, setArgs, Tr.tabG, Tr.tabS, Tr.tabL, Tr.get_lf, Option.bind_some, Option.map_some, cond_true, cond_false, maxI, maxFrom, minI, minFrom, aConv, aBinE, aEq, eqScal, aUn, evRes, fin, oneOf, if_true, if_false, callee, reduceCtorEq, Nat.reduceEqDiff, List.getElem?_cons_zero, List.getElem?_cons_succ, beq_self_eq_true, gt_iff_lt, List.head?_cons, AV.undef, eq_self, ne_eq, Int.reduceLT, Int.reduceLE, Int.reduceToNat, Int.reduceEq, Int.reduceNeg, Nat.reduceAdd, Nat.reduceLT, Nat.reduceLeDiff, Nat.reduceMul, Nat.reduceSub, kM, AV.cells, AV.tup, List.drop_nil, List.append_nil, rdO, St.wr, List.length_cons, List.length_nil, List.take_succ_cons, List.take_zero, List.drop_succ_cons, List.drop_zero, List.cons_append, List.nil_append, Nat.reduceMul, aFill, evParts, rep, List.replicate_succ, List.replicate_zero, List.flatten_cons, List.flatten_nil, List.append_nil, newSl, newVar, hA, rA, m1, m2, m3, c1, c2, c3, z4, tm4, c4, c5', c6, r37, c7], eA.trans x37⟩
  · rw [if_neg (by omega)]
    by_cases c7 : 1500 < sizeP p
    · rw [if_pos c7]
      exact ⟨S', by simp -implicitDefEqProofs -dsimp (maxSteps := 10000000) only [af27, kC, ↓kQ, ↓Option.bind_some, ↓Option.map_some, ↓cond_true, ↓cond_false, evC, evOp, XO.lit, setArgs, Tr.tabG, Tr.tabS, Tr.tabL, Tr.get_lf, Option.bind_some, Option.map_some, cond_true, cond_false, maxI, maxFrom, minI, minFrom, aConv, aBinE, aEq, eqScal, aUn, evRes, fin, oneOf, if_true, if_false, callee, reduceCtorEq, Nat.reduceEqDiff, List.getElem?_cons_zero, List.getElem?_cons_succ, beq_self_eq_true, gt_iff_lt, List.head?_cons, AV.undef, eq_self, ne_eq, Int.reduceLT, Int.reduceLE, Int.reduceToNat, Int.reduceEq, Int.reduceNeg, Nat.reduceAdd, Nat.reduceLT, Nat.reduceLeDiff, Nat.reduceMul, Nat.reduceSub, kM, AV.cells, AV.tup, List.drop_nil, List.append_nil, rdO, St.wr, List.length_cons, List.length_nil, List.take_succ_cons, List.take_zero, List.drop_succ_cons, List.drop_zero, List.cons_append, List.nil_append, Nat.reduceMul, aFill, evParts, rep, List.replicate_succ, List.replicate_zero, List.flatten_cons, List.flatten_nil, List.append_nil, newSl, newVar, hA, rA, m1, m2, m3, c1, c2, c3, z4, tm4, c4, c5, r37, c7], eA.trans x37⟩
    · rw [if_neg c7]
      exact ⟨S', by simp -implicitDefEqProofs -dsimp (maxSteps := 10000000) only [af27, kC, ↓kQ, ↓Option.bind_some, ↓Option.map_some, ↓cond_true, ↓cond_false, evC, evOp, XO.lit, setArgs, Tr.tabG, Tr.tabS, Tr.tabL, Tr.get_lf, Option.bind_some, Option.map_some, cond_true, cond_false, maxI, maxFrom, minI, minFrom, aConv, aBinE, aEq, eqScal, aUn, evRes, fin, oneOf, if_true, if_false, callee, reduceCtorEq, Nat.reduceEqDiff, List.getElem?_cons_zero, List.getElem?_cons_succ, beq_self_eq_true, gt_iff_lt, List.head?_cons, AV.undef, eq_self, ne_eq, Int.reduceLT, Int.reduceLE, Int.reduceToNat, Int.reduceEq, Int.reduceNeg, Nat.reduceAdd, Nat.reduceLT, Nat.reduceLeDiff, Nat.reduceMul, Nat.reduceSub, kM, AV.cells, AV.tup, List.drop_nil, List.append_nil, rdO, St.wr, List.length_cons, List.length_nil, List.take_succ_cons, List.take_zero, List.drop_succ_cons, List.drop_zero, List.cons_append, List.nil_append, Nat.reduceMul, aFill, evParts, rep, List.replicate_succ, List.replicate_zero, List.flatten_cons, List.flatten_nil, List.append_nil, newSl, newVar, hA, rA, m1, m2, m3, c1, c2, c3, z4, tm4, c4, c5, r37, c7], eA.trans x37⟩
set_option maxHeartbeats 4000000 in
theorem T28 (h : Pv S p c e l) : ∃ S', evF Y AP (k + 4) 28 [.agg (pkc p c e l)] S = some (.int .i64 (rightP p), S') ∧ Ext S S' := by
  have h0 := h
  obtain ⟨⟨pc, ec, cc, rfl, hc⟩, ⟨pe, ee, ce, rfl, he⟩, ⟨pl, el, cl, rfl, hl⟩, _, _, _, _, _, l1, l2, l3⟩ := h
  rw [evF_body (af := af28) rfl rfl rfl]
  have m1 := hc.mx; have m2 := he.mx; have m3 := hl.mx
  obtain ⟨A, hA⟩ : ∃ A, S.alloc (.cells (pkc p (.slice pc p.cs.length ec cc) (.slice pe p.ex.length ee ce) (.slice pl p.pl.length el cl)) 0 0 true) = A := ⟨_, rfl⟩
  have eA : Ext S A := by rw [← hA]; exact .alloc _ _
  have rA : ∀ v i m, A.rd S.next v i m = rdO (.cells (pkc p (.slice pc p.cs.length ec cc) (.slice pe p.ex.length ee ce) (.slice pl p.pl.length el cl)) 0 0 true) v i m := rd_of (by rw [← hA, St.get_alloc, if_pos rfl])
  obtain ⟨S', r37, x37⟩ := T38 k (h0.ext eA)
  have r37 : evF Y AP (k + 3) 38 [.agg (pkc p (.slice pc p.cs.length ec cc) (.slice pe p.ex.length ee ce) (.slice pl p.pl.length el cl))] A = _ := r37
  have z4 : ¬ (4 : Int) = 0 := by decide
  have tm4 : Int.tmod (p.ex.length : Int) 4 = (p.ex.length : Int) % 4 := Int.tmod_eq_emod_of_nonneg (by omega)
  unfold rightP
  by_cases c1 : p.ty < 0
  · rw [if_pos (.inl c1)]
    exact ⟨A, by simp -implicitDefEqProofs -dsimp (maxSteps := 10000000) only [af28, kC, ↓kQ, ↓Option.bind_some, ↓Option.map_some, ↓cond_true, ↓cond_false, evC, evOp, XO.lit, setArgs, Tr.tabG, Tr.tabS, Tr.tabL, Tr.get_lf, Option.bind_some, Option.map_some, cond_true, cond_false, maxI, maxFrom, minI, minFrom, aConv, aBinE, aEq, eqScal, aUn, evRes, fin, oneOf, if_true, if_false, callee, reduceCtorEq, Nat.reduceEqDiff, List.getElem?_cons_zero, List.getElem?_cons_succ, beq_self_eq_true, gt_iff_lt, List.head?_cons, AV.undef, eq_self, ne_eq, Int.reduceLT, Int.reduceLE, Int.reduceToNat, Int.reduceEq, Int.reduceNeg, Nat.reduceAdd, Nat.reduceLT, Nat.reduceLeDiff, Nat.reduceMul, Nat.reduceSub, kM, AV.cells, AV.tup, List.drop_nil, List.append_nil, rdO, St.wr, List.length_cons, List.length_nil, List.take_succ_cons, List.take_zero, List.drop_succ_cons, List.drop_zero, List.cons_append, List.nil_append, Nat.reduceMul, aFill, evParts, rep, List.replicate_succ, List.replicate_zero, List.flatten_cons, List.flatten_nil, List.append_nil, newSl, newVar, hA, rA, m1, m2, m3, c1], eA⟩
  by_cases c2 : 127 < p.ty
  · rw [if_pos (.inr (.inl c2))]
    exact ⟨A, by simp -implicitDefEqProofs -dsimp (maxSteps := 10000000) only [af28, kC, ↓kQ, ↓Option.bind_some, ↓Option.map_some, ↓cond_true, ↓cond_false, evC, evOp, XO.lit, setArgs, Tr.tabG, Tr.tabS, Tr.tabL, Tr.get_lf, Option.bind_some, Option.map_some, cond_true, cond_false, maxI, maxFrom, minI, minFrom, aConv, aBinE, aEq, eqScal, aUn, evRes, fin, oneOf, if_true, if_false, callee, reduceCtorEq, Nat.reduceEqDiff, List.getElem?_cons_zero, List.getElem?_cons_succ, beq_self_eq_true, gt_iff_lt, List.head?_cons, AV.undef, eq_self, ne_eq, Int.reduceLT, Int.reduceLE, Int.reduceToNat, Int.reduceEq, Int.reduceNeg, Nat.reduceAdd, Nat.reduceLT, Nat.reduceLeDiff, Nat.reduceMul, Nat.reduceSub, kM, AV.cells, AV.tup, List.drop_nil, List.append_nil, rdO, St.wr, List.length_cons, List.length_nil, List.take_succ_cons, List.take_zero, List.drop_succ_cons, List.drop_zero, List.cons_append, List.nil_append, Nat.reduceMul, aFill, evParts, rep, List.replicate_succ, List.replicate_zero, List.flatten_cons, List.flatten_nil, List.append_nil, newSl, newVar, hA, rA, m1, m2, m3, c1, c2], eA⟩
  by_cases c3 : 15 < (p.cs.length : Int)
  · rw [if_pos (.inr (.inr (.inl c3)))]
    exact ⟨A, by simp -implicitDefEqProofs -dsimp (maxSteps := 10000000) only [af28, kC, ↓kQ, ↓Option.bind_some, ↓Option.map_some, ↓cond_true, ↓cond_false, evC, evOp, XO.lit, setArgs, Tr.tabG, Tr.tabS, Tr.tabL, Tr.get_lf, Option.bind_some, Option.map_some, cond_true, cond_false, maxI, maxFrom, minI, minFrom, aConv, aBinE, aEq, eqScal, aUn, evRes, fin, oneOf, if_true, if_false, callee, reduceCtorEq, Nat.reduceEqDiff, List.getElem?_cons_zero, List.getElem?_cons_succ, beq_self_eq_true, gt_iff_lt, List.head?_cons, AV.undef, eq_self, ne_eq, Int.reduceLT, Int.reduceLE, Int.reduceToNat, Int.reduceEq, Int.reduceNeg, Nat.reduceAdd, Nat.reduceLT, Nat.reduceLeDiff, Nat.reduceMul, Nat.reduceSub, kM, AV.cells, AV.tup, List.drop_nil, List.append_nil, rdO, St.wr, List.length_cons, List.length_nil, List.take_succ_cons, List.take_zero, List.drop_succ_cons, List.drop_zero, List.cons_append, List.nil_append, Nat.reduceMul, aFill, evParts, rep, List.replicate_succ, List.replicate_zero, List.flatten_cons, List.flatten_nil, List.append_nil, newSl, newVar, hA, rA, m1, m2, m3, c1, c2, c3], eA⟩
  by_cases c4 : (p.ex.length : Int) % 4 = 0
  rotate_left
  · rw [if_pos (.inr (.inr (.inr (.inl c4))))]
    exact ⟨A, by simp -implicitDefEqProofs -dsimp (maxSteps := 10000000) only [af28, kC, ↓kQ, ↓Option.bind_some, ↓Option.map_some, ↓cond_true, ↓cond_false, evC, evOp, XO.lit, setArgs, Tr.tabG, Tr.tabS, Tr.tabL, Tr.get_lf, Option.bind_some, Option.map_some, cond_true, cond_false, maxI, maxFrom, minI, minFrom, aConv, aBinE, aEq, eqScal, aUn, evRes, fin, oneOf, if_true, if_false, callee, reduceCtorEq, Nat.reduceEqDiff, List.getElem?_cons_zero, List.getElem?_cons_succ, beq_self_eq_true, gt_iff_lt, List.head?_cons, AV.undef, eq_self, ne_eq, Int.reduceLT, Int.reduceLE, Int.reduceToNat, Int.reduceEq, Int.reduceNeg, Nat.reduceAdd, Nat.reduceLT, Nat.reduceLeDiff, Nat.reduceMul, Nat.reduceSub, kM, AV.cells, AV.tup, List.drop_nil, List.append_nil, rdO, St.wr, List.length_cons, List.length_nil, List.take_succ_cons, List.take_zero, List.drop_succ_cons, List.drop_zero, List.cons_append, List.nil_append, Nat.reduceMul, aFill, evParts, rep, List.replicate_succ, List.replicate_zero, List.flatten_cons, List.flatten_nil, List.append_nil, newSl, newVar, hA, rA, m1, m2, m3, c1, c2, c3, z4, tm4, c4], eA⟩
  by_cases c5 : p.pf = 0
  · have c5' := eq_true c5
    by_cases c6 : 0 < (p.ex.length : Int)
    · rw [if_pos (.inr (.inr (.inr (.inr ⟨c5, c6⟩))))]
      exact ⟨A, by simp -implicitDefEqProofs -dsimp (maxSteps := 10000000) only [af28, kC, ↓kQ, ↓Option.bind_some, ↓Option.map_some, ↓cond_true, ↓cond_false, evC, evOp, XO.lit, setArgs, Tr.tabG, Tr.tabS, Tr.tabL, Tr.get_lf, Option.bind_some, Option.map_some, cond_true, cond_false, maxI, maxFrom, minI, minFrom, aConv, aBinE, aEq, eqScal, aUn, evRes, fin, oneOf, if_true, if_false, callee, reduceCtorEq, Nat.reduceEqDiff, List.getElem?_cons_zero, List.getElem?_cons_succ, beq_self_eq_true, gt_iff_lt, List.head?_cons, AV.undef, eq_self, ne_eq, Int.reduceLT, Int.reduceLE, Int.reduceToNat, Int.reduceEq, Int.reduceNeg, Nat.reduceAdd, Nat.reduceLT, Nat.reduceLeDiff, Nat.reduceMul, Nat.reduceSub, kM, AV.cells, AV.tup, List.drop_nil, List.append_nil, rdO, St.wr, List.length_cons, List.length_nil, List.take_succ_cons, List.take_zero, List.drop_succ_cons, List.drop_zero, List.cons_append, List.nil_append, Nat.reduceMul, aFill, evParts, rep, List.replicate_succ, List.replicate_zero, List.flatten_cons, List.flatten_nil, List.append_nil, newSl, newVar, hA, rA, m1, m2, m3, c1, c2, c3, z4, tm4, c4, c5', c6], eA⟩
    · rw [if_neg (by omega)]
      by_cases c7 : 1500 < sizeP p
      · rw [if_pos c7]
        exact ⟨S', by simp -implicitDefEqProofs -dsimp (maxSteps := 10000000) only [af28, kC, ↓kQ, ↓Option.bind_some, ↓Option.map_some, ↓cond_true, ↓cond_false, evC, evOp, XO.lit, setArgs, Tr.tabG, Tr.tabS, Tr.tabL, Tr.get_lf, Option.bind_some, Option.map_some, cond_true, cond_false, maxI, maxFrom, minI, minFrom, aConv, aBinE, aEq, eqScal, aUn, evRes, fin, oneOf, if_true, if_false, callee, reduceCtorEq, Nat.reduceEqDiff, List.getElem?_cons_zero, List.getElem?_cons_succ, beq_self_eq_true, gt_iff_lt, List.head?_cons, AV.undef, eq_self, ne_eq, Int.reduceLT, Int.reduceLE, Int.reduceToNat, Int.reduceEq, Int.reduceNeg, Nat.reduceAdd, Nat.reduceLT, Nat.reduceLeDiff, Nat.reduceMul, Nat.reduceSub, kM, AV.cells, AV.tup, List.drop_nil, List.append_nil, rdO, St.wr, List.length_cons, List.length_nil, List.take_succ_cons, List.take_zero, List.drop_succ_cons, List.drop_zero, List.cons_append, List.nil_append, Nat.reduceMul, aFill, evParts, rep, List.replicate_succ, List.replicate_zero, List.flatten_cons, List.flatten_nil, List.append_nil, newSl, newVar, hA, rA, m1, m2, m3, c1, c2, c3, z4, tm4, c4, c5', c6, r37, c7], eA.trans x37⟩
      · rw [if_neg c7]
        exact ⟨S', by simp -implicitDefEqProofs -dsimp (maxSteps := 10000000) only [af28, kC, ↓kQ, ↓Option.bind_some, ↓Option.map_some, ↓cond_true, ↓cond_false, evC, evOp, XO.lit, setArgs, Tr.tabG, Tr.tabS, Tr.tabL, Tr.get_lf, Option.bind_some, Option.map_some, cond_true, cond_false, maxI, maxFrom, minI, minFrom, aConv, aBinE, aEq, eqScal, aUn, evRes, fin, oneOf, if_true, if_false, callee, reduceCtorEq, Nat.reduceEqDiff, List.getElem?_cons_zero, List.getElem?_cons_succ, beq_self_eq_true, gt_iff_lt, List.head?_cons, AV.undef, eq_self, ne_eq, Int.reduceLT, Int.reduceLE, Int.reduceToNat, Int.reduceEq, Int.reduceNeg, Nat.reduceAdd, Nat.reduceLT, Nat.reduceLeDiff, Nat.reduceMul, Nat.reduceSub, kM, AV.cells, AV.tup, List.drop_nil, List.append_nil, rdO, St.wr, List.length_cons, List.length_nil, List.take_succ_cons, List.take_zero, List.drop_succ_cons, List.drop_zero, List.cons_append, List.nil_append, Nat.reduceMul, aFill, evParts, rep, List.replicate_succ, List.replicate_zero, List.flatten_cons, List.flatten_nil, List.append_nil, newSl, newVar, hA, rA, m1, m2, m3, c1, c2, c3, z4, tm4, c4, c5', c6, r37, c7], eA.trans x37⟩
  · rw [if_neg (by omega)]
    by_cases c7 : 1500 < sizeP p
    · rw [if_pos c7]
      exact ⟨S', by simp -implicitDefEqProofs -dsimp (maxSteps := 10000000) only [af28, kC, ↓kQ, ↓Option.bind_some, ↓Option.map_some, ↓cond_true, ↓cond_false, evC, evOp, XO.lit, setArgs, Tr.tabG, Tr.tabS, Tr.tabL, Tr.get_lf, Option.bind_some, Option.map_some, cond_true, cond_false, maxI, maxFrom, minI, minFrom, aConv, aBinE, aEq, eqScal, aUn, evRes, fin, oneOf, if_true, if_false, callee, reduceCtorEq, Nat.reduceEqDiff, List.getElem?_cons_zero, List.getElem?_cons_succ, beq_self_eq_true, gt_iff_lt, List.head?_cons, AV.undef, eq_self, ne_eq, Int.reduceLT, Int.reduceLE, Int.reduceToNat, Int.reduceEq, Int.reduceNeg, Nat.reduceAdd, Nat.reduceLT, Nat.reduceLeDiff, Nat.reduceMul, Nat.reduceSub, kM, AV.cells, AV.tup, List.drop_nil, List.append_nil, rdO, St.wr, List.length_cons, List.length_nil, List.take_succ_cons, List.take_zero, List.drop_succ_cons, List.drop_zero, List.cons_append, List.nil_append, Nat.reduceMul, aFill, evParts, rep, List.replicate_succ, List.replicate_zero, List.flatten_cons, List.flatten_nil, List.append_nil, newSl, newVar, hA, rA, m1, m2, m3, c1, c2, c3, z4, tm4, c4, c5, r37, c7], eA.trans x37⟩
    · rw [if_neg c7]
      exact ⟨S', by simp -implicitDefEqProofs -dsimp (maxSteps := 10000000) only [af28, kC, ↓kQ, ↓Option.bind_some, ↓Option.map_some, ↓cond_true, ↓cond_false, evC, evOp, XO.lit, setArgs, Tr.tabG, Tr.tabS, Tr.tabL, Tr.get_lf, Option.bind_some, Option.map_some, cond_true, cond_false, maxI, maxFrom, minI, minFrom, aConv, aBinE, aEq, eqScal, aUn, evRes, fin, oneOf, if_true, if_false, callee, reduceCtorEq, Nat.reduceEqDiff, List.getElem?_cons_zero, List.getElem?_cons_succ, beq_self_eq_true, gt_iff_lt, List.head?_cons, AV.undef, eq_self, ne_eq, Int.reduceLT, Int.reduceLE, Int.reduceToNat, Int.reduceEq, Int.reduceNeg, Nat.reduceAdd, Nat.reduceLT, Nat.reduceLeDiff, Nat.reduceMul, Nat.reduceSub, kM, AV.cells, AV.tup, List.drop_nil, List.append_nil, rdO, St.wr, List.length_cons, List.length_nil, List.take_succ_cons, List.take_zero, List.drop_succ_cons, List.drop_zero, List.cons_append, List.nil_append, Nat.reduceMul, aFill, evParts, rep, List.replicate_succ, List.replicate_zero, List.flatten_cons, List.flatten_nil, List.append_nil, newSl, newVar, hA, rA, m1, m2, m3, c1, c2, c3, z4, tm4, c4, c5, r37, c7], eA.trans x37⟩
end
theorem rep_bv (n : Nat) : rep n [.int .u8 0] = bv (List.replicate n 0) := by
  induction n with
  | zero => rfl
  | succ n ih => rw [List.replicate_succ]; show .int .u8 0 :: rep n [.int .u8 0] = _; rw [ih]; rfl
/-- slices.Grow of none. -/
theorem T43 (k : Nat) (S : St) {n : Nat} (h0 : 0 < n) (h1 : n ≤ 140737488355328) :
    evF Y AP (k + 3) 43 [.slice none 0 0 none, .int .i64 n] S = some (.slice (some (S.next, 0, 0)) 0 1 none, S.alloc (.cells (bv (List.replicate n 0)) 0 0 true)) := by
  rw [evF_body (af := af43) rfl rfl rfl]
  have c1 : ¬ (n : Int) < 0 := by omega
  have c2 : (0 : Int) < (n : Int) := by omega
  have c3 : (0 : Int) ≤ (n : Int) := by omega
  have w0 : IntKind.i64.wrap (0 - 0) = 0 := by decide
  have w1 : IntKind.i64.wrap ((n : Int) - 0) = (n : Int) := by rw [Int.sub_zero]; exact w64_id (by omega) (by omega)
  have hn : ¬ n = 0 := by omega
  have hb : (n + n / 4 + 256) * 1 ≤ 281474976710656 := by omega
  have ha : aAppend 1 1 S (.slice none 0 1 none) n (bv (List.replicate n 0)) = some (.slice (some (S.next, 0, 0)) n 1 none, S.alloc (.cells (bv (List.replicate n 0)) 0 0 true)) := by
    simp only [aAppend, if_neg hn, if_pos hb, newSl]
  have b0 : bnd (some (.int .i64 0)) 0 0 = some 0 := rfl
  have bn : bnd (some (.int .i64 0)) n n = some 0 := by simp only [bnd]; rw [if_pos (by omega)]; rfl
  have b1 : bnd none 0 0 = some 0 := rfl
  simp -implicitDefEqProofs -dsimp (maxSteps := 10000000) only [af43, kC, ↓kQ, ↓Option.bind_some, ↓Option.map_some, ↓cond_true, ↓cond_false, evC, evOp, XO.lit, setArgs, Tr.tabG, Tr.tabS, Tr.tabL, Tr.get_lf, Option.bind_some, Option.map_some, cond_true, cond_false, maxI, maxFrom, minI, minFrom, aConv, aBinE, aEq, eqScal, aUn, evRes, fin, oneOf, if_true, if_false, callee, reduceCtorEq, Nat.reduceEqDiff, List.getElem?_cons_zero, List.getElem?_cons_succ, beq_self_eq_true, gt_iff_lt, List.head?_cons, AV.undef, eq_self, ne_eq, Int.reduceLT, Int.reduceLE, Int.reduceToNat, Int.reduceEq, Int.reduceNeg, Nat.reduceAdd, Nat.reduceLT, Nat.reduceLeDiff, Nat.reduceMul, Nat.reduceSub, kM, AV.cells, AV.tup, List.drop_nil, List.append_nil, rdO, St.wr, List.length_cons, List.length_nil, List.take_succ_cons, List.take_zero, List.drop_succ_cons, List.drop_zero, List.cons_append, List.nil_append, Nat.reduceMul, evOpt, aCut, c1, c2, c3, w0, w1, b0, b1, bn, Int.toNat_natCast, Int.natCast_zero, Nat.zero_le, rep_bv, ha, Nat.zero_mul, Option.isSome_none, Option.map_none, Nat.sub_zero, false_and, Bool.false_eq_true]
/-- A row that was grown ahead of its bytes. -/
theorem app_spare {S S0 : St} {og : Nat} {z : List AV} {m : List Nat} (g : S.get og = some (.cells z 0 0 true)) (hog : S0.next ≤ og) (hlt : og < S.next) (x : Ext S0 S) (hm : Byt m) (h0 : m.length ≠ 0) (hr : m.length ≤ 140737488355328) :
    ∃ p' S', aAppend 1 1 S (.slice (some (og, 0, 0)) 0 1 none) m.length (bv m) = some (.slice p' m.length 1 none, S') ∧ Gr S0 S' p' 1 m := by
  have hb : ((0 + m.length) + (0 + m.length) / 4 + 256) * 1 ≤ 281474976710656 := by omega
  refine ⟨some (og, 1, 0), S.put og (.cells (bv m) 1 (if 0 + 0 * 1 = z.length then 0 else 1) true), ?_, ⟨⟨.inr rfl, by rw [bv_len, Nat.mul_one], .inr ⟨og, 1, _, rfl, hlt, by rw [St.get_put, if_pos rfl], by split <;> omega⟩⟩, x.then_put hog _, fun o v i hp => by cases hp; exact hog, hm⟩⟩
  have hc : True ∧ 0 + 0 * 1 ≤ z.length ∧ (0 : Nat) ≤ 0 := ⟨trivial, by omega, Nat.le_refl _⟩
  simp only [aAppend, ne_eq, not_true_eq_false, if_false, if_neg h0, if_neg (not_not_intro hb), g]
  rw [if_pos hc]
  simp
structure IC1 (o : Nat) (n1 n2 : Nat) (Sb : St) (m : Nat) (T : Tm) (S : St) : Prop where
  st : S = Sb
  t0 : T.get 0 = some (.slice (some (o, 0, 0)) 2 1 none)
  t9 : T.get 9 = some (.slice (some (o, 0, 0)) 2 1 none)
  t10 : T.get 10 = some (.int .i64 2)
  more : ∃ j : Nat, T.get 11 = some (.int .i64 j) ∧ j + m = 2 ∧ T.get 3 = some (.int .i64 (if j = 0 then 0 else if j = 1 then (n1 : Int) else (n1 : Int) + n2))
set_option maxHeartbeats 4000000 in
theorem roundC1 (k : Nat) {o : Nat} {pa pb : Option (Nat × Nat × Nat)} {ea eb n1 n2 : Nat} {ca cb : Option Nat} {Sb : St} (r0 : Sb.rd o 0 0 1 = some [.slice pa n1 ea ca]) (r1 : Sb.rd o 0 1 1 = some [.slice pb n2 eb cb]) (h1 : n1 ≤ 140737488355328) (h2 : n2 ≤ 140737488355328) (m : Nat) (T : Tm) (S : St) (hI : IC1 o n1 n2 Sb m T S) :
    Goes (evF Y AP (k + 9)) (k + 9) af34_l1 T S (Then (fun T' S' => ∃ m', IC1 o n1 n2 Sb m' T' S' ∧ id m' < id m) fun r T' S' => r = .exit 0 ∧ IC1 o n1 n2 Sb 0 T' S') := by
  obtain ⟨rfl, t0, t9, t10, j, t11, hm, t3⟩ := hI
  have h3 : j = 0 ∨ j = 1 ∨ j = 2 := by omega
  have i0 : ixOf (.int .i64 0) 2 = some 0 := rfl
  have i1 : ixOf (.int .i64 1) 2 = some 1 := rfl
  have w0 : IntKind.i64.wrap (0 + 1) = 1 := by decide
  have w1 : IntKind.i64.wrap (1 + 1) = 2 := by decide
  have a1 : n1 ≤ 9223372036854775807 := by omega
  have a2 : n2 ≤ 9223372036854775807 := by omega
  rcases h3 with rfl | rfl | rfl
  · have t11 : T.get 11 = some (.int .i64 0) := t11
    have t3 : T.get 3 = some (.int .i64 0) := t3
    have w2 : IntKind.i64.wrap (0 + (n1 : Int)) = (n1 : Int) := by rw [Int.zero_add]; exact w64_id (by omega) (by omega)
    have z : ¬ (n1 : Int) < 0 := by omega
    simp -implicitDefEqProofs -dsimp (maxSteps := 10000000) only [af34_l1, ↓kS, after_some, br_true, br_false, kC, ↓kQ, ↓Option.bind_some, ↓Option.map_some, ↓cond_true, ↓cond_false, evC, evOp, XO.lit, setArgs, Tr.get_set, Option.bind_some, Option.map_some, cond_true, cond_false, maxI, maxFrom, minI, minFrom, aConv, aBinE, aEq, eqScal, aUn, evRes, fin, oneOf, if_true, if_false, callee, reduceCtorEq, Nat.reduceEqDiff, List.getElem?_cons_zero, List.getElem?_cons_succ, beq_self_eq_true, gt_iff_lt, List.head?_cons, AV.undef, eq_self, ne_eq, Int.reduceLT, Int.reduceLE, Int.reduceToNat, Int.reduceEq, Int.reduceNeg, Nat.reduceAdd, Nat.reduceLT, Nat.reduceLeDiff, Nat.reduceMul, Nat.reduceSub, kM, AV.cells, AV.tup, List.drop_nil, List.append_nil, rdO, St.wr, List.length_cons, List.length_nil, List.take_succ_cons, List.take_zero, List.drop_succ_cons, List.drop_zero, List.cons_append, List.nil_append, Nat.reduceMul, t9, t10, t11, t3, i0, r0, a1, w0, w2, z, Nat.mul_one]
    refine ⟨1, ⟨rfl, ?_, ?_, ?_, 1, ?_, rfl, ?_⟩, by show 1 < m; omega⟩
    iterate 3 (first | focus (simp only [Tr.get_set, Nat.reduceEqDiff, if_false, if_true, t0, t9, t10]; done) | skip)
    · simp only [Tr.get_set, Nat.reduceEqDiff, if_false, if_true] <;> rfl
    · simp only [Tr.get_set, Nat.reduceEqDiff, if_false, if_true] <;> rfl
  · have t11 : T.get 11 = some (.int .i64 1) := t11
    have t3 : T.get 3 = some (.int .i64 n1) := t3
    have w2 : IntKind.i64.wrap ((n1 : Int) + n2) = (n1 : Int) + n2 := w64_id (by omega) (by omega)
    have z : ¬ (n1 : Int) + n2 < 0 := by omega
    simp -implicitDefEqProofs -dsimp (maxSteps := 10000000) only [af34_l1, ↓kS, after_some, br_true, br_false, kC, ↓kQ, ↓Option.bind_some, ↓Option.map_some, ↓cond_true, ↓cond_false, evC, evOp, XO.lit, setArgs, Tr.get_set, Option.bind_some, Option.map_some, cond_true, cond_false, maxI, maxFrom, minI, minFrom, aConv, aBinE, aEq, eqScal, aUn, evRes, fin, oneOf, if_true, if_false, callee, reduceCtorEq, Nat.reduceEqDiff, List.getElem?_cons_zero, List.getElem?_cons_succ, beq_self_eq_true, gt_iff_lt, List.head?_cons, AV.undef, eq_self, ne_eq, Int.reduceLT, Int.reduceLE, Int.reduceToNat, Int.reduceEq, Int.reduceNeg, Nat.reduceAdd, Nat.reduceLT, Nat.reduceLeDiff, Nat.reduceMul, Nat.reduceSub, kM, AV.cells, AV.tup, List.drop_nil, List.append_nil, rdO, St.wr, List.length_cons, List.length_nil, List.take_succ_cons, List.take_zero, List.drop_succ_cons, List.drop_zero, List.cons_append, List.nil_append, Nat.reduceMul, t9, t10, t11, t3, i1, r1, a2, w1, w2, z, Nat.mul_one]
    refine ⟨0, ⟨rfl, ?_, ?_, ?_, 2, ?_, rfl, ?_⟩, by show 0 < m; omega⟩
    iterate 3 (first | focus (simp only [Tr.get_set, Nat.reduceEqDiff, if_false, if_true, t0, t9, t10]; done) | skip)
    · simp only [Tr.get_set, Nat.reduceEqDiff, if_false, if_true] <;> rfl
    · simp only [Tr.get_set, Nat.reduceEqDiff, if_false, if_true] <;> rfl
  · have t11' : T.get 11 = some (.int .i64 2) := t11
    simp -implicitDefEqProofs -dsimp (maxSteps := 10000000) only [af34_l1, ↓kS, after_some, br_true, br_false, kC, ↓kQ, ↓Option.bind_some, ↓Option.map_some, ↓cond_true, ↓cond_false, evC, evOp, XO.lit, setArgs, Tr.get_set, Option.bind_some, Option.map_some, cond_true, cond_false, maxI, maxFrom, minI, minFrom, aConv, aBinE, aEq, eqScal, aUn, evRes, fin, oneOf, if_true, if_false, callee, reduceCtorEq, Nat.reduceEqDiff, List.getElem?_cons_zero, List.getElem?_cons_succ, beq_self_eq_true, gt_iff_lt, List.head?_cons, AV.undef, eq_self, ne_eq, Int.reduceLT, Int.reduceLE, Int.reduceToNat, Int.reduceEq, Int.reduceNeg, Nat.reduceAdd, Nat.reduceLT, Nat.reduceLeDiff, Nat.reduceMul, Nat.reduceSub, kM, AV.cells, AV.tup, List.drop_nil, List.append_nil, rdO, St.wr, List.length_cons, List.length_nil, List.take_succ_cons, List.take_zero, List.drop_succ_cons, List.drop_zero, List.cons_append, List.nil_append, Nat.reduceMul, t10, t11']
    refine ⟨rfl, ?_, ?_, ?_, 2, ?_, rfl, ?_⟩ <;> simp only [Tr.get_set, Nat.reduceEqDiff, if_false, if_true, t0, t9, t10, t11, t3]
structure IC0 (o og : Nat) (la lb : List Nat) (Sb S0 : St) (m : Nat) (T : Tm) (S : St) : Prop where
  t25 : T.get 25 = some (.slice (some (o, 0, 0)) 2 1 none)
  t26 : T.get 26 = some (.int .i64 2)
  more : (T.get 27 = some (.int .i64 0) ∧ m = 2 ∧ S = S0 ∧ T.get 6 = some (.slice (some (og, 0, 0)) 0 1 none)) ∨ (∃ p, T.get 27 = some (.int .i64 1) ∧ m = 1 ∧ T.get 6 = some (.slice p la.length 1 none) ∧ Gr Sb S p 1 la) ∨ (∃ p e, T.get 27 = some (.int .i64 2) ∧ m = 0 ∧ T.get 6 = some (.slice p (la ++ lb).length e none) ∧ Gr Sb S p e (la ++ lb))
set_option maxHeartbeats 4000000 in
theorem roundC0 (k : Nat) {o og : Nat} {pa pb : Option (Nat × Nat × Nat)} {ea eb : Nat} {ca cb : Option Nat} {la lb : List Nat} {z : List AV} {Sb S0 : St} (r0 : Sb.rd o 0 0 1 = some [.slice pa la.length ea ca]) (r1 : Sb.rd o 0 1 1 = some [.slice pb lb.length eb cb]) (ho : o < Sb.next) (ba : By Sb pa ea la) (bb : By Sb pb eb lb) (hla : 0 < la.length) (hr : la.length + lb.length ≤ 140737488355328) (x0 : Ext Sb S0) (g0 : S0.get og = some (.cells z 0 0 true)) (hog : Sb.next ≤ og) (hog' : og < S0.next) (m : Nat) (T : Tm) (S : St) (hI : IC0 o og la lb Sb S0 m T S) :
    Goes (evF Y AP (k + 9)) (k + 9) af34_l0 T S (Then (fun T' S' => ∃ m', IC0 o og la lb Sb S0 m' T' S' ∧ id m' < id m) fun r T' S' => r = .exit 2 ∧ ∃ p e, T'.get 6 = some (.slice p (la ++ lb).length e none) ∧ Gr Sb S' p e (la ++ lb)) := by
  obtain ⟨t25, t26, h3⟩ := hI
  have i0 : ixOf (.int .i64 0) 2 = some 0 := rfl
  have i1 : ixOf (.int .i64 1) 2 = some 1 := rfl
  have w0 : IntKind.i64.wrap (0 + 1) = 1 := by decide
  have w1 : IntKind.i64.wrap (1 + 1) = 2 := by decide
  rcases h3 with ⟨t27, rfl, rfl, t6⟩ | ⟨p, t27, rfl, t6, G⟩ | ⟨p, e, t27, rfl, t6, G⟩
  · have r0' : S.rd o 0 0 1 = some [.slice pa la.length ea ca] := by rw [x0.rd ho]; exact r0
    rcases pa with _ | ⟨oa, va, ia⟩
    · rw [ba.nil rfl] at hla; exact absurd hla (Nat.lt_irrefl _)
    obtain rfl := ba.ez.resolve_left (by simp)
    obtain ⟨_, hrd⟩ := (ba.ext x0).at_ oa va ia rfl
    obtain ⟨p', S', h1, h2⟩ := app_spare (m := la) g0 hog hog' x0 ba.bd (by omega) (by omega)
    simp -implicitDefEqProofs -dsimp (maxSteps := 10000000) only [af34_l0, ↓kS, after_some, br_true, br_false, kC, ↓kQ, ↓Option.bind_some, ↓Option.map_some, ↓cond_true, ↓cond_false, evC, evOp, XO.lit, setArgs, Tr.get_set, Option.bind_some, Option.map_some, cond_true, cond_false, maxI, maxFrom, minI, minFrom, aConv, aBinE, aEq, eqScal, aUn, evRes, fin, oneOf, if_true, if_false, callee, reduceCtorEq, Nat.reduceEqDiff, List.getElem?_cons_zero, List.getElem?_cons_succ, beq_self_eq_true, gt_iff_lt, List.head?_cons, AV.undef, eq_self, ne_eq, Int.reduceLT, Int.reduceLE, Int.reduceToNat, Int.reduceEq, Int.reduceNeg, Nat.reduceAdd, Nat.reduceLT, Nat.reduceLeDiff, Nat.reduceMul, Nat.reduceSub, kM, AV.cells, AV.tup, List.drop_nil, List.append_nil, rdO, St.wr, List.length_cons, List.length_nil, List.take_succ_cons, List.take_zero, List.drop_succ_cons, List.drop_zero, List.cons_append, List.nil_append, Nat.reduceMul, t25, t26, t27, t6, i0, r0', hrd, h1, w0, Nat.mul_one, Nat.zero_mul]
    refine ⟨1, ⟨?_, ?_, .inr (.inl ⟨p', ?_, rfl, ?_, h2⟩)⟩, by show 1 < 2; decide⟩ <;> simp only [Tr.get_set, Nat.reduceEqDiff, if_false, if_true, t25, t26]
  · have r1' : S.rd o 0 1 1 = some [.slice pb lb.length eb cb] := by rw [G.ext.rd ho]; exact r1
    obtain ⟨p', e', S', h1, h2⟩ := G.app bb.bd hr
    rcases pb with _ | ⟨ob, vb, ib⟩
    · obtain rfl := bb.nil rfl
      have h1 : aAppend 1 1 S (.slice p la.length 1 none) 0 [] = some (.slice p' (la ++ []).length e' none, S') := h1
      simp -implicitDefEqProofs -dsimp (maxSteps := 10000000) only [af34_l0, ↓kS, after_some, br_true, br_false, kC, ↓kQ, ↓Option.bind_some, ↓Option.map_some, ↓cond_true, ↓cond_false, evC, evOp, XO.lit, setArgs, Tr.get_set, Option.bind_some, Option.map_some, cond_true, cond_false, maxI, maxFrom, minI, minFrom, aConv, aBinE, aEq, eqScal, aUn, evRes, fin, oneOf, if_true, if_false, callee, reduceCtorEq, Nat.reduceEqDiff, List.getElem?_cons_zero, List.getElem?_cons_succ, beq_self_eq_true, gt_iff_lt, List.head?_cons, AV.undef, eq_self, ne_eq, Int.reduceLT, Int.reduceLE, Int.reduceToNat, Int.reduceEq, Int.reduceNeg, Nat.reduceAdd, Nat.reduceLT, Nat.reduceLeDiff, Nat.reduceMul, Nat.reduceSub, kM, AV.cells, AV.tup, List.drop_nil, List.append_nil, rdO, St.wr, List.length_cons, List.length_nil, List.take_succ_cons, List.take_zero, List.drop_succ_cons, List.drop_zero, List.cons_append, List.nil_append, Nat.reduceMul, t25, t26, t27, t6, i1, r1', h1, w1, Nat.mul_one]
      refine ⟨0, ⟨?_, ?_, .inr (.inr ⟨p', e', ?_, rfl, ?_, h2⟩)⟩, by show 0 < 1; decide⟩ <;> simp only [Tr.get_set, Nat.reduceEqDiff, if_false, if_true, t25, t26, List.append_nil]
    · obtain rfl := bb.ez.resolve_left (by simp)
      obtain ⟨_, hrd⟩ := (bb.ext G.ext).at_ ob vb ib rfl
      simp -implicitDefEqProofs -dsimp (maxSteps := 10000000) only [af34_l0, ↓kS, after_some, br_true, br_false, kC, ↓kQ, ↓Option.bind_some, ↓Option.map_some, ↓cond_true, ↓cond_false, evC, evOp, XO.lit, setArgs, Tr.get_set, Option.bind_some, Option.map_some, cond_true, cond_false, maxI, maxFrom, minI, minFrom, aConv, aBinE, aEq, eqScal, aUn, evRes, fin, oneOf, if_true, if_false, callee, reduceCtorEq, Nat.reduceEqDiff, List.getElem?_cons_zero, List.getElem?_cons_succ, beq_self_eq_true, gt_iff_lt, List.head?_cons, AV.undef, eq_self, ne_eq, Int.reduceLT, Int.reduceLE, Int.reduceToNat, Int.reduceEq, Int.reduceNeg, Nat.reduceAdd, Nat.reduceLT, Nat.reduceLeDiff, Nat.reduceMul, Nat.reduceSub, kM, AV.cells, AV.tup, List.drop_nil, List.append_nil, rdO, St.wr, List.length_cons, List.length_nil, List.take_succ_cons, List.take_zero, List.drop_succ_cons, List.drop_zero, List.cons_append, List.nil_append, Nat.reduceMul, t25, t26, t27, t6, i1, r1', hrd, h1, w1, Nat.mul_one]
      refine ⟨0, ⟨?_, ?_, .inr (.inr ⟨p', e', ?_, rfl, ?_, h2⟩)⟩, by show 0 < 1; decide⟩ <;> simp only [Tr.get_set, Nat.reduceEqDiff, if_false, if_true, t25, t26]
  · simp -implicitDefEqProofs -dsimp (maxSteps := 10000000) only [af34_l0, ↓kS, after_some, br_true, br_false, kC, ↓kQ, ↓Option.bind_some, ↓Option.map_some, ↓cond_true, ↓cond_false, evC, evOp, XO.lit, setArgs, Tr.get_set, Option.bind_some, Option.map_some, cond_true, cond_false, maxI, maxFrom, minI, minFrom, aConv, aBinE, aEq, eqScal, aUn, evRes, fin, oneOf, if_true, if_false, callee, reduceCtorEq, Nat.reduceEqDiff, List.getElem?_cons_zero, List.getElem?_cons_succ, beq_self_eq_true, gt_iff_lt, List.head?_cons, AV.undef, eq_self, ne_eq, Int.reduceLT, Int.reduceLE, Int.reduceToNat, Int.reduceEq, Int.reduceNeg, Nat.reduceAdd, Nat.reduceLT, Nat.reduceLeDiff, Nat.reduceMul, Nat.reduceSub, kM, AV.cells, AV.tup, List.drop_nil, List.append_nil, rdO, St.wr, List.length_cons, List.length_nil, List.take_succ_cons, List.take_zero, List.drop_succ_cons, List.drop_zero, List.cons_append, List.nil_append, Nat.reduceMul, t26, t27]
    refine ⟨p, e, ?_, G⟩
    simp only [Tr.get_set, Nat.reduceEqDiff, if_false, if_true, t6]
theorem T34 (k : Nat) {o : Nat} {va vb : AV} {la lb : List Nat} {S : St} (r : S.rd o 0 0 2 = some [va, vb]) (ho : o < S.next) (ba : Bs S va la) (bb : Bs S vb lb) (hla : 0 < la.length) (hr : la.length + lb.length ≤ 140737488355328) :
    ∃ v' S', evF Y AP (k + 10) 34 [.slice (some (o, 0, 0)) 2 1 none] S = some (v', S') ∧ Nb S S' v' (la ++ lb) := by
  obtain ⟨pa, ea, ca, rfl, ba⟩ := ba
  obtain ⟨pb, eb, cb, rfl, bb⟩ := bb
  have r0 : S.rd o 0 0 1 = some [.slice pa la.length ea ca] := rd_sub (m := 0) (l := 1) r (by show 0 + 1 ≤ 2; decide)
  have r1 : S.rd o 0 1 1 = some [.slice pb lb.length eb cb] := by have := rd_sub (m := 1) (l := 1) r (by show 1 + 1 ≤ 2; decide); rwa [Nat.zero_add] at this
  refine evF_goes (af := af34) (k := k + 9) rfl rfl rfl ?_
  have a2 : (2 : Nat) ≤ 9223372036854775807 := by decide
  simp -implicitDefEqProofs -dsimp (maxSteps := 10000000) only [af34, ↓kS, after_some, br_true, br_false, kC, ↓kQ, ↓Option.bind_some, ↓Option.map_some, ↓cond_true, ↓cond_false, evC, evOp, XO.lit, setArgs, Tr.tabG, Tr.tabS, Tr.tabL, Tr.get_lf, Option.bind_some, Option.map_some, cond_true, cond_false, maxI, maxFrom, minI, minFrom, aConv, aBinE, aEq, eqScal, aUn, evRes, fin, oneOf, if_true, if_false, callee, reduceCtorEq, Nat.reduceEqDiff, List.getElem?_cons_zero, List.getElem?_cons_succ, beq_self_eq_true, gt_iff_lt, List.head?_cons, AV.undef, eq_self, ne_eq, Int.reduceLT, Int.reduceLE, Int.reduceToNat, Int.reduceEq, Int.reduceNeg, Nat.reduceAdd, Nat.reduceLT, Nat.reduceLeDiff, Nat.reduceMul, Nat.reduceSub, a2]
  refine .while (IC1 o la.length lb.length S) id 2 ⟨rfl, rfl, rfl, rfl, 0, rfl, rfl, rfl⟩ (by show 2 < k + 9; omega) fun m2 T2 S2 h2 => (roundC1 k r0 r1 (by omega) (by omega) m2 T2 S2 h2).mono ?_
  intro r' T' S' hq
  cases r' with
  | normal => exact hq
  | ret => exact absurd hq.1 (by simp)
  | exit i =>
    obtain ⟨hi, rfl, t0, t9, t10, j, t11, hm, t3⟩ := hq
    cases hi
    obtain rfl : j = 2 := by omega
    have t3 : T'.get 3 = some (.int .i64 ((la.length + lb.length : Nat) : Int)) := by rw [t3]; rfl
    have h43 := T43 (k + 6) S' (n := la.length + lb.length) (by omega) hr
    have h43 : evF Y AP (k + 9) 43 [.slice none 0 0 none, .int .i64 ((la.length + lb.length : Nat) : Int)] S' = _ := h43
    obtain ⟨A, hA⟩ : ∃ A, S'.alloc (.cells (bv (List.replicate (la.length + lb.length) 0)) 0 0 true) = A := ⟨_, rfl⟩
    have eA : Ext S' A := by rw [← hA]; exact .alloc _ _
    have nA : A.next = S'.next + 1 := by rw [← hA]; rfl
    have gA : A.get S'.next = some (.cells (bv (List.replicate (la.length + lb.length) 0)) 0 0 true) := by rw [← hA, St.get_alloc, if_pos rfl]
    rw [hA] at h43
    simp -implicitDefEqProofs -dsimp (maxSteps := 10000000) only [↓kS, after_some, br_true, br_false, kC, ↓kQ, ↓Option.bind_some, ↓Option.map_some, ↓cond_true, ↓cond_false, evC, evOp, XO.lit, setArgs, Tr.get_set, Option.bind_some, Option.map_some, cond_true, cond_false, maxI, maxFrom, minI, minFrom, aConv, aBinE, aEq, eqScal, aUn, evRes, fin, oneOf, if_true, if_false, callee, reduceCtorEq, Nat.reduceEqDiff, List.getElem?_cons_zero, List.getElem?_cons_succ, beq_self_eq_true, gt_iff_lt, List.head?_cons, AV.undef, eq_self, ne_eq, Int.reduceLT, Int.reduceLE, Int.reduceToNat, Int.reduceEq, Int.reduceNeg, Nat.reduceAdd, Nat.reduceLT, Nat.reduceLeDiff, Nat.reduceMul, Nat.reduceSub, kM, AV.cells, AV.tup, List.drop_nil, List.append_nil, rdO, St.wr, List.length_cons, List.length_nil, List.take_succ_cons, List.take_zero, List.drop_succ_cons, List.drop_zero, List.cons_append, List.nil_append, Nat.reduceMul, t0, t3, a2, h43]
    refine .while (IC0 o S'.next la lb S' A) id 2 ⟨?_, ?_, .inl ⟨?_, rfl, rfl, ?_⟩⟩ (by show 2 < k + 9; omega) fun m2 T2 S2 h2 => (roundC0 k r0 r1 ho ba bb hla hr eA gA (Nat.le_refl _) (by omega) m2 T2 S2 h2).mono ?_
    iterate 4 (first | focus (simp only [Tr.get_set, Nat.reduceEqDiff, if_false, if_true, t0]; done) | focus (simp only [Tr.get_set, Nat.reduceEqDiff, if_false, if_true, t0]; rfl) | skip)
    intro r' T' S'' hq
    cases r' with
    | normal => exact hq
    | ret => exact absurd hq.1 (by simp)
    | exit i =>
      obtain ⟨hi, p, e, t6, G⟩ := hq
      cases hi
      simp -implicitDefEqProofs -dsimp (maxSteps := 10000000) only [↓kS, after_some, br_true, br_false, kC, ↓kQ, ↓Option.bind_some, ↓Option.map_some, ↓cond_true, ↓cond_false, evC, evOp, XO.lit, setArgs, Tr.get_set, Option.bind_some, Option.map_some, cond_true, cond_false, maxI, maxFrom, minI, minFrom, aConv, aBinE, aEq, eqScal, aUn, evRes, fin, oneOf, if_true, if_false, callee, reduceCtorEq, Nat.reduceEqDiff, List.getElem?_cons_zero, List.getElem?_cons_succ, beq_self_eq_true, gt_iff_lt, List.head?_cons, AV.undef, eq_self, ne_eq, Int.reduceLT, Int.reduceLE, Int.reduceToNat, Int.reduceEq, Int.reduceNeg, Nat.reduceAdd, Nat.reduceLT, Nat.reduceLeDiff, Nat.reduceMul, Nat.reduceSub, kM, AV.cells, AV.tup, List.drop_nil, List.append_nil, rdO, St.wr, List.length_cons, List.length_nil, List.take_succ_cons, List.take_zero, List.drop_succ_cons, List.drop_zero, List.cons_append, List.nil_append, Nat.reduceMul, t6]
      exact ⟨_, _, rfl, .gr G (by rw [List.length_append]; exact hr)⟩
end Go.Proofs.YthejkmfmcjpfhaaA
