/- An abstract evaluator, what is used with it: rules by which simp looks at no more than it must. -/
import Derived.Test.YtajakdllbpnnpaaGreatAeTab
set_option linter.unusedVariables false
set_option maxRecDepth 10000
namespace Go.Proofs.YtajakdllbpnnpaaGreatA
open Go.RowKit

theorem any_op : (∀ (call : Nat → List AV → St → Option (AV × St)) (x : XO) (T : Tm) (S : St), evAny call (.mv x) T S = evOp (.mv x) T S) ∧ (∀ (call : Nat → List AV → St → Option (AV × St)) (c a b : XO) (T : Tm) (S : St), evAny call (.pick c a b) T S = evOp (.pick c a b) T S) ∧ (∀ (call : Nat → List AV → St → Option (AV × St)) (zero : List AV) (T : Tm) (S : St), evAny call (.alloc zero) T S = evOp (.alloc zero) T S) ∧ (∀ (call : Nat → List AV → St → Option (AV × St)) (x : XO) (T : Tm) (S : St), evAny call (.box x) T S = evOp (.box x) T S) ∧ (∀ (call : Nat → List AV → St → Option (AV × St)) (zero : List AV) (parts : List (Nat × Nat × XO)) (T : Tm) (S : St), evAny call (.build zero parts) T S = evOp (.build zero parts) T S) ∧ (∀ (call : Nat → List AV → St → Option (AV × St)) (esz : Nat) (zero : List AV) (len : Nat) (parts : List (Nat × Nat × XO)) (T : Tm) (S : St), evAny call (.buildSlice esz zero len parts) T S = evOp (.buildSlice esz zero len parts) T S) ∧ (∀ (call : Nat → List AV → St → Option (AV × St)) (a : XO) (T : Tm) (S : St), evAny call (.load1 a) T S = evOp (.load1 a) T S) ∧ (∀ (call : Nat → List AV → St → Option (AV × St)) (n : Nat) (a : XO) (T : Tm) (S : St), evAny call (.loadN n a) T S = evOp (.loadN n a) T S) ∧ (∀ (call : Nat → List AV → St → Option (AV × St)) (n : Nat) (a x : XO) (T : Tm) (S : St), evAny call (.store n a x) T S = evOp (.store n a x) T S) ∧ (∀ (call : Nat → List AV → St → Option (AV × St)) (x : XO) (T : Tm) (S : St), evAny call (.nilCheck x) T S = evOp (.nilCheck x) T S) ∧ (∀ (call : Nat → List AV → St → Option (AV × St)) (op : BinOp) (et : ET) (x y : XO) (T : Tm) (S : St), evAny call (.bin op et x y) T S = evOp (.bin op et x y) T S) ∧ (∀ (call : Nat → List AV → St → Option (AV × St)) (op : UnOp) (x : XO) (T : Tm) (S : St), evAny call (.un op x) T S = evOp (.un op x) T S) ∧ (∀ (call : Nat → List AV → St → Option (AV × St)) (c : CV) (x : XO) (T : Tm) (S : St), evAny call (.conv c x) T S = evOp (.conv c x) T S) ∧ (∀ (call : Nat → List AV → St → Option (AV × St)) (t : Nat) (x : XO) (T : Tm) (S : St), evAny call (.mkIface t x) T S = evOp (.mkIface t x) T S) ∧ (∀ (call : Nat → List AV → St → Option (AV × St)) (f : Nat) (caps : List XO) (T : Tm) (S : St), evAny call (.mkFunc f caps) T S = evOp (.mkFunc f caps) T S) ∧ (∀ (call : Nat → List AV → St → Option (AV × St)) (esz bytes : Nat) (zero : List AV) (len cap : XO) (T : Tm) (S : St), evAny call (.mkSlice esz bytes zero len cap) T S = evOp (.mkSlice esz bytes zero len cap) T S) ∧ (∀ (call : Nat → List AV → St → Option (AV × St)) (x : XO) (lo hi : Option XO) (T : Tm) (S : St), evAny call (.cutStr x lo hi) T S = evOp (.cutStr x lo hi) T S) ∧ (∀ (call : Nat → List AV → St → Option (AV × St)) (esz : Nat) (x : XO) (lo hi mx : Option XO) (T : Tm) (S : St), evAny call (.cut esz x lo hi mx) T S = evOp (.cut esz x lo hi mx) T S) ∧ (∀ (call : Nat → List AV → St → Option (AV × St)) (off n : Nat) (x : XO) (T : Tm) (S : St), evAny call (.fieldAddr off n x) T S = evOp (.fieldAddr off n x) T S) ∧ (∀ (call : Nat → List AV → St → Option (AV × St)) (off : Nat) (x : XO) (T : Tm) (S : St), evAny call (.field1 off x) T S = evOp (.field1 off x) T S) ∧ (∀ (call : Nat → List AV → St → Option (AV × St)) (off n : Nat) (x : XO) (T : Tm) (S : St), evAny call (.fieldN off n x) T S = evOp (.fieldN off n x) T S) ∧ (∀ (call : Nat → List AV → St → Option (AV × St)) (esz : Nat) (x i : XO) (T : Tm) (S : St), evAny call (.ixSlice esz x i) T S = evOp (.ixSlice esz x i) T S) ∧ (∀ (call : Nat → List AV → St → Option (AV × St)) (len esz : Nat) (x i : XO) (T : Tm) (S : St), evAny call (.ixArr len esz x i) T S = evOp (.ixArr len esz x i) T S) ∧ (∀ (call : Nat → List AV → St → Option (AV × St)) (x i : XO) (T : Tm) (S : St), evAny call (.ixStr x i) T S = evOp (.ixStr x i) T S) ∧ (∀ (call : Nat → List AV → St → Option (AV × St)) (len : Nat) (x i : XO) (T : Tm) (S : St), evAny call (.ixAgg1 len x i) T S = evOp (.ixAgg1 len x i) T S) ∧ (∀ (call : Nat → List AV → St → Option (AV × St)) (len esz : Nat) (x i : XO) (T : Tm) (S : St), evAny call (.ixAggN len esz x i) T S = evOp (.ixAggN len esz x i) T S) ∧ (∀ (call : Nat → List AV → St → Option (AV × St)) (x : XO) (T : Tm) (S : St), evAny call (.range x) T S = evOp (.range x) T S) ∧ (∀ (call : Nat → List AV → St → Option (AV × St)) (x : XO) (T : Tm) (S : St), evAny call (.next x) T S = evOp (.next x) T S) ∧ (∀ (call : Nat → List AV → St → Option (AV × St)) (t : Nat) (zero : AV) (ok : Bool) (x : XO) (T : Tm) (S : St), evAny call (.assert t zero ok x) T S = evOp (.assert t zero ok x) T S) ∧ (∀ (call : Nat → List AV → St → Option (AV × St)) (yes no : List Nat) (ok : Bool) (x : XO) (T : Tm) (S : St), evAny call (.assertI yes no ok x) T S = evOp (.assertI yes no ok x) T S) ∧ (∀ (call : Nat → List AV → St → Option (AV × St)) (i : Nat) (x : XO) (T : Tm) (S : St), evAny call (.extract i x) T S = evOp (.extract i x) T S) ∧ (∀ (call : Nat → List AV → St → Option (AV × St)) (esz bytes : Nat) (s x : XO) (T : Tm) (S : St), evAny call (.append esz bytes s x) T S = evOp (.append esz bytes s x) T S) ∧ (∀ (call : Nat → List AV → St → Option (AV × St)) (bytes : Nat) (s x : XO) (T : Tm) (S : St), evAny call (.appendS bytes s x) T S = evOp (.appendS bytes s x) T S) ∧ (∀ (call : Nat → List AV → St → Option (AV × St)) (x : XO) (T : Tm) (S : St), evAny call (.len x) T S = evOp (.len x) T S) ∧ (∀ (call : Nat → List AV → St → Option (AV × St)) (x : XO) (T : Tm) (S : St), evAny call (.lenS x) T S = evOp (.lenS x) T S) ∧ (∀ (call : Nat → List AV → St → Option (AV × St)) (n : Nat) (T : Tm) (S : St), evAny call (.lenArr n) T S = evOp (.lenArr n) T S) ∧ (∀ (call : Nat → List AV → St → Option (AV × St)) (xs : List XO) (T : Tm) (S : St), evAny call (.mx xs) T S = evOp (.mx xs) T S) ∧ (∀ (call : Nat → List AV → St → Option (AV × St)) (xs : List XO) (T : Tm) (S : St), evAny call (.mn xs) T S = evOp (.mn xs) T S) ∧ (∀ (call : Nat → List AV → St → Option (AV × St)) (esz : Nat) (d s : XO) (T : Tm) (S : St), evAny call (.copy esz d s) T S = evOp (.copy esz d s) T S) ∧ (∀ (call : Nat → List AV → St → Option (AV × St)) (x : XO) (T : Tm) (S : St), evAny call (.cap x) T S = evOp (.cap x) T S) ∧ (∀ (call : Nat → List AV → St → Option (AV × St)) (esz bytes : Nat) (zero : List AV) (s n : XO) (T : Tm) (S : St), evAny call (.appendZ esz bytes zero s n) T S = evOp (.appendZ esz bytes zero s n) T S) ∧ (∀ (call : Nat → List AV → St → Option (AV × St))  (T : Tm) (S : St), evAny call (.stop ) T S = evOp (.stop ) T S) ∧ (∀ (call : Nat → List AV → St → Option (AV × St)) (kk kv : IntKind) (T : Tm) (S : St), evAny call (.mkMap kk kv) T S = evOp (.mkMap kk kv) T S) ∧ (∀ (call : Nat → List AV → St → Option (AV × St)) (kk kv : IntKind) (ok : Bool) (m k : XO) (T : Tm) (S : St), evAny call (.lookup kk kv ok m k) T S = evOp (.lookup kk kv ok m k) T S) ∧ (∀ (call : Nat → List AV → St → Option (AV × St)) (kk kv : IntKind) (m k x : XO) (T : Tm) (S : St), evAny call (.mapSet kk kv m k x) T S = evOp (.mapSet kk kv m k x) T S) := ⟨fun _ _ _ _ => rfl, fun _ _ _ _ _ _ => rfl, fun _ _ _ _ => rfl, fun _ _ _ _ => rfl, fun _ _ _ _ _ => rfl, fun _ _ _ _ _ _ _ => rfl, fun _ _ _ _ => rfl, fun _ _ _ _ _ => rfl, fun _ _ _ _ _ _ => rfl, fun _ _ _ _ => rfl, fun _ _ _ _ _ _ _ => rfl, fun _ _ _ _ _ => rfl, fun _ _ _ _ _ => rfl, fun _ _ _ _ _ => rfl, fun _ _ _ _ _ => rfl, fun _ _ _ _ _ _ _ _ => rfl, fun _ _ _ _ _ _ => rfl, fun _ _ _ _ _ _ _ _ => rfl, fun _ _ _ _ _ _ => rfl, fun _ _ _ _ _ => rfl, fun _ _ _ _ _ _ => rfl, fun _ _ _ _ _ _ => rfl, fun _ _ _ _ _ _ _ => rfl, fun _ _ _ _ _ => rfl, fun _ _ _ _ _ _ => rfl, fun _ _ _ _ _ _ _ => rfl, fun _ _ _ _ => rfl, fun _ _ _ _ => rfl, fun _ _ _ _ _ _ _ => rfl, fun _ _ _ _ _ _ _ => rfl, fun _ _ _ _ _ => rfl, fun _ _ _ _ _ _ _ => rfl, fun _ _ _ _ _ _ => rfl, fun _ _ _ _ => rfl, fun _ _ _ _ => rfl, fun _ _ _ _ => rfl, fun _ _ _ _ => rfl, fun _ _ _ _ => rfl, fun _ _ _ _ _ _ => rfl, fun _ _ _ _ => rfl, fun _ _ _ _ _ _ _ _ => rfl, fun _  _ _ => rfl, fun _ _ _ _ _ => rfl, fun _ _ _ _ _ _ _ _ => rfl, fun _ _ _ _ _ _ _ _ => rfl⟩
theorem bir : (∀ (a : XO), (AOp.load1 a).birth = false) ∧ (∀ (n : Nat) (a : XO), (AOp.loadN n a).birth = false) ∧ (∀ (c : CV) (x : XO), (AOp.conv c x).birth = false) ∧ (∀ (z : List AV), (AOp.alloc z).birth = true) ∧
    (∀ (e : Nat) (z : List AV) (n : Nat) (ps : List (Nat × Nat × XO)), (AOp.buildSlice e z n ps).birth = true) ∧ (∀ (e b : Nat) (z : List AV) (l c : XO), (AOp.mkSlice e b z l c).birth = true) :=
  ⟨fun _ => rfl, fun _ _ => rfl, fun _ _ => rfl, fun _ => rfl, fun _ _ _ _ => rfl, fun _ _ _ _ _ => rfl⟩
section
variable {call : Nat → List AV → St → Option (AV × St)} {T : Tm} {S : St}
theorem any_call {f : Nat} {args : List XO} : evAny call (.call f args) T S = (evArgs T args).bind fun l => call f l S := by
  show ((evArgs T args).map (f, ·)).bind (fun p => call p.1 p.2 S) = _
  cases evArgs T args <;> rfl
theorem any_callV {f : XO} {args : List XO} : evAny call (.callV f args) T S = (callee (.callV f args) T).bind fun p => call p.1 p.2 S := rfl
theorem any_invoke {n : String} {tab : List (Nat × Nat)} {x : XO} {args : List XO} : evAny call (.invoke n tab x args) T S = (callee (.invoke n tab x args) T).bind fun p => call p.1 p.2 S := rfl
theorem xo_t {i : Nat} : (XO.t i).ev T = T.get i := rfl
theorem xo_c {v : AV} : (XO.c v).ev T = some v := rfl
theorem ops_nil : evOps call [] T S = some (T, S) := rfl
theorem ops_some {d : Nat} {g : Option (Nat × Bool)} {op : AOp} {r : List AOper} : evOps call (⟨some d, g, op⟩ :: r) T S = (evOper call ⟨some d, g, op⟩ T S).bind fun p => evOps call r (T.set d p.1) p.2 := rfl
theorem ops_none {g : Option (Nat × Bool)} {op : AOp} {r : List AOper} : evOps call (⟨none, g, op⟩ :: r) T S = (evOper call ⟨none, g, op⟩ T S).bind fun p => evOps call r T p.2 := rfl
theorem oper_none {d : Option Nat} {op : AOp} : evOper call ⟨d, none, op⟩ T S = evAny call op T S := rfl
/-- An operation behind a test. -/
def gd (o : Option AV) (b : Bool) (r : Unit → Option (AV × St)) (S : St) : Option (AV × St) :=
  match o with
  | some (.bool c) => bif c == b then r () else some (AV.undef, S)
  | some _ => some (AV.undef, S)
  | none => none
theorem gd_congr {o o' : Option AV} {b : Bool} {r : Unit → Option (AV × St)} (h : o = o') : gd o b r S = gd o' b r S := by rw [h]
theorem gd_tt {r : Unit → Option (AV × St)} : gd (some (.bool true)) true r S = r () := rfl
theorem gd_ff {r : Unit → Option (AV × St)} : gd (some (.bool false)) false r S = r () := rfl
theorem gd_tf {r : Unit → Option (AV × St)} : gd (some (.bool true)) false r S = some (AV.undef, S) := rfl
theorem gd_ft {r : Unit → Option (AV × St)} : gd (some (.bool false)) true r S = some (AV.undef, S) := rfl
theorem gd_undef {b : Bool} {vs : List AV} {r : Unit → Option (AV × St)} : gd (some (.tuple vs)) b r S = some (AV.undef, S) := rfl
theorem oper_some {d : Option Nat} {op : AOp} {i : Nat} {b : Bool} : evOper call ⟨d, some (i, b), op⟩ T S = gd (T.get i) b (fun _ => evAny call op T S) S := by
  unfold evOper gd wanted
  dsimp only
  generalize T.get i = o
  cases o with
  | none => rfl
  | some v => cases v <;> rfl
theorem args_nil : evArgs T [] = some [] := rfl
theorem args_cons {x : XO} {r : List XO} : evArgs T (x :: r) = (x.ev T).bind fun v => (evArgs T r).map (v :: ·) := rfl
end
section
variable {k : IntKind} {a b : Int} {et : ET} {l : Bool}
theorem bin_add : aBin .add et l (.int k a) (.int k b) = some (.int k (k.wrap (a + b))) := by simp [aBin, aInt]
theorem bin_sub : aBin .sub et l (.int k a) (.int k b) = some (.int k (k.wrap (a - b))) := by simp [aBin, aInt]
theorem bin_mul : aBin .mul et l (.int k a) (.int k b) = some (.int k (k.wrap (a * b))) := by simp [aBin, aInt]
theorem bin_quo : aBin .quo et l (.int k a) (.int k b) = if b = 0 then none else some (.int k (k.wrap (a.tdiv b))) := by simp [aBin, aInt]
theorem bin_rem : aBin .rem et l (.int k a) (.int k b) = if b = 0 then none else some (.int k (a.tmod b)) := by simp [aBin, aInt]
theorem bin_and : aBin .and et l (.int k a) (.int k b) = some (.int k (Go.bits .and k a b)) := by simp [aBin, aInt]
theorem bin_or : aBin .or et l (.int k a) (.int k b) = some (.int k (Go.bits .or k a b)) := by simp [aBin, aInt]
theorem bin_xor : aBin .xor et l (.int k a) (.int k b) = some (.int k (Go.bits .xor k a b)) := by simp [aBin, aInt]
theorem bin_andNot : aBin .andNot et l (.int k a) (.int k b) = some (.int k (Go.bits .andNot k a b)) := by simp [aBin, aInt]
theorem bin_eql : aBin .eql et l (.int k a) (.int k b) = some (.bool (decide (a = b))) := by simp [aBin, aInt]
theorem bin_neq : aBin .neq et l (.int k a) (.int k b) = some (.bool (decide (a ≠ b))) := by simp [aBin, aInt]
theorem bin_lss : aBin .lss et l (.int k a) (.int k b) = some (.bool (decide (a < b))) := by simp [aBin, aInt]
theorem bin_leq : aBin .leq et l (.int k a) (.int k b) = some (.bool (decide (a ≤ b))) := by simp [aBin, aInt]
theorem bin_gtr : aBin .gtr et l (.int k a) (.int k b) = some (.bool (decide (b < a))) := by simp [aBin, aInt]
theorem bin_geq : aBin .geq et l (.int k a) (.int k b) = some (.bool (decide (b ≤ a))) := by simp [aBin, aInt]
theorem bin_bools {x y : Bool} {op : BinOp} : aBin op et l (.bool x) (.bool y) = aBinE op et l (.bool x) (.bool y) := rfl
theorem bin_strs {x y : List Nat} {op : BinOp} : aBin op et l (.str x) (.str y) = aStr op x y := rfl
theorem bin_ptrs {x y : Option Pl} {op : BinOp} : aBin op et l (.ptr x) (.ptr y) = aBinE op et l (.ptr x) (.ptr y) := rfl
theorem bin_slices {x y : Option (Nat × Nat × Nat)} {m n e e' : Nat} {c c' : Option Nat} {op : BinOp} : aBin op et l (.slice x m e c) (.slice y n e' c') = aBinE op et l (.slice x m e c) (.slice y n e' c') := rfl
theorem bin_aggs {x y : List AV} {op : BinOp} : aBin op et l (.agg x) (.agg y) = aBinE op et l (.agg x) (.agg y) := rfl
theorem bin_shl {k' : IntKind} : aBin .shl et l (.int k a) (.int k' b) = if b < 0 then none else some (.int k (k.wrap (a * 2 ^ min b.toNat k.bits))) := by simp [aBin]
theorem bin_shr {k' : IntKind} : aBin .shr et l (.int k a) (.int k' b) = if b < 0 then none else some (.int k (a / 2 ^ min b.toNat k.bits)) := by simp [aBin]
end
end Go.Proofs.YtajakdllbpnnpaaGreatA
