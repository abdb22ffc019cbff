/- An abstract evaluator, part F: numbers, strings, comparings are what the model says. -/
import Derived.Test.YtajoogahcgbohaaGreatAeE
import Derived.OpenShut
set_option linter.unusedVariables false
set_option linter.unusedSimpArgs false
namespace Go.Proofs.YtajoogahcgbohaaGreatA
open Go.RowKit

theorem toList_loop (s : ByteArray) : ∀ (n i : Nat) (r : List UInt8), s.size - i = n → ByteArray.toList.loop s i r = r.reverse ++ s.data.toList.drop i := by
  intro n
  induction n with
  | zero =>
    intro i r h
    rw [ByteArray.toList.loop, if_neg (by omega), List.drop_eq_nil_of_le (by simp; exact Nat.sub_eq_zero_iff_le.1 h)]
    simp
  | succ n ih =>
    intro i r h
    have hi : i < s.size := by omega
    rw [ByteArray.toList.loop, if_pos hi, ih (i + 1) _ (by omega)]
    have hg : s.get! i = s.data.toList[i]'(by simpa using hi) := by
      cases s with
      | mk d => simp only [ByteArray.get!]; exact getElem!_pos d i hi
    rw [List.reverse_cons, List.append_assoc, hg]
    congr 1
    exact (List.drop_eq_getElem_cons (by simpa using hi)).symm
theorem toList_eq (s : ByteArray) : s.toList = s.data.toList := by
  have := toList_loop s (s.size - 0) 0 [] rfl
  simpa [ByteArray.toList] using this
theorem bytesN_length (s : ByteArray) : (bytesN s).length = s.size := by simp [bytesN]
theorem bytesN_lt {s : ByteArray} {b : Nat} (h : b ∈ bytesN s) : b < 256 := by
  simp only [bytesN, List.mem_map] at h
  obtain ⟨x, _, rfl⟩ := h
  exact x.toNat_lt
theorem eqStr_iff (a b : List Nat) : eqStr a b = decide (a = b) := by
  induction a generalizing b with
  | nil => cases b <;> simp [eqStr]
  | cons x a ih =>
    cases b with
    | nil => simp [eqStr]
    | cons y b =>
      simp only [eqStr, ih]
      by_cases hxy : x = y
      · subst hxy; simp
      · have : Nat.beq x y = false := by cases h : Nat.beq x y with | false => rfl | true => exact absurd (Nat.eq_of_beq_eq_true h) hxy
        simp [this, hxy]
theorem map_toNat_inj {a b : List UInt8} (h : a.map UInt8.toNat = b.map UInt8.toNat) : a = b := by
  induction a generalizing b with
  | nil => cases b with | nil => rfl | cons => simp at h
  | cons x a ih => cases b with
    | nil => simp at h
    | cons y b =>
      simp only [List.map_cons, List.cons.injEq] at h
      rw [UInt8.toNat_inj.1 h.1, ih h.2]
theorem str_eq (a b : ByteArray) : (a.toList == b.toList) = eqStr (bytesN a) (bytesN b) := by
  rw [eqStr_iff, toList_eq, toList_eq]
  by_cases h : a.data.toList = b.data.toList
  · simp [bytesN, h]
  · have : ¬ bytesN a = bytesN b := fun k => h (map_toNat_inj k)
    have hd : ¬ a.data = b.data := fun k => h (by rw [k])
    simp [this, hd]
theorem str_lt (a b : List UInt8) : Op.bytesLess a b = ltStr (a.map UInt8.toNat) (b.map UInt8.toNat) := by
  induction a generalizing b with
  | nil => cases b <;> rfl
  | cons x a ih => cases b with
    | nil => rfl
    | cons y b =>
      simp only [Op.bytesLess, List.map_cons, ltStr, ih]
      have h1 : decide (x < y) = Nat.blt x.toNat y.toNat := by
        rw [Bool.eq_iff_iff]; simp [Nat.blt_eq, UInt8.lt_iff_toNat_lt]
      have h2 : (x == y) = Nat.beq x.toNat y.toNat := by
        rw [Bool.eq_iff_iff, Nat.beq_eq]; simp [← UInt8.toNat_inj]
      rw [h1, h2]
theorem bytesN_append (a b : ByteArray) : bytesN (a ++ b) = bytesN a ++ bytesN b := by simp [bytesN]
theorem wf_bounds {k : IntKind} {n : Int} : (Lit.int k n).wf = true ↔ k.min ≤ n ∧ n ≤ k.max := by simp [Lit.wf]
theorem min_nonpos (k : IntKind) : k.min ≤ 0 ∧ 0 ≤ k.max ∧ -k.max - 1 ≤ k.min ∨ k.min = 0 := by cases k <;> simp [IntKind.min, IntKind.max, IntKind.signed, IntKind.bits]
theorem wf_tmod {k : IntKind} {a b : Int} (ha : (Lit.int k a).wf = true) : (Lit.int k (a.tmod b)).wf = true := by
  rw [wf_bounds] at *
  rcases Int.le_total 0 a with h | h
  · have h1 := Int.tmod_nonneg b h
    have h2 : a.tmod b ≤ a := by
      rw [Int.tmod_eq_emod_of_nonneg h]
      by_cases hb : b = 0
      · simp [hb]
      · have := Int.emod_add_mul_ediv a b
        rcases Int.lt_or_gt_of_ne hb with hb' | hb'
        · have h3 : a / b ≤ 0 := Int.ediv_nonpos_of_nonneg_of_nonpos h (Int.le_of_lt hb')
          have h4 := Int.mul_nonneg_of_nonpos_of_nonpos (Int.le_of_lt hb') h3
          omega
        · have h3 : 0 ≤ a / b := Int.ediv_nonneg h (Int.le_of_lt hb')
          have h4 := Int.mul_nonneg (Int.le_of_lt hb') h3
          omega
    have : k.min ≤ 0 := by cases k <;> simp [IntKind.min, IntKind.signed, IntKind.bits]
    omega
  · have h1 : (-a).tmod b = -(a.tmod b) := Int.neg_tmod a b
    have h0 : 0 ≤ -a := by omega
    have h2 := Int.tmod_nonneg b h0
    have h3 : (-a).tmod b ≤ -a := by
      rw [Int.tmod_eq_emod_of_nonneg h0]
      by_cases hb : b = 0
      · simp [hb]
      · have := Int.emod_add_mul_ediv (-a) b
        rcases Int.lt_or_gt_of_ne hb with hb' | hb'
        · have h3 : (-a) / b ≤ 0 := Int.ediv_nonpos_of_nonneg_of_nonpos h0 (Int.le_of_lt hb')
          have h4 := Int.mul_nonneg_of_nonpos_of_nonpos (Int.le_of_lt hb') h3
          omega
        · have h3 : 0 ≤ (-a) / b := Int.ediv_nonneg h0 (Int.le_of_lt hb')
          have h4 := Int.mul_nonneg (Int.le_of_lt hb') h3
          omega
    have : 0 ≤ k.max := by cases k <;> simp [IntKind.max, IntKind.signed, IntKind.bits]
    omega
theorem wf_shr {k : IntKind} {a : Int} (n : Nat) (ha : (Lit.int k a).wf = true) : (Lit.int k (a / 2 ^ n)).wf = true := by
  rw [wf_bounds] at *
  have hp : (0 : Int) < 2 ^ n := Int.pow_pos (by decide)
  have h1 := Int.mul_ediv_add_emod a (2 ^ n)
  have h2 := Int.emod_nonneg a (Int.ne_of_gt hp)
  have h3 := Int.emod_lt_of_pos a hp
  have k1 : k.min ≤ 0 := by cases k <;> simp [IntKind.min, IntKind.signed, IntKind.bits]
  have k2 : 0 ≤ k.max := by cases k <;> simp [IntKind.max, IntKind.signed, IntKind.bits]
  generalize a / 2 ^ n = q at *
  generalize a % 2 ^ n = r at *
  generalize (2 : Int) ^ n = p at *
  rcases Int.le_total 0 q with hq | hq
  · have := Int.mul_le_mul_of_nonneg_right (show 1 ≤ p by omega) hq
    omega
  · by_cases hq0 : q = 0
    · omega
    · have h4 := Int.mul_le_mul_of_nonneg_right (show 1 ≤ p by omega) (show 0 ≤ -(q + 1) by omega)
      have h5 : p * -(q + 1) = -(p * q) - p := by rw [Int.mul_neg, Int.mul_add, Int.mul_one]; omega
      omega
section
variable {P : Program} {w : World} {ρ : Rho}
theorem bin_int {op : BinOp} {k : IntKind} {a b : Int} {r : AV} (ha : (Lit.int k a).wf = true) (t : TypeId) (hop : op ≠ .shl) (hop' : op ≠ .shr) (h : aInt op k a b = some r) :
    ∃ c, (binOp op t (.int k a) (.int k b)).run P w = .ok c w ∧ VR ρ r c := by
  cases op <;> simp only [aInt] at h
  case shl => cases h
  case shr => cases h
  case quo =>
    split at h
    · cases h
    · rename_i hb; cases h; exact ⟨_, by simp [binOp, Op.intDiv, hb], .int (wf_wrap _ _)⟩
  case rem =>
    split at h
    · cases h
    · rename_i hb; cases h; exact ⟨_, by simp [binOp, Op.intDiv, hb], .int (wf_tmod ha)⟩
  case eql => cases h; exact ⟨.bool (a == b), by simp [binOp, Op.intCmp], by rw [show decide (a = b) = (a == b) from rfl]; exact .bool⟩
  case neq => cases h; exact ⟨.bool (a != b), by simp [binOp, Op.intCmp], by rw [show decide (a ≠ b) = (a != b) from by simp [bne]; rfl]; exact .bool⟩
  case lss => cases h; exact ⟨_, by simp [binOp, Op.intCmp], .bool⟩
  case leq => cases h; exact ⟨_, by simp [binOp, Op.intCmp], .bool⟩
  case gtr => cases h; exact ⟨_, by simp [binOp, Op.intCmp], .bool⟩
  case geq => cases h; exact ⟨_, by simp [binOp, Op.intCmp], .bool⟩
  all_goals (cases h; exact ⟨_, by simp [binOp, Op.intArith, Op.intBits, Go.bits], .int (wf_wrap _ _)⟩)
theorem bin_str {op : BinOp} {a b : ByteArray} {r : AV} (t : TypeId) (h : aStr op (bytesN a) (bytesN b) = some r) :
    ∃ c, (binOp op t (.string a) (.string b)).run P w = .ok c w ∧ VR ρ r c := by
  have e1 := str_eq a b
  have e2 := str_lt a.toList b.toList
  rw [toList_eq, toList_eq] at e2
  have e2' : Op.bytesLess a.toList b.toList = ltStr (bytesN a) (bytesN b) := by rw [toList_eq, toList_eq]; exact e2
  have hsz : IntKind.i64.max = 9223372036854775807 := by decide
  cases op <;> simp only [aStr] at h
  case add =>
    split at h
    · rename_i hl
      cases h
      rw [bytesN_length, bytesN_length] at hl
      refine ⟨_, ?_, .str (bytesN_append a b)⟩
      simp only [binOp, Op.stringOp, hsz]
      rw [if_neg (by omega)]
      rfl
    · cases h
  case eql => cases h; exact ⟨_, by simp only [binOp, Op.stringOp, e1]; rfl, .bool⟩
  case neq => cases h; exact ⟨_, by simp only [binOp, Op.stringOp, e1]; rfl, .bool⟩
  case lss => cases h; exact ⟨_, by simp only [binOp, Op.stringOp, e2']; rfl, .bool⟩
  case leq => cases h; exact ⟨_, by simp only [binOp, Op.stringOp, e1, e2']; rfl, .bool⟩
  case gtr => cases h; exact ⟨_, by simp only [binOp, Op.stringOp, e1, e2']; rfl, .bool⟩
  case geq => cases h; exact ⟨_, by simp only [binOp, Op.stringOp, e2']; rfl, .bool⟩
  all_goals cases h
end
end Go.Proofs.YtajoogahcgbohaaGreatA
