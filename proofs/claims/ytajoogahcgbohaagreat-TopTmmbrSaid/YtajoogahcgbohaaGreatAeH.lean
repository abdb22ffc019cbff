/- An abstract evaluator, part H: two-place operations, one-place operations, conversions. -/
import Derived.Test.YtajoogahcgbohaaGreatAeG
set_option linter.unusedVariables false
set_option linter.unusedSimpArgs false
namespace Go.Proofs.YtajoogahcgbohaaGreatA
open Go.RowKit
section
variable {P : Program} {B : Nat} {w0 : Base} {w : World} {ρ : Rho} {S S' : St}
def isConst : Operand → Bool
  | .const _ => true
  | _ => false
theorem guard_ok (op : BinOp) (t : TypeId) (ox oy : Operand) (a b : Value) (w : World) (h1 : a = .nilIface → b = .nilIface → (isConst ox || isConst oy) = true) (h2 : ∀ p q, a = .agg p → b = .agg q → (op = .eql ∨ op = .neq) → P.eqGuardType P.depth t = false) :
    (eqGuard op t ox oy a b).run P w = .ok () w := by
  unfold eqGuard
  cases op <;> first
    | (simp; done)
    | (simp only [Bool.not_true, Bool.false_eq_true, if_false, pure_bind, bind_pure_comp]
       cases a <;> cases b <;> first
        | rfl
        | (rename_i p q; simp [h2 p q rfl rfl (by simp)]; done)
        | (have h := h1 rfl rfl
           cases ox <;> cases oy <;> simp [isConst] at h <;> rfl))
theorem bin_eq_run {x y : AV} {cx cy : Value} (hx : VR ρ x cx) (hy : VR ρ y cy) {et : ET} {lit b : Bool} (t : TypeId) (h : aEq et lit x y = some b) (hnum : ∀ k n k' n', ¬ (x = .int k n ∧ y = .int k' n')) (hstr : ∀ p q, ¬ (x = .str p ∧ y = .str q)) :
    binOp .eql t cx cy = (do pure (.bool (← Op.equal t cx cy))) ∧ binOp .neq t cx cy = (do pure (.bool (!(← Op.equal t cx cy)))) := by
  cases hx <;> cases hy <;> first
    | exact ⟨rfl, rfl⟩
    | exact absurd ⟨rfl, rfl⟩ (hnum _ _ _ _)
    | exact absurd ⟨rfl, rfl⟩ (hstr _ _)
    | (exfalso; cases et <;> simp [aEq, eqScal] at h; done)
theorem bin_sound {op : BinOp} {et : ET} {lit : Bool} {x y r : AV} {cx cy : Value} {ox oy : Operand} {t : TypeId} (hx : VR ρ x cx) (hy : VR ρ y cy) (he : op = .eql ∨ op = .neq → etOf P t = some et)
    (hl : lit = true → cx = .nilIface → cy = .nilIface → (isConst ox || isConst oy) = true) (h : aBin op et lit x y = some r) (w : World) :
    ∃ c, ((do eqGuard op t ox oy cx cy; binOp op t cx cy) : Sem Value).run P w = .ok c w ∧ VR ρ r c := by
  by_cases hnum : ∃ k n k' n', x = .int k n ∧ y = .int k' n'
  · obtain ⟨k, n, k', n', rfl, rfl⟩ := hnum
    cases hx; cases hy
    rename_i hw hw'
    have hg := guard_ok (P := P) op t ox oy (.int k n) (.int k' n') w (fun e => by cases e) (fun p q e => by cases e)
    simp only [aBin] at h
    by_cases h1 : op = .shl
    · subst h1
      simp only at h
      split at h
      · cases h
      · rename_i hb
        cases h
        refine ⟨.int k (k.wrap (n * 2 ^ min n'.toNat k.bits)), ?_, .int (wf_wrap _ _)⟩
        simp only [Sem.run_bind, hg, Result.andThen_ok, binOp, Op.shift, if_neg hb]
        rfl
    · by_cases h2 : op = .shr
      · subst h2
        simp only at h
        split at h
        · cases h
        · rename_i hb
          cases h
          refine ⟨.int k (n / 2 ^ min n'.toNat k.bits), ?_, .int (wf_shr _ hw)⟩
          simp only [Sem.run_bind, hg, Result.andThen_ok, binOp, Op.shift, if_neg hb]
          rw [Int.fdiv_eq_ediv_of_nonneg _ (Int.pow_nonneg (by decide))]
          rfl
      · have h' : (if k = k' then aInt op k n n' else none) = some r := by
          cases op <;> first | exact h | exact absurd rfl h1 | exact absurd rfl h2
        split at h'
        · rename_i hk
          subst hk
          obtain ⟨c, hc, hv⟩ := bin_int (P := P) (w := w) (ρ := ρ) hw t h1 h2 h'
          exact ⟨c, by simp only [Sem.run_bind, hg, Result.andThen_ok, hc], hv⟩
        · cases h'
  · by_cases hstr : ∃ p q, x = .str p ∧ y = .str q
    · obtain ⟨p, q, rfl, rfl⟩ := hstr
      cases hx; cases hy
      rename_i s hs s' hs'
      subst hs hs'
      have hg := guard_ok (P := P) op t ox oy (.string s) (.string s') w (fun e => by cases e) (fun p q e => by cases e)
      obtain ⟨c, hc, hv⟩ := bin_str (P := P) (w := w) (ρ := ρ) t (show aStr op (bytesN s) (bytesN s') = some r from h)
      exact ⟨c, by simp only [Sem.run_bind, hg, Result.andThen_ok, hc], hv⟩
    · have hn1 : ∀ k n k' n', ¬ (x = .int k n ∧ y = .int k' n') := fun k n k' n' e => hnum ⟨k, n, k', n', e⟩
      have hn2 : ∀ p q, ¬ (x = .str p ∧ y = .str q) := fun p q e => hstr ⟨p, q, e⟩
      have h' : aBinE op et lit x y = some r := by
        unfold aBin at h
        split at h
        · exact absurd ⟨rfl, rfl⟩ (hn1 _ _ _ _)
        · exact absurd ⟨rfl, rfl⟩ (hn2 _ _)
        · exact h
      have key : ∀ b, aEq et lit x y = some b → (op = .eql ∨ op = .neq) → (eqGuard op t ox oy cx cy).run P w = .ok () w := by
        intro b hb ho
        refine guard_ok op t ox oy cx cy w (fun e1 e2 => hl ?_ e1 e2) (fun p q e1 e2 _ => ?_)
        · subst e1 e2
          cases hx; cases hy
          cases lit
          · cases et <;> simp [aEq, eqScal] at hb
          · rfl
        · subst e1 e2
          have := he ho
          cases hx; cases hy
          unfold etOf at this
          split at this <;> try (cases this; simp [aEq, eqScal] at hb; done)
          · split at this
            · rename_i hc; exact hc.2
            · cases this
          · split at this
            · rename_i hc; exact hc.2
            · cases this
          · unfold scalT at this
            split at this <;> first | (cases this; simp [aEq, eqScal] at hb; done) | cases this
      by_cases h1 : op = .eql
      · subst h1
        simp only [aBinE, Option.map_eq_some_iff] at h'
        obtain ⟨b, hb, rfl⟩ := h'
        refine ⟨.bool b, ?_, .bool⟩
        simp only [Sem.run_bind, key b hb (.inl rfl), Result.andThen_ok, (bin_eq_run hx hy t hb hn1 hn2).1, eq_sound (he (.inl rfl)) hx hy hb, Sem.run_pure]
      · by_cases h2 : op = .neq
        · subst h2
          simp only [aBinE, Option.map_eq_some_iff] at h'
          obtain ⟨b, hb, rfl⟩ := h'
          refine ⟨.bool (!b), ?_, .bool⟩
          simp only [Sem.run_bind, key b hb (.inr rfl), Result.andThen_ok, (bin_eq_run hx hy t hb hn1 hn2).2, eq_sound (he (.inr rfl)) hx hy hb, Sem.run_pure]
        · exfalso
          cases op <;> first | cases h' | exact h1 rfl | exact h2 rfl
theorem un_sound {op : UnOp} {x r : AV} {cx : Value} (hx : VR ρ x cx) (h : aUn op x = some r) (w : World) : ∃ c, (Op.unary op cx).run P w = .ok c w ∧ VR ρ r c := by
  cases hx <;> cases op <;> simp only [aUn] at h <;> try cases h
  · exact ⟨_, rfl, .int (wf_wrap _ _)⟩
  · exact ⟨_, rfl, .int (wf_wrap _ _)⟩
  · exact ⟨_, rfl, .bool⟩

/-! ### Texts of bytes and runes -/
theorem str_bytes : ∀ (l : List AV) (cs : List Value) (s : List Nat), VRs ρ l cs → strOf l = some s → ∀ (acc : ByteArray),
    ∃ b : ByteArray, bytesN b = bytesN acc ++ s ∧ ∀ (f : Value → ByteArray → Sem (ForInStep ByteArray)), (∀ n r, f (.int .u8 n) r = pure (ForInStep.yield (r.push (UInt8.ofNat n.toNat)))) → ∀ w, (forIn cs acc f).run P w = .ok b w := by
  intro l
  induction l with
  | nil => intro cs s h hs acc; cases h; cases hs; exact ⟨acc, by simp, fun f hf w => rfl⟩
  | cons a l ih =>
    intro cs s h hs acc
    cases h with
    | cons hv ht =>
      simp only [strOf, Option.bind_eq_some_iff, Option.map_eq_some_iff] at hs
      obtain ⟨b, hb, s', hs', rfl⟩ := hs
      cases hv <;> simp only [byteOf] at hb <;> try cases hb
      rename_i k n hw
      cases k <;> simp only [byteOf] at hb <;> try cases hb
      obtain ⟨r, hr, hrun⟩ := ih _ _ ht hs' (acc.push (UInt8.ofNat n.toNat))
      refine ⟨r, ?_, fun f hf w => ?_⟩
      · rw [hr]
        simp [bytesN, UInt8.toNat_ofNat]
      · simp only [List.forIn_cons, Sem.run_bind, hf, Sem.run_pure, Result.andThen_ok, hrun f hf]
theorem str_runes : ∀ (l : List AV) (cs : List Value) (s : List Nat), VRs ρ l cs → strOfR l = some s → ∀ (acc : ByteArray),
    ∃ b : ByteArray, bytesN b = bytesN acc ++ s ∧ ∀ (f : Value → ByteArray → Sem (ForInStep ByteArray)), (∀ n r, f (.int .i32 n) r = pure (ForInStep.yield (r ++ Utf8.encode n))) → ∀ w, (forIn cs acc f).run P w = .ok b w := by
  intro l
  induction l with
  | nil => intro cs s h hs acc; cases h; cases hs; exact ⟨acc, by simp, fun f hf w => rfl⟩
  | cons a l ih =>
    intro cs s h hs acc
    cases h with
    | cons hv ht =>
      simp only [strOfR, Option.bind_eq_some_iff, Option.map_eq_some_iff] at hs
      obtain ⟨b, hb, s', hs', rfl⟩ := hs
      cases hv <;> simp only [runeOf] at hb <;> try cases hb
      rename_i k n hw
      cases k <;> simp only [runeOf] at hb <;> try cases hb
      obtain ⟨r, hr, hrun⟩ := ih _ _ ht hs' (acc ++ Utf8.encode b)
      refine ⟨r, ?_, fun f hf w => ?_⟩
      · rw [hr, bytesN_append, List.append_assoc]; rfl
      · simp only [List.forIn_cons, Sem.run_bind, hf, Sem.run_pure, Result.andThen_ok, hrun f hf]
end
end Go.Proofs.YtajoogahcgbohaaGreatA
