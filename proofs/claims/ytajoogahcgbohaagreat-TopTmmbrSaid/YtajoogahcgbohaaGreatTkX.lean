/- Top: awake() as a summary; a code in front of which numbers stand that the kernel does not know. -/
import Derived.Test.YtajoogahcgbohaaGreatAeS1
import Derived.Test.YtajoogahcgbohaaGreatMzZ
set_option linter.unusedVariables false
set_option maxRecDepth 100000
namespace Go.Proofs.YtajoogahcgbohaaGreatA
open Go.RowKit

def XT : Nat → List AV → Option AV := addX X0 13 (sN0 (.bool true))
theorem awake_con : Con Tryz.prog 13 [] S0 (.bool true) (stOf Mz_o0 Mz_e0.m) := Mz_t0.2
theorem okT : XOk Tryz.prog XT := by
  intro f args v h
  unfold XT addX at h
  by_cases hf : f = 13
  · rw [if_pos hf] at h
    subst hf
    cases args with
    | nil => cases h; exact ⟨Mz_t0.1, con_pure rfl rfl awake_con⟩
    | cons a r => cases h
  · rw [if_neg hf] at h; cases h
theorem baseT : CallOk Tryz.prog (evFK XT AP 300) := base_ok mixed okT apOk 300
/-! ### A code in parts -/
def preC : Nat → AC → AC
  | 0, _ => .skip
  | m + 1, .seq a b => .seq a (preC m b)
  | _ + 1, c => c
def sufC : Nat → AC → AC
  | 0, c => c
  | m + 1, .seq _ b => sufC m b
  | _ + 1, _ => .skip
theorem ev_split (call : Cal) (k : Nat) : ∀ (m : Nat) (c : AC) (T T' : Tm) (S S' : St), evC call k (preC m c) T S = some (.normal, T', S') → evC call k c T S = evC call k (sufC m c) T' S'
  | 0, c, T, T', S, S', h => by cases h; rfl
  | m + 1, c, T, T', S, S', h => by
    cases c with
    | seq a b =>
      replace h : ((evC call k a T S).bind fun r => match r with
        | (.normal, T', S') => evC call k (preC m b) T' S'
        | r => some r) = some (.normal, T', S') := h
      show ((evC call k a T S).bind fun r => match r with
        | (.normal, T', S') => evC call k b T' S'
        | r => some r) = evC call k (sufC m b) T' S'
      cases ha : evC call k a T S with
      | none => rw [ha] at h; cases h
      | some r =>
        obtain ⟨e, T1, S1⟩ := r
        rw [ha] at h
        cases e with
        | normal => exact ev_split call k m b T1 T' S1 S' h
        | exit i => cases h
        | ret => cases h
    | _ => exact h
noncomputable def tmR (r : RC) : Tm := match r with
  | some (_, T, _) => T
  | none => .lf
noncomputable def stR (r : RC) : St := match r with
  | some (_, _, S) => S
  | none => S0
noncomputable def nrmR (r : RC) : Bool := match r with
  | some (.normal, _, _) => true
  | _ => false
theorem seg {call : Cal} {k : Nat} {c : AC} {T : Tm} {S : St} (h : nrmR (evCK call k c T S) = true) : evC call k c T S = some (.normal, tmR (evCK call k c T S), stR (evCK call k c T S)) := by
  rw [← evCK_eq]
  cases hr : evCK call k c T S with
  | none => rw [hr] at h; cases h
  | some r =>
    obtain ⟨e, T', S'⟩ := r
    cases e with
    | normal => rfl
    | exit i => rw [hr] at h; cases h
    | ret => rw [hr] at h; cases h
noncomputable def rootChk (rs : List RV) (w : AV) (r : RC) : Bool := match r with
  | some r => match fin rs r with
    | some (v, _) => eqV v w
    | none => false
  | none => false
theorem con_fin {P : Program} (hm : P.follows .mixedOrders = true) {call : Cal} (hc : CallOk P call) {AP : Nat → Option AFunc} (hAP : APOk P AP) {k f : Nat} {af : AFunc} (haf : AP f = some af) {args : List AV} (hle : Nat.ble args.length af.ntmps = true) {S S1 : St} {T1 : Tm} {c : AC} {w : AV}
    (h1 : evC call k af.body (setArgs args 0 .lf) S = evC call k c T1 S1) (h : rootChk af.results w (evCK call k c T1 S1) = true) : EntryOk P f ∧ ∃ S2, Con P f args S w S2 := by
  rw [evCK_eq] at h
  cases hr : evC call k c T1 S1 with
  | none => rw [hr] at h; cases h
  | some r =>
    rw [hr] at h
    replace h : (match fin af.results r with
      | some (v, _) => eqV v w
      | none => false) = true := h
    cases hf : fin af.results r with
    | none => rw [hf] at h; cases h
    | some q =>
      obtain ⟨v, S2⟩ := q
      rw [hf] at h
      replace h : eqV v w = true := h
      have he : evBK call k af args S = some (v, S2) := by
        unfold evBK
        rw [hle]
        show Option.casesOn (motive := fun _ => Res) (evCK call k af.body (setArgsK args 0 .lf) S) none (fin af.results) = _
        rw [ob, evCK_eq, setArgsK_eq, h1, hr]
        exact hf
      obtain ⟨h3, h4⟩ := con_step hm hc hAP haf he
      exact ⟨h3, S2, eqV_eq h ▸ h4⟩
end Go.Proofs.YtajoogahcgbohaaGreatA
