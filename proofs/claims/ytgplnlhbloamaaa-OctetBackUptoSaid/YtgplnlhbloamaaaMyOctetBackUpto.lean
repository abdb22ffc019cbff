/- The law OctetBack holds of the given program: for every input of bulk at most 1048576. -/
import Derived.Test.YtgplnlhbloamaaaRows
import Derived.Test.YtgplnlhbloamaaaOcH
import Derived.WalkKit
import Derived.ProofKit
import Derived.OpenShut
import Derived.ShutString
import Derived.ChangeOld
import Derived.Below
import Derived.SizedLaws
import Derived.Carry
import Derived.Deep.CondSized
namespace Go.Proofs.Ytgplnlhbloamaaa.octetBackUpto
open Go.ChangeShapes Go.WideShapes Go.ChangeAt Go.RowKit
open Go.Proofs.YtgplnlhbloamaaaA
open Go.ChangeMaps (open_string shut_string)
set_option linter.unusedVariables false
theorem own : ownKnob Try.prog.godebug = none := by kernel_rfl
theorem laid : laidOutB Try.prog = true := by kernel_rfl
/-- A reading is of some bulk. -/
theorem bulk_pos {H : Type} (d : DataW H) : 1 ≤ Rows.uptoBulk d := by
  cases d with
  | lit x => cases x <;> simp [Rows.uptoBulk]
  | _ => simp [Rows.uptoBulk]
theorem bulk_len {H : Type} : ∀ l : List (DataW H), l.length ≤ Rows.uptoBulkAll l
  | [] => Nat.le_refl _
  | d :: l => by
    have h1 := bulk_pos d
    have h2 := bulk_len l
    simp only [Rows.uptoBulkAll, List.length_cons]
    omega
/-- An argument's length is at most its bulk. -/
theorem arg_bulk {H : Type} {enc : TypeId × Value → H} {P : Program} {w : World} {held : Bool} {ρ : Rho} {s : Option (Nat × Nat × Nat)} {len esz : Nat} {v : Value} (vr : VR ρ (.slice s len esz none) v)
    {t e : TypeId} (ht : P.underlying t = some (.slice e)) {d : DataW H} {ps : List MemPlace} (hd : DataW.Trod enc P w 0 (fun _ => true) held t v d ps) : len ≤ Rows.uptoBulk d := by
  obtain ⟨fuel, hf⟩ := hd
  have key : ∀ (a : Option Addr) (cap : Nat), v = .slice a len cap → len ≤ Rows.uptoBulk d := by
    rintro a cap rfl
    rcases Go.Deep.open_slice ht hf with ⟨hcs, _⟩ | ⟨a', len', cap', m, fu, D, Pl, hcs, _, hl, hm, hmm, hx, _⟩
    · simp [Value.cells] at hcs
      obtain ⟨_, rfl, _⟩ := hcs
      simp
    · simp [Value.cells] at hcs
      obtain ⟨rfl, rfl, rfl⟩ := hcs
      simp only [Prod.mk.injEq] at hx
      obtain ⟨rfl, _⟩ := hx
      have h := bulk_len ((List.range len).map D)
      simp only [List.length_map, List.length_range] at h
      simp only [Rows.uptoBulk]
      omega
  cases vr with
  | sliceNil => exact key _ _ rfl
  | slice => exact key _ _ rfl
set_option maxRecDepth 100000 in
theorem lifted (os : Os) (started : os.Started) (H : Type) (enc : TypeId × Value → H) (F : Stop.Interp) :
    ReturnsInHanded {} Try.checked os 5 .any ((Rows.OpenSpec.upto Rows.octetBackSpec).pre6 enc Try.prog Try.f5 Rows.octetBackUptoRow.domain false) (((Rows.OpenSpec.upto Rows.octetBackSpec).at F).post enc Try.prog Try.f5 false true false false) := by
  refine returnsInHanded_of_cond_sized (C := Try.checked) (s := Rows.OpenSpec.upto Rows.octetBackSpec) (k := Rows.uptoSmall) rfl own started (by kernel_rfl) Try.func5
    (OpenSpec.witness (enc := enc) (C := Try.checked) (s := Rows.OpenSpec.upto Rows.octetBackSpec) (k := Rows.uptoSmall) rfl false ⟨#[], #[.slice none 0 0, .int .u64 0, .int .i64 0, .slice none 0 0], []⟩ 8 (by kernel_rfl) (by kernel_rfl) (by kernel_rfl) (x := ([.nil, .lit (.int .u64 0), .lit (.int .i64 0), .nil], [], [])) (by kernel_rfl) (by kernel_rfl) (by kernel_rfl)) ?_
  intro W base args ds gs before hval0 hW hcnd hkk hsz0 _
  have hsz : (DataW.weightsEach Try.prog (Try.f5.params.toList ++ (Rows.OpenSpec.upto Rows.octetBackSpec).bare.plain.varTypes Try.prog) (ds ++ gs)).all (· ≤ reachBytes) = true := hsz0
  have hval : ∀ (j : Nat) t v, Try.f5.params[j]? = some t → args[j]? = some v → Value.okWide Try.prog W .any base t v := hval0
  have hW' := hW
  obtain ⟨p, q, hA0, hV, rfl, hfz, hnd⟩ := hW
  have hA : DataW.TrodAll enc Try.prog W 0 (fun _ => true) true Try.f5.params.toList args.toList ds p := hA0
  rw [Try.params5] at hA hval hsz
  obtain ⟨v0, vs0, d0, ds0, p0, q0, hargs, rfl, rfl, h0, r0⟩ := trodAll_cons hA
  obtain ⟨v1, vs1, d1, ds1, p1, q1, rfl, rfl, rfl, h1, r1⟩ := trodAll_cons r0
  obtain ⟨v2, vs2, d2, ds2, p2, q2, rfl, rfl, rfl, h2, r2⟩ := trodAll_cons r1
  obtain ⟨v3, vs3, d3, ds3, p3, q3, rfl, rfl, rfl, h3, r3⟩ := trodAll_cons r2
  obtain ⟨rfl, rfl, rfl⟩ := trodAll_nil r3
  obtain rfl : args = #[v0, v1, v2, v3] := by cases args; simp_all
  obtain ⟨rfl, rfl⟩ := trodVars_none hV
  have hbulk := of_decide_eq_true hkk
  simp only [Rows.uptoBulkAll, List.append_nil] at hbulk
  have sim : Sim W.heap.size W ρ0 S0 W := sim0 W
  simp only [List.append_nil] at hW'
  have h0k := h0
  have hlt0 : ∀ x ∈ p0, x.block < W.heap.size := fun x hx => hW'.lt x (by simp [hx])
  obtain ⟨s0, len0, xs0, ρ0, le0, sim0, vr0, arg0⟩ := Sim.argSl sim rfl (ks := [.int .u8]) 9 Try.underlying22 (by kernel_rfl) (by kernel_rfl) (by decide) (hval 0 22 v0 rfl rfl) h0
  have room0 : len0 ≤ 1048576 := Nat.le_trans (arg_bulk vr0 Try.underlying22 h0k) (by omega)
  obtain ⟨a1, rfl, rfl, rfl, w1⟩ := open_int Try.underlying24 (hval 1 24 v1 rfl rfl) h1
  obtain ⟨a2, rfl, rfl, rfl, w2⟩ := open_int Try.underlying3 (hval 2 3 v2 rfl rfl) h2
  have h3k := h3
  have hlt3 : ∀ x ∈ p3, x.block < W.heap.size := fun x hx => hW'.lt x (by simp [hx])
  obtain ⟨s3, len3, xs3, ρ3, le3, sim3, vr3, arg3⟩ := Sim.argSl sim0 rfl (ks := [.int .u8]) 9 Try.underlying22 (by kernel_rfl) (by kernel_rfl) (by decide) (hval 3 22 v3 rfl rfl) h3
  have room3 : len3 ≤ 1048576 := Nat.le_trans (arg_bulk vr3 Try.underlying22 h3k) (by omega)
  clear hA0 hval0 hsz0 hsz
  refine (call_true_ex mixed (X0_ok _) apOk (law5 arg0 room0 w1 w2 arg3 room3) sim3 (cs := [v0, .int .u64 a1, .int .i64 a2, v3]) (.cons (VR.mono le3 vr0) (.cons (.int w1) (.cons (.int w2) (.cons vr3 .nil))))).mono fun e W' ⟨he, bel⟩ => ?_
  subst he
  exact ⟨_, rfl, _, _, _, _, _, [], hW', trodAll_mk1 (p := []) (shut_bool Try.underlying4 _), (trodAll_cons_mk (Below.trod laid (by kernel_rfl) (of_decide_eq_true (by kernel_rfl)) h0k bel hlt0) (trodAll_cons_mk (shut_int Try.underlying24 w1) (trodAll_cons_mk (shut_int Try.underlying3 w2) (trodAll_cons_mk (Below.trod laid (by kernel_rfl) (of_decide_eq_true (by kernel_rfl)) h3k bel hlt3) trodAll_mk0)))), rfl, bel.frame _, fun h => by cases h⟩
theorem over : Rows.octetBackUptoRow.holds Try.pinned (Rows.OpenSpec.upto Rows.octetBackSpec) :=
  OpenClaim.holds_of_cond 5 Try.f5 rfl rfl rfl rfl rfl rfl rfl ⟨rfl, rfl, rfl, rfl, rfl⟩ rfl rfl rfl rfl rfl (by kernel_rfl) Try.func5 (by kernel_rfl)
    (of_decide_eq_true (by kernel_rfl)) (by unfold Func.isWrapper; first | (rw [if_pos (by decide +kernel)]; kernel_rfl) | (rw [if_neg (by decide +kernel)]; exact ⟨rfl, rfl⟩))
    (fun os started H enc _ F => lifted os started H enc F)
theorem proved : Rows.OctetBackUptoSaid := over
#print axioms proved
end Go.Proofs.Ytgplnlhbloamaaa.octetBackUpto
namespace Go.Proofs.Ytgplnlhbloamaaa
/-- The row, under a short name, for the claim. -/
theorem octetBackUpto_holds : Rows.OctetBackUptoSaid := octetBackUpto.proved
end Go.Proofs.Ytgplnlhbloamaaa
