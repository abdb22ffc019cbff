/- Numbers that are not known, part M: what is known of calls; a function whose first part is closed, and whose rest has lines. -/
import Derived.Test.YtdppfdpmpekpnaaGreatSyE
import Derived.Test.YtdppfdpmpekpnaaGreatAeNum
import Derived.Test.YtdppfdpmpekpnaaGreatTkX
set_option linter.unusedVariables false
set_option linter.unusedSimpArgs false
set_option maxRecDepth 10000
namespace Go.Proofs.YtdppfdpmpekpnaaGreatA
open Go.RowKit
attribute [local congr] bind_congr1 map_congr1 cond_congr1 withX_congr

/-! ### Products of two words -/
theorem and_u64_32 (x : Int) : Go.bits .and .u64 x 4294967295 = x % 4294967296 := and_u64 32 (by decide) x
theorem prod_bd {x y : Int} (hx0 : 0 ≤ x) (hx : x ≤ 4294967295) (hy0 : 0 ≤ y) (hy : y ≤ 4294967295) : 0 ≤ x * y ∧ x * y ≤ 18446744065119617025 :=
  ⟨Int.mul_nonneg hx0 hy0, by have := Int.mul_le_mul hx hy hy0 (by decide); omega⟩
theorem halves (a b : Int) : a * b = (a / 4294967296) * (b / 4294967296) * 18446744073709551616 + (a / 4294967296) * (b % 4294967296) * 4294967296 + (a % 4294967296) * (b / 4294967296) * 4294967296 + (a % 4294967296) * (b % 4294967296) := by
  have ha : a = (a / 4294967296) * 4294967296 + a % 4294967296 := by omega
  have hb : b = (b / 4294967296) * 4294967296 + b % 4294967296 := by omega
  generalize a / 4294967296 = x at *
  generalize a % 4294967296 = y at *
  generalize b / 4294967296 = z at *
  generalize b % 4294967296 = u at *
  subst ha hb
  grind
theorem two_pow_32 : ((2 : Int) ^ min 32 (IntKind.bits .u64)) = 4294967296 := by decide
theorem lt64 {a : Int} (h : (Lit.int .u64 a).wf = true) : 0 ≤ a ∧ a < 18446744073709551616 := by have := wf_u64 h; omega
def wd (a b : Int) : AV := .tuple [.int .u64 (a * b / 18446744073709551616), .int .u64 (a * b % 18446744073709551616)]
theorem evM {a b : Int} (ha : 0 ≤ a) (ha' : a < 18446744073709551616) (hb : 0 ≤ b) (hb' : b < 18446744073709551616) :
    evF XT AP 3 172 [.int .u64 a, .int .u64 b] S0 = some (wd a b, S0) := by
  have h := halves a b
  have p1 := prod_bd (x := a / 4294967296) (y := b / 4294967296) (by omega) (by omega) (by omega) (by omega)
  have p2 := prod_bd (x := a / 4294967296) (y := b % 4294967296) (by omega) (by omega) (by omega) (by omega)
  have p3 := prod_bd (x := a % 4294967296) (y := b / 4294967296) (by omega) (by omega) (by omega) (by omega)
  have p4 := prod_bd (x := a % 4294967296) (y := b % 4294967296) (by omega) (by omega) (by omega) (by omega)
  rw [evF_body (af := af172) rfl rfl rfl]
  simp -implicitDefEqProofs only [af172, evC, evOps, evOper, wanted, evAny, AOp.calls, evOp, XO.ev, XO.lit, setArgs, putD, Tr.get_set, Option.bind_some, Option.map_some, cond_true, cond_false, evArgs, maxI, maxFrom, minI, minFrom, aConv, aBin, aBinE, aEq, eqScal, aUn, aInt, evRes, fin, oneOf, if_true, if_false, callee, evF_eq, withX_some, withX_none, addX, X0, sN0, sN1, sN2, sN3, sN4, reduceCtorEq, Nat.reduceEqDiff, and_self, decide_true, decide_false, beq_true, beq_false, Bool.not_true, Bool.not_false, List.getElem?_cons_zero, List.getElem?_cons_succ, beq_self_eq_true, gt_iff_lt, ble_dec, beq_dec, List.head?_cons, AV.undef, eq_self, ne_eq, not_true_eq_false, not_false_eq_true, Int.reduceLT, Int.reduceLE, Int.reduceToNat, Int.reduceEq, Int.reduceNeg, Nat.reduceAdd, Nat.reduceLT, Nat.reduceLeDiff, Nat.reduceMul, Nat.reduceSub, XT, two_pow_32, and_u64_32, wrap_u64, wd]
  rw [h]
  generalize (a / 4294967296) * (b / 4294967296) = p at *
  generalize (a / 4294967296) * (b % 4294967296) = q at *
  generalize (a % 4294967296) * (b / 4294967296) = r at *
  generalize (a % 4294967296) * (b % 4294967296) = s at *
  rw [Int.emod_eq_of_lt p1.1 (by omega), Int.emod_eq_of_lt p2.1 (by omega), Int.emod_eq_of_lt p3.1 (by omega), Int.emod_eq_of_lt p4.1 (by omega)]
  rw [Int.emod_eq_of_lt (a := q + s / 4294967296) (by omega) (by omega)]
  rw [Int.emod_eq_of_lt (a := (q + s / 4294967296) % 4294967296 + r) (by omega) (by omega)]
  congr 5
  omega
def XF : Nat → List AV → Option AV := addX XT 172 (sN2 .u64 .u64 wd)
theorem okXF : XOk Tryz.prog XF := addX_N2 mixed okT apOk (entry_of apOk (af := af172) rfl) (fun _ _ => rfl) fun a b wa wb => ⟨3, S0, evM (lt64 wa).1 (lt64 wa).2 (lt64 wb).1 (lt64 wb).2⟩
def mulS (s : Sp) (l : List AV) : Option AV :=
  match l with
  | [x, y] => (lnOf x).bind fun a => (lnOf y).bind fun b => match a.k with
    | .u64 => (binL s .mul a b).map fun v => .tuple [.int .u64 0, v]
    | _ => none
  | _ => none
def Xs (s : Sp) (f : Nat) (l : List AV) : Option AV :=
  bif Nat.beq f 17 then (match l with | [] => some (.bool true) | _ => none) else bif Nat.beq f 172 then mulS s l else none
def nX (f : Nat) : Bool := !(Nat.beq f 17) && !(Nat.beq f 172)
theorem mul_g {u : Int} {s : Sp} (hu : s.has u) {x y : Ln} {v : AV} (h : binL s .mul x y = some v) : x.k = y.k ∧ gV u v = .int x.k (x.at u * y.at u) ∧ x.k.min ≤ x.at u * y.at u ∧ x.at u * y.at u ≤ x.k.max := by
  simp only [binL] at h
  split at h
  · rename_i hk
    split at h
    · rename_i hb
      obtain ⟨h1, h2, h3⟩ := mkL_g hu h
      have e : x.at u * y.at u = (⟨x.k, x.a * y.a, x.b * y.a⟩ : Ln).at u := by
        simp only [Ln.at, hb, Int.zero_mul, Int.add_zero, Int.add_mul]
        rw [Int.mul_right_comm]
      rw [e]; exact ⟨hk, h1, h2, h3⟩
    · split at h
      · rename_i _ hb
        obtain ⟨h1, h2, h3⟩ := mkL_g hu h
        have e : x.at u * y.at u = (⟨x.k, x.a * y.a, x.a * y.b⟩ : Ln).at u := by
          simp only [Ln.at, hb, Int.zero_mul, Int.add_zero, Int.mul_add]
          rw [Int.mul_assoc]
        rw [e]; exact ⟨hk, h1, h2, h3⟩
      · cases h
  · cases h
theorem mulS_g {u : Int} {s : Sp} (hu : s.has u) {l : List AV} {v : AV} (h : mulS s l = some v) : sN2 .u64 .u64 wd (l.map (gV u)) = some (gV u v) := by
  unfold mulS at h
  split at h
  · rename_i x y
    obtain ⟨a, ha, h⟩ := Option.bind_eq_some_iff.1 h
    obtain ⟨b, hb, h⟩ := Option.bind_eq_some_iff.1 h
    cases hk : a.k <;> rw [hk] at h <;> first | (cases h; done) | skip
    obtain ⟨w, hw, h⟩ := Option.map_eq_some_iff.1 h
    cases h
    obtain ⟨e1, e2, e3, e4⟩ := mul_g hu hw
    rw [hk] at e1 e2 e3 e4
    have m0 : IntKind.u64.min = 0 := rfl
    have m1 : IntKind.u64.max = 18446744073709551615 := rfl
    rw [m0] at e3
    rw [m1] at e4
    simp only [List.map_cons, List.map_nil, lnOf_g ha, lnOf_g hb, hk, ← e1, g_tuple, g_int, e2, sN2]
    simp only [and_self, if_true]
    unfold wd
    rw [Int.ediv_eq_zero_of_lt e3 (by omega), Int.emod_eq_of_lt e3 (by omega)]
  · cases h
theorem xsF (s : Sp) : XsOk s XF (Xs s) nX := by
  constructor
  · intro f l v h u hu
    unfold Xs at h
    cases hf : Nat.beq f 17 with
    | true =>
      rw [hf] at h
      have := Nat.eq_of_beq_eq_true hf
      subst this
      cases l with
      | nil => cases h; rfl
      | cons a r => cases h
    | false =>
      rw [hf] at h
      cases hm : Nat.beq f 172 with
      | true =>
        rw [hm] at h
        have := Nat.eq_of_beq_eq_true hm
        subst this
        unfold XF addX
        rw [if_pos rfl]
        exact mulS_g hu h
      | false => rw [hm] at h; cases h
  · intro f h l
    unfold nX at h
    simp only [Bool.and_eq_true, Bool.not_eq_true'] at h
    have h1 : ¬ f = 17 := fun e => by subst e; simp at h
    have h2 : ¬ f = 172 := fun e => by subst e; simp at h
    unfold XF XT addX
    rw [if_neg h2, if_neg h1]; rfl
theorem baseF : CallOk Tryz.prog (evFK XF AP 300) := base_ok mixed okXF apOk 300
/-! ### Values without lines -/
def nfA : AO → Bool
  | .cells c _ _ _ | .fork c _ _ _ => AV.nfs c
  | _ => true
def nfOp {α : Type} (p : α → Bool) : Option α → Bool
  | some x => p x
  | none => true
noncomputable def nfTr {α : Type} (p : α → Bool) (t : Tr α) : Bool :=
  Tr.rec (motive := fun _ => Bool) true (fun _ v _ a b => nfOp p v && (a && b)) t
theorem map_id_of {α : Type} (p : α → Bool) (f : α → α) (h : ∀ x, p x = true → f x = x) : ∀ (t : Tr α), nfTr p t = true → t.map f = t
  | .lf, _ => rfl
  | .nd l v r, e => by
    replace e : (nfOp p v && (nfTr p l && nfTr p r)) = true := e
    simp only [Bool.and_eq_true] at e
    simp only [Tr.map, map_id_of p f h l e.2.1, map_id_of p f h r e.2.2]
    cases v with
    | none => rfl
    | some x => simp only [Option.map_some, h x e.1]
theorem nfT_g (u : Int) {T : Tm} (h : nfTr AV.nf T = true) : gT u T = T := map_id_of AV.nf (gV u) (nf_g u) T h
theorem nfA_g (u : Int) (x : AO) (h : nfA x = true) : gO u x = x := by
  cases x <;> first | rfl | (simp only [nfA] at h; simp only [gO, nfl_g u h])
theorem nfS_g (u : Int) {S : St} (h : nfTr nfA S.objs = true) : gS u S = S := by
  unfold gS
  rw [map_id_of nfA (gO u) (nfA_g u) S.objs h]
/-- A call whose rest has lines. -/
theorem con_sym {s : Sp} {u : Int} (hu : s.has u) {f : Nat} {af : AFunc} (haf : AP f = some af) {args : List AV} (hle : Nat.ble args.length af.ntmps = true) {S S1 : St} {T1 : Tm} {c : AC}
    (h1 : evC (evFK XF AP 300) 300 af.body (setArgs args 0 .lf) S = evC (evFK XF AP 300) 300 c (gT u T1) (gS u S1))
    (h : rootChk af.results (.bool true) (evCS s (evFS s (Xs s) nX AP 300) 300 c T1 S1) = true) : EntryOk Tryz.prog f ∧ ∃ S2, Con Tryz.prog f args S (.bool true) S2 := by
  cases hr : evCS s (evFS s (Xs s) nX AP 300) 300 c T1 S1 with
  | none => rw [hr] at h; cases h
  | some r =>
    rw [hr] at h
    replace h : (match fin af.results r with
      | some (v, _) => eqV v (.bool true)
      | none => false) = true := h
    cases hf : fin af.results r with
    | none => rw [hf] at h; cases h
    | some q =>
      obtain ⟨v, S2⟩ := q
      rw [hf] at h
      replace h : eqV v (.bool true) = true := h
      have hv := eqV_eq h
      subst hv
      have hcal : CalG u (evFS s (Xs s) nX AP 300) (evFK XF AP 300) := by rw [evFK_eq]; exact evFS_g (xsF s) AP hu 300
      have hc := ev_c_g hu hcal 300 c T1 S1 r hr
      rw [hc] at h1
      have he : evBK (evFK XF AP 300) 300 af args S = some (.bool true, gS u S2) := by
        unfold evBK
        rw [hle]
        show Option.casesOn (motive := fun _ => Res) (evCK (evFK XF AP 300) 300 af.body (setArgsK args 0 .lf) S) none (fin af.results) = _
        rw [ob, evCK_eq, setArgsK_eq, h1, Option.bind_some]
        have := fin_g (u := u) hf
        simpa using this
      obtain ⟨h3, h4⟩ := con_step mixed baseF apOk haf he
      exact ⟨h3, _, h4⟩
end Go.Proofs.YtdppfdpmpekpnaaGreatA
