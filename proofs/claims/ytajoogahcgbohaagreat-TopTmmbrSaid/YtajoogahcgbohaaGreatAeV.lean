/- An abstract evaluator, part V: a region whose order is drawn. -/
import Derived.Test.YtajoogahcgbohaaGreatAeU
set_option linter.unusedVariables false
set_option linter.unusedSimpArgs false
namespace Go.Proofs.YtajoogahcgbohaaGreatA
open Go.RowKit

/-! ### What an operation looks at -/
theorem XO.congr {T T' : Tm} {x : XO} (h : ∀ t ∈ x.tmps, T.get t = T'.get t) : x.ev T = x.ev T' := by
  cases x with
  | t i => exact h i (by simp [XO.tmps])
  | c v => rfl
theorem args_congr {T T' : Tm} : ∀ {l : List XO}, (∀ t ∈ tmpsL l, T.get t = T'.get t) → evArgs T l = evArgs T' l
  | [], _ => rfl
  | x :: r, h => by
    simp only [evArgs, XO.congr (x := x) (fun t ht => h t (List.mem_append_left _ ht)), args_congr (l := r) (fun t ht => h t (List.mem_append_right _ ht))]
theorem parts_congr {T T' : Tm} : ∀ {l : List (Nat × Nat × XO)}, (∀ t ∈ tmpsP l, T.get t = T'.get t) → evParts T l = evParts T' l
  | [], _ => rfl
  | x :: r, h => by
    simp only [evParts, XO.congr (x := x.2.2) (fun t ht => h t (List.mem_append_left _ ht)), parts_congr (l := r) (fun t ht => h t (List.mem_append_right _ ht))]
theorem opt_congr {T T' : Tm} {x : Option XO} (h : ∀ t ∈ tmpsO x, T.get t = T'.get t) : evOpt T x = evOpt T' x := by
  cases x with
  | none => rfl
  | some x => simp only [evOpt, XO.congr (x := x) h]
theorem evOp_congr {T T' : Tm} {op : AOp} (S : St) (h : ∀ t ∈ op.tmps, T.get t = T'.get t) : evOp op T S = evOp op T' S := by
  cases op <;> simp only [AOp.tmps, List.mem_append, or_imp, forall_and] at h <;> simp only [evOp] <;>
    first
      | rfl
      | rw [XO.congr h]
      | rw [args_congr h]
      | rw [parts_congr h]
      | rw [XO.congr h.1, XO.congr h.2]
      | simp only [XO.congr h.1, XO.congr h.2]
      | simp only [XO.congr h.1.1, XO.congr h.1.2, XO.congr h.2]
      | simp only [XO.congr h.1.1, opt_congr h.1.2, opt_congr h.2]
      | simp only [XO.congr h.1.1.1, opt_congr h.1.1.2, opt_congr h.1.2, opt_congr h.2]
theorem callee_congr {T T' : Tm} {op : AOp} (h : ∀ t ∈ op.tmps, T.get t = T'.get t) : callee op T = callee op T' := by
  cases op <;> simp only [AOp.tmps, List.mem_append, or_imp, forall_and] at h <;> simp only [callee] <;>
    first
      | rfl
      | rw [args_congr h]
      | simp only [XO.congr h.1, args_congr h.2]
theorem oper_congr {call : Nat → List AV → St → Option (AV × St)} {T T' : Tm} {o : AOper} (S : St) (h : ∀ t ∈ o.tmps, T.get t = T'.get t) : evOper call o T S = evOper call o T' S := by
  obtain ⟨dst, guard, op⟩ := o
  have hop : ∀ t ∈ op.tmps, T.get t = T'.get t := fun t ht => h t (by cases guard with | none => exact ht | some g => exact List.mem_cons_of_mem _ ht)
  have hw : wanted guard T = wanted guard T' := by
    cases guard with
    | none => rfl
    | some g => simp only [wanted, h g.1 (List.mem_cons_self ..)]
  simp only [evOper, evAny, hw, callee_congr hop, evOp_congr S hop]

/-! ### What turns memory -/
/-- An operation that neither reads memory nor turns it. -/
theorem evOp_light {op : AOp} {T : Tm} (hh : op.heavy = false) (hr : op.reads = false) : ∃ r : Option AV, ∀ S, evOp op T S = r.map fun v => (v, S) := by
  cases op
  case mv x => exact ⟨x.ev T, fun S => rfl⟩
  case pick c a b =>
    simp only [evOp]
    rcases c.ev T with _ | v
    · exact ⟨none, fun _ => rfl⟩
    · cases v with
      | bool t => cases t with | false => exact ⟨b.ev T, fun _ => rfl⟩ | true => exact ⟨a.ev T, fun _ => rfl⟩
      | _ => exact ⟨none, fun _ => rfl⟩
  case build z ps =>
    simp only [evOp]
    refine ⟨(evParts T ps).bind fun ps => (aFill z ps).map .agg, fun S => ?_⟩
    rcases evParts T ps with _ | p
    · rfl
    · simp [Function.comp_def]
  case nilCheck x =>
    simp only [evOp]
    rcases x.ev T with _ | v
    · exact ⟨none, fun _ => rfl⟩
    · cases v with
      | ptr a => cases a with | none => exact ⟨none, fun _ => rfl⟩ | some a => exact ⟨some _, fun _ => rfl⟩
      | iface t v => exact ⟨some _, fun _ => rfl⟩
      | func t v => exact ⟨some _, fun _ => rfl⟩
      | _ => exact ⟨none, fun _ => rfl⟩
  case bin op et x y =>
    simp only [evOp]
    rcases x.ev T with _ | v
    · exact ⟨none, fun _ => rfl⟩
    · rcases y.ev T with _ | u
      · exact ⟨none, fun _ => rfl⟩
      · exact ⟨_, fun _ => rfl⟩
  case un op x =>
    simp only [evOp]
    rcases x.ev T with _ | v
    · exact ⟨none, fun _ => rfl⟩
    · exact ⟨_, fun _ => rfl⟩
  case conv c x =>
    simp only [evOp]
    rcases x.ev T with _ | v
    · exact ⟨none, fun _ => rfl⟩
    · cases c <;> first | (simp [AOp.heavy, AOp.reads] at hh hr; done) | (cases v <;> first | exact ⟨none, fun _ => rfl⟩ | exact ⟨some _, fun _ => rfl⟩ | skip)
  case mkIface t x => 
    simp only [evOp]
    rcases x.ev T with _ | v
    · exact ⟨none, fun _ => rfl⟩
    · exact ⟨some _, fun _ => rfl⟩
  case mkFunc f xs =>
    simp only [evOp]
    rcases evArgs T xs with _ | v
    · exact ⟨none, fun _ => rfl⟩
    · exact ⟨some _, fun _ => rfl⟩
  case cutStr x lo hi =>
    simp only [evOp]
    rcases x.ev T with _ | v
    · exact ⟨none, fun _ => rfl⟩
    · rcases evOpt T lo with _ | l
      · exact ⟨none, fun _ => rfl⟩
      · rcases evOpt T hi with _ | h
        · exact ⟨none, fun _ => rfl⟩
        · exact ⟨_, fun _ => rfl⟩
  case cut e x lo hi m =>
    simp only [evOp]
    rcases x.ev T with _ | v
    · exact ⟨none, fun _ => rfl⟩
    · rcases evOpt T lo with _ | l
      · exact ⟨none, fun _ => rfl⟩
      · rcases evOpt T hi with _ | h
        · exact ⟨none, fun _ => rfl⟩
        · rcases evOpt T m with _ | m
          · exact ⟨none, fun _ => rfl⟩
          · exact ⟨_, fun _ => rfl⟩
  case fieldAddr o n x =>
    simp only [evOp]
    rcases x.ev T with _ | v
    · exact ⟨none, fun _ => rfl⟩
    · cases v with
      | ptr a => cases a with
        | none => exact ⟨none, fun _ => rfl⟩
        | some p =>
          dsimp only [Option.bind_some]
          cases Nat.ble (o + n) p.n && Nat.ble 1 n
          · exact ⟨none, fun _ => rfl⟩
          · exact ⟨some _, fun _ => rfl⟩
      | _ => exact ⟨none, fun _ => rfl⟩
  case field1 o x =>
    simp only [evOp]
    rcases x.ev T with _ | v
    · exact ⟨none, fun _ => rfl⟩
    · cases v with
      | agg cs => exact ⟨_, fun _ => rfl⟩
      | _ => exact ⟨none, fun _ => rfl⟩
  case fieldN o n x =>
    simp only [evOp]
    rcases x.ev T with _ | v
    · exact ⟨none, fun _ => rfl⟩
    · cases v with
      | agg cs => 
        dsimp only [Option.bind_some]
        by_cases h : o + n ≤ cs.length
        · simp only [h, if_true]; exact ⟨some _, fun _ => rfl⟩
        · simp only [h, if_false]; exact ⟨none, fun _ => rfl⟩
      | _ => exact ⟨none, fun _ => rfl⟩
  case ixSlice e x i =>
    simp only [evOp]
    rcases x.ev T with _ | v
    · exact ⟨none, fun _ => rfl⟩
    · cases v with
      | slice p len e' cl =>
        cases p with
        | none => exact ⟨none, fun _ => rfl⟩
        | some p =>
          dsimp only [Option.bind_some]
          by_cases h : e' = e
          · simp only [h, if_true]
            rcases i.ev T with _ | k
            · exact ⟨none, fun _ => rfl⟩
            · dsimp only [Option.bind_some]
              rcases ixOf k len with _ | k
              · exact ⟨none, fun _ => rfl⟩
              · exact ⟨some _, fun _ => rfl⟩
          · simp only [h, if_false]; exact ⟨none, fun _ => rfl⟩
      | _ => exact ⟨none, fun _ => rfl⟩
  case ixArr len e x i =>
    simp only [evOp]
    rcases x.ev T with _ | v
    · exact ⟨none, fun _ => rfl⟩
    · cases v with
      | ptr p =>
        cases p with
        | none => exact ⟨none, fun _ => rfl⟩
        | some p =>
          dsimp only [Option.bind_some]
          rcases i.ev T with _ | k
          · exact ⟨none, fun _ => rfl⟩
          · dsimp only [Option.bind_some]
            rcases ixOf k len with _ | k
            · exact ⟨none, fun _ => rfl⟩
            · dsimp only [Option.bind_some]
              cases Nat.ble (len * e) p.n
              · exact ⟨none, fun _ => rfl⟩
              · exact ⟨some _, fun _ => rfl⟩
      | _ => exact ⟨none, fun _ => rfl⟩
  case ixStr x i =>
    simp only [evOp]
    rcases x.ev T with _ | v
    · exact ⟨none, fun _ => rfl⟩
    · cases v with
      | str s =>
        dsimp only [Option.bind_some]
        rcases i.ev T with _ | k
        · exact ⟨none, fun _ => rfl⟩
        · dsimp only [Option.bind_some]
          rcases ixOf k s.length with _ | k
          · exact ⟨none, fun _ => rfl⟩
          · dsimp only [Option.bind_some]
            rcases s[k]? with _ | b
            · exact ⟨none, fun _ => rfl⟩
            · exact ⟨some _, fun _ => rfl⟩
      | _ => exact ⟨none, fun _ => rfl⟩
  case ixAgg1 len x i =>
    simp only [evOp]
    rcases x.ev T with _ | v
    · exact ⟨none, fun _ => rfl⟩
    · cases v with
      | agg s =>
        dsimp only [Option.bind_some]
        rcases i.ev T with _ | k
        · exact ⟨none, fun _ => rfl⟩
        · dsimp only [Option.bind_some]
          rcases ixOf k len with _ | k
          · exact ⟨none, fun _ => rfl⟩
          · exact ⟨_, fun _ => rfl⟩
      | _ => exact ⟨none, fun _ => rfl⟩
  case ixAggN len e x i =>
    simp only [evOp]
    rcases x.ev T with _ | v
    · exact ⟨none, fun _ => rfl⟩
    · cases v with
      | agg s =>
        dsimp only [Option.bind_some]
        rcases i.ev T with _ | k
        · exact ⟨none, fun _ => rfl⟩
        · dsimp only [Option.bind_some]
          rcases ixOf k len with _ | k
          · exact ⟨none, fun _ => rfl⟩
          · dsimp only [Option.bind_some]
            by_cases h : k * e + e ≤ s.length
            · simp only [h, if_true]; exact ⟨some _, fun _ => rfl⟩
            · simp only [h, if_false]; exact ⟨none, fun _ => rfl⟩
      | _ => exact ⟨none, fun _ => rfl⟩
  case assert t z ok x =>
    simp only [evOp]
    rcases x.ev T with _ | v
    · exact ⟨none, fun _ => rfl⟩
    · exact ⟨_, fun _ => rfl⟩
  case assertI y n ok x =>
    simp only [evOp]
    rcases x.ev T with _ | v
    · exact ⟨none, fun _ => rfl⟩
    · exact ⟨_, fun _ => rfl⟩
  case extract i x =>
    simp only [evOp]
    rcases x.ev T with _ | v
    · exact ⟨none, fun _ => rfl⟩
    · cases v with
      | tuple vs => exact ⟨_, fun _ => rfl⟩
      | _ => exact ⟨none, fun _ => rfl⟩
  case len x =>
    simp only [evOp]
    rcases x.ev T with _ | v
    · exact ⟨none, fun _ => rfl⟩
    · cases v with
      | slice a n e c =>
        dsimp only [Option.bind_some]
        by_cases h : n ≤ 9223372036854775807
        · simp only [h, if_true]; exact ⟨some _, fun _ => rfl⟩
        · simp only [h, if_false]; exact ⟨none, fun _ => rfl⟩
      | _ => exact ⟨none, fun _ => rfl⟩
  case lenS x =>
    simp only [evOp]
    rcases x.ev T with _ | v
    · exact ⟨none, fun _ => rfl⟩
    · cases v with
      | str s =>
        dsimp only [Option.bind_some]
        by_cases h : s.length ≤ 9223372036854775807
        · simp only [h, if_true]; exact ⟨some _, fun _ => rfl⟩
        · simp only [h, if_false]; exact ⟨none, fun _ => rfl⟩
      | _ => exact ⟨none, fun _ => rfl⟩
  case lenArr n => exact ⟨some _, fun _ => rfl⟩
  case mx xs =>
    simp only [evOp]
    rcases evArgs T xs with _ | v
    · exact ⟨none, fun _ => rfl⟩
    · exact ⟨_, fun _ => rfl⟩
  case mn xs =>
    simp only [evOp]
    rcases evArgs T xs with _ | v
    · exact ⟨none, fun _ => rfl⟩
    · exact ⟨_, fun _ => rfl⟩
  case cap x =>
    simp only [evOp]
    rcases x.ev T with _ | v
    · exact ⟨none, fun _ => rfl⟩
    · cases v with
      | slice a n e c =>
        dsimp only [Option.bind_some]
        cases a with
        | none => exact ⟨some _, fun _ => rfl⟩
        | some a => cases c with
          | none => exact ⟨none, fun _ => rfl⟩
          | some c =>
            dsimp only
            by_cases h : c ≤ 9223372036854775807
            · simp only [h, if_true]; exact ⟨some _, fun _ => rfl⟩
            · simp only [h, if_false]; exact ⟨none, fun _ => rfl⟩
      | _ => exact ⟨none, fun _ => rfl⟩
  case stop => exact ⟨none, fun _ => rfl⟩
  all_goals simp [AOp.heavy, AOp.reads] at hh hr
theorem evOp_keeps {op : AOp} {T : Tm} {S S' : St} {v : AV} (hh : op.heavy = false) (he : evOp op T S = some (v, S')) : S' = S := by
  cases hr : op.reads with
  | false =>
    obtain ⟨r, h⟩ := evOp_light (T := T) hh hr
    rw [h] at he
    cases r with
    | none => cases he
    | some r => cases he; rfl
  | true =>
    cases op <;> first
      | (simp [AOp.reads] at hr; done)
      | (simp only [evOp, Option.bind_eq_some_iff] at he; obtain ⟨u, hu, he⟩ := he)
    case load1 x =>
      cases u with
      | ptr p =>
        cases p with
        | none => cases he
        | some p =>
          simp only [Option.bind_eq_some_iff] at he
          obtain ⟨l, hl, he⟩ := he
          cases hb : Nat.ble 1 p.n
          · rw [hb] at he; cases he
          · rw [hb] at he
            simp only [cond_true, Option.map_eq_some_iff, Prod.mk.injEq] at he
            obtain ⟨_, _, _, rfl⟩ := he
            rfl
      | _ => cases he
    case loadN n x =>
      cases u with
      | ptr p =>
        cases p with
        | none => cases he
        | some p =>
          dsimp only at he
          cases hb : Nat.ble n p.n
          · rw [hb] at he; cases he
          · rw [hb] at he
            simp only [cond_true, Option.map_eq_some_iff, Prod.mk.injEq] at he
            obtain ⟨_, _, _, rfl⟩ := he
            rfl
      | _ => cases he
    case cutArr n esz x lo hi =>
      cases u with
      | ptr p =>
        cases p with
        | none => cases he
        | some p =>
          dsimp only at he
          cases hb : Nat.ble (n * esz) p.n
          · rw [hb] at he; cases he
          · rw [hb] at he
            simp only [cond_true, Option.bind_eq_some_iff, Option.map_eq_some_iff, Prod.mk.injEq] at he
            obtain ⟨_, _, _, _, _, _, _, _, _, _, _, rfl⟩ := he
            rfl
      | _ => cases he
    case conv c x =>
      unfold aConv at he
      split at he
      · cases he; rfl
      · cases he; rfl
      · cases he; rfl
      · simp [AOp.heavy] at hh
      · simp [AOp.heavy] at hh
      · cases he; rfl
      · simp only [Option.bind_eq_some_iff, Option.map_eq_some_iff, Prod.mk.injEq] at he
        obtain ⟨_, _, _, _, _, rfl⟩ := he
        rfl
      · cases he; rfl
      · simp only [Option.bind_eq_some_iff, Option.map_eq_some_iff, Prod.mk.injEq] at he
        obtain ⟨_, _, _, _, _, rfl⟩ := he
        rfl
      · simp [AOp.heavy] at hh
      · cases he
theorem calls_heavy {op : AOp} (h : op.heavy = false) : op.calls = false := by cases op <;> first | rfl | (simp [AOp.heavy] at h)
theorem oper_keeps {call : Nat → List AV → St → Option (AV × St)} {o : AOper} {T : Tm} {S S' : St} {v : AV} (hh : o.op.heavy = false) (he : evOper call o T S = some (v, S')) : S' = S := by
  simp only [evOper, Option.bind_eq_some_iff] at he
  obtain ⟨w, hw, he⟩ := he
  cases w with
  | false => cases he; rfl
  | true =>
    simp only [cond_true, evAny, calls_heavy hh, cond_false] at he
    exact evOp_keeps hh he
theorem oper_light {call : Nat → List AV → St → Option (AV × St)} {o : AOper} {T : Tm} {S S' : St} {v : AV} (hh : o.op.heavy = false) (hr : o.op.reads = false) (he : evOper call o T S = some (v, S')) (S2 : St) :
    evOper call o T S2 = some (v, S2) := by
  simp only [evOper, Option.bind_eq_some_iff] at he ⊢
  obtain ⟨w, hw, he⟩ := he
  refine ⟨w, hw, ?_⟩
  cases w with
  | false => cases he; rfl
  | true =>
    simp only [cond_true, evAny, calls_heavy hh, cond_false] at he ⊢
    obtain ⟨r, h⟩ := evOp_light (T := T) hh hr
    rw [h] at he ⊢
    cases r with
    | none => cases he
    | some r => cases he; rfl
theorem eqStr_eq : ∀ {a b : List Nat}, eqStr a b = true → a = b
  | [], [], _ => rfl
  | [], _ :: _, h => by simp [eqStr] at h
  | _ :: _, [], h => by simp [eqStr] at h
  | a :: x, b :: y, h => by
    simp only [eqStr, Bool.and_eq_true, Nat.beq_eq] at h
    rw [h.1, eqStr_eq h.2]
theorem sameA_eq {a b : AV} (h : sameA a b = true) : a = b := by
  unfold sameA at h
  split at h
  · simp only [Bool.and_eq_true, decide_eq_true_eq] at h; rw [h.1, h.2]
  · simp only [beq_iff_eq] at h; rw [h]
  · rw [eqStr_eq h]
  · simp only [decide_eq_true_eq] at h; rw [h]
  · simp only [Bool.and_eq_true, decide_eq_true_eq, Nat.beq_eq] at h; rw [h.1.1.1, h.1.1.2, h.1.2, h.2]
  · rfl
  · rfl
  · rfl
  · cases h
theorem sameL_eq : ∀ {a b : List AV}, sameL a b = true → a = b
  | [], [], _ => rfl
  | [], _ :: _, h => by simp [sameL] at h
  | _ :: _, [], h => by simp [sameL] at h
  | a :: x, b :: y, h => by
    simp only [sameL, Bool.and_eq_true] at h
    rw [sameA_eq h.1, sameL_eq h.2]
theorem sameV_eq {a b : AV} (h : sameV a b = true) : a = b := by
  unfold sameV at h
  split at h
  · rw [sameL_eq h]
  · exact sameA_eq h
theorem again_eq {call : Nat → List AV → St → Option (AV × St)} {o : AOper} {T : Tm} {S : St} {v : AV} (hr : o.op.heavy = false) (h : again o T v S = true) : evOper call o T S = some (v, S) := by
  unfold again at h
  split at h
  · rename_i u S' he
    cases sameV_eq h
    have := oper_keeps hr he
    subst this
    rw [← he]
    simp only [evOper, evAny, calls_heavy hr, cond_false]
  · cases h
end Go.Proofs.YtajoogahcgbohaaGreatA
