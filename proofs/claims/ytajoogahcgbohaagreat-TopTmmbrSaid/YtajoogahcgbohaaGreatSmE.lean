/- Numbers that are not known, part E: codes and calls. -/
import Derived.Test.YtajoogahcgbohaaGreatSmD
set_option linter.unusedVariables false
set_option linter.unusedSimpArgs false
namespace Go.Proofs.YtajoogahcgbohaaGreatA
open Go.RowKit

noncomputable def fVS {α : Type} (v : AV) (k : AV → α) : α := match v with
  | .float kd n => fN n fun n => k (.float kd n)
  | v => fV v k
theorem fVS_eq {α : Type} (v : AV) (k : AV → α) : fVS v k = k v := by
  cases v
  case float kd n => exact fN_eq n fun n => k (.float kd n)
  all_goals (simp only [fVS]; exact fV_eq _ _)
noncomputable def evOperS (s : Sp) (o : AOper) (call : Cal) (T : Tm) (S : St) : Res :=
  match o.guard with
  | none => evAnyS s o.op call T S
  | some (d, b) => match T.getK d with
    | some (.bool c) => Bool.casesOn (motive := fun _ => Res) (c == b) (some (AV.undef, S)) (evAnyS s o.op call T S)
    | some _ => some (AV.undef, S)
    | none => none
noncomputable def evOpsS (s : Sp) (call : Cal) (l : List AOper) : Tm → St → Option (Tm × St) :=
  List.rec (motive := fun _ => Tm → St → Option (Tm × St)) (fun T S => some (T, S))
    (fun o _ ih T S => Option.casesOn (motive := fun _ => Option (Tm × St)) (evOperS s o call T S) none fun p => fVS p.1 fun v => ih (putDK T o.dst v) p.2) l
abbrev Tra := List (AOper × Tm × St × AV)
noncomputable def traceS (s : Sp) (call : Cal) : List AOper → Tm → St → Option (Tra × Tm × St)
  | [], T, S => some ([], T, S)
  | o :: r, T, S => Option.casesOn (motive := fun _ => Option (Tra × Tm × St)) (evOperS s o call T S) none fun p => fVS p.1 fun v => Option.casesOn (motive := fun _ => Option (Tra × Tm × St)) (traceS s call r (putDK T o.dst v) p.2) none fun q => some ((o, T, S, v) :: q.1, q.2)
def sameAS : AV → AV → Bool
  | .float .f64 a, .float .f64 b => Nat.beq a b
  | a, b => sameA a b
def sameLS : List AV → List AV → Bool
  | [], [] => true
  | a :: x, b :: y => sameAS a b && sameLS x y
  | _, _ => false
def sameVS (x y : AV) : Bool :=
  match x, y with
  | .agg a, .agg b => sameLS a b
  | x, y => sameAS x y
def noCal : Cal := fun _ _ _ => none
noncomputable def againS (s : Sp) (op : AOper) (T : Tm) (v : AV) (S : St) : Bool :=
  match evOperS s op noCal T S with
  | some (w, _) => sameVS w v
  | none => false
noncomputable def chkBS (s : Sp) (o : AOper) (T : Tm) : Bool :=
  (o.tmps.all fun t => match T.get t with | some v => v.pure | none => true) &&
    match evOperS s o noCal T ⟨0, .lf⟩ with
    | some p => (match p.2.get 0 with | some (.cells xs 0 0 true) => AV.pures xs | _ => false)
    | none => false
noncomputable def chkS (s : Sp) (l : Tra) (S : St) (p : Nat × Nat) : Bool :=
  match l[p.1]? with
  | some e => bif e.1.op.birth then chkBS s e.1 e.2.1 else againS s e.1 e.2.1 e.2.2.2 (stAt l S p.2)
  | none => false
noncomputable def evDrawS (s : Sp) (call : Cal) (ops : List AOper) (ps : List (Nat × Nat)) (T : Tm) (S : St) : Option (Tm × St) :=
  (traceS s call ops T S).bind fun q => bif ps.all (chkS s q.1 q.2.2) then some q.2 else none
noncomputable def evCS (s : Sp) (call : Cal) (k : Nat) (c : AC) : Tm → St → RC :=
  AC.rec (motive := fun _ => Tm → St → RC)
    (fun T S => some (.normal, T, S))
    (fun ops T S => Option.casesOn (motive := fun _ => RC) (evOpsS s call ops T S) none fun p => some (.normal, p.1, p.2))
    (fun ops pl T S => Option.casesOn (motive := fun _ => RC) (evDrawS s call ops pl T S) none fun p => some (.normal, p.1, p.2))
    (fun ops pl T S => none)
    (fun _ _ fa fb T S => Option.casesOn (motive := fun _ => RC) (fa T S) none fun r => match r with
      | (.normal, T', S') => fb T' S'
      | r => some r)
    (fun c _ _ fa fb T S => Option.casesOn (motive := fun _ => RC) (evXK T c) none fun v => match v with
      | .bool t => Bool.casesOn (motive := fun _ => RC) t (fb T S) (fa T S)
      | _ => none)
    (fun id _ fb T S => Option.casesOn (motive := fun _ => RC) (fb T S) none fun r => match r with
      | (.exit i, T', S') => Bool.casesOn (motive := fun _ => RC) (Nat.beq i id) (some (.exit i, T', S')) (some (.normal, T', S'))
      | r => some r)
    (fun _ fb => iterK fb k)
    (fun id T S => some (.exit id, T, S))
    (fun T S => some (.ret, T, S)) c
section
variable {u : Asg} {s : Sp} {T T' : Tm} {S S' : St}
theorem putD_g (d : Option Nat) (v : AV) : gT u (putDK T d v) = putD (gT u T) d (gV u v) := by
  rw [putDK_eq]; cases d with
  | none => rfl
  | some d => exact gT_set T d v
theorem oper_g (hu : s.has u) {cS c : Cal} (hc : CalG u cS c) {o : AOper} {v : AV} (h : evOperS s o cS T S = some (v, S')) : evOper c o (gT u T) (gS u S) = some (gV u v, gS u S') := by
  unfold evOperS at h
  unfold evOper wanted
  cases hg : o.guard with
  | none => rw [hg] at h; simp only [Option.bind_some, cond_true]; exact any_g hu hc h
  | some g =>
    obtain ⟨d, b⟩ := g
    rw [hg] at h
    dsimp only at h ⊢
    rw [Tr.getK_eq] at h
    rw [gT_get]
    cases hd : T.get d with
    | none => rw [hd] at h; cases h
    | some x =>
      rw [hd] at h
      have un : ∀ {y : AV}, (some (AV.undef, S) : Res) = some (v, S') → (some (AV.undef, gS u S) : Res) = some (gV u v, gS u S') := by
        intro _ e; cases e; simp [AV.undef]
      cases x with
      | bool t =>
        simp only [Option.map_some, g_bool, Option.bind_some]
        dsimp only at h
        cases hb : (t == b) with
        | false => rw [hb] at h; exact un (y := .nilFunc) h
        | true => rw [hb] at h; exact any_g hu hc h
      | float kd n =>
        cases kd <;> simp only [Option.map_some, g_f32, g_f64, Option.bind_some, cond_false] <;> exact un (y := .nilFunc) h
      | _ =>
        simp only [Option.map_some, g_int, g_str, g_ptr, g_slice, g_func, g_nilFunc, g_iface, g_nilIface, g_agg, g_tuple, g_map, Option.bind_some, cond_false]
        exact un (y := .nilFunc) h
theorem ops_g (hu : s.has u) {cS c : Cal} (hc : CalG u cS c) : ∀ {l : List AOper} {T T' : Tm} {S S' : St}, evOpsS s cS l T S = some (T', S') → evOps c l (gT u T) (gS u S) = some (gT u T', gS u S')
  | [], T, T', S, S', h => by cases h; rfl
  | o :: r, T, T', S, S', h => by
    replace h : Option.casesOn (motive := fun _ => Option (Tm × St)) (evOperS s o cS T S) none (fun p => fVS p.1 fun v => evOpsS s cS r (putDK T o.dst v) p.2) = some (T', S') := h
    rw [ob] at h
    obtain ⟨p, hp, h⟩ := Option.bind_eq_some_iff.1 h
    obtain ⟨v, S1⟩ := p
    rw [fVS_eq] at h
    have := ops_g hu hc h
    rw [putD_g] at this
    simp only [evOps, oper_g hu hc hp, Option.bind_some]
    exact this
def gE (u : Asg) (e : AOper × Tm × St × AV) : AOper × Tm × St × AV := (e.1, gT u e.2.1, gS u e.2.2.1, gV u e.2.2.2)
theorem trace_g (hu : s.has u) {cS c : Cal} (hc : CalG u cS c) : ∀ {l : List AOper} {T T' : Tm} {S S' : St} {q : Tra}, traceS s cS l T S = some (q, T', S') → trace c l (gT u T) (gS u S) = some (q.map (gE u), gT u T', gS u S')
  | [], T, T', S, S', q, h => by cases h; rfl
  | o :: r, T, T', S, S', q, h => by
    replace h : Option.casesOn (motive := fun _ => Option (Tra × Tm × St)) (evOperS s o cS T S) none (fun p => fVS p.1 fun v => Option.casesOn (motive := fun _ => Option (Tra × Tm × St)) (traceS s cS r (putDK T o.dst v) p.2) none fun q => some ((o, T, S, v) :: q.1, q.2)) = some (q, T', S') := h
    rw [ob] at h
    obtain ⟨p, hp, h⟩ := Option.bind_eq_some_iff.1 h
    obtain ⟨v, S1⟩ := p
    rw [fVS_eq, ob] at h
    obtain ⟨q1, hq, h⟩ := Option.bind_eq_some_iff.1 h
    obtain ⟨q1, T1, S2⟩ := q1
    cases h
    have := trace_g hu hc hq
    rw [putD_g] at this
    simp only [trace, oper_g hu hc hp, Option.bind_some, this, Option.map_some, List.map_cons, gE]
theorem sameA_g {a b : AV} (h : sameAS a b = true) : sameA (gV u a) (gV u b) = true := by
  cases a with
  | float kd n =>
    cases kd with
    | f64 =>
      cases b with
      | float kd m =>
        cases kd with
        | f64 => cases Nat.eq_of_beq_eq_true h; simp [sameA]
        | f32 => simp [sameAS, sameA] at h
      | _ => simp [sameAS, sameA] at h
    | f32 => cases b <;> simp [sameAS, sameA] at h
  | tuple l =>
    cases l with
    | nil =>
      cases b with
      | tuple m => cases m with
        | nil => simp [sameA]
        | cons => simp [sameAS, sameA] at h
      | _ => simp [sameAS, sameA] at h
    | cons => cases b <;> simp [sameAS, sameA] at h
  | _ => cases b <;> first | (simp [sameAS, sameA] at h; done) | (simpa [sameAS] using h)
theorem sameL_g : ∀ {a b : List AV}, sameLS a b = true → sameL (a.map (gV u)) (b.map (gV u)) = true
  | [], [], _ => rfl
  | [], _ :: _, h => by simp [sameLS] at h
  | _ :: _, [], h => by simp [sameLS] at h
  | a :: x, b :: y, h => by
    simp only [sameLS, Bool.and_eq_true] at h
    simp only [List.map_cons, sameL, sameA_g h.1, sameL_g h.2, Bool.and_self]
theorem sameV_g {a b : AV} (h : sameVS a b = true) : sameV (gV u a) (gV u b) = true := by
  have key : ∀ {x y : AV}, sameA x y = true → sameV x y = true := by
    intro x y e
    cases x <;> first | (cases y <;> first | exact e | (simp [sameA] at e))
  cases a with
  | agg l =>
    cases b with
    | agg m => simp only [g_agg, sameV]; exact sameL_g h
    | _ => exact key (sameA_g h)
  | _ => exact key (sameA_g h)
theorem noCal_g : CalG u noCal (fun _ _ _ => none) := fun _ _ _ _ _ h => by cases h
theorem again_g (hu : s.has u) {o : AOper} {v : AV} (h : againS s o T v S = true) : again o (gT u T) (gV u v) (gS u S) = true := by
  unfold againS at h
  unfold again
  cases ho : evOperS s o noCal T S with
  | none => rw [ho] at h; cases h
  | some p =>
    obtain ⟨w, S1⟩ := p
    rw [ho] at h
    rw [oper_g hu noCal_g ho]
    exact sameV_g h
theorem pure_g : (∀ (v : AV), (gV u v).pure = v.pure) ∧ ∀ (l : List AV), AV.pures (gVs u l) = AV.pures l := by
  have h : ∀ (v : AV), (gV u v).pure = v.pure := by
    intro v
    induction v using AV.rec (motive_2 := fun l => AV.pures (gVs u l) = AV.pures l) with
    | float kd n => cases kd <;> simp [gV, AV.pure]
    | ptr a => rfl
    | slice a => rfl
    | func f l ih => simp only [gV, AV.pure]; exact ih
    | agg l ih => simp only [gV, AV.pure]; exact ih
    | tuple l ih => simp only [gV, AV.pure]; exact ih
    | iface t v ih => simp only [gV, AV.pure]; exact ih
    | nil => rfl
    | cons v r ihv ihr => simp only [gVs, AV.pures, ihv, ihr]
    | _ => rfl
  refine ⟨h, fun l => ?_⟩
  induction l with
  | nil => rfl
  | cons v r ih => simp only [gVs, AV.pures, h, ih]
theorem pures_g (l : List AV) : AV.pures (l.map (gV u)) = AV.pures l := by rw [← gVs_eq]; exact pure_g.2 l
theorem chkB_g (hu : s.has u) {o : AOper} (h : chkBS s o T = true) : chkB o (gT u T) = true := by
  unfold chkBS at h
  unfold chkB
  rw [Bool.and_eq_true] at h ⊢
  refine ⟨?_, ?_⟩
  · have h1 := h.1
    rw [List.all_eq_true] at h1 ⊢
    intro t ht
    have := h1 t ht
    rw [gT_get]
    cases hg : T.get t with
    | none => rfl
    | some v => rw [hg] at this; simp only [Option.map_some]; rw [pure_g.1]; exact this
  · have h2 := h.2
    cases ho : evOperS s o noCal T ⟨0, .lf⟩ with
    | none => rw [ho] at h2; cases h2
    | some p =>
      obtain ⟨w, S1⟩ := p
      rw [ho] at h2
      have := oper_g hu noCal_g ho
      rw [show gS u ⟨0, .lf⟩ = ⟨0, .lf⟩ from rfl] at this
      rw [this]
      dsimp only at h2 ⊢
      rw [gS_get]
      cases hx : S1.get 0 with
      | none => rw [hx] at h2; cases h2
      | some x =>
        rw [hx] at h2
        cases x with
        | cells xs ver minv own =>
          simp only [Option.map_some, gO]
          cases ver <;> first | (cases h2; done) | skip
          cases minv <;> first | (cases h2; done) | skip
          cases own <;> first | (cases h2; done) | skip
          show AV.pures (xs.map (gV u)) = true
          rw [pures_g]; exact h2
        | _ => cases h2
theorem stAt_g (l : Tra) (S : St) (j : Nat) : stAt (l.map (gE u)) (gS u S) j = gS u (stAt l S j) := by
  unfold stAt
  rw [List.getElem?_map]
  cases l[j]? <;> rfl
theorem chk_g (hu : s.has u) {l : Tra} {p : Nat × Nat} (h : chkS s l S p = true) : chk (l.map (gE u)) (gS u S) p = true := by
  unfold chkS at h
  unfold chk
  rw [List.getElem?_map]
  cases hl : l[p.1]? with
  | none => rw [hl] at h; cases h
  | some e =>
    rw [hl] at h
    simp only [Option.map_some, gE] at h ⊢
    cases hb : e.1.op.birth with
    | true => rw [hb] at h; exact chkB_g hu h
    | false => rw [hb] at h; simp only [cond_false] at h ⊢; rw [stAt_g]; exact again_g hu h
theorem draw_g (hu : s.has u) {cS c : Cal} (hc : CalG u cS c) {ops : List AOper} {ps : List (Nat × Nat)} (h : evDrawS s cS ops ps T S = some (T', S')) : evDraw c ops ps (gT u T) (gS u S) = some (gT u T', gS u S') := by
  unfold evDrawS at h
  unfold evDraw
  obtain ⟨q, hq, h⟩ := Option.bind_eq_some_iff.1 h
  obtain ⟨q, T1, S1⟩ := q
  rw [trace_g hu hc hq, Option.bind_some]
  dsimp only at h ⊢
  cases hp : ps.all (chkS s q S1) with
  | false => rw [hp] at h; cases h
  | true =>
    rw [hp] at h
    cases h
    have : ps.all (chk (q.map (gE u)) (gS u S')) = true := by
      rw [List.all_eq_true] at hp ⊢
      exact fun p hm => chk_g hu (hp p hm)
    rw [this]; rfl
def gR (u : Asg) (r : Ex × Tm × St) : Ex × Tm × St := (r.1, gT u r.2.1, gS u r.2.2)
theorem iter_g {fS f : Tm → St → RC} (h : ∀ T S r, fS T S = some r → f (gT u T) (gS u S) = some (gR u r)) : ∀ (k : Nat) (T : Tm) (S : St) (r : Ex × Tm × St), iterK fS k T S = some r → iter f k (gT u T) (gS u S) = some (gR u r)
  | 0, T, S, r, e => by cases e
  | k + 1, T, S, r, e => by
    replace e : Option.casesOn (motive := fun _ => RC) (fS T S) none (fun r => match r with | (.normal, T', S') => iterK fS k T' S' | r => some r) = some r := e
    rw [ob] at e
    obtain ⟨p, hp, e⟩ := Option.bind_eq_some_iff.1 e
    obtain ⟨x, T1, S1⟩ := p
    simp only [iter, h T S _ hp, Option.bind_some, gR]
    cases x with
    | normal => exact iter_g h k T1 S1 r e
    | exit i => cases e; rfl
    | ret => cases e; rfl
theorem ev_c_g (hu : s.has u) {cS c : Cal} (hc : CalG u cS c) (k : Nat) (a : AC) : ∀ (T : Tm) (S : St) (r : Ex × Tm × St), evCS s cS k a T S = some r → evC c k a (gT u T) (gS u S) = some (gR u r) := by
  induction a with
  | skip => intro T S r h; cases h; rfl
  | reg ops =>
    intro T S r h
    replace h : Option.casesOn (motive := fun _ => RC) (evOpsS s cS ops T S) none (fun p => some (.normal, p.1, p.2)) = some r := h
    rw [ob] at h
    obtain ⟨p, hp, h⟩ := Option.bind_eq_some_iff.1 h
    cases h
    simp only [evC, ops_g hu hc hp, Option.map_some, gR]
  | dreg ops pl =>
    intro T S r h
    replace h : Option.casesOn (motive := fun _ => RC) (evDrawS s cS ops pl T S) none (fun p => some (.normal, p.1, p.2)) = some r := h
    rw [ob] at h
    obtain ⟨p, hp, h⟩ := Option.bind_eq_some_iff.1 h
    cases h
    simp only [evC, draw_g hu hc hp, Option.map_some, gR]
  | preg ops pl => intro T S r h; cases h
  | seq a b iha ihb =>
    intro T S r h
    replace h : Option.casesOn (motive := fun _ => RC) (evCS s cS k a T S) none (fun r => match r with | (.normal, T', S') => evCS s cS k b T' S' | r => some r) = some r := h
    rw [ob] at h
    obtain ⟨p, hp, h⟩ := Option.bind_eq_some_iff.1 h
    obtain ⟨x, T1, S1⟩ := p
    simp only [evC, iha T S _ hp, Option.bind_some, gR]
    cases x with
    | normal => exact ihb T1 S1 r h
    | exit i => cases h; rfl
    | ret => cases h; rfl
  | cond x a b iha ihb =>
    intro T S r h
    replace h : Option.casesOn (motive := fun _ => RC) (evXK T x) none (fun v => match v with | .bool t => Bool.casesOn (motive := fun _ => RC) t (evCS s cS k b T S) (evCS s cS k a T S) | _ => none) = some r := h
    rw [ob, evXK_eq] at h
    obtain ⟨v, hv, h⟩ := Option.bind_eq_some_iff.1 h
    cases v <;> first | (cases h; done) | skip
    rename_i t
    have hx : x.ev (gT u T) = some (.bool t) := by
      cases x with
      | t i => show (gT u T).get i = _; rw [gT_get, show T.get i = some (.bool t) from hv]; simp
      | c w => exact hv
    simp only [evC, hx, Option.bind_some]
    cases t with
    | true => exact iha T S r h
    | false => exact ihb T S r h
  | block id b ihb =>
    intro T S r h
    replace h : Option.casesOn (motive := fun _ => RC) (evCS s cS k b T S) none (fun r => match r with | (.exit i, T', S') => Bool.casesOn (motive := fun _ => RC) (Nat.beq i id) (some (.exit i, T', S')) (some (.normal, T', S')) | r => some r) = some r := h
    rw [ob] at h
    obtain ⟨p, hp, h⟩ := Option.bind_eq_some_iff.1 h
    obtain ⟨x, T1, S1⟩ := p
    simp only [evC, ihb T S _ hp, Option.map_some, gR]
    cases x with
    | normal => cases h; rfl
    | ret => cases h; rfl
    | exit i =>
      dsimp only at h ⊢
      cases hb : Nat.beq i id with
      | true => rw [hb] at h; cases h; rfl
      | false => rw [hb] at h; cases h; rfl
  | loop b ihb =>
    intro T S r h
    exact iter_g (u := u) ihb k T S r h
  | exit id => intro T S r h; cases h; rfl
  | ret => intro T S r h; cases h; rfl
theorem res_g : ∀ {rs : List RV} {l : List AV}, evRes T S rs = some l → evRes (gT u T) (gS u S) rs = some (l.map (gV u))
  | [], l, h => by cases h; rfl
  | .tmp t :: r, l, h => by
    obtain ⟨v, hv, h⟩ := Option.bind_eq_some_iff.1 h
    obtain ⟨l1, hl, h⟩ := Option.map_eq_some_iff.1 h
    cases h
    simp only [evRes, gT_get, hv, Option.map_some, Option.bind_some, res_g hl, List.map_cons]
  | .cell1 t :: r, l, h => by
    obtain ⟨v, hv, h⟩ := Option.bind_eq_some_iff.1 h
    cases v <;> first | (cases h; done) | skip
    rename_i p
    cases p with
    | none => cases h
    | some p =>
      dsimp only at h
      simp only [evRes, gT_get, hv, Option.map_some, Option.bind_some, g_ptr]
      cases hb : Nat.ble 1 p.n with
      | false => rw [hb] at h; cases h
      | true =>
        rw [hb] at h
        simp only [cond_true] at h ⊢
        obtain ⟨l0, h0, h⟩ := Option.bind_eq_some_iff.1 h
        obtain ⟨w, hw, h⟩ := Option.bind_eq_some_iff.1 h
        obtain ⟨l1, hl, h⟩ := Option.map_eq_some_iff.1 h
        cases h
        simp only [rd_g h0, Option.bind_some, List.head?_map, hw, Option.map_some, res_g hl, List.map_cons]
  | .cellN t n :: r, l, h => by
    obtain ⟨v, hv, h⟩ := Option.bind_eq_some_iff.1 h
    cases v <;> first | (cases h; done) | skip
    rename_i p
    cases p with
    | none => cases h
    | some p =>
      dsimp only at h
      simp only [evRes, gT_get, hv, Option.map_some, Option.bind_some, g_ptr]
      cases hb : Nat.ble n p.n with
      | false => rw [hb] at h; cases h
      | true =>
        rw [hb] at h
        simp only [cond_true] at h ⊢
        obtain ⟨l0, h0, h⟩ := Option.bind_eq_some_iff.1 h
        obtain ⟨l1, hl, h⟩ := Option.map_eq_some_iff.1 h
        cases h
        simp only [rd_g h0, Option.bind_some, res_g hl, Option.map_some, List.map_cons, g_agg]
theorem one_g (l : List AV) : oneOf (l.map (gV u)) = gV u (oneOf l) := by
  match l with
  | [] => simp [oneOf]
  | [v] => rfl
  | a :: b :: r => simp [oneOf]
theorem fin_g {rs : List RV} {r : Ex × Tm × St} {v : AV} (h : fin rs r = some (v, S')) : fin rs (gR u r) = some (gV u v, gS u S') := by
  obtain ⟨x, T1, S1⟩ := r
  cases x with
  | exit i => cases h
  | normal =>
    obtain ⟨l, hl, h⟩ := Option.map_eq_some_iff.1 h
    cases h
    simp only [gR, fin, res_g hl, Option.map_some, one_g]
  | ret =>
    obtain ⟨l, hl, h⟩ := Option.map_eq_some_iff.1 h
    cases h
    simp only [gR, fin, res_g hl, Option.map_some, one_g]
end
noncomputable def setArgsS (l : List AV) : Nat → Tm → Tm := List.rec (motive := fun _ => Nat → Tm → Tm) (fun _ T => T) (fun v _ ih i T => fVS v fun v => ih (Nat.succ i) (T.setK i v)) l
theorem setArgsS_eq : ∀ (l : List AV) (i : Nat) (T : Tm), setArgsS l i T = setArgs l i T
  | [], _, _ => rfl
  | v :: r, i, T => by
    show fVS v (fun v => setArgsS r (i + 1) (T.setK i v)) = _
    rw [fVS_eq, setArgsS_eq r, Tr.setK_eq]; rfl
theorem setArgs_g (u : Asg) : ∀ (l : List AV) (i : Nat) (T : Tm), gT u (setArgs l i T) = setArgs (l.map (gV u)) i (gT u T)
  | [], _, _ => rfl
  | v :: r, i, T => by
    simp only [List.map_cons, setArgs]
    rw [setArgs_g u r, gT_set]
/-- A call, with lines: Xs tells what is known of calls ahead, nX of which functions nothing is known. -/
noncomputable def evFS (s : Sp) (Xs : Nat → List AV → Option AV) (nX : Nat → Bool) (AP : Nat → Option AFunc) (k : Nat) : Cal :=
  Nat.rec (motive := fun _ => Cal) (fun _ _ _ => none) (fun k ih f args S => Option.casesOn (motive := fun _ => Res) (Xs f args)
    (Bool.casesOn (motive := fun _ => Res) (nX f) none (Option.casesOn (motive := fun _ => Res) (AP f) none fun af => Bool.casesOn (motive := fun _ => Res) (Nat.ble args.length af.ntmps) none
      (Option.casesOn (motive := fun _ => Res) (evCS s ih k af.body (setArgsS args 0 .lf) S) none (fin af.results)))) (fun v => some (v, S))) k
/-- What is known of calls, of lines and of each u. -/
structure XsOk (s : Sp) (X Xs : Nat → List AV → Option AV) (nX : Nat → Bool) : Prop where
  sum : ∀ f l v, Xs f l = some v → ∀ u, s.has u → X f (l.map (gV u)) = some (gV u v)
  non : ∀ f, nX f = true → ∀ l, X f l = none
theorem evFS_g {s : Sp} {X Xs : Nat → List AV → Option AV} {nX : Nat → Bool} (hX : XsOk s X Xs nX) (AP : Nat → Option AFunc) {u : Asg} (hu : s.has u) : ∀ k, CalG u (evFS s Xs nX AP k) (evF X AP k)
  | 0 => by intro f l S v S' h; cases h
  | k + 1 => by
    intro f l S v S' h
    replace h : Option.casesOn (motive := fun _ => Res) (Xs f l)
      (Bool.casesOn (motive := fun _ => Res) (nX f) none (Option.casesOn (motive := fun _ => Res) (AP f) none fun af => Bool.casesOn (motive := fun _ => Res) (Nat.ble l.length af.ntmps) none
        (Option.casesOn (motive := fun _ => Res) (evCS s (evFS s Xs nX AP k) k af.body (setArgsS l 0 .lf) S) none (fin af.results)))) (fun v => some (v, S)) = some (v, S') := h
    unfold evF
    cases hx : Xs f l with
    | some w =>
      rw [hx] at h
      cases h
      rw [hX.sum f l v hx u hu]
    | none =>
      rw [hx] at h
      cases hn : nX f with
      | false => rw [hn] at h; cases h
      | true =>
        rw [hn] at h
        rw [hX.non f hn]
        replace h : Option.casesOn (motive := fun _ => Res) (AP f) none (fun af => Bool.casesOn (motive := fun _ => Res) (Nat.ble l.length af.ntmps) none
          (Option.casesOn (motive := fun _ => Res) (evCS s (evFS s Xs nX AP k) k af.body (setArgsS l 0 .lf) S) none (fin af.results))) = some (v, S') := h
        rw [ob] at h
        obtain ⟨af, ha, h⟩ := Option.bind_eq_some_iff.1 h
        simp only [ha, Option.bind_some, List.length_map]
        cases hb : Nat.ble l.length af.ntmps with
        | false => rw [hb] at h; cases h
        | true =>
          rw [hb] at h
          replace h : Option.casesOn (motive := fun _ => Res) (evCS s (evFS s Xs nX AP k) k af.body (setArgsS l 0 .lf) S) none (fin af.results) = some (v, S') := h
          simp only [cond_true]
          rw [ob] at h
          obtain ⟨r, hr, h⟩ := Option.bind_eq_some_iff.1 h
          rw [setArgsS_eq] at hr
          have := ev_c_g hu (evFS_g hX AP hu k) k af.body _ _ _ hr
          rw [setArgs_g] at this
          rw [show gT u .lf = .lf from rfl] at this
          rw [this, Option.bind_some]
          exact fin_g h
end Go.Proofs.YtajoogahcgbohaaGreatA
