/- An abstract evaluator, part X2: a region whose order is drawn, with one birth that may come early. -/
import Derived.Test.YtajoogahcgbohaaGreatAeX
set_option linter.unusedVariables false
set_option linter.unusedSimpArgs false
namespace Go.Proofs.YtajoogahcgbohaaGreatA
open Go.RowKit

def isF (l : List AOper) (f : Nat) : Bool := match l[f]? with | some x => x.op.birth && x.guard.isNone | none => false
/-- All heavy operations ahead of f come ahead of k. -/
def before (bs : List Nat) (l : List AOper) (f k : Nat) : Bool := (List.range f).all fun j => match l[j]? with | some x => !x.op.heavy || (bs.getD k 0).testBit j | none => true
def okF (bs : List Nat) (l : List AOper) (f : Nat) : Bool :=
  (List.range l.length).all fun i => (List.range i).all fun j => match l[i]?, l[j]? with
    | some y, some x => bif Nat.beq i f then !(hits x y || hits y x) || (bs.getD i 0).testBit j else okPair bs i j y x
    | _, _ => false
def okU (bs : List Nat) (l : List AOper) (f : Nat) : Bool :=
  (List.range l.length).all fun k => match l[f]?, l[k]? with
    | some x, some y => !(Nat.blt f k && hits x y) || before bs l f k
    | _, _ => false
def planF1 (bs : List Nat) (l : List AOper) (f i j : Nat) : Option (Nat × Nat) :=
  bif Nat.beq j f && Nat.blt f i then (bif (bs.getD i 0).testBit f && before bs l f i then none else some (i, f)) else plan1 bs l i j
def planF (bs : List Nat) (l : List AOper) (f : Nat) : Plan :=
  (f, f) :: (List.range l.length).flatMap fun i => match l[i]? with
    | some x => bif x.op.reads then (List.range l.length).filterMap (planF1 bs l f i) else []
    | none => []
def flt (bs : List Nat) (l : List AOper) : Option Nat := (List.range l.length).find? fun i => isF l i && !before bs l i i
def cDraw (ops : List Oper) (l : List AOper) : Option Plan :=
  match cDraw0 ops l with
  | some p => some p
  | none => (flt (masks ops []) l).bind fun f => bif lows ops 0 && okF (masks ops []) l f && okU (masks ops []) l f && isF l f then some (planF (masks ops []) l f) else none

theorem before_spec {bs : List Nat} {l : List AOper} {f k : Nat} (h : before bs l f k = true) {j : Nat} {x : AOper} (hj : j < f) (hx : l[j]? = some x) (hh : x.op.heavy = true) : (bs.getD k 0).testBit j = true := by
  simp only [before, List.all_eq_true, List.mem_range] at h
  have := h j hj
  rw [hx] at this
  simpa [hh] using this
theorem okF_spec {bs : List Nat} {l : List AOper} {f : Nat} (h : okF bs l f = true) {i j : Nat} {y x : AOper} (hij : j < i) (hi : l[i]? = some y) (hj : l[j]? = some x) :
    (bif Nat.beq i f then !(hits x y || hits y x) || (bs.getD i 0).testBit j else okPair bs i j y x) = true := by
  have hlt : i < l.length := (List.getElem?_eq_some_iff.1 hi).1
  simp only [okF, List.all_eq_true, List.mem_range] at h
  have := h i hlt j hij
  rw [hi, hj] at this
  exact this
theorem okF_hits {bs : List Nat} {l : List AOper} {f : Nat} (h : okF bs l f = true) {i j : Nat} {y x : AOper} (hij : j < i) (hi : l[i]? = some y) (hj : l[j]? = some x) (hh : (hits x y || hits y x) = true) : (bs.getD i 0).testBit j = true := by
  have := okF_spec h hij hi hj
  cases hb : Nat.beq i f with
  | true => rw [hb, cond_true, hh] at this; simpa using this
  | false =>
    rw [hb, cond_false] at this
    simp only [okPair, hh, Bool.true_or, Bool.not_true, Bool.false_or] at this
    exact this
theorem okF_heavy {bs : List Nat} {l : List AOper} {f : Nat} (h : okF bs l f = true) {i j : Nat} {y x : AOper} (hij : j < i) (hif : i ≠ f) (hi : l[i]? = some y) (hj : l[j]? = some x) (hy : y.op.heavy = true) (hx : x.op.heavy = true) : (bs.getD i 0).testBit j = true := by
  have := okF_spec h hij hi hj
  cases hb : Nat.beq i f with
  | true => exact absurd (Nat.eq_of_beq_eq_true hb) hif
  | false =>
    rw [hb, cond_false] at this
    simp only [okPair, hx, hy, Bool.and_self, Bool.or_true, Bool.not_true, Bool.false_or] at this
    exact this
theorem okU_spec {bs : List Nat} {l : List AOper} {f k : Nat} {x y : AOper} (h : okU bs l f = true) (hf : l[f]? = some x) (hk : l[k]? = some y) (hlt : f < k) (hh : hits x y = true) : before bs l f k = true := by
  have hl : k < l.length := (List.getElem?_eq_some_iff.1 hk).1
  simp only [okU, List.all_eq_true, List.mem_range] at h
  have := h k hl
  rw [hf, hk] at this
  simp only [hh, Bool.and_true] at this
  have hb : Nat.blt f k = true := by simpa [Nat.blt_eq] using hlt
  rw [hb] at this
  simpa using this
theorem planF_spec {bs : List Nat} {l : List AOper} {f i j : Nat} {x : AOper} {p : Nat × Nat} (hi : l[i]? = some x) (hr : x.op.reads = true) (hj : j < l.length) (hp : planF1 bs l f i j = some p) : p ∈ planF bs l f := by
  have hlt : i < l.length := (List.getElem?_eq_some_iff.1 hi).1
  refine List.mem_cons_of_mem _ ?_
  simp only [List.mem_flatMap, List.mem_range]
  refine ⟨i, hlt, ?_⟩
  rw [hi]
  simp only [hr, cond_true, List.mem_filterMap, List.mem_range]
  exact ⟨j, hj, hp⟩
theorem reN_reN (n m : Nat) (v : AV) : reN n (reN m v) = reN n v := by
  cases v with
  | ptr a => cases a <;> rfl
  | slice a => cases a <;> rfl
  | _ => rfl
/-- A table of some entries alone. -/
def restr (T : Tm) : List Nat → Tm
  | [] => .lf
  | t :: r => match T.get t with | some v => (restr T r).set t v | none => restr T r
theorem restr_sub {T : Tm} : ∀ {l : List Nat} {t : Nat} {v : AV}, (restr T l).get t = some v → t ∈ l ∧ T.get t = some v
  | [], t, v, h => by cases h
  | a :: r, t, v, h => by
    simp only [restr] at h
    cases hq : T.get a with
    | none => rw [hq] at h; have := restr_sub h; exact ⟨List.mem_cons_of_mem _ this.1, this.2⟩
    | some u =>
      rw [hq] at h
      simp only [Tr.get_set] at h
      by_cases e : t = a
      · subst e; simp at h; subst h; exact ⟨List.mem_cons_self, hq⟩
      · rw [if_neg e] at h; have := restr_sub h; exact ⟨List.mem_cons_of_mem _ this.1, this.2⟩
theorem restr_get {T : Tm} : ∀ {l : List Nat} {t : Nat}, t ∈ l → (restr T l).get t = T.get t
  | [], t, h => by cases h
  | a :: r, t, h => by
    simp only [restr]
    cases hq : T.get a with
    | none =>
      rcases List.mem_cons.1 h with rfl | h
      · by_cases hm : t ∈ r
        · simp only; exact restr_get hm
        · rw [hq]
          simp only
          cases hz : (restr T r).get t with
          | none => rfl
          | some v => exact absurd (restr_sub hz).1 hm
      · simp only; exact restr_get h
    | some u =>
      simp only [Tr.get_set]
      by_cases e : t = a
      · subst e; rw [if_pos rfl, hq]
      · rw [if_neg e]
        rcases List.mem_cons.1 h with rfl | h
        · exact absurd rfl e
        · exact restr_get h
section
variable {P : Program} {B : Nat} {w0 : Base} {n : Nat} {T T' : Tm} {S S' : St} {call : Nat → List AV → St → Option (AV × St)} {ops : Array Oper} {al : List AOper}
/-- How a run stands within a region: f is the birth that may be early; pend: it was. -/
structure Stt (B : Nat) (w0 : Base) (n : Nat) (T : Tm) (al : List AOper) (N f : Nat) (tr : Tr4) (S' : St) (listed : Array Bool) (pend : Bool) (bb : Base) (ρ1 : Rho) (a1 : Act) (w1 : World) (p : Nat) : Prop where
  hp : p ≤ N
  hh : ∀ i x, al[i]? = some x → x.op.heavy = true → i ≠ f → (listed.getD i false = true ↔ i < p)
  hfl : (pend = true → listed.getD f false = true ∧ p ≤ f) ∧ (pend = false → listed.getD f false = Nat.blt f p ∧ bb = w0)
  sim : Sim B bb ρ1 (stAt tr S' p) w1
  trq : ∀ t v, (pend = true → (al[f]?).bind (·.dst) ≠ some t) → (TL al (vAt tr) (fun i => listed.getD i false && !(pend && Nat.beq i f)) T N).get t = some v → ∃ c, a1.tmps[t]? = some c ∧ VR ρ1 v c
  gho : pend = true → ∃ L ob x c, bb = w0.lay L.blk ob ∧ w0.G L.blk = none ∧ Gho x L ob (reN 0 (vAt tr f)) c ∧ stAt tr S' (f + 1) = (stAt tr S' f).alloc (.cells x 0 0 true) ∧ reN (stAt tr S' f).next (vAt tr f) = vAt tr f ∧ (∀ d, (al[f]?).bind (·.dst) = some d → a1.tmps[d]? = some c)
  later : pend = true → ∀ k y xf, al[k]? = some y → al[f]? = some xf → f < k → hits xf y = true → listed.getD k false = false
theorem hits_dst {x y : AOper} {t : Nat} (hx : x.dst = some t) (ht : t ∈ y.tmps ∨ y.dst = some t) : hits x y = true := by
  unfold hits
  rw [hx]
  dsimp only
  rcases ht with ht | ht
  · rw [memN_of ht]; rfl
  · rw [ht]; simp
theorem adopt_step {N f : Nat} {tr : Tr4} {S' : St} (htr : trace call al T S = some (tr, T', S')) (hN : al.length = N) {xf : AOper} (hxf : al[f]? = some xf) (hhf : xf.op.heavy = true) {bs : List Nat} (hok : okF bs al f = true)
    (hsat : ∀ i x, al[i]? = some x → x.op.heavy = false → stAt tr S' (i + 1) = stAt tr S' i)
    {listed : Array Bool} (hbefF : ∀ j, (bs.getD f 0).testBit j = true → listed.getD f false = true → listed.getD j false = true)
    {bb : Base} {ρ1 : Rho} {a1 : Act} {w1 : World} {p : Nat} (h : Stt B w0 n T al N f tr S' listed true bb ρ1 a1 w1 p) (hall : ∀ j x, j < f → al[j]? = some x → x.op.heavy = true → listed.getD j false = true) :
    ∃ ρ2, ρ1.le ρ2 ∧ Stt B w0 n T al N f tr S' listed false w0 ρ2 a1 w1 (f + 1) := by
  obtain ⟨hlf, hpf⟩ := h.hfl.1 rfl
  have hfN : f < N := by rw [← hN]; exact (List.getElem?_eq_some_iff.1 hxf).1
  obtain ⟨L, ob, x, c, hbb, hfree, G, hst, hre, hdst⟩ := h.gho rfl
  have hpS : ∀ d, p + d ≤ f → stAt tr S' (p + d) = stAt tr S' p := by
    intro d
    induction d with
    | zero => intro _; rfl
    | succ d ih =>
      intro hd
      rw [← ih (by omega), ← Nat.add_assoc]
      have hg : al[p + d]? = some al[p + d] := List.getElem?_eq_getElem (by omega)
      refine hsat (p + d) _ hg ?_
      cases hx : (al[p + d]).op.heavy with
      | false => rfl
      | true =>
        have h1 := hall (p + d) _ (by omega) hg hx
        have := (h.hh (p + d) _ hg hx (by omega)).1 h1
        omega
  have e1 := hpS (f - p) (by omega)
  rw [show p + (f - p) = f by omega] at e1
  have hs := h.sim
  rw [hbb, ← e1] at hs
  obtain ⟨ρ2, hle, hL, hS2⟩ := hs.adopt hfree G
  rw [← hst] at hS2
  refine ⟨ρ2, hle, ⟨by omega, fun i y hi hy hne => ?_, ⟨fun h => (by cases h), fun _ => ⟨by rw [hlf]; simp [Nat.blt_eq], rfl⟩⟩, hS2, fun t v _ hv => ?_, fun h => (by cases h), fun h => by cases h⟩⟩
  · rcases Nat.lt_or_gt_of_ne hne with hlt | hgt
    · have := hall i y hlt hi hy
      exact ⟨fun _ => by omega, fun _ => this⟩
    · have := h.hh i y hi hy hne
      constructor
      · intro h1; have := this.1 h1; omega
      · intro h1; omega
  · simp only [Bool.false_and, Bool.not_false, Bool.and_true] at hv
    by_cases hd : xf.dst = some t
    · -- f's own
      have hcg : (TL al (vAt tr) (fun i => listed.getD i false) T N).get t = (TL al (vAt tr) (fun i => Nat.blt i (f + 1)) T N).get t := by
        refine TL_congr fun j hj hw => ?_
        have hgj : al[j]? = some al[j] := List.getElem?_eq_getElem (by omega)
        rw [hgj, Option.bind_some] at hw
        rcases Nat.lt_trichotomy j f with hlt | rfl | hgt
        · have h1 : hits al[j] xf = true := hits_dst hw (.inr hd)
          have h2 := okF_hits hok hlt hxf hgj (by rw [h1]; rfl)
          rw [hbefF j h2 hlf]
          exact (by simpa [Nat.blt_eq] using (show j < f + 1 by omega) : Nat.blt j (f + 1) = true).symm
        · rw [hlf]; simp [Nat.blt_eq]
        · have h1 : hits xf al[j] = true := hits_dst hd (.inr hw)
          rw [h.later rfl j _ xf hgj hxf hgt h1]
          cases hb : Nat.blt j (f + 1) with
          | false => rfl
          | true => have : j < f + 1 := by simpa [Nat.blt_eq] using hb
                    omega
      obtain ⟨t1, t2, t3, t4⟩ := trace_spec htr
      rw [hcg, TL_prefix htr (f + 1) N (by omega), show min N (f + 1) = f + 1 by omega, (t4 f xf hxf).2.1, hd] at hv
      simp only [putD, Tr.get_set, if_true, Option.some.injEq] at hv
      subst hv
      refine ⟨c, hdst t (by rw [hxf]; exact hd), ?_⟩
      have := G.val ρ2 _ hL
      rw [reN_reN, hre] at this
      exact this
    · have hd' : (al[f]?).bind (·.dst) ≠ some t := by rw [hxf]; exact hd
      obtain ⟨c', h1, h2⟩ := h.trq t v (fun _ => hd') (by
        rw [← hv]
        refine TL_congr fun j hj hw => ?_
        have hne : j ≠ f := fun e => by subst e; exact hd' hw
        have : Nat.beq j f = false := by cases hb : Nat.beq j f with | false => rfl | true => exact absurd (Nat.eq_of_beq_eq_true hb) hne
        simp [this])
      exact ⟨c', h1, VR.mono hle h2⟩
theorem draw_soundF {f : Nat} (hcall : CallOk P call) (hm : P.follows .mixedOrders = true) (hc : cOps P n ops ops.toList = some al) (hlow : lows ops.toList 0 = true) (hok : okF (masks ops.toList []) al f = true) (hou : okU (masks ops.toList []) al f = true) (hisf : isF al f = true)
    (he : evDraw call al (planF (masks ops.toList []) al f) T S = some (T', S'))
    {ρ : Rho} {a : Act} {w : World} (h : Rel B w0 n ρ T S a w) {Q : Exit → Act → World → Prop} (hQ : ∀ ρ' a' w', ρ.le ρ' → Rel B w0 n ρ' T' S' a' w' → Q .normal a' w') (id : Nat) : (Code.region id ops true).wp P Q a w := by
  obtain ⟨hlen, hops⟩ := cOps_spec hc
  have hN : al.length = ops.size := by rw [hlen]; simp
  generalize hbs : masks ops.toList [] = bs at *
  have hmask := (masks_spec ops.toList []).2
  rw [hbs] at hmask
  simp only [List.length_nil, Nat.zero_add] at hmask
  have hlow' : ∀ (k : Nat) o, ops[k]? = some o → ∀ e ∈ o.after, Region.binds .any e = true → e.on < k := fun k o hk e he hb => by
    have := lows_spec hlow k o (by simpa using hk) e he hb; omega
  obtain ⟨xf, hxf, hbirth, hguard⟩ : ∃ xf, al[f]? = some xf ∧ xf.op.birth = true ∧ xf.guard = none := by
    unfold isF at hisf
    split at hisf
    · rename_i x hx
      simp only [Bool.and_eq_true, Option.isNone_iff_eq_none] at hisf
      exact ⟨x, hx, hisf.1, hisf.2⟩
    · cases hisf
  have hhf := birth_heavy hbirth
  have hfN : f < ops.size := by rw [← hN]; exact (List.getElem?_eq_some_iff.1 hxf).1
  simp only [evDraw, Option.bind_eq_some_iff] at he
  obtain ⟨⟨tr, Tn, Sn⟩, htr, he⟩ := he
  dsimp only at he
  cases hall : (planF bs al f).all (chk tr Sn) with
  | false => rw [hall] at he; cases he
  | true =>
  rw [hall, cond_true] at he
  cases he
  obtain ⟨t1, t2, t3, t4⟩ := trace_spec htr
  simp only [List.all_eq_true] at hall
  have hag : ∀ (i j : Nat) x p, al[i]? = some x → x.op.reads = true → j < al.length → planF1 bs al f i j = some p → p.1 = i → evOper call x (tmAt tr T' i) (stAt tr S' p.2) = some (vAt tr i, stAt tr S' p.2) := by
    intro i j x p hi hr hj hp hpi
    have := hall p (planF_spec hi hr hj hp)
    simp only [chk] at this
    rw [hpi, (t4 i x hi).2.2] at this
    simp only [reads_birth hr, cond_false] at this
    exact again_eq (reads_light hr) this
  have hchB : chkB xf (tmAt tr T' f) = true := by
    have := hall (f, f) List.mem_cons_self
    simp only [chk] at this
    rw [(t4 f xf hxf).2.2] at this
    simp only [hbirth, cond_true] at this
    exact this
  have hsat : ∀ i x, al[i]? = some x → x.op.heavy = false → stAt tr S' (i + 1) = stAt tr S' i := fun i x hi hh => oper_keeps hh (t4 i x hi).1
  obtain ⟨xc, hstf, hvf, hbev⟩ := birth_ev hbirth hguard (t4 f xf hxf).1
  have hre : reN (stAt tr S' f).next (vAt tr f) = vAt tr f := by
    have := hbev call (stAt tr S' f)
    rw [(t4 f xf hxf).1] at this
    simp only [Option.some.injEq, Prod.mk.injEq] at this
    exact this.1.symm
  refine wp_region_any hm ?_
  have key : ∀ (fuel : Nat) (listed : Array Bool) (pend : Bool) (bb : Base) (ρ1 : Rho) (a1 : Act) (w1 : World) (p : Nat), ρ.le ρ1 → listed.size = ops.size → listed.toList.count false ≤ fuel →
      (∀ j o, listed.getD j false = true → ops[j]? = some o → ∀ e ∈ o.after, Region.binds .any e = true → listed.getD e.on false = true) →
      n ≤ a1.tmps.size → a1.defers = [] → Stt B w0 n T al ops.size f tr S' listed pend bb ρ1 a1 w1 p → wpAny P .any ops Q fuel listed a1 w1 := by
    have bef : ∀ (listed : Array Bool), (∀ j o, listed.getD j false = true → ops[j]? = some o → ∀ e ∈ o.after, Region.binds .any e = true → listed.getD e.on false = true) →
        ∀ j o i, ops[j]? = some o → (∀ e ∈ o.after, Region.binds .any e = true → listed.getD e.on false = true) → (bs.getD j 0).testBit i = true → listed.getD i false = true := by
      intro listed hcl j
      induction j using Nat.strongRecOn with
      | ind j ih =>
        intro o i hj hready hbit
        obtain ⟨e, he, hb, hor⟩ := hmask j o (by simpa using hj) i hbit
        have he' : e ∈ o.after := Array.mem_toList_iff.1 he
        rcases hor with rfl | ⟨hlt, hbit'⟩
        · exact hready e he' hb
        · have hsz : e.on < ops.size := by have := (Array.getElem?_eq_some_iff.1 hj).1; omega
          exact ih e.on hlt _ i (Array.getElem?_eq_getElem hsz) (hcl e.on _ (hready e he' hb) (Array.getElem?_eq_getElem hsz)) hbit'
    have befL : ∀ (listed : Array Bool), (∀ j o, listed.getD j false = true → ops[j]? = some o → ∀ e ∈ o.after, Region.binds .any e = true → listed.getD e.on false = true) →
        ∀ j i, j < ops.size → (bs.getD j 0).testBit i = true → listed.getD j false = true → listed.getD i false = true := by
      intro listed hcl j i hj hbit hl
      exact bef listed hcl j _ i (Array.getElem?_eq_getElem hj) (hcl j _ hl (Array.getElem?_eq_getElem hj)) hbit
    have full : ∀ (listed : Array Bool), listed.size = ops.size → Region.ready .any ops listed = [] → ∀ i, i < ops.size → listed.getD i false = true := by
      intro listed hsz hr i
      induction i using Nat.strongRecOn with
      | ind i ih =>
        intro hi
        cases hl : listed.getD i false with
        | true => rfl
        | false =>
          exfalso
          have : i ∈ Region.ready .any ops listed := mem_ready.2 ⟨by
            have hlt : i < listed.size := by omega
            simpa [hlt] using hl, ops[i], Array.getElem?_eq_getElem hi, fun e he hb => by
              have hlt := hlow' i _ (Array.getElem?_eq_getElem hi) e he hb
              exact ih e.on hlt (by omega)⟩
          rw [hr] at this
          cases this
    have norm : ∀ (listed : Array Bool) (pend : Bool) (bb : Base) (ρ1 : Rho) (a1 : Act) (w1 : World) (p : Nat),
        (∀ j o, listed.getD j false = true → ops[j]? = some o → ∀ e ∈ o.after, Region.binds .any e = true → listed.getD e.on false = true) →
        Stt B w0 n T al ops.size f tr S' listed pend bb ρ1 a1 w1 p → ∃ (pend' : Bool) (bb' : Base) (ρ2 : Rho) (p' : Nat), ρ1.le ρ2 ∧ Stt B w0 n T al ops.size f tr S' listed pend' bb' ρ2 a1 w1 p' ∧
          (pend' = true → ¬ ∀ j x, j < f → al[j]? = some x → x.op.heavy = true → listed.getD j false = true) := by
      intro listed pend bb ρ1 a1 w1 p hcl hS
      by_cases hq : pend = true ∧ ∀ j x, j < f → al[j]? = some x → x.op.heavy = true → listed.getD j false = true
      · obtain ⟨rfl, hq⟩ := hq
        obtain ⟨ρ2, h1, h2⟩ := adopt_step htr hN hxf hhf hok hsat (fun j hb hl => befL listed hcl f j hfN hb hl) hS hq
        exact ⟨false, w0, ρ2, f + 1, h1, h2, fun h => by cases h⟩
      · exact ⟨pend, bb, ρ1, p, Rho.le_refl _, hS, fun hp hx => hq ⟨hp, hx⟩⟩
    have done : ∀ (listed : Array Bool) (pend : Bool) (bb : Base) (ρ1 : Rho) (a1 : Act) (w1 : World) (p : Nat), ρ.le ρ1 → listed.size = ops.size →
        (∀ j o, listed.getD j false = true → ops[j]? = some o → ∀ e ∈ o.after, Region.binds .any e = true → listed.getD e.on false = true) → Region.ready .any ops listed = [] →
        n ≤ a1.tmps.size → a1.defers = [] → Stt B w0 n T al ops.size f tr S' listed pend bb ρ1 a1 w1 p → Q .normal a1 w1 := by
      intro listed pend0 bb0 ρ0' a1 w1 p0 hle0 hsz hcl hr hn hdf hS0
      have hf := full listed hsz hr
      obtain ⟨pend, bb, ρ1, p, hle1, hS, hnm⟩ := norm listed pend0 bb0 ρ0' a1 w1 p0 hcl hS0
      have hpf : pend = false := by
        cases pend with
        | false => rfl
        | true => exact absurd (fun j x hj hx _ => hf j (by omega)) (hnm rfl)
      subst hpf
      obtain ⟨hlf, rfl⟩ := hS.hfl.2 rfl
      rw [hf f hfN] at hlf
      have hfp : f < p := by
        have : Nat.blt f p = true := hlf.symm
        simpa [Nat.blt_eq] using this
      refine hQ ρ1 a1 w1 (Rho.le_trans hle0 hle1) ⟨?_, hn, hdf, ?_⟩
      · intro t v hv
        refine hS.trq t v (fun h => by cases h) ?_
        rw [← hv, TL_congr (L' := fun x => Nat.blt x ops.size) (fun i hi _ => by
          show (listed.getD i false && !(false && Nat.beq i f)) = Nat.blt i ops.size
          rw [hf i hi]; exact (by simpa [Nat.blt_eq] using hi : Nat.blt i ops.size = true).symm), TL_prefix htr ops.size ops.size (by omega)]
        have : tmAt tr T' (min ops.size ops.size) = T' := by
          unfold tmAt
          rw [List.getElem?_eq_none (by omega)]
        rw [this]
      · have hend : ∀ d, p + d ≤ ops.size → stAt tr S' (p + d) = stAt tr S' p := by
          intro d
          induction d with
          | zero => intro _; rfl
          | succ d ih =>
            intro hd
            rw [← ih (by omega), ← Nat.add_assoc]
            have hg : al[p + d]? = some al[p + d] := List.getElem?_eq_getElem (by omega)
            refine hsat (p + d) _ hg ?_
            cases hh : (al[p + d]).op.heavy with
            | false => rfl
            | true => have := (hS.hh (p + d) _ hg hh (by omega)).1 (hf (p + d) (by omega)); omega
        have h1 := hend (ops.size - p) (by have := hS.hp; omega)
        have h2 : stAt tr S' (p + (ops.size - p)) = S' := by
          unfold stAt
          rw [List.getElem?_eq_none (by have := hS.hp; omega)]
        have hs := hS.sim
        rw [← h1, h2] at hs
        exact hs
    intro fuel
    induction fuel with
    | zero =>
      intro listed pend bb ρ1 a1 w1 p hle hsz hcnt hcl hn hdf hS
      have hr : Region.ready .any ops listed = [] := by
        apply List.eq_nil_iff_forall_not_mem.2
        intro i hi
        obtain ⟨h0, _⟩ := mem_ready.1 hi
        have hlt : i < listed.size := by
          rcases Nat.lt_or_ge i listed.size with h' | h'
          · exact h'
          · simp [Array.getElem?_eq_none h'] at h0
        have : false ∈ listed.toList := by
          have : listed[i] = false := by simpa [hlt] using h0
          rw [← this]; exact Array.mem_toList_iff.2 (Array.getElem_mem hlt)
        have := List.count_pos_iff.2 this
        omega
      exact ⟨hr, done listed pend bb ρ1 a1 w1 p hle hsz hcl hr hn hdf hS⟩
    | succ fuel ih =>
      intro listed pend0 bb0 ρ0' a1 w1 p0 hle0 hsz hcnt hcl hn hdf hS0
      refine ⟨fun hr => done listed pend0 bb0 ρ0' a1 w1 p0 hle0 hsz hcl hr hn hdf hS0, fun i hi => ?_⟩
      obtain ⟨pend, bb, ρ1, p, hle1, hS, hnm⟩ := norm listed pend0 bb0 ρ0' a1 w1 p0 hcl hS0
      have hle := Rho.le_trans hle0 hle1
      obtain ⟨h0, o, ho, hready⟩ := mem_ready.1 hi
      have hi' : i < ops.size := (Array.getElem?_eq_some_iff.1 ho).1
      have hil : i < listed.size := by omega
      have hun : listed.getD i false = false := by simpa [hil] using h0
      obtain ⟨ao, hao, hcao⟩ := hops i o (by simpa using ho)
      obtain ⟨hdst, hdn⟩ := cOper_dst hcao
      have hbef : ∀ j, (bs.getD i 0).testBit j = true → listed.getD j false = true := fun j hj => bef listed hcl i o j ho hready hj
      have haft : ∀ j, (bs.getD j 0).testBit i = true → j < ops.size → listed.getD j false = false := by
        intro j hj hjs
        cases hl : listed.getD j false with
        | false => rfl
        | true => have := befL listed hcl j i hjs hj hl; rw [hun] at this; cases this
      have hcl' : ∀ j o, (listed.setIfInBounds i true).getD j false = true → ops[j]? = some o → ∀ e ∈ o.after, Region.binds .any e = true → (listed.setIfInBounds i true).getD e.on false = true := by
        intro j o' hl hj e he hb
        by_cases hne : j = i
        · subst hne
          rw [ho] at hj
          cases hj
          exact getD_set_true (hready e he hb)
        · rw [getD_set_ne false (Ne.symm hne)] at hl
          exact getD_set_true (hcl j o' hl hj e he hb)
      have hcnt' : (listed.setIfInBounds i true).toList.count false ≤ fuel := by
        have hlf : listed.toList[i]'(by simpa using hil) = false := by simpa [hil] using h0
        have := List.count_set (l := listed.toList) (i := i) (a := true) (b := false) (by simpa using hil)
        rw [hlf] at this
        simp only [Array.toList_setIfInBounds]
        have hpos : 0 < listed.toList.count false := List.count_pos_iff.2 (by rw [← hlf]; exact List.getElem_mem _)
        simp only [beq_self_eq_true, if_true, show (true == false) = false from rfl, Bool.false_eq_true, if_false] at this
        omega
      have hseti : (listed.setIfInBounds i true).getD i false = true := by simp [hil]
      by_cases hif : i = f
      · -- the birth
        subst hif
        obtain rfl : ao = xf := Option.some.inj (hao.symm.trans hxf)
        have hpf : pend = false := by
          cases pend with
          | false => rfl
          | true => have := (hS.hfl.1 rfl).1; rw [hun] at this; cases this
        subst hpf
        obtain ⟨hlf, rfl⟩ := hS.hfl.2 rfl
        have hpi : p ≤ i := by
          rw [hun] at hlf
          rcases Nat.lt_or_ge i p with h' | h'
          · have : Nat.blt i p = true := by simpa [Nat.blt_eq] using h'
            rw [this] at hlf; cases hlf
          · exact h'
        simp only [chkB, Bool.and_eq_true, List.all_eq_true] at hchB
        obtain ⟨hpt, hpc⟩ := hchB
        have hpx : AV.pures xc = true := by
          have h1 := hbev (fun _ _ _ => none) (⟨0, .lf⟩ : St)
          rw [h1] at hpc
          simp only [St.get_alloc, if_true] at hpc
          exact hpc
        have hopnd : ∀ t ∈ ao.tmps, (TL al (vAt tr) (fun j => listed.getD j false && !(false && Nat.beq j i)) T ops.size).get t = (tmAt tr T' i).get t := by
          intro t ht
          rw [TL_congr (L' := fun x => Nat.blt x i) (fun j hj hw => by
            show (listed.getD j false && !(false && Nat.beq j i)) = Nat.blt j i
            have hgj : al[j]? = some al[j] := List.getElem?_eq_getElem (by omega)
            rw [hgj, Option.bind_some] at hw
            have h1 : hits al[j] ao = true := hits_dst hw (.inl ht)
            simp only [Bool.false_and, Bool.not_false, Bool.and_true]
            rcases Nat.lt_trichotomy j i with hlt | rfl | hgt
            · rw [hbef j (okF_hits hok hlt hao hgj (by rw [h1]; rfl))]; exact (by simpa [Nat.blt_eq] using hlt : Nat.blt j i = true).symm
            · rw [hun]; cases hb : Nat.blt j j with
              | false => rfl
              | true => simp [Nat.blt_eq] at hb
            · rw [haft j (okF_hits hok hgt hgj hao (by rw [h1]; simp)) (by omega)]
              cases hb : Nat.blt j i with
              | false => rfl
              | true => have : j < i := by simpa [Nat.blt_eq] using hb
                        omega), TL_prefix htr i ops.size (by omega), show min ops.size i = i by omega]
        have hT0 : TR ρ0 (restr (tmAt tr T' i) ao.tmps) a1.tmps := by
          intro t v hv
          obtain ⟨hm', hg⟩ := restr_sub hv
          obtain ⟨c, h1, h2⟩ := hS.trq t v (fun h => by cases h) (by rw [hopnd t hm']; exact hg)
          have hpv := hpt t hm'
          rw [hg] at hpv
          exact ⟨c, h1, VR.any hpv h2⟩
        have hev0 : evOper call ao (restr (tmAt tr T' i) ao.tmps) S0 = some (reN 0 (vAt tr i), S0.alloc (.cells xc 0 0 true)) := by
          rw [oper_congr S0 (fun t ht => restr_get ht)]
          exact hbev call S0
        refine oper_sound hcall ho hcao hT0 (sim0 w1) hev0 fun ρ' c w2 _ hvc hS2 => ?_
        have hv0 : reN 0 (vAt tr i) = .ptr (some ⟨0, 0, 0, xc.length⟩) ∨ ∃ len e, reN 0 (vAt tr i) = .slice (some (0, 0, 0)) len e none := by
          rcases hvf with h1 | ⟨len, e, h1⟩
          · rw [h1]; exact .inl rfl
          · rw [h1]; exact .inr ⟨len, e, rfl⟩
        obtain ⟨L, ob, hh1, hh2, G⟩ := Gho.of_sim hpx hS2 hv0 hvc
        obtain ⟨hs2, hfree⟩ := hS.sim.lay hS2.below hh2 hh1
        refine ih (listed.setIfInBounds i true) true (bb.lay L.blk ob) ρ1 (a1.put o.dst c) w2 p hle (by simpa using hsz) hcnt' hcl' (by rw [put_size]; exact hn) (by rw [put_defers]; exact hdf)
          ⟨hS.hp, fun j y hj hy hne => by rw [getD_set_ne false (Ne.symm hne)]; exact hS.hh j y hj hy hne, ⟨fun _ => ⟨hseti, hpi⟩, fun h => by cases h⟩, hs2, fun t v hne hv => ?_, fun _ => ⟨L, ob, xc, c, rfl, hfree, G, hstf, hre, fun d hd => ?_⟩, fun _ k y xf' hk hxf' hlt hh' => ?_⟩
        · have hd : o.dst ≠ some t := by
            have := hne rfl
            rw [hao] at this
            rw [← hdst]; exact this
          obtain ⟨c', h1, h2⟩ := hS.trq t v (fun h => by cases h) (by
            rw [← hv]
            refine TL_congr fun j hj _ => ?_
            show (listed.getD j false && !(false && Nat.beq j i)) = ((listed.setIfInBounds i true).getD j false && !(true && Nat.beq j i))
            by_cases hji : j = i
            · subst hji; rw [hun]; simp
            · have : Nat.beq j i = false := by cases hb : Nat.beq j i with | false => rfl | true => exact absurd (Nat.eq_of_beq_eq_true hb) hji
              rw [getD_set_ne false (Ne.symm hji), this]
              simp)
          refine ⟨c', ?_, h2⟩
          cases ho2 : o.dst with
          | none => simpa [Act.put] using h1
          | some d =>
            have hne : d ≠ t := fun e => hd (by rw [ho2, e])
            simp only [Act.put]
            rw [Array.getElem?_setIfInBounds_ne hne]; exact h1
        · rw [hao, Option.bind_some, hdst] at hd
          have := hdn d hd
          simp [hd, Act.put, show d < a1.tmps.size from Nat.lt_of_lt_of_le this hn]
        · rw [hao] at hxf'
          cases hxf'
          rw [getD_set_ne false (by omega)]
          exact haft k (okF_hits hok hlt hk hao (by rw [hh']; rfl)) (by rw [← hN]; exact (List.getElem?_eq_some_iff.1 hk).1)
      · -- another one
        have allb : before bs al f i = true → pend = true → False := fun hb hp => hnm hp fun j x hj hx hh => hbef j (before_spec hb hj hx hh)
        have hitf : hits xf ao = true → pend = true → False := by
          intro hh hp
          rcases Nat.lt_or_gt_of_ne hif with hlt | hgt
          · have h1 := okF_hits hok hlt hxf hao (by rw [hh]; simp)
            have h2 := haft f h1 hfN
            rw [(hS.hfl.1 hp).1] at h2; cases h2
          · exact allb (okU_spec hou hxf hao hgt hh) hp
        have beqf : ∀ j, j ≠ f → Nat.beq j f = false := fun j hj => by cases hb : Nat.beq j f with | false => rfl | true => exact absurd (Nat.eq_of_beq_eq_true hb) hj
        have writers : ∀ t, (t ∈ ao.tmps ∨ ao.dst = some t) → ∀ j, j < ops.size → j ≠ i → (al[j]?).bind (·.dst) = some t → (listed.getD j false && !(pend && Nat.beq j f)) = Nat.blt j i := by
          intro t ht j hj hne hw
          have hgj : al[j]? = some al[j] := List.getElem?_eq_getElem (by omega)
          rw [hgj, Option.bind_some] at hw
          have h1 : hits al[j] ao = true := hits_dst hw ht
          have hpz : (pend && Nat.beq j f) = false := by
            by_cases hjf : j = f
            · subst hjf
              rw [hxf] at hgj
              cases hgj
              cases hpd : pend with
              | false => rfl
              | true => exact (hitf h1 hpd).elim
            · rw [beqf j hjf]; simp
          rw [hpz]
          simp only [Bool.not_false, Bool.and_true]
          rcases Nat.lt_or_gt_of_ne hne with hji | hij
          · rw [hbef j (okF_hits hok hji hao hgj (by rw [h1]; rfl))]; exact (by simpa [Nat.blt_eq] using hji : Nat.blt j i = true).symm
          · rw [haft j (okF_hits hok hij hgj hao (by rw [h1]; simp)) hj]
            cases hb : Nat.blt j i with
            | false => rfl
            | true => have : j < i := by simpa [Nat.blt_eq] using hb
                      omega
        have hopnd : ∀ t ∈ ao.tmps, (TL al (vAt tr) (fun j => listed.getD j false && !(pend && Nat.beq j f)) T ops.size).get t = (tmAt tr T' i).get t := by
          intro t ht
          rw [TL_congr (L' := fun x => Nat.blt x i) (fun j hj hw => by
            show (listed.getD j false && !(pend && Nat.beq j f)) = Nat.blt j i
            by_cases hne : j = i
            · subst hne; rw [hun]; cases hb : Nat.blt j j with
              | false => rfl
              | true => simp [Nat.blt_eq] at hb
            · exact writers t (.inl ht) j hj hne hw), TL_prefix htr i ops.size (by omega), show min ops.size i = i by omega]
        have hT1 : TR ρ1 (restr (TL al (vAt tr) (fun j => listed.getD j false && !(pend && Nat.beq j f)) T ops.size) ao.tmps) a1.tmps := by
          intro t v hv
          obtain ⟨hm', hg⟩ := restr_sub hv
          refine hS.trq t v (fun hp he => ?_) hg
          rw [hxf, Option.bind_some] at he
          exact hitf (hits_dst he (.inl hm')) hp
        obtain ⟨ev1, ev2, ev3⟩ := t4 i ao hao
        have hev : ∃ p', p' ≤ ops.size ∧ evOper call ao (tmAt tr T' i) (stAt tr S' p) = some (vAt tr i, stAt tr S' p') ∧
            (∀ j x, al[j]? = some x → x.op.heavy = true → j ≠ f → ((listed.setIfInBounds i true).getD j false = true ↔ j < p')) ∧ (pend = true → p' ≤ f) ∧ (pend = false → Nat.blt f p' = Nat.blt f p) := by
          have old : ao.op.heavy = false → (∀ j x, al[j]? = some x → x.op.heavy = true → j ≠ f → ((listed.setIfInBounds i true).getD j false = true ↔ j < p)) := by
            intro hh j x hgj hx hjf
            have hne : i ≠ j := fun e => by subst e; rw [hgj] at hao; cases hao; rw [hh] at hx; cases hx
            rw [getD_set_ne false hne]
            exact hS.hh j x hgj hx hjf
          have up : ∀ (d : Nat), i + d ≤ ops.size → (∀ j x, i ≤ j → j < i + d → al[j]? = some x → x.op.heavy = true → (∃ y, evOper call ao (tmAt tr T' i) (stAt tr S' (j + 1)) = some (vAt tr i, y) ∧ y = stAt tr S' (j + 1))) → ao.op.heavy = false →
              evOper call ao (tmAt tr T' i) (stAt tr S' (i + d)) = some (vAt tr i, stAt tr S' (i + d)) := by
            intro d
            induction d with
            | zero => intro _ _ hh; rw [Nat.add_zero]; rw [ev1, hsat i ao hao hh]
            | succ d ihd =>
              intro hd hy hh
              have hg : al[i + d]? = some al[i + d] := List.getElem?_eq_getElem (by omega)
              cases hx : (al[i + d]).op.heavy with
              | true =>
                obtain ⟨y, h1, rfl⟩ := hy (i + d) _ (by omega) (by omega) hg hx
                exact h1
              | false =>
                have := ihd (by omega) (fun j x h1 h2 => hy j x h1 (by omega)) hh
                rw [← Nat.add_assoc, hsat (i + d) _ hg hx]
                exact this
          have dn : ∀ (d : Nat), d ≤ i → (∀ j x, i - d ≤ j → j < i → al[j]? = some x → x.op.heavy = true → evOper call ao (tmAt tr T' i) (stAt tr S' j) = some (vAt tr i, stAt tr S' j)) → ao.op.heavy = false →
              evOper call ao (tmAt tr T' i) (stAt tr S' (i - d)) = some (vAt tr i, stAt tr S' (i - d)) := by
            intro d
            induction d with
            | zero => intro _ _ hh; rw [Nat.sub_zero]; rw [ev1, hsat i ao hao hh]
            | succ d ihd =>
              intro hd hy hh
              have hg : al[i - (d + 1)]? = some al[i - (d + 1)] := List.getElem?_eq_getElem (by omega)
              cases hx : (al[i - (d + 1)]).op.heavy with
              | true => exact hy _ _ (Nat.le_refl _) (by omega) hg hx
              | false =>
                have := ihd (by omega) (fun j x h1 h2 => hy j x (by omega) h2) hh
                have e1 := hsat (i - (d + 1)) _ hg hx
                rw [show i - (d + 1) + 1 = i - d by omega] at e1
                rw [← e1]
                exact this
          cases hh : ao.op.heavy with
          | false =>
            refine ⟨p, hS.hp, ?_, old hh, fun hp => (hS.hfl.1 hp).2, fun _ => rfl⟩
            cases hr : ao.op.reads with
            | false => exact oper_light hh hr ev1 _
            | true =>
              rcases Nat.le_total i p with hip | hip
              · have := up (p - i) (by have := hS.hp; omega) (fun j x h1 h2 hgj hx => by
                  have hne : j ≠ i := fun e => by subst e; rw [hgj] at hao; cases hao; rw [hh] at hx; cases hx
                  have hj : j < ops.size := by have := (List.getElem?_eq_some_iff.1 hgj).1; omega
                  have hl : listed.getD j false = true := by
                    by_cases hjf : j = f
                    · subst hjf
                      cases hpd : pend with
                      | true => have := (hS.hfl.1 hpd).2; omega
                      | false => rw [(hS.hfl.2 hpd).1]; simpa [Nat.blt_eq] using (show j < p by omega)
                    · exact (hS.hh j x hgj hx hjf).2 (by omega)
                  refine ⟨_, hag i j ao (i, j + 1) hao hr (by omega) ?_ rfl, rfl⟩
                  have hb : (bs.getD j 0).testBit i = false := by
                    cases hb : (bs.getD j 0).testBit i with
                    | false => rfl
                    | true => rw [haft j hb hj] at hl; cases hl
                  have hb2 : Nat.blt j i = false := by
                    cases hb2 : Nat.blt j i with
                    | false => rfl
                    | true => have : j < i := by simpa [Nat.blt_eq] using hb2
                              omega
                  have hb3 : (Nat.beq j f && Nat.blt f i) = false := by
                    by_cases hjf : j = f
                    · subst hjf; rw [hb2]; simp
                    · rw [beqf j hjf]; rfl
                  simp only [planF1, hb3, cond_false, plan1, hgj, hx, hb, hb2, cond_true]) hh
                rw [show i + (p - i) = p by omega] at this
                exact this
              · have := dn (i - p) (by omega) (fun j x h1 h2 hgj hx => by
                  have hj : j < ops.size := by have := (List.getElem?_eq_some_iff.1 hgj).1; omega
                  have hb2 : Nat.blt j i = true := by simpa [Nat.blt_eq] using h2
                  refine hag i j ao (i, j) hao hr (by omega) ?_ rfl
                  by_cases hjf : j = f
                  · subst hjf
                    have hq : ((bs.getD i 0).testBit j && before bs al j i) = false := by
                      cases hq : (bs.getD i 0).testBit j && before bs al j i with
                      | false => rfl
                      | true =>
                        exfalso
                        simp only [Bool.and_eq_true] at hq
                        have h3 := hbef j hq.1
                        cases hpd : pend with
                        | true => exact allb hq.2 hpd
                        | false =>
                          rw [(hS.hfl.2 hpd).1] at h3
                          have : j < p := by simpa [Nat.blt_eq] using h3
                          omega
                    simp only [planF1, Nat.beq_refl, hb2, Bool.and_self, cond_true, hq, cond_false]
                  · have hl : listed.getD j false ≠ true := fun e => by have := (hS.hh j x hgj hx hjf).1 e; omega
                    have hb : (bs.getD i 0).testBit j = false := by
                      cases hb : (bs.getD i 0).testBit j with
                      | false => rfl
                      | true => exact absurd (hbef j hb) hl
                    simp only [planF1, beqf j hjf, Bool.false_and, cond_false, plan1, hgj, hx, hb, hb2, cond_true]) hh
                rw [show i - (i - p) = p by omega] at this
                exact this
          | true =>
            have low : ∀ j x, j < i → al[j]? = some x → x.op.heavy = true → listed.getD j false = true := fun j x hj hgj hx => hbef j (okF_heavy hok hj hif hao hgj hh hx)
            have hfi : f < i → pend = false := fun hlt => by
              cases hpd : pend with
              | false => rfl
              | true => exact (hnm hpd fun j x hj hx hy => low j x (by omega) hx hy).elim
            have hip : p ≤ i := by
              rcases Nat.lt_or_ge i p with h' | h'
              · have := (hS.hh i ao hao hh hif).2 h'; rw [hun] at this; cases this
              · exact h'
            have ffp : f < i → f < p := fun hlt => by
              have h1 := low f xf hlt hxf hhf
              rw [(hS.hfl.2 (hfi hlt)).1] at h1
              simpa [Nat.blt_eq] using h1
            have hpi : stAt tr S' p = stAt tr S' i := by
              have : ∀ d, p + d ≤ i → stAt tr S' (p + d) = stAt tr S' p := by
                intro d
                induction d with
                | zero => intro _; rfl
                | succ d ihd =>
                  intro hd
                  rw [← ihd (by omega), ← Nat.add_assoc]
                  have hg : al[p + d]? = some al[p + d] := List.getElem?_eq_getElem (by omega)
                  refine hsat (p + d) _ hg ?_
                  cases hx : (al[p + d]).op.heavy with
                  | false => rfl
                  | true =>
                    exfalso
                    have h1 := low (p + d) _ (by omega) hg hx
                    by_cases hjf : p + d = f
                    · have := ffp (by omega); omega
                    · have := (hS.hh (p + d) _ hg hx hjf).1 h1; omega
              have := this (i - p) (by omega)
              rw [show p + (i - p) = i by omega] at this
              exact this.symm
            refine ⟨i + 1, by omega, by rw [hpi]; exact ev1, fun j x hgj hx hjf => ?_, fun hp => ?_, fun hp => ?_⟩
            · have hj : j < ops.size := by have := (List.getElem?_eq_some_iff.1 hgj).1; omega
              by_cases hne : j = i
              · subst hne
                simp [hil]
              · rw [getD_set_ne false (Ne.symm hne)]
                rcases Nat.lt_or_gt_of_ne hne with hji | hij
                · exact ⟨fun _ => by omega, fun _ => low j x hji hgj hx⟩
                · rw [haft j (okF_heavy hok hij hjf hgj hao hx hh) hj]
                  constructor
                  · intro h; cases h
                  · intro h; omega
            · rcases Nat.lt_or_gt_of_ne hif with hlt | hgt
              · omega
              · have := hfi hgt; rw [hp] at this; cases this
            · rcases Nat.lt_or_gt_of_ne hif with hlt | hgt
              · have a1' : Nat.blt f (i + 1) = false := by
                  cases hb : Nat.blt f (i + 1) with
                  | false => rfl
                  | true => have : f < i + 1 := by simpa [Nat.blt_eq] using hb
                            omega
                have a2' : Nat.blt f p = false := by
                  cases hb : Nat.blt f p with
                  | false => rfl
                  | true => have : f < p := by simpa [Nat.blt_eq] using hb
                            omega
                rw [a1', a2']
              · have h1 := ffp hgt
                rw [(by simpa [Nat.blt_eq] using (show f < i + 1 by omega) : Nat.blt f (i + 1) = true), (by simpa [Nat.blt_eq] using h1 : Nat.blt f p = true)]
        obtain ⟨p', hp', hev, hheavy', hpd1, hpd2⟩ := hev
        rw [← oper_congr (stAt tr S' p) (fun t ht => (restr_get ht).trans (hopnd t ht))] at hev
        refine oper_sound hcall ho hcao hT1 hS.sim hev fun ρ2 c w2 hle2 hvc hS2 => ?_
        refine ih (listed.setIfInBounds i true) pend bb ρ2 (a1.put o.dst c) w2 p' (Rho.le_trans hle hle2) (by simpa using hsz) hcnt' hcl' (by rw [put_size]; exact hn) (by rw [put_defers]; exact hdf)
          ⟨hp', hheavy', ⟨fun hp => ⟨by rw [getD_set_ne false hif]; exact (hS.hfl.1 hp).1, hpd1 hp⟩, fun hp => ⟨by rw [getD_set_ne false hif, hpd2 hp]; exact (hS.hfl.2 hp).1, (hS.hfl.2 hp).2⟩⟩, hS2, fun t v hne hv => ?_, fun hp => ?_, fun hp k y xf' hk hxf' hlt hh' => ?_⟩
        · by_cases hd : o.dst = some t
          · have hd' : ao.dst = some t := by rw [hdst]; exact hd
            have : (TL al (vAt tr) (fun j => (listed.setIfInBounds i true).getD j false && !(pend && Nat.beq j f)) T ops.size).get t = some (vAt tr i) := by
              rw [TL_congr (L' := fun x => Nat.blt x (i + 1)) (fun j hj hw => by
                show ((listed.setIfInBounds i true).getD j false && !(pend && Nat.beq j f)) = Nat.blt j (i + 1)
                by_cases hne : j = i
                · subst hne
                  rw [show Nat.blt j (j + 1) = true by simp [Nat.blt_eq], hseti, beqf j hif]
                  simp
                · rw [getD_set_ne false (Ne.symm hne), writers t (.inr hd') j hj hne hw]
                  rw [Bool.eq_iff_iff]
                  simp only [Nat.blt_eq]
                  omega), TL_prefix htr (i + 1) ops.size (by omega), show min ops.size (i + 1) = i + 1 by omega, ev2, hd']
              simp [putD, Tr.get_set]
            rw [this] at hv
            cases hv
            have := hdn t hd
            exact ⟨c, by simp [hd, Act.put, show t < a1.tmps.size from Nat.lt_of_lt_of_le this hn], hvc⟩
          · have hd' : ao.dst ≠ some t := by rw [hdst]; exact hd
            have : (TL al (vAt tr) (fun j => (listed.setIfInBounds i true).getD j false && !(pend && Nat.beq j f)) T ops.size).get t = (TL al (vAt tr) (fun j => listed.getD j false && !(pend && Nat.beq j f)) T ops.size).get t :=
              TL_congr fun j hj hw => by
                have hne : i ≠ j := fun e => by subst e; rw [hao] at hw; exact hd' hw
                rw [getD_set_ne false hne]
            rw [this] at hv
            obtain ⟨c', h1, h2⟩ := hS.trq t v hne hv
            refine ⟨c', ?_, VR.mono hle2 h2⟩
            cases ho2 : o.dst with
            | none => simpa [Act.put] using h1
            | some d =>
              have hne : d ≠ t := fun e => hd (by rw [ho2, e])
              simp only [Act.put]
              rw [Array.getElem?_setIfInBounds_ne hne]; exact h1
        · obtain ⟨L, ob, x, c0, g1, g2, g3, g4, g5, g6⟩ := hS.gho hp
          refine ⟨L, ob, x, c0, g1, g2, g3, g4, g5, fun d hd => ?_⟩
          have h1 := g6 d hd
          rw [hxf, Option.bind_some] at hd
          cases ho2 : o.dst with
          | none => simpa [Act.put] using h1
          | some d' =>
            have hne : d' ≠ d := fun e => by
              subst e
              exact hitf (hits_dst hd (.inr (by rw [hdst]; exact ho2))) hp
            simp only [Act.put]
            rw [Array.getElem?_setIfInBounds_ne hne]; exact h1
        · by_cases hki : k = i
          · subst hki
            rw [hxf] at hxf'
            cases hxf'
            rw [hao] at hk
            cases hk
            exact (hitf hh' hp).elim
          · rw [getD_set_ne false (Ne.symm hki)]
            exact hS.later hp k y xf' hk hxf' hlt hh'
  refine key ops.size (Array.replicate ops.size false) false w0 ρ a _ 0 (Rho.le_refl ρ) (by simp) ?_ ?_ h.sz h.df ⟨Nat.zero_le _, fun i x hi _ _ => ?_, ⟨fun h => (by cases h), fun _ => ⟨?_, rfl⟩⟩, ?_, fun t v _ hv => ?_, fun h => (by cases h), fun h => by cases h⟩
  · exact Nat.le_trans List.count_le_length (by simp)
  · intro j o hl
    exfalso
    rcases Nat.lt_or_ge j ops.size with hlt | hge <;> simp_all
  · have : i < ops.size := by have := (List.getElem?_eq_some_iff.1 hi).1; omega
    simp [this]
  · simp [hfN]; rfl
  · rw [t3]
    exact h.sim.drawn _
  · refine h.tr t v ?_
    rw [← hv, TL_congr (L' := fun x => Nat.blt x 0) (fun i hi _ => by simp [hi]; rfl), TL_prefix htr 0 ops.size (by omega), show min ops.size 0 = 0 by omega, t2]
theorem draw_sound {pl : Plan} (hcall : CallOk P call) (hm : P.follows .mixedOrders = true) (hc : cOps P n ops ops.toList = some al) (hd : cDraw ops.toList al = some pl) (he : evDraw call al pl T S = some (T', S'))
    {ρ : Rho} {a : Act} {w : World} (h : Rel B w0 n ρ T S a w) {Q : Exit → Act → World → Prop} (hQ : ∀ ρ' a' w', ρ.le ρ' → Rel B w0 n ρ' T' S' a' w' → Q .normal a' w') (id : Nat) : (Code.region id ops true).wp P Q a w := by
  unfold cDraw at hd
  split at hd
  · rename_i p hp
    cases hd
    exact draw_sound0 hcall hm hc hp he h hQ id
  · rw [Option.bind_eq_some_iff] at hd
    obtain ⟨f, _, hd⟩ := hd
    cases hq : lows ops.toList 0 && okF (masks ops.toList []) al f && okU (masks ops.toList []) al f && isF al f with
    | false => rw [hq] at hd; cases hd
    | true =>
      rw [hq, cond_true] at hd
      cases hd
      simp only [Bool.and_eq_true] at hq
      obtain ⟨⟨⟨h1, h2⟩, h3⟩, h4⟩ := hq
      exact draw_soundF hcall hm hc h1 h2 h3 h4 he h hQ id
end
end Go.Proofs.YtajoogahcgbohaaGreatA
