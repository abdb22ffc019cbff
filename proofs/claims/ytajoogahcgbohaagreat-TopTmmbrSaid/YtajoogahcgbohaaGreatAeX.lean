/- An abstract evaluator, part X: a region whose order is drawn comes to what the text's order comes to. -/
import Derived.Test.YtajoogahcgbohaaGreatAeGh
set_option linter.unusedVariables false
set_option linter.unusedSimpArgs false
namespace Go.Proofs.YtajoogahcgbohaaGreatA
open Go.RowKit

/-- How a frame and a world stand to temporaries and a state. -/
structure Rel (B : Nat) (w0 : Base) (n : Nat) (ρ : Rho) (T : Tm) (S : St) (a : Act) (w : World) : Prop where
  tr : TR ρ T a.tmps
  sz : n ≤ a.tmps.size
  df : a.defers = []
  sim : Sim B w0 ρ S w
theorem cOps_spec {P : Program} {n : Nat} {ops : Array Oper} : ∀ {l : List Oper} {al : List AOper}, cOps P n ops l = some al → al.length = l.length ∧ ∀ (i : Nat) o, l[i]? = some o → ∃ ao, al[i]? = some ao ∧ cOper P n ops o = some ao
  | [], al, h => by cases h; exact ⟨rfl, fun i o h => by simp at h⟩
  | o :: r, al, h => by
    simp only [cOps, Option.bind_eq_some_iff, Option.map_eq_some_iff] at h
    obtain ⟨x, hx, r', hr, rfl⟩ := h
    obtain ⟨h1, h2⟩ := cOps_spec hr
    refine ⟨by simp [h1], fun i o' hi => ?_⟩
    cases i with
    | zero => simp only [List.getElem?_cons_zero, Option.some.injEq] at hi; subst hi; exact ⟨x, rfl, hx⟩
    | succ i => exact h2 i o' (by simpa using hi)
section
variable {P : Program} {B : Nat} {w0 : Base} {n : Nat} {T T' : Tm} {S S' : St} {call : Nat → List AV → St → Option (AV × St)} {ops : Array Oper} {al : List AOper} {pl : Plan}
theorem draw_sound0 (hcall : CallOk P call) (hm : P.follows .mixedOrders = true) (hc : cOps P n ops ops.toList = some al) (hd : cDraw0 ops.toList al = some pl) (he : evDraw call al pl T S = some (T', S'))
    {ρ : Rho} {a : Act} {w : World} (h : Rel B w0 n ρ T S a w) {Q : Exit → Act → World → Prop} (hQ : ∀ ρ' a' w', ρ.le ρ' → Rel B w0 n ρ' T' S' a' w' → Q .normal a' w') (id : Nat) : (Code.region id ops true).wp P Q a w := by
  -- what is known ahead
  obtain ⟨hlen, hops⟩ := cOps_spec hc
  have hN : al.length = ops.size := by rw [hlen]; simp
  simp only [cDraw0] at hd
  cases hck : lows ops.toList 0 && okAll (masks ops.toList []) al with
  | false => rw [hck] at hd; cases hd
  | true =>
  rw [hck, cond_true] at hd
  cases hd
  simp only [Bool.and_eq_true] at hck
  obtain ⟨hlow, hok⟩ := hck
  generalize hbs : masks ops.toList [] = bs at *
  have hmask := (masks_spec ops.toList []).2
  rw [hbs] at hmask
  simp only [List.length_nil, Nat.zero_add] at hmask
  have hlow' : ∀ (k : Nat) o, ops[k]? = some o → ∀ e ∈ o.after, Region.binds .any e = true → e.on < k := fun k o hk e he hb => by
    have := lows_spec hlow k o (by simpa using hk) e he hb; omega
  simp only [evDraw, Option.bind_eq_some_iff] at he
  obtain ⟨⟨tr, Tn, Sn⟩, htr, he⟩ := he
  dsimp only at he
  cases hall : (plan bs al).all (chk tr Sn) with
  | false => rw [hall] at he; cases he
  | true =>
  rw [hall, cond_true] at he
  cases he
  obtain ⟨t1, t2, t3, t4⟩ := trace_spec htr
  simp only [List.all_eq_true] at hall
  have hag : ∀ (i j : Nat) x p, al[i]? = some x → x.op.reads = true → j < al.length → plan1 bs al i j = some p → p.1 = i → evOper call x (tmAt tr T' i) (stAt tr S' p.2) = some (vAt tr i, stAt tr S' p.2) := by
    intro i j x p hi hr hj hp hpi
    have := hall p (plan_spec hi hr hj hp)
    simp only [chk] at this
    rw [hpi, (t4 i x hi).2.2] at this
    simp only [reads_birth hr, cond_false] at this
    exact again_eq (reads_light hr) this
  have hsat : ∀ i x, al[i]? = some x → x.op.heavy = false → stAt tr S' (i + 1) = stAt tr S' i := fun i x hi hh => oper_keeps hh (t4 i x hi).1
  -- an order
  refine wp_region_any hm ?_
  have key : ∀ (fuel : Nat) (listed : Array Bool) (ρ1 : Rho) (a1 : Act) (w1 : World) (p : Nat), ρ.le ρ1 → listed.size = ops.size → listed.toList.count false ≤ fuel →
      (∀ j o, listed.getD j false = true → ops[j]? = some o → ∀ e ∈ o.after, Region.binds .any e = true → listed.getD e.on false = true) →
      TR ρ1 (TL al (vAt tr) (fun i => listed.getD i false) T ops.size) a1.tmps → n ≤ a1.tmps.size → a1.defers = [] → Sim B w0 ρ1 (stAt tr S' p) w1 → p ≤ ops.size →
      (∀ i x, al[i]? = some x → x.op.heavy = true → (listed.getD i false = true ↔ i < p)) → wpAny P .any ops Q fuel listed a1 w1 := by
    -- what is known of a set of listed operations
    have bef : ∀ (listed : Array Bool), (∀ j o, listed.getD j false = true → ops[j]? = some o → ∀ e ∈ o.after, Region.binds .any e = true → listed.getD e.on false = true) →
        ∀ j o i, ops[j]? = some o → (∀ e ∈ o.after, Region.binds .any e = true → listed.getD e.on false = true) → (bs.getD j 0).testBit i = true → listed.getD i false = true := by
      intro listed hcl j
      induction j using Nat.strongRecOn with
      | ind j ih =>
        intro o i hj hready hbit
        obtain ⟨e, he, hb, hor⟩ := hmask j o (by simpa using hj) i hbit
        have he' : e ∈ o.after := Array.mem_toList_iff.1 he
        rcases hor with rfl | ⟨hlt, hbit'⟩
        · exact hready e he' hb
        · have hsz : e.on < ops.size := by have := (Array.getElem?_eq_some_iff.1 hj).1; omega
          exact ih e.on hlt _ i (Array.getElem?_eq_getElem hsz) (hcl e.on _ (hready e he' hb) (Array.getElem?_eq_getElem hsz)) hbit'
    have full : ∀ (listed : Array Bool), listed.size = ops.size → Region.ready .any ops listed = [] → ∀ i, i < ops.size → listed.getD i false = true := by
      intro listed hsz hr i
      induction i using Nat.strongRecOn with
      | ind i ih =>
        intro hi
        cases hl : listed.getD i false with
        | true => rfl
        | false =>
          exfalso
          have : i ∈ Region.ready .any ops listed := mem_ready.2 ⟨by
            have hlt : i < listed.size := by omega
            simpa [hlt] using hl, ops[i], Array.getElem?_eq_getElem hi, fun e he hb => by
              have hlt := hlow' i _ (Array.getElem?_eq_getElem hi) e he hb
              exact ih e.on hlt (by omega)⟩
          rw [hr] at this
          cases this
    have done : ∀ (listed : Array Bool) (ρ1 : Rho) (a1 : Act) (w1 : World) (p : Nat), ρ.le ρ1 → listed.size = ops.size → Region.ready .any ops listed = [] →
        TR ρ1 (TL al (vAt tr) (fun i => listed.getD i false) T ops.size) a1.tmps → n ≤ a1.tmps.size → a1.defers = [] → Sim B w0 ρ1 (stAt tr S' p) w1 → p ≤ ops.size →
        (∀ i x, al[i]? = some x → x.op.heavy = true → (listed.getD i false = true ↔ i < p)) → Q .normal a1 w1 := by
      intro listed ρ1 a1 w1 p hle hsz hr hT hn hdf hS hp hheavy
      have hf := full listed hsz hr
      refine hQ ρ1 a1 w1 hle ⟨?_, hn, hdf, ?_⟩
      · intro t v hv
        refine hT t v ?_
        rw [← hv, TL_congr (L' := fun x => Nat.blt x ops.size) (fun i hi _ => by
          show listed.getD i false = Nat.blt i ops.size
          rw [hf i hi]; exact (by simpa [Nat.blt_eq] using hi : Nat.blt i ops.size = true).symm), TL_prefix htr ops.size ops.size (by omega)]
        have : tmAt tr T' (min ops.size ops.size) = T' := by
          unfold tmAt
          rw [List.getElem?_eq_none (by omega)]
        rw [this]
      · have hend : ∀ d, p + d ≤ ops.size → stAt tr S' (p + d) = stAt tr S' p := by
          intro d
          induction d with
          | zero => intro _; rfl
          | succ d ih =>
            intro hd
            rw [← ih (by omega), ← Nat.add_assoc]
            have hg : al[p + d]? = some al[p + d] := List.getElem?_eq_getElem (by omega)
            refine hsat (p + d) _ hg ?_
            cases hh : (al[p + d]).op.heavy with
            | false => rfl
            | true => have := (hheavy (p + d) _ hg hh).1 (hf (p + d) (by omega)); omega
        have h1 := hend (ops.size - p) (by omega)
        have h2 : stAt tr S' (p + (ops.size - p)) = S' := by
          unfold stAt
          rw [List.getElem?_eq_none (by omega)]
        rw [← h1, h2] at hS
        exact hS
    intro fuel
    induction fuel with
    | zero =>
      intro listed ρ1 a1 w1 p hle hsz hcnt hcl hT hn hdf hS hp hheavy
      have hr : Region.ready .any ops listed = [] := by
        apply List.eq_nil_iff_forall_not_mem.2
        intro i hi
        obtain ⟨h0, _⟩ := mem_ready.1 hi
        have hlt : i < listed.size := by
          rcases Nat.lt_or_ge i listed.size with h' | h'
          · exact h'
          · simp [Array.getElem?_eq_none h'] at h0
        have : false ∈ listed.toList := by
          have : listed[i] = false := by simpa [hlt] using h0
          rw [← this]; exact Array.mem_toList_iff.2 (Array.getElem_mem hlt)
        have := List.count_pos_iff.2 this
        omega
      exact ⟨hr, done listed ρ1 a1 w1 p hle hsz hr hT hn hdf hS hp hheavy⟩
    | succ fuel ih =>
      intro listed ρ1 a1 w1 p hle hsz hcnt hcl hT hn hdf hS hp hheavy
      refine ⟨fun hr => done listed ρ1 a1 w1 p hle hsz hr hT hn hdf hS hp hheavy, fun i hi => ?_⟩
      obtain ⟨h0, o, ho, hready⟩ := mem_ready.1 hi
      have hi' : i < ops.size := (Array.getElem?_eq_some_iff.1 ho).1
      have hil : i < listed.size := by omega
      have hun : listed.getD i false = false := by simpa [hil] using h0
      obtain ⟨ao, hao, hcao⟩ := hops i o (by simpa using ho)
      obtain ⟨hdst, hdn⟩ := cOper_dst hcao
      have hbef : ∀ j, (bs.getD i 0).testBit j = true → listed.getD j false = true := fun j hj => bef listed hcl i o j ho hready hj
      have haft : ∀ j, (bs.getD j 0).testBit i = true → j < ops.size → listed.getD j false = false := by
        intro j hj hjs
        cases hl : listed.getD j false with
        | false => rfl
        | true =>
          have := bef listed hcl j _ i (Array.getElem?_eq_getElem hjs) (hcl j _ hl (Array.getElem?_eq_getElem hjs)) hj
          rw [hun] at this; cases this
      -- writers of what it names
      have writers : ∀ t, (t ∈ ao.tmps ∨ ao.dst = some t) → ∀ j, j < ops.size → j ≠ i → (al[j]?).bind (·.dst) = some t → listed.getD j false = Nat.blt j i := by
        intro t ht j hj hne hw
        have hjl : j < al.length := by omega
        have hgj : al[j]? = some al[j] := List.getElem?_eq_getElem hjl
        rw [hgj, Option.bind_some] at hw
        have hhit : hits al[j] ao = true := by
          unfold hits
          rw [hw]
          dsimp only
          rcases ht with ht | ht
          · rw [memN_of ht]; rfl
          · rw [ht]; simp
        rcases Nat.lt_or_gt_of_ne hne with hji | hij
        · have := okAll_spec hok hji hao hgj
          simp only [okPair, hhit, Bool.true_or, Bool.not_true, Bool.false_or] at this
          rw [hbef j this]; exact (by simpa [Nat.blt_eq] using hji : Nat.blt j i = true).symm
        · have := okAll_spec hok hij hgj hao
          simp only [okPair, hhit, Bool.or_true, Bool.true_or, Bool.not_true, Bool.false_or] at this
          rw [haft j this hj]
          cases hb : Nat.blt j i with
          | false => rfl
          | true => have : j < i := by simpa [Nat.blt_eq] using hb
                    omega
      have heavies : ao.op.heavy = true → ∀ j x, al[j]? = some x → x.op.heavy = true → j ≠ i → listed.getD j false = Nat.blt j i := by
        intro hh j x hgj hx hne
        have hj : j < ops.size := by have := (List.getElem?_eq_some_iff.1 hgj).1; omega
        rcases Nat.lt_or_gt_of_ne hne with hji | hij
        · have := okAll_spec hok hji hao hgj
          simp only [okPair, hh, hx, Bool.and_self, Bool.or_true, Bool.not_true, Bool.false_or] at this
          rw [hbef j this]; exact (by simpa [Nat.blt_eq] using hji : Nat.blt j i = true).symm
        · have := okAll_spec hok hij hgj hao
          simp only [okPair, hh, hx, Bool.and_self, Bool.or_true, Bool.not_true, Bool.false_or] at this
          rw [haft j this hj]
          cases hb : Nat.blt j i with
          | false => rfl
          | true => have : j < i := by simpa [Nat.blt_eq] using hb
                    omega
      -- its operands
      have hopnd : ∀ t ∈ ao.tmps, (TL al (vAt tr) (fun i => listed.getD i false) T ops.size).get t = (tmAt tr T' i).get t := by
        intro t ht
        rw [TL_congr (L' := fun x => Nat.blt x i) (fun j hj hw => by
          show listed.getD j false = Nat.blt j i
          by_cases hne : j = i
          · subst hne; rw [hun]; cases hb : Nat.blt j j with
            | false => rfl
            | true => simp [Nat.blt_eq] at hb
          · exact writers t (.inl ht) j hj hne hw), TL_prefix htr i ops.size (by omega), show min ops.size i = i by omega]
      obtain ⟨ev1, ev2, ev3⟩ := t4 i ao hao
      -- states
      have hev : ∃ p', p' ≤ ops.size ∧ evOper call ao (tmAt tr T' i) (stAt tr S' p) = some (vAt tr i, stAt tr S' p') ∧
          (∀ j x, al[j]? = some x → x.op.heavy = true → ((listed.setIfInBounds i true).getD j false = true ↔ j < p')) := by
        have old : ao.op.heavy = false → (∀ j x, al[j]? = some x → x.op.heavy = true → ((listed.setIfInBounds i true).getD j false = true ↔ j < p)) := by
          intro hh j x hgj hx
          have hne : i ≠ j := fun e => by subst e; rw [hgj] at hao; cases hao; rw [hh] at hx; cases hx
          rw [getD_set_ne false hne]
          exact hheavy j x hgj hx
        have up : ∀ (d : Nat), i + d ≤ ops.size → (∀ j x, i ≤ j → j < i + d → al[j]? = some x → x.op.heavy = true → (∃ y, evOper call ao (tmAt tr T' i) (stAt tr S' (j + 1)) = some (vAt tr i, y) ∧ y = stAt tr S' (j + 1))) → ao.op.heavy = false →
            evOper call ao (tmAt tr T' i) (stAt tr S' (i + d)) = some (vAt tr i, stAt tr S' (i + d)) := by
          intro d
          induction d with
          | zero => intro _ _ hh; rw [Nat.add_zero]; rw [ev1, hsat i ao hao hh]
          | succ d ihd =>
            intro hd hy hh
            have hg : al[i + d]? = some al[i + d] := List.getElem?_eq_getElem (by omega)
            cases hx : (al[i + d]).op.heavy with
            | true =>
              obtain ⟨y, h1, rfl⟩ := hy (i + d) _ (by omega) (by omega) hg hx
              exact h1
            | false =>
              have := ihd (by omega) (fun j x h1 h2 => hy j x h1 (by omega)) hh
              rw [← Nat.add_assoc, hsat (i + d) _ hg hx]
              exact this
        have dn : ∀ (d : Nat), d ≤ i → (∀ j x, i - d ≤ j → j < i → al[j]? = some x → x.op.heavy = true → evOper call ao (tmAt tr T' i) (stAt tr S' j) = some (vAt tr i, stAt tr S' j)) → ao.op.heavy = false →
            evOper call ao (tmAt tr T' i) (stAt tr S' (i - d)) = some (vAt tr i, stAt tr S' (i - d)) := by
          intro d
          induction d with
          | zero => intro _ _ hh; rw [Nat.sub_zero]; rw [ev1, hsat i ao hao hh]
          | succ d ihd =>
            intro hd hy hh
            have hg : al[i - (d + 1)]? = some al[i - (d + 1)] := List.getElem?_eq_getElem (by omega)
            cases hx : (al[i - (d + 1)]).op.heavy with
            | true => exact hy _ _ (Nat.le_refl _) (by omega) hg hx
            | false =>
              have := ihd (by omega) (fun j x h1 h2 => hy j x (by omega) h2) hh
              have e1 := hsat (i - (d + 1)) _ hg hx
              rw [show i - (d + 1) + 1 = i - d by omega] at e1
              rw [← e1]
              exact this
        cases hh : ao.op.heavy with
        | false =>
          refine ⟨p, hp, ?_, old hh⟩
          cases hr : ao.op.reads with
          | false => exact oper_light hh hr ev1 _
          | true =>
            rcases Nat.le_total i p with hip | hip
            · have := up (p - i) (by omega) (fun j x h1 h2 hgj hx => by
                have hne : j ≠ i := fun e => by subst e; rw [hgj] at hao; cases hao; rw [hh] at hx; cases hx
                have hl := (hheavy j x hgj hx).2 (by omega)
                have hj : j < ops.size := by have := (List.getElem?_eq_some_iff.1 hgj).1; omega
                refine ⟨_, hag i j ao (i, j + 1) hao hr (by omega) ?_ rfl, rfl⟩
                have hb : (bs.getD j 0).testBit i = false := by
                  cases hb : (bs.getD j 0).testBit i with
                  | false => rfl
                  | true => rw [haft j hb hj] at hl; cases hl
                have hb2 : Nat.blt j i = false := by
                  cases hb2 : Nat.blt j i with
                  | false => rfl
                  | true => have : j < i := by simpa [Nat.blt_eq] using hb2
                            omega
                simp only [plan1, hgj, hx, hb, hb2, cond_true, cond_false]) hh
              rw [show i + (p - i) = p by omega] at this
              exact this
            · have := dn (i - p) (by omega) (fun j x h1 h2 hgj hx => by
                have hl : listed.getD j false ≠ true := fun e => by have := (hheavy j x hgj hx).1 e; omega
                have hj : j < ops.size := by have := (List.getElem?_eq_some_iff.1 hgj).1; omega
                refine hag i j ao (i, j) hao hr (by omega) ?_ rfl
                have hb : (bs.getD i 0).testBit j = false := by
                  cases hb : (bs.getD i 0).testBit j with
                  | false => rfl
                  | true => exact absurd (hbef j hb) hl
                have hb2 : Nat.blt j i = true := by simpa [Nat.blt_eq] using h2
                simp only [plan1, hgj, hx, hb, hb2, cond_true, cond_false]) hh
              rw [show i - (i - p) = p by omega] at this
              exact this
        | true =>
          have hpi : stAt tr S' p = stAt tr S' i := by
            have nohv : ∀ j x, al[j]? = some x → x.op.heavy = true → j ≠ i → (j < i ↔ j < p) := by
              intro j x hgj hx hne
              rw [← hheavy j x hgj hx, heavies hh j x hgj hx hne]
              simp [Nat.blt_eq]
            have hip : ¬ i < p := fun e => by have := (hheavy i ao hao hh).2 e; rw [hun] at this; cases this
            have : ∀ d, p + d ≤ i → stAt tr S' (p + d) = stAt tr S' p := by
              intro d
              induction d with
              | zero => intro _; rfl
              | succ d ihd =>
                intro hd
                rw [← ihd (by omega), ← Nat.add_assoc]
                have hg : al[p + d]? = some al[p + d] := List.getElem?_eq_getElem (by omega)
                refine hsat (p + d) _ hg ?_
                cases hx : (al[p + d]).op.heavy with
                | false => rfl
                | true => have := (nohv (p + d) _ hg hx (by omega)).1 (by omega); omega
            have := this (i - p) (by omega)
            rw [show p + (i - p) = i by omega] at this
            exact this.symm
          refine ⟨i + 1, by omega, by rw [hpi]; exact ev1, fun j x hgj hx => ?_⟩
          by_cases hne : j = i
          · subst hne
            simp [hil]
          · rw [getD_set_ne false (Ne.symm hne), heavies hh j x hgj hx hne]
            simp only [Nat.blt_eq]
            omega
      obtain ⟨p', hp', hev, hheavy'⟩ := hev
      rw [← oper_congr (stAt tr S' p) hopnd] at hev
      refine oper_sound hcall ho hcao hT hS hev fun ρ2 c w2 hle2 hvc hS2 => ?_
      refine ih (listed.setIfInBounds i true) ρ2 (a1.put o.dst c) w2 p' (Rho.le_trans hle hle2) (by simpa using hsz) ?_ ?_ ?_ (by rw [put_size]; exact hn) (by rw [put_defers]; exact hdf) hS2 hp' hheavy'
      · have hlf : listed.toList[i]'(by simpa using hil) = false := by simpa [hil] using h0
        have := List.count_set (l := listed.toList) (i := i) (a := true) (b := false) (by simpa using hil)
        rw [hlf] at this
        simp only [Array.toList_setIfInBounds]
        have hpos : 0 < listed.toList.count false := List.count_pos_iff.2 (by rw [← hlf]; exact List.getElem_mem _)
        simp only [beq_self_eq_true, if_true, show (true == false) = false from rfl, Bool.false_eq_true, if_false] at this
        omega
      · intro j o' hl hj e he hb
        by_cases hne : j = i
        · subst hne
          rw [ho] at hj
          cases hj
          exact getD_set_true (hready e he hb)
        · rw [getD_set_ne false (Ne.symm hne)] at hl
          exact getD_set_true (hcl j o' hl hj e he hb)
      · intro t v hv
        by_cases hd : o.dst = some t
        · have hd' : ao.dst = some t := by rw [hdst]; exact hd
          have : (TL al (vAt tr) (fun j => (listed.setIfInBounds i true).getD j false) T ops.size).get t = some (vAt tr i) := by
            rw [TL_congr (L' := fun x => Nat.blt x (i + 1)) (fun j hj hw => by
              show (listed.setIfInBounds i true).getD j false = Nat.blt j (i + 1)
              by_cases hne : j = i
              · subst hne
                rw [show Nat.blt j (j + 1) = true by simp [Nat.blt_eq]]
                simp [hil]
              · rw [getD_set_ne false (Ne.symm hne), writers t (.inr hd') j hj hne hw]
                rw [Bool.eq_iff_iff]
                simp only [Nat.blt_eq]
                omega), TL_prefix htr (i + 1) ops.size (by omega), show min ops.size (i + 1) = i + 1 by omega, ev2, hd']
            simp [putD, Tr.get_set]
          rw [this] at hv
          cases hv
          have := hdn t hd
          exact ⟨c, by simp [hd, Act.put, show t < a1.tmps.size from Nat.lt_of_lt_of_le this hn], hvc⟩
        · have hd' : ao.dst ≠ some t := by rw [hdst]; exact hd
          have : (TL al (vAt tr) (fun j => (listed.setIfInBounds i true).getD j false) T ops.size).get t = (TL al (vAt tr) (fun j => listed.getD j false) T ops.size).get t :=
            TL_congr fun j hj hw => by
              have hne : i ≠ j := fun e => by subst e; rw [hao] at hw; exact hd' hw
              exact getD_set_ne false hne
          rw [this] at hv
          obtain ⟨c', h1, h2⟩ := hT t v hv
          refine ⟨c', ?_, VR.mono hle2 h2⟩
          cases ho2 : o.dst with
          | none => simpa [Act.put] using h1
          | some d =>
            have hne : d ≠ t := fun e => hd (by rw [ho2, e])
            simp only [Act.put]
            rw [Array.getElem?_setIfInBounds_ne hne]; exact h1
  refine key ops.size (Array.replicate ops.size false) ρ a _ 0 (Rho.le_refl ρ) (by simp) ?_ ?_ ?_ h.sz h.df ?_ (Nat.zero_le _) ?_
  · exact Nat.le_trans List.count_le_length (by simp)
  · intro j o hl
    exfalso
    rcases Nat.lt_or_ge j ops.size with hlt | hge <;> simp_all
  · intro t v hv
    refine h.tr t v ?_
    rw [← hv, TL_congr (L' := fun x => Nat.blt x 0) (fun i hi _ => by simp [hi]; rfl), TL_prefix htr 0 ops.size (by omega), show min ops.size 0 = 0 by omega, t2]
  · rw [t3]
    exact h.sim.drawn _
  · intro i x hi hx
    have : i < ops.size := by have := (List.getElem?_eq_some_iff.1 hi).1; omega
    simp [this]
end
end Go.Proofs.YtajoogahcgbohaaGreatA
