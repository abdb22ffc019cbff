/- An abstract evaluator, part T: every operation that calls nothing is what the evaluator says. -/
import Derived.Test.YtajoogahcgbohaaGreatAeS
set_option linter.unusedVariables false
set_option linter.unusedSimpArgs false
namespace Go.Proofs.YtajoogahcgbohaaGreatA
open Go.RowKit
section
variable {P : Program} {B : Nat} {w0 : Base} {w : World} {ρ : Rho} {S S' : St}
theorem mark_run (h : Sim B w0 ρ S w) {o v i ver minv : Nat} {c : List AV} (hg : S.get o = some (.cells c ver minv true)) {L : Loc} (hL : ρ o v = some L) (hm : minv ≤ v) :
    ∃ w', (markStringish ⟨L.blk, L.at i, none⟩).run P w = .ok () w' ∧ Sim B w0 ρ S w' := by
  have hc : CellsAt B ρ w o c ver minv true := h.obj o _ hg
  obtain ⟨k1, k2, cs, e, fz, k3, k4, k5, k6⟩ := hc.mem v L hL hm
  have hB : B ≤ L.blk := by have := hc.side v L hL; simpa using this
  have hblk := h.heap o v L hL
  have hfz := k6 rfl
  let fz' : Nat × Nat := if fz.1 == fz.2 then (cs.size, cs.size + 1) else (min fz.1 cs.size, max fz.2 (cs.size + 1))
  have hfz' : Fz fz' cs.size := by
    refine .inr ?_
    show cs.size ≤ (if fz.1 == fz.2 then (cs.size, cs.size + 1) else (min fz.1 cs.size, max fz.2 (cs.size + 1))).1
    by_cases hq : fz.1 = fz.2
    · simp [hq]
    · have : (fz.1 == fz.2) = false := by simpa using hq
      rw [this]
      have := hfz.resolve_left hq
      simp; omega
  refine ⟨{ w with heap := w.heap.setIfInBounds L.blk (.cells cs e fz') }, ?_, ?_⟩
  · simp only [markStringish, Sem.run_bind, run_shape, World.shape?, k3, Result.andThen_ok, run_freeze, World.freeze, Nat.one_ne_zero, if_false]
    congr 1
    simp only [World.mk.injEq, and_true, true_and]
    apply Array.ext_getElem?
    intro k
    rw [Array.getElem?_modify, Array.getElem?_setIfInBounds]
    by_cases hk : L.blk = k
    · subst hk
      have k3' : w.heap[L.blk] = Obj.cells cs e fz := by rw [Array.getElem?_eq_getElem hblk] at k3; exact Option.some.inj k3
      obtain ⟨lo, hi⟩ := fz
      simp [k3', hblk, fz']
    · simp [hk]
  · refine h.upd o (.cells c ver minv true) (fun j => by by_cases e : j = o <;> simp [e, hg]) (Nat.le_refl _) (h.dom o _ hg) (fun _ _ _ => rfl) (Rho.le_refl _) (Below.set_ h.below hB _) (by simp) ?_ ?_ (fun u L' e' => .inr ⟨u, L', e', rfl⟩) ?_
    · intro b hb
      by_cases hbl : b = L.blk
      · subst hbl; exact .inr ⟨hB, v, L, hL, rfl⟩
      · left; simp [Array.getElem?_setIfInBounds_ne (Ne.symm hbl)]
    · intro u L' e'; simpa using h.heap o u L' e'
    · refine (show CellsAt _ _ _ _ _ _ _ _ from ⟨hc.vers, hc.last, ?_, hc.side, hc.align, hc.atoms⟩)
      intro u L' e' hu
      obtain ⟨q1, q2, cs', e1, fz1, q3, q4, q5, q6⟩ := hc.mem u L' e' hu
      by_cases hbl : L'.blk = L.blk
      · rw [hbl, k3] at q3
        cases q3
        exact ⟨q1, q2, cs, e, fz', by rw [hbl]; simp [hblk], q4, q5, fun _ => hfz'⟩
      · exact ⟨q1, q2, cs', e1, fz1, by simpa [Array.getElem?_setIfInBounds_ne (Ne.symm hbl)] using q3, q4, q5, q6⟩
theorem conv_sound {T : Tm} {a : Act} (hT : TR ρ T a.tmps) (h : Sim B w0 ρ S w) {s d : TypeId} {x : Operand} {ao : AOp} (hc : cOp P (.convert s d x) = some ao) {v : AV} (he : evOp ao T S = some (v, S')) :
    Out B w0 ρ S' v ((do pure (Next.value (← convert s d (a.eval x))) : Sem Next).run P w) := by
  simp only [cOp, Option.bind_eq_some_iff] at hc
  obtain ⟨x', hx', hc⟩ := hc
  split at hc
  · rename_i k k' hs hd
    cases hc
    simp only [evOp, Option.bind_eq_some_iff] at he
    obtain ⟨xa, hxa, he⟩ := he
    have hxv := cX_sound hT hx' hxa
    generalize hgx : a.eval x = cx at hxv
    cases hxv with
    | @int kk n hw =>
      cases he
      exact Out.val h (.int (wf_wrap _ _)) (by simp [convert, run_und hs, run_und hd, Conv.intToInt])
    | _ => simp [aConv] at he
  · rename_i k hs hd
    cases hc
    simp only [evOp, Option.bind_eq_some_iff] at he
    obtain ⟨xa, hxa, he⟩ := he
    have hxv := cX_sound hT hx' hxa
    generalize hgx : a.eval x = cx at hxv
    cases hxv with
    | @int kk n hw =>
      cases he
      exact Out.val h (.str rfl) (by simp [convert, run_und hs, run_und hd, Conv.intToString])
    | _ => simp [aConv] at he
  · rename_i hs hd
    cases hc
    simp only [evOp, Option.bind_eq_some_iff] at he
    obtain ⟨xa, hxa, he⟩ := he
    have hxv := cX_sound hT hx' hxa
    generalize hgx : a.eval x = cx at hxv
    cases hxv with
    | @str l bs hb =>
      cases he
      exact Out.val h (.str hb) (by simp [convert, run_und hs, run_und hd])
    | _ => simp [aConv] at he
  · rename_i e hs hd
    split at hc
    · rename_i hu
      cases hc
      simp only [evOp, Option.bind_eq_some_iff] at he
      obtain ⟨xa, hxa, he⟩ := he
      have hxv := cX_sound hT hx' hxa
      generalize hgx : a.eval x = cx at hxv
      cases hxv with
      | @str l bs hb =>
        subst hb
        cases he
        have := out_strBytes (P := P) h bs e
        obtain ⟨ρ', c, w', k1, k2, k3, k4⟩ := this
        refine ⟨ρ', c, w', k1, k2, k3, ?_⟩
        have e1 : (convert s d (.string bs)).run P w = (Conv.stringToBytes e bs).run P w := by simp [convert, run_und hs, run_und hd, run_und hu]
        simpa only [Sem.run_bind, e1] using k4
      | _ => simp [aConv] at he
    · rename_i hu
      cases hc
      simp only [evOp, Option.bind_eq_some_iff] at he
      obtain ⟨xa, hxa, he⟩ := he
      have hxv := cX_sound hT hx' hxa
      generalize hgx : a.eval x = cx at hxv
      cases hxv with
      | @str l bs hb =>
        subst hb
        cases he
        have := out_strRunes (P := P) h bs e
        obtain ⟨ρ', c, w', k1, k2, k3, k4⟩ := this
        refine ⟨ρ', c, w', k1, k2, k3, ?_⟩
        have e1 : (convert s d (.string bs)).run P w = (Conv.stringToRunes e bs).run P w := by simp [convert, run_und hs, run_und hd, run_und hu]
        simpa only [Sem.run_bind, e1] using k4
      | _ => simp [aConv] at he
    · cases hc
  · rename_i e hs hd
    split at hc
    · rename_i hu
      cases hc
      simp only [evOp, Option.bind_eq_some_iff] at he
      obtain ⟨xa, hxa, he⟩ := he
      obtain ⟨rfl, c, h1, h2⟩ := conv_bytes (P := P) h (cX_sound hT hx' hxa) he
      refine Out.val h h2 ?_
      rw [← h1]
      have hv := cX_sound hT hx' hxa
      generalize hgx : a.eval x = cx at hv
      cases hv <;> first | (simp [aConv] at he; done) | simp [convert, run_und hs, run_und hd, run_und hu]
    · rename_i hu
      cases hc
      simp only [evOp, Option.bind_eq_some_iff] at he
      obtain ⟨xa, hxa, he⟩ := he
      obtain ⟨rfl, c, h1, h2⟩ := conv_runes (P := P) h (cX_sound hT hx' hxa) he
      refine Out.val h h2 ?_
      rw [← h1]
      have hv := cX_sound hT hx' hxa
      generalize hgx : a.eval x = cx at hv
      cases hv <;> first | (simp [aConv] at he; done) | simp [convert, run_und hs, run_und hd, run_und hu]
    · cases hc
  · rename_i e0 e hs hd
    split at hc
    · rename_i hsd hu
      cases hc
      simp only [evOp, Option.bind_eq_some_iff] at he
      obtain ⟨xa, hxa, he⟩ := he
      have hxv := cX_sound hT hx' hxa
      generalize hgx : a.eval x = cx at hxv
      cases hxv with
      | @slice o v0 i len esz cap clip L ad hL h0 h1 h2 h3 h4 ha =>
        simp only [aConv] at he
        split at he
        · rename_i c ver minv hg
          cases hb : Nat.ble minv v0 && !Nat.beq len 0 with
          | false => rw [hb] at he; cases he
          | true =>
            rw [hb, cond_true] at he
            simp only [Option.some.injEq, Prod.mk.injEq] at he
            obtain ⟨rfl, rfl⟩ := he
            simp only [Bool.and_eq_true, Bool.not_eq_true', Nat.ble_eq] at hb
            have hlen : len ≠ 0 := fun e => by rw [e] at hb; simp at hb
            have had : ad = ⟨L.blk, L.at i, none⟩ := ha.resolve_left (by omega)
            obtain ⟨w', m1, m2⟩ := mark_run (P := P) (i := i) h hg hL hb.1
            refine Out.of (c := .slice (some ad) len cap) (Rho.le_refl ρ) (.slice hL h0 h1 h2 h3 h4 ha) m2 ?_
            rw [had]
            simp [convert, run_und hs, run_und hd, run_und hu, hsd, m1]
        · cases he
      | _ => simp [aConv] at he
    · cases hc
  · cases hc
/-- 'op' calls no function of the program's. -/
def plainOp (op : Op) : Bool :=
  match op with
  | .call c => match c.callee with | .builtin _ => true | _ => false
  | _ => true
set_option maxHeartbeats 4000000 in
theorem op_sound {o : Oper} {ao : AOp} (hc : cOp P o.op = some ao) (hp : plainOp o.op = true) {T : Tm} {a : Act} (hT : TR ρ T a.tmps) (h : Sim B w0 ρ S w) {v : AV} (he : evOp ao T S = some (v, S')) :
    Out B w0 ρ S' v ((execOp a.eval o).run P w) := by
  obtain ⟨dst, op, type, pos, after, guard⟩ := o
  dsimp only at hc hp
  have mv : ∀ x, (cX x).map AOp.mv = some ao → Out B w0 ρ S' v ((pure (Next.value (a.eval x)) : Sem Next).run P w) := by
    intro x hc
    simp only [Option.map_eq_some_iff] at hc
    obtain ⟨x', hx', rfl⟩ := hc
    simp only [evOp, Option.map_eq_some_iff] at he
    obtain ⟨xa, hxa, he⟩ := he
    cases he
    exact ⟨ρ, a.eval x, w, Rho.le_refl ρ, cX_sound hT hx' hxa, h, .inl rfl⟩
  cases op with
  | move x => exact mv x hc
  | assign x => exact mv x hc
  | pick c x y =>
    simp only [cOp, Option.bind_eq_some_iff, Option.map_eq_some_iff] at hc
    obtain ⟨c', hc', x', hx', y', hy', rfl⟩ := hc
    simp only [evOp, Option.bind_eq_some_iff] at he
    obtain ⟨ca, hca, he⟩ := he
    have hcv := cX_sound hT hc' hca
    generalize hgc : a.eval c = cc at hcv
    cases hcv with
    | @bool b =>
      simp only [Option.map_eq_some_iff] at he
      obtain ⟨r, hr, he⟩ := he
      cases he
      cases b
      · exact ⟨ρ, a.eval y, w, Rho.le_refl ρ, cX_sound hT hy' (by simpa using hr), h, .inl (by simp [execOp, hgc, asBool])⟩
      · exact ⟨ρ, a.eval x, w, Rho.le_refl ρ, cX_sound hT hx' (by simpa using hr), h, .inl (by simp [execOp, hgc, asBool])⟩
    | _ => cases he
  | alloc t =>
    simp only [cOp, Option.bind_eq_some_iff] at hc
    obtain ⟨z, hz, hc⟩ := hc
    split at hc
    · rename_i ha
      cases hc
      cases he
      exact op_alloc h hz ha
    · cases hc
  | box t x =>
    simp only [cOp, Option.map_eq_some_iff] at hc
    obtain ⟨x', hx', rfl⟩ := hc
    simp only [evOp, Option.bind_eq_some_iff] at he
    obtain ⟨xa, hxa, he⟩ := he
    cases ht : xa.tup with
    | true => rw [ht] at he; cases he
    | false =>
      rw [ht] at he
      cases he
      exact out_newVar h t (cX_sound hT hx' hxa) ht
  | build t parts =>
    simp only [cOp, Option.bind_eq_some_iff] at hc
    obtain ⟨z, hz, hc⟩ := hc
    split at hc
    · rename_i ha
      have fin : ∀ ys, ((∃ fs, P.underlying t = some (.struct fs) ∧ (fs.toList.all fun f => (szOf P f.type).isSome) = true ∧ cPartsS P fs parts.toList = some ys) ∨ (∃ m e n, P.underlying t = some (.array m e) ∧ szOf P e = some n ∧ cPartsA n parts.toList = some ys)) → ao = .build z ys → Out B w0 ρ S' v ((execOp a.eval ⟨dst, .build t parts, type, pos, after, guard⟩).run P w) := by
        intro ys hcase hao
        subst hao
        simp only [evOp, Option.bind_eq_some_iff, Option.map_eq_some_iff] at he
        obtain ⟨ps, hps, cs, hcs, he⟩ := he
        cases he
        obtain ⟨co, h1, h2, h3⟩ := build_sound (P := P) (ρ := ρ) hT t parts hz ha hcase hps hcs w
        exact Out.val h (.agg h2 h3) h1
      split at hc
      · rename_i fs hu
        split at hc
        · rename_i hall
          simp only [Option.map_eq_some_iff] at hc
          obtain ⟨ys, hys, rfl⟩ := hc
          exact fin ys (.inl ⟨fs, hu, hall, hys⟩) rfl
        · cases hc
      · rename_i m e hu
        simp only [Option.bind_eq_some_iff, Option.map_eq_some_iff] at hc
        obtain ⟨n, hn, ys, hys, rfl⟩ := hc
        exact fin ys (.inr ⟨m, e, n, hu, hn, hys⟩) rfl
      · cases hc
    · cases hc
  | buildSlice t len parts =>
    simp only [cOp] at hc
    split at hc
    · rename_i e hu
      simp only [Option.bind_eq_some_iff] at hc
      obtain ⟨n, hn, z, hz, hc⟩ := hc
      split at hc
      · rename_i hcond
        obtain ⟨k1, k2, k3, k4⟩ := hcond
        simp only [Option.map_eq_some_iff] at hc
        obtain ⟨ys, hys, rfl⟩ := hc
        simp only [evOp, Option.bind_eq_some_iff, Option.map_eq_some_iff] at he
        obtain ⟨ps, hps, cs, hcs, he⟩ := he
        cases he
        exact op_buildSlice hT h hu hn hz k1 k2 k3 k4 hys hps hcs
      · cases hc
    · cases hc
  | load t x =>
    simp only [cOp, Option.bind_eq_some_iff, Option.map_eq_some_iff] at hc
    obtain ⟨g, hg, n, hn, x', hx', hc⟩ := hc
    cases g with
    | true =>
      cases hc
      simp only [cond_true, evOp, Option.bind_eq_some_iff] at he
      obtain ⟨xa, hxa, he⟩ := he
      have hxv := cX_sound hT hx' hxa
      cases xa with
      | ptr p =>
        cases p with
        | none => cases he
        | some p =>
          dsimp only at he
          cases hb : Nat.ble n p.n with
          | false => rw [hb] at he; cases he
          | true =>
            rw [hb] at he
            simp only [cond_true, Option.map_eq_some_iff] at he
            obtain ⟨l, hl, he⟩ := he
            cases he
            obtain ⟨c, h1, h2⟩ := loadN_sound (P := P) h hg hn hxv hl (Nat.le_of_ble_eq_true hb)
            exact Out.val h h2 h1
      | _ => cases he
    | false =>
      cases hc
      simp only [cond_false, evOp, Option.bind_eq_some_iff] at he
      obtain ⟨xa, hxa, he⟩ := he
      have hxv := cX_sound hT hx' hxa
      cases xa with
      | ptr p =>
        cases p with
        | none => cases he
        | some p =>
          simp only [Option.bind_eq_some_iff] at he
          obtain ⟨l, hl, he⟩ := he
          cases hb : Nat.ble 1 p.n with
          | false => rw [hb] at he; cases he
          | true =>
            rw [hb] at he
            simp only [cond_true, Option.map_eq_some_iff] at he
            obtain ⟨y, hy, he⟩ := he
            cases he
            have hll := rd_length hl
            have : l = [v] := by
              cases l with
              | nil => cases hy
              | cons q l => cases hy; cases l with | nil => rfl | cons => simp at hll
            subst this
            obtain ⟨c, h1, h2⟩ := load1_sound (P := P) h hg hxv hl (Nat.le_of_ble_eq_true hb)
            exact Out.val h h2 h1
      | _ => cases he
  | store t x y =>
    simp only [cOp, Option.bind_eq_some_iff, Option.map_eq_some_iff] at hc
    obtain ⟨n, hn, x', hx', y', hy', rfl⟩ := hc
    simp only [evOp, Option.bind_eq_some_iff] at he
    obtain ⟨xa, hxa, he⟩ := he
    have hxv := cX_sound hT hx' hxa
    cases xa with
    | ptr p =>
      cases p with
      | none => cases he
      | some p =>
        simp only [Option.bind_eq_some_iff] at he
        obtain ⟨ya, hya, he⟩ := he
        split at he
        · rename_i hcond
          obtain ⟨k1, k2, k3⟩ := hcond
          simp only [Option.map_eq_some_iff] at he
          obtain ⟨S2, hS2, he⟩ := he
          cases he
          obtain ⟨w', h1, h2⟩ := store_sound (P := P) h hn hxv (cX_sound hT hy' hya) k1 k2 k3 hS2
          exact ⟨ρ, undef, w', Rho.le_refl ρ, .undef, h2, .inr ⟨by simp [execOp, h1], rfl⟩⟩
        · cases he
    | _ => cases he
  | nilCheck x =>
    simp only [cOp, Option.map_eq_some_iff] at hc
    obtain ⟨x', hx', rfl⟩ := hc
    simp only [evOp, Option.bind_eq_some_iff] at he
    obtain ⟨xa, hxa, he⟩ := he
    have hxv := cX_sound hT hx' hxa
    generalize hgx : a.eval x = cx at hxv
    cases hxv with
    | ptr hL h0 h1 ha =>
      cases he
      exact ⟨ρ, _, w, Rho.le_refl ρ, .ptr hL h0 h1 ha, h, .inl (by simp [execOp, hgx])⟩
    | func hh =>
      cases he
      exact ⟨ρ, _, w, Rho.le_refl ρ, .func hh, h, .inl (by simp [execOp, hgx])⟩
    | iface hh =>
      cases he
      exact ⟨ρ, _, w, Rho.le_refl ρ, .iface hh, h, .inl (by simp [execOp, hgx])⟩
    | _ => cases he
  | binOp op t x y yt =>
    simp only [cOp, Option.bind_eq_some_iff] at hc
    obtain ⟨x', hx', y', hy', hc⟩ := hc
    obtain ⟨et, hao, het⟩ : ∃ et, ao = .bin op et x' y' ∧ (op = .eql ∨ op = .neq → etOf P t = some et) := by
      cases op <;> first
        | (simp only [Option.map_eq_some_iff] at hc; obtain ⟨et, h1, h2⟩ := hc; exact ⟨et, h2.symm, fun _ => h1⟩)
        | (cases hc; exact ⟨_, rfl, fun k => by rcases k with k | k <;> cases k⟩)
    subst hao
    simp only [evOp, Option.bind_eq_some_iff, Option.map_eq_some_iff] at he
    obtain ⟨xa, hxa, ya, hya, r, hr, he⟩ := he
    cases he
    have hxv := cX_sound hT hx' hxa
    have hyv := cX_sound hT hy' hya
    obtain ⟨c, h1, h2⟩ := bin_sound (P := P) (ox := x) (oy := y) hxv hyv het (fun hl e1 e2 => by
      rw [e1] at hxv; rw [e2] at hyv
      simp only [Bool.or_eq_true] at hl ⊢
      rcases hl with hl | hl
      · left
        cases hxv
        have := lit_const hx' hl hxa
        cases x <;> first | rfl | cases this
      · right
        cases hyv
        have := lit_const hy' hl hya
        cases y <;> first | rfl | cases this) hr w
    exact Out.val h h2 h1
  | unOp op t x =>
    simp only [cOp, Option.map_eq_some_iff] at hc
    obtain ⟨x', hx', rfl⟩ := hc
    simp only [evOp, Option.bind_eq_some_iff, Option.map_eq_some_iff] at he
    obtain ⟨xa, hxa, r, hr, he⟩ := he
    cases he
    obtain ⟨c, h1, h2⟩ := un_sound (P := P) (cX_sound hT hx' hxa) hr w
    exact Out.val h h2 h1
  | convert s d x => exact conv_sound hT h hc he
  | makeInterface t x =>
    simp only [cOp] at hc
    split at hc
    · cases hc
    · cases hc
    · rename_i hn1 hn2
      simp only [Option.map_eq_some_iff] at hc
      obtain ⟨x', hx', rfl⟩ := hc
      simp only [evOp, Option.map_eq_some_iff] at he
      obtain ⟨xa, hxa, he⟩ := he
      cases he
      refine Out.val h (.iface (cX_sound hT hx' hxa)) ?_
      cases hu : P.underlying t with
      | none => exact absurd hu hn2
      | some d =>
        simp only [Instr.makeInterface, Sem.run_bind, run_und hu, Result.andThen_ok]
        cases d <;> first | exact absurd hu (hn1 _) | rfl
  | makeFunc fn first caps =>
    cases fn with
    | func f =>
      simp only [cOp] at hc
      split at hc
      · rename_i hf
        simp only [Option.map_eq_some_iff] at hc
        obtain ⟨ys, hys, rfl⟩ := hc
        simp only [evOp, Option.map_eq_some_iff] at he
        obtain ⟨l, hl, he⟩ := he
        cases he
        have hfe : first = #[] := by simpa using hf
        subst hfe
        refine Out.val (c := .func (.func f) #[] (caps.map a.eval)) h (.func ?_) (by simp [Instr.makeFunc])
        have := cXs_sound hT hys hl
        simpa using this
      · cases hc
    | _ => cases hc
  | makeSlice t l c =>
    simp only [cOp] at hc
    split at hc
    · rename_i e hu
      simp only [Option.bind_eq_some_iff] at hc
      obtain ⟨n, hn, by_, hby, z, hz, l', hl', c', hc', hc⟩ := hc
      split at hc
      · rename_i hcond
        obtain ⟨k1, k2, k3⟩ := hcond
        cases hc
        simp only [evOp, Option.bind_eq_some_iff] at he
        obtain ⟨la, hla, he⟩ := he
        have hlv := cX_sound hT hl' hla
        generalize hgl : a.eval l = cl at hlv
        cases hlv with
        | @int kk li hw =>
          cases kk <;> simp only at he <;> try cases he
          simp only [Option.bind_eq_some_iff] at he
          obtain ⟨ca, hca, he⟩ := he
          have hcv := cX_sound hT hc' hca
          generalize hgc : a.eval c = cc at hcv
          cases hcv with
          | @int kk2 ci hw2 =>
            cases kk2 <;> simp only at he <;> try cases he
            split at he
            · rename_i hb
              obtain ⟨b1, b2, b3⟩ := hb
              cases he
              have := op_makeSlice (P := P) h hu hn hby hz k1 k2 k3 hw hw2 b1 b2 b3
              simp only [execOp, hgl, hgc]
              exact this
            · cases he
          | _ => cases he
        | _ => cases he
      · cases hc
    · cases hc
  | slice t x lo hi mx =>
    simp only [cOp, Option.bind_eq_some_iff] at hc
    obtain ⟨x', hx', lo', hlo', hi', hhi', mx', hmx', hc⟩ := hc
    split at hc
    · rename_i hu
      split at hc
      · rename_i hm
        cases hc
        simp only [evOp, Option.bind_eq_some_iff, Option.map_eq_some_iff] at he
        obtain ⟨xa, hxa, l, hl, h', hh', r, hr, he⟩ := he
        cases he
        have hmn : mx = none := by
          cases mx with
          | none => rfl
          | some y =>
            simp only [cXo, Option.map_eq_some_iff] at hmx'
            obtain ⟨y', _, rfl⟩ := hmx'
            simp at hm
        subst hmn
        obtain ⟨c, h1, h2⟩ := cutStr_sound (P := P) (cX_sound hT hx' hxa) hu (evo_sound hT hlo' hl) (evo_sound hT hhi' hh') hr w
        exact Out.val h h2 h1
      · cases hc
    · rename_i e hu
      simp only [Option.map_eq_some_iff] at hc
      obtain ⟨n, hn, rfl⟩ := hc
      simp only [evOp, Option.bind_eq_some_iff, Option.map_eq_some_iff] at he
      obtain ⟨xa, hxa, l, hl, h', hh', m, hm, r, hr, he⟩ := he
      cases he
      obtain ⟨c, h1, h2⟩ := cut_sound (P := P) (cX_sound hT hx' hxa) hu hn (evo_sound hT hlo' hl) (evo_sound hT hhi' hh') (evo_sound hT hmx' hm) hr w
      exact Out.val h h2 h1
    · rename_i n e hu
      split at hc
      · rename_i hm
        simp only [Option.map_eq_some_iff] at hc
        obtain ⟨s, hs, rfl⟩ := hc
        have hmn : mx = none := by
          cases mx with
          | none => rfl
          | some y =>
            simp only [cXo, Option.map_eq_some_iff] at hmx'
            obtain ⟨y', _, rfl⟩ := hmx'
            simp at hm
        subst hmn
        simp only [evOp, Option.bind_eq_some_iff] at he
        obtain ⟨xa, hxa, he⟩ := he
        have hxv := cX_sound hT hx' hxa
        cases xa with
        | ptr p =>
          cases p with
          | none => cases he
          | some p =>
            dsimp only at he
            cases hb : Nat.ble (n * s) p.n with
            | false => rw [hb] at he; cases he
            | true =>
              rw [hb] at he
              simp only [cond_true, Option.bind_eq_some_iff, Option.map_eq_some_iff] at he
              obtain ⟨l0, hl0, lv, hlv, hv, hhv, hh, hhh, l, hl, he⟩ := he
              cases he
              obtain ⟨c, h1, h2⟩ := cutArr_sound (P := P) h hxv hu hs (Nat.le_of_ble_eq_true hb) hl0 (evo_sound hT hlo' hlv) (evo_sound hT hhi' hhv) hhh hl
              exact Out.val h h2 h1
        | _ => cases he
      · cases hc
    · cases hc
  | fieldAddr s x f =>
    simp only [cOp, Option.bind_eq_some_iff] at hc
    obtain ⟨x', hx', hc⟩ := hc
    split at hc
    · rename_i fs hu
      split at hc
      · rename_i fd hfd
        simp only [Option.bind_eq_some_iff] at hc
        obtain ⟨n, hn, hc⟩ := hc
        split at hc
        · rename_i hpos
          cases hc
          simp only [evOp, Option.bind_eq_some_iff] at he
          obtain ⟨xa, hxa, he⟩ := he
          have hxv := cX_sound hT hx' hxa
          cases xa with
          | ptr p =>
            cases p with
            | none => cases he
            | some p =>
              dsimp only at he
              cases hb : (Nat.ble (fd.offset + n) p.n && Nat.ble 1 n) with
              | false => rw [hb] at he; cases he
              | true =>
                rw [hb] at he
                cases he
                simp only [Bool.and_eq_true, Nat.ble_eq] at hb
                obtain ⟨c, h1, h2⟩ := fieldAddr_sound (P := P) hu hfd hn hpos hxv hb.1 w
                exact Out.val h h2 h1
          | _ => cases he
        · cases hc
      · cases hc
    · cases hc
  | field s x f =>
    simp only [cOp, Option.bind_eq_some_iff] at hc
    obtain ⟨x', hx', hc⟩ := hc
    split at hc
    · rename_i fs hu
      split at hc
      · rename_i fd hfd
        simp only [Option.bind_eq_some_iff, Option.map_eq_some_iff] at hc
        obtain ⟨g, hg, n, hn, hc⟩ := hc
        have run : ∀ cs, a.eval x = .agg cs → (Instr.field s (a.eval x) f).run P w = (part fd.type cs fd.offset).run P w := by
          intro cs hcs
          simp only [Instr.field, Sem.run_bind, run_und hu, Result.andThen_ok, hfd, hcs, asAgg, Sem.run_pure]
        cases g with
        | true =>
          cases hc
          simp only [cond_true, evOp, Option.bind_eq_some_iff] at he
          obtain ⟨xa, hxa, he⟩ := he
          have hxv := cX_sound hT hx' hxa
          generalize hgx : a.eval x = cx at hxv
          cases hxv with
          | @agg l cs hv hat =>
            dsimp only at he
            split at he
            · rename_i hle
              cases he
              obtain ⟨c, h1, h2⟩ := partN_sound (P := P) hg hn hv hat hle w
              exact Out.val h h2 ((run cs hgx).trans h1)
            · cases he
          | _ => cases he
        | false =>
          cases hc
          simp only [cond_false, evOp, Option.bind_eq_some_iff] at he
          obtain ⟨xa, hxa, he⟩ := he
          have hxv := cX_sound hT hx' hxa
          generalize hgx : a.eval x = cx at hxv
          cases hxv with
          | @agg l cs hv hat =>
            simp only [Option.map_eq_some_iff] at he
            obtain ⟨y, hy, he⟩ := he
            cases he
            obtain ⟨c, h1, h2⟩ := part1_sound (P := P) hg hv hy w
            exact Out.val h h2 ((run cs hgx).trans h1)
          | _ => cases he
      · cases hc
    · cases hc
  | indexAddr t x i =>
    simp only [cOp, Option.bind_eq_some_iff] at hc
    obtain ⟨x', hx', i', hi', hc⟩ := hc
    split at hc
    · rename_i n e hu
      simp only [Option.map_eq_some_iff] at hc
      obtain ⟨s, hs, rfl⟩ := hc
      simp only [evOp, Option.bind_eq_some_iff] at he
      obtain ⟨xa, hxa, he⟩ := he
      have hxv := cX_sound hT hx' hxa
      cases xa with
      | ptr p =>
        cases p with
        | none => cases he
        | some p =>
          simp only [Option.bind_eq_some_iff] at he
          obtain ⟨ia, hia, k, hk, he⟩ := he
          cases hb : Nat.ble (n * s) p.n with
          | false => rw [hb] at he; cases he
          | true =>
            rw [hb] at he
            cases he
            obtain ⟨c, h1, h2⟩ := ixArr_sound (P := P) hu hs hxv (cX_sound hT hi' hia) hk (Nat.le_of_ble_eq_true hb) w
            exact Out.val h h2 h1
      | _ => cases he
    · rename_i e hu
      simp only [Option.map_eq_some_iff] at hc
      obtain ⟨s, hs, rfl⟩ := hc
      simp only [evOp, Option.bind_eq_some_iff] at he
      obtain ⟨xa, hxa, he⟩ := he
      have hxv := cX_sound hT hx' hxa
      cases xa with
      | slice p len e' clip =>
        cases p with
        | none => cases he
        | some p =>
          obtain ⟨o, vv, j⟩ := p
          dsimp only at he
          split at he
          · rename_i hee
            subst hee
            simp only [Option.bind_eq_some_iff, Option.map_eq_some_iff] at he
            obtain ⟨ia, hia, k, hk, he⟩ := he
            cases he
            obtain ⟨c, h1, h2⟩ := ixSlice_sound (P := P) hu hs hxv (cX_sound hT hi' hia) hk w
            exact Out.val h h2 h1
          · cases he
      | _ => cases he
    · cases hc
  | index t x i =>
    simp only [cOp, Option.bind_eq_some_iff] at hc
    obtain ⟨x', hx', i', hi', hc⟩ := hc
    split at hc
    · rename_i n e hu
      simp only [Option.bind_eq_some_iff] at hc
      obtain ⟨g, hg, s, hs, hc⟩ := hc
      cases g with
      | true =>
        cases hc
        simp only [evOp, Option.bind_eq_some_iff] at he
        obtain ⟨xa, hxa, he⟩ := he
        have hxv := cX_sound hT hx' hxa
        generalize hgx : a.eval x = cx at hxv
        cases hxv with
        | @agg l cs hv hat =>
          simp only [Option.bind_eq_some_iff] at he
          obtain ⟨ia, hia, k, hk, he⟩ := he
          split at he
          · rename_i hle
            cases he
            obtain ⟨kd, m, hci, g0, g1, g2, g3⟩ := ix_run (cX_sound hT hi' hia) hk
            obtain ⟨c, h1, h2⟩ := partN_sound (P := P) hg hs hv hat hle w
            refine Out.val h h2 ?_
            simp only [Instr.index, hgx, hci, asIntOf, Sem.run_bind, Sem.run_pure, Result.andThen_ok, run_und hu]
            simp only [Sem.run_ite, if_pos (And.intro g0 g1), Sem.run_bind, run_size hs, Result.andThen_ok, g2, h1]
          · cases he
        | _ => cases he
      | false =>
        simp only [cond_false] at hc
        split at hc
        · rename_i hs1
          subst hs1
          cases hc
          simp only [evOp, Option.bind_eq_some_iff] at he
          obtain ⟨xa, hxa, he⟩ := he
          have hxv := cX_sound hT hx' hxa
          generalize hgx : a.eval x = cx at hxv
          cases hxv with
          | @agg l cs hv hat =>
            simp only [Option.bind_eq_some_iff, Option.map_eq_some_iff] at he
            obtain ⟨ia, hia, k, hk, y, hy, he⟩ := he
            cases he
            obtain ⟨kd, m, hci, g0, g1, g2, g3⟩ := ix_run (cX_sound hT hi' hia) hk
            obtain ⟨c, h1, h2⟩ := part1_sound (P := P) hg hv hy w
            refine Out.val h h2 ?_
            simp only [Instr.index, hgx, hci, asIntOf, Sem.run_bind, Sem.run_pure, Result.andThen_ok, run_und hu]
            simp only [Sem.run_ite, if_pos (And.intro g0 g1), Sem.run_bind, run_size hs, Result.andThen_ok, g2, Nat.mul_one, h1]
          | _ => cases he
        · cases hc
    · rename_i hu
      cases hc
      simp only [evOp, Option.bind_eq_some_iff] at he
      obtain ⟨xa, hxa, he⟩ := he
      have hxv := cX_sound hT hx' hxa
      generalize hgx : a.eval x = cx at hxv
      cases hxv with
      | @str l bs hb =>
        subst hb
        simp only [Option.bind_eq_some_iff, Option.map_eq_some_iff] at he
        obtain ⟨ia, hia, k, hk, y, hy, he⟩ := he
        cases he
        obtain ⟨kd, m, hci, g0, g1, g2, g3⟩ := ix_run (cX_sound hT hi' hia) hk
        have hlt : k < bs.size := by rw [bytesN_length] at g3; exact g3
        have hyv : (bs[k]'hlt).toNat = y := by
          simp only [bytesN, List.getElem?_map, Option.map_eq_some_iff, Array.getElem?_toList] at hy
          obtain ⟨b, hb, rfl⟩ := hy
          have hd : k < bs.data.size := hlt
          rw [Array.getElem?_eq_getElem hd] at hb
          cases hb
          rfl
        refine Out.val (c := .int .u8 y) h (.int (wf_byte (bytesN_lt (List.mem_of_getElem? hy)))) ?_
        have hg : (if 0 ≤ m then bs[m.toNat]? else none) = some (bs[k]'hlt) := by
          rw [if_pos g0, g2]; exact getElem?_pos bs k hlt
        simp only [Instr.index, hgx, hci, asIntOf, Sem.run_bind, Sem.run_pure, Result.andThen_ok, run_und hu, hg, hyv]
      | _ => cases he
    · cases hc
  | range t x =>
    simp only [cOp] at hc
    split at hc
    · rename_i hu
      simp only [Option.map_eq_some_iff] at hc
      obtain ⟨x', hx', rfl⟩ := hc
      simp only [evOp, Option.bind_eq_some_iff] at he
      obtain ⟨xa, hxa, he⟩ := he
      have hxv := cX_sound hT hx' hxa
      generalize hgx : a.eval x = cx at hxv
      cases hxv with
      | @str l bs hb =>
        subst hb
        cases he
        obtain ⟨ρ', h1, h2, h3⟩ := range_sound h bs
        refine Out.of (c := .pointer (some ⟨w.heap.size, 0, none⟩)) h1 (.ptr h2 (Nat.le_refl _) (Nat.le_refl _) (by simp [Loc.at])) h3 ?_
        simp only [Instr.range, hgx, Sem.run_bind, run_und hu, Result.andThen_ok, Sem.run_pure, run_newObj]
      | _ => cases he
    · cases hc
  | next x isS =>
    cases isS with
    | false => cases hc
    | true =>
      simp only [cOp, Option.map_eq_some_iff] at hc
      obtain ⟨x', hx', rfl⟩ := hc
      simp only [evOp, Option.bind_eq_some_iff] at he
      obtain ⟨xa, hxa, he⟩ := he
      have hxv := cX_sound hT hx' hxa
      cases xa with
      | ptr p =>
        cases p with
        | none => cases he
        | some p =>
          dsimp only at he
          cases hb : Nat.beq p.i 0 with
          | false => rw [hb] at he; cases he
          | true =>
            rw [hb] at he
            have hp0 := Nat.eq_of_beq_eq_true hb
            simp only [cond_true] at he
            split at he
            · rename_i s pos hg
              obtain ⟨n1, n2⟩ := next_sound (P := P) h hxv hp0 hg type
              split at he
              · rename_i hd
                cases he
                exact Out.val h (.tuple (.cons .bool .nil)) (n1 hd)
              · rename_i b l hd
                split at he
                · cases he
                · rename_i hpos
                  cases he
                  obtain ⟨w', h1, h2⟩ := n2 b l hd (by omega)
                  exact Out.of (Rho.le_refl ρ) (.tuple (.cons .bool (.cons (.int (wf_nat (by omega))) (.cons (.int (wf_rune (decR_bound _).1)) .nil)))) h2 h1
            · cases he
      | _ => cases he
  | makeMap t r =>
    cases r with
    | some r => cases hc
    | none =>
      simp only [cOp, Option.map_eq_some_iff] at hc
      obtain ⟨p, hp, rfl⟩ := hc
      cases he
      obtain ⟨ρ', h1, h2, h3⟩ := mkMap_sound h p.1 p.2
      refine Out.of h1 h2 h3 ?_
      simp only [Instr.makeMap, Option.map_none, Sem.run_bind, Sem.run_pure, Result.andThen_ok, run_newObj]
  | lookup t m k ok =>
    simp only [cOp, Option.bind_eq_some_iff, Option.map_eq_some_iff] at hc
    obtain ⟨p, hp, m', hm', k', hk', rfl⟩ := hc
    simp only [evOp, Option.bind_eq_some_iff] at he
    obtain ⟨ma, hma, he⟩ := he
    have hmv := cX_sound hT hm' hma
    split at he
    · rename_i o
      simp only [Option.bind_eq_some_iff] at he
      obtain ⟨ka, hka, he⟩ := he
      have hkv := cX_sound hT hk' hka
      split at he
      · rename_i k1 kn
        split at he
        · rename_i k2 v2 l c hg
          split at he
          · rename_i hc
            obtain ⟨rfl, rfl, rfl⟩ := hc
            cases he
            generalize hgk : a.eval k = ck at hkv
            cases hkv with
            | int hw =>
              obtain ⟨x, h1, h2⟩ := lookup_sound (P := P) h hp hmv hg kn ok
              exact Out.val h h2 (by rw [hgk]; exact h1)
          · cases he
        · cases he
      · cases he
    · cases he
  | mapUpdate t m k x =>
    simp only [cOp, Option.bind_eq_some_iff, Option.map_eq_some_iff] at hc
    obtain ⟨p, hp, m', hm', k', hk', x', hx', rfl⟩ := hc
    simp only [evOp, Option.bind_eq_some_iff] at he
    obtain ⟨ma, hma, he⟩ := he
    have hmv := cX_sound hT hm' hma
    split at he
    · rename_i o
      simp only [Option.bind_eq_some_iff] at he
      obtain ⟨ka, hka, he⟩ := he
      have hkv := cX_sound hT hk' hka
      split at he
      · rename_i k1 kn
        simp only [Option.bind_eq_some_iff] at he
        obtain ⟨xa, hxa, he⟩ := he
        have hxv := cX_sound hT hx' hxa
        split at he
        · rename_i x1 xn
          split at he
          · rename_i k2 v2 l c hg
            split at he
            · rename_i hc
              obtain ⟨rfl, rfl, rfl, rfl⟩ := hc
              cases he
              generalize hgk : a.eval k = ck at hkv
              generalize hgx : a.eval x = cx at hxv
              cases hkv with
              | int hw =>
                cases hxv with
                | int hw2 =>
                  obtain ⟨w', h1, h2⟩ := mapSet_sound (P := P) h hp hmv hg kn hw2
                  exact ⟨ρ, undef, w', Rho.le_refl ρ, VR.undef, h2, .inr ⟨by simp [execOp, hgk, hgx, h1], rfl⟩⟩
            · cases he
          · cases he
        · cases he
      · cases he
    · cases he
  | typeAssert x xt t ok =>
    simp only [cOp, Option.bind_eq_some_iff] at hc
    obtain ⟨x', hx', hc⟩ := hc
    split at hc
    · rename_i want hu
      split at hc
      · rename_i hz
        cases hc
        simp only [evOp, Option.bind_eq_some_iff, Option.map_eq_some_iff] at he
        obtain ⟨xa, hxa, r, hr, he⟩ := he
        cases he
        obtain ⟨c, h1, h2⟩ := assertI_sound (P := P) (xt := xt) hu hz
          (fun u hmem => by
            have := (List.mem_filter.1 hmem).2
            cases hi : P.info? u with
            | none => rw [hi] at this; cases this
            | some i => rw [hi] at this; exact ⟨i, rfl, hasAll_none this⟩)
          (fun u hmem => by
            have := (List.mem_filter.1 hmem).2
            cases hi : P.info? u with
            | none => rw [hi] at this; cases this
            | some i => rw [hi] at this; obtain ⟨m, hm⟩ := hasAll_some (by simpa using this); exact ⟨i, m, rfl, hm⟩)
          (cX_sound hT hx' hxa) hr w
        exact Out.val h h2 h1
      · cases hc
    · rename_i d hni hu
      simp only [Option.map_eq_some_iff] at hc
      obtain ⟨z, hz, rfl⟩ := hc
      simp only [evOp, Option.bind_eq_some_iff, Option.map_eq_some_iff] at he
      obtain ⟨xa, hxa, r, hr, he⟩ := he
      cases he
      obtain ⟨c, h1, h2⟩ := assert_sound (P := P) (xt := xt) hu (fun m hm => hni m (by rw [hm])) hz (cX_sound hT hx' hxa) hr w
      exact Out.val h h2 h1
    · cases hc
  | extract x i =>
    simp only [cOp, Option.map_eq_some_iff] at hc
    obtain ⟨x', hx', rfl⟩ := hc
    simp only [evOp, Option.bind_eq_some_iff] at he
    obtain ⟨xa, hxa, he⟩ := he
    have hxv := cX_sound hT hx' hxa
    generalize hgx : a.eval x = cx at hxv
    cases hxv with
    | @tuple l cs hv =>
      simp only [Option.map_eq_some_iff] at he
      obtain ⟨y, hy, he⟩ := he
      cases he
      obtain ⟨c, h1, h2⟩ := hv.get hy
      simp only [Array.getElem?_toList] at h1
      exact Out.val h h2 (by simp [Instr.extract, hgx, h1])
    | _ => cases he
  | call c =>
    obtain ⟨cal, args, ats⟩ := c
    cases cal with
    | builtin b =>
      have := fun cst => builtin_sound hT h hc he type cst
      have e1 : (args.toList.map a.eval).toArray = args.map a.eval := by apply Array.ext'; simp
      simp only [e1] at this
      simp only [execOp, resolve, pure_bind, invoke]
      exact this _
    | _ => cases hp
  | panic x => cases hc; cases he
  | _ => cases hc
end
end Go.Proofs.YtajoogahcgbohaaGreatA
