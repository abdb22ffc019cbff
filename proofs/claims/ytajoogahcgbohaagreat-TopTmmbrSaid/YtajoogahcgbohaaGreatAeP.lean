/- An abstract evaluator, part P: operations that read and write memory, one by one. -/
import Derived.Test.YtajoogahcgbohaaGreatAeO
set_option linter.unusedVariables false
set_option linter.unusedSimpArgs false
namespace Go.Proofs.YtajoogahcgbohaaGreatA
open Go.RowKit
section
variable {P : Program} {B : Nat} {w0 : Base} {w : World} {ρ : Rho} {S S' : St}
theorem wf_nat {n : Nat} (h : n ≤ 9223372036854775807) : (Lit.int .i64 (n : Int)).wf = true := by
  rw [wf_bounds]; simp [IntKind.min, IntKind.max, IntKind.signed, IntKind.bits]; omega
theorem wf_byte {n : Nat} (h : n < 256) : (Lit.int .u8 (n : Int)).wf = true := by
  rw [wf_bounds]; simp [IntKind.min, IntKind.max, IntKind.signed, IntKind.bits]; omega
theorem load1_sound (h : Sim B w0 ρ S w) {t : TypeId} (hg : isAggT P t = some false) {p : Pl} {c : Value} (hv : VR ρ (.ptr (some p)) c) {a : AV} (hr : S.rd p.o p.v p.i 1 = some [a]) (hn : 1 ≤ p.n) :
    ∃ x, (Instr.loadAt t c).run P w = .ok x w ∧ VR ρ a x := by
  cases hv with
  | ptr hL h0 h1 ha =>
    subst ha
    obtain ⟨x, hx, hrun⟩ := rd_run1 (P := P) h hr hL h0 (by omega)
    exact ⟨x, by simp only [Instr.loadAt, Instr.sureAddr, Sem.run_bind, Sem.run_pure, Result.andThen_ok, loadVar, run_agg hg, Bool.false_eq_true, if_false, hrun], hx⟩
theorem loadN_sound (h : Sim B w0 ρ S w) {t : TypeId} {n : Nat} (hg : isAggT P t = some true) (hs : szOf P t = some n) {p : Pl} {c : Value} (hv : VR ρ (.ptr (some p)) c) {l : List AV} (hr : S.rd p.o p.v p.i n = some l) (hn : n ≤ p.n) :
    ∃ x, (Instr.loadAt t c).run P w = .ok x w ∧ VR ρ (.agg l) x := by
  cases hv with
  | ptr hL h0 h1 ha =>
    subst ha
    obtain ⟨vs, k1, k2, k3, hrun⟩ := rd_run (P := P) h hr hL h0 (by omega)
    refine ⟨.agg vs.toArray, ?_, .agg (by simpa using k2) k3⟩
    simp only [Instr.loadAt, Instr.sureAddr, Sem.run_bind, Sem.run_pure, Result.andThen_ok, loadVar, run_agg hg, if_true, run_size hs, hrun]
theorem store_sound (h : Sim B w0 ρ S w) {t : TypeId} {n : Nat} (hs : szOf P t = some n) {p : Pl} {c cx : Value} {x : AV} (hv : VR ρ (.ptr (some p)) c) (hx : VR ρ x cx) (hl : x.cells.length = n) (hn : n ≤ p.n) (ht : x.tup = false) (hw : S.wr p.o p.v p.i x.cells = some S') :
    ∃ w', (Instr.storeAt t c cx).run P w = .ok () w' ∧ Sim B w0 ρ S' w' := by
  cases hv with
  | ptr hL h0 h1 ha =>
    subst ha
    obtain ⟨w', hrun, hS⟩ := wr_run (P := P) h hw hx.cells (hx.cells_atoms ht) hL h0 (by omega)
    refine ⟨w', ?_, hS⟩
    have hcl := hx.cells.length
    simp only [Array.length_toList] at hcl
    simp only [Instr.storeAt, Instr.sureAddr, Sem.run_bind, Sem.run_pure, Result.andThen_ok, storeVar, run_size hs]
    rw [if_neg (by omega)]
    simpa using hrun
theorem ix_run {x : AV} {c : Value} (hv : VR ρ x c) {n k : Nat} (h : ixOf x n = some k) : ∃ kd i, c = .int kd i ∧ 0 ≤ i ∧ i < (n : Int) ∧ i.toNat = k ∧ k < n := by
  cases hv <;> simp only [ixOf] at h <;> try cases h
  split at h
  · rename_i hb; cases h; exact ⟨_, _, rfl, hb.1, hb.2, rfl, by omega⟩
  · cases h
theorem ixSlice_sound {t e : TypeId} {esz : Nat} (ht : P.underlying t = some (.slice e)) (hs : szOf P e = some esz) {o v j len : Nat} {clip : Option Nat} {cx ci : Value} {i : AV} (hx : VR ρ (.slice (some (o, v, j)) len esz clip) cx) (hi : VR ρ i ci) {k : Nat} (hk : ixOf i len = some k) (w : World) :
    ∃ c, (Instr.indexAt t cx ci).run P w = .ok c w ∧ VR ρ (.ptr (some ⟨o, v, j + k * esz, esz⟩)) c := by
  cases hx with
  | @slice _ _ _ _ _ cap _ L a hL h0 h1 h2 h3 h4 ha =>
    obtain ⟨kd, n, rfl, g0, g1, g2, g3⟩ := ix_run hi hk
    have hcap : cap ≠ 0 := by omega
    have haddr : a = ⟨L.blk, L.at j, none⟩ := by rcases ha with hz | hz; exact absurd hz hcap; exact hz
    subst haddr
    have hm : k * esz + esz ≤ len * esz := by rw [← Nat.succ_mul]; exact Nat.mul_le_mul_right _ g3
    refine ⟨.pointer (some ⟨L.blk, L.at (j + k * esz), none⟩), ?_, .ptr hL (by simp only; omega) (by simp only; omega) rfl⟩
    simp only [Instr.indexAt, asIntOf, Sem.run_bind, Sem.run_pure, Result.andThen_ok, run_und ht]
    simp only [Sem.run_ite, if_pos (And.intro g0 g1), Sem.run_bind, run_size hs, Result.andThen_ok, Sem.run_pure, add_at, g2]
    congr 4
    unfold Loc.at; omega
theorem ixArr_sound {t e : TypeId} {n esz : Nat} (ht : P.underlying t = some (.array n e)) (hs : szOf P e = some esz) {p : Pl} {cx ci : Value} {i : AV} (hx : VR ρ (.ptr (some p)) cx) (hi : VR ρ i ci) {k : Nat} (hk : ixOf i n = some k) (hn : n * esz ≤ p.n) (w : World) :
    ∃ c, (Instr.indexAt t cx ci).run P w = .ok c w ∧ VR ρ (.ptr (some ⟨p.o, p.v, p.i + k * esz, esz⟩)) c := by
  cases hx with
  | @ptr _ L _ hL h0 h1 ha =>
    subst ha
    obtain ⟨kd, m, rfl, g0, g1, g2, g3⟩ := ix_run hi hk
    have hm : k * esz + esz ≤ n * esz := by rw [← Nat.succ_mul]; exact Nat.mul_le_mul_right _ g3
    refine ⟨.pointer (some ⟨L.blk, L.at (p.i + k * esz), none⟩), ?_, .ptr hL (by simp only; omega) (by simp only; omega) rfl⟩
    simp only [Instr.indexAt, asIntOf, Instr.sureAddr, Sem.run_bind, Sem.run_pure, Result.andThen_ok, run_und ht]
    simp only [Sem.run_ite, if_pos (And.intro g0 g1), Sem.run_bind, run_size hs, Result.andThen_ok, Sem.run_pure, add_at, g2]
    congr 4
    unfold Loc.at; omega
theorem fieldAddr_sound {s : TypeId} {fs : Array Field} {f n : Nat} {fd : Field} (ht : P.underlying s = some (.struct fs)) (hf : fs[f]? = some fd) (hs : szOf P fd.type = some n) (hn : 0 < n) {p : Pl} {cx : Value} (hx : VR ρ (.ptr (some p)) cx) (hle : fd.offset + n ≤ p.n) (w : World) :
    ∃ c, (Instr.fieldAt s cx f).run P w = .ok c w ∧ VR ρ (.ptr (some ⟨p.o, p.v, p.i + fd.offset, n⟩)) c := by
  cases hx with
  | @ptr _ L _ hL h0 h1 ha =>
    subst ha
    refine ⟨.pointer (some ⟨L.blk, L.at (p.i + fd.offset), none⟩), ?_, .ptr hL (by simp only; omega) (by simp only; omega) rfl⟩
    simp only [Instr.fieldAt, Sem.run_bind, run_und ht, Result.andThen_ok, hf, Instr.sureAddr, Sem.run_pure, fieldPlace, run_size hs]
    rw [if_neg (by omega)]
    simp only [Sem.run_pure, Result.andThen_ok, add_at]
    congr 4
    unfold Loc.at; omega
theorem part1_sound {t : TypeId} (hg : isAggT P t = some false) {l : List AV} {cs : Array Value} (hv : VRs ρ l cs.toList) {off : Nat} {a : AV} (ha : l[off]? = some a) (w : World) : ∃ c, (part t cs off).run P w = .ok c w ∧ VR ρ a c := by
  obtain ⟨v, h1, h2⟩ := hv.get ha
  simp only [Array.getElem?_toList] at h1
  exact ⟨v, by simp only [part, Sem.run_bind, run_agg hg, Result.andThen_ok, Bool.false_eq_true, if_false, h1, Sem.run_pure], h2⟩
theorem partN_sound {t : TypeId} {n : Nat} (hg : isAggT P t = some true) (hs : szOf P t = some n) {l : List AV} {cs : Array Value} (hv : VRs ρ l cs.toList) (hat : l.all AV.atom = true) {off : Nat} (hl : off + n ≤ l.length) (w : World) :
    ∃ c, (part t cs off).run P w = .ok c w ∧ VR ρ (.agg ((l.drop off).take n)) c := by
  have hlen := hv.length
  refine ⟨.agg (cs.extract off (off + n)), ?_, .agg ?_ ?_⟩
  · simp only [part, Sem.run_bind, run_agg hg, Result.andThen_ok, if_true, run_size hs, Sem.run_pure]
  · have : (cs.extract off (off + n)).toList = (cs.toList.drop off).take n := by
      rw [Array.toList_extract, List.extract_eq_take_drop]; congr 1; omega
    rw [this]
    exact (hv.drop off).take n
  · simp only [List.all_eq_true] at hat ⊢
    exact fun x hx => hat x (List.mem_of_mem_drop (List.mem_of_mem_take hx))
theorem range_sound (h : Sim B w0 ρ S w) (b : ByteArray) : ∃ ρ', ρ.le ρ' ∧ ρ' S.next 0 = some ⟨w.heap.size, 0, 0, 1, 1⟩ ∧ Sim B w0 ρ' (S.alloc (.iter (bytesN b) 0)) { w with heap := w.heap.push (.stringIter b 0) } := by
  have hnone : ∀ u, ρ S.next u = none := fun u => by
    cases hq : ρ S.next u with
    | none => rfl
    | some L => exact absurd (h.fresh _ _ _ hq) (Nat.lt_irrefl _)
  have hle : ρ.le (fun o u => if o = S.next ∧ u = 0 then some ⟨w.heap.size, 0, 0, 1, 1⟩ else ρ o u) := by
    intro o u L e'
    by_cases ho : o = S.next ∧ u = 0
    · rw [ho.1, hnone] at e'; cases e'
    · simp only [if_neg ho]; exact e'
  have only : ∀ u L, (if S.next = S.next ∧ u = 0 then some (⟨w.heap.size, 0, 0, 1, 1⟩ : Loc) else ρ S.next u) = some L → u = 0 ∧ L = ⟨w.heap.size, 0, 0, 1, 1⟩ := by
    intro u L e'
    by_cases hu : u = 0
    · simp [hu] at e'; exact ⟨hu, e'.symm⟩
    · rw [if_neg (fun k => hu k.2), hnone] at e'; cases e'
  refine ⟨_, hle, by simp, ?_⟩
  refine h.upd S.next (.iter (bytesN b) 0) (fun o => St.get_alloc _ _ _) (by simp [St.alloc]) (by simp [St.alloc]) (fun o u ho => if_neg fun k => ho k.1) hle ?_ (by simp) ?_ ?_ ?_ ?_
  · exact ⟨h.below.os, h.below.tape, h.below.output, Nat.le_trans h.below.size (by simp), fun k hk => by
      rw [← h.below.block k hk]
      simp [Array.getElem?_push, Nat.ne_of_lt (Nat.lt_of_lt_of_le hk h.base)]⟩
  · intro b' hb; left; simp [Array.getElem?_push, Nat.ne_of_lt hb]
  · intro u L e'; obtain ⟨_, rfl⟩ := only u L e'; simp
  · intro u L e'; obtain ⟨_, rfl⟩ := only u L e'; exact .inl (Nat.le_refl _)
  · refine (show IterAt _ _ _ _ _ _ from ⟨?_, ?_, fun u L u' L' e1 e2 => by obtain ⟨_, rfl⟩ := only u L e1; obtain ⟨_, rfl⟩ := only u' L' e2; rfl⟩)
    · intro u L e'; obtain ⟨_, rfl⟩ := only u L e'; exact h.base
    · intro u L e'; obtain ⟨_, rfl⟩ := only u L e'; exact ⟨rfl, rfl, rfl, b, by simp, rfl⟩
theorem next_sound (h : Sim B w0 ρ S w) {p : Pl} {c : Value} (hv : VR ρ (.ptr (some p)) c) (hp : p.i = 0) {s : List Nat} {pos : Nat} (hg : S.get p.o = some (.iter s pos)) (ty : TypeId) :
    (s.drop pos = [] → (Instr.next c true ty).run P w = .ok (.tuple #[.bool false]) w) ∧
    (∀ b l, s.drop pos = b :: l → pos ≤ 9223372036854775807 → ∃ w', (Instr.next c true ty).run P w = .ok (.tuple #[.bool true, .int .i64 pos, .int .i32 (decR (b :: l)).1]) w' ∧ Sim B w0 ρ (S.put p.o (.iter s (pos + (decR (b :: l)).2))) w') := by
  cases hv with
  | @ptr _ L _ hL h0 h1 ha =>
    have hi : IterAt B ρ w p.o s pos := h.obj _ _ hg
    obtain ⟨k1, k2, k3, bs, k4, k5⟩ := hi.mem p.v L hL
    have haddr : L.at p.i = 0 := by unfold Loc.at; omega
    rw [haddr] at ha
    subst ha
    have hlen := bytesN_length bs
    rw [k5] at hlen
    refine ⟨fun hd => ?_, fun b l hd hpos => ?_⟩
    · have hge : bs.size ≤ pos := by
        have := congrArg List.length hd
        simp at this; omega
      simp only [Instr.next, Sem.run_bind, getObj, Sem.run, k4, Result.andThen_ok]
      simp only [Sem.run_ite, if_neg (show ¬ pos < bs.size by omega), Sem.run_pure]
    · have hlt : pos < bs.size := by
        have := congrArg List.length hd
        simp at this; omega
      have hdec := dec_eq bs pos hlt
      rw [k5, hd] at hdec
      refine ⟨{ w with heap := w.heap.setIfInBounds L.blk (.stringIter bs (pos + (decR (b :: l)).2)) }, ?_, ?_⟩
      · simp only [Instr.next, Sem.run_bind, getObj, setObj, Sem.run, k4, Result.andThen_ok]
        simp only [Sem.run_ite, if_pos hlt, Sem.run_bind, setObj, Sem.run, k4, Result.andThen_ok, hdec, goInt]
        rfl
      · have hB := hi.side p.v L hL
        have hLw := h.heap _ _ _ hL
        refine h.upd p.o _ (fun j => St.get_put _ _ _ _) (Nat.le_refl _) (h.dom _ _ hg) (fun _ _ _ => rfl) (Rho.le_refl _) (Below.set_ h.below hB _) (by simp) ?_ ?_ (fun u L' e' => .inr ⟨u, L', e', rfl⟩) ?_
        · intro b' hb
          by_cases hbl : b' = L.blk
          · subst hbl; exact .inr ⟨hB, p.v, L, hL, rfl⟩
          · left; simp [Array.getElem?_setIfInBounds_ne (Ne.symm hbl)]
        · intro u L' e'; simpa using h.heap _ u L' e'
        · refine (show IterAt _ _ _ _ _ _ from ⟨hi.side, ?_, hi.uniq⟩)
          intro u L' e'
          obtain ⟨q1, q2, q3, bs', q4, q5⟩ := hi.mem u L' e'
          have hbl : L'.blk = L.blk := hi.uniq u L' p.v L e' hL
          exact ⟨q1, q2, q3, bs, by rw [hbl]; simp [hLw], k5⟩
end
end Go.Proofs.YtajoogahcgbohaaGreatA
