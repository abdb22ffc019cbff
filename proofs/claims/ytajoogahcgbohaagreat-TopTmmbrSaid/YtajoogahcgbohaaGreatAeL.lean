/- An abstract evaluator, part L: cuts, appends. -/
import Derived.Test.YtajoogahcgbohaaGreatAeK
import Derived.Deep.DeepAppendWide
set_option linter.unusedVariables false
set_option linter.unusedSimpArgs false
namespace Go.Proofs.YtajoogahcgbohaaGreatA
open Go.RowKit
section
variable {P : Program} {B : Nat} {w0 : Base} {w : World} {ρ : Rho} {S S' : St}
def VRo (ρ : Rho) : Option AV → Option Value → Prop
  | none, none => True
  | some a, some v => VR ρ a v
  | _, _ => False
theorem bound_run {v : AV} {c : Value} (hv : VR ρ v c) {d y k : Nat} (h : bnd (some v) d y = some k) {y' : Nat} (hy : y ≤ y') (code : BoundsCode) (w : World) : (Instr.sliceBound c y' code).run P w = .ok k w ∧ k ≤ y := by
  cases hv <;> simp only [bnd] at h <;> try cases h
  split at h
  · rename_i hb
    cases h
    refine ⟨?_, by omega⟩
    simp only [Instr.sliceBound, asIntOf, Sem.run_bind, Sem.run_pure, Result.andThen_ok]
    rw [if_pos (by omega)]
    rfl
  · cases h
theorem cut_sound {x r : AV} {cx : Value} (hx : VR ρ x cx) {esz : Nat} {t e : TypeId} (ht : P.underlying t = some (.slice e)) (hs : szOf P e = some esz) {lo hi mx : Option AV} {clo chi cmx : Option Value}
    (hlo : VRo ρ lo clo) (hhi : VRo ρ hi chi) (hmx : VRo ρ mx cmx) (h : aCut esz x lo hi mx = some r) (w : World) : ∃ c, (Instr.sliceAt t cx clo chi cmx).run P w = .ok c w ∧ VR ρ r c := by
  have hat : (Instr.sliceAt t cx clo chi cmx).run P w = (Instr.slice t cx clo chi cmx).run P w := by
    simp only [Instr.sliceAt, Sem.run_bind, run_und ht, Result.andThen_ok]
  rw [hat]
  cases hx with
  | sliceNil =>
    simp only [aCut] at h
    split at h
    · cases h
    · rename_i hc
      simp only [Option.bind_eq_some_iff, Option.map_eq_some_iff] at h
      obtain ⟨m, h1, h', h2, l, h3, rfl⟩ := h
      refine ⟨.slice none 0 0, ?_, .sliceNil⟩
      simp only [Instr.slice, Sem.run_bind, run_und ht, Result.andThen_ok]
      have hb : (Instr.sliceBounds true 0 0 clo chi cmx).run P w = .ok (0, 0, 0) w := by
        unfold Instr.sliceBounds
        have z : ∀ {v : AV} {c : Value} {d : Nat} {k : Nat}, VR ρ v c → bnd (some v) d 0 = some k → ∀ code, (Instr.sliceBound c 0 code).run P w = .ok 0 w := by
          intro v c d k hv hk code
          obtain ⟨g1, g2⟩ := bound_run (P := P) hv hk (Nat.le_refl 0) code w
          have : k = 0 := by omega
          rw [this] at g1; exact g1
        cases mx <;> cases cmx <;> simp only [VRo] at hmx <;> cases hi <;> cases chi <;> simp only [VRo] at hhi <;> cases lo <;> cases clo <;> simp only [VRo] at hlo <;> try (simp at hc; done)
        · simp
        · simp [z hlo h3]
        · simp [z hhi h2]
        · simp [z hhi h2, z hlo h3]
        · simp [z hmx h1, z hhi h2]
        · simp [z hmx h1, z hhi h2, z hlo h3]
      simp only [hb, Result.andThen_ok, run_size hs, Sem.run_pure, if_true, Nat.sub_self]
  | @slice o v i len e' cap clip L a hL h0 h1 h2 h3 h4 ha =>
    simp only [aCut] at h
    cases he : Nat.beq e' esz with
    | false => rw [he] at h; cases h
    | true =>
      rw [he] at h
      simp only [cond_true] at h
      obtain rfl := Nat.eq_of_beq_eq_true he
      have key : ∀ (l hh m : Nat) (cl : Option Nat), (Instr.sliceBounds true len cap clo chi cmx).run P w = .ok (l, hh, m) w → l ≤ hh → hh ≤ len → hh ≤ m → m ≤ cap → (∀ c, cl = some c → m - l = c) →
          ∃ c, (Instr.slice t (.slice (some a) len cap) clo chi cmx).run P w = .ok c w ∧ VR ρ (.slice (some (o, v, i + l * e')) (hh - l) e' cl) c := by
        intro l hh m cl hb hl hh' hm hcap hcl
        have e1 : l * e' + (hh - l) * e' = hh * e' := by rw [← Nat.add_mul]; congr 1; omega
        have e2 : l * e' + (m - l) * e' = m * e' := by rw [← Nat.add_mul]; congr 1; omega
        have e3 : hh * e' ≤ len * e' := Nat.mul_le_mul_right _ hh'
        have e4 : m * e' ≤ cap * e' := Nat.mul_le_mul_right _ hcap
        refine ⟨.slice (some (if m = l then a else a.add (l * e'))) (hh - l) (m - l), ?_, .slice hL (by omega) (by omega) (by omega) (by omega) hcl ?_⟩
        · simp only [Instr.slice, Sem.run_bind, run_und ht, Result.andThen_ok, hb, run_size hs, Sem.run_pure, Option.map_some]
          split <;> rfl
        · by_cases hml : m = l
          · left; omega
          · right
            rw [if_neg hml]
            rcases ha with hz | rfl
            · omega
            · rw [add_at]
              congr 1
              unfold Loc.at
              omega
      cases mx with
      | none =>
        cases cmx with
        | some _ => simp [VRo] at hmx
        | none =>
          simp only [Option.bind_eq_some_iff, Option.map_eq_some_iff] at h
          obtain ⟨hh, k1, l, k2, rfl⟩ := h
          have hl : l ≤ hh := by
            cases lo with
            | none => simp [bnd] at k2; omega
            | some u => cases clo with
              | none => simp [VRo] at hlo
              | some c => exact (bound_run (P := P) hlo k2 (Nat.le_refl _) .sliceB w).2
          have hhl : hh ≤ len := by
            cases hi with
            | none => simp [bnd] at k1; omega
            | some u => cases chi with
              | none => simp [VRo] at hhi
              | some c => exact (bound_run (P := P) hhi k1 (Nat.le_refl _) .sliceB w).2
          refine key l hh cap (clip.map (· - l)) ?_ hl hhl (by omega) (Nat.le_refl _) ?_
          · unfold Instr.sliceBounds
            cases hi <;> cases chi <;> simp only [VRo] at hhi <;> cases lo <;> cases clo <;> simp only [VRo] at hlo
            · simp [bnd] at k1 k2; simp [k1, k2]
            · simp [bnd] at k1; simp [k1, (bound_run (P := P) hlo k2 (Nat.le_refl _) _ w).1]
            · simp [bnd] at k2; simp [← k2, (bound_run (P := P) hhi k1 h3 _ w).1]
            · simp [(bound_run (P := P) hhi k1 h3 _ w).1, (bound_run (P := P) hlo k2 (Nat.le_refl _) _ w).1]
          · intro c hc
            simp only [Option.map_eq_some_iff] at hc
            obtain ⟨c', hc', rfl⟩ := hc
            rw [h4 c' hc']
      | some u =>
        cases cmx with
        | none => simp [VRo] at hmx
        | some cu =>
          simp only [VRo] at hmx
          dsimp only at h
          split at h
          · rename_i his
            simp only [Option.bind_eq_some_iff, Option.map_eq_some_iff] at h
            obtain ⟨m, k0, hh, k1, l, k2, rfl⟩ := h
            cases hi with
            | none => simp at his
            | some uh =>
              cases chi with
              | none => simp [VRo] at hhi
              | some ch =>
                simp only [VRo] at hhi
                have b0 := bound_run (P := P) hmx k0 h3 .slice3Acap w
                have b1 := bound_run (P := P) hhi k1 (Nat.le_refl _) .slice3B w
                have hl : l ≤ hh := by
                  cases lo with
                  | none => simp [bnd] at k2; omega
                  | some u => cases clo with
                    | none => simp [VRo] at hlo
                    | some c => exact (bound_run (P := P) hlo k2 (Nat.le_refl _) .sliceB w).2
                refine key l hh m (some (m - l)) ?_ hl (by omega) b1.2 (by omega) (by simp)
                unfold Instr.sliceBounds
                cases lo <;> cases clo <;> simp only [VRo] at hlo
                · simp [bnd] at k2; simp [← k2, b0.1, b1.1]
                · simp [b0.1, b1.1, (bound_run (P := P) hlo k2 (Nat.le_refl _) _ w).1]
          · cases h
  | _ => simp [aCut] at h
theorem cutStr_sound {x r : AV} {cx : Value} (hx : VR ρ x cx) {t : TypeId} (ht : P.underlying t = some .string) {lo hi : Option AV} {clo chi : Option Value}
    (hlo : VRo ρ lo clo) (hhi : VRo ρ hi chi) (h : aCutStr x lo hi = some r) (w : World) : ∃ c, (Instr.sliceAt t cx clo chi none).run P w = .ok c w ∧ VR ρ r c := by
  have hat : (Instr.sliceAt t cx clo chi none).run P w = (Instr.slice t cx clo chi none).run P w := by
    simp only [Instr.sliceAt, Sem.run_bind, run_und ht, Result.andThen_ok]
  rw [hat]
  cases hx with
  | @str l s hs =>
    subst hs
    simp only [aCutStr, Option.bind_eq_some_iff, Option.map_eq_some_iff] at h
    obtain ⟨hh, k1, l, k2, rfl⟩ := h
    have hsz := bytesN_length s
    have hb : (Instr.sliceBounds false s.size s.size clo chi none).run P w = .ok (l, hh, s.size) w := by
      unfold Instr.sliceBounds
      rw [hsz] at k1
      cases hi <;> cases chi <;> simp only [VRo] at hhi <;> cases lo <;> cases clo <;> simp only [VRo] at hlo
      · simp [bnd] at k1 k2; simp [k1, k2]
      · simp [bnd] at k1; simp [k1, (bound_run (P := P) hlo k2 (Nat.le_refl _) _ w).1]
      · simp [bnd] at k2; simp [← k2, (bound_run (P := P) hhi k1 (Nat.le_refl _) _ w).1]
      · simp [(bound_run (P := P) hhi k1 (Nat.le_refl _) _ w).1, (bound_run (P := P) hlo k2 (Nat.le_refl _) _ w).1]
    refine ⟨.string (s.extract l hh), ?_, .str ?_⟩
    · simp [Instr.slice, run_und ht, hb]
    · unfold bytesN
      rw [ByteArray.data_extract]
      simp [List.map_drop, List.map_take, List.drop_take]
  | _ => simp [aCutStr] at h
theorem bnd_le {v : Option AV} {d y k : Nat} (h : bnd v d y = some k) (hd : d ≤ y) : k ≤ y := by
  unfold bnd at h
  split at h
  · cases h; exact hd
  · split at h
    · rename_i hb; cases h; omega
    · cases h
  · cases h
theorem rd_room (h : Sim B w0 ρ S w) {o v i n : Nat} {l : List AV} (hr : S.rd o v i n = some l) {L : Loc} (hL : ρ o v = some L) : L.ext ≤ L.start + L.room := by
  obtain ⟨c, hc, rfl, hor⟩ := rd_inv hr
  rcases hor with ⟨ver, minv, own, hg, hm, hv⟩ | ⟨ver, minv, g, hg, hm, hv⟩
  · have hc' : CellsAt B ρ w o c ver minv own := h.obj o _ hg
    exact (hc'.mem v L hL hm).2.1
  · have hc' : ForkAt B ρ w o c ver minv g := h.obj o _ hg
    exact (hc'.mem v L hL hm).1
theorem cutArr_sound (h : Sim B w0 ρ S w) {p : Pl} {cx : Value} (hx : VR ρ (.ptr (some p)) cx) {n esz : Nat} {t e : TypeId} (ht : P.underlying t = some (.array n e)) (hs : szOf P e = some esz) (hle : n * esz ≤ p.n) {l0 : List AV} (hr : S.rd p.o p.v p.i (n * esz) = some l0)
    {lo hi : Option AV} {clo chi : Option Value} (hlo : VRo ρ lo clo) (hhi : VRo ρ hi chi) {hh l : Nat} (k1 : bnd hi n n = some hh) (k2 : bnd lo 0 hh = some l) :
    ∃ c, (Instr.sliceAt t cx clo chi none).run P w = .ok c w ∧ VR ρ (.slice (some (p.o, p.v, p.i + l * esz)) (hh - l) esz (some (n - l))) c := by
  have b1 := bnd_le k1 (Nat.le_refl _)
  have b2 := bnd_le k2 (Nat.zero_le _)
  have m1 : hh * esz ≤ n * esz := Nat.mul_le_mul_right _ b1
  have m2 : l * esz ≤ hh * esz := Nat.mul_le_mul_right _ b2
  have m3 : (hh - l) * esz = hh * esz - l * esz := Nat.sub_mul ..
  have m4 : (n - l) * esz = n * esz - l * esz := Nat.sub_mul ..
  cases hx with
  | @ptr _ L _ hL h0 h1 ha =>
    subst ha
    have hroom := rd_room h hr hL
    have hb : (Instr.sliceBounds false n n clo chi none).run P w = .ok (l, hh, n) w := by
      unfold Instr.sliceBounds
      cases hi <;> cases chi <;> simp only [VRo] at hhi <;> cases lo <;> cases clo <;> simp only [VRo] at hlo
      · simp [bnd] at k1 k2; simp [k1, k2]
      · simp [bnd] at k1; simp [k1, (bound_run (P := P) hlo k2 (Nat.le_refl _) _ w).1]
      · simp [bnd] at k2; simp [← k2, (bound_run (P := P) hhi k1 (Nat.le_refl _) _ w).1]
      · simp [(bound_run (P := P) hhi k1 (Nat.le_refl _) _ w).1, (bound_run (P := P) hlo k2 (Nat.le_refl _) _ w).1]
    refine ⟨.slice (some (if n = l then ⟨L.blk, L.at p.i, none⟩ else (⟨L.blk, L.at p.i, none⟩ : Addr).add (l * esz))) (hh - l) (n - l), ?_, ?_⟩
    · simp only [Instr.sliceAt, Instr.sureAddr, Sem.run_bind, run_und ht, Result.andThen_ok, Sem.run_pure, hb, run_size hs]
    · refine .slice hL (by omega) (by omega) (by omega) (by omega) (fun c hc => by cases hc; rfl) ?_
      by_cases hn : n = l
      · exact .inl (by omega)
      · right
        rw [if_neg hn, add_at]
        congr 1
        unfold Loc.at; omega
end
end Go.Proofs.YtajoogahcgbohaaGreatA
