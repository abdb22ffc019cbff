/- An abstract evaluator, what is used with it: an argument that is a struct, by value, of numbers and rows (an RTP packet). -/
import Derived.Test.YthejkmfmcjpfhaaAeS8
import Derived.Deep.Fields
set_option linter.unusedVariables false
set_option linter.unusedSimpArgs false
set_option maxRecDepth 10000
namespace Go.Proofs.YthejkmfmcjpfhaaA
open Go.RowKit Go.Deep

section
variable {H : Type} {enc : TypeId × Value → H} {P : Program} {w : World} {held : Bool}
theorem sized_struct {ts : List TypeId} {ds : List (DataW H)} (h : (DataW.weightsEach P ts ds).all (· ≤ reachBytes) = true) {j : Nat} {t : TypeId} {fs : Array Field} {parts : List (DataW H)} (ht : ts[j]? = some t) (hd : ds[j]? = some (.agg parts)) (hu : P.underlying t = some (.struct fs)) :
    (DataW.weightsEach P (fs.toList.map (·.type)) parts).all (· ≤ reachBytes) = true :=
  List.all_eq_true.2 fun x hx => List.all_eq_true.1 h x (DataW.weights_mem_each ht hd x (by simp only [DataW.weights, hu]; exact hx))
theorem open_cells {t : TypeId} {fs : Array Field} (hs : P.underlying t = some (.struct fs)) (hone : oneCellFields P fs = true) (hC : P.cellsOf t = fs.size) {b0 : Nat} {v : Value} {d : DataW H} {p : List MemPlace} (hv : Value.okWide P w .any b0 t v) (h : DataW.Trod enc P w 0 (fun _ => true) held t v d p) :
    ∃ (cs : Array Value) (xs : List (DataW H × List MemPlace)) (n : Nat), v = .agg cs ∧ cs.size = fs.size ∧ d = .agg (xs.map (·.1)) ∧ xs.length = fs.size ∧
      ∀ (i : Nat) (f : Field) (c : Value), fs[i]? = some f → cs[i]? = some c → ∃ y, xs[i]? = some y ∧ DataW.trod enc P w 0 (fun _ => true) held n f.type [c] = some y := by
  obtain ⟨cs, rfl, hsz⟩ := Go.WideShapes.okWide_struct hs hv
  obtain ⟨fuel, hf⟩ := h
  obtain ⟨xs, n, _, hx, hl, hlen, hff⟩ := DataW.trod_struct hs hf
  simp only [Prod.mk.injEq] at hx
  refine ⟨cs, xs, n, rfl, hsz.trans hC, hx.1, hlen, fun i f c hi hc => ?_⟩
  have hlt : i < fs.size := (Array.getElem?_eq_some_iff.1 hi).1
  obtain ⟨o, k⟩ := hone_of hone i f hi
  have h := hff i f hi
  rw [o, k] at h
  have hlc : cs.toList[i]? = some c := by rw [Array.getElem?_toList]; exact hc
  have hli : i < cs.toList.length := (List.getElem?_eq_some_iff.1 hlc).1
  have e : ((Value.agg cs).cells.toList.drop i).take 1 = [c] := by
    show (cs.toList.drop i).take 1 = [c]
    rw [List.drop_eq_getElem_cons hli, (List.getElem?_eq_some_iff.1 hlc).2]
    rfl
  rw [e, List.getElem?_eq_getElem (by omega)] at h
  exact ⟨xs[i], List.getElem?_eq_getElem (by omega), h⟩
theorem okWide_cell {t : TypeId} {fs : Array Field} (hs : P.underlying t = some (.struct fs)) {us : List TypeId} (hts : P.cellTypes P.depth t = some us) {b0 : Nat} {cs : Array Value} (hv : Value.okWide P w .any b0 t (.agg cs)) {i : Nat} {u : TypeId} {c : Value} (hu : us[i]? = some u) (hc : cs[i]? = some c) : Cell.okWide P w .any b0 u c := by
  simp only [Value.okWide, hs] at hv
  obtain ⟨cs', h1, _, ts', h2, _, h3⟩ := hv
  cases h1
  rw [hts] at h2
  cases h2
  obtain ⟨u', h4, h5⟩ := h3 i c hc
  have hlt : i < us.length := (List.getElem?_eq_some_iff.1 hu).1
  rw [Nat.mod_eq_of_lt hlt, hu] at h4
  cases h4
  exact h5
theorem okWide_sl {u e : TypeId} (ht : P.underlying u = some (.slice e)) {b0 : Nat} {c : Value} (h : Cell.okWide P w .any b0 u c) : Value.okWide P w .any b0 u c := by
  simp only [Value.okWide, ht]; exact h
theorem list9 {α : Type} : ∀ {l : List α}, l.length = 9 → ∃ a0 a1 a2 a3 a4 a5 a6 a7 a8, l = [a0, a1, a2, a3, a4, a5, a6, a7, a8]
  | [a0, a1, a2, a3, a4, a5, a6, a7, a8], _ => ⟨a0, a1, a2, a3, a4, a5, a6, a7, a8, rfl⟩
theorem one_int {k : IntKind} {u : TypeId} (hf : flat 1 P u = some [.int k]) {n : Nat} {c : Value} {y : DataW H × List MemPlace} (h : DataW.trod enc P w 0 (fun _ => true) held n u [c] = some y) : ∃ a : Int, (Lit.int k a).wf = true ∧ ∀ ρ, VR ρ (.int k a) c := by
  obtain ⟨xs, s, v⟩ := flat_open 1 u _ n [c] y hf h
  match xs, s with
  | [x], s =>
    obtain ⟨a, rfl, hw⟩ := Sc.of_int s.1
    exact ⟨a, hw, fun ρ => by cases v ρ with | cons h _ => exact h⟩
theorem one_bool {u : TypeId} (hf : flat 1 P u = some [.bool]) {n : Nat} {c : Value} {y : DataW H × List MemPlace} (h : DataW.trod enc P w 0 (fun _ => true) held n u [c] = some y) : ∃ a : Bool, ∀ ρ, VR ρ (.bool a) c := by
  obtain ⟨xs, s, v⟩ := flat_open 1 u _ n [c] y hf h
  match xs, s with
  | [x], s =>
    obtain ⟨a, rfl⟩ := Sc.of_bool s.1
    exact ⟨a, fun ρ => by cases v ρ with | cons h _ => exact h⟩
/-- An RTP packet, by value. -/
theorem Sim.argRtp {B : Nat} {w0 : Base} {ρ : Rho} {S : St} (h : Sim B w0 ρ S w) (hB : B = w.heap.size) {t tb ti t16 t32 tcs tbs e32 e8 : TypeId} {fs : Array Field} (hs : P.underlying t = some (.struct fs)) (hone : oneCellFields P fs = true) (hC : P.cellsOf t = 9)
    (hfs : fs.toList.map (·.type) = [tb, ti, t16, t32, t32, tcs, t16, tbs, tbs]) (hts : P.cellTypes P.depth t = some [tb, ti, t16, t32, t32, tcs, t16, tbs, tbs]) (fb : flat 1 P tb = some [.bool]) (fi : flat 1 P ti = some [.int .i64]) (f16 : flat 1 P t16 = some [.int .u16]) (f32 : flat 1 P t32 = some [.int .u32])
    (hcs : P.underlying tcs = some (.slice e32)) (hbs : P.underlying tbs = some (.slice e8)) (fe32 : flat 1 P e32 = some [.int .u32]) (fe8 : flat 1 P e8 = some [.int .u8]) (c32 : P.cellsOf e32 = 1) (c8 : P.cellsOf e8 = 1) (y32 : P.bytesOf e32 = 4) (y8 : P.bytesOf e8 = 1)
    {b0 : Nat} {v : Value} (hv : Value.okWide P w .any b0 t v) {d : DataW H} {ps : List MemPlace} (hd : DataW.Trod enc P w 0 (fun _ => true) held t v d ps) {ts : List TypeId} {ds : List (DataW H)} {j : Nat} (hsz : (DataW.weightsEach P ts ds).all (· ≤ reachBytes) = true) (hj : ts[j]? = some t) (hdj : ds[j]? = some d) :
    ∃ (mrk : Bool) (ty sq tm ss pf : Int) (pc : Option (Nat × Nat × Nat)) (lc : Nat) (xc : List AV) (pe : Option (Nat × Nat × Nat)) (le : Nat) (xe : List AV) (pp : Option (Nat × Nat × Nat)) (lp : Nat) (xp : List AV) (ρ' : Rho), ρ.le ρ' ∧
      Sim B w0 ρ' (((S.alloc (.cells xc 0 0 false)).alloc (.cells xe 0 0 false)).alloc (.cells xp 0 0 false)) w ∧ VR ρ' (.agg [.bool mrk, .int .i64 ty, .int .u16 sq, .int .u32 tm, .int .u32 ss, .slice pc lc 1 none, .int .u16 pf, .slice pe le 1 none, .slice pp lp 1 none]) v ∧
      ((Lit.int .i64 ty).wf = true ∧ (Lit.int .u16 sq).wf = true ∧ (Lit.int .u32 tm).wf = true ∧ (Lit.int .u32 ss).wf = true ∧ (Lit.int .u16 pf).wf = true) ∧ (Arg pc S.next lc [.int .u32] xc ∧ Arg pe (S.next + 1) le [.int .u8] xe ∧ Arg pp (S.next + 2) lp [.int .u8] xp) ∧
      (lc * 4 ≤ 140737488351232 ∧ le * 1 ≤ 140737488351232 ∧ lp * 1 ≤ 140737488351232) := by
  have h9 : fs.size = 9 := by have := congrArg List.length hfs; simpa using this
  obtain ⟨cs, xs, n, rfl, hcsz, rfl, hxl, hcell⟩ := open_cells hs hone (by rw [hC, h9]) hv hd
  have hsz' := sized_struct hsz hj hdj hs
  rw [hfs] at hsz'
  obtain ⟨a0, a1, a2, a3, a4, a5, a6, a7, a8, hl⟩ := list9 (show cs.toList.length = 9 by rw [Array.length_toList]; omega)
  have cell : ∀ (i : Nat) (u : TypeId) (c : Value), [tb, ti, t16, t32, t32, tcs, t16, tbs, tbs][i]? = some u → [a0, a1, a2, a3, a4, a5, a6, a7, a8][i]? = some c → ∃ y, xs[i]? = some y ∧ DataW.trod enc P w 0 (fun _ => true) held n u [c] = some y ∧ Cell.okWide P w .any b0 u c := by
    intro i u c hu hc
    rw [← hl, Array.getElem?_toList] at hc
    have hf := hu
    rw [← hfs, List.getElem?_map, Array.getElem?_toList] at hf
    obtain ⟨f, hf1, hf2⟩ := Option.map_eq_some_iff.1 hf
    obtain ⟨y, h1, h2⟩ := hcell i f c hf1 hc
    rw [hf2] at h2
    exact ⟨y, h1, h2, okWide_cell hs hts hv hu hc⟩
  obtain ⟨_, _, d0, _⟩ := cell 0 tb a0 rfl rfl
  obtain ⟨_, _, d1, _⟩ := cell 1 ti a1 rfl rfl
  obtain ⟨_, _, d2, _⟩ := cell 2 t16 a2 rfl rfl
  obtain ⟨_, _, d3, _⟩ := cell 3 t32 a3 rfl rfl
  obtain ⟨_, _, d4, _⟩ := cell 4 t32 a4 rfl rfl
  obtain ⟨y5, x5, d5, k5⟩ := cell 5 tcs a5 rfl rfl
  obtain ⟨_, _, d6, _⟩ := cell 6 t16 a6 rfl rfl
  obtain ⟨y7, x7, d7, k7⟩ := cell 7 tbs a7 rfl rfl
  obtain ⟨y8', x8, d8, k8⟩ := cell 8 tbs a8 rfl rfl
  obtain ⟨mrk, v0⟩ := one_bool fb d0
  obtain ⟨ty, w1, v1⟩ := one_int fi d1
  obtain ⟨sq, w2, v2⟩ := one_int f16 d2
  obtain ⟨tm, w3, v3⟩ := one_int f32 d3
  obtain ⟨ss, w4, v4⟩ := one_int f32 d4
  obtain ⟨pf, w6, v6⟩ := one_int f16 d6
  have o5 := okWide_sl hcs k5
  have o7 := okWide_sl hbs k7
  have o8 := okWide_sl hbs k8
  have cells1 : ∀ {u e : TypeId} {c : Value} {y : DataW H × List MemPlace}, P.underlying u = some (.slice e) → Value.okWide P w .any b0 u c → DataW.trod enc P w 0 (fun _ => true) held n u [c] = some y → DataW.Trod enc P w 0 (fun _ => true) held u c y.1 y.2 := by
    intro u e c y hu ho hy
    obtain ⟨av, len, cap, rfl⟩ := Go.WideShapes.okWide_slice hu ho
    exact ⟨n, hy⟩
  have t5 := cells1 hcs o5 d5
  have t7 := cells1 hbs o7 d7
  have t8 := cells1 hbs o8 d8
  obtain ⟨pc, lc, xc, ρ1, le1, sim1, vr5, arg5⟩ := Sim.argSl h hB (ks := [.int .u32]) 1 hcs fe32 c32 (by decide) o5 t5
  obtain ⟨pe, le, xe, ρ2, le2, sim2, vr7, arg7⟩ := Sim.argSl sim1 hB (ks := [.int .u8]) 1 hbs fe8 c8 (by decide) o7 t7
  obtain ⟨pp, lp, xp, ρ3, le3, sim3, vr8, arg8⟩ := Sim.argSl sim2 hB (ks := [.int .u8]) 1 hbs fe8 c8 (by decide) o8 t8
  have r5 := arg_room vr5 hcs t5 hsz' (j := 5) rfl (by rw [List.getElem?_map, x5]; rfl)
  have r7 := arg_room vr7 hbs t7 hsz' (j := 7) rfl (by rw [List.getElem?_map, x7]; rfl)
  have r8 := arg_room vr8 hbs t8 hsz' (j := 8) rfl (by rw [List.getElem?_map, x8]; rfl)
  rw [y32] at r5
  rw [y8] at r7 r8
  refine ⟨mrk, ty, sq, tm, ss, pf, pc, lc, xc, pe, le, xe, pp, lp, xp, ρ3, fun o u L hL => le3 _ _ _ (le2 _ _ _ (le1 _ _ _ hL)), sim3, .agg ?_ rfl, ⟨w1, w2, w3, w4, w6⟩, ⟨arg5, arg7, arg8⟩, r5, r7, r8⟩
  rw [hl]
  exact .cons (v0 _) (.cons (v1 _) (.cons (v2 _) (.cons (v3 _) (.cons (v4 _) (.cons (VR.mono le3 (VR.mono le2 vr5)) (.cons (v6 _) (.cons (VR.mono le3 vr7) (.cons vr8 .nil))))))))
end
end Go.Proofs.YthejkmfmcjpfhaaA
