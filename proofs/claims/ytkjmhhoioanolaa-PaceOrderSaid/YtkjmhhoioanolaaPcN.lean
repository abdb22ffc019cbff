/- Chapter 11: PaceOrder. -/
import Derived.Test.YtkjmhhoioanolaaPcL
set_option linter.unusedVariables false
set_option linter.unusedSimpArgs false
set_option maxRecDepth 10000
namespace Go.Proofs.YtkjmhhoioanolaaA
open Go.RowKit
attribute [local congr] bind_congr1 map_congr1 cond_congr1 withX_congr after_congr br_congr gd_congr

/-- The heads of rows. -/
def hds (rows : List (List Nat)) : List Nat := rows.map fun l => l.headD 0
theorem hds_app (a b : List (List Nat)) : hds (a ++ b) = hds a ++ hds b := List.map_append
theorem hds_len (a : List (List Nat)) : (hds a).length = a.length := List.length_map _
/-- A byte row that grows; F: what others own. -/
structure Vb (Sb S : St) (F : Nat → Prop) (p : Option (Nat × Nat × Nat)) (e : Nat) (l : List Nat) : Prop where
  vec : Vec S p l.length 1 e (bv l)
  new : ∀ o v i, p = some (o, v, i) → Sb.next ≤ o ∧ o < S.next ∧ ¬ F o
  bd : Byt l
theorem Vb.nil (Sb S : St) (F : Nat → Prop) : Vb Sb S F none 0 [] := ⟨.nil _ _ _, fun _ _ _ h => (by cases h), .nil⟩
theorem Vb.fr {Sb S S' : St} {F G F' : Nat → Prop} {p : Option (Nat × Nat × Nat)} {e : Nat} {l : List Nat} (h : Vb Sb S F p e l) (f : Fr S S' G) (hd : ∀ o v i, p = some (o, v, i) → ¬ G o) (hF : ∀ j, j < S.next → F' j → F j) : Vb Sb S' F' p e l :=
  ⟨h.vec.fr f hd, fun o v i hp => let ⟨h1, h2, h3⟩ := h.new o v i hp; ⟨h1, Nat.lt_of_lt_of_le h2 f.next, fun hf => h3 (hF o h2 hf)⟩, h.bd⟩
theorem Vb.by_ {Sb S : St} {F : Nat → Prop} {p : Option (Nat × Nat × Nat)} {e : Nat} {l : List Nat} (h : Vb Sb S F p e l) (hm : l.length ≤ 1000) : By S p e l := by
  refine ⟨h.vec.ez, fun hp => ?_, fun o v i hp => ?_, h.bd, by omega⟩
  · rcases h.vec.at_ with ⟨_, h0⟩ | ⟨o, ver, minv, hp', _⟩
    · exact List.length_eq_zero_iff.1 h0
    · rw [hp] at hp'; cases hp'
  · rcases h.vec.at_ with ⟨hp', _⟩ | ⟨o', ver, minv, hp', h1, h2, h3⟩
    · rw [hp] at hp'; cases hp'
    · rw [hp] at hp'; cases hp'
      refine ⟨h1, ?_⟩
      rw [rd_cells h2 h3 (by rw [bv_len]; omega), List.drop_zero, List.take_of_length_le (by rw [bv_len]; exact Nat.le_refl _)]
theorem Vb.app {Sb S : St} {F : Nat → Prop} {p : Option (Nat × Nat × Nat)} {e : Nat} {l : List Nat} (h : Vb Sb S F p e l) (hF : ∀ j, F j → j < S.next) (hS : Sb.next ≤ S.next) {b : Nat} (hb : b < 256) (hm : l.length ≤ 1000) :
    ∃ p' S', aAppend 1 1 S (.slice p l.length e none) 1 [.int .u8 (b : Int)] = some (.slice p' (l.length + 1) 1 none, S') ∧ Vb Sb S' F p' 1 (l ++ [b]) ∧ Fr S S' (fun j => ∃ v i, p = some (j, v, i)) ∧
      ∀ o v i, p' = some (o, v, i) → S.next ≤ o ∨ ∃ v' i', p = some (o, v', i') := by
  obtain ⟨p', S', h1, h2, h3, h4⟩ := h.vec.append (bytes := 1) (xs := [.int .u8 (b : Int)]) (n := 1) rfl (by decide) (by omega)
  have f : Fr S S' (fun j => ∃ v i, p = some (j, v, i)) := ⟨h3.next, fun j hj hn => h3.old j hj fun v i hp => hn ⟨v, i, hp⟩⟩
  refine ⟨p', S', h1, ⟨?_, fun o v i hp => ?_, h.bd.app fun x hx => by rw [List.mem_singleton.1 hx]; exact hb⟩, f, h4⟩
  · rw [List.length_append, bv_app]; exact h2
  · have hlt : o < S'.next := by
      rcases h2.at_ with ⟨hp', _⟩ | ⟨o', _, _, hp', h5, _⟩
      · rw [hp] at hp'; cases hp'
      · rw [hp] at hp'; cases hp'; exact h5
    rcases h4 o v i hp with h5 | ⟨v', i', h5⟩
    · exact ⟨Nat.le_trans hS h5, hlt, fun hf => by have := hF o hf; omega⟩
    · have := h.new _ _ _ h5; exact ⟨this.1, hlt, this.2.2⟩
/-- A queue, and two rows that grow beside it. -/
structure Po (Sb : St) (q ob : Nat) (F : Nat → Prop) (rows : List (List Nat)) (b : Bk) (cut : Int) (pw : Option (Nat × Nat × Nat)) (ew : Nat) (want : List Nat) (pg : Option (Nat × Nat × Nat)) (eg : Nat) (got : List Nat) (S : St) : Prop where
  ext : Ext Sb S
  qu : Qu S F q ob rows b cut
  fb : ∀ j, F j → Sb.next ≤ j
  w : Vb Sb S F pw ew want
  g : Vb Sb S F pg eg got
  ne : ∀ o v i v' i', pw = some (o, v, i) → ¬ pg = some (o, v', i')
section
variable {Sb S : St} {q ob : Nat} {F : Nat → Prop} {rows : List (List Nat)} {b : Bk} {cut : Int} {pw : Option (Nat × Nat × Nat)} {ew : Nat} {want : List Nat} {pg : Option (Nat × Nat × Nat)} {eg : Nat} {got : List Nat}
theorem Po.more {S' : St} (h : Po Sb q ob F rows b cut pw ew want pg eg got S) (e : Ext S S') : Po Sb q ob F rows b cut pw ew want pg eg got S' :=
  ⟨h.ext.trans e, h.qu.fr (.of_ext e fun _ => False) fun _ _ h => h, h.fb, h.w.fr (.of_ext e fun _ => False) (fun _ _ _ _ h => h) fun _ _ h => h, h.g.fr (.of_ext e fun _ => False) (fun _ _ _ _ h => h) fun _ _ h => h, h.ne⟩
theorem Po.turn {S' : St} {F' : Nat → Prop} {rows' : List (List Nat)} {b' : Bk} {cut' : Int} (h : Po Sb q ob F rows b cut pw ew want pg eg got S) (f : Fr S S' F) (Q : Qu S' F' q ob rows' b' cut') (hF : ∀ j, F' j → Own S S' F j) : Po Sb q ob F' rows' b' cut' pw ew want pg eg got S' := by
  have hn := h.ext.next
  have hs : ∀ j, j < S.next → F' j → F j := fun j hj hf => (hF j hf).elim id fun hh => by omega
  refine ⟨f.ext h.ext h.fb, Q, fun j hj => (hF j hj).elim (h.fb j) fun hh => by omega, h.w.fr f (fun o v i hp => (h.w.new o v i hp).2.2) hs, h.g.fr f (fun o v i hp => (h.g.new o v i hp).2.2) hs, h.ne⟩
theorem Po.put (h : Po Sb q ob F rows b cut pw ew want pg eg got S) (k : Nat) {o n : Nat} {l : List Nat} (ho : o < S.next) (bl : Byt l) (hl : l.length = n) (hn : n ≤ 100000) (g : S.get o = some (.cells (bv l) 0 0 true)) :
    ∃ F' S1, evF Y AP (k + 1999) 9 [pt q, .slice (some (o, 0, 0)) n 1 none] S = some (.bool (putB rows b l), S1) ∧ Po Sb q ob F' (putR rows b l) b (putC rows b l cut) pw ew want pg eg got S1 := by
  subst hl
  obtain ⟨S1, r1, f1, Q1⟩ := T9 (k + 1991) h.qu (c := none) (by_new ho bl rfl hn g) (by omega)
  exact ⟨_, S1, r1, h.turn f1 Q1 fun j hj => hj⟩
theorem Po.tick (h : Po Sb q ob F rows b cut pw ew want pg eg got S) (k : Nat) (n : Int) :
    ∃ S1, evF Y AP (k + 1999) 10 [pt q, .int .i64 n] S = some (.tuple [], S1) ∧ Po Sb q ob F rows (tickB b n) cut pw ew want pg eg got S1 := by
  obtain ⟨S1, r1, f1, Q1⟩ := T10 (k + 1991) h.qu n
  exact ⟨S1, r1, h.turn f1 Q1 fun j hj => .inl hj⟩
theorem Po.go (h : Po Sb q ob F rows b cut pw ew want pg eg got S) (k : Nat) :
    ∃ F' p c S1, evF Y AP (k + 1999) 11 [pt q] S = some (.slice p (goL rows b).1.length 1 c, S1) ∧ Rl S1 F' p 1 (goL rows b).1 ∧ Po Sb q ob F' (goL rows b).2.1 (goL rows b).2.2 cut pw ew want pg eg got S1 := by
  obtain ⟨p, c, S1, r1, rl, f1, Q1⟩ := T11 (k + 1979) h.qu
  have hb := h.qu.bd
  have hn := f1.next
  exact ⟨_, p, c, S1, r1, rl, h.turn f1 (Q1.mono (F' := Own S S1 F) (fun j hj => .inl hj) fun j hj => hj.elim (fun hf => by have := hb j hf; omega) fun hh => hh.2) fun j hj => hj⟩
theorem Po.appW (h : Po Sb q ob F rows b cut pw ew want pg eg got S) {x : Nat} (hx : x < 256) (hm : want.length ≤ 1000) :
    ∃ p' S', aAppend 1 1 S (.slice pw want.length ew none) 1 [.int .u8 (x : Int)] = some (.slice p' (want.length + 1) 1 none, S') ∧ Po Sb q ob F rows b cut p' 1 (want ++ [x]) pg eg got S' := by
  obtain ⟨p', S', h1, h2, h3, h4⟩ := h.w.app h.qu.bd h.ext.next hx hm
  have hw : ∀ j, (∃ v i, pw = some (j, v, i)) → Sb.next ≤ j ∧ j < S.next ∧ ¬ F j := fun j ⟨v, i, hp⟩ => h.w.new _ _ _ hp
  refine ⟨p', S', h1, h3.ext h.ext fun j hj => (hw j hj).1, h.qu.fr h3 fun j hj hh => (hw j hh).2.2 hj, h.fb, h2, h.g.fr h3 (fun o v i hp ⟨v', i', hp'⟩ => h.ne _ _ _ _ _ hp' hp) fun _ _ h => h, fun o v i v' i' hp hp' => ?_⟩
  rcases h4 o v i hp with h5 | ⟨v2, i2, h5⟩
  · have := (h.g.new _ _ _ hp').2.1; omega
  · exact h.ne _ _ _ _ _ h5 hp'
theorem Po.appG (h : Po Sb q ob F rows b cut pw ew want pg eg got S) {x : Nat} (hx : x < 256) (hm : got.length ≤ 1000) :
    ∃ p' S', aAppend 1 1 S (.slice pg got.length eg none) 1 [.int .u8 (x : Int)] = some (.slice p' (got.length + 1) 1 none, S') ∧ Po Sb q ob F rows b cut pw ew want p' 1 (got ++ [x]) S' ∧ ∃ G, Fr S S' G ∧ ∀ j, F j → ¬ G j := by
  obtain ⟨p', S', h1, h2, h3, h4⟩ := h.g.app h.qu.bd h.ext.next hx hm
  have hw : ∀ j, (∃ v i, pg = some (j, v, i)) → Sb.next ≤ j ∧ j < S.next ∧ ¬ F j := fun j ⟨v, i, hp⟩ => h.g.new _ _ _ hp
  refine ⟨p', S', h1, ⟨h3.ext h.ext fun j hj => (hw j hj).1, h.qu.fr h3 fun j hj hh => (hw j hh).2.2 hj, h.fb, h.w.fr h3 (fun o v i hp ⟨v', i', hp'⟩ => h.ne _ _ _ _ _ hp hp') fun _ _ h => h, h2, fun o v i v' i' hp hp' => ?_⟩, _, h3, fun j hj hh => (hw j hh).2.2 hj⟩
  rcases h4 o v' i' hp' with h5 | ⟨v2, i2, h5⟩
  · have := (h.w.new _ _ _ hp).2.1; omega
  · exact h.ne _ _ _ _ _ hp h5
end
/-- Rows that are fit to go. -/
def Fit (rows : List (List Nat)) : Prop := ∀ l ∈ rows, 1 ≤ l.length ∧ l.length ≤ 301
theorem Fit.go {rows : List (List Nat)} (h : Fit rows) (b : Bk) : Fit (goL rows b).1 ∧ Fit (goL rows b).2.1 := by
  have := goL_cat rows b
  exact ⟨fun l hl => h l (this ▸ List.mem_append_left _ hl), fun l hl => h l (this ▸ List.mem_append_right _ hl)⟩
theorem hds_go (rows : List (List Nat)) (b : Bk) : hds (goL rows b).1 ++ hds (goL rows b).2.1 = hds rows := by rw [← hds_app, goL_cat]
structure IL (tX tS tL tI : Nat) (v0 vX : AV) (q ob : Nat) (F : Nat → Prop) (rows : List (List Nat)) (b : Bk) (cut : Int) (pw : Option (Nat × Nat × Nat)) (ew : Nat) (want got : List Nat) (po : Option (Nat × Nat × Nat)) (co : Option Nat) (outs : List (List Nat)) (Sb : St) (m : Nat) (T : Tm) (S : St) : Prop where
  t0 : T.get 0 = some v0
  t5 : T.get 5 = some (pt q)
  t6 : T.get 6 = some (.slice pw want.length ew none)
  tx : T.get tX = some vX
  ts : T.get tS = some (.slice po outs.length 1 co)
  tl : T.get tL = some (.int .i64 outs.length)
  more : ∃ (j : Nat) (pg : Option (Nat × Nat × Nat)) (eg : Nat) (got' : List Nat), T.get tI = some (.int .i64 j) ∧ j + m = outs.length ∧ T.get 7 = some (.slice pg got'.length eg none) ∧ got' = got ++ hds (outs.take j) ∧
    Po Sb q ob F rows b cut pw ew want pg eg got' S ∧ Rl S F po 1 outs
set_option maxHeartbeats 8000000 in
theorem roundL0 (k : Nat) {v0 vX : AV} {q ob : Nat} {F : Nat → Prop} {rows : List (List Nat)} {b : Bk} {cut : Int} {pw : Option (Nat × Nat × Nat)} {ew : Nat} {want got : List Nat} {po : Option (Nat × Nat × Nat)} {co : Option Nat} {outs : List (List Nat)} {Sb : St} (hf : Fit outs) (hg : got.length ≤ 200) (ho : outs.length ≤ 200)
    (m : Nat) (T : Tm) (S : St) (hI : IL 12 84 85 86 v0 vX q ob F rows b cut pw ew want got po co outs Sb m T S) :
    Goes (evF Y AP (k + 1999)) (k + 1999) af3_l0 T S (Then (fun T' S' => ∃ m', IL 12 84 85 86 v0 vX q ob F rows b cut pw ew want got po co outs Sb m' T' S' ∧ id m' < id m) fun r T' S' => r = .exit 6 ∧ IL 12 84 85 86 v0 vX q ob F rows b cut pw ew want got po co outs Sb 0 T' S') := by
  obtain ⟨t0, t5, t6, tx, ts, tl, j, pg, eg, got', ti, hj, t7, hg', P, rl⟩ := hI
  by_cases c1 : (j : Int) < (outs.length : Int)
  rotate_left
  · simp -implicitDefEqProofs -dsimp (maxSteps := 10000000) only [af3_l0, ↓goes_loop, ↓goes_seq, ↓goes_reg, ↓goes_dreg, ↓goes_cond, ↓goes_block, ↓goes_skip, ↓goes_exit, ↓goes_ret, after_some, br_true, br_false, ↓then_normal, ↓then_exit, ↓then_ret, ↓blk_normal, ↓blk_exit, ↓blk_ret, ↓blk_other, ops_nil, ops_some, ops_none, oper_none, oper_some, gd_tt, gd_ff, gd_tf, gd_ft, gd_undef, ↓any_op, ↓any_call, ↓any_callV, ↓any_invoke, xo_t, xo_c, args_nil, args_cons, bin_add, bin_sub, bin_mul, bin_quo, bin_rem, bin_and, bin_or, bin_xor, bin_andNot, bin_eql, bin_neq, bin_lss, bin_leq, bin_gtr, bin_geq, bin_shl, bin_shr, bin_bools, bin_strs, bin_ptrs, bin_slices, bin_aggs, ↓Option.bind_some, ↓Option.map_some, ↓cond_true, ↓cond_false, evC, evOp, XO.lit, setArgs, Tr.get_set, Option.bind_some, Option.map_some, cond_true, cond_false, maxI, maxFrom, minI, minFrom, aConv, aBinE, aEq, eqScal, aUn, evRes, fin, oneOf, if_true, if_false, callee, reduceCtorEq, Nat.reduceEqDiff, and_self, decide_true, decide_false, beq_true, beq_false, Bool.not_true, Bool.not_false, List.getElem?_cons_zero, List.getElem?_cons_succ, beq_self_eq_true, gt_iff_lt, ble_dec, beq_dec, List.head?_cons, AV.undef, eq_self, ne_eq, not_true_eq_false, not_false_eq_true, Int.reduceLT, Int.reduceLE, Int.reduceToNat, Int.reduceEq, Int.reduceNeg, Nat.reduceAdd, Nat.reduceLT, Nat.reduceLeDiff, Nat.reduceMul, Nat.reduceSub, AV.cells, AV.tup, Bool.true_and, true_and, and_true, List.drop_nil, List.append_nil, rd_put, rd_alloc, rdO, St.get_put, St.get_alloc, St.next_put, St.next_alloc, St.wr, Bool.and_self, Bool.and_true, List.length_cons, List.length_nil, List.take_succ_cons, List.take_zero, List.drop_succ_cons, List.drop_zero, List.cons_append, List.nil_append, Nat.zero_add, Nat.add_zero, Nat.reduceMul, ti, tl, c1]
    refine ⟨?_, ?_, ?_, ?_, ?_, ?_, j, pg, eg, got', ?_, by omega, ?_, hg', P, rl⟩ <;> simp only [Tr.get_set, Nat.reduceEqDiff, if_false, if_true, t0, t5, t6, tx, ts, tl, ti, t7]
  have hjl : j < outs.length := by omega
  have hix : ixOf (.int .i64 (j : Int)) outs.length = some j := by rw [ix_ok (by omega) c1]; rfl
  have wj : IntKind.i64.wrap ((j : Int) + 1) = ((j + 1 : Nat) : Int) := w64_id (by omega) (by omega)
  rcases po with _ | ⟨o, v, i⟩
  · rcases rl with ⟨_, h0⟩ | ⟨_, _, _, _, h0, _⟩
    · rw [h0] at hjl; exact absurd hjl (Nat.not_lt_zero _)
    · cases h0
  obtain ⟨x, hx, px, ex, cx, rfl, bx, fx⟩ := rl.get hjl
  obtain ⟨l, hl⟩ : ∃ l, outs[j] = l := ⟨_, rfl⟩
  rw [hl] at hx bx
  have hfl := hf l (hl ▸ List.getElem_mem hjl)
  obtain ⟨y, l', rfl⟩ : ∃ y l', l = y :: l' := by cases l with
    | nil => simp at hfl
    | cons y l' => exact ⟨y, l', rfl⟩
  obtain ⟨n, hn⟩ : ∃ n, (y :: l').length = n := ⟨_, rfl⟩
  rw [hn] at hx hfl
  have n0 : ¬ (n : Int) = 0 := by omega
  have hn1 : n ≤ 9223372036854775807 := by omega
  have hiy : ixOf (.int .i64 0) n = some 0 := by rw [ix_ok (by omega) (by omega)]; rfl
  rcases px with _ | ⟨ox, vx, ix⟩
  · have := bx.nil rfl; cases this
  have hex := bx.ez.resolve_left (by simp)
  subst hex
  have hy : S.rd ox vx (ix + 0) 1 = some [.int .u8 (y : Int)] := bx.get (j := 0) (by simp)
  rw [Nat.add_zero] at hy
  have y256 : y < 256 := bx.bd y List.mem_cons_self
  obtain ⟨A, hA⟩ : ∃ A, S.alloc (.cells [.int .u8 (y : Int)] 0 0 true) = A := ⟨_, rfl⟩
  have eA : Ext S A := by rw [← hA]; exact .alloc _ _
  have hrA : A.rd S.next 0 0 1 = some [.int .u8 (y : Int)] := by rw [← hA, rd_alloc, if_pos rfl]; rfl
  have hgl : got'.length ≤ 1000 := by rw [hg', List.length_append, hds_len, List.length_take]; omega
  obtain ⟨p', S', hap, P', G, fG, hG⟩ := (P.more eA).appG y256 hgl
  have rl' := (rl.fr (.of_ext eA fun _ => False) fun _ _ _ h => h).fr fG fun j _ hj => hG j hj
  have hgt : got' ++ [y] = got ++ hds (outs.take (j + 1)) := by
    rw [hg', List.take_succ_eq_append_getElem hjl, hds_app, hl, List.append_assoc]; rfl
  simp -implicitDefEqProofs -dsimp (maxSteps := 10000000) only [af3_l0, ↓goes_loop, ↓goes_seq, ↓goes_reg, ↓goes_dreg, ↓goes_cond, ↓goes_block, ↓goes_skip, ↓goes_exit, ↓goes_ret, after_some, br_true, br_false, ↓then_normal, ↓then_exit, ↓then_ret, ↓blk_normal, ↓blk_exit, ↓blk_ret, ↓blk_other, ops_nil, ops_some, ops_none, oper_none, oper_some, gd_tt, gd_ff, gd_tf, gd_ft, gd_undef, ↓any_op, ↓any_call, ↓any_callV, ↓any_invoke, xo_t, xo_c, args_nil, args_cons, bin_add, bin_sub, bin_mul, bin_quo, bin_rem, bin_and, bin_or, bin_xor, bin_andNot, bin_eql, bin_neq, bin_lss, bin_leq, bin_gtr, bin_geq, bin_shl, bin_shr, bin_bools, bin_strs, bin_ptrs, bin_slices, bin_aggs, ↓Option.bind_some, ↓Option.map_some, ↓cond_true, ↓cond_false, evC, evOp, XO.lit, setArgs, Tr.get_set, Option.bind_some, Option.map_some, cond_true, cond_false, maxI, maxFrom, minI, minFrom, aConv, aBinE, aEq, eqScal, aUn, evRes, fin, oneOf, if_true, if_false, callee, reduceCtorEq, Nat.reduceEqDiff, and_self, decide_true, decide_false, beq_true, beq_false, Bool.not_true, Bool.not_false, List.getElem?_cons_zero, List.getElem?_cons_succ, beq_self_eq_true, gt_iff_lt, ble_dec, beq_dec, List.head?_cons, AV.undef, eq_self, ne_eq, not_true_eq_false, not_false_eq_true, Int.reduceLT, Int.reduceLE, Int.reduceToNat, Int.reduceEq, Int.reduceNeg, Nat.reduceAdd, Nat.reduceLT, Nat.reduceLeDiff, Nat.reduceMul, Nat.reduceSub, AV.cells, AV.tup, Bool.true_and, true_and, and_true, List.drop_nil, List.append_nil, rd_put, rd_alloc, rdO, St.get_put, St.get_alloc, St.next_put, St.next_alloc, St.wr, Bool.and_self, Bool.and_true, List.length_cons, List.length_nil, List.take_succ_cons, List.take_zero, List.drop_succ_cons, List.drop_zero, List.cons_append, List.nil_append, Nat.zero_add, Nat.add_zero, Nat.reduceMul, aFill, evParts, rep, List.replicate_succ, List.replicate_zero, List.flatten_cons, List.flatten_nil, List.append_nil, newSl, newVar, t7, ts, ti, tl, c1, hix, hx, n0, hn1, hiy, hy, hA, hrA, hap, wj, Nat.mul_one, Nat.add_zero]
  refine ⟨m - 1, ⟨?_, ?_, ?_, ?_, ?_, ?_, j + 1, p', 1, got' ++ [y], ?_, by omega, ?_, hgt, P', rl'⟩, by show m - 1 < m; omega⟩
  iterate 8 (simp only [Tr.get_set, Nat.reduceEqDiff, if_false, if_true, t0, t5, t6, tx, ts, tl, List.length_append, List.length_cons, List.length_nil])
set_option maxHeartbeats 8000000 in
theorem roundL2 (k : Nat) {v0 vX : AV} {q ob : Nat} {F : Nat → Prop} {rows : List (List Nat)} {b : Bk} {cut : Int} {pw : Option (Nat × Nat × Nat)} {ew : Nat} {want got : List Nat} {po : Option (Nat × Nat × Nat)} {co : Option Nat} {outs : List (List Nat)} {Sb : St} (hf : Fit outs) (hg : got.length ≤ 200) (ho : outs.length ≤ 200)
    (m : Nat) (T : Tm) (S : St) (hI : IL 8 56 57 58 v0 vX q ob F rows b cut pw ew want got po co outs Sb m T S) :
    Goes (evF Y AP (k + 1999)) (k + 1999) af3_l2 T S (Then (fun T' S' => ∃ m', IL 8 56 57 58 v0 vX q ob F rows b cut pw ew want got po co outs Sb m' T' S' ∧ id m' < id m) fun r T' S' => r = .exit 2 ∧ IL 8 56 57 58 v0 vX q ob F rows b cut pw ew want got po co outs Sb 0 T' S') := by
  obtain ⟨t0, t5, t6, tx, ts, tl, j, pg, eg, got', ti, hj, t7, hg', P, rl⟩ := hI
  by_cases c1 : (j : Int) < (outs.length : Int)
  rotate_left
  · simp -implicitDefEqProofs -dsimp (maxSteps := 10000000) only [af3_l2, ↓goes_loop, ↓goes_seq, ↓goes_reg, ↓goes_dreg, ↓goes_cond, ↓goes_block, ↓goes_skip, ↓goes_exit, ↓goes_ret, after_some, br_true, br_false, ↓then_normal, ↓then_exit, ↓then_ret, ↓blk_normal, ↓blk_exit, ↓blk_ret, ↓blk_other, ops_nil, ops_some, ops_none, oper_none, oper_some, gd_tt, gd_ff, gd_tf, gd_ft, gd_undef, ↓any_op, ↓any_call, ↓any_callV, ↓any_invoke, xo_t, xo_c, args_nil, args_cons, bin_add, bin_sub, bin_mul, bin_quo, bin_rem, bin_and, bin_or, bin_xor, bin_andNot, bin_eql, bin_neq, bin_lss, bin_leq, bin_gtr, bin_geq, bin_shl, bin_shr, bin_bools, bin_strs, bin_ptrs, bin_slices, bin_aggs, ↓Option.bind_some, ↓Option.map_some, ↓cond_true, ↓cond_false, evC, evOp, XO.lit, setArgs, Tr.get_set, Option.bind_some, Option.map_some, cond_true, cond_false, maxI, maxFrom, minI, minFrom, aConv, aBinE, aEq, eqScal, aUn, evRes, fin, oneOf, if_true, if_false, callee, reduceCtorEq, Nat.reduceEqDiff, and_self, decide_true, decide_false, beq_true, beq_false, Bool.not_true, Bool.not_false, List.getElem?_cons_zero, List.getElem?_cons_succ, beq_self_eq_true, gt_iff_lt, ble_dec, beq_dec, List.head?_cons, AV.undef, eq_self, ne_eq, not_true_eq_false, not_false_eq_true, Int.reduceLT, Int.reduceLE, Int.reduceToNat, Int.reduceEq, Int.reduceNeg, Nat.reduceAdd, Nat.reduceLT, Nat.reduceLeDiff, Nat.reduceMul, Nat.reduceSub, AV.cells, AV.tup, Bool.true_and, true_and, and_true, List.drop_nil, List.append_nil, rd_put, rd_alloc, rdO, St.get_put, St.get_alloc, St.next_put, St.next_alloc, St.wr, Bool.and_self, Bool.and_true, List.length_cons, List.length_nil, List.take_succ_cons, List.take_zero, List.drop_succ_cons, List.drop_zero, List.cons_append, List.nil_append, Nat.zero_add, Nat.add_zero, Nat.reduceMul, ti, tl, c1]
    refine ⟨?_, ?_, ?_, ?_, ?_, ?_, j, pg, eg, got', ?_, by omega, ?_, hg', P, rl⟩ <;> simp only [Tr.get_set, Nat.reduceEqDiff, if_false, if_true, t0, t5, t6, tx, ts, tl, ti, t7]
  have hjl : j < outs.length := by omega
  have hix : ixOf (.int .i64 (j : Int)) outs.length = some j := by rw [ix_ok (by omega) c1]; rfl
  have wj : IntKind.i64.wrap ((j : Int) + 1) = ((j + 1 : Nat) : Int) := w64_id (by omega) (by omega)
  rcases po with _ | ⟨o, v, i⟩
  · rcases rl with ⟨_, h0⟩ | ⟨_, _, _, _, h0, _⟩
    · rw [h0] at hjl; exact absurd hjl (Nat.not_lt_zero _)
    · cases h0
  obtain ⟨x, hx, px, ex, cx, rfl, bx, fx⟩ := rl.get hjl
  obtain ⟨l, hl⟩ : ∃ l, outs[j] = l := ⟨_, rfl⟩
  rw [hl] at hx bx
  have hfl := hf l (hl ▸ List.getElem_mem hjl)
  obtain ⟨y, l', rfl⟩ : ∃ y l', l = y :: l' := by cases l with
    | nil => simp at hfl
    | cons y l' => exact ⟨y, l', rfl⟩
  obtain ⟨n, hn⟩ : ∃ n, (y :: l').length = n := ⟨_, rfl⟩
  rw [hn] at hx hfl
  have n0 : ¬ (n : Int) = 0 := by omega
  have hn1 : n ≤ 9223372036854775807 := by omega
  have hiy : ixOf (.int .i64 0) n = some 0 := by rw [ix_ok (by omega) (by omega)]; rfl
  rcases px with _ | ⟨ox, vx, ix⟩
  · have := bx.nil rfl; cases this
  have hex := bx.ez.resolve_left (by simp)
  subst hex
  have hy : S.rd ox vx (ix + 0) 1 = some [.int .u8 (y : Int)] := bx.get (j := 0) (by simp)
  rw [Nat.add_zero] at hy
  have y256 : y < 256 := bx.bd y List.mem_cons_self
  obtain ⟨A, hA⟩ : ∃ A, S.alloc (.cells [.int .u8 (y : Int)] 0 0 true) = A := ⟨_, rfl⟩
  have eA : Ext S A := by rw [← hA]; exact .alloc _ _
  have hrA : A.rd S.next 0 0 1 = some [.int .u8 (y : Int)] := by rw [← hA, rd_alloc, if_pos rfl]; rfl
  have hgl : got'.length ≤ 1000 := by rw [hg', List.length_append, hds_len, List.length_take]; omega
  obtain ⟨p', S', hap, P', G, fG, hG⟩ := (P.more eA).appG y256 hgl
  have rl' := (rl.fr (.of_ext eA fun _ => False) fun _ _ _ h => h).fr fG fun j _ hj => hG j hj
  have hgt : got' ++ [y] = got ++ hds (outs.take (j + 1)) := by
    rw [hg', List.take_succ_eq_append_getElem hjl, hds_app, hl, List.append_assoc]; rfl
  simp -implicitDefEqProofs -dsimp (maxSteps := 10000000) only [af3_l2, ↓goes_loop, ↓goes_seq, ↓goes_reg, ↓goes_dreg, ↓goes_cond, ↓goes_block, ↓goes_skip, ↓goes_exit, ↓goes_ret, after_some, br_true, br_false, ↓then_normal, ↓then_exit, ↓then_ret, ↓blk_normal, ↓blk_exit, ↓blk_ret, ↓blk_other, ops_nil, ops_some, ops_none, oper_none, oper_some, gd_tt, gd_ff, gd_tf, gd_ft, gd_undef, ↓any_op, ↓any_call, ↓any_callV, ↓any_invoke, xo_t, xo_c, args_nil, args_cons, bin_add, bin_sub, bin_mul, bin_quo, bin_rem, bin_and, bin_or, bin_xor, bin_andNot, bin_eql, bin_neq, bin_lss, bin_leq, bin_gtr, bin_geq, bin_shl, bin_shr, bin_bools, bin_strs, bin_ptrs, bin_slices, bin_aggs, ↓Option.bind_some, ↓Option.map_some, ↓cond_true, ↓cond_false, evC, evOp, XO.lit, setArgs, Tr.get_set, Option.bind_some, Option.map_some, cond_true, cond_false, maxI, maxFrom, minI, minFrom, aConv, aBinE, aEq, eqScal, aUn, evRes, fin, oneOf, if_true, if_false, callee, reduceCtorEq, Nat.reduceEqDiff, and_self, decide_true, decide_false, beq_true, beq_false, Bool.not_true, Bool.not_false, List.getElem?_cons_zero, List.getElem?_cons_succ, beq_self_eq_true, gt_iff_lt, ble_dec, beq_dec, List.head?_cons, AV.undef, eq_self, ne_eq, not_true_eq_false, not_false_eq_true, Int.reduceLT, Int.reduceLE, Int.reduceToNat, Int.reduceEq, Int.reduceNeg, Nat.reduceAdd, Nat.reduceLT, Nat.reduceLeDiff, Nat.reduceMul, Nat.reduceSub, AV.cells, AV.tup, Bool.true_and, true_and, and_true, List.drop_nil, List.append_nil, rd_put, rd_alloc, rdO, St.get_put, St.get_alloc, St.next_put, St.next_alloc, St.wr, Bool.and_self, Bool.and_true, List.length_cons, List.length_nil, List.take_succ_cons, List.take_zero, List.drop_succ_cons, List.drop_zero, List.cons_append, List.nil_append, Nat.zero_add, Nat.add_zero, Nat.reduceMul, aFill, evParts, rep, List.replicate_succ, List.replicate_zero, List.flatten_cons, List.flatten_nil, List.append_nil, newSl, newVar, t7, ts, ti, tl, c1, hix, hx, n0, hn1, hiy, hy, hA, hrA, hap, wj, Nat.mul_one, Nat.add_zero]
  refine ⟨m - 1, ⟨?_, ?_, ?_, ?_, ?_, ?_, j + 1, p', 1, got' ++ [y], ?_, by omega, ?_, hgt, P', rl'⟩, by show m - 1 < m; omega⟩
  iterate 8 (simp only [Tr.get_set, Nat.reduceEqDiff, if_false, if_true, t0, t5, t6, tx, ts, tl, List.length_append, List.length_cons, List.length_nil])
theorem goL_ru : ∀ (rows : List (List Nat)) (b : Bk), (goL rows b).2.2.r = b.r ∧ (goL rows b).2.2.u = b.u
  | [], b => ⟨rfl, rfl⟩
  | l :: ls, b => by
    unfold goL
    split
    · have := goL_ru ls (takeB b ((l.length : Int) + 28))
      have ht : (takeB b ((l.length : Int) + 28)).r = b.r ∧ (takeB b ((l.length : Int) + 28)).u = b.u := by unfold takeB; split <;> exact ⟨rfl, rfl⟩
      exact ⟨this.1.trans ht.1, this.2.trans ht.2⟩
    · exact ⟨rfl, rfl⟩
theorem goL_some {l : List Nat} {ls : List (List Nat)} {b : Bk} (h : goB b ((l.length : Int) + 28) = true) : (goL (l :: ls) b).2.1.length ≤ ls.length := by
  rw [goL, if_pos h]
  have := goL_len ls (takeB b ((l.length : Int) + 28))
  show (goL ls (takeB b ((l.length : Int) + 28))).2.1.length ≤ _
  omega
theorem Fit.put {rows : List (List Nat)} (h : Fit rows) {l : List Nat} (hl : 1 ≤ l.length ∧ l.length ≤ 301) : Fit (rows ++ [l]) := fun x hx => by
  rcases List.mem_append.1 hx with hx | hx
  · exact h x hx
  · rw [List.mem_singleton.1 hx]; exact hl
/-- Between the rounds. -/
structure Md (q ob : Nat) (Sb : St) (T : Tm) (S : St) (n : Nat) (F : Nat → Prop) (rows : List (List Nat)) (b : Bk) (cut : Int) (pw : Option (Nat × Nat × Nat)) (ew : Nat) (want : List Nat) (pg : Option (Nat × Nat × Nat)) (eg : Nat) (got : List Nat) : Prop where
  t5 : T.get 5 = some (pt q)
  t6 : T.get 6 = some (.slice pw want.length ew none)
  t7 : T.get 7 = some (.slice pg got.length eg none)
  po : Po Sb q ob F rows b cut pw ew want pg eg got S
  fit : Fit rows
  r : 1000 ≤ b.r
  u : b.u = 2000
  all : want = got ++ hds rows
  len : want.length ≤ n
structure I3 (v0 : AV) (q ob : Nat) (Sb : St) (m : Nat) (T : Tm) (S : St) : Prop where
  t0 : T.get 0 = some v0
  more : ∃ F rows b cut pw ew want pg eg got, ∃ j : Nat, T.get 8 = some (.int .i64 j) ∧ j + m = 40 ∧ Md q ob Sb T S j F rows b cut pw ew want pg eg got
set_option maxHeartbeats 16000000 in
theorem round3 (k : Nat) {p1 : Option (Nat × Nat × Nat)} {n1 q ob : Nat} {Sb : St} (hs : Sl Sb p1 n1 [.int .i64]) (m : Nat) (T : Tm) (S : St) (hI : I3 (.slice p1 n1 1 none) q ob Sb m T S) :
    Goes (evF Y AP (k + 1999)) (k + 1999) af3_l3 T S (Then (fun T' S' => ∃ m', I3 (.slice p1 n1 1 none) q ob Sb m' T' S' ∧ id m' < id m) fun r T' S' => r = .exit 0 ∧ ∃ m', I3 (.slice p1 n1 1 none) q ob Sb m' T' S') := by
  have hm1 := hs.max
  obtain ⟨t0, F, rows, b, cut, pw, ew, want, pg, eg, got, j, t8, hm, t5, t6, t7, P, hf, hr, hu, ha, hlen⟩ := hI
  by_cases c1 : (j : Int) < (n1 : Int)
  rotate_left
  · simp -implicitDefEqProofs -dsimp (maxSteps := 10000000) only [af3_l3, ↓goes_loop, ↓goes_seq, ↓goes_reg, ↓goes_dreg, ↓goes_cond, ↓goes_block, ↓goes_skip, ↓goes_exit, ↓goes_ret, after_some, br_true, br_false, ↓then_normal, ↓then_exit, ↓then_ret, ↓blk_normal, ↓blk_exit, ↓blk_ret, ↓blk_other, ops_nil, ops_some, ops_none, oper_none, oper_some, gd_tt, gd_ff, gd_tf, gd_ft, gd_undef, ↓any_op, ↓any_call, ↓any_callV, ↓any_invoke, xo_t, xo_c, args_nil, args_cons, bin_add, bin_sub, bin_mul, bin_quo, bin_rem, bin_and, bin_or, bin_xor, bin_andNot, bin_eql, bin_neq, bin_lss, bin_leq, bin_gtr, bin_geq, bin_shl, bin_shr, bin_bools, bin_strs, bin_ptrs, bin_slices, bin_aggs, ↓Option.bind_some, ↓Option.map_some, ↓cond_true, ↓cond_false, evC, evOp, XO.lit, setArgs, Tr.get_set, Option.bind_some, Option.map_some, cond_true, cond_false, maxI, maxFrom, minI, minFrom, aConv, aBinE, aEq, eqScal, aUn, evRes, fin, oneOf, if_true, if_false, callee, reduceCtorEq, Nat.reduceEqDiff, and_self, decide_true, decide_false, beq_true, beq_false, Bool.not_true, Bool.not_false, List.getElem?_cons_zero, List.getElem?_cons_succ, beq_self_eq_true, gt_iff_lt, ble_dec, beq_dec, List.head?_cons, AV.undef, eq_self, ne_eq, not_true_eq_false, not_false_eq_true, Int.reduceLT, Int.reduceLE, Int.reduceToNat, Int.reduceEq, Int.reduceNeg, Nat.reduceAdd, Nat.reduceLT, Nat.reduceLeDiff, Nat.reduceMul, Nat.reduceSub, AV.cells, AV.tup, Bool.true_and, true_and, and_true, List.drop_nil, List.append_nil, rd_put, rd_alloc, rdO, St.get_put, St.get_alloc, St.next_put, St.next_alloc, St.wr, Bool.and_self, Bool.and_true, List.length_cons, List.length_nil, List.take_succ_cons, List.take_zero, List.drop_succ_cons, List.drop_zero, List.cons_append, List.nil_append, Nat.zero_add, Nat.add_zero, Nat.reduceMul, t0, t8, c1, hm1]
    refine ⟨m, ?_, F, rows, b, cut, pw, ew, want, pg, eg, got, j, ?_, hm, ?_, ?_, ?_, P, hf, hr, hu, ha, hlen⟩ <;> simp only [Tr.get_set, Nat.reduceEqDiff, if_false, if_true, t0, t5, t6, t7, t8]
  by_cases c2 : (j : Int) < 40
  rotate_left
  · simp -implicitDefEqProofs -dsimp (maxSteps := 10000000) only [af3_l3, ↓goes_loop, ↓goes_seq, ↓goes_reg, ↓goes_dreg, ↓goes_cond, ↓goes_block, ↓goes_skip, ↓goes_exit, ↓goes_ret, after_some, br_true, br_false, ↓then_normal, ↓then_exit, ↓then_ret, ↓blk_normal, ↓blk_exit, ↓blk_ret, ↓blk_other, ops_nil, ops_some, ops_none, oper_none, oper_some, gd_tt, gd_ff, gd_tf, gd_ft, gd_undef, ↓any_op, ↓any_call, ↓any_callV, ↓any_invoke, xo_t, xo_c, args_nil, args_cons, bin_add, bin_sub, bin_mul, bin_quo, bin_rem, bin_and, bin_or, bin_xor, bin_andNot, bin_eql, bin_neq, bin_lss, bin_leq, bin_gtr, bin_geq, bin_shl, bin_shr, bin_bools, bin_strs, bin_ptrs, bin_slices, bin_aggs, ↓Option.bind_some, ↓Option.map_some, ↓cond_true, ↓cond_false, evC, evOp, XO.lit, setArgs, Tr.get_set, Option.bind_some, Option.map_some, cond_true, cond_false, maxI, maxFrom, minI, minFrom, aConv, aBinE, aEq, eqScal, aUn, evRes, fin, oneOf, if_true, if_false, callee, reduceCtorEq, Nat.reduceEqDiff, and_self, decide_true, decide_false, beq_true, beq_false, Bool.not_true, Bool.not_false, List.getElem?_cons_zero, List.getElem?_cons_succ, beq_self_eq_true, gt_iff_lt, ble_dec, beq_dec, List.head?_cons, AV.undef, eq_self, ne_eq, not_true_eq_false, not_false_eq_true, Int.reduceLT, Int.reduceLE, Int.reduceToNat, Int.reduceEq, Int.reduceNeg, Nat.reduceAdd, Nat.reduceLT, Nat.reduceLeDiff, Nat.reduceMul, Nat.reduceSub, AV.cells, AV.tup, Bool.true_and, true_and, and_true, List.drop_nil, List.append_nil, rd_put, rd_alloc, rdO, St.get_put, St.get_alloc, St.next_put, St.next_alloc, St.wr, Bool.and_self, Bool.and_true, List.length_cons, List.length_nil, List.take_succ_cons, List.take_zero, List.drop_succ_cons, List.drop_zero, List.cons_append, List.nil_append, Nat.zero_add, Nat.add_zero, Nat.reduceMul, t0, t8, c1, c2, hm1]
    refine ⟨m, ?_, F, rows, b, cut, pw, ew, want, pg, eg, got, j, ?_, hm, ?_, ?_, ?_, P, hf, hr, hu, ha, hlen⟩ <;> simp only [Tr.get_set, Nat.reduceEqDiff, if_false, if_true, t0, t5, t6, t7, t8]
  obtain ⟨o1, v1, i1, rfl, ho1⟩ := hs.at_ (by omega)
  obtain ⟨n, hn, wn⟩ := hs.int (j := (j : Int)) (by omega) c1
  rw [show ((j : Nat) : Int).toNat = j from rfl, Nat.mul_one] at hn
  have hz : S.rd o1 v1 (i1 + j) 1 = some [.int .i64 n] := by rw [P.ext.rd ho1]; exact hn
  have hix : ixOf (.int .i64 (j : Int)) n1 = some j := by rw [ix_ok (by omega) c1]; rfl
  have wj : IntKind.i64.wrap ((j : Int) + 1) = ((j + 1 : Nat) : Int) := w64_id (by omega) (by omega)
  have r8 : ∀ S, evF Y AP (k + 1999) 8 [.int .i64 n, .int .i64 0, .int .i64 300] S = some (.int .i64 (within n 0 300), S) := fun S => T8 (k + 1995) S (by decide) (by decide) (by decide)
  have bK := within_bd n (show (0 : Int) ≤ 300 by decide)
  obtain ⟨K, hK⟩ : ∃ K, within n 0 300 = K := ⟨_, rfl⟩
  rw [hK] at r8 bK
  obtain ⟨nn, hnn⟩ : ∃ nn : Nat, 1 + K = ((nn + 1 : Nat) : Int) := ⟨K.toNat, by omega⟩
  have w1 : IntKind.i64.wrap (1 + K) = ((nn + 1 : Nat) : Int) := by rw [hnn]; exact w64_id (by omega) (by omega)
  have h0n : (0 : Int) ≤ ((nn + 1 : Nat) : Int) := by omega
  have hn2 : ((nn + 1 : Nat) : Int) * ((1 : Nat) : Int) ≤ 281474976710656 := by omega
  have hrn : rep (nn + 1) [.int .u8 0] = bv (List.replicate (nn + 1) 0) := rep_bv _
  have wu : IntKind.u8.wrap (j : Int) = (j : Int) := by rw [IntKind.wrap_u8]; omega
  have hi0 : ixOf (.int .i64 0) (nn + 1) = some 0 := by rw [ix_ok (by omega) (by omega)]; rfl
  obtain ⟨A, hA⟩ : ∃ A, S.alloc (.cells (bv (List.replicate (nn + 1) 0)) 0 0 true) = A := ⟨_, rfl⟩
  have eA : Ext S A := by rw [← hA]; exact .alloc _ _
  have nA : A.next = S.next + 1 := by rw [← hA]; rfl
  have gA : A.get S.next = some (.cells (bv (List.replicate (nn + 1) 0)) 0 0 true) := by rw [← hA, St.get_alloc, if_pos rfl]
  have hbl : (bv (List.replicate (nn + 1) 0)).length = nn + 1 := by rw [bv_len, List.length_replicate]
  have hb1 : 0 + 1 ≤ nn + 1 := by omega
  obtain ⟨l, hl⟩ : ∃ l, j :: List.replicate nn 0 = l := ⟨_, rfl⟩
  have hll : l.length = nn + 1 := by rw [← hl, List.length_cons, List.length_replicate]
  have hlb : Byt l := by
    rw [← hl]
    intro x hx
    rcases List.mem_cons.1 hx with hx | hx
    · omega
    · rw [List.eq_of_mem_replicate hx]; decide
  have hlv : AV.int .u8 (j : Int) :: List.drop (0 + 1) (bv (List.replicate (nn + 1) 0)) = bv l := by rw [← hl]; rfl
  obtain ⟨B, hB⟩ : ∃ B, A.put S.next (.cells (bv l) 0 0 true) = B := ⟨_, rfl⟩
  have eB : Ext S B := by rw [← hB]; exact eA.then_put (Nat.le_refl _) _
  have nB : B.next = S.next + 1 := by rw [← hB]; exact nA
  have gB : B.get S.next = some (.cells (bv l) 0 0 true) := by rw [← hB, St.get_put, if_pos rfl]
  obtain ⟨F1, S1, r9, P1⟩ := (P.more eB).put k (by omega) hlb hll (by omega) gB
  have z3 : ¬ (3 : Int) = 0 := by decide
  have rep1 : rep 1 [.int .u8 0] = [.int .u8 0] := rfl
  -- what goes at the end of a round
  have go3 : ∀ {F2 : Nat → Prop} {rows2 : List (List Nat)} {cut2 : Int} {pw2 : Option (Nat × Nat × Nat)} {ew2 : Nat} {want2 : List Nat} {S2 : St}, Po Sb q ob F2 rows2 b cut2 pw2 ew2 want2 pg eg got S2 → Fit rows2 → want2 = got ++ hds rows2 → want2.length ≤ j + 1 →
      ∃ S3 F4 po co outs rows4 b4 S4, evF Y AP (k + 1999) 10 [pt q, .int .i64 50000] S2 = some (.tuple [], S3) ∧ evF Y AP (k + 1999) 11 [pt q] S3 = some (.slice po outs.length 1 co, S4) ∧ outs.length ≤ 9223372036854775807 ∧ Rl S4 F4 po 1 outs ∧
        Po Sb q ob F4 rows4 b4 cut2 pw2 ew2 want2 pg eg got S4 ∧ Fit outs ∧ Fit rows4 ∧ 1000 ≤ b4.r ∧ b4.u = 2000 ∧ want2 = got ++ hds outs ++ hds rows4 ∧ got.length ≤ 200 ∧ outs.length ≤ 200 := by
    intro F2 rows2 cut2 pw2 ew2 want2 S2 P2 f2 a2 l2
    obtain ⟨S3, r10, P3⟩ := P2.tick k 50000
    obtain ⟨F4, po, co, S4, r11, rl, P4⟩ := P3.go k
    have hg := goL_len rows2 (tickB b 50000)
    have hrt := goL_ru rows2 (tickB b 50000)
    have := P2.qu.n16
    have hf2 := f2.go (tickB b 50000)
    have hgl : got.length ≤ want2.length := by rw [a2, List.length_append]; omega
    exact ⟨S3, F4, po, co, _, _, _, S4, r10, r11, by omega, rl, P4, hf2.1, hf2.2, by rw [hrt.1]; exact hr, by rw [hrt.2]; exact hu, by rw [List.append_assoc, hds_go]; exact a2, by omega, by omega⟩
  by_cases c3 : Int.tmod (j : Int) 3 = 2
  rotate_left
  · cases hpb : putB rows b l with
    | false =>
      have e1 : putR rows b l = rows := by unfold putR; rw [hpb]; rfl
      rw [hpb] at r9
      rw [e1] at P1
      simp -implicitDefEqProofs -dsimp (maxSteps := 10000000) only [af3_l3, ↓goes_loop, ↓goes_seq, ↓goes_reg, ↓goes_dreg, ↓goes_cond, ↓goes_block, ↓goes_skip, ↓goes_exit, ↓goes_ret, after_some, br_true, br_false, ↓then_normal, ↓then_exit, ↓then_ret, ↓blk_normal, ↓blk_exit, ↓blk_ret, ↓blk_other, ops_nil, ops_some, ops_none, oper_none, oper_some, gd_tt, gd_ff, gd_tf, gd_ft, gd_undef, ↓any_op, ↓any_call, ↓any_callV, ↓any_invoke, xo_t, xo_c, args_nil, args_cons, bin_add, bin_sub, bin_mul, bin_quo, bin_rem, bin_and, bin_or, bin_xor, bin_andNot, bin_eql, bin_neq, bin_lss, bin_leq, bin_gtr, bin_geq, bin_shl, bin_shr, bin_bools, bin_strs, bin_ptrs, bin_slices, bin_aggs, ↓Option.bind_some, ↓Option.map_some, ↓cond_true, ↓cond_false, evC, evOp, XO.lit, setArgs, Tr.get_set, Option.bind_some, Option.map_some, cond_true, cond_false, maxI, maxFrom, minI, minFrom, aConv, aBinE, aEq, eqScal, aUn, evRes, fin, oneOf, if_true, if_false, callee, reduceCtorEq, Nat.reduceEqDiff, and_self, decide_true, decide_false, beq_true, beq_false, Bool.not_true, Bool.not_false, List.getElem?_cons_zero, List.getElem?_cons_succ, beq_self_eq_true, gt_iff_lt, ble_dec, beq_dec, List.head?_cons, AV.undef, eq_self, ne_eq, not_true_eq_false, not_false_eq_true, Int.reduceLT, Int.reduceLE, Int.reduceToNat, Int.reduceEq, Int.reduceNeg, Nat.reduceAdd, Nat.reduceLT, Nat.reduceLeDiff, Nat.reduceMul, Nat.reduceSub, AV.cells, AV.tup, Bool.true_and, true_and, and_true, List.drop_nil, List.append_nil, rd_put, rd_alloc, rdO, St.get_put, St.get_alloc, St.next_put, St.next_alloc, St.wr, Bool.and_self, Bool.and_true, List.length_cons, List.length_nil, List.take_succ_cons, List.take_zero, List.drop_succ_cons, List.drop_zero, List.cons_append, List.nil_append, Nat.zero_add, Nat.add_zero, Nat.reduceMul, aFill, evParts, newSl, t0, t5, t6, t7, t8, c1, c2, c3, hm1, hix, Nat.mul_one, hz, r8, w1, h0n, hn2, Int.le_refl, Int.toNat_natCast, hrn, hA, wu, hi0, gA, hbl, hb1, hlv, hB, r9, wj, z3]
      refine ⟨m - 1, ⟨?_, F1, rows, b, _, pw, ew, want, pg, eg, got, j + 1, ?_, by omega, ?_, ?_, ?_, P1, hf, hr, hu, ha, by omega⟩, by show m - 1 < m; omega⟩ <;> simp only [Tr.get_set, Nat.reduceEqDiff, if_false, if_true, t0, t5, t6, t7]
    | true =>
      have e1 : putR rows b l = rows ++ [l] := by unfold putR; rw [hpb]; rfl
      rw [hpb] at r9
      rw [e1] at P1
      obtain ⟨A2, hA2⟩ : ∃ A2, S1.alloc (.cells [.int .u8 (j : Int)] 0 0 true) = A2 := ⟨_, rfl⟩
      have eA2 : Ext S1 A2 := by rw [← hA2]; exact .alloc _ _
      have hr2 : A2.rd S1.next 0 0 1 = some [.int .u8 (j : Int)] := by rw [← hA2, rd_alloc, if_pos rfl]; rfl
      obtain ⟨p', S2, hap, P2⟩ := (P1.more eA2).appW (x := j) (by omega) (by omega)
      simp -implicitDefEqProofs -dsimp (maxSteps := 10000000) only [af3_l3, ↓goes_loop, ↓goes_seq, ↓goes_reg, ↓goes_dreg, ↓goes_cond, ↓goes_block, ↓goes_skip, ↓goes_exit, ↓goes_ret, after_some, br_true, br_false, ↓then_normal, ↓then_exit, ↓then_ret, ↓blk_normal, ↓blk_exit, ↓blk_ret, ↓blk_other, ops_nil, ops_some, ops_none, oper_none, oper_some, gd_tt, gd_ff, gd_tf, gd_ft, gd_undef, ↓any_op, ↓any_call, ↓any_callV, ↓any_invoke, xo_t, xo_c, args_nil, args_cons, bin_add, bin_sub, bin_mul, bin_quo, bin_rem, bin_and, bin_or, bin_xor, bin_andNot, bin_eql, bin_neq, bin_lss, bin_leq, bin_gtr, bin_geq, bin_shl, bin_shr, bin_bools, bin_strs, bin_ptrs, bin_slices, bin_aggs, ↓Option.bind_some, ↓Option.map_some, ↓cond_true, ↓cond_false, evC, evOp, XO.lit, setArgs, Tr.get_set, Option.bind_some, Option.map_some, cond_true, cond_false, maxI, maxFrom, minI, minFrom, aConv, aBinE, aEq, eqScal, aUn, evRes, fin, oneOf, if_true, if_false, callee, reduceCtorEq, Nat.reduceEqDiff, and_self, decide_true, decide_false, beq_true, beq_false, Bool.not_true, Bool.not_false, List.getElem?_cons_zero, List.getElem?_cons_succ, beq_self_eq_true, gt_iff_lt, ble_dec, beq_dec, List.head?_cons, AV.undef, eq_self, ne_eq, not_true_eq_false, not_false_eq_true, Int.reduceLT, Int.reduceLE, Int.reduceToNat, Int.reduceEq, Int.reduceNeg, Nat.reduceAdd, Nat.reduceLT, Nat.reduceLeDiff, Nat.reduceMul, Nat.reduceSub, AV.cells, AV.tup, Bool.true_and, true_and, and_true, List.drop_nil, List.append_nil, rd_put, rd_alloc, rdO, St.get_put, St.get_alloc, St.next_put, St.next_alloc, St.wr, Bool.and_self, Bool.and_true, List.length_cons, List.length_nil, List.take_succ_cons, List.take_zero, List.drop_succ_cons, List.drop_zero, List.cons_append, List.nil_append, Nat.zero_add, Nat.add_zero, Nat.reduceMul, aFill, evParts, newSl, rep1, t0, t5, t6, t7, t8, c1, c2, c3, hm1, hix, Nat.mul_one, hz, r8, w1, h0n, hn2, Int.le_refl, Int.toNat_natCast, hrn, hA, wu, hi0, gA, hbl, hb1, hlv, hB, r9, wj, z3, hA2, hr2, hap]
      refine ⟨m - 1, ⟨?_, F1, _, b, _, p', 1, want ++ [j], pg, eg, got, j + 1, ?_, by omega, ?_, ?_, ?_, P2, hf.put (by omega), hr, hu, by rw [ha, hds_app, ← hl, List.append_assoc]; rfl, by rw [List.length_append]; simp only [List.length_cons, List.length_nil]; omega⟩, by show m - 1 < m; omega⟩ <;> simp only [Tr.get_set, Nat.reduceEqDiff, if_false, if_true, t0, t5, t6, t7, List.length_append, List.length_cons, List.length_nil]
  · cases hpb : putB rows b l with
    | false =>
      have e1 : putR rows b l = rows := by unfold putR; rw [hpb]; rfl
      rw [hpb] at r9
      rw [e1] at P1
      obtain ⟨S3, F4, po, co, outs, rows4, b4, S4, r10, r11, hom, rl, P4, fo, f4, hr4, hu4, ha4, hg4, ho4⟩ := go3 P1 hf ha (by omega)
      simp -implicitDefEqProofs -dsimp (maxSteps := 10000000) only [af3_l3, ↓goes_loop, ↓goes_seq, ↓goes_reg, ↓goes_dreg, ↓goes_cond, ↓goes_block, ↓goes_skip, ↓goes_exit, ↓goes_ret, after_some, br_true, br_false, ↓then_normal, ↓then_exit, ↓then_ret, ↓blk_normal, ↓blk_exit, ↓blk_ret, ↓blk_other, ops_nil, ops_some, ops_none, oper_none, oper_some, gd_tt, gd_ff, gd_tf, gd_ft, gd_undef, ↓any_op, ↓any_call, ↓any_callV, ↓any_invoke, xo_t, xo_c, args_nil, args_cons, bin_add, bin_sub, bin_mul, bin_quo, bin_rem, bin_and, bin_or, bin_xor, bin_andNot, bin_eql, bin_neq, bin_lss, bin_leq, bin_gtr, bin_geq, bin_shl, bin_shr, bin_bools, bin_strs, bin_ptrs, bin_slices, bin_aggs, ↓Option.bind_some, ↓Option.map_some, ↓cond_true, ↓cond_false, evC, evOp, XO.lit, setArgs, Tr.get_set, Option.bind_some, Option.map_some, cond_true, cond_false, maxI, maxFrom, minI, minFrom, aConv, aBinE, aEq, eqScal, aUn, evRes, fin, oneOf, if_true, if_false, callee, reduceCtorEq, Nat.reduceEqDiff, and_self, decide_true, decide_false, beq_true, beq_false, Bool.not_true, Bool.not_false, List.getElem?_cons_zero, List.getElem?_cons_succ, beq_self_eq_true, gt_iff_lt, ble_dec, beq_dec, List.head?_cons, AV.undef, eq_self, ne_eq, not_true_eq_false, not_false_eq_true, Int.reduceLT, Int.reduceLE, Int.reduceToNat, Int.reduceEq, Int.reduceNeg, Nat.reduceAdd, Nat.reduceLT, Nat.reduceLeDiff, Nat.reduceMul, Nat.reduceSub, AV.cells, AV.tup, Bool.true_and, true_and, and_true, List.drop_nil, List.append_nil, rd_put, rd_alloc, rdO, St.get_put, St.get_alloc, St.next_put, St.next_alloc, St.wr, Bool.and_self, Bool.and_true, List.length_cons, List.length_nil, List.take_succ_cons, List.take_zero, List.drop_succ_cons, List.drop_zero, List.cons_append, List.nil_append, Nat.zero_add, Nat.add_zero, Nat.reduceMul, aFill, evParts, newSl, t0, t5, t6, t7, t8, c1, c2, c3, hm1, hix, Nat.mul_one, hz, r8, w1, h0n, hn2, Int.le_refl, Int.toNat_natCast, hrn, hA, wu, hi0, gA, hbl, hb1, hlv, hB, r9, wj, z3, r10, r11, hom]
      refine .while (IL 8 56 57 58 (.slice (some (o1, v1, i1)) n1 1 none) (.int .i64 j) q ob F4 rows4 b4 _ pw ew want got po co outs Sb) id outs.length ⟨?_, ?_, ?_, ?_, ?_, ?_, 0, pg, eg, got, ?_, by omega, ?_, by simp [hds], P4, rl⟩ (by show outs.length < k + 1999; omega) fun m2 T2 S2 h2 => (roundL2 k fo hg4 ho4 m2 T2 S2 h2).mono ?_
      iterate 8 (first | focus (simp only [Tr.get_set, Nat.reduceEqDiff, if_false, if_true, t0, t5, t6, t7, t8, Int.natCast_zero]; done) | skip)
      intro r T' S' hq
      cases r with
      | normal => exact hq
      | ret => exact absurd hq.1 (by simp)
      | exit i =>
        obtain ⟨hi, u0, u5, u6, ux, us, ul, j', pg', eg', got', ui, hj', u7, hgg, P5, _⟩ := hq
        cases hi
        obtain rfl : j' = outs.length := by omega
        rw [List.take_length] at hgg
        simp -implicitDefEqProofs -dsimp (maxSteps := 10000000) only [↓goes_loop, ↓goes_seq, ↓goes_reg, ↓goes_dreg, ↓goes_cond, ↓goes_block, ↓goes_skip, ↓goes_exit, ↓goes_ret, after_some, br_true, br_false, ↓then_normal, ↓then_exit, ↓then_ret, ↓blk_normal, ↓blk_exit, ↓blk_ret, ↓blk_other, ops_nil, ops_some, ops_none, oper_none, oper_some, gd_tt, gd_ff, gd_tf, gd_ft, gd_undef, ↓any_op, ↓any_call, ↓any_callV, ↓any_invoke, xo_t, xo_c, args_nil, args_cons, bin_add, bin_sub, bin_mul, bin_quo, bin_rem, bin_and, bin_or, bin_xor, bin_andNot, bin_eql, bin_neq, bin_lss, bin_leq, bin_gtr, bin_geq, bin_shl, bin_shr, bin_bools, bin_strs, bin_ptrs, bin_slices, bin_aggs, ↓Option.bind_some, ↓Option.map_some, ↓cond_true, ↓cond_false, evC, evOp, XO.lit, setArgs, Tr.get_set, Option.bind_some, Option.map_some, cond_true, cond_false, maxI, maxFrom, minI, minFrom, aConv, aBinE, aEq, eqScal, aUn, evRes, fin, oneOf, if_true, if_false, callee, reduceCtorEq, Nat.reduceEqDiff, and_self, decide_true, decide_false, beq_true, beq_false, Bool.not_true, Bool.not_false, List.getElem?_cons_zero, List.getElem?_cons_succ, beq_self_eq_true, gt_iff_lt, ble_dec, beq_dec, List.head?_cons, AV.undef, eq_self, ne_eq, not_true_eq_false, not_false_eq_true, Int.reduceLT, Int.reduceLE, Int.reduceToNat, Int.reduceEq, Int.reduceNeg, Nat.reduceAdd, Nat.reduceLT, Nat.reduceLeDiff, Nat.reduceMul, Nat.reduceSub, ux, wj]
        refine ⟨m - 1, ⟨?_, F4, rows4, b4, _, pw, ew, want, pg', eg', got', j + 1, ?_, by omega, ?_, ?_, ?_, P5, f4, hr4, hu4, by rw [hgg]; exact ha4, by omega⟩, by show m - 1 < m; omega⟩ <;> simp only [Tr.get_set, Nat.reduceEqDiff, if_false, if_true, u0, u5, u6, u7]
    | true =>
      have e1 : putR rows b l = rows ++ [l] := by unfold putR; rw [hpb]; rfl
      rw [hpb] at r9
      rw [e1] at P1
      obtain ⟨A2, hA2⟩ : ∃ A2, S1.alloc (.cells [.int .u8 (j : Int)] 0 0 true) = A2 := ⟨_, rfl⟩
      have eA2 : Ext S1 A2 := by rw [← hA2]; exact .alloc _ _
      have hr2 : A2.rd S1.next 0 0 1 = some [.int .u8 (j : Int)] := by rw [← hA2, rd_alloc, if_pos rfl]; rfl
      obtain ⟨p', S2, hap, P2⟩ := (P1.more eA2).appW (x := j) (by omega) (by omega)
      obtain ⟨S3, F4, po, co, outs, rows4, b4, S4, r10, r11, hom, rl, P4, fo, f4, hr4, hu4, ha4, hg4, ho4⟩ := go3 P2 (hf.put (by omega)) (by rw [ha, hds_app, ← hl, List.append_assoc]; rfl) (by rw [List.length_append]; simp only [List.length_cons, List.length_nil]; omega)
      simp -implicitDefEqProofs -dsimp (maxSteps := 10000000) only [af3_l3, ↓goes_loop, ↓goes_seq, ↓goes_reg, ↓goes_dreg, ↓goes_cond, ↓goes_block, ↓goes_skip, ↓goes_exit, ↓goes_ret, after_some, br_true, br_false, ↓then_normal, ↓then_exit, ↓then_ret, ↓blk_normal, ↓blk_exit, ↓blk_ret, ↓blk_other, ops_nil, ops_some, ops_none, oper_none, oper_some, gd_tt, gd_ff, gd_tf, gd_ft, gd_undef, ↓any_op, ↓any_call, ↓any_callV, ↓any_invoke, xo_t, xo_c, args_nil, args_cons, bin_add, bin_sub, bin_mul, bin_quo, bin_rem, bin_and, bin_or, bin_xor, bin_andNot, bin_eql, bin_neq, bin_lss, bin_leq, bin_gtr, bin_geq, bin_shl, bin_shr, bin_bools, bin_strs, bin_ptrs, bin_slices, bin_aggs, ↓Option.bind_some, ↓Option.map_some, ↓cond_true, ↓cond_false, evC, evOp, XO.lit, setArgs, Tr.get_set, Option.bind_some, Option.map_some, cond_true, cond_false, maxI, maxFrom, minI, minFrom, aConv, aBinE, aEq, eqScal, aUn, evRes, fin, oneOf, if_true, if_false, callee, reduceCtorEq, Nat.reduceEqDiff, and_self, decide_true, decide_false, beq_true, beq_false, Bool.not_true, Bool.not_false, List.getElem?_cons_zero, List.getElem?_cons_succ, beq_self_eq_true, gt_iff_lt, ble_dec, beq_dec, List.head?_cons, AV.undef, eq_self, ne_eq, not_true_eq_false, not_false_eq_true, Int.reduceLT, Int.reduceLE, Int.reduceToNat, Int.reduceEq, Int.reduceNeg, Nat.reduceAdd, Nat.reduceLT, Nat.reduceLeDiff, Nat.reduceMul, Nat.reduceSub, AV.cells, AV.tup, Bool.true_and, true_and, and_true, List.drop_nil, List.append_nil, rd_put, rd_alloc, rdO, St.get_put, St.get_alloc, St.next_put, St.next_alloc, St.wr, Bool.and_self, Bool.and_true, List.length_cons, List.length_nil, List.take_succ_cons, List.take_zero, List.drop_succ_cons, List.drop_zero, List.cons_append, List.nil_append, Nat.zero_add, Nat.add_zero, Nat.reduceMul, aFill, evParts, newSl, rep1, t0, t5, t6, t7, t8, c1, c2, c3, hm1, hix, Nat.mul_one, hz, r8, w1, h0n, hn2, Int.le_refl, Int.toNat_natCast, hrn, hA, wu, hi0, gA, hbl, hb1, hlv, hB, r9, wj, z3, hA2, hr2, hap, r10, r11, hom]
      refine .while (IL 8 56 57 58 (.slice (some (o1, v1, i1)) n1 1 none) (.int .i64 j) q ob F4 rows4 b4 _ p' 1 (want ++ [j]) got po co outs Sb) id outs.length ⟨?_, ?_, ?_, ?_, ?_, ?_, 0, pg, eg, got, ?_, by omega, ?_, by simp [hds], P4, rl⟩ (by show outs.length < k + 1999; omega) fun m2 T2 S2 h2 => (roundL2 k fo hg4 ho4 m2 T2 S2 h2).mono ?_
      iterate 8 (first | focus (simp only [Tr.get_set, Nat.reduceEqDiff, if_false, if_true, t0, t5, t6, t7, t8, Int.natCast_zero, List.length_append, List.length_cons, List.length_nil]; done) | skip)
      intro r T' S' hq
      cases r with
      | normal => exact hq
      | ret => exact absurd hq.1 (by simp)
      | exit i =>
        obtain ⟨hi, u0, u5, u6, ux, us, ul, j', pg', eg', got', ui, hj', u7, hgg, P5, _⟩ := hq
        cases hi
        obtain rfl : j' = outs.length := by omega
        rw [List.take_length] at hgg
        simp -implicitDefEqProofs -dsimp (maxSteps := 10000000) only [↓goes_loop, ↓goes_seq, ↓goes_reg, ↓goes_dreg, ↓goes_cond, ↓goes_block, ↓goes_skip, ↓goes_exit, ↓goes_ret, after_some, br_true, br_false, ↓then_normal, ↓then_exit, ↓then_ret, ↓blk_normal, ↓blk_exit, ↓blk_ret, ↓blk_other, ops_nil, ops_some, ops_none, oper_none, oper_some, gd_tt, gd_ff, gd_tf, gd_ft, gd_undef, ↓any_op, ↓any_call, ↓any_callV, ↓any_invoke, xo_t, xo_c, args_nil, args_cons, bin_add, bin_sub, bin_mul, bin_quo, bin_rem, bin_and, bin_or, bin_xor, bin_andNot, bin_eql, bin_neq, bin_lss, bin_leq, bin_gtr, bin_geq, bin_shl, bin_shr, bin_bools, bin_strs, bin_ptrs, bin_slices, bin_aggs, ↓Option.bind_some, ↓Option.map_some, ↓cond_true, ↓cond_false, evC, evOp, XO.lit, setArgs, Tr.get_set, Option.bind_some, Option.map_some, cond_true, cond_false, maxI, maxFrom, minI, minFrom, aConv, aBinE, aEq, eqScal, aUn, evRes, fin, oneOf, if_true, if_false, callee, reduceCtorEq, Nat.reduceEqDiff, and_self, decide_true, decide_false, beq_true, beq_false, Bool.not_true, Bool.not_false, List.getElem?_cons_zero, List.getElem?_cons_succ, beq_self_eq_true, gt_iff_lt, ble_dec, beq_dec, List.head?_cons, AV.undef, eq_self, ne_eq, not_true_eq_false, not_false_eq_true, Int.reduceLT, Int.reduceLE, Int.reduceToNat, Int.reduceEq, Int.reduceNeg, Nat.reduceAdd, Nat.reduceLT, Nat.reduceLeDiff, Nat.reduceMul, Nat.reduceSub, ux, wj]
        refine ⟨m - 1, ⟨?_, F4, rows4, b4, _, p', 1, want ++ [j], pg', eg', got', j + 1, ?_, by omega, ?_, ?_, ?_, P5, f4, hr4, hu4, by rw [hgg]; exact ha4, by rw [List.length_append]; simp only [List.length_cons, List.length_nil]; omega⟩, by show m - 1 < m; omega⟩ <;> simp only [Tr.get_set, Nat.reduceEqDiff, if_false, if_true, u0, u5, u6, u7]
structure I1 (v0 : AV) (q ob : Nat) (Sb : St) (m : Nat) (T : Tm) (S : St) : Prop where
  t0 : T.get 0 = some v0
  more : ∃ F rows b cut pw ew want pg eg got, ∃ j : Nat, T.get 12 = some (.int .i64 j) ∧ j + m ≤ 16 ∧ rows.length = m ∧ Md q ob Sb T S 40 F rows b cut pw ew want pg eg got
set_option maxHeartbeats 16000000 in
theorem round1 (k : Nat) {v0 : AV} {q ob : Nat} {Sb : St} (m : Nat) (T : Tm) (S : St) (hI : I1 v0 q ob Sb m T S) :
    Goes (evF Y AP (k + 1999)) (k + 1999) af3_l1 T S (Then (fun T' S' => ∃ m', I1 v0 q ob Sb m' T' S' ∧ id m' < id m) fun r T' S' => r = .exit 4 ∧ I1 v0 q ob Sb 0 T' S') := by
  obtain ⟨t0, F, rows, b, cut, pw, ew, want, pg, eg, got, j, t12, hj, hm, t5, t6, t7, P, hf, hr, hu, ha, hlen⟩ := hI
  have r12 : evF Y AP (k + 1999) 12 [pt q] S = some (.int .i64 rows.length, S) := T12 (k + 1995) P.qu
  have c1 : (j : Int) < 100 := by omega
  rcases rows with _ | ⟨l, ls⟩
  · have c2 : ¬ (0 : Int) < ((0 : Nat) : Int) := by decide
    simp -implicitDefEqProofs -dsimp (maxSteps := 10000000) only [af3_l1, ↓goes_loop, ↓goes_seq, ↓goes_reg, ↓goes_dreg, ↓goes_cond, ↓goes_block, ↓goes_skip, ↓goes_exit, ↓goes_ret, after_some, br_true, br_false, ↓then_normal, ↓then_exit, ↓then_ret, ↓blk_normal, ↓blk_exit, ↓blk_ret, ↓blk_other, ops_nil, ops_some, ops_none, oper_none, oper_some, gd_tt, gd_ff, gd_tf, gd_ft, gd_undef, ↓any_op, ↓any_call, ↓any_callV, ↓any_invoke, xo_t, xo_c, args_nil, args_cons, bin_add, bin_sub, bin_mul, bin_quo, bin_rem, bin_and, bin_or, bin_xor, bin_andNot, bin_eql, bin_neq, bin_lss, bin_leq, bin_gtr, bin_geq, bin_shl, bin_shr, bin_bools, bin_strs, bin_ptrs, bin_slices, bin_aggs, ↓Option.bind_some, ↓Option.map_some, ↓cond_true, ↓cond_false, evC, evOp, XO.lit, setArgs, Tr.get_set, Option.bind_some, Option.map_some, cond_true, cond_false, maxI, maxFrom, minI, minFrom, aConv, aBinE, aEq, eqScal, aUn, evRes, fin, oneOf, if_true, if_false, callee, reduceCtorEq, Nat.reduceEqDiff, and_self, decide_true, decide_false, beq_true, beq_false, Bool.not_true, Bool.not_false, List.getElem?_cons_zero, List.getElem?_cons_succ, beq_self_eq_true, gt_iff_lt, ble_dec, beq_dec, List.head?_cons, AV.undef, eq_self, ne_eq, not_true_eq_false, not_false_eq_true, Int.reduceLT, Int.reduceLE, Int.reduceToNat, Int.reduceEq, Int.reduceNeg, Nat.reduceAdd, Nat.reduceLT, Nat.reduceLeDiff, Nat.reduceMul, Nat.reduceSub, AV.cells, AV.tup, Bool.true_and, true_and, and_true, List.drop_nil, List.append_nil, rd_put, rd_alloc, rdO, St.get_put, St.get_alloc, St.next_put, St.next_alloc, St.wr, Bool.and_self, Bool.and_true, List.length_cons, List.length_nil, List.take_succ_cons, List.take_zero, List.drop_succ_cons, List.drop_zero, List.cons_append, List.nil_append, Nat.zero_add, Nat.add_zero, Nat.reduceMul, t5, t12, c1, r12, c2]
    refine ⟨?_, F, [], b, cut, pw, ew, want, pg, eg, got, j, ?_, by omega, rfl, ?_, ?_, ?_, P, hf, hr, hu, ha, hlen⟩ <;> simp only [Tr.get_set, Nat.reduceEqDiff, if_false, if_true, t0, t5, t6, t7, t12]
  have c2 : (0 : Int) < ((ls.length + 1 : Nat) : Int) := by omega
  have wj : IntKind.i64.wrap ((j : Int) + 1) = ((j + 1 : Nat) : Int) := w64_id (by omega) (by omega)
  obtain ⟨S3, r10, P3⟩ := P.tick k 1000000
  obtain ⟨F4, po, co, S4, r11, rl, P4⟩ := P3.go k
  have hg := goL_len (l :: ls) (tickB b 1000000)
  have hrt := goL_ru (l :: ls) (tickB b 1000000)
  have hf2 := hf.go (tickB b 1000000)
  have n16 := P.qu.n16
  have hgl : got.length ≤ want.length := by rw [ha, List.length_append]; omega
  have hgo : goB (tickB b 1000000) ((l.length : Int) + 28) = true := by
    have := hf l List.mem_cons_self
    have h0 := P.qu.ok.l0
    have h1 : b.r * up 1000000 = b.r * 1000000 := by rw [up_pos (by decide)]
    have h2 : (tickB b 1000000).l = mn (b.l + b.r * 1000000) (2000 * 1000000) := by show mn _ _ = _; rw [h1, hu]
    simp only [goB, decide_eq_true_eq, h2, mn]
    split <;> omega
  have hls := goL_some (ls := ls) hgo
  have ha4 : want = got ++ hds (goL (l :: ls) (tickB b 1000000)).1 ++ hds (goL (l :: ls) (tickB b 1000000)).2.1 := by rw [List.append_assoc, hds_go]; exact ha
  have hr4 : 1000 ≤ (goL (l :: ls) (tickB b 1000000)).2.2.r := by rw [hrt.1]; exact hr
  have hu4 : (goL (l :: ls) (tickB b 1000000)).2.2.u = 2000 := by rw [hrt.2]; exact hu
  rw [List.length_cons] at hm n16 hg
  obtain ⟨outs, ho⟩ : ∃ x, (goL (l :: ls) (tickB b 1000000)).1 = x := ⟨_, rfl⟩
  obtain ⟨rows4, hrw⟩ : ∃ x, (goL (l :: ls) (tickB b 1000000)).2.1 = x := ⟨_, rfl⟩
  obtain ⟨b4, hb4⟩ : ∃ x, (goL (l :: ls) (tickB b 1000000)).2.2 = x := ⟨_, rfl⟩
  rw [ho] at r11 rl hg hf2 ha4
  rw [hrw] at hg hls hf2 ha4 P4
  rw [hb4] at P4 hr4 hu4
  have hom : outs.length ≤ 9223372036854775807 := by omega
  simp -implicitDefEqProofs -dsimp (maxSteps := 10000000) only [af3_l1, ↓goes_loop, ↓goes_seq, ↓goes_reg, ↓goes_dreg, ↓goes_cond, ↓goes_block, ↓goes_skip, ↓goes_exit, ↓goes_ret, after_some, br_true, br_false, ↓then_normal, ↓then_exit, ↓then_ret, ↓blk_normal, ↓blk_exit, ↓blk_ret, ↓blk_other, ops_nil, ops_some, ops_none, oper_none, oper_some, gd_tt, gd_ff, gd_tf, gd_ft, gd_undef, ↓any_op, ↓any_call, ↓any_callV, ↓any_invoke, xo_t, xo_c, args_nil, args_cons, bin_add, bin_sub, bin_mul, bin_quo, bin_rem, bin_and, bin_or, bin_xor, bin_andNot, bin_eql, bin_neq, bin_lss, bin_leq, bin_gtr, bin_geq, bin_shl, bin_shr, bin_bools, bin_strs, bin_ptrs, bin_slices, bin_aggs, ↓Option.bind_some, ↓Option.map_some, ↓cond_true, ↓cond_false, evC, evOp, XO.lit, setArgs, Tr.get_set, Option.bind_some, Option.map_some, cond_true, cond_false, maxI, maxFrom, minI, minFrom, aConv, aBinE, aEq, eqScal, aUn, evRes, fin, oneOf, if_true, if_false, callee, reduceCtorEq, Nat.reduceEqDiff, and_self, decide_true, decide_false, beq_true, beq_false, Bool.not_true, Bool.not_false, List.getElem?_cons_zero, List.getElem?_cons_succ, beq_self_eq_true, gt_iff_lt, ble_dec, beq_dec, List.head?_cons, AV.undef, eq_self, ne_eq, not_true_eq_false, not_false_eq_true, Int.reduceLT, Int.reduceLE, Int.reduceToNat, Int.reduceEq, Int.reduceNeg, Nat.reduceAdd, Nat.reduceLT, Nat.reduceLeDiff, Nat.reduceMul, Nat.reduceSub, AV.cells, AV.tup, Bool.true_and, true_and, and_true, List.drop_nil, List.append_nil, rd_put, rd_alloc, rdO, St.get_put, St.get_alloc, St.next_put, St.next_alloc, St.wr, Bool.and_self, Bool.and_true, List.length_cons, List.length_nil, List.take_succ_cons, List.take_zero, List.drop_succ_cons, List.drop_zero, List.cons_append, List.nil_append, Nat.zero_add, Nat.add_zero, Nat.reduceMul, t5, t12, c1, r12, c2, r10, r11, hom]
  refine .while (IL 12 84 85 86 v0 (.int .i64 j) q ob F4 rows4 b4 cut pw ew want got po co outs Sb) id outs.length ⟨?_, ?_, ?_, ?_, ?_, ?_, 0, pg, eg, got, ?_, by omega, ?_, by simp [hds], P4, rl⟩ (by show outs.length < k + 1999; omega) fun m2 T2 S2 h2 => (roundL0 k hf2.1 (by omega) (by omega) m2 T2 S2 h2).mono ?_
  iterate 8 (first | focus (simp only [Tr.get_set, Nat.reduceEqDiff, if_false, if_true, t0, t5, t6, t7, Int.natCast_zero, t12]; done) | skip)
  intro r T' S' hq
  cases r with
  | normal => exact hq
  | ret => exact absurd hq.1 (by simp)
  | exit i =>
    obtain ⟨hi, u0, u5, u6, ux, us, ul, j', pg', eg', got', ui, hj', u7, hgg, P5, _⟩ := hq
    cases hi
    obtain rfl : j' = outs.length := by omega
    rw [List.take_length] at hgg
    simp -implicitDefEqProofs -dsimp (maxSteps := 10000000) only [↓goes_loop, ↓goes_seq, ↓goes_reg, ↓goes_dreg, ↓goes_cond, ↓goes_block, ↓goes_skip, ↓goes_exit, ↓goes_ret, after_some, br_true, br_false, ↓then_normal, ↓then_exit, ↓then_ret, ↓blk_normal, ↓blk_exit, ↓blk_ret, ↓blk_other, ops_nil, ops_some, ops_none, oper_none, oper_some, gd_tt, gd_ff, gd_tf, gd_ft, gd_undef, ↓any_op, ↓any_call, ↓any_callV, ↓any_invoke, xo_t, xo_c, args_nil, args_cons, bin_add, bin_sub, bin_mul, bin_quo, bin_rem, bin_and, bin_or, bin_xor, bin_andNot, bin_eql, bin_neq, bin_lss, bin_leq, bin_gtr, bin_geq, bin_shl, bin_shr, bin_bools, bin_strs, bin_ptrs, bin_slices, bin_aggs, ↓Option.bind_some, ↓Option.map_some, ↓cond_true, ↓cond_false, evC, evOp, XO.lit, setArgs, Tr.get_set, Option.bind_some, Option.map_some, cond_true, cond_false, maxI, maxFrom, minI, minFrom, aConv, aBinE, aEq, eqScal, aUn, evRes, fin, oneOf, if_true, if_false, callee, reduceCtorEq, Nat.reduceEqDiff, and_self, decide_true, decide_false, beq_true, beq_false, Bool.not_true, Bool.not_false, List.getElem?_cons_zero, List.getElem?_cons_succ, beq_self_eq_true, gt_iff_lt, ble_dec, beq_dec, List.head?_cons, AV.undef, eq_self, ne_eq, not_true_eq_false, not_false_eq_true, Int.reduceLT, Int.reduceLE, Int.reduceToNat, Int.reduceEq, Int.reduceNeg, Nat.reduceAdd, Nat.reduceLT, Nat.reduceLeDiff, Nat.reduceMul, Nat.reduceSub, ux, wj]
    refine ⟨rows4.length, ⟨?_, F4, rows4, b4, _, pw, ew, want, pg', eg', got', j + 1, ?_, by omega, rfl, ?_, ?_, ?_, P5, hf2.2, hr4, hu4, by rw [hgg]; exact ha4, hlen⟩, by show rows4.length < m; omega⟩ <;> simp only [Tr.get_set, Nat.reduceEqDiff, if_false, if_true, u0, u5, u6, u7]
theorem a65535 (x : Int) : Go.bits .and .i64 x 65535 = x % 65536 := and_i64 16 (by decide) x
set_option maxHeartbeats 8000000 in
theorem ev3 (k : Nat) (a : Int) {p1 : Option (Nat × Nat × Nat)} {n1 : Nat} {S : St} (h1 : Sl S p1 n1 [.int .i64]) :
    ∃ S', evF Y AP (k + 2000) 3 [.slice p1 n1 1 none, .int .i64 a] S = some (.bool true, S') := by
  suffices hh : ∃ v S', evF Y AP (k + 2000) 3 [.slice p1 n1 1 none, .int .i64 a] S = some (v, S') ∧ v = .bool true by
    obtain ⟨v, S', h1, rfl⟩ := hh; exact ⟨S', h1⟩
  obtain ⟨r, hr⟩ : ∃ r, 1000 + a % 65536 = r := ⟨_, rfl⟩
  have w : IntKind.i64.wrap r = r := w64_id (by omega) (by omega)
  obtain ⟨S1, r1, e1, n1', Q1⟩ := T7 (S := S) (k + 1991) r 2000
  have r1 : evF Y AP (k + 1999) 7 [.int .i64 r, .int .i64 2000] S = _ := r1
  have P : Po S (S.next + 1) S.next _ [] (newB r 2000) 0 none 0 [] none 0 [] S1 := ⟨e1, Q1, fun j hj => hj.1, .nil _ _ _, .nil _ _ _, fun _ _ _ _ _ h => by cases h⟩
  have hbr : (newB r 2000).r = r := held_id (by omega) (by omega)
  have hbu : (newB r 2000).u = 2000 := held_id (n := 2000) (by decide) (by decide)
  refine evF_goes (af := af3) (k := k + 1999) rfl rfl rfl ?_
  simp -implicitDefEqProofs -dsimp (maxSteps := 10000000) only [af3, ↓goes_loop, ↓goes_seq, ↓goes_reg, ↓goes_dreg, ↓goes_cond, ↓goes_block, ↓goes_skip, ↓goes_exit, ↓goes_ret, after_some, br_true, br_false, ↓then_normal, ↓then_exit, ↓then_ret, ↓blk_normal, ↓blk_exit, ↓blk_ret, ↓blk_other, ops_nil, ops_some, ops_none, oper_none, oper_some, gd_tt, gd_ff, gd_tf, gd_ft, gd_undef, ↓any_op, ↓any_call, ↓any_callV, ↓any_invoke, xo_t, xo_c, args_nil, args_cons, bin_add, bin_sub, bin_mul, bin_quo, bin_rem, bin_and, bin_or, bin_xor, bin_andNot, bin_eql, bin_neq, bin_lss, bin_leq, bin_gtr, bin_geq, bin_shl, bin_shr, bin_bools, bin_strs, bin_ptrs, bin_slices, bin_aggs, ↓Option.bind_some, ↓Option.map_some, ↓cond_true, ↓cond_false, evC, evOp, XO.lit, setArgs, Tr.tabG, Tr.tabS, Tr.tabL, Tr.get_lf, Option.bind_some, Option.map_some, cond_true, cond_false, maxI, maxFrom, minI, minFrom, aConv, aBinE, aEq, eqScal, aUn, evRes, fin, oneOf, if_true, if_false, callee, reduceCtorEq, Nat.reduceEqDiff, and_self, decide_true, decide_false, beq_true, beq_false, Bool.not_true, Bool.not_false, List.getElem?_cons_zero, List.getElem?_cons_succ, beq_self_eq_true, gt_iff_lt, ble_dec, beq_dec, List.head?_cons, AV.undef, eq_self, ne_eq, not_true_eq_false, not_false_eq_true, Int.reduceLT, Int.reduceLE, Int.reduceToNat, Int.reduceEq, Int.reduceNeg, Nat.reduceAdd, Nat.reduceLT, Nat.reduceLeDiff, Nat.reduceMul, Nat.reduceSub, Option.isNone_some, a65535, hr, w, r1]
  refine .while (I3 (.slice p1 n1 1 none) (S.next + 1) S.next S) id 40 ⟨rfl, _, [], newB r 2000, 0, none, 0, [], none, 0, [], 0, rfl, by omega, rfl, rfl, rfl, P, fun _ h => (by cases h), by rw [hbr]; omega, hbu, rfl, Nat.le_refl _⟩ (by show 40 < k + 1999; omega) fun m2 T2 S2 hI => (round3 k h1 m2 T2 S2 hI).mono ?_
  intro rr T' S' hq
  cases rr with
  | normal => exact hq
  | ret => exact absurd hq.1 (by simp)
  | exit i =>
    obtain ⟨hi, m', t0, F, rows, b, cut, pw, ew, want, pg, eg, got, j, t8, hm, t5, t6, t7, P, hf, hr, hu, ha, hlen⟩ := hq
    cases hi
    have n16 := P.qu.n16
    simp -implicitDefEqProofs -dsimp (maxSteps := 10000000) only [↓goes_loop, ↓goes_seq, ↓goes_reg, ↓goes_dreg, ↓goes_cond, ↓goes_block, ↓goes_skip, ↓goes_exit, ↓goes_ret, after_some, br_true, br_false, ↓then_normal, ↓then_exit, ↓then_ret, ↓blk_normal, ↓blk_exit, ↓blk_ret, ↓blk_other, ops_nil, ops_some, ops_none, oper_none, oper_some, gd_tt, gd_ff, gd_tf, gd_ft, gd_undef, ↓any_op, ↓any_call, ↓any_callV, ↓any_invoke, xo_t, xo_c, args_nil, args_cons, bin_add, bin_sub, bin_mul, bin_quo, bin_rem, bin_and, bin_or, bin_xor, bin_andNot, bin_eql, bin_neq, bin_lss, bin_leq, bin_gtr, bin_geq, bin_shl, bin_shr, bin_bools, bin_strs, bin_ptrs, bin_slices, bin_aggs, ↓Option.bind_some, ↓Option.map_some, ↓cond_true, ↓cond_false, evC, evOp, XO.lit, setArgs, Tr.get_set, Option.bind_some, Option.map_some, cond_true, cond_false, maxI, maxFrom, minI, minFrom, aConv, aBinE, aEq, eqScal, aUn, evRes, fin, oneOf, if_true, if_false, callee, reduceCtorEq, Nat.reduceEqDiff, and_self, decide_true, decide_false, beq_true, beq_false, Bool.not_true, Bool.not_false, List.getElem?_cons_zero, List.getElem?_cons_succ, beq_self_eq_true, gt_iff_lt, ble_dec, beq_dec, List.head?_cons, AV.undef, eq_self, ne_eq, not_true_eq_false, not_false_eq_true, Int.reduceLT, Int.reduceLE, Int.reduceToNat, Int.reduceEq, Int.reduceNeg, Nat.reduceAdd, Nat.reduceLT, Nat.reduceLeDiff, Nat.reduceMul, Nat.reduceSub]
    refine .while (I1 (.slice p1 n1 1 none) (S.next + 1) S.next S) id rows.length ⟨?_, F, rows, b, cut, pw, ew, want, pg, eg, got, 0, ?_, by omega, rfl, ?_, ?_, ?_, P, hf, hr, hu, ha, by omega⟩ (by show rows.length < k + 1999; omega) fun m2 T2 S2 hI => (round1 k m2 T2 S2 hI).mono ?_
    iterate 5 (first | focus (simp only [Tr.get_set, Nat.reduceEqDiff, if_false, if_true, t0, t5, t6, t7, t8, Int.natCast_zero]; done) | skip)
    intro rr T' S' hq
    cases rr with
    | normal => exact hq
    | ret => exact absurd hq.1 (by simp)
    | exit i =>
      obtain ⟨hi, t0, F, rows, b, cut, pw, ew, want, pg, eg, got, j, t12, hj, hm, t5, t6, t7, P, hf, hr, hu, ha, hlen⟩ := hq
      cases hi
      obtain rfl : rows = [] := List.length_eq_zero_iff.1 hm
      have ha : want = got := by rw [ha]; exact List.append_nil _
      subst ha
      have r12 : evF Y AP (k + 1999) 12 [pt (S.next + 1)] S' = some (.int .i64 (0 : Nat), S') := T12 (k + 1995) P.qu
      have hee : eqStr want want = true := by rw [eqStr_iff]; exact decide_eq_true rfl
      have b1 := (P.w.by_ (by omega)).str none
      have b2 := (P.g.by_ (by omega)).str none
      simp -implicitDefEqProofs -dsimp (maxSteps := 10000000) only [↓goes_loop, ↓goes_seq, ↓goes_reg, ↓goes_dreg, ↓goes_cond, ↓goes_block, ↓goes_skip, ↓goes_exit, ↓goes_ret, after_some, br_true, br_false, ↓then_normal, ↓then_exit, ↓then_ret, ↓blk_normal, ↓blk_exit, ↓blk_ret, ↓blk_other, ops_nil, ops_some, ops_none, oper_none, oper_some, gd_tt, gd_ff, gd_tf, gd_ft, gd_undef, ↓any_op, ↓any_call, ↓any_callV, ↓any_invoke, xo_t, xo_c, args_nil, args_cons, bin_add, bin_sub, bin_mul, bin_quo, bin_rem, bin_and, bin_or, bin_xor, bin_andNot, bin_eql, bin_neq, bin_lss, bin_leq, bin_gtr, bin_geq, bin_shl, bin_shr, bin_bools, bin_strs, bin_ptrs, bin_slices, bin_aggs, ↓Option.bind_some, ↓Option.map_some, ↓cond_true, ↓cond_false, evC, evOp, XO.lit, setArgs, Tr.get_set, Option.bind_some, Option.map_some, cond_true, cond_false, maxI, maxFrom, minI, minFrom, aBinE, aEq, eqScal, aUn, evRes, fin, oneOf, if_true, if_false, callee, reduceCtorEq, Nat.reduceEqDiff, and_self, decide_true, decide_false, beq_true, beq_false, Bool.not_true, Bool.not_false, List.getElem?_cons_zero, List.getElem?_cons_succ, beq_self_eq_true, gt_iff_lt, ble_dec, beq_dec, List.head?_cons, AV.undef, eq_self, ne_eq, not_true_eq_false, not_false_eq_true, Int.reduceLT, Int.reduceLE, Int.reduceToNat, Int.reduceEq, Int.reduceNeg, Nat.reduceAdd, Nat.reduceLT, Nat.reduceLeDiff, Nat.reduceMul, Nat.reduceSub, AV.cells, AV.tup, Bool.true_and, true_and, and_true, List.drop_nil, List.append_nil, rd_put, rd_alloc, rdO, St.get_put, St.get_alloc, St.next_put, St.next_alloc, St.wr, Bool.and_self, Bool.and_true, List.length_cons, List.length_nil, List.take_succ_cons, List.take_zero, List.drop_succ_cons, List.drop_zero, List.cons_append, List.nil_append, Nat.zero_add, Nat.add_zero, Nat.reduceMul, t5, t6, t7, b1, b2, r12, y13, Int.natCast_zero, aStr, hee]
      exact ⟨_, _, rfl, rfl⟩
theorem law3 {a : Int} {p1 : Option (Nat × Nat × Nat)} {n1 : Nat} {xs : List AV} (h1 : Arg p1 0 n1 [.int .i64] xs) (_ : (Lit.int .i64 a).wf = true) :
    ∃ S', evF Y AP (0 + 2000) 3 [.slice p1 n1 1 none, .int .i64 a] (S0.alloc (.cells xs 0 0 false)) = some (.bool true, S') :=
  ev3 0 a (.of_arg h1 (by simp only [St.get_alloc]; rfl) (by show 0 < 1; decide))
end Go.Proofs.YtkjmhhoioanolaaA
