/- Chapter 16: the reference's meter; both tell the same. -/
import Derived.Test.YtinnclcheekhpaaMtB
set_option linter.unusedVariables false
set_option linter.unusedSimpArgs false
set_option maxRecDepth 10000
namespace Go.Proofs.YtinnclcheekhpaaA
open Go.RowKit
attribute [local congr] bind_congr1 map_congr1 cond_congr1 withX_congr after_congr br_congr gd_congr

def rc (f : Nat → Int) (l t : Int) : List AV := [.int .i64 l, .int .i64 (f 0), .int .i64 (f 1), .int .i64 (f 2), .int .i64 (f 3), .int .i64 (f 4), .int .i64 t]
abbrev rm (f : Nat → Int) (l t : Int) : AO := .cells (rc f l t) 0 0 true
theorem rc_len (f : Nat → Int) (l t : Int) : (rc f l t).length = 7 := rfl
theorem rc0 (f : Nat → Int) (l t : Int) : List.take 1 (rc f l t) = [.int .i64 l] := rfl
theorem rc6 (f : Nat → Int) (l t : Int) : List.take 1 (List.drop 6 (rc f l t)) = [.int .i64 t] := rfl
theorem rc_arr (f : Nat → Int) (l t : Int) : List.take 5 (List.drop 1 (rc f l t)) = [.int .i64 (f 0), .int .i64 (f 1), .int .i64 (f 2), .int .i64 (f 3), .int .i64 (f 4)] := rfl
theorem rc_get (f : Nat → Int) (l t : Int) {j : Nat} (h : j < 5) : List.take 1 (List.drop (1 + j * 1) (rc f l t)) = [.int .i64 (f j)] := by
  match j, h with
  | 0, _ | 1, _ | 2, _ | 3, _ | 4, _ => rfl
theorem rc_set (f : Nat → Int) (l t x : Int) {j : Nat} (h : j < 5) : List.take (1 + j * 1) (rc f l t) ++ [.int .i64 x] ++ List.drop (1 + j * 1 + 1) (rc f l t) = rc (fu f j x) l t := by
  match j, h with
  | 0, _ | 1, _ | 2, _ | 3, _ | 4, _ => rfl
theorem rc_set0 (f : Nat → Int) (l t x : Int) : .int .i64 x :: List.drop 1 (rc f l t) = rc f x t := rfl
theorem rc_set6 (f : Nat → Int) (l t x : Int) : List.take 6 (rc f l t) ++ [.int .i64 x] ++ List.drop 7 (rc f l t) = rc f l x := rfl
def cup (f : Nat → Int) (b : Int) : Nat → Nat → Int
  | 0 => f
  | n + 1 => fu (cup f b n) ((b + (n : Int) + 1) % 5).toNat 0
theorem fu_comm (f : Nat → Int) (i j : Nat) : fu (fu f i 0) j 0 = fu (fu f j 0) i 0 := by
  funext x
  unfold fu
  split <;> split <;> rfl
theorem cup_step (f : Nat → Int) : ∀ (n : Nat) (b : Int), cup f b (n + 1) = fu (cup f (b + 1) n) ((b + 1) % 5).toNat 0
  | 0, b => by
    simp only [cup]
    rw [show b + ((0 : Nat) : Int) + 1 = b + 1 by omega]
  | n + 1, b => by
    rw [cup, cup_step f n b, fu_comm, cup]
    rw [show b + ((n + 1 : Nat) : Int) + 1 = b + 1 + (n : Int) + 1 by omega]
theorem cup_clr (f : Nat → Int) (a : Int) : ∀ (n : Nat), cup f (a - n) n = clr f a n
  | 0 => rfl
  | n + 1 => by
    rw [cup_step, clr, ← cup_clr f a n]
    rw [show a - ((n + 1 : Nat) : Int) + 1 = a - (n : Int) by omega]
structure I19 (f : Nat → Int) (l t b s : Int) (o : Nat) (Sb : St) (m : Nat) (T : Tm) (S : St) : Prop where
  t0 : T.get 0 = some (pt o)
  t1 : T.get 1 = some (.int .i64 s)
  more : ∃ n : Nat, T.get 4 = some (.int .i64 (b + n)) ∧ Upd Sb S o (rm (cup f b n) l t) ∧ (b + n ≤ s ∨ n = 0) ∧ (m : Int) = (if s < b then 0 else s - b) - n ∧ n ≤ 5
set_option maxHeartbeats 4000000 in
theorem T19 (k : Nat) {S : St} {o : Nat} {f : Nat → Int} {l t s : Int} (hS : S.get o = some (rm f l t)) (l0 : 0 ≤ l) (l1 : l ≤ 92233720368547) (s0 : 0 ≤ s) (s1 : s ≤ 92233720368547) (a : Int) (ha : (if l < s then s else l) = a) :
    ∃ S', evF Y AP (k + 20) 19 [pt o, .int .i64 s] S = some (.tuple [], S') ∧ Upd S S' o (rm (clr f a (if 5 < a - l then 5 else a - l).toNat) a t) := by
  obtain ⟨b, hb⟩ : ∃ b, (if l < s - 5 then s - 5 else l) = b := ⟨_, rfl⟩
  have hb0 : 0 ≤ b ∧ b ≤ 92233720368547 ∧ s - 5 ≤ b ∧ l ≤ b := by rw [← hb]; split <;> omega
  have w1 : IntKind.i64.wrap (s - 5) = s - 5 := w64_id (by omega) (by omega)
  have hrd : ∀ v i m, S.rd o v i m = rdO (rm f l t) v i m := rd_of hS
  suffices hs : ∃ v S', evF Y AP (k + 20) 19 [pt o, .int .i64 s] S = some (v, S') ∧ (v = .tuple [] ∧ Upd S S' o (rm (clr f a (if 5 < a - l then 5 else a - l).toNat) a t)) by
    obtain ⟨v, S', h1, rfl, h2⟩ := hs; exact ⟨S', h1, h2⟩
  refine evF_goes (af := af19) (k := k + 19) rfl rfl rfl ?_
  simp -implicitDefEqProofs -dsimp (maxSteps := 10000000) only [af19, ↓goes_loop, ↓goes_seq, ↓goes_reg, ↓goes_dreg, ↓goes_cond, ↓goes_block, ↓goes_skip, ↓goes_exit, ↓goes_ret, after_some, br_true, br_false, ↓then_normal, ↓then_exit, ↓then_ret, ↓blk_normal, ↓blk_exit, ↓blk_ret, ↓blk_other, ops_nil, ops_some, ops_none, oper_none, oper_some, gd_tt, gd_ff, gd_tf, gd_ft, gd_undef, ↓any_op, ↓any_call, ↓any_callV, ↓any_invoke, xo_t, xo_c, args_nil, args_cons, bin_add, bin_sub, bin_mul, bin_quo, bin_rem, bin_and, bin_or, bin_xor, bin_andNot, bin_eql, bin_neq, bin_lss, bin_leq, bin_gtr, bin_geq, bin_shl, bin_shr, bin_bools, bin_strs, bin_ptrs, bin_slices, bin_aggs, ↓Option.bind_some, ↓Option.map_some, ↓cond_true, ↓cond_false, evC, evOp, XO.lit, setArgs, Tr.tabG, Tr.tabS, Tr.tabL, Tr.get_lf, Option.bind_some, Option.map_some, cond_true, cond_false, maxI, maxFrom, minI, minFrom, aConv, aBinE, aEq, eqScal, aUn, evRes, fin, oneOf, if_true, if_false, callee, reduceCtorEq, Nat.reduceEqDiff, and_self, decide_true, decide_false, beq_true, beq_false, Bool.not_true, Bool.not_false, List.getElem?_cons_zero, List.getElem?_cons_succ, beq_self_eq_true, gt_iff_lt, ble_dec, beq_dec, List.head?_cons, AV.undef, eq_self, ne_eq, not_true_eq_false, not_false_eq_true, Int.reduceLT, Int.reduceLE, Int.reduceToNat, Int.reduceEq, Int.reduceNeg, Nat.reduceAdd, Nat.reduceLT, Nat.reduceLeDiff, Nat.reduceMul, Nat.reduceSub, ↓evDraw_nil, putD, evDraw, trace, List.all_cons, List.all_nil, chk, stAt, again, sameV, sameA, AV.undef, Bool.and_self, Bool.and_true, decide_eq_true_eq, List.getElem?_nil, AV.cells, AV.tup, Bool.true_and, true_and, and_true, List.drop_nil, List.append_nil, rd_put, rd_alloc, rdO, St.get_put, St.get_alloc, St.next_put, St.next_alloc, St.wr, Bool.and_self, Bool.and_true, List.length_cons, List.length_nil, List.take_succ_cons, List.take_zero, List.drop_succ_cons, List.drop_zero, List.cons_append, List.nil_append, Nat.zero_add, Nat.add_zero, Nat.reduceMul, hrd, rc_len, rc0, w1, hb]
  refine .while (I19 f l t b s o S) id (if s < b then 0 else s - b).toNat ⟨rfl, rfl, 0, by simp only [Int.natCast_zero, Int.add_zero]; rfl, Upd.refl hS, .inr rfl, by split <;> omega, by omega⟩ (by show (if s < b then 0 else s - b).toNat < k + 19; split <;> omega) ?_
  rintro m T S1 ⟨t0, t1, n, t4, hu, hn, hm, n5⟩
  have hS1 := hu.same
  have hrd1 : ∀ v i' m', S1.rd o v i' m' = rdO (rm (cup f b n) l t) v i' m' := rd_of hS1
  by_cases c1 : b + n < s
  · have w2 : IntKind.i64.wrap (b + n + 1) = b + n + 1 := w64_id (by omega) (by omega)
    have ht : Int.tmod (b + n + 1) 5 = (b + n + 1) % 5 := Int.tmod_eq_emod_of_nonneg (by omega)
    obtain ⟨x, hx⟩ : ∃ x, (b + (n : Int) + 1) % 5 = x := ⟨_, rfl⟩
    have x0 : 0 ≤ x ∧ x < 5 := by omega
    have hix : ixOf (.int .i64 x) 5 = some x.toNat := ix_ok x0.1 (by omega)
    have h5 : ¬ ((5 : Int) = 0) := by decide
    have hle : 1 + x.toNat * 1 + 1 ≤ 7 := by omega
    have hset := rc_set (cup f b n) l t 0 (show x.toNat < 5 by omega)
    simp -implicitDefEqProofs -dsimp (maxSteps := 10000000) only [af19_l0, ↓goes_loop, ↓goes_seq, ↓goes_reg, ↓goes_dreg, ↓goes_cond, ↓goes_block, ↓goes_skip, ↓goes_exit, ↓goes_ret, after_some, br_true, br_false, ↓then_normal, ↓then_exit, ↓then_ret, ↓blk_normal, ↓blk_exit, ↓blk_ret, ↓blk_other, ops_nil, ops_some, ops_none, oper_none, oper_some, gd_tt, gd_ff, gd_tf, gd_ft, gd_undef, ↓any_op, ↓any_call, ↓any_callV, ↓any_invoke, xo_t, xo_c, args_nil, args_cons, bin_add, bin_sub, bin_mul, bin_quo, bin_rem, bin_and, bin_or, bin_xor, bin_andNot, bin_eql, bin_neq, bin_lss, bin_leq, bin_gtr, bin_geq, bin_shl, bin_shr, bin_bools, bin_strs, bin_ptrs, bin_slices, bin_aggs, ↓Option.bind_some, ↓Option.map_some, ↓cond_true, ↓cond_false, evC, evOp, XO.lit, setArgs, Tr.get_set, Option.bind_some, Option.map_some, cond_true, cond_false, maxI, maxFrom, minI, minFrom, aConv, aBinE, aEq, eqScal, aUn, evRes, fin, oneOf, if_true, if_false, callee, reduceCtorEq, Nat.reduceEqDiff, and_self, decide_true, decide_false, beq_true, beq_false, Bool.not_true, Bool.not_false, List.getElem?_cons_zero, List.getElem?_cons_succ, beq_self_eq_true, gt_iff_lt, ble_dec, beq_dec, List.head?_cons, AV.undef, eq_self, ne_eq, not_true_eq_false, not_false_eq_true, Int.reduceLT, Int.reduceLE, Int.reduceToNat, Int.reduceEq, Int.reduceNeg, Nat.reduceAdd, Nat.reduceLT, Nat.reduceLeDiff, Nat.reduceMul, Nat.reduceSub, AV.cells, AV.tup, Bool.true_and, true_and, and_true, List.drop_nil, List.append_nil, rd_put, rd_alloc, rdO, St.get_put, St.get_alloc, St.next_put, St.next_alloc, St.wr, Bool.and_self, Bool.and_true, List.length_cons, List.length_nil, List.take_succ_cons, List.take_zero, List.drop_succ_cons, List.drop_zero, List.cons_append, List.nil_append, Nat.zero_add, Nat.add_zero, Nat.reduceMul, t0, t1, t4, c1, w2, ht, hx, h5, hix, hS1, rc_len, hle, hset]
    refine ⟨m - 1, ⟨?_, ?_, n + 1, ?_, ?_, .inl (by omega), ?_, by omega⟩, by simp only [id]; split at hm <;> omega⟩
    · simp only [Tr.get_set, Nat.reduceEqDiff, if_false, if_true, t0]
    · simp only [Tr.get_set, Nat.reduceEqDiff, if_false, if_true, t1]
    · simp only [Tr.get_set, Nat.reduceEqDiff, if_false, if_true]
      congr 2; omega
    · refine (hu.put _).cast ?_
      show rm (fu (cup f b n) x.toNat 0) l t = rm (fu (cup f b n) ((b + (n : Int) + 1) % 5).toNat 0) l t
      rw [hx]
    · split at hm <;> (try split) <;> omega
  · have hg : cup f b n = clr f a (if 5 < a - l then 5 else a - l).toNat := by
      have e1 : n = (if 5 < a - l then 5 else a - l).toNat := by
        rw [← ha]; (repeat' split) <;> (split at hb <;> omega)
      have e2 : b = a - (n : Int) := by
        rw [← ha]; split <;> (split at hb <;> omega)
      rw [← e1, e2]
      exact cup_clr f a n
    rw [hg] at hS1 hrd1 hu
    simp -implicitDefEqProofs -dsimp (maxSteps := 10000000) only [af19_l0, ↓goes_loop, ↓goes_seq, ↓goes_reg, ↓goes_dreg, ↓goes_cond, ↓goes_block, ↓goes_skip, ↓goes_exit, ↓goes_ret, after_some, br_true, br_false, ↓then_normal, ↓then_exit, ↓then_ret, ↓blk_normal, ↓blk_exit, ↓blk_ret, ↓blk_other, ops_nil, ops_some, ops_none, oper_none, oper_some, gd_tt, gd_ff, gd_tf, gd_ft, gd_undef, ↓any_op, ↓any_call, ↓any_callV, ↓any_invoke, xo_t, xo_c, args_nil, args_cons, bin_add, bin_sub, bin_mul, bin_quo, bin_rem, bin_and, bin_or, bin_xor, bin_andNot, bin_eql, bin_neq, bin_lss, bin_leq, bin_gtr, bin_geq, bin_shl, bin_shr, bin_bools, bin_strs, bin_ptrs, bin_slices, bin_aggs, ↓Option.bind_some, ↓Option.map_some, ↓cond_true, ↓cond_false, evC, evOp, XO.lit, setArgs, Tr.get_set, Option.bind_some, Option.map_some, cond_true, cond_false, maxI, maxFrom, minI, minFrom, aConv, aBinE, aEq, eqScal, aUn, evRes, fin, oneOf, if_true, if_false, callee, reduceCtorEq, Nat.reduceEqDiff, and_self, decide_true, decide_false, beq_true, beq_false, Bool.not_true, Bool.not_false, List.getElem?_cons_zero, List.getElem?_cons_succ, beq_self_eq_true, gt_iff_lt, ble_dec, beq_dec, List.head?_cons, AV.undef, eq_self, ne_eq, not_true_eq_false, not_false_eq_true, Int.reduceLT, Int.reduceLE, Int.reduceToNat, Int.reduceEq, Int.reduceNeg, Nat.reduceAdd, Nat.reduceLT, Nat.reduceLeDiff, Nat.reduceMul, Nat.reduceSub, AV.cells, AV.tup, Bool.true_and, true_and, and_true, List.drop_nil, List.append_nil, rd_put, rd_alloc, rdO, St.get_put, St.get_alloc, St.next_put, St.next_alloc, St.wr, Bool.and_self, Bool.and_true, List.length_cons, List.length_nil, List.take_succ_cons, List.take_zero, List.drop_succ_cons, List.drop_zero, List.cons_append, List.nil_append, Nat.zero_add, Nat.add_zero, Nat.reduceMul, t0, t1, t4, c1, hrd1, hS1, rc_len, rc0, rc_set0, ha]
    exact ⟨_, _, rfl, rfl, hu.put _⟩
section
variable (k : Nat) (S : St) (a b : Int)
theorem y20 : evF Y AP (k + 1) 20 [.int .i64 a, .int .i64 b] S = some (.int .i64 (sat a b), S) := rfl
theorem y21 : evF Y AP (k + 1) 21 [.int .i64 a, .int .i64 b] S = some (.int .i64 (mn (up a * up b) M63), S) := rfl
theorem y11 : evF Y AP (k + 1) 11 [.int .i64 a, .int .i64 b] S = some (.int .i64 (upq (up a) (up b)), S) := rfl
end
def ssum (g : Nat → Int) : Nat → Int
  | 0 => 0
  | n + 1 => sat (ssum g n) (g n)
def arr (g : Nat → Int) : List AV := [.int .i64 (g 0), .int .i64 (g 1), .int .i64 (g 2), .int .i64 (g 3), .int .i64 (g 4)]
theorem arr_get (g : Nat → Int) {j : Nat} (h : j < 5) : (arr g)[j]? = some (.int .i64 (g j)) := by
  match j, h with
  | 0, _ | 1, _ | 2, _ | 3, _ | 4, _ => rfl
def rate2 (f : Nat → Int) (l now : Int) : Int :=
  let a := if l < slot now then slot now else l
  upq (up (mn (up (ssum (clr f a (if 5 < a - l then 5 else a - l).toNat) 5) * up 1000000) M63)) (up 500000)
structure I14 (g : Nat → Int) (Sb : St) (m : Nat) (T : Tm) (S : St) : Prop where
  t17 : T.get 17 = some (.agg (arr g))
  st : S = Sb
  more : ∃ i : Nat, T.get 18 = some (.int .i64 i) ∧ T.get 6 = some (.int .i64 (ssum g i)) ∧ i ≤ 5 ∧ m = 5 - i
theorem c5n : ((5 : Nat) : Int) = 5 := rfl
set_option maxHeartbeats 4000000 in
theorem T14 (k : Nat) {S : St} {o : Nat} {f : Nat → Int} {l t now : Int} (hS : S.get o = some (rm f l t)) (ho : o < S.next) (l0 : 0 ≤ l) (l1 : l ≤ 92233720368547) (hn : I64 now) :
    ∃ S', evF Y AP (k + 40) 14 [pt o, .int .i64 now] S = some (.int .i64 (rate2 f l now), S') ∧ Ext S S' := by
  have hb := slot_bd hn.2
  obtain ⟨a, ha⟩ : ∃ a, (if l < slot now then slot now else l) = a := ⟨_, rfl⟩
  have hne : ¬ ((100000 : Int) = 0) := by decide
  have ht : Int.tdiv (if now < 0 then 0 else now) 100000 = slot now := by
    unfold slot
    rw [Int.tdiv_eq_ediv_of_nonneg (by split <;> omega)]
    congr 1
    split <;> split <;> omega
  have w : IntKind.i64.wrap (slot now) = slot now := w64_id (by omega) (by omega)
  have hrd : ∀ v i m, S.rd o v i m = rdO (rm f l t) v i m := rd_of hS
  have htk : List.take 7 (rc f l t) = rc f l t := rfl
  obtain ⟨Sa, hSa⟩ : ∃ Sa, (S.alloc (.cells [.int .i64 0, .int .i64 0, .int .i64 0, .int .i64 0, .int .i64 0, .int .i64 0, .int .i64 0] 0 0 true)).put S.next (rm f l t) = Sa := ⟨_, rfl⟩
  have geta : ∀ q, Sa.get q = if q = S.next then some (rm f l t) else S.get q := by
    intro q
    rw [← hSa, St.get_put, St.get_alloc]
    split <;> rfl
  have na : Sa.next = S.next + 1 := by rw [← hSa]; rfl
  have ea : Ext S Sa := ⟨by rw [na]; omega, fun q hq => by rw [geta, if_neg (by omega)]⟩
  obtain ⟨S2, e19, u2⟩ := T19 (k + 19) (S := Sa) (o := S.next) (by rw [geta, if_pos rfl]) l0 l1 hb.1 hb.2 a ha
  obtain ⟨g, hg⟩ : ∃ g, clr f a (if 5 < a - l then 5 else a - l).toNat = g := ⟨_, rfl⟩
  rw [hg] at u2
  have hrd2 : ∀ v i m, S2.rd S.next v i m = rdO (rm g a t) v i m := rd_of u2.same
  have ha5 : List.take 5 (List.drop 1 (rc g a t)) = arr g := rfl
  suffices hs : ∃ v S', evF Y AP (k + 40) 14 [pt o, .int .i64 now] S = some (v, S') ∧ (v = .int .i64 (upq (up (mn (up (ssum g 5) * up 1000000) M63)) (up 500000)) ∧ S' = S2) by
    obtain ⟨v, S', h1, rfl, rfl⟩ := hs
    refine ⟨_, ?_, u2.ext ea (Nat.le_refl _)⟩
    rw [h1]
    unfold rate2
    dsimp only
    rw [ha, hg]
  refine evF_goes (af := af14) (k := k + 39) rfl rfl rfl ?_
  simp -implicitDefEqProofs -dsimp (maxSteps := 10000000) only [af14, ↓goes_loop, ↓goes_seq, ↓goes_reg, ↓goes_dreg, ↓goes_cond, ↓goes_block, ↓goes_skip, ↓goes_exit, ↓goes_ret, after_some, br_true, br_false, ↓then_normal, ↓then_exit, ↓then_ret, ↓blk_normal, ↓blk_exit, ↓blk_ret, ↓blk_other, ops_nil, ops_some, ops_none, oper_none, oper_some, gd_tt, gd_ff, gd_tf, gd_ft, gd_undef, ↓any_op, ↓any_call, ↓any_callV, ↓any_invoke, xo_t, xo_c, args_nil, args_cons, bin_add, bin_sub, bin_mul, bin_quo, bin_rem, bin_and, bin_or, bin_xor, bin_andNot, bin_eql, bin_neq, bin_lss, bin_leq, bin_gtr, bin_geq, bin_shl, bin_shr, bin_bools, bin_strs, bin_ptrs, bin_slices, bin_aggs, ↓Option.bind_some, ↓Option.map_some, ↓cond_true, ↓cond_false, evC, evOp, XO.lit, setArgs, Tr.tabG, Tr.tabS, Tr.tabL, Tr.get_lf, Option.bind_some, Option.map_some, cond_true, cond_false, maxI, maxFrom, minI, minFrom, aConv, aBinE, aEq, eqScal, aUn, evRes, fin, oneOf, if_true, if_false, callee, reduceCtorEq, Nat.reduceEqDiff, and_self, decide_true, decide_false, beq_true, beq_false, Bool.not_true, Bool.not_false, List.getElem?_cons_zero, List.getElem?_cons_succ, beq_self_eq_true, gt_iff_lt, ble_dec, beq_dec, List.head?_cons, AV.undef, eq_self, ne_eq, not_true_eq_false, not_false_eq_true, Int.reduceLT, Int.reduceLE, Int.reduceToNat, Int.reduceEq, Int.reduceNeg, Nat.reduceAdd, Nat.reduceLT, Nat.reduceLeDiff, Nat.reduceMul, Nat.reduceSub, ↓evDraw_nil, putD, evDraw, trace, List.all_cons, List.all_nil, chk, stAt, again, sameV, sameA, AV.undef, Bool.and_self, Bool.and_true, decide_eq_true_eq, List.getElem?_nil, AV.cells, AV.tup, Bool.true_and, true_and, and_true, List.drop_nil, List.append_nil, rd_put, rd_alloc, rdO, St.get_put, St.get_alloc, St.next_put, St.next_alloc, St.wr, Bool.and_self, Bool.and_true, List.length_cons, List.length_nil, List.take_succ_cons, List.take_zero, List.drop_succ_cons, List.drop_zero, List.cons_append, List.nil_append, Nat.zero_add, Nat.add_zero, Nat.reduceMul, aFill, evParts, rep, List.replicate_succ, List.replicate_zero, List.flatten_cons, List.flatten_nil, List.append_nil, newSl, newVar, hrd, rc_len, htk, hSa, hne, ht, w, e19, hrd2, ha5]
  refine .while (I14 g S2) id 5 ⟨rfl, rfl, 0, rfl, rfl, by decide, rfl⟩ (by show 5 < k + 39; omega) ?_
  rintro m T S3 ⟨t17, rfl, i, t18, t6, i5, hm⟩
  by_cases c1 : (i : Int) < 5
  · have hix : ixOf (.int .i64 (i : Int)) 5 = some i := ix_ok (by omega) (by omega)
    have hget := arr_get g (show i < 5 by omega)
    have w3 : IntKind.i64.wrap ((i : Int) + 1) = i + 1 := w64_id (by omega) (by omega)
    simp -implicitDefEqProofs -dsimp (maxSteps := 10000000) only [af14_l0, ↓goes_loop, ↓goes_seq, ↓goes_reg, ↓goes_dreg, ↓goes_cond, ↓goes_block, ↓goes_skip, ↓goes_exit, ↓goes_ret, after_some, br_true, br_false, ↓then_normal, ↓then_exit, ↓then_ret, ↓blk_normal, ↓blk_exit, ↓blk_ret, ↓blk_other, ops_nil, ops_some, ops_none, oper_none, oper_some, gd_tt, gd_ff, gd_tf, gd_ft, gd_undef, ↓any_op, ↓any_call, ↓any_callV, ↓any_invoke, xo_t, xo_c, args_nil, args_cons, bin_add, bin_sub, bin_mul, bin_quo, bin_rem, bin_and, bin_or, bin_xor, bin_andNot, bin_eql, bin_neq, bin_lss, bin_leq, bin_gtr, bin_geq, bin_shl, bin_shr, bin_bools, bin_strs, bin_ptrs, bin_slices, bin_aggs, ↓Option.bind_some, ↓Option.map_some, ↓cond_true, ↓cond_false, evC, evOp, XO.lit, setArgs, Tr.get_set, Option.bind_some, Option.map_some, cond_true, cond_false, maxI, maxFrom, minI, minFrom, aConv, aBinE, aEq, eqScal, aUn, evRes, fin, oneOf, if_true, if_false, callee, reduceCtorEq, Nat.reduceEqDiff, and_self, decide_true, decide_false, beq_true, beq_false, Bool.not_true, Bool.not_false, List.getElem?_cons_zero, List.getElem?_cons_succ, beq_self_eq_true, gt_iff_lt, ble_dec, beq_dec, List.head?_cons, AV.undef, eq_self, ne_eq, not_true_eq_false, not_false_eq_true, Int.reduceLT, Int.reduceLE, Int.reduceToNat, Int.reduceEq, Int.reduceNeg, Nat.reduceAdd, Nat.reduceLT, Nat.reduceLeDiff, Nat.reduceMul, Nat.reduceSub, AV.cells, AV.tup, Bool.true_and, true_and, and_true, List.drop_nil, List.append_nil, rd_put, rd_alloc, rdO, St.get_put, St.get_alloc, St.next_put, St.next_alloc, St.wr, Bool.and_self, Bool.and_true, List.length_cons, List.length_nil, List.take_succ_cons, List.take_zero, List.drop_succ_cons, List.drop_zero, List.cons_append, List.nil_append, Nat.zero_add, Nat.add_zero, Nat.reduceMul, t17, t18, t6, c1, hix, hget, w3, y20]
    refine ⟨m - 1, ⟨?_, rfl, i + 1, ?_, ?_, by omega, by omega⟩, by simp only [id]; omega⟩
    · simp only [Tr.get_set, Nat.reduceEqDiff, if_false, if_true, t17]
    · simp only [Tr.get_set, Nat.reduceEqDiff, if_false, if_true]; rfl
    · simp only [Tr.get_set, Nat.reduceEqDiff, if_false, if_true]; rfl
  · obtain rfl : i = 5 := by omega
    simp -implicitDefEqProofs -dsimp (maxSteps := 10000000) only [af14_l0, ↓goes_loop, ↓goes_seq, ↓goes_reg, ↓goes_dreg, ↓goes_cond, ↓goes_block, ↓goes_skip, ↓goes_exit, ↓goes_ret, after_some, br_true, br_false, ↓then_normal, ↓then_exit, ↓then_ret, ↓blk_normal, ↓blk_exit, ↓blk_ret, ↓blk_other, ops_nil, ops_some, ops_none, oper_none, oper_some, gd_tt, gd_ff, gd_tf, gd_ft, gd_undef, ↓any_op, ↓any_call, ↓any_callV, ↓any_invoke, xo_t, xo_c, args_nil, args_cons, bin_add, bin_sub, bin_mul, bin_quo, bin_rem, bin_and, bin_or, bin_xor, bin_andNot, bin_eql, bin_neq, bin_lss, bin_leq, bin_gtr, bin_geq, bin_shl, bin_shr, bin_bools, bin_strs, bin_ptrs, bin_slices, bin_aggs, ↓Option.bind_some, ↓Option.map_some, ↓cond_true, ↓cond_false, evC, evOp, XO.lit, setArgs, Tr.get_set, Option.bind_some, Option.map_some, cond_true, cond_false, maxI, maxFrom, minI, minFrom, aConv, aBinE, aEq, eqScal, aUn, evRes, fin, oneOf, if_true, if_false, callee, reduceCtorEq, Nat.reduceEqDiff, and_self, decide_true, decide_false, beq_true, beq_false, Bool.not_true, Bool.not_false, List.getElem?_cons_zero, List.getElem?_cons_succ, beq_self_eq_true, gt_iff_lt, ble_dec, beq_dec, List.head?_cons, AV.undef, eq_self, ne_eq, not_true_eq_false, not_false_eq_true, Int.reduceLT, Int.reduceLE, Int.reduceToNat, Int.reduceEq, Int.reduceNeg, Nat.reduceAdd, Nat.reduceLT, Nat.reduceLeDiff, Nat.reduceMul, Nat.reduceSub, AV.cells, AV.tup, Bool.true_and, true_and, and_true, List.drop_nil, List.append_nil, rd_put, rd_alloc, rdO, St.get_put, St.get_alloc, St.next_put, St.next_alloc, St.wr, Bool.and_self, Bool.and_true, List.length_cons, List.length_nil, List.take_succ_cons, List.take_zero, List.drop_succ_cons, List.drop_zero, List.cons_append, List.nil_append, Nat.zero_add, Nat.add_zero, Nat.reduceMul, t17, t18, t6, c1, y21, y11]
    exact ⟨_, _, rfl, rfl, rfl⟩
end Go.Proofs.YtinnclcheekhpaaA
