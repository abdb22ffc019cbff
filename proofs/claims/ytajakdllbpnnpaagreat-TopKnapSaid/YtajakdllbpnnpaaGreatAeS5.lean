/- An abstract evaluator, what is used with it: codes step by step; states that grow; slices that are read, slices that grow. -/
import Derived.Test.YtajakdllbpnnpaaGreatAeS4
set_option linter.unusedVariables false
set_option linter.unusedSimpArgs false
namespace Go.Proofs.YtajakdllbpnnpaaGreatA
open Go.RowKit

/-! ### Step by step -/
def After (o : Option (Tm × St)) (N : Tm → St → Prop) : Prop := ∃ T S, o = some (T, S) ∧ N T S
def Br (o : Option AV) (A B : Prop) : Prop := ∃ t, o = some (.bool t) ∧ if t = true then A else B
section
variable {call : Nat → List AV → St → Option (AV × St)} {k : Nat} {T : Tm} {S : St} {Q : Ex → Tm → St → Prop} {N : Tm → St → Prop}
theorem after_some : After (some (T, S)) N = N T S := propext ⟨fun ⟨_, _, h, h2⟩ => by cases h; exact h2, fun h => ⟨_, _, rfl, h⟩⟩
theorem after_congr {o o' : Option (Tm × St)} (h : o = o') : After o N = After o' N := by rw [h]
theorem br_true {A B : Prop} : Br (some (.bool true)) A B = A := propext ⟨fun ⟨t, h, h2⟩ => by cases h; exact h2, fun h => ⟨true, rfl, h⟩⟩
theorem br_false {A B : Prop} : Br (some (.bool false)) A B = B := propext ⟨fun ⟨t, h, h2⟩ => by cases h; exact h2, fun h => ⟨false, rfl, h⟩⟩
theorem br_congr {o o' : Option AV} {A B : Prop} (h : o = o') : Br o A B = Br o' A B := by rw [h]
theorem br_of {t : Bool} {A B : Prop} (h : t = true → A) (h' : t = false → B) : Br (some (.bool t)) A B := ⟨t, rfl, by cases t with | true => exact h rfl | false => exact h' rfl⟩
theorem goes_congr {k k' : Nat} {c : AC} (h : k = k') : Goes call k c T S Q = Goes call k' c T S Q := by rw [h]
theorem goes_seq {a b : AC} : Goes call k (.seq a b) T S Q = Goes call k a T S (Then (fun T S => Goes call k b T S Q) Q) := by
  refine propext ⟨fun h => ?_, Goes.seq⟩
  obtain ⟨r, T', S', h1, h2⟩ := h
  simp only [evC] at h1
  obtain ⟨⟨r1, T1, S1⟩, h3, h4⟩ := Option.bind_eq_some_iff.1 h1
  refine ⟨r1, T1, S1, h3, ?_⟩
  cases r1 with
  | normal => exact ⟨r, T', S', h4, h2⟩
  | exit id => cases h4; exact h2
  | ret => cases h4; exact h2
theorem goes_reg {ops : List AOper} : Goes call k (.reg ops) T S Q = After (evOps call ops T S) (Q .normal) := by
  refine propext ⟨fun h => ?_, fun ⟨T', S', h1, h2⟩ => Goes.reg1 h1 h2⟩
  obtain ⟨r, T', S', h1, h2⟩ := h
  simp only [evC] at h1
  obtain ⟨⟨T1, S1⟩, h3, h4⟩ := Option.map_eq_some_iff.1 h1
  cases h4
  exact ⟨_, _, h3, h2⟩
theorem goes_dreg {ops : List AOper} {pl : Plan} : Goes call k (.dreg ops pl) T S Q = After (evDraw call ops pl T S) (Q .normal) := by
  refine propext ⟨fun h => ?_, fun ⟨T', S', h1, h2⟩ => Goes.dreg1 h1 h2⟩
  obtain ⟨r, T', S', h1, h2⟩ := h
  simp only [evC] at h1
  obtain ⟨⟨T1, S1⟩, h3, h4⟩ := Option.map_eq_some_iff.1 h1
  cases h4
  exact ⟨_, _, h3, h2⟩
theorem goes_preg {ops : List AOper} {pl : Plan} : Goes call k (.preg ops pl) T S Q = After (evPar call ops pl T S) (Q .normal) := by
  refine propext ⟨fun h => ?_, fun ⟨T', S', h1, h2⟩ => Goes.preg1 h1 h2⟩
  obtain ⟨r, T', S', h1, h2⟩ := h
  simp only [evC] at h1
  obtain ⟨⟨T1, S1⟩, h3, h4⟩ := Option.map_eq_some_iff.1 h1
  cases h4
  exact ⟨_, _, h3, h2⟩
theorem goes_cond {c : XO} {a b : AC} : Goes call k (.cond c a b) T S Q = Br (c.ev T) (Goes call k a T S Q) (Goes call k b T S Q) := by
  refine propext ⟨fun h => ?_, fun ⟨t, h1, h2⟩ => Goes.cond h1 h2⟩
  obtain ⟨r, T', S', h1, h2⟩ := h
  simp only [evC] at h1
  obtain ⟨v, h3, h4⟩ := Option.bind_eq_some_iff.1 h1
  cases v with
  | bool t => cases t with
    | true => exact ⟨true, h3, r, T', S', h4, h2⟩
    | false => exact ⟨false, h3, r, T', S', h4, h2⟩
  | _ => cases h4
theorem goes_block {id : Nat} {b : AC} : Goes call k (.block id b) T S Q = Goes call k b T S (Blk id Q) := by
  refine propext ⟨fun h => ?_, Goes.block⟩
  obtain ⟨r, T', S', h1, h2⟩ := h
  simp only [evC] at h1
  obtain ⟨⟨r1, T1, S1⟩, h3, h4⟩ := Option.map_eq_some_iff.1 h1
  refine ⟨r1, T1, S1, h3, ?_⟩
  cases r1 with
  | normal => cases h4; exact h2
  | ret => cases h4; exact h2
  | exit i =>
    simp only [Blk]
    by_cases hi : i = id
    · subst hi
      rw [if_pos rfl]
      simp only [Nat.beq_refl, cond_true] at h4
      cases h4
      exact h2
    · have hb : Nat.beq i id = false := by cases hb : Nat.beq i id with | false => rfl | true => exact absurd (Nat.eq_of_beq_eq_true hb) hi
      rw [if_neg hi]
      simp only [hb, cond_false] at h4
      cases h4
      exact h2
theorem goes_skip : Goes call k .skip T S Q = Q .normal T S := propext ⟨fun ⟨_, _, _, h, h2⟩ => by cases h; exact h2, Goes.skip⟩
theorem goes_exit {id : Nat} : Goes call k (.exit id) T S Q = Q (.exit id) T S := propext ⟨fun ⟨_, _, _, h, h2⟩ => by cases h; exact h2, Goes.exit⟩
theorem goes_ret : Goes call k .ret T S Q = Q .ret T S := propext ⟨fun ⟨_, _, _, h, h2⟩ => by cases h; exact h2, Goes.ret⟩
theorem then_normal : Then N Q .normal T S = N T S := rfl
theorem then_exit {id : Nat} : Then N Q (.exit id) T S = Q (.exit id) T S := rfl
theorem then_ret : Then N Q .ret T S = Q .ret T S := rfl
theorem blk_normal {id : Nat} : Blk id Q .normal T S = Q .normal T S := rfl
theorem blk_exit {id : Nat} : Blk id Q (.exit id) T S = Q .normal T S := by simp only [Blk, if_true]
theorem blk_other {id i : Nat} (h : ¬ i = id) : Blk id Q (.exit i) T S = Q (.exit i) T S := by simp only [Blk, if_neg h]
theorem blk_ret {id : Nat} : Blk id Q .ret T S = Q .ret T S := rfl
end
/-- A loop: here simp stops, and looks at nothing behind it. -/
structure Dum (P : Prop) where
  u : Unit
def Stop (P : Prop) (d : Dum P) : Prop := P
theorem goes_loop {call : Nat → List AV → St → Option (AV × St)} {k : Nat} {T : Tm} {S : St} {Q : Ex → Tm → St → Prop} {b : AC} : Goes call k (.loop b) T S Q = Stop (Goes call k (.loop b) T S Q) ⟨()⟩ := propext ⟨fun h => h, fun h => h⟩
/-- Wider fuel of a loop's rounds. -/
theorem Goes.while {call : Nat → List AV → St → Option (AV × St)} {k : Nat} {T : Tm} {S : St} {Q : Ex → Tm → St → Prop} {b : AC} {α : Type} (I : α → Tm → St → Prop) (m : α → Nat) (a0 : α) (h0 : I a0 T S) (hm : m a0 < k)
    (round : ∀ a T S, I a T S → Goes call k b T S (Then (fun T' S' => ∃ a', I a' T' S' ∧ m a' < m a) Q)) : Goes call k (.loop b) T S Q := by
  have key : ∀ (n : Nat) (a : α) (T : Tm) (S : St), I a T S → m a < n → ∃ r T' S', iter (evC call k b) n T S = some (r, T', S') ∧ Q r T' S' := by
    intro n
    induction n with
    | zero => intro a T S _ h; omega
    | succ n ih =>
      intro a T S hI hlt
      obtain ⟨r, T1, S1, h1, h2⟩ := round a T S hI
      cases r with
      | normal =>
        obtain ⟨a', hI', hm'⟩ := h2
        obtain ⟨r, T2, S2, h3, h4⟩ := ih a' T1 S1 hI' (by omega)
        exact ⟨r, T2, S2, by simp only [iter, h1, Option.bind_some, h3], h4⟩
      | exit id => exact ⟨_, T1, S1, by simp only [iter, h1, Option.bind_some], h2⟩
      | ret => exact ⟨_, T1, S1, by simp only [iter, h1, Option.bind_some], h2⟩
  obtain ⟨r, T', S', h1, h2⟩ := key k a0 T S h0 hm
  exact ⟨r, T', S', by simp only [evC, h1], h2⟩

/-! ### States that grow -/
structure Ext (S S' : St) : Prop where
  next : S.next ≤ S'.next
  old : ∀ o, o < S.next → S'.get o = S.get o
theorem Ext.refl (S : St) : Ext S S := ⟨Nat.le_refl _, fun _ _ => rfl⟩
theorem Ext.trans {S S' S'' : St} (h : Ext S S') (h' : Ext S' S'') : Ext S S'' := ⟨Nat.le_trans h.next h'.next, fun o ho => (h'.old o (Nat.lt_of_lt_of_le ho h.next)).trans (h.old o ho)⟩
theorem Ext.alloc (S : St) (x : AO) : Ext S (S.alloc x) := ⟨Nat.le_succ _, fun o ho => by rw [St.get_alloc, if_neg (Nat.ne_of_lt ho)]⟩
theorem Ext.then_alloc {S S' : St} (h : Ext S S') (x : AO) : Ext S (S'.alloc x) := h.trans (.alloc _ _)
theorem Ext.then_put {S S' : St} (h : Ext S S') {o : Nat} (ho : S.next ≤ o) (x : AO) : Ext S (S'.put o x) :=
  ⟨h.next, fun j hj => by rw [St.get_put, if_neg (by omega)]; exact h.old j hj⟩
theorem Ext.rd {S S' : St} (h : Ext S S') {o : Nat} (ho : o < S.next) (v i n : Nat) : S'.rd o v i n = S.rd o v i n := by
  unfold St.rd
  rw [h.old o ho]
theorem Ext.get {S S' : St} (h : Ext S S') {o : Nat} {x : AO} (ho : o < S.next) (hg : S.get o = some x) : S'.get o = some x := (h.old o ho).trans hg

/-- What is read of an object. -/
def rdO : AO → Nat → Nat → Nat → Option (List AV)
  | .cells c ver minv _, v, i, n => bif Nat.ble minv v && Nat.ble v ver && Nat.ble (i + n) c.length then some ((c.drop i).take n) else none
  | .fork c ver minv g, v, i, n => bif Nat.ble minv v && Nat.ble v ver && Nat.ble (i + n) c.length && (Nat.beq v ver || Nat.ble (i + n) g) then some ((c.drop i).take n) else none
  | _, _, _, _ => none
theorem rd_of {S : St} {o : Nat} {x : AO} (h : S.get o = some x) (v i n : Nat) : S.rd o v i n = rdO x v i n := by
  unfold St.rd rdO
  rw [h]
  cases x <;> rfl
theorem rd_put (S : St) (o : Nat) (x : AO) (j v i n : Nat) : (S.put o x).rd j v i n = if j = o then rdO x v i n else S.rd j v i n := by
  by_cases h : j = o
  · rw [if_pos h, rd_of (by rw [St.get_put, if_pos h])]
  · rw [if_neg h]
    unfold St.rd
    rw [St.get_put, if_neg h]
theorem rd_alloc (S : St) (x : AO) (j v i n : Nat) : (S.alloc x).rd j v i n = if j = S.next then rdO x v i n else S.rd j v i n := by
  by_cases h : j = S.next
  · rw [if_pos h, rd_of (by rw [St.get_alloc, if_pos h])]
  · rw [if_neg h]
    unfold St.rd
    rw [St.get_alloc, if_neg h]
/-- One object is turned. -/
structure Upd (S S' : St) (o : Nat) (x : AO) : Prop where
  next : S'.next = S.next
  get : ∀ j, S'.get j = if j = o then some x else S.get j
theorem Upd.refl {S : St} {o : Nat} {x : AO} (h : S.get o = some x) : Upd S S o x := ⟨rfl, fun j => by by_cases e : j = o <;> simp [e, h]⟩
theorem Upd.one (S : St) (o : Nat) (x : AO) : Upd S (S.put o x) o x := ⟨rfl, fun j => St.get_put _ _ _ _⟩
theorem Upd.put {S S' : St} {o : Nat} {x : AO} (h : Upd S S' o x) (y : AO) : Upd S (S'.put o y) o y := ⟨h.next, fun j => by rw [St.get_put, h.get]; split <;> rfl⟩
theorem Upd.trans {S S' S'' : St} {o : Nat} {x y : AO} (h : Upd S S' o x) (h' : Upd S' S'' o y) : Upd S S'' o y := ⟨h'.next.trans h.next, fun j => by rw [h'.get, h.get]; split <;> rfl⟩
theorem Upd.cast {S S' : St} {o : Nat} {x y : AO} (h : Upd S S' o x) (e : x = y) : Upd S S' o y := e ▸ h
theorem Upd.same {S S' : St} {o : Nat} {x : AO} (h : Upd S S' o x) : S'.get o = some x := by rw [h.get, if_pos rfl]
theorem Upd.else {S S' : St} {o j : Nat} {x : AO} (h : Upd S S' o x) (hj : ¬ j = o) : S'.get j = S.get j := by rw [h.get, if_neg hj]
theorem Upd.ext {S0 S S' : St} {o : Nat} {x : AO} (h : Upd S S' o x) (e : Ext S0 S) (ho : S0.next ≤ o) : Ext S0 S' :=
  ⟨by rw [h.next]; exact e.next, fun j hj => by rw [h.get, if_neg (by omega)]; exact e.old j hj⟩
/-- One object is new. -/
structure Born (S S' : St) (x : AO) : Prop where
  next : S'.next = S.next + 1
  get : ∀ j, S'.get j = if j = S.next then some x else S.get j
theorem Born.one (S : St) (x : AO) : Born S (S.alloc x) x := ⟨rfl, fun j => St.get_alloc _ _ _⟩
theorem Born.put {S S' : St} {x : AO} (h : Born S S' x) (y : AO) : Born S (S'.put S.next y) y := ⟨h.next, fun j => by rw [St.get_put, h.get]; split <;> rfl⟩
theorem Born.cast {S S' : St} {x y : AO} (h : Born S S' x) (e : x = y) : Born S S' y := e ▸ h
theorem Born.same {S S' : St} {x : AO} (h : Born S S' x) : S'.get S.next = some x := by rw [h.get, if_pos rfl]
theorem Born.else {S S' : St} {j : Nat} {x : AO} (h : Born S S' x) (hj : ¬ j = S.next) : S'.get j = S.get j := by rw [h.get, if_neg hj]
theorem Born.ext {S S' : St} {x : AO} (h : Born S S' x) : Ext S S' := ⟨by rw [h.next]; omega, fun j hj => h.else (by omega)⟩
/-! ### Slices that are read -/
structure Sl (S : St) (p : Option (Nat × Nat × Nat)) (len : Nat) (ks : List Sc) : Prop where
  at_ : len ≠ 0 → ∃ o v i, p = some (o, v, i) ∧ o < S.next
  max : len ≤ 9223372036854775807
  el : ∀ o v i, p = some (o, v, i) → ∀ j, j < len → ∃ ys, S.rd o v (i + j * ks.length) ks.length = some ys ∧ Scs ks ys
theorem Sl.ext {S S' : St} {p : Option (Nat × Nat × Nat)} {len : Nat} {ks : List Sc} (h : Sl S p len ks) (e : Ext S S') : Sl S' p len ks := by
  refine ⟨fun h0 => ?_, h.max, fun o v i hp j hj => ?_⟩
  · obtain ⟨o, v, i, hp, ho⟩ := h.at_ h0
    exact ⟨o, v, i, hp, Nat.lt_of_lt_of_le ho e.next⟩
  · obtain ⟨o', v', i', hp', ho⟩ := h.at_ (by omega)
    rw [hp] at hp'
    cases hp'
    rw [e.rd ho]
    exact h.el o v i hp j hj
theorem rd_cells {S : St} {o : Nat} {c : List AV} {ver minv : Nat} {own : Bool} {i n : Nat} (h : S.get o = some (.cells c ver minv own)) (hm : minv ≤ ver) (hi : i + n ≤ c.length) : S.rd o ver i n = some ((c.drop i).take n) := by
  simp only [St.rd, h, ble_dec, decide_eq_true hm, decide_eq_true (Nat.le_refl ver), decide_eq_true hi, Bool.and_self, cond_true]
theorem Sl.of_arg {S : St} {p : Option (Nat × Nat × Nat)} {o len : Nat} {ks : List Sc} {xs : List AV} (h : Arg p o len ks xs) (hg : S.get o = some (.cells xs 0 0 false)) (ho : o < S.next) : Sl S p len ks := by
  refine ⟨fun h0 => ⟨_, _, _, h.at_ h0, ho⟩, h.max, fun _ _ _ e j hj => ?_⟩
  have hp := h.at_ (by omega)
  rw [e] at hp
  cases hp
  have hle : (j + 1) * ks.length ≤ len * ks.length := Nat.mul_le_mul_right _ (by omega)
  rw [Nat.succ_mul] at hle
  have := h.le
  exact ⟨_, rd_cells hg (Nat.le_refl _) (by omega), by rw [Nat.zero_add]; exact h.el j hj⟩
/-- One number of a slice of numbers. -/
theorem Sl.int {S : St} {o v i len : Nat} {k : IntKind} (h : Sl S (some (o, v, i)) len [.int k]) {j : Int} (h0 : 0 ≤ j) (h1 : j < len) :
    ∃ n, S.rd o v (i + j.toNat * 1) 1 = some [.int k n] ∧ (Lit.int k n).wf = true := by
  obtain ⟨ys, hy, hs⟩ := h.el o v i rfl j.toNat (by omega)
  match ys, hs with
  | [.int k' n], hs => obtain ⟨⟨rfl, hw⟩, _⟩ := hs; exact ⟨n, hy, hw⟩
theorem Sl.bool {S : St} {o v i len : Nat} (h : Sl S (some (o, v, i)) len [.bool]) {j : Int} (h0 : 0 ≤ j) (h1 : j < len) :
    ∃ b, S.rd o v (i + j.toNat * 1) 1 = some [.bool b] := by
  obtain ⟨ys, hy, hs⟩ := h.el o v i rfl j.toNat (by omega)
  match ys, hs with
  | [.bool b], hs => exact ⟨b, hy⟩
/-! ### Slices that grow -/
structure Vec (S : St) (p : Option (Nat × Nat × Nat)) (len esz e : Nat) (c : List AV) : Prop where
  ez : p = none ∨ e = esz
  sz : c.length = len * esz
  at_ : p = none ∧ len = 0 ∨ ∃ o ver minv, p = some (o, ver, 0) ∧ o < S.next ∧ S.get o = some (.cells c ver minv true) ∧ minv ≤ ver
theorem Vec.nil (S : St) (esz e : Nat) : Vec S none 0 esz e [] := ⟨.inl rfl, by simp, .inl ⟨rfl, rfl⟩⟩
theorem Vec.ext {S S' : St} {p : Option (Nat × Nat × Nat)} {len esz z : Nat} {c : List AV} (h : Vec S p len esz z c) (e : Ext S S') : Vec S' p len esz z c :=
  ⟨h.ez, h.sz, h.at_.imp_right fun ⟨o, ver, minv, h1, h2, h3, h4⟩ => ⟨o, ver, minv, h1, Nat.lt_of_lt_of_le h2 e.next, e.get h2 h3, h4⟩⟩
/-- All but what the slice is laid in stays. -/
structure Grow (S S' : St) (p : Option (Nat × Nat × Nat)) : Prop where
  next : S.next ≤ S'.next
  old : ∀ o, o < S.next → (∀ v i, p ≠ some (o, v, i)) → S'.get o = S.get o
theorem Vec.append {S : St} {p : Option (Nat × Nat × Nat)} {len esz e bytes : Nat} {c xs : List AV} {n : Nat} (h : Vec S p len esz e c) (hx : xs.length = n * esz) (hn : n ≠ 0) (hb : ((len + n) + (len + n) / 4 + 256) * bytes ≤ 281474976710656) :
    ∃ p' S', aAppend esz bytes S (.slice p len e none) n xs = some (.slice p' (len + n) esz none, S') ∧ Vec S' p' (len + n) esz esz (c ++ xs) ∧ Grow S S' p ∧ (∀ o v i, p' = some (o, v, i) → (S.next ≤ o ∨ ∃ v' i', p = some (o, v', i'))) := by
  have hl : (c ++ xs).length = (len + n) * esz := by rw [List.length_append, h.sz, hx, Nat.add_mul]
  have hez := h.ez
  rcases h.at_ with ⟨rfl, rfl⟩ | ⟨o, ver, minv, rfl, ho, hg, hv⟩
  · have hc : c = [] := List.length_eq_zero_iff.1 (by rw [h.sz]; simp)
    subst hc
    rw [Nat.zero_add] at hb
    refine ⟨some (S.next, 0, 0), S.alloc (.cells xs 0 0 true), ?_, ⟨.inr rfl, hl, .inr ⟨S.next, 0, 0, rfl, Nat.lt_succ_self _, by rw [St.get_alloc, if_pos rfl]; rfl, Nat.le_refl _⟩⟩, ⟨Nat.le_succ _, fun o ho _ => by rw [St.get_alloc, if_neg (Nat.ne_of_lt ho)]⟩, ?_⟩
    · simp only [aAppend, if_neg hn, if_pos hb, newSl, Nat.zero_add]
    · intro o v i e; cases e; exact .inl (Nat.le_refl _)
  · have hez' : e = esz := hez.resolve_left (by simp)
    rw [hez']
    refine ⟨some (o, ver + 1, 0), S.put o (.cells (c.take (0 + len * esz) ++ xs) (ver + 1) (if 0 + len * esz = c.length then minv else ver + 1) true), ?_, ⟨.inr rfl, hl, .inr ⟨o, ver + 1, minv, rfl, ho, ?_, Nat.le_succ_of_le hv⟩⟩, ⟨Nat.le_refl _, fun o' _ hne => by
      rw [St.get_put, if_neg (fun e => hne ver 0 (by rw [e]))]⟩, ?_⟩
    · have : True ∧ 0 + len * esz ≤ c.length ∧ minv ≤ ver := ⟨trivial, by rw [h.sz]; omega, hv⟩
      simp only [aAppend, ne_eq, not_true_eq_false, if_false, if_neg hn, if_neg (not_not_intro hb), hg]
      rw [if_pos this]
    · rw [St.get_put, if_pos rfl, if_pos (by rw [h.sz]; omega), Nat.zero_add, ← h.sz, List.take_length]
    · intro o' v i e; cases e; exact .inr ⟨ver, 0, rfl⟩
/-- What has grown is read. -/
theorem Vec.sl {S : St} {p : Option (Nat × Nat × Nat)} {len e : Nat} {ks : List Sc} {c : List AV} (h : Vec S p len ks.length e c) (hm : len ≤ 9223372036854775807) (hs : ∀ i, i < len → Scs ks ((c.drop (i * ks.length)).take ks.length)) : Sl S p len ks := by
  rcases h.at_ with ⟨rfl, rfl⟩ | ⟨o, ver, minv, rfl, ho, hg, hv⟩
  · exact ⟨fun h => absurd rfl h, hm, fun _ _ _ h => by cases h⟩
  · refine ⟨fun _ => ⟨_, _, _, rfl, ho⟩, hm, fun _ _ _ e j hj => ?_⟩
    cases e
    have hle : (j + 1) * ks.length ≤ len * ks.length := Nat.mul_le_mul_right _ (by omega)
    rw [Nat.succ_mul] at hle
    exact ⟨_, rd_cells hg hv (by rw [h.sz]; omega), by rw [Nat.zero_add]; exact hs j hj⟩
theorem Scs_snoc {ks : List Sc} {c xs : List AV} {len : Nat} (hl : c.length = len * ks.length) (hs : ∀ i, i < len → Scs ks ((c.drop (i * ks.length)).take ks.length)) (hx : Scs ks xs) :
    ∀ i, i < len + 1 → Scs ks (((c ++ xs).drop (i * ks.length)).take ks.length) := by
  intro i hi
  by_cases hlt : i < len
  · have hle : (i + 1) * ks.length ≤ len * ks.length := Nat.mul_le_mul_right _ (by omega)
    rw [Nat.succ_mul] at hle
    rw [List.drop_append_of_le_length (by omega), List.take_append_of_le_length (by rw [List.length_drop]; omega)]
    exact hs i hlt
  · obtain rfl : i = len := by omega
    rw [← hl, List.drop_left, ← hx.length, List.take_length]
    exact hx
/-- A whole call, from a state whose objects stand for what the arguments hold; what it leaves is not told. -/
theorem call_true_ex {P : Program} (hm : P.follows .mixedOrders = true) {X : Nat → List AV → Option AV} {AP : Nat → Option AFunc} (hX : XOk P X) (hAP : APOk P AP) {k f : Nat} {args : List AV} {S : St}
    (he : ∃ S', evF X AP k f args S = some (.bool true, S')) {W : World} {ρ : Rho} (hS : Sim W.heap.size W ρ S W) {cs : List Value} (hcs : VRs ρ args cs) :
    Calls P f cs.toArray W fun e W' => e = .returned (.bool true) ∧ Below W.heap.size W W' :=
  let ⟨_, he⟩ := he
  call_true_in hm hX hAP he hS hcs
end Go.Proofs.YtajakdllbpnnpaaGreatA
