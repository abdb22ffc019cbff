/- Rows of rows of bytes; what stays where only some objects are turned. -/
import Derived.Test.YtkjmhhoioanolaaOcA
set_option linter.unusedVariables false
set_option linter.unusedSimpArgs false
set_option maxRecDepth 10000
namespace Go.Proofs.YtkjmhhoioanolaaA
open Go.RowKit

/-- All but what G tells stays. -/
structure Fr (S S' : St) (G : Nat → Prop) : Prop where
  next : S.next ≤ S'.next
  old : ∀ j, j < S.next → ¬ G j → S'.get j = S.get j
/-- What was owned, and what is new. -/
def Own (S S' : St) (F : Nat → Prop) (j : Nat) : Prop := F j ∨ S.next ≤ j ∧ j < S'.next
theorem Fr.refl (S : St) (G : Nat → Prop) : Fr S S G := ⟨Nat.le_refl _, fun _ _ _ => rfl⟩
theorem Fr.trans {S S' S'' : St} {G : Nat → Prop} (h : Fr S S' G) (h' : Fr S' S'' (Own S S' G)) : Fr S S'' G :=
  ⟨Nat.le_trans h.next h'.next, fun j hj hn => (h'.old j (Nat.lt_of_lt_of_le hj h.next) (fun ho => ho.elim hn fun hh => by omega)).trans (h.old j hj hn)⟩
theorem Fr.mono {S S' : St} {G G' : Nat → Prop} (h : Fr S S' G) (hG : ∀ j, j < S.next → G j → G' j) : Fr S S' G' := ⟨h.next, fun j hj hn => h.old j hj fun hg => hn (hG j hj hg)⟩
theorem Fr.then {S S' S'' : St} {G : Nat → Prop} (h : Fr S S' G) (h' : Fr S' S'' G) : Fr S S'' G := h.trans (h'.mono fun _ _ hg => .inl hg)
theorem Fr.of_ext {S S' : St} (h : Ext S S') (G : Nat → Prop) : Fr S S' G := ⟨h.next, fun j hj _ => h.old j hj⟩
theorem Fr.of_upd {S S' : St} {o : Nat} {x : AO} {G : Nat → Prop} (h : Upd S S' o x) (ho : G o) : Fr S S' G :=
  ⟨by rw [h.next]; exact Nat.le_refl _, fun j _ hn => h.else fun e => hn (e ▸ ho)⟩
theorem Fr.get {S S' : St} {G : Nat → Prop} (h : Fr S S' G) {o : Nat} {x : AO} (ho : o < S.next) (hn : ¬ G o) (hg : S.get o = some x) : S'.get o = some x := (h.old o ho hn).trans hg
theorem Fr.rd {S S' : St} {G : Nat → Prop} (h : Fr S S' G) {o : Nat} (ho : o < S.next) (hn : ¬ G o) (v i n : Nat) : S'.rd o v i n = S.rd o v i n := by
  unfold St.rd
  rw [h.old o ho hn]
theorem Fr.ext {S0 S S' : St} {G : Nat → Prop} (h : Fr S S' G) (e : Ext S0 S) (hG : ∀ j, G j → S0.next ≤ j) : Ext S0 S' :=
  ⟨Nat.le_trans e.next h.next, fun j hj => (h.old j (Nat.lt_of_lt_of_le hj e.next) fun hg => by have := hG j hg; omega).trans (e.old j hj)⟩
theorem By.fr {S S' : St} {G : Nat → Prop} {p : Option (Nat × Nat × Nat)} {e : Nat} {l : List Nat} (h : By S p e l) (x : Fr S S' G) (hn : ∀ o v i, p = some (o, v, i) → ¬ G o) : By S' p e l :=
  ⟨h.ez, h.nil, fun o v i hp => by obtain ⟨h1, h2⟩ := h.at_ o v i hp; exact ⟨Nat.lt_of_lt_of_le h1 x.next, by rw [x.rd h1 (hn o v i hp)]; exact h2⟩, h.bd, h.mx⟩
/-- A row, in objects of F. -/
def Row (S : St) (F : Nat → Prop) (x : AV) (l : List Nat) : Prop := ∃ p e c, x = .slice p l.length e c ∧ By S p e l ∧ ∀ o v i, p = some (o, v, i) → F o
theorem Row.fr {S S' : St} {F G : Nat → Prop} {x : AV} {l : List Nat} (h : Row S F x l) (f : Fr S S' G) (hd : ∀ j, j < S.next → F j → ¬ G j) : Row S' F x l :=
  let ⟨p, e, c, h1, h2, h3⟩ := h
  ⟨p, e, c, h1, h2.fr f fun o v i hp => hd o (h2.at_ o v i hp).1 (h3 o v i hp), h3⟩
theorem Row.mono {S : St} {F F' : Nat → Prop} {x : AV} {l : List Nat} (h : Row S F x l) (hd : ∀ j, j < S.next → F j → F' j) : Row S F' x l :=
  let ⟨p, e, c, h1, h2, h3⟩ := h
  ⟨p, e, c, h1, h2, fun o v i hp => hd o (h2.at_ o v i hp).1 (h3 o v i hp)⟩
theorem Row.bs {S : St} {F : Nat → Prop} {x : AV} {l : List Nat} (h : Row S F x l) : Bs S x l := let ⟨p, e, c, h1, h2, _⟩ := h; ⟨p, e, c, h1, h2⟩
/-- Rows. -/
def Rws (S : St) (F : Nat → Prop) : List AV → List (List Nat) → Prop
  | [], [] => True
  | x :: xs, l :: ls => Row S F x l ∧ Rws S F xs ls
  | _, _ => False
theorem Rws.length {S : St} {F : Nat → Prop} : ∀ {xs : List AV} {ls : List (List Nat)}, Rws S F xs ls → xs.length = ls.length
  | [], [], _ => rfl
  | _ :: xs, _ :: ls, h => by rw [List.length_cons, List.length_cons, Rws.length h.2]
theorem Rws.fr {S S' : St} {F G : Nat → Prop} (f : Fr S S' G) (hd : ∀ j, j < S.next → F j → ¬ G j) : ∀ {xs : List AV} {ls : List (List Nat)}, Rws S F xs ls → Rws S' F xs ls
  | [], [], _ => trivial
  | _ :: _, _ :: _, h => ⟨h.1.fr f hd, Rws.fr f hd h.2⟩
theorem Rws.mono {S : St} {F F' : Nat → Prop} (hd : ∀ j, j < S.next → F j → F' j) : ∀ {xs : List AV} {ls : List (List Nat)}, Rws S F xs ls → Rws S F' xs ls
  | [], [], _ => trivial
  | _ :: _, _ :: _, h => ⟨h.1.mono hd, Rws.mono hd h.2⟩
theorem Rws.snoc {S : St} {F : Nat → Prop} {x : AV} {l : List Nat} (hx : Row S F x l) : ∀ {xs : List AV} {ls : List (List Nat)}, Rws S F xs ls → Rws S F (xs ++ [x]) (ls ++ [l])
  | [], [], _ => ⟨hx, trivial⟩
  | _ :: _, _ :: _, h => ⟨h.1, Rws.snoc hx h.2⟩
theorem Rws.at_ {S : St} {F : Nat → Prop} : ∀ {xs : List AV} {ls : List (List Nat)} (j : Nat) (hj : j < ls.length), Rws S F xs ls → ∃ x, xs.drop j = x :: xs.drop (j + 1) ∧ Row S F x ls[j]
  | [], [], j, hj, _ => absurd hj (Nat.not_lt_zero _)
  | [], _ :: _, _, _, h => h.elim
  | _ :: _, [], _, hj, _ => absurd hj (Nat.not_lt_zero _)
  | x :: xs, l :: ls, 0, _, h => ⟨x, rfl, h.1⟩
  | x :: xs, l :: ls, j + 1, hj, h => by
    obtain ⟨y, h1, h2⟩ := Rws.at_ (xs := xs) (ls := ls) j (by simpa using hj) h.2
    exact ⟨y, h1, h2⟩
/-- A list of rows that grows: it lies in an object of L, its rows in others, of R. -/
def Rg (S : St) (L R : Nat → Prop) (p : Option (Nat × Nat × Nat)) (e : Nat) (rows : List (List Nat)) : Prop :=
  p = none ∧ rows = [] ∨ ∃ o ver minv i c, p = some (o, ver, i) ∧ e = 1 ∧ L o ∧ o < S.next ∧ S.get o = some (.cells c ver minv true) ∧ minv ≤ ver ∧ i ≤ c.length ∧ Rws S (fun j => R j ∧ ¬ j = o) (c.drop i) rows
/-- A list of rows that is read. -/
def Rl (S : St) (F : Nat → Prop) (p : Option (Nat × Nat × Nat)) (e : Nat) (rows : List (List Nat)) : Prop :=
  p = none ∧ rows = [] ∨ ∃ o v i xs, p = some (o, v, i) ∧ e = 1 ∧ F o ∧ o < S.next ∧ S.rd o v i rows.length = some xs ∧ Rws S F xs rows
theorem Rg.nil (S : St) (L R : Nat → Prop) (e : Nat) : Rg S L R none e [] := .inl ⟨rfl, rfl⟩
theorem Rg.fr {S S' : St} {L R G : Nat → Prop} {p : Option (Nat × Nat × Nat)} {e : Nat} {rows : List (List Nat)} (h : Rg S L R p e rows) (f : Fr S S' G) (hL : ∀ j, j < S.next → L j → ¬ G j) (hR : ∀ j, j < S.next → R j → ¬ G j) : Rg S' L R p e rows :=
  h.imp_right fun ⟨o, ver, minv, i, c, h1, h2, h3, h4, h5, h6, h7, h8⟩ => ⟨o, ver, minv, i, c, h1, h2, h3, Nat.lt_of_lt_of_le h4 f.next, f.get h4 (hL o h4 h3) h5, h6, h7, h8.fr f fun j hj hr => hR j hj hr.1⟩
theorem Rg.mono {S : St} {L L' R R' : Nat → Prop} {p : Option (Nat × Nat × Nat)} {e : Nat} {rows : List (List Nat)} (h : Rg S L R p e rows) (hL : ∀ j, j < S.next → L j → L' j) (hR : ∀ j, j < S.next → R j → R' j) : Rg S L' R' p e rows :=
  h.imp_right fun ⟨o, ver, minv, i, c, h1, h2, h3, h4, h5, h6, h7, h8⟩ => ⟨o, ver, minv, i, c, h1, h2, hL o h4 h3, h4, h5, h6, h7, h8.mono fun j hj hr => ⟨hR j hj hr.1, hr.2⟩⟩
theorem Rl.fr {S S' : St} {F G : Nat → Prop} {p : Option (Nat × Nat × Nat)} {e : Nat} {rows : List (List Nat)} (h : Rl S F p e rows) (f : Fr S S' G) (hd : ∀ j, j < S.next → F j → ¬ G j) : Rl S' F p e rows :=
  h.imp_right fun ⟨o, v, i, xs, h1, h2, h3, h4, h5, h6⟩ => ⟨o, v, i, xs, h1, h2, h3, Nat.lt_of_lt_of_le h4 f.next, by rw [f.rd h4 (hd o h4 h3)]; exact h5, h6.fr f hd⟩
theorem Rl.mono {S : St} {F F' : Nat → Prop} {p : Option (Nat × Nat × Nat)} {e : Nat} {rows : List (List Nat)} (h : Rl S F p e rows) (hd : ∀ j, j < S.next → F j → F' j) : Rl S F' p e rows :=
  h.imp_right fun ⟨o, v, i, xs, h1, h2, h3, h4, h5, h6⟩ => ⟨o, v, i, xs, h1, h2, hd o h4 h3, h4, h5, h6.mono hd⟩
theorem Rg.rl {S : St} {L R F : Nat → Prop} {p : Option (Nat × Nat × Nat)} {e : Nat} {rows : List (List Nat)} (h : Rg S L R p e rows) (hL : ∀ j, j < S.next → L j → F j) (hR : ∀ j, j < S.next → R j → F j) : Rl S F p e rows :=
  h.imp_right fun ⟨o, ver, minv, i, c, h1, h2, h3, h4, h5, h6, h7, h8⟩ => by
    have hl := h8.length
    rw [List.length_drop] at hl
    refine ⟨o, ver, i, c.drop i, h1, h2, hL o h4 h3, h4, ?_, h8.mono fun j hj hr => hR j hj hr.1⟩
    rw [rd_cells h5 h6 (by omega), List.take_of_length_le (by rw [List.length_drop]; omega)]
/-- The first row; what is behind it. -/
theorem Rg.head {S : St} {L R : Nat → Prop} {p : Option (Nat × Nat × Nat)} {e : Nat} {l : List Nat} {ls : List (List Nat)} (h : Rg S L R p e (l :: ls)) :
    ∃ o ver i x, p = some (o, ver, i) ∧ e = 1 ∧ L o ∧ o < S.next ∧ S.rd o ver i 1 = some [x] ∧ Row S (fun j => R j ∧ ¬ j = o) x l ∧ Rg S L R (some (o, ver, i + 1)) 1 ls := by
  rcases h with ⟨_, h⟩ | ⟨o, ver, minv, i, c, h1, h2, h3, h4, h5, h6, h7, h8⟩
  · cases h
  · have hl := h8.length
    rw [List.length_drop, List.length_cons] at hl
    cases hc : c.drop i with
    | nil => rw [hc] at h8; exact h8.elim
    | cons x xs =>
      rw [hc] at h8
      refine ⟨o, ver, i, x, h1, h2, h3, h4, ?_, h8.1, .inr ⟨o, ver, minv, i + 1, c, rfl, rfl, h3, h4, h5, h6, by omega, ?_⟩⟩
      · rw [rd_cells h5 h6 (by omega), hc]; rfl
      · rw [show c.drop (i + 1) = xs by rw [← List.drop_drop, hc]; rfl]; exact h8.2
/-- A row more. -/
theorem Rg.app {S : St} {L R R' : Nat → Prop} {p : Option (Nat × Nat × Nat)} {e : Nat} {rows : List (List Nat)} {x : AV} {l : List Nat} (h : Rg S L R p e rows) (hx : Row S R' x l) (hR : ∀ j, j < S.next → R' j → R j ∧ ¬ L j) (hr : rows.length ≤ 1000000000) :
    ∃ p' S', aAppend 1 24 S (.slice p rows.length e none) 1 [x] = some (.slice p' (rows.length + 1) 1 none, S') ∧ Rg S' (fun j => L j ∨ j = S.next) R p' 1 (rows ++ [l]) ∧ Fr S S' L ∧ S'.next ≤ S.next + 1 := by
  have hb : ((rows.length + 1) + (rows.length + 1) / 4 + 256) * 24 ≤ 281474976710656 := by omega
  rcases h with ⟨rfl, rfl⟩ | ⟨o, ver, minv, i, c, rfl, rfl, h3, h4, h5, h6, h7, h8⟩
  · refine ⟨some (S.next, 0, 0), S.alloc (.cells [x] 0 0 true), rfl, .inr ⟨S.next, 0, 0, 0, [x], rfl, rfl, .inr rfl, Nat.lt_succ_self _, by rw [St.get_alloc, if_pos rfl], Nat.le_refl _, Nat.zero_le _, ?_, trivial⟩, .of_ext (.alloc _ _) _, Nat.le_refl _⟩
    exact (hx.mono (F' := fun j => R j ∧ ¬ j = S.next) fun j hj hr => ⟨(hR j hj hr).1, by omega⟩).fr (.of_ext (.alloc _ _) fun _ => False) fun _ _ _ h => h
  · have hl := h8.length
    rw [List.length_drop] at hl
    have hu := Upd.one S o (.cells (c.take (i + rows.length) ++ [x]) (ver + 1) (if i + rows.length = c.length then minv else ver + 1) true)
    have hct : c.take (i + rows.length) = c := List.take_of_length_le (by omega)
    refine ⟨some (o, ver + 1, i), S.put o (.cells (c.take (i + rows.length) ++ [x]) (ver + 1) (if i + rows.length = c.length then minv else ver + 1) true), ?_, .inr ⟨o, ver + 1, minv, i, c ++ [x], rfl, rfl, .inl h3, h4, ?_, by omega, by rw [List.length_append]; omega, ?_⟩, .of_upd hu h3, Nat.le_succ _⟩
    · have hc : True ∧ i + rows.length * 1 ≤ c.length ∧ minv ≤ ver := ⟨trivial, by omega, h6⟩
      simp only [aAppend, ne_eq, not_true_eq_false, if_false, Nat.one_ne_zero, if_neg (not_not_intro hb), h5]
      rw [if_pos hc, Nat.mul_one]
    · rw [hu.same, hct, if_pos (by omega)]
    · rw [List.drop_append_of_le_length h7]
      have f : Fr S (S.put o (.cells (c.take (i + rows.length) ++ [x]) (ver + 1) (if i + rows.length = c.length then minv else ver + 1) true)) (fun j => j = o) := .of_upd hu rfl
      refine Rws.snoc ?_ (h8.fr f fun j _ hj => hj.2)
      exact (hx.mono (F' := fun j => R j ∧ ¬ j = o) fun j hj hr => ⟨(hR j hj hr).1, fun e => (hR j hj hr).2 (e ▸ h3)⟩).fr f fun j _ hj => hj.2
end Go.Proofs.YtkjmhhoioanolaaA
