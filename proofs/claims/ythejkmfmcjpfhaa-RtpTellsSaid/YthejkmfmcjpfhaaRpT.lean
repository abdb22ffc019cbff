/- Chapter 3: what is written is read, padded or not. -/
import Derived.Test.YthejkmfmcjpfhaaRqE
set_option linter.unusedVariables false
set_option linter.unusedSimpArgs false
set_option maxRecDepth 10000
namespace Go.Proofs.YthejkmfmcjpfhaaA
open Go.RowKit

theorem byte_split (j : Nat) (x : Int) : x % 2 ^ (8 * (j + 1)) = 2 ^ (8 * j) * (x / 2 ^ (8 * j) % 256) + x % 2 ^ (8 * j) := by
  have hp : (0 : Int) < 2 ^ (8 * j) := Int.pow_pos (by decide)
  have e : (2 : Int) ^ (8 * (j + 1)) = 2 ^ (8 * j) * 256 := by rw [show 8 * (j + 1) = 8 * j + 8 by omega, Int.pow_add]; rfl
  rw [e]
  have h1 := Int.mul_ediv_add_emod x (2 ^ (8 * j))
  have h2 := Int.mul_ediv_add_emod (x / 2 ^ (8 * j)) 256
  have h3 := Int.emod_nonneg x (Int.ne_of_gt hp)
  have h4 := Int.emod_lt_of_pos x hp
  have h5 := Int.emod_nonneg (x / 2 ^ (8 * j)) (show (256 : Int) ≠ 0 by decide)
  have h6 := Int.emod_lt_of_pos (x / 2 ^ (8 * j)) (show (0 : Int) < 256 by decide)
  have h7 : x = (2 ^ (8 * j) * 256) * (x / 2 ^ (8 * j) / 256) + (2 ^ (8 * j) * (x / 2 ^ (8 * j) % 256) + x % 2 ^ (8 * j)) := by
    conv => lhs; rw [← h1, ← h2]
    rw [Int.mul_add, Int.mul_assoc]; omega
  have h8 : 2 ^ (8 * j) * (x / 2 ^ (8 * j) % 256) ≤ 2 ^ (8 * j) * 255 := Int.mul_le_mul_of_nonneg_left (by omega) (by omega)
  have h9 : 0 ≤ 2 ^ (8 * j) * (x / 2 ^ (8 * j) % 256) := Int.mul_nonneg (by omega) h5
  conv => lhs; rw [h7]
  rw [Int.add_comm, Int.add_mul_emod_self_left, Int.emod_eq_of_lt (by omega) (by omega)]
theorem hv_be (n : Int) : ∀ (j m : Nat), ((hvF m (be n j) : Nat) : Int) = (m : Int) * 2 ^ (8 * j) + n % 2 ^ (8 * j)
  | 0, m => by simp [be, hvF]
  | j + 1, m => by
    have h5 := Int.emod_nonneg (n / 2 ^ (8 * j)) (show (256 : Int) ≠ 0 by decide)
    have e : (2 : Int) ^ (8 * (j + 1)) = 2 ^ (8 * j) * 256 := by rw [show 8 * (j + 1) = 8 * j + 8 by omega, Int.pow_add]; rfl
    rw [be, hvF_cons, hv_be n j, byte_split, e]
    have : (((m * 256 + (n / 2 ^ (8 * j) % 256).toNat : Nat) : Nat) : Int) = (m : Int) * 256 + n / 2 ^ (8 * j) % 256 := by omega
    rw [this, Int.add_mul, Int.mul_assoc, Int.mul_comm (2 ^ (8 * j)) 256, Int.mul_comm (n / 2 ^ (8 * j) % 256)]
    omega
theorem cutL_at {pre mid post : List Nat} {a n : Nat} (ha : a = pre.length) (hn : n = mid.length) : cutL (pre ++ mid ++ post) (a : Int) (n : Int) = mid ∧ cutOk (pre ++ mid ++ post) (a : Int) (n : Int) := by
  have hk : cutOk (pre ++ mid ++ post) (a : Int) (n : Int) := by
    unfold cutOk; simp only [List.length_append]; omega
  refine ⟨?_, hk⟩
  rw [cutL, if_pos hk, show (a : Int).toNat = a from rfl, show (n : Int).toNat = n from rfl, ha, hn, List.append_assoc, List.drop_left, List.take_left]
theorem getL_at {pre post : List Nat} {m : Int} {a j : Nat} (ha : a = pre.length) (h1 : 1 ≤ j) (h8 : j ≤ 8) (h0 : 0 ≤ m) (hm : m < 2 ^ (8 * j)) : ((getL (pre ++ be m j ++ post) (a : Int) (j : Int) : Nat) : Int) = m := by
  obtain ⟨h, hk⟩ := cutL_at (pre := pre) (mid := be m j) (post := post) ha (be_len m j).symm
  have hg : cutOk (pre ++ be m j ++ post) (a : Int) (j : Int) ∧ (1 : Int) ≤ (j : Int) ∧ (j : Int) ≤ 8 := ⟨hk, by omega, by omega⟩
  rw [getL, if_pos hg, h, hv, hv_be]
  rw [Int.emod_eq_of_lt h0 hm]; simp
theorem words_at : ∀ (cs : List Int) (pre post : List Nat), Wrd cs → ((List.range cs.length).map fun i => ((getL (pre ++ wordsP cs ++ post) ((pre.length + 4 * i : Nat) : Int) 4 : Nat) : Int)) = cs
  | [], _, _, _ => rfl
  | c :: cs, pre, post, h => by
    have hc := h c List.mem_cons_self
    rw [List.length_cons, List.range_succ_eq_map, List.map_cons, List.map_map]
    congr 1
    · have := getL_at (pre := pre) (post := wordsP cs ++ post) (m := c) (a := pre.length) (j := 4) rfl (by decide) (by decide) hc.1 (by have := hc.2; show c < 2 ^ 32; omega)
      rw [wordsP, ← List.append_assoc, List.append_assoc (pre ++ be c 4)]
      exact this
    · have ih := words_at cs (pre ++ be c 4) post fun y hy => h y (List.mem_cons_of_mem _ hy)
      rw [List.length_append, be_len] at ih
      conv => rhs; rw [← ih]
      refine List.map_congr_left fun i _ => ?_
      show ((getL (pre ++ (be c 4 ++ wordsP cs) ++ post) ((pre.length + 4 * (i + 1) : Nat) : Int) 4 : Nat) : Int) = _
      rw [← List.append_assoc pre, show pre.length + 4 * (i + 1) = pre.length + 4 + 4 * i by omega]
/-- A packet's bytes, with its first byte's padding bit and what lies behind. -/
def bytesQ (P : Pk) (pd : Bool) (d : List Nat) : List Nat := ([firstP P + (if pd = true then 32 else 0), secondP P] ++ be P.sq 2 ++ be P.tm 4 ++ be P.ss 4) ++ wordsP P.cs ++ extP P ++ P.pl ++ d
theorem bytesQ_nil (P : Pk) : bytesQ P false [] = bytesP P := by unfold bytesQ bytesP headP; simp
structure Rn (P : Pk) : Prop where
  sq : 0 ≤ P.sq ∧ P.sq < 65536
  tm : 0 ≤ P.tm ∧ P.tm < 4294967296
  ss : 0 ≤ P.ss ∧ P.ss < 4294967296
  pf : 0 ≤ P.pf ∧ P.pf < 65536
  cs : Wrd P.cs
theorem Pv.rn {S : St} {P : Pk} {c e l : AV} (h : Pv S P c e l) : Rn P := ⟨h.sq, h.tm, h.ss, h.pf, by obtain ⟨_, _, _, _, u⟩ := h.c; exact u.bd⟩
theorem readQ {P : Pk} (ok : Ok0 P) (rn : Rn P) (pd : Bool) (d : List Nat) (hd : (pd = false ∧ d = []) ∨ (pd = true ∧ 1 ≤ d.length ∧ d.length ≤ 255 ∧ d.getD (d.length - 1) 0 = d.length)) (hl : (bytesQ P pd d).length ≤ 1500) : readP (bytesQ P pd d) = (P, 0) := by
  have hcl := ok.cl; have e4 := ok.e4; have t0 := ok.t0; have t1 := ok.t1; have e0 := ok.e0
  obtain ⟨hd_, hhd⟩ : ∃ h, ([firstP P + (if pd = true then 32 else 0), secondP P] ++ be P.sq 2 ++ be P.tm 4 ++ be P.ss 4) = h := ⟨_, rfl⟩
  have hhl : hd_.length = 12 := by rw [← hhd]; simp only [List.length_append, List.length_cons, List.length_nil, be_len]
  have hL : (bytesQ P pd d).length = 12 + 4 * P.cs.length + (extP P).length + P.pl.length + d.length := by
    unfold bytesQ; rw [hhd]; simp only [List.length_append, hhl, wordsP_len]
  have hb0 : b0 (bytesQ P pd d) = firstP P + (if pd = true then 32 else 0) := rfl
  have hb1 : (bytesQ P pd d).getD 1 0 = secondP P := rfl
  have hf : b0 (bytesQ P pd d) = 128 + P.cs.length + (if P.pf = 0 then 0 else 16) + (if pd = true then 32 else 0) := hb0
  have hf64 : b0 (bytesQ P pd d) / 64 = 2 := by rw [hf]; split <;> split <;> omega
  have hf16 : b0 (bytesQ P pd d) % 16 = P.cs.length := by rw [hf]; split <;> split <;> omega
  have g1 : ((getL (bytesQ P pd d) 2 2 : Nat) : Int) = P.sq := by
    have := getL_at (pre := [firstP P + (if pd = true then 32 else 0), secondP P]) (post := be P.tm 4 ++ be P.ss 4 ++ wordsP P.cs ++ extP P ++ P.pl ++ d) (m := P.sq) (a := 2) (j := 2) rfl (by decide) (by decide) rn.sq.1 (by have := rn.sq.2; show P.sq < 2 ^ 16; omega)
    unfold bytesQ; simp only [List.append_assoc] at this ⊢; exact this
  have g2 : ((getL (bytesQ P pd d) 4 4 : Nat) : Int) = P.tm := by
    have := getL_at (pre := [firstP P + (if pd = true then 32 else 0), secondP P] ++ be P.sq 2) (post := be P.ss 4 ++ wordsP P.cs ++ extP P ++ P.pl ++ d) (m := P.tm) (a := 4) (j := 4) (by simp only [List.length_append, List.length_cons, List.length_nil, be_len]) (by decide) (by decide) rn.tm.1 (by have := rn.tm.2; show P.tm < 2 ^ 32; omega)
    unfold bytesQ; simp only [List.append_assoc] at this ⊢; exact this
  have g3 : ((getL (bytesQ P pd d) 8 4 : Nat) : Int) = P.ss := by
    have := getL_at (pre := [firstP P + (if pd = true then 32 else 0), secondP P] ++ be P.sq 2 ++ be P.tm 4) (post := wordsP P.cs ++ extP P ++ P.pl ++ d) (m := P.ss) (a := 8) (j := 4) (by simp only [List.length_append, List.length_cons, List.length_nil, be_len]) (by decide) (by decide) rn.ss.1 (by have := rn.ss.2; show P.ss < 2 ^ 32; omega)
    unfold bytesQ; simp only [List.append_assoc] at this ⊢; exact this
  have hcs : csP (bytesQ P pd d) P.cs.length = P.cs := by
    have := words_at P.cs hd_ (extP P ++ P.pl ++ d) rn.cs
    rw [hhl] at this
    unfold csP
    conv => rhs; rw [← this]
    unfold bytesQ; rw [hhd]; simp only [List.append_assoc]
  have hmk : decide (128 ≤ secondP P) = P.mrk := by
    unfold secondP; cases P.mrk
    · simp; omega
    · simp
  have hty : ((secondP P % 128 : Nat) : Int) = P.ty := by unfold secondP; split <;> omega
  have hp0 : p0P (bytesQ P pd d) = { P with pf := 0, ex := [], pl := [] } := by
    unfold p0P
    rw [hb1, hf16, hcs, g1, g2, g3, hmk, hty]
  unfold readP
  rw [if_neg (by omega), if_neg (by omega), if_neg (fun h => h hf64), if_neg (by rw [hf16]; omega), hp0, hf16]
  -- behind the extension
  have finB_ok : ∀ n : Nat, n + P.pl.length + d.length = (bytesQ P pd d).length → (bytesQ P pd d).drop n = P.pl ++ d → (b0 (bytesQ P pd d) / 16 % 2 = 1 → ¬ P.pf = 0) → finB (bytesQ P pd d) { P with pl := [] } n = (P, 0) := by
    intro n hn hdr hpf
    have fin_ : ∀ m : Nat, m = n + P.pl.length → finC (bytesQ P pd d) { P with pl := [] } n m = (P, 0) := by
      intro m hm
      unfold finC
      rw [if_neg (fun h => hpf h.1 h.2), hdr, hm, show n + P.pl.length - n = P.pl.length by omega, List.take_left]
    unfold finB
    rcases hd with ⟨rfl, rfl⟩ | ⟨rfl, h1, h2, h3⟩
    · have : ¬ b0 (bytesQ P false []) / 32 % 2 = 1 := by rw [hf]; simp only [Bool.false_eq_true, if_false]; split <;> omega
      rw [if_neg this]
      exact fin_ _ (by simp only [List.length_nil] at hn; omega)
    · have : b0 (bytesQ P true d) / 32 % 2 = 1 := by rw [hf]; simp only [if_true]; split <;> omega
      have hlast : (bytesQ P true d).getD ((bytesQ P true d).length - 1) 0 = d.length := by
        have e : (bytesQ P true d).getD ((bytesQ P true d).length - 1) 0 = d.getD (d.length - 1) 0 := by
          simp only [List.getD_eq_getElem?_getD]
          have h := hL
          conv => lhs; unfold bytesQ
          rw [List.getElem?_append_right (by simp only [List.length_append]; omega)]
          congr 2
          simp only [List.length_append]; omega
        rw [e, h3]
      rw [if_pos this, hlast, if_neg (by omega)]
      exact fin_ _ (by omega)
  unfold finA
  by_cases c : P.pf = 0
  · have hx : P.ex = [] := List.length_eq_zero_iff.1 (e0 c)
    have hE : extP P = [] := by unfold extP; rw [if_pos c]
    have hb : ¬ b0 (bytesQ P pd d) / 16 % 2 = 1 := by rw [hf, if_pos c]; split <;> omega
    rw [if_neg hb]
    have hp : ({ P with pf := 0, ex := [], pl := [] } : Pk) = { P with pl := [] } := by rw [← c, ← hx]
    rw [hp]
    refine finB_ok _ (by rw [hL, hE, List.length_nil]; omega) ?_ (fun h => absurd h hb)
    have : bytesQ P pd d = (hd_ ++ wordsP P.cs) ++ (P.pl ++ d) := by unfold bytesQ; rw [hhd, hE]; simp only [List.append_assoc, List.nil_append]
    rw [this, List.drop_left' (by rw [List.length_append, hhl, wordsP_len])]
  · have hE : extP P = be P.pf 2 ++ be ((P.ex.length : Int) / 4) 2 ++ P.ex := by unfold extP; rw [if_neg c]
    have hEl : (extP P).length = 4 + P.ex.length := by rw [hE]; simp only [List.length_append, be_len]
    have hb : b0 (bytesQ P pd d) / 16 % 2 = 1 := by rw [hf, if_neg c]; split <;> omega
    rw [if_pos hb]
    obtain ⟨n, hn⟩ : ∃ n, 12 + 4 * P.cs.length = n := ⟨_, rfl⟩
    rw [hn] at hL ⊢
    have hnl : (hd_ ++ wordsP P.cs).length = n := by rw [List.length_append, hhl, wordsP_len, hn]
    have k1 : ((getL (bytesQ P pd d) (n : Int) 2 : Nat) : Int) = P.pf := by
      have := getL_at (pre := hd_ ++ wordsP P.cs) (post := be ((P.ex.length : Int) / 4) 2 ++ P.ex ++ P.pl ++ d) (m := P.pf) (a := n) (j := 2) hnl.symm (by decide) (by decide) rn.pf.1 (by have := rn.pf.2; show P.pf < 2 ^ 16; omega)
      unfold bytesQ; rw [hhd, hE]; simp only [List.append_assoc] at this ⊢; exact this
    have k2 : ((getL (bytesQ P pd d) ((n + 2 : Nat) : Int) 2 : Nat) : Int) = (P.ex.length : Int) / 4 := by
      have := getL_at (pre := hd_ ++ wordsP P.cs ++ be P.pf 2) (post := P.ex ++ P.pl ++ d) (m := (P.ex.length : Int) / 4) (a := n + 2) (j := 2) (by rw [List.length_append, hnl, be_len]) (by decide) (by decide) (by omega) (by show (P.ex.length : Int) / 4 < 2 ^ 16; omega)
      unfold bytesQ; rw [hhd, hE]; simp only [List.append_assoc] at this ⊢; exact this
    have k3 : 4 * getL (bytesQ P pd d) ((n + 2 : Nat) : Int) 2 = P.ex.length := by omega
    have k4 := cutL_at (pre := hd_ ++ wordsP P.cs ++ be P.pf 2 ++ be ((P.ex.length : Int) / 4) 2) (mid := P.ex) (post := P.pl ++ d) (a := n + 4) (n := P.ex.length) (by simp only [List.length_append, be_len] at hnl ⊢; omega) rfl
    have k5 : (hd_ ++ wordsP P.cs ++ be P.pf 2 ++ be ((P.ex.length : Int) / 4) 2) ++ P.ex ++ (P.pl ++ d) = bytesQ P pd d := by unfold bytesQ; rw [hhd, hE]; simp only [List.append_assoc]
    rw [k5] at k4
    rw [k3, if_pos k4.2, k4.1, k1]
    have hp : ({ ({ P with pf := 0, ex := [], pl := [] } : Pk) with pf := P.pf, ex := P.ex } : Pk) = { P with pl := [] } := rfl
    rw [hp]
    refine finB_ok _ (by rw [hL, hEl]; omega) ?_ (fun _ => c)
    rw [← k5, List.drop_left' (by simp only [List.length_append, be_len] at hnl ⊢; omega)]
theorem read_back {P : Pk} (ok : Ok0 P) (rn : Rn P) : readP (bytesP P) = (P, 0) := by
  rw [← bytesQ_nil]
  have h := bytesP_len ok
  have h2 := ok.sz
  exact readQ ok rn false [] (.inl ⟨rfl, rfl⟩) (by rw [bytesQ_nil]; omega)
/-- Packets that are not the same have not the same bytes. -/
theorem bytesP_inj {P Q : Pk} (ok : Ok0 P) (rn : Rn P) (ok' : Ok0 Q) (rn' : Rn Q) (h : bytesP P = bytesP Q) : P = Q := by
  have h1 := read_back ok rn
  have h2 := read_back ok' rn'
  rw [h, h2] at h1
  cases h1; rfl
/-- Cut off in its head it is none. -/
theorem read_cut {P : Pk} (ok : Ok0 P) {n : Nat} (hn : n ≤ 11) : (readP ((bytesP P).take n)).2 = 13 := by
  have h := bytesP_len ok
  have hl : ((bytesP P).take n).length ≤ n := by rw [List.length_take]; exact Nat.min_le_left _ _
  unfold readP
  rw [if_neg (by omega)]
  by_cases c : ((bytesP P).take n).length = 0
  · rw [if_pos c]
  · rw [if_neg c]
    obtain ⟨m, rfl⟩ : ∃ m, n = m + 1 := ⟨n - 1, by omega⟩
    have hb : b0 ((bytesP P).take (m + 1)) = firstP P := rfl
    have hcl := ok.cl
    have hf : firstP P / 64 = 2 := by unfold firstP; split <;> omega
    rw [hb, if_neg (fun h => h hf), if_pos (by omega)]
end Go.Proofs.YthejkmfmcjpfhaaA
