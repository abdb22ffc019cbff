/- Calls told ahead, for any classes: by cases. -/
import Derived.Test.YtidhpcjbllnjgaaGreatTcA
set_option linter.unusedVariables false
set_option maxRecDepth 1000000
namespace Go.Proofs.YtidhpcjbllnjgaaGreatA
open Go.RowKit
noncomputable def c162 : EntT := ⟨115, [(0, 0, 4096), (1, 0, 1125899906842624), (2, 1, 1073741824), (3, 0, 1125899906842624), (4, 1, 1073741824), (5, 0, 2), (6, 1, 3)], [((-1), [(5, (-1)), (6, 1)]), (0, [(0, 1), (3, (-1))]), (0, [(0, 1), (1, (-1))]), (0, [(0, 1), (1, (-1)), (3, (-1))])], [], [vS 0 1 0 2 3 none, vL 5070602400912917605986812821515, vS 1 1 0 2 1 (some 2)], [(0, x85), (1, x66), (2, x65), (3, x58), (4, x59), (5, x60)], 6, vS 60 1 0 2 1 (some 2), [(60, x66)], 79⟩
noncomputable def c162_0 : EntT := ⟨115, c162.bs, c162.fs, c162.ds, [vS 0 1 0 2 3 none, vL 5070602400912917605986812821515, vS 1 1 0 2 1 (some 2)], [(0, x67), (1, x66), (2, x65), (3, x58), (4, x59), (5, x60)], 6, vS 60 1 0 2 1 (some 2), [(60, x66)], 79⟩
noncomputable def lc162_0 : Lib := []
theorem lc162_0_ok : LibOk Tryz.prog lc162_0 := trivial
theorem tc162_0 : EntTOk Tryz.prog c162_0 := ent lc162_0_ok (by kernel_rfl)
noncomputable def c162_1 : EntT := ⟨115, c162.bs, c162.fs, c162.ds, [vS 0 1 0 2 3 none, vL 5070602400912917605986812821515, vS 1 1 0 2 1 (some 2)], [(0, x68), (1, x66), (2, x65), (3, x58), (4, x59), (5, x60)], 6, vS 60 1 0 2 1 (some 2), [(60, x66)], 79⟩
noncomputable def lc162_1 : Lib := []
theorem lc162_1_ok : LibOk Tryz.prog lc162_1 := trivial
theorem tc162_1 : EntTOk Tryz.prog c162_1 := ent lc162_1_ok (by kernel_rfl)
noncomputable def c162_2 : EntT := ⟨115, c162.bs, c162.fs, c162.ds, [vS 0 1 0 2 3 none, vL 5070602400912917605986812821515, vS 1 1 0 2 1 (some 2)], [(0, x69), (1, x66), (2, x65), (3, x58), (4, x59), (5, x60)], 6, vS 60 1 0 2 1 (some 2), [(60, x66)], 79⟩
noncomputable def lc162_2 : Lib := []
theorem lc162_2_ok : LibOk Tryz.prog lc162_2 := trivial
theorem tc162_2 : EntTOk Tryz.prog c162_2 := ent lc162_2_ok (by kernel_rfl)
noncomputable def c162_3 : EntT := ⟨115, c162.bs, c162.fs, c162.ds, [vS 0 1 0 2 3 none, vL 5070602400912917605986812821515, vS 1 1 0 2 1 (some 2)], [(0, x70), (1, x66), (2, x65), (3, x58), (4, x59), (5, x60)], 6, vS 60 1 0 2 1 (some 2), [(60, x66)], 79⟩
noncomputable def lc162_3 : Lib := []
theorem lc162_3_ok : LibOk Tryz.prog lc162_3 := trivial
theorem tc162_3 : EntTOk Tryz.prog c162_3 := ent lc162_3_ok (by kernel_rfl)
noncomputable def c162_4 : EntT := ⟨115, c162.bs, c162.fs, c162.ds, [vS 0 1 0 2 3 none, vL 5070602400912917605986812821515, vS 1 1 0 2 1 (some 2)], [(0, x71), (1, x66), (2, x65), (3, x58), (4, x59), (5, x60)], 6, vS 60 1 0 2 1 (some 2), [(60, x66)], 79⟩
noncomputable def lc162_4 : Lib := []
theorem lc162_4_ok : LibOk Tryz.prog lc162_4 := trivial
theorem tc162_4 : EntTOk Tryz.prog c162_4 := ent lc162_4_ok (by kernel_rfl)
noncomputable def c162_5 : EntT := ⟨115, c162.bs, c162.fs, c162.ds, [vS 0 1 0 2 3 none, vL 5070602400912917605986812821515, vS 1 1 0 2 1 (some 2)], [(0, x72), (1, x66), (2, x65), (3, x58), (4, x59), (5, x60)], 6, vS 60 1 0 2 1 (some 2), [(60, x66)], 79⟩
noncomputable def lc162_5 : Lib := []
theorem lc162_5_ok : LibOk Tryz.prog lc162_5 := trivial
theorem tc162_5 : EntTOk Tryz.prog c162_5 := ent lc162_5_ok (by kernel_rfl)
noncomputable def kc162 : List (List (Nat × Int) × EntT) := [([(5, 0), (6, 1)], c162_0), ([(5, 0), (6, 2)], c162_1), ([(5, 0), (6, 3)], c162_2), ([(5, 1), (6, 2)], c162_3), ([(5, 1), (6, 3)], c162_4), ([(5, 2), (6, 3)], c162_5)]
theorem ac162 (u : Asg) (h : c162.sp.has u) : ∃ p ∈ kc162, ∀ q ∈ p.1, u q.1 = q.2 := by
  have b5 : (0 : Int) ≤ u 5 ∧ u 5 ≤ 2 := by have := h.bd 5; rw [show c162.sp.lim 5 = (0, 2) by kernel_rfl] at this; exact this
  have b6 : (1 : Int) ≤ u 6 ∧ u 6 ≤ 3 := by have := h.bd 6; rw [show c162.sp.lim 6 = (1, 3) by kernel_rfl] at this; exact this
  have f0 : 0 ≤ (-1 : Int) + ((-1) * u 5 + (1 * u 6 + 0)) := h.fs (-1, [(5, -1), (6, 1)]) (List.mem_cons_self ..)
  have hd : (u 5 = 0 ∧ u 6 = 1) ∨ (u 5 = 0 ∧ u 6 = 2) ∨ (u 5 = 0 ∧ u 6 = 3) ∨ (u 5 = 1 ∧ u 6 = 2) ∨ (u 5 = 1 ∧ u 6 = 3) ∨ (u 5 = 2 ∧ u 6 = 3) := by omega
  rcases hd with ⟨h0, h1⟩ | ⟨h0, h1⟩ | ⟨h0, h1⟩ | ⟨h0, h1⟩ | ⟨h0, h1⟩ | ⟨h0, h1⟩
  · exact ⟨_, List.mem_cons_self, List.forall_mem_cons.2 ⟨h0, List.forall_mem_cons.2 ⟨h1, fun _ h => nomatch h⟩⟩⟩
  · exact ⟨_, List.mem_cons_of_mem _ (List.mem_cons_self), List.forall_mem_cons.2 ⟨h0, List.forall_mem_cons.2 ⟨h1, fun _ h => nomatch h⟩⟩⟩
  · exact ⟨_, List.mem_cons_of_mem _ (List.mem_cons_of_mem _ (List.mem_cons_self)), List.forall_mem_cons.2 ⟨h0, List.forall_mem_cons.2 ⟨h1, fun _ h => nomatch h⟩⟩⟩
  · exact ⟨_, List.mem_cons_of_mem _ (List.mem_cons_of_mem _ (List.mem_cons_of_mem _ (List.mem_cons_self))), List.forall_mem_cons.2 ⟨h0, List.forall_mem_cons.2 ⟨h1, fun _ h => nomatch h⟩⟩⟩
  · exact ⟨_, List.mem_cons_of_mem _ (List.mem_cons_of_mem _ (List.mem_cons_of_mem _ (List.mem_cons_of_mem _ (List.mem_cons_self)))), List.forall_mem_cons.2 ⟨h0, List.forall_mem_cons.2 ⟨h1, fun _ h => nomatch h⟩⟩⟩
  · exact ⟨_, List.mem_cons_of_mem _ (List.mem_cons_of_mem _ (List.mem_cons_of_mem _ (List.mem_cons_of_mem _ (List.mem_cons_of_mem _ (List.mem_cons_self))))), List.forall_mem_cons.2 ⟨h0, List.forall_mem_cons.2 ⟨h1, fun _ h => nomatch h⟩⟩⟩
theorem tc162 : EntTOk Tryz.prog c162 := ent_cases (cs := kc162) (by kernel_rfl) (List.forall_mem_cons.2 ⟨tc162_0, List.forall_mem_cons.2 ⟨tc162_1, List.forall_mem_cons.2 ⟨tc162_2, List.forall_mem_cons.2 ⟨tc162_3, List.forall_mem_cons.2 ⟨tc162_4, List.forall_mem_cons.2 ⟨tc162_5, (fun _ h => nomatch h)⟩⟩⟩⟩⟩⟩) (List.forall_mem_cons.2 ⟨rfl, List.forall_mem_cons.2 ⟨rfl, List.forall_mem_cons.2 ⟨rfl, List.forall_mem_cons.2 ⟨rfl, List.forall_mem_cons.2 ⟨rfl, List.forall_mem_cons.2 ⟨rfl, (fun _ h => nomatch h)⟩⟩⟩⟩⟩⟩) (by kernel_rfl) ac162 (entry_of apOk (af := af115) rfl)
noncomputable def c202 : EntT := ⟨115, [(0, 0, 4096), (1, 0, 1125899906842624), (2, 0, 1073741824), (3, 0, 1125899906842624), (4, 1, 1073741824), (5, 0, 2), (6, 1, 3)], [((-1), [(5, (-1)), (6, 1)]), (0, [(0, 1), (3, (-1))]), (0, [(0, 1), (1, (-1))]), ((-1), [(0, (-1)), (1, 1), (3, 1)])], [], [vS 0 1 0 2 3 none, vL 5070602400912917605986812821515, vS 1 1 0 2 1 (some 2)], [(0, x73), (1, x66), (2, x65), (3, x58), (4, x59), (5, x60)], 6, vS 27 1 0 2 1 (some 2), [(27, x74)], 66⟩
noncomputable def c202_0 : EntT := ⟨115, c202.bs, c202.fs, c202.ds, [vS 0 1 0 2 3 none, vL 5070602400912917605986812821515, vS 1 1 0 2 1 (some 2)], [(0, x75), (1, x66), (2, x65), (3, x58), (4, x59), (5, x60)], 6, vS 27 1 0 2 1 (some 2), [(27, x74)], 66⟩
noncomputable def lc202_0 : Lib := []
theorem lc202_0_ok : LibOk Tryz.prog lc202_0 := trivial
theorem tc202_0 : EntTOk Tryz.prog c202_0 := ent lc202_0_ok (by kernel_rfl)
noncomputable def c202_1 : EntT := ⟨115, c202.bs, c202.fs, c202.ds, [vS 0 1 0 2 3 none, vL 5070602400912917605986812821515, vS 1 1 0 2 1 (some 2)], [(0, x76), (1, x66), (2, x65), (3, x58), (4, x59), (5, x60)], 6, vS 27 1 0 2 1 (some 2), [(27, x74)], 66⟩
noncomputable def lc202_1 : Lib := []
theorem lc202_1_ok : LibOk Tryz.prog lc202_1 := trivial
theorem tc202_1 : EntTOk Tryz.prog c202_1 := ent lc202_1_ok (by kernel_rfl)
noncomputable def c202_2 : EntT := ⟨115, c202.bs, c202.fs, c202.ds, [vS 0 1 0 2 3 none, vL 5070602400912917605986812821515, vS 1 1 0 2 1 (some 2)], [(0, x77), (1, x66), (2, x65), (3, x58), (4, x59), (5, x60)], 6, vS 27 1 0 2 1 (some 2), [(27, x74)], 66⟩
noncomputable def lc202_2 : Lib := []
theorem lc202_2_ok : LibOk Tryz.prog lc202_2 := trivial
theorem tc202_2 : EntTOk Tryz.prog c202_2 := ent lc202_2_ok (by kernel_rfl)
noncomputable def c202_3 : EntT := ⟨115, c202.bs, c202.fs, c202.ds, [vS 0 1 0 2 3 none, vL 5070602400912917605986812821515, vS 1 1 0 2 1 (some 2)], [(0, x78), (1, x66), (2, x65), (3, x58), (4, x59), (5, x60)], 6, vS 27 1 0 2 1 (some 2), [(27, x74)], 66⟩
noncomputable def lc202_3 : Lib := []
theorem lc202_3_ok : LibOk Tryz.prog lc202_3 := trivial
theorem tc202_3 : EntTOk Tryz.prog c202_3 := ent lc202_3_ok (by kernel_rfl)
noncomputable def c202_4 : EntT := ⟨115, c202.bs, c202.fs, c202.ds, [vS 0 1 0 2 3 none, vL 5070602400912917605986812821515, vS 1 1 0 2 1 (some 2)], [(0, x79), (1, x66), (2, x65), (3, x58), (4, x59), (5, x60)], 6, vS 27 1 0 2 1 (some 2), [(27, x74)], 66⟩
noncomputable def lc202_4 : Lib := []
theorem lc202_4_ok : LibOk Tryz.prog lc202_4 := trivial
theorem tc202_4 : EntTOk Tryz.prog c202_4 := ent lc202_4_ok (by kernel_rfl)
noncomputable def c202_5 : EntT := ⟨115, c202.bs, c202.fs, c202.ds, [vS 0 1 0 2 3 none, vL 5070602400912917605986812821515, vS 1 1 0 2 1 (some 2)], [(0, x80), (1, x66), (2, x65), (3, x58), (4, x59), (5, x60)], 6, vS 27 1 0 2 1 (some 2), [(27, x74)], 66⟩
noncomputable def lc202_5 : Lib := []
theorem lc202_5_ok : LibOk Tryz.prog lc202_5 := trivial
theorem tc202_5 : EntTOk Tryz.prog c202_5 := ent lc202_5_ok (by kernel_rfl)
noncomputable def kc202 : List (List (Nat × Int) × EntT) := [([(5, 0), (6, 1)], c202_0), ([(5, 0), (6, 2)], c202_1), ([(5, 0), (6, 3)], c202_2), ([(5, 1), (6, 2)], c202_3), ([(5, 1), (6, 3)], c202_4), ([(5, 2), (6, 3)], c202_5)]
theorem ac202 (u : Asg) (h : c202.sp.has u) : ∃ p ∈ kc202, ∀ q ∈ p.1, u q.1 = q.2 := by
  have b5 : (0 : Int) ≤ u 5 ∧ u 5 ≤ 2 := by have := h.bd 5; rw [show c202.sp.lim 5 = (0, 2) by kernel_rfl] at this; exact this
  have b6 : (1 : Int) ≤ u 6 ∧ u 6 ≤ 3 := by have := h.bd 6; rw [show c202.sp.lim 6 = (1, 3) by kernel_rfl] at this; exact this
  have f0 : 0 ≤ (-1 : Int) + ((-1) * u 5 + (1 * u 6 + 0)) := h.fs (-1, [(5, -1), (6, 1)]) (List.mem_cons_self ..)
  have hd : (u 5 = 0 ∧ u 6 = 1) ∨ (u 5 = 0 ∧ u 6 = 2) ∨ (u 5 = 0 ∧ u 6 = 3) ∨ (u 5 = 1 ∧ u 6 = 2) ∨ (u 5 = 1 ∧ u 6 = 3) ∨ (u 5 = 2 ∧ u 6 = 3) := by omega
  rcases hd with ⟨h0, h1⟩ | ⟨h0, h1⟩ | ⟨h0, h1⟩ | ⟨h0, h1⟩ | ⟨h0, h1⟩ | ⟨h0, h1⟩
  · exact ⟨_, List.mem_cons_self, List.forall_mem_cons.2 ⟨h0, List.forall_mem_cons.2 ⟨h1, fun _ h => nomatch h⟩⟩⟩
  · exact ⟨_, List.mem_cons_of_mem _ (List.mem_cons_self), List.forall_mem_cons.2 ⟨h0, List.forall_mem_cons.2 ⟨h1, fun _ h => nomatch h⟩⟩⟩
  · exact ⟨_, List.mem_cons_of_mem _ (List.mem_cons_of_mem _ (List.mem_cons_self)), List.forall_mem_cons.2 ⟨h0, List.forall_mem_cons.2 ⟨h1, fun _ h => nomatch h⟩⟩⟩
  · exact ⟨_, List.mem_cons_of_mem _ (List.mem_cons_of_mem _ (List.mem_cons_of_mem _ (List.mem_cons_self))), List.forall_mem_cons.2 ⟨h0, List.forall_mem_cons.2 ⟨h1, fun _ h => nomatch h⟩⟩⟩
  · exact ⟨_, List.mem_cons_of_mem _ (List.mem_cons_of_mem _ (List.mem_cons_of_mem _ (List.mem_cons_of_mem _ (List.mem_cons_self)))), List.forall_mem_cons.2 ⟨h0, List.forall_mem_cons.2 ⟨h1, fun _ h => nomatch h⟩⟩⟩
  · exact ⟨_, List.mem_cons_of_mem _ (List.mem_cons_of_mem _ (List.mem_cons_of_mem _ (List.mem_cons_of_mem _ (List.mem_cons_of_mem _ (List.mem_cons_self))))), List.forall_mem_cons.2 ⟨h0, List.forall_mem_cons.2 ⟨h1, fun _ h => nomatch h⟩⟩⟩
theorem tc202 : EntTOk Tryz.prog c202 := ent_cases (cs := kc202) (by kernel_rfl) (List.forall_mem_cons.2 ⟨tc202_0, List.forall_mem_cons.2 ⟨tc202_1, List.forall_mem_cons.2 ⟨tc202_2, List.forall_mem_cons.2 ⟨tc202_3, List.forall_mem_cons.2 ⟨tc202_4, List.forall_mem_cons.2 ⟨tc202_5, (fun _ h => nomatch h)⟩⟩⟩⟩⟩⟩) (List.forall_mem_cons.2 ⟨rfl, List.forall_mem_cons.2 ⟨rfl, List.forall_mem_cons.2 ⟨rfl, List.forall_mem_cons.2 ⟨rfl, List.forall_mem_cons.2 ⟨rfl, List.forall_mem_cons.2 ⟨rfl, (fun _ h => nomatch h)⟩⟩⟩⟩⟩⟩) (by kernel_rfl) ac202 (entry_of apOk (af := af115) rfl)
noncomputable def c182 : EntT := ⟨115, [(0, 0, 4096), (1, 0, 1125899906842624), (2, 0, 1125899906842624), (3, 1, 1073741824), (4, (-1125899906842624), (-1)), (5, 0, 1125899906842624), (6, 0, 512), (8, 1, 3)], [(0, [(0, 1), (2, (-1))]), (0, [(0, 1), (6, (-8))]), (7, [(0, (-1)), (6, 8)]), (0, [(0, 1), (2, (-1)), (6, (-1))])], [((0, [(6, 1)]), (0, [(0, 1)]), 8)], [vS 0 1 0 2 3 none, vL 5070602400912917605986812821515, vS 1 1 0 2 1 (some 2)], [(0, .cells [vL 5075554161070059127086409318411, vS 2 0 0 1 1 none, vS 3 0 0 1 1 none, vL 5071221370932560296124262383627, vS 4 0 0 1 1 none, vS 5 0 0 1 1 none] 1 0 true), (1, x63), (2, x58), (3, x59), (4, x60), (5, x61)], 6, vS 36 1 0 2 1 (some 2), [(36, x64)], 57⟩
noncomputable def c182_0 : EntT := ⟨115, c182.bs, c182.fs, c182.ds, [vS 0 1 0 2 3 none, vL 5070602400912917605986812821515, vS 1 1 0 2 1 (some 2)], [(0, x83), (1, x63), (2, x58), (3, x59), (4, x60), (5, x61)], 6, vS 36 1 0 2 1 (some 2), [(36, x64)], 57⟩
noncomputable def lc182_0 : Lib := []
theorem lc182_0_ok : LibOk Tryz.prog lc182_0 := trivial
theorem tc182_0 : EntTOk Tryz.prog c182_0 := ent lc182_0_ok (by kernel_rfl)
noncomputable def c182_1 : EntT := ⟨115, c182.bs, c182.fs, c182.ds, [vS 0 1 0 2 3 none, vL 5070602400912917605986812821515, vS 1 1 0 2 1 (some 2)], [(0, x84), (1, x63), (2, x58), (3, x59), (4, x60), (5, x61)], 6, vS 36 1 0 2 1 (some 2), [(36, x64)], 57⟩
noncomputable def lc182_1 : Lib := []
theorem lc182_1_ok : LibOk Tryz.prog lc182_1 := trivial
theorem tc182_1 : EntTOk Tryz.prog c182_1 := ent lc182_1_ok (by kernel_rfl)
noncomputable def c182_2 : EntT := ⟨115, c182.bs, c182.fs, c182.ds, [vS 0 1 0 2 3 none, vL 5070602400912917605986812821515, vS 1 1 0 2 1 (some 2)], [(0, x86), (1, x63), (2, x58), (3, x59), (4, x60), (5, x61)], 6, vS 36 1 0 2 1 (some 2), [(36, x64)], 57⟩
noncomputable def lc182_2 : Lib := []
theorem lc182_2_ok : LibOk Tryz.prog lc182_2 := trivial
theorem tc182_2 : EntTOk Tryz.prog c182_2 := ent lc182_2_ok (by kernel_rfl)
noncomputable def kc182 : List (List (Nat × Int) × EntT) := [([(8, 1)], c182_0), ([(8, 2)], c182_1), ([(8, 3)], c182_2)]
theorem ac182 (u : Asg) (h : c182.sp.has u) : ∃ p ∈ kc182, ∀ q ∈ p.1, u q.1 = q.2 := by
  have b8 : (1 : Int) ≤ u 8 ∧ u 8 ≤ 3 := by have := h.bd 8; rw [show c182.sp.lim 8 = (1, 3) by kernel_rfl] at this; exact this
  have hd : (u 8 = 1) ∨ (u 8 = 2) ∨ (u 8 = 3) := by omega
  rcases hd with h0 | h0 | h0
  · exact ⟨_, List.mem_cons_self, List.forall_mem_cons.2 ⟨h0, fun _ h => nomatch h⟩⟩
  · exact ⟨_, List.mem_cons_of_mem _ (List.mem_cons_self), List.forall_mem_cons.2 ⟨h0, fun _ h => nomatch h⟩⟩
  · exact ⟨_, List.mem_cons_of_mem _ (List.mem_cons_of_mem _ (List.mem_cons_self)), List.forall_mem_cons.2 ⟨h0, fun _ h => nomatch h⟩⟩
theorem tc182 : EntTOk Tryz.prog c182 := ent_cases (cs := kc182) (by kernel_rfl) (List.forall_mem_cons.2 ⟨tc182_0, List.forall_mem_cons.2 ⟨tc182_1, List.forall_mem_cons.2 ⟨tc182_2, (fun _ h => nomatch h)⟩⟩⟩) (List.forall_mem_cons.2 ⟨rfl, List.forall_mem_cons.2 ⟨rfl, List.forall_mem_cons.2 ⟨rfl, (fun _ h => nomatch h)⟩⟩⟩) (by kernel_rfl) ac182 (entry_of apOk (af := af115) rfl)
end Go.Proofs.YtidhpcjbllnjgaaGreatA
