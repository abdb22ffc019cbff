/- Calls told ahead, for any classes: by cases. -/
import Derived.Test.YtidhpcjbllnjgaaGreatTcA
set_option linter.unusedVariables false
set_option maxRecDepth 1000000
namespace Go.Proofs.YtidhpcjbllnjgaaGreatA
open Go.RowKit
noncomputable def c156 : EntT := ⟨115, [(0, 0, 4096), (1, 0, 1125899906842624), (2, 1, 1073741824), (3, 0, 1125899906842624), (4, 1, 1073741824), (5, 0, 512), (6, 0, 2), (7, 1, 3)], [((-1), [(6, (-1)), (7, 1)]), (0, [(0, 1), (3, (-1))]), (0, [(0, 1), (1, (-1))]), (0, [(0, 1), (1, (-1)), (3, (-1))]), (0, [(0, 1), (5, (-8))]), (7, [(0, (-1)), (5, 8)]), (0, [(0, 1), (1, (-1)), (3, (-1)), (5, (-1))])], [((0, [(5, 1)]), (0, [(0, 1)]), 8)], [vS 0 1 0 2 3 none, vL 5070602400912917605986812821515, vS 1 1 0 2 1 (some 2)], [(0, .cells [vL 5074316221030773746811510194187, vS 2 0 0 1 1 none, vS 3 0 0 1 1 none, vL 5074935191050416436948959756299, vS 4 0 0 1 1 none, vS 5 0 0 1 1 none] 1 0 true), (1, x64), (2, x65), (3, x58), (4, x59), (5, x60)], 6, vS 60 1 0 2 1 (some 2), [(60, x66)], 80⟩
noncomputable def c156_0 : EntT := ⟨115, c156.bs, c156.fs, c156.ds, [vS 0 1 0 2 3 none, vL 5070602400912917605986812821515, vS 1 1 0 2 1 (some 2)], [(0, x67), (1, x64), (2, x65), (3, x58), (4, x59), (5, x60)], 6, vS 60 1 0 2 1 (some 2), [(60, x66)], 80⟩
noncomputable def lc156_0 : Lib := []
theorem lc156_0_ok : LibOk Tryz.prog lc156_0 := trivial
theorem tc156_0 : EntTOk Tryz.prog c156_0 := ent lc156_0_ok (by kernel_rfl)
noncomputable def c156_1 : EntT := ⟨115, c156.bs, c156.fs, c156.ds, [vS 0 1 0 2 3 none, vL 5070602400912917605986812821515, vS 1 1 0 2 1 (some 2)], [(0, x68), (1, x64), (2, x65), (3, x58), (4, x59), (5, x60)], 6, vS 60 1 0 2 1 (some 2), [(60, x66)], 80⟩
noncomputable def lc156_1 : Lib := []
theorem lc156_1_ok : LibOk Tryz.prog lc156_1 := trivial
theorem tc156_1 : EntTOk Tryz.prog c156_1 := ent lc156_1_ok (by kernel_rfl)
noncomputable def c156_2 : EntT := ⟨115, c156.bs, c156.fs, c156.ds, [vS 0 1 0 2 3 none, vL 5070602400912917605986812821515, vS 1 1 0 2 1 (some 2)], [(0, x69), (1, x64), (2, x65), (3, x58), (4, x59), (5, x60)], 6, vS 60 1 0 2 1 (some 2), [(60, x66)], 80⟩
noncomputable def lc156_2 : Lib := []
theorem lc156_2_ok : LibOk Tryz.prog lc156_2 := trivial
theorem tc156_2 : EntTOk Tryz.prog c156_2 := ent lc156_2_ok (by kernel_rfl)
noncomputable def c156_3 : EntT := ⟨115, c156.bs, c156.fs, c156.ds, [vS 0 1 0 2 3 none, vL 5070602400912917605986812821515, vS 1 1 0 2 1 (some 2)], [(0, x70), (1, x64), (2, x65), (3, x58), (4, x59), (5, x60)], 6, vS 60 1 0 2 1 (some 2), [(60, x66)], 80⟩
noncomputable def lc156_3 : Lib := []
theorem lc156_3_ok : LibOk Tryz.prog lc156_3 := trivial
theorem tc156_3 : EntTOk Tryz.prog c156_3 := ent lc156_3_ok (by kernel_rfl)
noncomputable def c156_4 : EntT := ⟨115, c156.bs, c156.fs, c156.ds, [vS 0 1 0 2 3 none, vL 5070602400912917605986812821515, vS 1 1 0 2 1 (some 2)], [(0, x71), (1, x64), (2, x65), (3, x58), (4, x59), (5, x60)], 6, vS 60 1 0 2 1 (some 2), [(60, x66)], 80⟩
noncomputable def lc156_4 : Lib := []
theorem lc156_4_ok : LibOk Tryz.prog lc156_4 := trivial
theorem tc156_4 : EntTOk Tryz.prog c156_4 := ent lc156_4_ok (by kernel_rfl)
noncomputable def c156_5 : EntT := ⟨115, c156.bs, c156.fs, c156.ds, [vS 0 1 0 2 3 none, vL 5070602400912917605986812821515, vS 1 1 0 2 1 (some 2)], [(0, x72), (1, x64), (2, x65), (3, x58), (4, x59), (5, x60)], 6, vS 60 1 0 2 1 (some 2), [(60, x66)], 80⟩
noncomputable def lc156_5 : Lib := []
theorem lc156_5_ok : LibOk Tryz.prog lc156_5 := trivial
theorem tc156_5 : EntTOk Tryz.prog c156_5 := ent lc156_5_ok (by kernel_rfl)
noncomputable def kc156 : List (List (Nat × Int) × EntT) := [([(6, 0), (7, 1)], c156_0), ([(6, 0), (7, 2)], c156_1), ([(6, 0), (7, 3)], c156_2), ([(6, 1), (7, 2)], c156_3), ([(6, 1), (7, 3)], c156_4), ([(6, 2), (7, 3)], c156_5)]
theorem ac156 (u : Asg) (h : c156.sp.has u) : ∃ p ∈ kc156, ∀ q ∈ p.1, u q.1 = q.2 := by
  have b6 : (0 : Int) ≤ u 6 ∧ u 6 ≤ 2 := by have := h.bd 6; rw [show c156.sp.lim 6 = (0, 2) by kernel_rfl] at this; exact this
  have b7 : (1 : Int) ≤ u 7 ∧ u 7 ≤ 3 := by have := h.bd 7; rw [show c156.sp.lim 7 = (1, 3) by kernel_rfl] at this; exact this
  have f0 : 0 ≤ (-1 : Int) + ((-1) * u 6 + (1 * u 7 + 0)) := h.fs (-1, [(6, -1), (7, 1)]) (List.mem_cons_self ..)
  have hd : (u 6 = 0 ∧ u 7 = 1) ∨ (u 6 = 0 ∧ u 7 = 2) ∨ (u 6 = 0 ∧ u 7 = 3) ∨ (u 6 = 1 ∧ u 7 = 2) ∨ (u 6 = 1 ∧ u 7 = 3) ∨ (u 6 = 2 ∧ u 7 = 3) := by omega
  rcases hd with ⟨h0, h1⟩ | ⟨h0, h1⟩ | ⟨h0, h1⟩ | ⟨h0, h1⟩ | ⟨h0, h1⟩ | ⟨h0, h1⟩
  · exact ⟨_, List.mem_cons_self, List.forall_mem_cons.2 ⟨h0, List.forall_mem_cons.2 ⟨h1, fun _ h => nomatch h⟩⟩⟩
  · exact ⟨_, List.mem_cons_of_mem _ (List.mem_cons_self), List.forall_mem_cons.2 ⟨h0, List.forall_mem_cons.2 ⟨h1, fun _ h => nomatch h⟩⟩⟩
  · exact ⟨_, List.mem_cons_of_mem _ (List.mem_cons_of_mem _ (List.mem_cons_self)), List.forall_mem_cons.2 ⟨h0, List.forall_mem_cons.2 ⟨h1, fun _ h => nomatch h⟩⟩⟩
  · exact ⟨_, List.mem_cons_of_mem _ (List.mem_cons_of_mem _ (List.mem_cons_of_mem _ (List.mem_cons_self))), List.forall_mem_cons.2 ⟨h0, List.forall_mem_cons.2 ⟨h1, fun _ h => nomatch h⟩⟩⟩
  · exact ⟨_, List.mem_cons_of_mem _ (List.mem_cons_of_mem _ (List.mem_cons_of_mem _ (List.mem_cons_of_mem _ (List.mem_cons_self)))), List.forall_mem_cons.2 ⟨h0, List.forall_mem_cons.2 ⟨h1, fun _ h => nomatch h⟩⟩⟩
  · exact ⟨_, List.mem_cons_of_mem _ (List.mem_cons_of_mem _ (List.mem_cons_of_mem _ (List.mem_cons_of_mem _ (List.mem_cons_of_mem _ (List.mem_cons_self))))), List.forall_mem_cons.2 ⟨h0, List.forall_mem_cons.2 ⟨h1, fun _ h => nomatch h⟩⟩⟩
theorem tc156 : EntTOk Tryz.prog c156 := ent_cases (cs := kc156) (by kernel_rfl) (List.forall_mem_cons.2 ⟨tc156_0, List.forall_mem_cons.2 ⟨tc156_1, List.forall_mem_cons.2 ⟨tc156_2, List.forall_mem_cons.2 ⟨tc156_3, List.forall_mem_cons.2 ⟨tc156_4, List.forall_mem_cons.2 ⟨tc156_5, (fun _ h => nomatch h)⟩⟩⟩⟩⟩⟩) (List.forall_mem_cons.2 ⟨rfl, List.forall_mem_cons.2 ⟨rfl, List.forall_mem_cons.2 ⟨rfl, List.forall_mem_cons.2 ⟨rfl, List.forall_mem_cons.2 ⟨rfl, List.forall_mem_cons.2 ⟨rfl, (fun _ h => nomatch h)⟩⟩⟩⟩⟩⟩) (by kernel_rfl) ac156 (entry_of apOk (af := af115) rfl)
noncomputable def c208 : EntT := ⟨115, [(0, 0, 4096), (1, 0, 1125899906842624), (2, 0, 1073741824), (3, 0, 1125899906842624), (4, 1, 1073741824), (5, 0, 2), (6, 1, 3)], [((-1), [(5, (-1)), (6, 1)]), (0, [(0, 1), (3, (-1))]), (0, [(0, 1), (1, (-1))]), ((-1), [(0, (-1)), (1, 1), (3, 1)])], [], [vS 0 1 0 2 3 none, vL 5070602400912917605986812821515, vS 1 1 0 2 1 (some 2)], [(0, x73), (1, x74), (2, x65), (3, x58), (4, x59), (5, x60)], 6, vS 27 1 0 2 1 (some 2), [(27, x74)], 65⟩
noncomputable def c208_0 : EntT := ⟨115, c208.bs, c208.fs, c208.ds, [vS 0 1 0 2 3 none, vL 5070602400912917605986812821515, vS 1 1 0 2 1 (some 2)], [(0, x75), (1, x74), (2, x65), (3, x58), (4, x59), (5, x60)], 6, vS 27 1 0 2 1 (some 2), [(27, x74)], 65⟩
noncomputable def lc208_0 : Lib := []
theorem lc208_0_ok : LibOk Tryz.prog lc208_0 := trivial
theorem tc208_0 : EntTOk Tryz.prog c208_0 := ent lc208_0_ok (by kernel_rfl)
noncomputable def c208_1 : EntT := ⟨115, c208.bs, c208.fs, c208.ds, [vS 0 1 0 2 3 none, vL 5070602400912917605986812821515, vS 1 1 0 2 1 (some 2)], [(0, x76), (1, x74), (2, x65), (3, x58), (4, x59), (5, x60)], 6, vS 27 1 0 2 1 (some 2), [(27, x74)], 65⟩
noncomputable def lc208_1 : Lib := []
theorem lc208_1_ok : LibOk Tryz.prog lc208_1 := trivial
theorem tc208_1 : EntTOk Tryz.prog c208_1 := ent lc208_1_ok (by kernel_rfl)
noncomputable def c208_2 : EntT := ⟨115, c208.bs, c208.fs, c208.ds, [vS 0 1 0 2 3 none, vL 5070602400912917605986812821515, vS 1 1 0 2 1 (some 2)], [(0, x77), (1, x74), (2, x65), (3, x58), (4, x59), (5, x60)], 6, vS 27 1 0 2 1 (some 2), [(27, x74)], 65⟩
noncomputable def lc208_2 : Lib := []
theorem lc208_2_ok : LibOk Tryz.prog lc208_2 := trivial
theorem tc208_2 : EntTOk Tryz.prog c208_2 := ent lc208_2_ok (by kernel_rfl)
noncomputable def c208_3 : EntT := ⟨115, c208.bs, c208.fs, c208.ds, [vS 0 1 0 2 3 none, vL 5070602400912917605986812821515, vS 1 1 0 2 1 (some 2)], [(0, x78), (1, x74), (2, x65), (3, x58), (4, x59), (5, x60)], 6, vS 27 1 0 2 1 (some 2), [(27, x74)], 65⟩
noncomputable def lc208_3 : Lib := []
theorem lc208_3_ok : LibOk Tryz.prog lc208_3 := trivial
theorem tc208_3 : EntTOk Tryz.prog c208_3 := ent lc208_3_ok (by kernel_rfl)
noncomputable def c208_4 : EntT := ⟨115, c208.bs, c208.fs, c208.ds, [vS 0 1 0 2 3 none, vL 5070602400912917605986812821515, vS 1 1 0 2 1 (some 2)], [(0, x79), (1, x74), (2, x65), (3, x58), (4, x59), (5, x60)], 6, vS 27 1 0 2 1 (some 2), [(27, x74)], 65⟩
noncomputable def lc208_4 : Lib := []
theorem lc208_4_ok : LibOk Tryz.prog lc208_4 := trivial
theorem tc208_4 : EntTOk Tryz.prog c208_4 := ent lc208_4_ok (by kernel_rfl)
noncomputable def c208_5 : EntT := ⟨115, c208.bs, c208.fs, c208.ds, [vS 0 1 0 2 3 none, vL 5070602400912917605986812821515, vS 1 1 0 2 1 (some 2)], [(0, x80), (1, x74), (2, x65), (3, x58), (4, x59), (5, x60)], 6, vS 27 1 0 2 1 (some 2), [(27, x74)], 65⟩
noncomputable def lc208_5 : Lib := []
theorem lc208_5_ok : LibOk Tryz.prog lc208_5 := trivial
theorem tc208_5 : EntTOk Tryz.prog c208_5 := ent lc208_5_ok (by kernel_rfl)
noncomputable def kc208 : List (List (Nat × Int) × EntT) := [([(5, 0), (6, 1)], c208_0), ([(5, 0), (6, 2)], c208_1), ([(5, 0), (6, 3)], c208_2), ([(5, 1), (6, 2)], c208_3), ([(5, 1), (6, 3)], c208_4), ([(5, 2), (6, 3)], c208_5)]
theorem ac208 (u : Asg) (h : c208.sp.has u) : ∃ p ∈ kc208, ∀ q ∈ p.1, u q.1 = q.2 := by
  have b5 : (0 : Int) ≤ u 5 ∧ u 5 ≤ 2 := by have := h.bd 5; rw [show c208.sp.lim 5 = (0, 2) by kernel_rfl] at this; exact this
  have b6 : (1 : Int) ≤ u 6 ∧ u 6 ≤ 3 := by have := h.bd 6; rw [show c208.sp.lim 6 = (1, 3) by kernel_rfl] at this; exact this
  have f0 : 0 ≤ (-1 : Int) + ((-1) * u 5 + (1 * u 6 + 0)) := h.fs (-1, [(5, -1), (6, 1)]) (List.mem_cons_self ..)
  have hd : (u 5 = 0 ∧ u 6 = 1) ∨ (u 5 = 0 ∧ u 6 = 2) ∨ (u 5 = 0 ∧ u 6 = 3) ∨ (u 5 = 1 ∧ u 6 = 2) ∨ (u 5 = 1 ∧ u 6 = 3) ∨ (u 5 = 2 ∧ u 6 = 3) := by omega
  rcases hd with ⟨h0, h1⟩ | ⟨h0, h1⟩ | ⟨h0, h1⟩ | ⟨h0, h1⟩ | ⟨h0, h1⟩ | ⟨h0, h1⟩
  · exact ⟨_, List.mem_cons_self, List.forall_mem_cons.2 ⟨h0, List.forall_mem_cons.2 ⟨h1, fun _ h => nomatch h⟩⟩⟩
  · exact ⟨_, List.mem_cons_of_mem _ (List.mem_cons_self), List.forall_mem_cons.2 ⟨h0, List.forall_mem_cons.2 ⟨h1, fun _ h => nomatch h⟩⟩⟩
  · exact ⟨_, List.mem_cons_of_mem _ (List.mem_cons_of_mem _ (List.mem_cons_self)), List.forall_mem_cons.2 ⟨h0, List.forall_mem_cons.2 ⟨h1, fun _ h => nomatch h⟩⟩⟩
  · exact ⟨_, List.mem_cons_of_mem _ (List.mem_cons_of_mem _ (List.mem_cons_of_mem _ (List.mem_cons_self))), List.forall_mem_cons.2 ⟨h0, List.forall_mem_cons.2 ⟨h1, fun _ h => nomatch h⟩⟩⟩
  · exact ⟨_, List.mem_cons_of_mem _ (List.mem_cons_of_mem _ (List.mem_cons_of_mem _ (List.mem_cons_of_mem _ (List.mem_cons_self)))), List.forall_mem_cons.2 ⟨h0, List.forall_mem_cons.2 ⟨h1, fun _ h => nomatch h⟩⟩⟩
  · exact ⟨_, List.mem_cons_of_mem _ (List.mem_cons_of_mem _ (List.mem_cons_of_mem _ (List.mem_cons_of_mem _ (List.mem_cons_of_mem _ (List.mem_cons_self))))), List.forall_mem_cons.2 ⟨h0, List.forall_mem_cons.2 ⟨h1, fun _ h => nomatch h⟩⟩⟩
theorem tc208 : EntTOk Tryz.prog c208 := ent_cases (cs := kc208) (by kernel_rfl) (List.forall_mem_cons.2 ⟨tc208_0, List.forall_mem_cons.2 ⟨tc208_1, List.forall_mem_cons.2 ⟨tc208_2, List.forall_mem_cons.2 ⟨tc208_3, List.forall_mem_cons.2 ⟨tc208_4, List.forall_mem_cons.2 ⟨tc208_5, (fun _ h => nomatch h)⟩⟩⟩⟩⟩⟩) (List.forall_mem_cons.2 ⟨rfl, List.forall_mem_cons.2 ⟨rfl, List.forall_mem_cons.2 ⟨rfl, List.forall_mem_cons.2 ⟨rfl, List.forall_mem_cons.2 ⟨rfl, List.forall_mem_cons.2 ⟨rfl, (fun _ h => nomatch h)⟩⟩⟩⟩⟩⟩) (by kernel_rfl) ac208 (entry_of apOk (af := af115) rfl)
noncomputable def c147 : EntT := ⟨115, [(0, 0, 4096), (1, 0, 1125899906842624), (2, 0, 1125899906842624), (3, 1, 1073741824), (4, (-1125899906842624), (-1)), (5, 0, 1125899906842624), (6, 0, 512), (7, 0, 2)], [(0, [(0, 1), (2, (-1))]), (0, [(0, 1), (6, (-8))]), (7, [(0, (-1)), (6, 8)]), (0, [(0, 1), (2, (-1)), (6, (-1))])], [((0, [(6, 1)]), (0, [(0, 1)]), 8)], [vS 0 1 0 2 3 none, vL 5070602400912917605986812821515, vS 1 1 0 2 1 (some 2)], [(0, x81), (1, x63), (2, x58), (3, x59), (4, x60), (5, x61)], 6, vS 36 1 0 2 1 (some 2), [(36, x64)], 57⟩
noncomputable def c147_0 : EntT := ⟨115, c147.bs, c147.fs, c147.ds, [vS 0 1 0 2 3 none, vL 5070602400912917605986812821515, vS 1 1 0 2 1 (some 2)], [(0, x82), (1, x63), (2, x58), (3, x59), (4, x60), (5, x61)], 6, vS 36 1 0 2 1 (some 2), [(36, x64)], 57⟩
noncomputable def lc147_0 : Lib := []
theorem lc147_0_ok : LibOk Tryz.prog lc147_0 := trivial
theorem tc147_0 : EntTOk Tryz.prog c147_0 := ent lc147_0_ok (by kernel_rfl)
noncomputable def c147_1 : EntT := ⟨115, c147.bs, c147.fs, c147.ds, [vS 0 1 0 2 3 none, vL 5070602400912917605986812821515, vS 1 1 0 2 1 (some 2)], [(0, x83), (1, x63), (2, x58), (3, x59), (4, x60), (5, x61)], 6, vS 36 1 0 2 1 (some 2), [(36, x64)], 57⟩
noncomputable def lc147_1 : Lib := []
theorem lc147_1_ok : LibOk Tryz.prog lc147_1 := trivial
theorem tc147_1 : EntTOk Tryz.prog c147_1 := ent lc147_1_ok (by kernel_rfl)
noncomputable def c147_2 : EntT := ⟨115, c147.bs, c147.fs, c147.ds, [vS 0 1 0 2 3 none, vL 5070602400912917605986812821515, vS 1 1 0 2 1 (some 2)], [(0, x84), (1, x63), (2, x58), (3, x59), (4, x60), (5, x61)], 6, vS 36 1 0 2 1 (some 2), [(36, x64)], 57⟩
noncomputable def lc147_2 : Lib := []
theorem lc147_2_ok : LibOk Tryz.prog lc147_2 := trivial
theorem tc147_2 : EntTOk Tryz.prog c147_2 := ent lc147_2_ok (by kernel_rfl)
noncomputable def kc147 : List (List (Nat × Int) × EntT) := [([(7, 0)], c147_0), ([(7, 1)], c147_1), ([(7, 2)], c147_2)]
theorem ac147 (u : Asg) (h : c147.sp.has u) : ∃ p ∈ kc147, ∀ q ∈ p.1, u q.1 = q.2 := by
  have b7 : (0 : Int) ≤ u 7 ∧ u 7 ≤ 2 := by have := h.bd 7; rw [show c147.sp.lim 7 = (0, 2) by kernel_rfl] at this; exact this
  have hd : (u 7 = 0) ∨ (u 7 = 1) ∨ (u 7 = 2) := by omega
  rcases hd with h0 | h0 | h0
  · exact ⟨_, List.mem_cons_self, List.forall_mem_cons.2 ⟨h0, fun _ h => nomatch h⟩⟩
  · exact ⟨_, List.mem_cons_of_mem _ (List.mem_cons_self), List.forall_mem_cons.2 ⟨h0, fun _ h => nomatch h⟩⟩
  · exact ⟨_, List.mem_cons_of_mem _ (List.mem_cons_of_mem _ (List.mem_cons_self)), List.forall_mem_cons.2 ⟨h0, fun _ h => nomatch h⟩⟩
theorem tc147 : EntTOk Tryz.prog c147 := ent_cases (cs := kc147) (by kernel_rfl) (List.forall_mem_cons.2 ⟨tc147_0, List.forall_mem_cons.2 ⟨tc147_1, List.forall_mem_cons.2 ⟨tc147_2, (fun _ h => nomatch h)⟩⟩⟩) (List.forall_mem_cons.2 ⟨rfl, List.forall_mem_cons.2 ⟨rfl, List.forall_mem_cons.2 ⟨rfl, (fun _ h => nomatch h)⟩⟩⟩) (by kernel_rfl) ac147 (entry_of apOk (af := af115) rfl)
end Go.Proofs.YtidhpcjbllnjgaaGreatA
