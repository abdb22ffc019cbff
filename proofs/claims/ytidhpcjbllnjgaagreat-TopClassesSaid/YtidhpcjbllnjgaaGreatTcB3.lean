/- Calls told ahead, for any classes: by cases. -/
import Derived.Test.YtidhpcjbllnjgaaGreatTcA
set_option linter.unusedVariables false
set_option maxRecDepth 1000000
namespace Go.Proofs.YtidhpcjbllnjgaaGreatA
open Go.RowKit
noncomputable def c196 : EntT := ⟨115, [(0, 0, 4096), (1, 0, 1125899906842624), (2, 1, 1073741824), (3, 0, 1125899906842624), (4, 1, 1073741824), (5, 0, 2), (6, 1, 3)], [((-1), [(5, (-1)), (6, 1)]), (0, [(0, 1), (3, (-1))]), (0, [(0, 1), (1, (-1))]), (0, [(0, 1), (1, (-1)), (3, (-1))])], [], [vS 0 1 0 2 3 none, vL 5070602400912917605986812821515, vS 1 1 0 2 1 (some 2)], [(0, x73), (1, x66), (2, x65), (3, x58), (4, x59), (5, x60)], 6, vS 59 1 0 2 1 (some 2), [(59, x66)], 78⟩
noncomputable def c196_0 : EntT := ⟨115, c196.bs, c196.fs, c196.ds, [vS 0 1 0 2 3 none, vL 5070602400912917605986812821515, vS 1 1 0 2 1 (some 2)], [(0, x75), (1, x66), (2, x65), (3, x58), (4, x59), (5, x60)], 6, vS 59 1 0 2 1 (some 2), [(59, x66)], 78⟩
noncomputable def lc196_0 : Lib := []
theorem lc196_0_ok : LibOk Tryz.prog lc196_0 := trivial
theorem tc196_0 : EntTOk Tryz.prog c196_0 := ent lc196_0_ok (by kernel_rfl)
noncomputable def c196_1 : EntT := ⟨115, c196.bs, c196.fs, c196.ds, [vS 0 1 0 2 3 none, vL 5070602400912917605986812821515, vS 1 1 0 2 1 (some 2)], [(0, x76), (1, x66), (2, x65), (3, x58), (4, x59), (5, x60)], 6, vS 59 1 0 2 1 (some 2), [(59, x66)], 78⟩
noncomputable def lc196_1 : Lib := []
theorem lc196_1_ok : LibOk Tryz.prog lc196_1 := trivial
theorem tc196_1 : EntTOk Tryz.prog c196_1 := ent lc196_1_ok (by kernel_rfl)
noncomputable def c196_2 : EntT := ⟨115, c196.bs, c196.fs, c196.ds, [vS 0 1 0 2 3 none, vL 5070602400912917605986812821515, vS 1 1 0 2 1 (some 2)], [(0, x77), (1, x66), (2, x65), (3, x58), (4, x59), (5, x60)], 6, vS 59 1 0 2 1 (some 2), [(59, x66)], 78⟩
noncomputable def lc196_2 : Lib := []
theorem lc196_2_ok : LibOk Tryz.prog lc196_2 := trivial
theorem tc196_2 : EntTOk Tryz.prog c196_2 := ent lc196_2_ok (by kernel_rfl)
noncomputable def c196_3 : EntT := ⟨115, c196.bs, c196.fs, c196.ds, [vS 0 1 0 2 3 none, vL 5070602400912917605986812821515, vS 1 1 0 2 1 (some 2)], [(0, x78), (1, x66), (2, x65), (3, x58), (4, x59), (5, x60)], 6, vS 59 1 0 2 1 (some 2), [(59, x66)], 78⟩
noncomputable def lc196_3 : Lib := []
theorem lc196_3_ok : LibOk Tryz.prog lc196_3 := trivial
theorem tc196_3 : EntTOk Tryz.prog c196_3 := ent lc196_3_ok (by kernel_rfl)
noncomputable def c196_4 : EntT := ⟨115, c196.bs, c196.fs, c196.ds, [vS 0 1 0 2 3 none, vL 5070602400912917605986812821515, vS 1 1 0 2 1 (some 2)], [(0, x79), (1, x66), (2, x65), (3, x58), (4, x59), (5, x60)], 6, vS 59 1 0 2 1 (some 2), [(59, x66)], 78⟩
noncomputable def lc196_4 : Lib := []
theorem lc196_4_ok : LibOk Tryz.prog lc196_4 := trivial
theorem tc196_4 : EntTOk Tryz.prog c196_4 := ent lc196_4_ok (by kernel_rfl)
noncomputable def c196_5 : EntT := ⟨115, c196.bs, c196.fs, c196.ds, [vS 0 1 0 2 3 none, vL 5070602400912917605986812821515, vS 1 1 0 2 1 (some 2)], [(0, x80), (1, x66), (2, x65), (3, x58), (4, x59), (5, x60)], 6, vS 59 1 0 2 1 (some 2), [(59, x66)], 78⟩
noncomputable def lc196_5 : Lib := []
theorem lc196_5_ok : LibOk Tryz.prog lc196_5 := trivial
theorem tc196_5 : EntTOk Tryz.prog c196_5 := ent lc196_5_ok (by kernel_rfl)
noncomputable def kc196 : List (List (Nat × Int) × EntT) := [([(5, 0), (6, 1)], c196_0), ([(5, 0), (6, 2)], c196_1), ([(5, 0), (6, 3)], c196_2), ([(5, 1), (6, 2)], c196_3), ([(5, 1), (6, 3)], c196_4), ([(5, 2), (6, 3)], c196_5)]
theorem ac196 (u : Asg) (h : c196.sp.has u) : ∃ p ∈ kc196, ∀ q ∈ p.1, u q.1 = q.2 := by
  have b5 : (0 : Int) ≤ u 5 ∧ u 5 ≤ 2 := by have := h.bd 5; rw [show c196.sp.lim 5 = (0, 2) by kernel_rfl] at this; exact this
  have b6 : (1 : Int) ≤ u 6 ∧ u 6 ≤ 3 := by have := h.bd 6; rw [show c196.sp.lim 6 = (1, 3) by kernel_rfl] at this; exact this
  have f0 : 0 ≤ (-1 : Int) + ((-1) * u 5 + (1 * u 6 + 0)) := h.fs (-1, [(5, -1), (6, 1)]) (List.mem_cons_self ..)
  have hd : (u 5 = 0 ∧ u 6 = 1) ∨ (u 5 = 0 ∧ u 6 = 2) ∨ (u 5 = 0 ∧ u 6 = 3) ∨ (u 5 = 1 ∧ u 6 = 2) ∨ (u 5 = 1 ∧ u 6 = 3) ∨ (u 5 = 2 ∧ u 6 = 3) := by omega
  rcases hd with ⟨h0, h1⟩ | ⟨h0, h1⟩ | ⟨h0, h1⟩ | ⟨h0, h1⟩ | ⟨h0, h1⟩ | ⟨h0, h1⟩
  · exact ⟨_, List.mem_cons_self, List.forall_mem_cons.2 ⟨h0, List.forall_mem_cons.2 ⟨h1, fun _ h => nomatch h⟩⟩⟩
  · exact ⟨_, List.mem_cons_of_mem _ (List.mem_cons_self), List.forall_mem_cons.2 ⟨h0, List.forall_mem_cons.2 ⟨h1, fun _ h => nomatch h⟩⟩⟩
  · exact ⟨_, List.mem_cons_of_mem _ (List.mem_cons_of_mem _ (List.mem_cons_self)), List.forall_mem_cons.2 ⟨h0, List.forall_mem_cons.2 ⟨h1, fun _ h => nomatch h⟩⟩⟩
  · exact ⟨_, List.mem_cons_of_mem _ (List.mem_cons_of_mem _ (List.mem_cons_of_mem _ (List.mem_cons_self))), List.forall_mem_cons.2 ⟨h0, List.forall_mem_cons.2 ⟨h1, fun _ h => nomatch h⟩⟩⟩
  · exact ⟨_, List.mem_cons_of_mem _ (List.mem_cons_of_mem _ (List.mem_cons_of_mem _ (List.mem_cons_of_mem _ (List.mem_cons_self)))), List.forall_mem_cons.2 ⟨h0, List.forall_mem_cons.2 ⟨h1, fun _ h => nomatch h⟩⟩⟩
  · exact ⟨_, List.mem_cons_of_mem _ (List.mem_cons_of_mem _ (List.mem_cons_of_mem _ (List.mem_cons_of_mem _ (List.mem_cons_of_mem _ (List.mem_cons_self))))), List.forall_mem_cons.2 ⟨h0, List.forall_mem_cons.2 ⟨h1, fun _ h => nomatch h⟩⟩⟩
theorem tc196 : EntTOk Tryz.prog c196 := ent_cases (cs := kc196) (by kernel_rfl) (List.forall_mem_cons.2 ⟨tc196_0, List.forall_mem_cons.2 ⟨tc196_1, List.forall_mem_cons.2 ⟨tc196_2, List.forall_mem_cons.2 ⟨tc196_3, List.forall_mem_cons.2 ⟨tc196_4, List.forall_mem_cons.2 ⟨tc196_5, (fun _ h => nomatch h)⟩⟩⟩⟩⟩⟩) (List.forall_mem_cons.2 ⟨rfl, List.forall_mem_cons.2 ⟨rfl, List.forall_mem_cons.2 ⟨rfl, List.forall_mem_cons.2 ⟨rfl, List.forall_mem_cons.2 ⟨rfl, List.forall_mem_cons.2 ⟨rfl, (fun _ h => nomatch h)⟩⟩⟩⟩⟩⟩) (by kernel_rfl) ac196 (entry_of apOk (af := af115) rfl)
noncomputable def c168 : EntT := ⟨115, [(0, 0, 4096), (1, 0, 1125899906842624), (2, 1, 1073741824), (3, 0, 1125899906842624), (4, 1, 1073741824), (5, 0, 2), (6, 1, 3)], [((-1), [(5, (-1)), (6, 1)]), (0, [(0, 1), (3, (-1))]), (0, [(0, 1), (1, (-1))]), ((-1), [(0, (-1)), (1, 1), (3, 1)])], [], [vS 0 1 0 2 3 none, vL 5070602400912917605986812821515, vS 1 1 0 2 1 (some 2)], [(0, x85), (1, x66), (2, x65), (3, x58), (4, x59), (5, x60)], 6, vS 46 1 0 2 1 (some 2), [(46, x64)], 67⟩
noncomputable def c168_0 : EntT := ⟨115, c168.bs, c168.fs, c168.ds, [vS 0 1 0 2 3 none, vL 5070602400912917605986812821515, vS 1 1 0 2 1 (some 2)], [(0, x67), (1, x66), (2, x65), (3, x58), (4, x59), (5, x60)], 6, vS 46 1 0 2 1 (some 2), [(46, x64)], 67⟩
noncomputable def lc168_0 : Lib := []
theorem lc168_0_ok : LibOk Tryz.prog lc168_0 := trivial
theorem tc168_0 : EntTOk Tryz.prog c168_0 := ent lc168_0_ok (by kernel_rfl)
noncomputable def c168_1 : EntT := ⟨115, c168.bs, c168.fs, c168.ds, [vS 0 1 0 2 3 none, vL 5070602400912917605986812821515, vS 1 1 0 2 1 (some 2)], [(0, x68), (1, x66), (2, x65), (3, x58), (4, x59), (5, x60)], 6, vS 46 1 0 2 1 (some 2), [(46, x64)], 67⟩
noncomputable def lc168_1 : Lib := []
theorem lc168_1_ok : LibOk Tryz.prog lc168_1 := trivial
theorem tc168_1 : EntTOk Tryz.prog c168_1 := ent lc168_1_ok (by kernel_rfl)
noncomputable def c168_2 : EntT := ⟨115, c168.bs, c168.fs, c168.ds, [vS 0 1 0 2 3 none, vL 5070602400912917605986812821515, vS 1 1 0 2 1 (some 2)], [(0, x69), (1, x66), (2, x65), (3, x58), (4, x59), (5, x60)], 6, vS 46 1 0 2 1 (some 2), [(46, x64)], 67⟩
noncomputable def lc168_2 : Lib := []
theorem lc168_2_ok : LibOk Tryz.prog lc168_2 := trivial
theorem tc168_2 : EntTOk Tryz.prog c168_2 := ent lc168_2_ok (by kernel_rfl)
noncomputable def c168_3 : EntT := ⟨115, c168.bs, c168.fs, c168.ds, [vS 0 1 0 2 3 none, vL 5070602400912917605986812821515, vS 1 1 0 2 1 (some 2)], [(0, x70), (1, x66), (2, x65), (3, x58), (4, x59), (5, x60)], 6, vS 46 1 0 2 1 (some 2), [(46, x64)], 67⟩
noncomputable def lc168_3 : Lib := []
theorem lc168_3_ok : LibOk Tryz.prog lc168_3 := trivial
theorem tc168_3 : EntTOk Tryz.prog c168_3 := ent lc168_3_ok (by kernel_rfl)
noncomputable def c168_4 : EntT := ⟨115, c168.bs, c168.fs, c168.ds, [vS 0 1 0 2 3 none, vL 5070602400912917605986812821515, vS 1 1 0 2 1 (some 2)], [(0, x71), (1, x66), (2, x65), (3, x58), (4, x59), (5, x60)], 6, vS 46 1 0 2 1 (some 2), [(46, x64)], 67⟩
noncomputable def lc168_4 : Lib := []
theorem lc168_4_ok : LibOk Tryz.prog lc168_4 := trivial
theorem tc168_4 : EntTOk Tryz.prog c168_4 := ent lc168_4_ok (by kernel_rfl)
noncomputable def c168_5 : EntT := ⟨115, c168.bs, c168.fs, c168.ds, [vS 0 1 0 2 3 none, vL 5070602400912917605986812821515, vS 1 1 0 2 1 (some 2)], [(0, x72), (1, x66), (2, x65), (3, x58), (4, x59), (5, x60)], 6, vS 46 1 0 2 1 (some 2), [(46, x64)], 67⟩
noncomputable def lc168_5 : Lib := []
theorem lc168_5_ok : LibOk Tryz.prog lc168_5 := trivial
theorem tc168_5 : EntTOk Tryz.prog c168_5 := ent lc168_5_ok (by kernel_rfl)
noncomputable def kc168 : List (List (Nat × Int) × EntT) := [([(5, 0), (6, 1)], c168_0), ([(5, 0), (6, 2)], c168_1), ([(5, 0), (6, 3)], c168_2), ([(5, 1), (6, 2)], c168_3), ([(5, 1), (6, 3)], c168_4), ([(5, 2), (6, 3)], c168_5)]
theorem ac168 (u : Asg) (h : c168.sp.has u) : ∃ p ∈ kc168, ∀ q ∈ p.1, u q.1 = q.2 := by
  have b5 : (0 : Int) ≤ u 5 ∧ u 5 ≤ 2 := by have := h.bd 5; rw [show c168.sp.lim 5 = (0, 2) by kernel_rfl] at this; exact this
  have b6 : (1 : Int) ≤ u 6 ∧ u 6 ≤ 3 := by have := h.bd 6; rw [show c168.sp.lim 6 = (1, 3) by kernel_rfl] at this; exact this
  have f0 : 0 ≤ (-1 : Int) + ((-1) * u 5 + (1 * u 6 + 0)) := h.fs (-1, [(5, -1), (6, 1)]) (List.mem_cons_self ..)
  have hd : (u 5 = 0 ∧ u 6 = 1) ∨ (u 5 = 0 ∧ u 6 = 2) ∨ (u 5 = 0 ∧ u 6 = 3) ∨ (u 5 = 1 ∧ u 6 = 2) ∨ (u 5 = 1 ∧ u 6 = 3) ∨ (u 5 = 2 ∧ u 6 = 3) := by omega
  rcases hd with ⟨h0, h1⟩ | ⟨h0, h1⟩ | ⟨h0, h1⟩ | ⟨h0, h1⟩ | ⟨h0, h1⟩ | ⟨h0, h1⟩
  · exact ⟨_, List.mem_cons_self, List.forall_mem_cons.2 ⟨h0, List.forall_mem_cons.2 ⟨h1, fun _ h => nomatch h⟩⟩⟩
  · exact ⟨_, List.mem_cons_of_mem _ (List.mem_cons_self), List.forall_mem_cons.2 ⟨h0, List.forall_mem_cons.2 ⟨h1, fun _ h => nomatch h⟩⟩⟩
  · exact ⟨_, List.mem_cons_of_mem _ (List.mem_cons_of_mem _ (List.mem_cons_self)), List.forall_mem_cons.2 ⟨h0, List.forall_mem_cons.2 ⟨h1, fun _ h => nomatch h⟩⟩⟩
  · exact ⟨_, List.mem_cons_of_mem _ (List.mem_cons_of_mem _ (List.mem_cons_of_mem _ (List.mem_cons_self))), List.forall_mem_cons.2 ⟨h0, List.forall_mem_cons.2 ⟨h1, fun _ h => nomatch h⟩⟩⟩
  · exact ⟨_, List.mem_cons_of_mem _ (List.mem_cons_of_mem _ (List.mem_cons_of_mem _ (List.mem_cons_of_mem _ (List.mem_cons_self)))), List.forall_mem_cons.2 ⟨h0, List.forall_mem_cons.2 ⟨h1, fun _ h => nomatch h⟩⟩⟩
  · exact ⟨_, List.mem_cons_of_mem _ (List.mem_cons_of_mem _ (List.mem_cons_of_mem _ (List.mem_cons_of_mem _ (List.mem_cons_of_mem _ (List.mem_cons_self))))), List.forall_mem_cons.2 ⟨h0, List.forall_mem_cons.2 ⟨h1, fun _ h => nomatch h⟩⟩⟩
theorem tc168 : EntTOk Tryz.prog c168 := ent_cases (cs := kc168) (by kernel_rfl) (List.forall_mem_cons.2 ⟨tc168_0, List.forall_mem_cons.2 ⟨tc168_1, List.forall_mem_cons.2 ⟨tc168_2, List.forall_mem_cons.2 ⟨tc168_3, List.forall_mem_cons.2 ⟨tc168_4, List.forall_mem_cons.2 ⟨tc168_5, (fun _ h => nomatch h)⟩⟩⟩⟩⟩⟩) (List.forall_mem_cons.2 ⟨rfl, List.forall_mem_cons.2 ⟨rfl, List.forall_mem_cons.2 ⟨rfl, List.forall_mem_cons.2 ⟨rfl, List.forall_mem_cons.2 ⟨rfl, List.forall_mem_cons.2 ⟨rfl, (fun _ h => nomatch h)⟩⟩⟩⟩⟩⟩) (by kernel_rfl) ac168 (entry_of apOk (af := af115) rfl)
noncomputable def c184 : EntT := ⟨115, [(0, 0, 4096), (1, 0, 1125899906842624), (2, 0, 1125899906842624), (3, 1, 1073741824), (4, (-1125899906842624), (-1)), (5, 0, 1125899906842624), (7, 1, 3)], [(0, [(0, 1), (2, (-1))])], [], [vS 0 1 0 2 3 none, vL 5070602400912917605986812821515, vS 1 1 0 2 1 (some 2)], [(0, x81), (1, x64), (2, x58), (3, x59), (4, x60), (5, x61)], 6, vS 36 1 0 2 1 (some 2), [(36, x64)], 56⟩
noncomputable def c184_0 : EntT := ⟨115, c184.bs, c184.fs, c184.ds, [vS 0 1 0 2 3 none, vL 5070602400912917605986812821515, vS 1 1 0 2 1 (some 2)], [(0, x83), (1, x64), (2, x58), (3, x59), (4, x60), (5, x61)], 6, vS 36 1 0 2 1 (some 2), [(36, x64)], 56⟩
noncomputable def lc184_0 : Lib := []
theorem lc184_0_ok : LibOk Tryz.prog lc184_0 := trivial
theorem tc184_0 : EntTOk Tryz.prog c184_0 := ent lc184_0_ok (by kernel_rfl)
noncomputable def c184_1 : EntT := ⟨115, c184.bs, c184.fs, c184.ds, [vS 0 1 0 2 3 none, vL 5070602400912917605986812821515, vS 1 1 0 2 1 (some 2)], [(0, x84), (1, x64), (2, x58), (3, x59), (4, x60), (5, x61)], 6, vS 36 1 0 2 1 (some 2), [(36, x64)], 56⟩
noncomputable def lc184_1 : Lib := []
theorem lc184_1_ok : LibOk Tryz.prog lc184_1 := trivial
theorem tc184_1 : EntTOk Tryz.prog c184_1 := ent lc184_1_ok (by kernel_rfl)
noncomputable def c184_2 : EntT := ⟨115, c184.bs, c184.fs, c184.ds, [vS 0 1 0 2 3 none, vL 5070602400912917605986812821515, vS 1 1 0 2 1 (some 2)], [(0, x86), (1, x64), (2, x58), (3, x59), (4, x60), (5, x61)], 6, vS 36 1 0 2 1 (some 2), [(36, x64)], 56⟩
noncomputable def lc184_2 : Lib := []
theorem lc184_2_ok : LibOk Tryz.prog lc184_2 := trivial
theorem tc184_2 : EntTOk Tryz.prog c184_2 := ent lc184_2_ok (by kernel_rfl)
noncomputable def kc184 : List (List (Nat × Int) × EntT) := [([(7, 1)], c184_0), ([(7, 2)], c184_1), ([(7, 3)], c184_2)]
theorem ac184 (u : Asg) (h : c184.sp.has u) : ∃ p ∈ kc184, ∀ q ∈ p.1, u q.1 = q.2 := by
  have b7 : (1 : Int) ≤ u 7 ∧ u 7 ≤ 3 := by have := h.bd 7; rw [show c184.sp.lim 7 = (1, 3) by kernel_rfl] at this; exact this
  have hd : (u 7 = 1) ∨ (u 7 = 2) ∨ (u 7 = 3) := by omega
  rcases hd with h0 | h0 | h0
  · exact ⟨_, List.mem_cons_self, List.forall_mem_cons.2 ⟨h0, fun _ h => nomatch h⟩⟩
  · exact ⟨_, List.mem_cons_of_mem _ (List.mem_cons_self), List.forall_mem_cons.2 ⟨h0, fun _ h => nomatch h⟩⟩
  · exact ⟨_, List.mem_cons_of_mem _ (List.mem_cons_of_mem _ (List.mem_cons_self)), List.forall_mem_cons.2 ⟨h0, fun _ h => nomatch h⟩⟩
theorem tc184 : EntTOk Tryz.prog c184 := ent_cases (cs := kc184) (by kernel_rfl) (List.forall_mem_cons.2 ⟨tc184_0, List.forall_mem_cons.2 ⟨tc184_1, List.forall_mem_cons.2 ⟨tc184_2, (fun _ h => nomatch h)⟩⟩⟩) (List.forall_mem_cons.2 ⟨rfl, List.forall_mem_cons.2 ⟨rfl, List.forall_mem_cons.2 ⟨rfl, (fun _ h => nomatch h)⟩⟩⟩) (by kernel_rfl) ac184 (entry_of apOk (af := af115) rfl)
noncomputable def c211 : EntT := ⟨115, [(0, 0, 4096), (1, 0, 1125899906842624), (2, (-1125899906842624), (-1)), (3, 0, 1125899906842624), (4, 0, 1125899906842624), (5, 1, 1073741824), (6, 0, 2)], [(0, [(0, 1), (4, (-1))])], [], [vS 0 1 0 2 3 none, vL 5070602400912917605986812821515, vS 1 1 0 2 1 (some 2)], [(0, .cells [vL 5071221370932560296124262383627, vS 2 0 0 1 1 none, vS 3 0 0 1 1 none, vL 5074316221030773746811510194187, vS 4 0 0 1 1 none, vS 5 0 0 1 1 none] 1 0 true), (1, x74), (2, x58), (3, x59), (4, x60), (5, x61)], 6, vS 27 1 0 2 1 (some 2), [(27, x74)], 47⟩
noncomputable def c211_0 : EntT := ⟨115, c211.bs, c211.fs, c211.ds, [vS 0 1 0 2 3 none, vL 5070602400912917605986812821515, vS 1 1 0 2 1 (some 2)], [(0, x87), (1, x74), (2, x58), (3, x59), (4, x60), (5, x61)], 6, vS 27 1 0 2 1 (some 2), [(27, x74)], 47⟩
noncomputable def lc211_0 : Lib := []
theorem lc211_0_ok : LibOk Tryz.prog lc211_0 := trivial
theorem tc211_0 : EntTOk Tryz.prog c211_0 := ent lc211_0_ok (by kernel_rfl)
noncomputable def c211_1 : EntT := ⟨115, c211.bs, c211.fs, c211.ds, [vS 0 1 0 2 3 none, vL 5070602400912917605986812821515, vS 1 1 0 2 1 (some 2)], [(0, x88), (1, x74), (2, x58), (3, x59), (4, x60), (5, x61)], 6, vS 27 1 0 2 1 (some 2), [(27, x74)], 47⟩
noncomputable def lc211_1 : Lib := []
theorem lc211_1_ok : LibOk Tryz.prog lc211_1 := trivial
theorem tc211_1 : EntTOk Tryz.prog c211_1 := ent lc211_1_ok (by kernel_rfl)
noncomputable def c211_2 : EntT := ⟨115, c211.bs, c211.fs, c211.ds, [vS 0 1 0 2 3 none, vL 5070602400912917605986812821515, vS 1 1 0 2 1 (some 2)], [(0, x89), (1, x74), (2, x58), (3, x59), (4, x60), (5, x61)], 6, vS 27 1 0 2 1 (some 2), [(27, x74)], 47⟩
noncomputable def lc211_2 : Lib := []
theorem lc211_2_ok : LibOk Tryz.prog lc211_2 := trivial
theorem tc211_2 : EntTOk Tryz.prog c211_2 := ent lc211_2_ok (by kernel_rfl)
noncomputable def kc211 : List (List (Nat × Int) × EntT) := [([(6, 0)], c211_0), ([(6, 1)], c211_1), ([(6, 2)], c211_2)]
theorem ac211 (u : Asg) (h : c211.sp.has u) : ∃ p ∈ kc211, ∀ q ∈ p.1, u q.1 = q.2 := by
  have b6 : (0 : Int) ≤ u 6 ∧ u 6 ≤ 2 := by have := h.bd 6; rw [show c211.sp.lim 6 = (0, 2) by kernel_rfl] at this; exact this
  have hd : (u 6 = 0) ∨ (u 6 = 1) ∨ (u 6 = 2) := by omega
  rcases hd with h0 | h0 | h0
  · exact ⟨_, List.mem_cons_self, List.forall_mem_cons.2 ⟨h0, fun _ h => nomatch h⟩⟩
  · exact ⟨_, List.mem_cons_of_mem _ (List.mem_cons_self), List.forall_mem_cons.2 ⟨h0, fun _ h => nomatch h⟩⟩
  · exact ⟨_, List.mem_cons_of_mem _ (List.mem_cons_of_mem _ (List.mem_cons_self)), List.forall_mem_cons.2 ⟨h0, fun _ h => nomatch h⟩⟩
theorem tc211 : EntTOk Tryz.prog c211 := ent_cases (cs := kc211) (by kernel_rfl) (List.forall_mem_cons.2 ⟨tc211_0, List.forall_mem_cons.2 ⟨tc211_1, List.forall_mem_cons.2 ⟨tc211_2, (fun _ h => nomatch h)⟩⟩⟩) (List.forall_mem_cons.2 ⟨rfl, List.forall_mem_cons.2 ⟨rfl, List.forall_mem_cons.2 ⟨rfl, (fun _ h => nomatch h)⟩⟩⟩) (by kernel_rfl) ac211 (entry_of apOk (af := af115) rfl)
end Go.Proofs.YtidhpcjbllnjgaaGreatA
