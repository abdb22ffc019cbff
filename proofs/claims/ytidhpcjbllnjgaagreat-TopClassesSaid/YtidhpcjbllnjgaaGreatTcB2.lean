/- Calls told ahead, for any classes: by cases. -/
import Derived.Test.YtidhpcjbllnjgaaGreatTcA
set_option linter.unusedVariables false
set_option maxRecDepth 1000000
namespace Go.Proofs.YtidhpcjbllnjgaaGreatA
open Go.RowKit
noncomputable def c190 : EntT := ⟨115, [(0, 0, 4096), (1, 0, 1125899906842624), (2, 1, 1073741824), (3, 0, 1125899906842624), (4, 1, 1073741824), (5, 0, 512), (6, 0, 2), (7, 1, 3)], [((-1), [(6, (-1)), (7, 1)]), (0, [(0, 1), (3, (-1))]), (0, [(0, 1), (1, (-1))]), (0, [(0, 1), (1, (-1)), (3, (-1))]), (0, [(0, 1), (5, (-8))]), (7, [(0, (-1)), (5, 8)]), (0, [(0, 1), (1, (-1)), (3, (-1)), (5, (-1))])], [((0, [(5, 1)]), (0, [(0, 1)]), 8)], [vS 0 1 0 2 3 none, vL 5070602400912917605986812821515, vS 1 1 0 2 1 (some 2)], [(0, .cells [vL 5074935191050416436948959756299, vS 2 0 0 1 1 none, vS 3 0 0 1 1 none, vL 5074316221030773746811510194187, vS 4 0 0 1 1 none, vS 5 0 0 1 1 none] 1 0 true), (1, x64), (2, x65), (3, x58), (4, x59), (5, x60)], 6, vS 59 1 0 2 1 (some 2), [(59, x66)], 79⟩
noncomputable def c190_0 : EntT := ⟨115, c190.bs, c190.fs, c190.ds, [vS 0 1 0 2 3 none, vL 5070602400912917605986812821515, vS 1 1 0 2 1 (some 2)], [(0, x75), (1, x64), (2, x65), (3, x58), (4, x59), (5, x60)], 6, vS 59 1 0 2 1 (some 2), [(59, x66)], 79⟩
noncomputable def lc190_0 : Lib := []
theorem lc190_0_ok : LibOk Tryz.prog lc190_0 := trivial
theorem tc190_0 : EntTOk Tryz.prog c190_0 := ent lc190_0_ok (by kernel_rfl)
noncomputable def c190_1 : EntT := ⟨115, c190.bs, c190.fs, c190.ds, [vS 0 1 0 2 3 none, vL 5070602400912917605986812821515, vS 1 1 0 2 1 (some 2)], [(0, x76), (1, x64), (2, x65), (3, x58), (4, x59), (5, x60)], 6, vS 59 1 0 2 1 (some 2), [(59, x66)], 79⟩
noncomputable def lc190_1 : Lib := []
theorem lc190_1_ok : LibOk Tryz.prog lc190_1 := trivial
theorem tc190_1 : EntTOk Tryz.prog c190_1 := ent lc190_1_ok (by kernel_rfl)
noncomputable def c190_2 : EntT := ⟨115, c190.bs, c190.fs, c190.ds, [vS 0 1 0 2 3 none, vL 5070602400912917605986812821515, vS 1 1 0 2 1 (some 2)], [(0, x77), (1, x64), (2, x65), (3, x58), (4, x59), (5, x60)], 6, vS 59 1 0 2 1 (some 2), [(59, x66)], 79⟩
noncomputable def lc190_2 : Lib := []
theorem lc190_2_ok : LibOk Tryz.prog lc190_2 := trivial
theorem tc190_2 : EntTOk Tryz.prog c190_2 := ent lc190_2_ok (by kernel_rfl)
noncomputable def c190_3 : EntT := ⟨115, c190.bs, c190.fs, c190.ds, [vS 0 1 0 2 3 none, vL 5070602400912917605986812821515, vS 1 1 0 2 1 (some 2)], [(0, x78), (1, x64), (2, x65), (3, x58), (4, x59), (5, x60)], 6, vS 59 1 0 2 1 (some 2), [(59, x66)], 79⟩
noncomputable def lc190_3 : Lib := []
theorem lc190_3_ok : LibOk Tryz.prog lc190_3 := trivial
theorem tc190_3 : EntTOk Tryz.prog c190_3 := ent lc190_3_ok (by kernel_rfl)
noncomputable def c190_4 : EntT := ⟨115, c190.bs, c190.fs, c190.ds, [vS 0 1 0 2 3 none, vL 5070602400912917605986812821515, vS 1 1 0 2 1 (some 2)], [(0, x79), (1, x64), (2, x65), (3, x58), (4, x59), (5, x60)], 6, vS 59 1 0 2 1 (some 2), [(59, x66)], 79⟩
noncomputable def lc190_4 : Lib := []
theorem lc190_4_ok : LibOk Tryz.prog lc190_4 := trivial
theorem tc190_4 : EntTOk Tryz.prog c190_4 := ent lc190_4_ok (by kernel_rfl)
noncomputable def c190_5 : EntT := ⟨115, c190.bs, c190.fs, c190.ds, [vS 0 1 0 2 3 none, vL 5070602400912917605986812821515, vS 1 1 0 2 1 (some 2)], [(0, x80), (1, x64), (2, x65), (3, x58), (4, x59), (5, x60)], 6, vS 59 1 0 2 1 (some 2), [(59, x66)], 79⟩
noncomputable def lc190_5 : Lib := []
theorem lc190_5_ok : LibOk Tryz.prog lc190_5 := trivial
theorem tc190_5 : EntTOk Tryz.prog c190_5 := ent lc190_5_ok (by kernel_rfl)
noncomputable def kc190 : List (List (Nat × Int) × EntT) := [([(6, 0), (7, 1)], c190_0), ([(6, 0), (7, 2)], c190_1), ([(6, 0), (7, 3)], c190_2), ([(6, 1), (7, 2)], c190_3), ([(6, 1), (7, 3)], c190_4), ([(6, 2), (7, 3)], c190_5)]
theorem ac190 (u : Asg) (h : c190.sp.has u) : ∃ p ∈ kc190, ∀ q ∈ p.1, u q.1 = q.2 := by
  have b6 : (0 : Int) ≤ u 6 ∧ u 6 ≤ 2 := by have := h.bd 6; rw [show c190.sp.lim 6 = (0, 2) by kernel_rfl] at this; exact this
  have b7 : (1 : Int) ≤ u 7 ∧ u 7 ≤ 3 := by have := h.bd 7; rw [show c190.sp.lim 7 = (1, 3) by kernel_rfl] at this; exact this
  have f0 : 0 ≤ (-1 : Int) + ((-1) * u 6 + (1 * u 7 + 0)) := h.fs (-1, [(6, -1), (7, 1)]) (List.mem_cons_self ..)
  have hd : (u 6 = 0 ∧ u 7 = 1) ∨ (u 6 = 0 ∧ u 7 = 2) ∨ (u 6 = 0 ∧ u 7 = 3) ∨ (u 6 = 1 ∧ u 7 = 2) ∨ (u 6 = 1 ∧ u 7 = 3) ∨ (u 6 = 2 ∧ u 7 = 3) := by omega
  rcases hd with ⟨h0, h1⟩ | ⟨h0, h1⟩ | ⟨h0, h1⟩ | ⟨h0, h1⟩ | ⟨h0, h1⟩ | ⟨h0, h1⟩
  · exact ⟨_, List.mem_cons_self, List.forall_mem_cons.2 ⟨h0, List.forall_mem_cons.2 ⟨h1, fun _ h => nomatch h⟩⟩⟩
  · exact ⟨_, List.mem_cons_of_mem _ (List.mem_cons_self), List.forall_mem_cons.2 ⟨h0, List.forall_mem_cons.2 ⟨h1, fun _ h => nomatch h⟩⟩⟩
  · exact ⟨_, List.mem_cons_of_mem _ (List.mem_cons_of_mem _ (List.mem_cons_self)), List.forall_mem_cons.2 ⟨h0, List.forall_mem_cons.2 ⟨h1, fun _ h => nomatch h⟩⟩⟩
  · exact ⟨_, List.mem_cons_of_mem _ (List.mem_cons_of_mem _ (List.mem_cons_of_mem _ (List.mem_cons_self))), List.forall_mem_cons.2 ⟨h0, List.forall_mem_cons.2 ⟨h1, fun _ h => nomatch h⟩⟩⟩
  · exact ⟨_, List.mem_cons_of_mem _ (List.mem_cons_of_mem _ (List.mem_cons_of_mem _ (List.mem_cons_of_mem _ (List.mem_cons_self)))), List.forall_mem_cons.2 ⟨h0, List.forall_mem_cons.2 ⟨h1, fun _ h => nomatch h⟩⟩⟩
  · exact ⟨_, List.mem_cons_of_mem _ (List.mem_cons_of_mem _ (List.mem_cons_of_mem _ (List.mem_cons_of_mem _ (List.mem_cons_of_mem _ (List.mem_cons_self))))), List.forall_mem_cons.2 ⟨h0, List.forall_mem_cons.2 ⟨h1, fun _ h => nomatch h⟩⟩⟩
theorem tc190 : EntTOk Tryz.prog c190 := ent_cases (cs := kc190) (by kernel_rfl) (List.forall_mem_cons.2 ⟨tc190_0, List.forall_mem_cons.2 ⟨tc190_1, List.forall_mem_cons.2 ⟨tc190_2, List.forall_mem_cons.2 ⟨tc190_3, List.forall_mem_cons.2 ⟨tc190_4, List.forall_mem_cons.2 ⟨tc190_5, (fun _ h => nomatch h)⟩⟩⟩⟩⟩⟩) (List.forall_mem_cons.2 ⟨rfl, List.forall_mem_cons.2 ⟨rfl, List.forall_mem_cons.2 ⟨rfl, List.forall_mem_cons.2 ⟨rfl, List.forall_mem_cons.2 ⟨rfl, List.forall_mem_cons.2 ⟨rfl, (fun _ h => nomatch h)⟩⟩⟩⟩⟩⟩) (by kernel_rfl) ac190 (entry_of apOk (af := af115) rfl)
noncomputable def c174 : EntT := ⟨115, [(0, 0, 4096), (1, 0, 1125899906842624), (2, 1, 1073741824), (3, 0, 1125899906842624), (4, 1, 1073741824), (5, 0, 2), (6, 1, 3)], [((-1), [(5, (-1)), (6, 1)]), (0, [(0, 1), (3, (-1))]), (0, [(0, 1), (1, (-1))]), ((-1), [(0, (-1)), (1, 1), (3, 1)])], [], [vS 0 1 0 2 3 none, vL 5070602400912917605986812821515, vS 1 1 0 2 1 (some 2)], [(0, x85), (1, x64), (2, x65), (3, x58), (4, x59), (5, x60)], 6, vS 46 1 0 2 1 (some 2), [(46, x64)], 66⟩
noncomputable def c174_0 : EntT := ⟨115, c174.bs, c174.fs, c174.ds, [vS 0 1 0 2 3 none, vL 5070602400912917605986812821515, vS 1 1 0 2 1 (some 2)], [(0, x67), (1, x64), (2, x65), (3, x58), (4, x59), (5, x60)], 6, vS 46 1 0 2 1 (some 2), [(46, x64)], 66⟩
noncomputable def lc174_0 : Lib := []
theorem lc174_0_ok : LibOk Tryz.prog lc174_0 := trivial
theorem tc174_0 : EntTOk Tryz.prog c174_0 := ent lc174_0_ok (by kernel_rfl)
noncomputable def c174_1 : EntT := ⟨115, c174.bs, c174.fs, c174.ds, [vS 0 1 0 2 3 none, vL 5070602400912917605986812821515, vS 1 1 0 2 1 (some 2)], [(0, x68), (1, x64), (2, x65), (3, x58), (4, x59), (5, x60)], 6, vS 46 1 0 2 1 (some 2), [(46, x64)], 66⟩
noncomputable def lc174_1 : Lib := []
theorem lc174_1_ok : LibOk Tryz.prog lc174_1 := trivial
theorem tc174_1 : EntTOk Tryz.prog c174_1 := ent lc174_1_ok (by kernel_rfl)
noncomputable def c174_2 : EntT := ⟨115, c174.bs, c174.fs, c174.ds, [vS 0 1 0 2 3 none, vL 5070602400912917605986812821515, vS 1 1 0 2 1 (some 2)], [(0, x69), (1, x64), (2, x65), (3, x58), (4, x59), (5, x60)], 6, vS 46 1 0 2 1 (some 2), [(46, x64)], 66⟩
noncomputable def lc174_2 : Lib := []
theorem lc174_2_ok : LibOk Tryz.prog lc174_2 := trivial
theorem tc174_2 : EntTOk Tryz.prog c174_2 := ent lc174_2_ok (by kernel_rfl)
noncomputable def c174_3 : EntT := ⟨115, c174.bs, c174.fs, c174.ds, [vS 0 1 0 2 3 none, vL 5070602400912917605986812821515, vS 1 1 0 2 1 (some 2)], [(0, x70), (1, x64), (2, x65), (3, x58), (4, x59), (5, x60)], 6, vS 46 1 0 2 1 (some 2), [(46, x64)], 66⟩
noncomputable def lc174_3 : Lib := []
theorem lc174_3_ok : LibOk Tryz.prog lc174_3 := trivial
theorem tc174_3 : EntTOk Tryz.prog c174_3 := ent lc174_3_ok (by kernel_rfl)
noncomputable def c174_4 : EntT := ⟨115, c174.bs, c174.fs, c174.ds, [vS 0 1 0 2 3 none, vL 5070602400912917605986812821515, vS 1 1 0 2 1 (some 2)], [(0, x71), (1, x64), (2, x65), (3, x58), (4, x59), (5, x60)], 6, vS 46 1 0 2 1 (some 2), [(46, x64)], 66⟩
noncomputable def lc174_4 : Lib := []
theorem lc174_4_ok : LibOk Tryz.prog lc174_4 := trivial
theorem tc174_4 : EntTOk Tryz.prog c174_4 := ent lc174_4_ok (by kernel_rfl)
noncomputable def c174_5 : EntT := ⟨115, c174.bs, c174.fs, c174.ds, [vS 0 1 0 2 3 none, vL 5070602400912917605986812821515, vS 1 1 0 2 1 (some 2)], [(0, x72), (1, x64), (2, x65), (3, x58), (4, x59), (5, x60)], 6, vS 46 1 0 2 1 (some 2), [(46, x64)], 66⟩
noncomputable def lc174_5 : Lib := []
theorem lc174_5_ok : LibOk Tryz.prog lc174_5 := trivial
theorem tc174_5 : EntTOk Tryz.prog c174_5 := ent lc174_5_ok (by kernel_rfl)
noncomputable def kc174 : List (List (Nat × Int) × EntT) := [([(5, 0), (6, 1)], c174_0), ([(5, 0), (6, 2)], c174_1), ([(5, 0), (6, 3)], c174_2), ([(5, 1), (6, 2)], c174_3), ([(5, 1), (6, 3)], c174_4), ([(5, 2), (6, 3)], c174_5)]
theorem ac174 (u : Asg) (h : c174.sp.has u) : ∃ p ∈ kc174, ∀ q ∈ p.1, u q.1 = q.2 := by
  have b5 : (0 : Int) ≤ u 5 ∧ u 5 ≤ 2 := by have := h.bd 5; rw [show c174.sp.lim 5 = (0, 2) by kernel_rfl] at this; exact this
  have b6 : (1 : Int) ≤ u 6 ∧ u 6 ≤ 3 := by have := h.bd 6; rw [show c174.sp.lim 6 = (1, 3) by kernel_rfl] at this; exact this
  have f0 : 0 ≤ (-1 : Int) + ((-1) * u 5 + (1 * u 6 + 0)) := h.fs (-1, [(5, -1), (6, 1)]) (List.mem_cons_self ..)
  have hd : (u 5 = 0 ∧ u 6 = 1) ∨ (u 5 = 0 ∧ u 6 = 2) ∨ (u 5 = 0 ∧ u 6 = 3) ∨ (u 5 = 1 ∧ u 6 = 2) ∨ (u 5 = 1 ∧ u 6 = 3) ∨ (u 5 = 2 ∧ u 6 = 3) := by omega
  rcases hd with ⟨h0, h1⟩ | ⟨h0, h1⟩ | ⟨h0, h1⟩ | ⟨h0, h1⟩ | ⟨h0, h1⟩ | ⟨h0, h1⟩
  · exact ⟨_, List.mem_cons_self, List.forall_mem_cons.2 ⟨h0, List.forall_mem_cons.2 ⟨h1, fun _ h => nomatch h⟩⟩⟩
  · exact ⟨_, List.mem_cons_of_mem _ (List.mem_cons_self), List.forall_mem_cons.2 ⟨h0, List.forall_mem_cons.2 ⟨h1, fun _ h => nomatch h⟩⟩⟩
  · exact ⟨_, List.mem_cons_of_mem _ (List.mem_cons_of_mem _ (List.mem_cons_self)), List.forall_mem_cons.2 ⟨h0, List.forall_mem_cons.2 ⟨h1, fun _ h => nomatch h⟩⟩⟩
  · exact ⟨_, List.mem_cons_of_mem _ (List.mem_cons_of_mem _ (List.mem_cons_of_mem _ (List.mem_cons_self))), List.forall_mem_cons.2 ⟨h0, List.forall_mem_cons.2 ⟨h1, fun _ h => nomatch h⟩⟩⟩
  · exact ⟨_, List.mem_cons_of_mem _ (List.mem_cons_of_mem _ (List.mem_cons_of_mem _ (List.mem_cons_of_mem _ (List.mem_cons_self)))), List.forall_mem_cons.2 ⟨h0, List.forall_mem_cons.2 ⟨h1, fun _ h => nomatch h⟩⟩⟩
  · exact ⟨_, List.mem_cons_of_mem _ (List.mem_cons_of_mem _ (List.mem_cons_of_mem _ (List.mem_cons_of_mem _ (List.mem_cons_of_mem _ (List.mem_cons_self))))), List.forall_mem_cons.2 ⟨h0, List.forall_mem_cons.2 ⟨h1, fun _ h => nomatch h⟩⟩⟩
theorem tc174 : EntTOk Tryz.prog c174 := ent_cases (cs := kc174) (by kernel_rfl) (List.forall_mem_cons.2 ⟨tc174_0, List.forall_mem_cons.2 ⟨tc174_1, List.forall_mem_cons.2 ⟨tc174_2, List.forall_mem_cons.2 ⟨tc174_3, List.forall_mem_cons.2 ⟨tc174_4, List.forall_mem_cons.2 ⟨tc174_5, (fun _ h => nomatch h)⟩⟩⟩⟩⟩⟩) (List.forall_mem_cons.2 ⟨rfl, List.forall_mem_cons.2 ⟨rfl, List.forall_mem_cons.2 ⟨rfl, List.forall_mem_cons.2 ⟨rfl, List.forall_mem_cons.2 ⟨rfl, List.forall_mem_cons.2 ⟨rfl, (fun _ h => nomatch h)⟩⟩⟩⟩⟩⟩) (by kernel_rfl) ac174 (entry_of apOk (af := af115) rfl)
noncomputable def c150 : EntT := ⟨115, [(0, 0, 4096), (1, 0, 1125899906842624), (2, 0, 1125899906842624), (3, 1, 1073741824), (4, (-1125899906842624), (-1)), (5, 0, 1125899906842624), (6, 0, 2)], [(0, [(0, 1), (2, (-1))])], [], [vS 0 1 0 2 3 none, vL 5070602400912917605986812821515, vS 1 1 0 2 1 (some 2)], [(0, .cells [vL 5074316221030773746811510194187, vS 2 0 0 1 1 none, vS 3 0 0 1 1 none, vL 5071221370932560296124262383627, vS 4 0 0 1 1 none, vS 5 0 0 1 1 none] 1 0 true), (1, x64), (2, x58), (3, x59), (4, x60), (5, x61)], 6, vS 36 1 0 2 1 (some 2), [(36, x64)], 56⟩
noncomputable def c150_0 : EntT := ⟨115, c150.bs, c150.fs, c150.ds, [vS 0 1 0 2 3 none, vL 5070602400912917605986812821515, vS 1 1 0 2 1 (some 2)], [(0, x82), (1, x64), (2, x58), (3, x59), (4, x60), (5, x61)], 6, vS 36 1 0 2 1 (some 2), [(36, x64)], 56⟩
noncomputable def lc150_0 : Lib := []
theorem lc150_0_ok : LibOk Tryz.prog lc150_0 := trivial
theorem tc150_0 : EntTOk Tryz.prog c150_0 := ent lc150_0_ok (by kernel_rfl)
noncomputable def c150_1 : EntT := ⟨115, c150.bs, c150.fs, c150.ds, [vS 0 1 0 2 3 none, vL 5070602400912917605986812821515, vS 1 1 0 2 1 (some 2)], [(0, x83), (1, x64), (2, x58), (3, x59), (4, x60), (5, x61)], 6, vS 36 1 0 2 1 (some 2), [(36, x64)], 56⟩
noncomputable def lc150_1 : Lib := []
theorem lc150_1_ok : LibOk Tryz.prog lc150_1 := trivial
theorem tc150_1 : EntTOk Tryz.prog c150_1 := ent lc150_1_ok (by kernel_rfl)
noncomputable def c150_2 : EntT := ⟨115, c150.bs, c150.fs, c150.ds, [vS 0 1 0 2 3 none, vL 5070602400912917605986812821515, vS 1 1 0 2 1 (some 2)], [(0, x84), (1, x64), (2, x58), (3, x59), (4, x60), (5, x61)], 6, vS 36 1 0 2 1 (some 2), [(36, x64)], 56⟩
noncomputable def lc150_2 : Lib := []
theorem lc150_2_ok : LibOk Tryz.prog lc150_2 := trivial
theorem tc150_2 : EntTOk Tryz.prog c150_2 := ent lc150_2_ok (by kernel_rfl)
noncomputable def kc150 : List (List (Nat × Int) × EntT) := [([(6, 0)], c150_0), ([(6, 1)], c150_1), ([(6, 2)], c150_2)]
theorem ac150 (u : Asg) (h : c150.sp.has u) : ∃ p ∈ kc150, ∀ q ∈ p.1, u q.1 = q.2 := by
  have b6 : (0 : Int) ≤ u 6 ∧ u 6 ≤ 2 := by have := h.bd 6; rw [show c150.sp.lim 6 = (0, 2) by kernel_rfl] at this; exact this
  have hd : (u 6 = 0) ∨ (u 6 = 1) ∨ (u 6 = 2) := by omega
  rcases hd with h0 | h0 | h0
  · exact ⟨_, List.mem_cons_self, List.forall_mem_cons.2 ⟨h0, fun _ h => nomatch h⟩⟩
  · exact ⟨_, List.mem_cons_of_mem _ (List.mem_cons_self), List.forall_mem_cons.2 ⟨h0, fun _ h => nomatch h⟩⟩
  · exact ⟨_, List.mem_cons_of_mem _ (List.mem_cons_of_mem _ (List.mem_cons_self)), List.forall_mem_cons.2 ⟨h0, fun _ h => nomatch h⟩⟩
theorem tc150 : EntTOk Tryz.prog c150 := ent_cases (cs := kc150) (by kernel_rfl) (List.forall_mem_cons.2 ⟨tc150_0, List.forall_mem_cons.2 ⟨tc150_1, List.forall_mem_cons.2 ⟨tc150_2, (fun _ h => nomatch h)⟩⟩⟩) (List.forall_mem_cons.2 ⟨rfl, List.forall_mem_cons.2 ⟨rfl, List.forall_mem_cons.2 ⟨rfl, (fun _ h => nomatch h)⟩⟩⟩) (by kernel_rfl) ac150 (entry_of apOk (af := af115) rfl)
end Go.Proofs.YtidhpcjbllnjgaaGreatA
