/- The house is awake. -/
import Derived.Test.YtidhpcjbllnjgaaGreatTcP1
import Derived.Test.YtidhpcjbllnjgaaGreatTcP2
set_option linter.unusedVariables false
set_option maxRecDepth 1000000
namespace Go.Proofs.YtidhpcjbllnjgaaGreatA
open Go.RowKit
theorem P_tri (u : Asg) (hu : cP.sp.has u) : TriC Tryz.prog (dropS 3 af23.body) (gT u (tmOf P_T0)) (gS u (stO P_S0 491)) .ret (gT u (tmOf P_TE)) (gS u (stO P_SE 9894)) :=
  loop_tri P_e (part_of mixed (cal_ok lP_ok) P_x u hu) (rounds_of mixed (cal_ok lP_ok) P_g0 u hu (rounds_of mixed (cal_ok lP_ok) P_g1 u hu (rounds_of mixed (cal_ok lP_ok) P_g2 u hu (rounds_of mixed (cal_ok lP_ok) P_g3 u hu (rounds_of mixed (cal_ok lP_ok) P_g4 u hu (rounds_of mixed (cal_ok lP_ok) P_g5 u hu (rounds_of mixed (cal_ok lP_ok) P_g6 u hu (triL_exit (part_of mixed (cal_ok lP_ok) P_q u hu))))))))) (part_of mixed (cal_ok lP_ok) P_r u hu)
theorem tcP : EntTOk Tryz.prog cP := ent_tri apOk (af := af23) rfl rfl (by kernel_rfl) (l := P_TE) (o := P_SE) (n := 9894) (fun u hu => spine_of mixed (cal_ok lP_ok) P_a u hu (P_tri u hu)) (by kernel_rfl) (entry_of apOk (af := af23) rfl)
theorem lA_ok : LibOk Tryz.prog lA := ⟨List.forall_mem_cons.2 ⟨⟨rfl, tcP⟩, (fun _ h => nomatch h)⟩, ⟨List.forall_mem_cons.2 ⟨⟨rfl, tc0⟩, List.forall_mem_cons.2 ⟨⟨rfl, tc7⟩, List.forall_mem_cons.2 ⟨⟨rfl, tc12⟩, (fun _ h => nomatch h)⟩⟩⟩, ⟨List.forall_mem_cons.2 ⟨⟨rfl, tc98⟩, (fun _ h => nomatch h)⟩, ⟨List.forall_mem_cons.2 ⟨⟨rfl, tc1⟩, List.forall_mem_cons.2 ⟨⟨rfl, tc8⟩, List.forall_mem_cons.2 ⟨⟨rfl, tc10⟩, List.forall_mem_cons.2 ⟨⟨rfl, tc13⟩, (fun _ h => nomatch h)⟩⟩⟩⟩, ⟨List.forall_mem_cons.2 ⟨⟨rfl, tc3⟩, (fun _ h => nomatch h)⟩, ⟨List.forall_mem_cons.2 ⟨⟨rfl, tc2⟩, (fun _ h => nomatch h)⟩, ⟨List.forall_mem_cons.2 ⟨⟨rfl, tc4⟩, List.forall_mem_cons.2 ⟨⟨rfl, tc14⟩, List.forall_mem_cons.2 ⟨⟨rfl, tc39⟩, (fun _ h => nomatch h)⟩⟩⟩, ⟨List.forall_mem_cons.2 ⟨⟨rfl, tc6⟩, List.forall_mem_cons.2 ⟨⟨rfl, tc20⟩, List.forall_mem_cons.2 ⟨⟨rfl, tc21⟩, (fun _ h => nomatch h)⟩⟩⟩, ⟨List.forall_mem_cons.2 ⟨⟨rfl, tc9⟩, (fun _ h => nomatch h)⟩, ⟨List.forall_mem_cons.2 ⟨⟨rfl, tc5⟩, List.forall_mem_cons.2 ⟨⟨rfl, tc11⟩, (fun _ h => nomatch h)⟩⟩, ⟨List.forall_mem_cons.2 ⟨⟨rfl, tc15⟩, List.forall_mem_cons.2 ⟨⟨rfl, tc17⟩, (fun _ h => nomatch h)⟩⟩, ⟨List.forall_mem_cons.2 ⟨⟨rfl, tc16⟩, List.forall_mem_cons.2 ⟨⟨rfl, tc18⟩, (fun _ h => nomatch h)⟩⟩, trivial⟩⟩⟩⟩⟩⟩⟩⟩⟩⟩⟩⟩
theorem tcA : EntTOk Tryz.prog cA := ent lA_ok (by kernel_rfl)
end Go.Proofs.YtidhpcjbllnjgaaGreatA
