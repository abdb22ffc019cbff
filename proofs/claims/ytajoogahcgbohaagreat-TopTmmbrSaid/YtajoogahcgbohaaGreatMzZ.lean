/- A closed run in parts: the whole. -/
import Derived.Test.YtajoogahcgbohaaGreatMzA
import Derived.Test.YtajoogahcgbohaaGreatMzB
import Derived.Test.YtajoogahcgbohaaGreatMzC
import Derived.Test.YtajoogahcgbohaaGreatMzD
set_option linter.unusedVariables false
set_option maxRecDepth 1000000
namespace Go.Proofs.YtajoogahcgbohaaGreatA
open Go.RowKit
theorem Mz_a1 : ∀ e ∈ Mz_l1, EntOk Tryz.prog e := List.forall_mem_cons.2 ⟨Mz_t2, List.forall_mem_cons.2 ⟨Mz_t3, List.forall_mem_cons.2 ⟨Mz_t4, List.forall_mem_cons.2 ⟨Mz_t5, (fun _ h => nomatch h)⟩⟩⟩⟩
theorem Mz_t1 : EntOk Tryz.prog Mz_e1 := ent_of mixed (callM_ok Mz_base Mz_a1) apOk (k := 300) (by kernel_rfl)
theorem Mz_a6 : ∀ e ∈ Mz_l6, EntOk Tryz.prog e := List.forall_mem_cons.2 ⟨Mz_t7, List.forall_mem_cons.2 ⟨Mz_t8, List.forall_mem_cons.2 ⟨Mz_t9, List.forall_mem_cons.2 ⟨Mz_t10, List.forall_mem_cons.2 ⟨Mz_t11, List.forall_mem_cons.2 ⟨Mz_t12, List.forall_mem_cons.2 ⟨Mz_t13, List.forall_mem_cons.2 ⟨Mz_t14, List.forall_mem_cons.2 ⟨Mz_t15, List.forall_mem_cons.2 ⟨Mz_t16, List.forall_mem_cons.2 ⟨Mz_t17, List.forall_mem_cons.2 ⟨Mz_t18, List.forall_mem_cons.2 ⟨Mz_t19, List.forall_mem_cons.2 ⟨Mz_t20, List.forall_mem_cons.2 ⟨Mz_t21, List.forall_mem_cons.2 ⟨Mz_t22, List.forall_mem_cons.2 ⟨Mz_t23, List.forall_mem_cons.2 ⟨Mz_t24, List.forall_mem_cons.2 ⟨Mz_t25, List.forall_mem_cons.2 ⟨Mz_t26, List.forall_mem_cons.2 ⟨Mz_t27, List.forall_mem_cons.2 ⟨Mz_t28, List.forall_mem_cons.2 ⟨Mz_t29, List.forall_mem_cons.2 ⟨Mz_t30, List.forall_mem_cons.2 ⟨Mz_t31, List.forall_mem_cons.2 ⟨Mz_t32, List.forall_mem_cons.2 ⟨Mz_t33, List.forall_mem_cons.2 ⟨Mz_t34, List.forall_mem_cons.2 ⟨Mz_t35, List.forall_mem_cons.2 ⟨Mz_t36, List.forall_mem_cons.2 ⟨Mz_t37, List.forall_mem_cons.2 ⟨Mz_t38, List.forall_mem_cons.2 ⟨Mz_t39, List.forall_mem_cons.2 ⟨Mz_t40, List.forall_mem_cons.2 ⟨Mz_t41, List.forall_mem_cons.2 ⟨Mz_t42, List.forall_mem_cons.2 ⟨Mz_t43, List.forall_mem_cons.2 ⟨Mz_t44, List.forall_mem_cons.2 ⟨Mz_t45, List.forall_mem_cons.2 ⟨Mz_t46, List.forall_mem_cons.2 ⟨Mz_t47, List.forall_mem_cons.2 ⟨Mz_t48, List.forall_mem_cons.2 ⟨Mz_t49, List.forall_mem_cons.2 ⟨Mz_t50, List.forall_mem_cons.2 ⟨Mz_t51, List.forall_mem_cons.2 ⟨Mz_t52, List.forall_mem_cons.2 ⟨Mz_t53, List.forall_mem_cons.2 ⟨Mz_t54, List.forall_mem_cons.2 ⟨Mz_t55, List.forall_mem_cons.2 ⟨Mz_t56, List.forall_mem_cons.2 ⟨Mz_t57, List.forall_mem_cons.2 ⟨Mz_t58, List.forall_mem_cons.2 ⟨Mz_t59, (fun _ h => nomatch h)⟩⟩⟩⟩⟩⟩⟩⟩⟩⟩⟩⟩⟩⟩⟩⟩⟩⟩⟩⟩⟩⟩⟩⟩⟩⟩⟩⟩⟩⟩⟩⟩⟩⟩⟩⟩⟩⟩⟩⟩⟩⟩⟩⟩⟩⟩⟩⟩⟩⟩⟩⟩⟩
theorem Mz_t6 : EntOk Tryz.prog Mz_e6 := ent_of mixed (callM_ok Mz_base Mz_a6) apOk (k := 300) (by kernel_rfl)
theorem Mz_a0 : ∀ e ∈ Mz_l0, EntOk Tryz.prog e := List.forall_mem_cons.2 ⟨Mz_t1, List.forall_mem_cons.2 ⟨Mz_t6, List.forall_mem_cons.2 ⟨Mz_t60, (fun _ h => nomatch h)⟩⟩⟩
theorem Mz_t0 : EntOk Tryz.prog Mz_e0 := ent_of mixed (callM_ok Mz_base Mz_a0) apOk (k := 300) (by kernel_rfl)
end Go.Proofs.YtajoogahcgbohaaGreatA
