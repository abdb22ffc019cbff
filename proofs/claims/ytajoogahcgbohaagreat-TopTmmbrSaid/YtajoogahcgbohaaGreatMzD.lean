/- A closed run in parts: some of its calls. -/
import Derived.Test.YtajoogahcgbohaaGreatMz0
set_option linter.unusedVariables false
set_option maxRecDepth 1000000
namespace Go.Proofs.YtajoogahcgbohaaGreatA
open Go.RowKit
theorem Mz_t48 : EntOk Tryz.prog Mz_e48 := ent_of mixed Mz_base apOk (k := 300) (by kernel_rfl)
theorem Mz_t49 : EntOk Tryz.prog Mz_e49 := ent_of mixed Mz_base apOk (k := 300) (by kernel_rfl)
theorem Mz_t50 : EntOk Tryz.prog Mz_e50 := ent_of mixed Mz_base apOk (k := 300) (by kernel_rfl)
theorem Mz_t51 : EntOk Tryz.prog Mz_e51 := ent_of mixed Mz_base apOk (k := 300) (by kernel_rfl)
theorem Mz_t52 : EntOk Tryz.prog Mz_e52 := ent_of mixed Mz_base apOk (k := 300) (by kernel_rfl)
theorem Mz_t53 : EntOk Tryz.prog Mz_e53 := ent_of mixed Mz_base apOk (k := 300) (by kernel_rfl)
theorem Mz_t54 : EntOk Tryz.prog Mz_e54 := ent_of mixed Mz_base apOk (k := 300) (by kernel_rfl)
theorem Mz_t55 : EntOk Tryz.prog Mz_e55 := ent_of mixed Mz_base apOk (k := 300) (by kernel_rfl)
theorem Mz_t56 : EntOk Tryz.prog Mz_e56 := ent_of mixed Mz_base apOk (k := 300) (by kernel_rfl)
theorem Mz_t57 : EntOk Tryz.prog Mz_e57 := ent_of mixed Mz_base apOk (k := 300) (by kernel_rfl)
theorem Mz_t58 : EntOk Tryz.prog Mz_e58 := ent_of mixed Mz_base apOk (k := 300) (by kernel_rfl)
theorem Mz_t59 : EntOk Tryz.prog Mz_e59 := ent_of mixed Mz_base apOk (k := 300) (by kernel_rfl)
theorem Mz_t60 : EntOk Tryz.prog Mz_e60 := ent_of mixed Mz_base apOk (k := 300) (by kernel_rfl)
end Go.Proofs.YtajoogahcgbohaaGreatA
