/- A closed run in parts: some of its calls. -/
import Derived.Test.YtajoogahcgbohaaGreatMz0
set_option linter.unusedVariables false
set_option maxRecDepth 1000000
namespace Go.Proofs.YtajoogahcgbohaaGreatA
open Go.RowKit
theorem Mz_t2 : EntOk Tryz.prog Mz_e2 := ent_of mixed Mz_base apOk (k := 300) (by kernel_rfl)
theorem Mz_t3 : EntOk Tryz.prog Mz_e3 := ent_of mixed Mz_base apOk (k := 300) (by kernel_rfl)
theorem Mz_t4 : EntOk Tryz.prog Mz_e4 := ent_of mixed Mz_base apOk (k := 300) (by kernel_rfl)
theorem Mz_t5 : EntOk Tryz.prog Mz_e5 := ent_of mixed Mz_base apOk (k := 300) (by kernel_rfl)
theorem Mz_t7 : EntOk Tryz.prog Mz_e7 := ent_of mixed Mz_base apOk (k := 300) (by kernel_rfl)
theorem Mz_t8 : EntOk Tryz.prog Mz_e8 := ent_of mixed Mz_base apOk (k := 300) (by kernel_rfl)
theorem Mz_t9 : EntOk Tryz.prog Mz_e9 := ent_of mixed Mz_base apOk (k := 300) (by kernel_rfl)
theorem Mz_t10 : EntOk Tryz.prog Mz_e10 := ent_of mixed Mz_base apOk (k := 300) (by kernel_rfl)
theorem Mz_t11 : EntOk Tryz.prog Mz_e11 := ent_of mixed Mz_base apOk (k := 300) (by kernel_rfl)
theorem Mz_t12 : EntOk Tryz.prog Mz_e12 := ent_of mixed Mz_base apOk (k := 300) (by kernel_rfl)
theorem Mz_t13 : EntOk Tryz.prog Mz_e13 := ent_of mixed Mz_base apOk (k := 300) (by kernel_rfl)
theorem Mz_t14 : EntOk Tryz.prog Mz_e14 := ent_of mixed Mz_base apOk (k := 300) (by kernel_rfl)
theorem Mz_t15 : EntOk Tryz.prog Mz_e15 := ent_of mixed Mz_base apOk (k := 300) (by kernel_rfl)
theorem Mz_t16 : EntOk Tryz.prog Mz_e16 := ent_of mixed Mz_base apOk (k := 300) (by kernel_rfl)
theorem Mz_t17 : EntOk Tryz.prog Mz_e17 := ent_of mixed Mz_base apOk (k := 300) (by kernel_rfl)
end Go.Proofs.YtajoogahcgbohaaGreatA
