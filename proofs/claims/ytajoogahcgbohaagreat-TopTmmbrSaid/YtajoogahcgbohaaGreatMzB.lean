/- A closed run in parts: some of its calls. -/
import Derived.Test.YtajoogahcgbohaaGreatMz0
set_option linter.unusedVariables false
set_option maxRecDepth 1000000
namespace Go.Proofs.YtajoogahcgbohaaGreatA
open Go.RowKit
theorem Mz_t18 : EntOk Tryz.prog Mz_e18 := ent_of mixed Mz_base apOk (k := 300) (by kernel_rfl)
theorem Mz_t19 : EntOk Tryz.prog Mz_e19 := ent_of mixed Mz_base apOk (k := 300) (by kernel_rfl)
theorem Mz_t20 : EntOk Tryz.prog Mz_e20 := ent_of mixed Mz_base apOk (k := 300) (by kernel_rfl)
theorem Mz_t21 : EntOk Tryz.prog Mz_e21 := ent_of mixed Mz_base apOk (k := 300) (by kernel_rfl)
theorem Mz_t22 : EntOk Tryz.prog Mz_e22 := ent_of mixed Mz_base apOk (k := 300) (by kernel_rfl)
theorem Mz_t23 : EntOk Tryz.prog Mz_e23 := ent_of mixed Mz_base apOk (k := 300) (by kernel_rfl)
theorem Mz_t24 : EntOk Tryz.prog Mz_e24 := ent_of mixed Mz_base apOk (k := 300) (by kernel_rfl)
theorem Mz_t25 : EntOk Tryz.prog Mz_e25 := ent_of mixed Mz_base apOk (k := 300) (by kernel_rfl)
theorem Mz_t26 : EntOk Tryz.prog Mz_e26 := ent_of mixed Mz_base apOk (k := 300) (by kernel_rfl)
theorem Mz_t27 : EntOk Tryz.prog Mz_e27 := ent_of mixed Mz_base apOk (k := 300) (by kernel_rfl)
theorem Mz_t28 : EntOk Tryz.prog Mz_e28 := ent_of mixed Mz_base apOk (k := 300) (by kernel_rfl)
theorem Mz_t29 : EntOk Tryz.prog Mz_e29 := ent_of mixed Mz_base apOk (k := 300) (by kernel_rfl)
theorem Mz_t30 : EntOk Tryz.prog Mz_e30 := ent_of mixed Mz_base apOk (k := 300) (by kernel_rfl)
theorem Mz_t31 : EntOk Tryz.prog Mz_e31 := ent_of mixed Mz_base apOk (k := 300) (by kernel_rfl)
theorem Mz_t32 : EntOk Tryz.prog Mz_e32 := ent_of mixed Mz_base apOk (k := 300) (by kernel_rfl)
end Go.Proofs.YtajoogahcgbohaaGreatA
