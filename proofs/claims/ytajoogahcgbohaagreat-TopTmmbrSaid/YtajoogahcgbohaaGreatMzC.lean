/- A closed run in parts: some of its calls. -/
import Derived.Test.YtajoogahcgbohaaGreatMz0
set_option linter.unusedVariables false
set_option maxRecDepth 1000000
namespace Go.Proofs.YtajoogahcgbohaaGreatA
open Go.RowKit
theorem Mz_t33 : EntOk Tryz.prog Mz_e33 := ent_of mixed Mz_base apOk (k := 300) (by kernel_rfl)
theorem Mz_t34 : EntOk Tryz.prog Mz_e34 := ent_of mixed Mz_base apOk (k := 300) (by kernel_rfl)
theorem Mz_t35 : EntOk Tryz.prog Mz_e35 := ent_of mixed Mz_base apOk (k := 300) (by kernel_rfl)
theorem Mz_t36 : EntOk Tryz.prog Mz_e36 := ent_of mixed Mz_base apOk (k := 300) (by kernel_rfl)
theorem Mz_t37 : EntOk Tryz.prog Mz_e37 := ent_of mixed Mz_base apOk (k := 300) (by kernel_rfl)
theorem Mz_t38 : EntOk Tryz.prog Mz_e38 := ent_of mixed Mz_base apOk (k := 300) (by kernel_rfl)
theorem Mz_t39 : EntOk Tryz.prog Mz_e39 := ent_of mixed Mz_base apOk (k := 300) (by kernel_rfl)
theorem Mz_t40 : EntOk Tryz.prog Mz_e40 := ent_of mixed Mz_base apOk (k := 300) (by kernel_rfl)
theorem Mz_t41 : EntOk Tryz.prog Mz_e41 := ent_of mixed Mz_base apOk (k := 300) (by kernel_rfl)
theorem Mz_t42 : EntOk Tryz.prog Mz_e42 := ent_of mixed Mz_base apOk (k := 300) (by kernel_rfl)
theorem Mz_t43 : EntOk Tryz.prog Mz_e43 := ent_of mixed Mz_base apOk (k := 300) (by kernel_rfl)
theorem Mz_t44 : EntOk Tryz.prog Mz_e44 := ent_of mixed Mz_base apOk (k := 300) (by kernel_rfl)
theorem Mz_t45 : EntOk Tryz.prog Mz_e45 := ent_of mixed Mz_base apOk (k := 300) (by kernel_rfl)
theorem Mz_t46 : EntOk Tryz.prog Mz_e46 := ent_of mixed Mz_base apOk (k := 300) (by kernel_rfl)
theorem Mz_t47 : EntOk Tryz.prog Mz_e47 := ent_of mixed Mz_base apOk (k := 300) (by kernel_rfl)
end Go.Proofs.YtajoogahcgbohaaGreatA
