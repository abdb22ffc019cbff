/- A closed run in parts: some of its calls. -/
import Derived.Test.YtajakdllbpnnpaaGreatMz0
set_option linter.unusedVariables false
set_option maxRecDepth 1000000
namespace Go.Proofs.YtajakdllbpnnpaaGreatA
open Go.RowKit
theorem Mz_t23 : EntOk Tryz.prog Mz_e23 := ent_of mixed Mz_base apOk (k := 300) (by kernel_rfl)
theorem Mz_t24 : EntOk Tryz.prog Mz_e24 := ent_of mixed Mz_base apOk (k := 300) (by kernel_rfl)
theorem Mz_t25 : EntOk Tryz.prog Mz_e25 := ent_of mixed Mz_base apOk (k := 300) (by kernel_rfl)
theorem Mz_t26 : EntOk Tryz.prog Mz_e26 := ent_of mixed Mz_base apOk (k := 300) (by kernel_rfl)
theorem Mz_t27 : EntOk Tryz.prog Mz_e27 := ent_of mixed Mz_base apOk (k := 300) (by kernel_rfl)
theorem Mz_t28 : EntOk Tryz.prog Mz_e28 := ent_of mixed Mz_base apOk (k := 300) (by kernel_rfl)
theorem Mz_t29 : EntOk Tryz.prog Mz_e29 := ent_of mixed Mz_base apOk (k := 300) (by kernel_rfl)
theorem Mz_t30 : EntOk Tryz.prog Mz_e30 := ent_of mixed Mz_base apOk (k := 300) (by kernel_rfl)
theorem Mz_t31 : EntOk Tryz.prog Mz_e31 := ent_of mixed Mz_base apOk (k := 300) (by kernel_rfl)
theorem Mz_t32 : EntOk Tryz.prog Mz_e32 := ent_of mixed Mz_base apOk (k := 300) (by kernel_rfl)
theorem Mz_t33 : EntOk Tryz.prog Mz_e33 := ent_of mixed Mz_base apOk (k := 300) (by kernel_rfl)
theorem Mz_t34 : EntOk Tryz.prog Mz_e34 := ent_of mixed Mz_base apOk (k := 300) (by kernel_rfl)
theorem Mz_t35 : EntOk Tryz.prog Mz_e35 := ent_of mixed Mz_base apOk (k := 300) (by kernel_rfl)
theorem Mz_t36 : EntOk Tryz.prog Mz_e36 := ent_of mixed Mz_base apOk (k := 300) (by kernel_rfl)
theorem Mz_t37 : EntOk Tryz.prog Mz_e37 := ent_of mixed Mz_base apOk (k := 300) (by kernel_rfl)
theorem Mz_t38 : EntOk Tryz.prog Mz_e38 := ent_of mixed Mz_base apOk (k := 300) (by kernel_rfl)
theorem Mz_t39 : EntOk Tryz.prog Mz_e39 := ent_of mixed Mz_base apOk (k := 300) (by kernel_rfl)
theorem Mz_t40 : EntOk Tryz.prog Mz_e40 := ent_of mixed Mz_base apOk (k := 300) (by kernel_rfl)
theorem Mz_t41 : EntOk Tryz.prog Mz_e41 := ent_of mixed Mz_base apOk (k := 300) (by kernel_rfl)
theorem Mz_t42 : EntOk Tryz.prog Mz_e42 := ent_of mixed Mz_base apOk (k := 300) (by kernel_rfl)
end Go.Proofs.YtajakdllbpnnpaaGreatA
