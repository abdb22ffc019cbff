/- Closed runs in parts: some of their calls. -/
import Derived.Test.YtdppfdpmpekpnaaGreatPz0
set_option linter.unusedVariables false
set_option maxRecDepth 1000000
namespace Go.Proofs.YtdppfdpmpekpnaaGreatA
open Go.RowKit
theorem Pz_t24 : EntOk Tryz.prog Pz_e24 := ent_of mixed Mz_base apOk (k := 300) (by kernel_rfl)
theorem Pz_t26 : EntOk Tryz.prog Pz_e26 := ent_of mixed Mz_base apOk (k := 300) (by kernel_rfl)
theorem Pz_t27 : EntOk Tryz.prog Pz_e27 := ent_of mixed Mz_base apOk (k := 300) (by kernel_rfl)
theorem Pz_t28 : EntOk Tryz.prog Pz_e28 := ent_of mixed Mz_base apOk (k := 300) (by kernel_rfl)
theorem Pz_t29 : EntOk Tryz.prog Pz_e29 := ent_of mixed Mz_base apOk (k := 300) (by kernel_rfl)
theorem Pz_t30 : EntOk Tryz.prog Pz_e30 := ent_of mixed Mz_base apOk (k := 300) (by kernel_rfl)
theorem Pz_t31 : EntOk Tryz.prog Pz_e31 := ent_of mixed Mz_base apOk (k := 300) (by kernel_rfl)
theorem Pz_t32 : EntOk Tryz.prog Pz_e32 := ent_of mixed Mz_base apOk (k := 300) (by kernel_rfl)
theorem Pz_t33 : EntOk Tryz.prog Pz_e33 := ent_of mixed Mz_base apOk (k := 300) (by kernel_rfl)
theorem Pz_t34 : EntOk Tryz.prog Pz_e34 := ent_of mixed Mz_base apOk (k := 300) (by kernel_rfl)
theorem Pz_t35 : EntOk Tryz.prog Pz_e35 := ent_of mixed Mz_base apOk (k := 300) (by kernel_rfl)
theorem Pz_t36 : EntOk Tryz.prog Pz_e36 := ent_of mixed Mz_base apOk (k := 300) (by kernel_rfl)
theorem Pz_t37 : EntOk Tryz.prog Pz_e37 := ent_of mixed Mz_base apOk (k := 300) (by kernel_rfl)
theorem Pz_t38 : EntOk Tryz.prog Pz_e38 := ent_of mixed Mz_base apOk (k := 300) (by kernel_rfl)
theorem Pz_t39 : EntOk Tryz.prog Pz_e39 := ent_of mixed Mz_base apOk (k := 300) (by kernel_rfl)
theorem Pz_t40 : EntOk Tryz.prog Pz_e40 := ent_of mixed Mz_base apOk (k := 300) (by kernel_rfl)
theorem Pz_t41 : EntOk Tryz.prog Pz_e41 := ent_of mixed Mz_base apOk (k := 300) (by kernel_rfl)
theorem Pz_t42 : EntOk Tryz.prog Pz_e42 := ent_of mixed Mz_base apOk (k := 300) (by kernel_rfl)
theorem Pz_t43 : EntOk Tryz.prog Pz_e43 := ent_of mixed Mz_base apOk (k := 300) (by kernel_rfl)
theorem Pz_t45 : EntOk Tryz.prog Pz_e45 := ent_of mixed Mz_base apOk (k := 300) (by kernel_rfl)
theorem Pz_t46 : EntOk Tryz.prog Pz_e46 := ent_of mixed Mz_base apOk (k := 300) (by kernel_rfl)
theorem Pz_t47 : EntOk Tryz.prog Pz_e47 := ent_of mixed Mz_base apOk (k := 300) (by kernel_rfl)
theorem Pz_t48 : EntOk Tryz.prog Pz_e48 := ent_of mixed Mz_base apOk (k := 300) (by kernel_rfl)
theorem Pz_t49 : EntOk Tryz.prog Pz_e49 := ent_of mixed Mz_base apOk (k := 300) (by kernel_rfl)
theorem Pz_t50 : EntOk Tryz.prog Pz_e50 := ent_of mixed Mz_base apOk (k := 300) (by kernel_rfl)
theorem Pz_t51 : EntOk Tryz.prog Pz_e51 := ent_of mixed Mz_base apOk (k := 300) (by kernel_rfl)
theorem Pz_t52 : EntOk Tryz.prog Pz_e52 := ent_of mixed Mz_base apOk (k := 300) (by kernel_rfl)
theorem Pz_t53 : EntOk Tryz.prog Pz_e53 := ent_of mixed Mz_base apOk (k := 300) (by kernel_rfl)
theorem Pz_t54 : EntOk Tryz.prog Pz_e54 := ent_of mixed Mz_base apOk (k := 300) (by kernel_rfl)
end Go.Proofs.YtdppfdpmpekpnaaGreatA
