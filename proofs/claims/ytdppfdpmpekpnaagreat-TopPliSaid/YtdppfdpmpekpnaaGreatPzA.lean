/- Closed runs in parts: some of their calls. -/
import Derived.Test.YtdppfdpmpekpnaaGreatPz0
set_option linter.unusedVariables false
set_option maxRecDepth 1000000
namespace Go.Proofs.YtdppfdpmpekpnaaGreatA
open Go.RowKit
theorem Pz_t0 : EntOk Tryz.prog Pz_e0 := ent_of mixed Mz_base apOk (k := 300) (by kernel_rfl)
theorem Pz_t1 : EntOk Tryz.prog Pz_e1 := ent_of mixed Mz_base apOk (k := 300) (by kernel_rfl)
theorem Pz_t2 : EntOk Tryz.prog Pz_e2 := ent_of mixed Mz_base apOk (k := 300) (by kernel_rfl)
theorem Pz_t3 : EntOk Tryz.prog Pz_e3 := ent_of mixed Mz_base apOk (k := 300) (by kernel_rfl)
theorem Pz_t5 : EntOk Tryz.prog Pz_e5 := ent_of mixed Mz_base apOk (k := 300) (by kernel_rfl)
theorem Pz_t6 : EntOk Tryz.prog Pz_e6 := ent_of mixed Mz_base apOk (k := 300) (by kernel_rfl)
theorem Pz_t7 : EntOk Tryz.prog Pz_e7 := ent_of mixed Mz_base apOk (k := 300) (by kernel_rfl)
theorem Pz_t8 : EntOk Tryz.prog Pz_e8 := ent_of mixed Mz_base apOk (k := 300) (by kernel_rfl)
theorem Pz_t9 : EntOk Tryz.prog Pz_e9 := ent_of mixed Mz_base apOk (k := 300) (by kernel_rfl)
theorem Pz_t10 : EntOk Tryz.prog Pz_e10 := ent_of mixed Mz_base apOk (k := 300) (by kernel_rfl)
theorem Pz_t11 : EntOk Tryz.prog Pz_e11 := ent_of mixed Mz_base apOk (k := 300) (by kernel_rfl)
theorem Pz_t12 : EntOk Tryz.prog Pz_e12 := ent_of mixed Mz_base apOk (k := 300) (by kernel_rfl)
theorem Pz_t13 : EntOk Tryz.prog Pz_e13 := ent_of mixed Mz_base apOk (k := 300) (by kernel_rfl)
theorem Pz_t14 : EntOk Tryz.prog Pz_e14 := ent_of mixed Mz_base apOk (k := 300) (by kernel_rfl)
theorem Pz_t15 : EntOk Tryz.prog Pz_e15 := ent_of mixed Mz_base apOk (k := 300) (by kernel_rfl)
theorem Pz_t16 : EntOk Tryz.prog Pz_e16 := ent_of mixed Mz_base apOk (k := 300) (by kernel_rfl)
theorem Pz_t17 : EntOk Tryz.prog Pz_e17 := ent_of mixed Mz_base apOk (k := 300) (by kernel_rfl)
theorem Pz_t18 : EntOk Tryz.prog Pz_e18 := ent_of mixed Mz_base apOk (k := 300) (by kernel_rfl)
theorem Pz_t19 : EntOk Tryz.prog Pz_e19 := ent_of mixed Mz_base apOk (k := 300) (by kernel_rfl)
theorem Pz_t20 : EntOk Tryz.prog Pz_e20 := ent_of mixed Mz_base apOk (k := 300) (by kernel_rfl)
theorem Pz_t21 : EntOk Tryz.prog Pz_e21 := ent_of mixed Mz_base apOk (k := 300) (by kernel_rfl)
theorem Pz_t22 : EntOk Tryz.prog Pz_e22 := ent_of mixed Mz_base apOk (k := 300) (by kernel_rfl)
theorem Pz_t23 : EntOk Tryz.prog Pz_e23 := ent_of mixed Mz_base apOk (k := 300) (by kernel_rfl)
end Go.Proofs.YtdppfdpmpekpnaaGreatA
