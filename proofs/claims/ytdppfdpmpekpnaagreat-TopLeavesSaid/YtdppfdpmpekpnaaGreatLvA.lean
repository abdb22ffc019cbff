/- Closed runs in parts: some of their calls. -/
import Derived.Test.YtdppfdpmpekpnaaGreatLv0
set_option linter.unusedVariables false
set_option maxRecDepth 1000000
namespace Go.Proofs.YtdppfdpmpekpnaaGreatA
open Go.RowKit
theorem Lv_t0 : EntOk Tryz.prog Lv_e0 := ent_of mixed Mz_base apOk (k := 300) (by kernel_rfl)
theorem Lv_t1 : EntOk Tryz.prog Lv_e1 := ent_of mixed Mz_base apOk (k := 300) (by kernel_rfl)
theorem Lv_t2 : EntOk Tryz.prog Lv_e2 := ent_of mixed Mz_base apOk (k := 300) (by kernel_rfl)
theorem Lv_t3 : EntOk Tryz.prog Lv_e3 := ent_of mixed Mz_base apOk (k := 300) (by kernel_rfl)
theorem Lv_t4 : EntOk Tryz.prog Lv_e4 := ent_of mixed Mz_base apOk (k := 300) (by kernel_rfl)
theorem Lv_t5 : EntOk Tryz.prog Lv_e5 := ent_of mixed Mz_base apOk (k := 300) (by kernel_rfl)
theorem Lv_t7 : EntOk Tryz.prog Lv_e7 := ent_of mixed Mz_base apOk (k := 300) (by kernel_rfl)
theorem Lv_t8 : EntOk Tryz.prog Lv_e8 := ent_of mixed Mz_base apOk (k := 300) (by kernel_rfl)
theorem Lv_t9 : EntOk Tryz.prog Lv_e9 := ent_of mixed Mz_base apOk (k := 300) (by kernel_rfl)
theorem Lv_t10 : EntOk Tryz.prog Lv_e10 := ent_of mixed Mz_base apOk (k := 300) (by kernel_rfl)
theorem Lv_t11 : EntOk Tryz.prog Lv_e11 := ent_of mixed Mz_base apOk (k := 300) (by kernel_rfl)
theorem Lv_t12 : EntOk Tryz.prog Lv_e12 := ent_of mixed Mz_base apOk (k := 300) (by kernel_rfl)
theorem Lv_t13 : EntOk Tryz.prog Lv_e13 := ent_of mixed Mz_base apOk (k := 300) (by kernel_rfl)
theorem Lv_t14 : EntOk Tryz.prog Lv_e14 := ent_of mixed Mz_base apOk (k := 300) (by kernel_rfl)
theorem Lv_t15 : EntOk Tryz.prog Lv_e15 := ent_of mixed Mz_base apOk (k := 300) (by kernel_rfl)
theorem Lv_t16 : EntOk Tryz.prog Lv_e16 := ent_of mixed Mz_base apOk (k := 300) (by kernel_rfl)
theorem Lv_t18 : EntOk Tryz.prog Lv_e18 := ent_of mixed Mz_base apOk (k := 300) (by kernel_rfl)
theorem Lv_t19 : EntOk Tryz.prog Lv_e19 := ent_of mixed Mz_base apOk (k := 300) (by kernel_rfl)
theorem Lv_t20 : EntOk Tryz.prog Lv_e20 := ent_of mixed Mz_base apOk (k := 300) (by kernel_rfl)
theorem Lv_t21 : EntOk Tryz.prog Lv_e21 := ent_of mixed Mz_base apOk (k := 300) (by kernel_rfl)
theorem Lv_t22 : EntOk Tryz.prog Lv_e22 := ent_of mixed Mz_base apOk (k := 300) (by kernel_rfl)
theorem Lv_t23 : EntOk Tryz.prog Lv_e23 := ent_of mixed Mz_base apOk (k := 300) (by kernel_rfl)
theorem Lv_t24 : EntOk Tryz.prog Lv_e24 := ent_of mixed Mz_base apOk (k := 300) (by kernel_rfl)
theorem Lv_t25 : EntOk Tryz.prog Lv_e25 := ent_of mixed Mz_base apOk (k := 300) (by kernel_rfl)
theorem Lv_t26 : EntOk Tryz.prog Lv_e26 := ent_of mixed Mz_base apOk (k := 300) (by kernel_rfl)
theorem Lv_t27 : EntOk Tryz.prog Lv_e27 := ent_of mixed Mz_base apOk (k := 300) (by kernel_rfl)
theorem Lv_t28 : EntOk Tryz.prog Lv_e28 := ent_of mixed Mz_base apOk (k := 300) (by kernel_rfl)
theorem Lv_t29 : EntOk Tryz.prog Lv_e29 := ent_of mixed Mz_base apOk (k := 300) (by kernel_rfl)
end Go.Proofs.YtdppfdpmpekpnaaGreatA
