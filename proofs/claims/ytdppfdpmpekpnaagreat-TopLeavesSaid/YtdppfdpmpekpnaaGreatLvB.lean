/- Closed runs in parts: some of their calls. -/
import Derived.Test.YtdppfdpmpekpnaaGreatLv0
set_option linter.unusedVariables false
set_option maxRecDepth 1000000
namespace Go.Proofs.YtdppfdpmpekpnaaGreatA
open Go.RowKit
theorem Lv_t30 : EntOk Tryz.prog Lv_e30 := ent_of mixed Mz_base apOk (k := 300) (by kernel_rfl)
theorem Lv_t31 : EntOk Tryz.prog Lv_e31 := ent_of mixed Mz_base apOk (k := 300) (by kernel_rfl)
theorem Lv_t32 : EntOk Tryz.prog Lv_e32 := ent_of mixed Mz_base apOk (k := 300) (by kernel_rfl)
theorem Lv_t33 : EntOk Tryz.prog Lv_e33 := ent_of mixed Mz_base apOk (k := 300) (by kernel_rfl)
theorem Lv_t35 : EntOk Tryz.prog Lv_e35 := ent_of mixed Mz_base apOk (k := 300) (by kernel_rfl)
theorem Lv_t36 : EntOk Tryz.prog Lv_e36 := ent_of mixed Mz_base apOk (k := 300) (by kernel_rfl)
theorem Lv_t37 : EntOk Tryz.prog Lv_e37 := ent_of mixed Mz_base apOk (k := 300) (by kernel_rfl)
theorem Lv_t38 : EntOk Tryz.prog Lv_e38 := ent_of mixed Mz_base apOk (k := 300) (by kernel_rfl)
theorem Lv_t39 : EntOk Tryz.prog Lv_e39 := ent_of mixed Mz_base apOk (k := 300) (by kernel_rfl)
theorem Lv_t40 : EntOk Tryz.prog Lv_e40 := ent_of mixed Mz_base apOk (k := 300) (by kernel_rfl)
theorem Lv_t41 : EntOk Tryz.prog Lv_e41 := ent_of mixed Mz_base apOk (k := 300) (by kernel_rfl)
theorem Lv_t42 : EntOk Tryz.prog Lv_e42 := ent_of mixed Mz_base apOk (k := 300) (by kernel_rfl)
theorem Lv_t43 : EntOk Tryz.prog Lv_e43 := ent_of mixed Mz_base apOk (k := 300) (by kernel_rfl)
theorem Lv_t44 : EntOk Tryz.prog Lv_e44 := ent_of mixed Mz_base apOk (k := 300) (by kernel_rfl)
theorem Lv_t45 : EntOk Tryz.prog Lv_e45 := ent_of mixed Mz_base apOk (k := 300) (by kernel_rfl)
theorem Lv_t46 : EntOk Tryz.prog Lv_e46 := ent_of mixed Mz_base apOk (k := 300) (by kernel_rfl)
theorem Lv_t47 : EntOk Tryz.prog Lv_e47 := ent_of mixed Mz_base apOk (k := 300) (by kernel_rfl)
theorem Lv_t49 : EntOk Tryz.prog Lv_e49 := ent_of mixed Mz_base apOk (k := 300) (by kernel_rfl)
theorem Lv_t50 : EntOk Tryz.prog Lv_e50 := ent_of mixed Mz_base apOk (k := 300) (by kernel_rfl)
theorem Lv_t51 : EntOk Tryz.prog Lv_e51 := ent_of mixed Mz_base apOk (k := 300) (by kernel_rfl)
theorem Lv_t52 : EntOk Tryz.prog Lv_e52 := ent_of mixed Mz_base apOk (k := 300) (by kernel_rfl)
theorem Lv_t53 : EntOk Tryz.prog Lv_e53 := ent_of mixed Mz_base apOk (k := 300) (by kernel_rfl)
theorem Lv_t54 : EntOk Tryz.prog Lv_e54 := ent_of mixed Mz_base apOk (k := 300) (by kernel_rfl)
theorem Lv_t55 : EntOk Tryz.prog Lv_e55 := ent_of mixed Mz_base apOk (k := 300) (by kernel_rfl)
theorem Lv_t56 : EntOk Tryz.prog Lv_e56 := ent_of mixed Mz_base apOk (k := 300) (by kernel_rfl)
theorem Lv_t58 : EntOk Tryz.prog Lv_e58 := ent_of mixed Mz_base apOk (k := 300) (by kernel_rfl)
theorem Lv_t59 : EntOk Tryz.prog Lv_e59 := ent_of mixed Mz_base apOk (k := 300) (by kernel_rfl)
theorem Lv_t60 : EntOk Tryz.prog Lv_e60 := ent_of mixed Mz_base apOk (k := 300) (by kernel_rfl)
end Go.Proofs.YtdppfdpmpekpnaaGreatA
