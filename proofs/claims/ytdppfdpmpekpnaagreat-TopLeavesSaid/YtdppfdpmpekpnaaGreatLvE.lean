/- Closed runs in parts: some of their calls. -/
import Derived.Test.YtdppfdpmpekpnaaGreatLv0
set_option linter.unusedVariables false
set_option maxRecDepth 1000000
namespace Go.Proofs.YtdppfdpmpekpnaaGreatA
open Go.RowKit
theorem Lv_t109 : EntOk Tryz.prog Lv_e109 := ent_of mixed Mz_base apOk (k := 300) (by kernel_rfl)
theorem Lv_t110 : EntOk Tryz.prog Lv_e110 := ent_of mixed Mz_base apOk (k := 300) (by kernel_rfl)
theorem Lv_t111 : EntOk Tryz.prog Lv_e111 := ent_of mixed Mz_base apOk (k := 300) (by kernel_rfl)
theorem Lv_t112 : EntOk Tryz.prog Lv_e112 := ent_of mixed Mz_base apOk (k := 300) (by kernel_rfl)
theorem Lv_t113 : EntOk Tryz.prog Lv_e113 := ent_of mixed Mz_base apOk (k := 300) (by kernel_rfl)
theorem Lv_t115 : EntOk Tryz.prog Lv_e115 := ent_of mixed Mz_base apOk (k := 300) (by kernel_rfl)
theorem Lv_t116 : EntOk Tryz.prog Lv_e116 := ent_of mixed Mz_base apOk (k := 300) (by kernel_rfl)
theorem Lv_t117 : EntOk Tryz.prog Lv_e117 := ent_of mixed Mz_base apOk (k := 300) (by kernel_rfl)
theorem Lv_t118 : EntOk Tryz.prog Lv_e118 := ent_of mixed Mz_base apOk (k := 300) (by kernel_rfl)
theorem Lv_t119 : EntOk Tryz.prog Lv_e119 := ent_of mixed Mz_base apOk (k := 300) (by kernel_rfl)
theorem Lv_t120 : EntOk Tryz.prog Lv_e120 := ent_of mixed Mz_base apOk (k := 300) (by kernel_rfl)
theorem Lv_t121 : EntOk Tryz.prog Lv_e121 := ent_of mixed Mz_base apOk (k := 300) (by kernel_rfl)
theorem Lv_t122 : EntOk Tryz.prog Lv_e122 := ent_of mixed Mz_base apOk (k := 300) (by kernel_rfl)
theorem Lv_t124 : EntOk Tryz.prog Lv_e124 := ent_of mixed Mz_base apOk (k := 300) (by kernel_rfl)
theorem Lv_t125 : EntOk Tryz.prog Lv_e125 := ent_of mixed Mz_base apOk (k := 300) (by kernel_rfl)
theorem Lv_t126 : EntOk Tryz.prog Lv_e126 := ent_of mixed Mz_base apOk (k := 300) (by kernel_rfl)
theorem Lv_t127 : EntOk Tryz.prog Lv_e127 := ent_of mixed Mz_base apOk (k := 300) (by kernel_rfl)
theorem Lv_t128 : EntOk Tryz.prog Lv_e128 := ent_of mixed Mz_base apOk (k := 300) (by kernel_rfl)
end Go.Proofs.YtdppfdpmpekpnaaGreatA
