/- Closed runs in parts: some of their calls. -/
import Derived.Test.YtdppfdpmpekpnaaGreatLv0
set_option linter.unusedVariables false
set_option maxRecDepth 1000000
namespace Go.Proofs.YtdppfdpmpekpnaaGreatA
open Go.RowKit
theorem Lv_t167 : EntOk Tryz.prog Lv_e167 := ent_of mixed Mz_base apOk (k := 300) (by kernel_rfl)
theorem Lv_t168 : EntOk Tryz.prog Lv_e168 := ent_of mixed Mz_base apOk (k := 300) (by kernel_rfl)
theorem Lv_t169 : EntOk Tryz.prog Lv_e169 := ent_of mixed Mz_base apOk (k := 300) (by kernel_rfl)
theorem Lv_t170 : EntOk Tryz.prog Lv_e170 := ent_of mixed Mz_base apOk (k := 300) (by kernel_rfl)
theorem Lv_t172 : EntOk Tryz.prog Lv_e172 := ent_of mixed Mz_base apOk (k := 300) (by kernel_rfl)
theorem Lv_t173 : EntOk Tryz.prog Lv_e173 := ent_of mixed Mz_base apOk (k := 300) (by kernel_rfl)
theorem Lv_t174 : EntOk Tryz.prog Lv_e174 := ent_of mixed Mz_base apOk (k := 300) (by kernel_rfl)
theorem Lv_t175 : EntOk Tryz.prog Lv_e175 := ent_of mixed Mz_base apOk (k := 300) (by kernel_rfl)
theorem Lv_t176 : EntOk Tryz.prog Lv_e176 := ent_of mixed Mz_base apOk (k := 300) (by kernel_rfl)
theorem Lv_t177 : EntOk Tryz.prog Lv_e177 := ent_of mixed Mz_base apOk (k := 300) (by kernel_rfl)
theorem Lv_t178 : EntOk Tryz.prog Lv_e178 := ent_of mixed Mz_base apOk (k := 300) (by kernel_rfl)
theorem Lv_t179 : EntOk Tryz.prog Lv_e179 := ent_of mixed Mz_base apOk (k := 300) (by kernel_rfl)
theorem Lv_t180 : EntOk Tryz.prog Lv_e180 := ent_of mixed Mz_base apOk (k := 300) (by kernel_rfl)
theorem Lv_t181 : EntOk Tryz.prog Lv_e181 := ent_of mixed Mz_base apOk (k := 300) (by kernel_rfl)
theorem Lv_t182 : EntOk Tryz.prog Lv_e182 := ent_of mixed Mz_base apOk (k := 300) (by kernel_rfl)
theorem Lv_t183 : EntOk Tryz.prog Lv_e183 := ent_of mixed Mz_base apOk (k := 300) (by kernel_rfl)
theorem Lv_t184 : EntOk Tryz.prog Lv_e184 := ent_of mixed Mz_base apOk (k := 300) (by kernel_rfl)
theorem Lv_t185 : EntOk Tryz.prog Lv_e185 := ent_of mixed Mz_base apOk (k := 300) (by kernel_rfl)
theorem Lv_t186 : EntOk Tryz.prog Lv_e186 := ent_of mixed Mz_base apOk (k := 300) (by kernel_rfl)
theorem Lv_t187 : EntOk Tryz.prog Lv_e187 := ent_of mixed Mz_base apOk (k := 300) (by kernel_rfl)
end Go.Proofs.YtdppfdpmpekpnaaGreatA
