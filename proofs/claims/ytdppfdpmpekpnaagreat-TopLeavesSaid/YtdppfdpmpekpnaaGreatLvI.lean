/- Closed runs in parts: some of their calls. -/
import Derived.Test.YtdppfdpmpekpnaaGreatLv0
set_option linter.unusedVariables false
set_option maxRecDepth 1000000
namespace Go.Proofs.YtdppfdpmpekpnaaGreatA
open Go.RowKit
theorem Lv_t188 : EntOk Tryz.prog Lv_e188 := ent_of mixed Mz_base apOk (k := 300) (by kernel_rfl)
theorem Lv_t189 : EntOk Tryz.prog Lv_e189 := ent_of mixed Mz_base apOk (k := 300) (by kernel_rfl)
theorem Lv_t190 : EntOk Tryz.prog Lv_e190 := ent_of mixed Mz_base apOk (k := 300) (by kernel_rfl)
theorem Lv_t191 : EntOk Tryz.prog Lv_e191 := ent_of mixed Mz_base apOk (k := 300) (by kernel_rfl)
theorem Lv_t192 : EntOk Tryz.prog Lv_e192 := ent_of mixed Mz_base apOk (k := 300) (by kernel_rfl)
theorem Lv_t193 : EntOk Tryz.prog Lv_e193 := ent_of mixed Mz_base apOk (k := 300) (by kernel_rfl)
theorem Lv_t194 : EntOk Tryz.prog Lv_e194 := ent_of mixed Mz_base apOk (k := 300) (by kernel_rfl)
theorem Lv_t196 : EntOk Tryz.prog Lv_e196 := ent_of mixed Mz_base apOk (k := 300) (by kernel_rfl)
theorem Lv_t197 : EntOk Tryz.prog Lv_e197 := ent_of mixed Mz_base apOk (k := 300) (by kernel_rfl)
theorem Lv_t198 : EntOk Tryz.prog Lv_e198 := ent_of mixed Mz_base apOk (k := 300) (by kernel_rfl)
end Go.Proofs.YtdppfdpmpekpnaaGreatA
