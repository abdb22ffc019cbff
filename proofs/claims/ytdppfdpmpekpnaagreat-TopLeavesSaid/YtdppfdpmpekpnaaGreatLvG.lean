/- Closed runs in parts: some of their calls. -/
import Derived.Test.YtdppfdpmpekpnaaGreatLv0
set_option linter.unusedVariables false
set_option maxRecDepth 1000000
namespace Go.Proofs.YtdppfdpmpekpnaaGreatA
open Go.RowKit
theorem Lv_t139 : EntOk Tryz.prog Lv_e139 := ent_of mixed Mz_base apOk (k := 300) (by kernel_rfl)
theorem Lv_t140 : EntOk Tryz.prog Lv_e140 := ent_of mixed Mz_base apOk (k := 300) (by kernel_rfl)
theorem Lv_t141 : EntOk Tryz.prog Lv_e141 := ent_of mixed Mz_base apOk (k := 300) (by kernel_rfl)
theorem Lv_t142 : EntOk Tryz.prog Lv_e142 := ent_of mixed Mz_base apOk (k := 300) (by kernel_rfl)
theorem Lv_t143 : EntOk Tryz.prog Lv_e143 := ent_of mixed Mz_base apOk (k := 300) (by kernel_rfl)
theorem Lv_t145 : EntOk Tryz.prog Lv_e145 := ent_of mixed Mz_base apOk (k := 300) (by kernel_rfl)
theorem Lv_t146 : EntOk Tryz.prog Lv_e146 := ent_of mixed Mz_base apOk (k := 300) (by kernel_rfl)
theorem Lv_t147 : EntOk Tryz.prog Lv_e147 := ent_of mixed Mz_base apOk (k := 300) (by kernel_rfl)
theorem Lv_t148 : EntOk Tryz.prog Lv_e148 := ent_of mixed Mz_base apOk (k := 300) (by kernel_rfl)
theorem Lv_t149 : EntOk Tryz.prog Lv_e149 := ent_of mixed Mz_base apOk (k := 300) (by kernel_rfl)
theorem Lv_t150 : EntOk Tryz.prog Lv_e150 := ent_of mixed Mz_base apOk (k := 300) (by kernel_rfl)
theorem Lv_t151 : EntOk Tryz.prog Lv_e151 := ent_of mixed Mz_base apOk (k := 300) (by kernel_rfl)
theorem Lv_t152 : EntOk Tryz.prog Lv_e152 := ent_of mixed Mz_base apOk (k := 300) (by kernel_rfl)
theorem Lv_t153 : EntOk Tryz.prog Lv_e153 := ent_of mixed Mz_base apOk (k := 300) (by kernel_rfl)
theorem Lv_t154 : EntOk Tryz.prog Lv_e154 := ent_of mixed Mz_base apOk (k := 300) (by kernel_rfl)
theorem Lv_t155 : EntOk Tryz.prog Lv_e155 := ent_of mixed Mz_base apOk (k := 300) (by kernel_rfl)
theorem Lv_t156 : EntOk Tryz.prog Lv_e156 := ent_of mixed Mz_base apOk (k := 300) (by kernel_rfl)
theorem Lv_t157 : EntOk Tryz.prog Lv_e157 := ent_of mixed Mz_base apOk (k := 300) (by kernel_rfl)
theorem Lv_t158 : EntOk Tryz.prog Lv_e158 := ent_of mixed Mz_base apOk (k := 300) (by kernel_rfl)
theorem Lv_t159 : EntOk Tryz.prog Lv_e159 := ent_of mixed Mz_base apOk (k := 300) (by kernel_rfl)
theorem Lv_t160 : EntOk Tryz.prog Lv_e160 := ent_of mixed Mz_base apOk (k := 300) (by kernel_rfl)
theorem Lv_t161 : EntOk Tryz.prog Lv_e161 := ent_of mixed Mz_base apOk (k := 300) (by kernel_rfl)
theorem Lv_t162 : EntOk Tryz.prog Lv_e162 := ent_of mixed Mz_base apOk (k := 300) (by kernel_rfl)
theorem Lv_t163 : EntOk Tryz.prog Lv_e163 := ent_of mixed Mz_base apOk (k := 300) (by kernel_rfl)
theorem Lv_t164 : EntOk Tryz.prog Lv_e164 := ent_of mixed Mz_base apOk (k := 300) (by kernel_rfl)
theorem Lv_t165 : EntOk Tryz.prog Lv_e165 := ent_of mixed Mz_base apOk (k := 300) (by kernel_rfl)
theorem Lv_t166 : EntOk Tryz.prog Lv_e166 := ent_of mixed Mz_base apOk (k := 300) (by kernel_rfl)
end Go.Proofs.YtdppfdpmpekpnaaGreatA
