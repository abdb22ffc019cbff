/- Closed runs in parts: some of their calls. -/
import Derived.Test.YtdppfdpmpekpnaaGreatLv0
set_option linter.unusedVariables false
set_option maxRecDepth 1000000
namespace Go.Proofs.YtdppfdpmpekpnaaGreatA
open Go.RowKit
theorem Lv_t129 : EntOk Tryz.prog Lv_e129 := ent_of mixed Mz_base apOk (k := 300) (by kernel_rfl)
theorem Lv_t130 : EntOk Tryz.prog Lv_e130 := ent_of mixed Mz_base apOk (k := 300) (by kernel_rfl)
theorem Lv_t131 : EntOk Tryz.prog Lv_e131 := ent_of mixed Mz_base apOk (k := 300) (by kernel_rfl)
theorem Lv_t132 : EntOk Tryz.prog Lv_e132 := ent_of mixed Mz_base apOk (k := 300) (by kernel_rfl)
theorem Lv_t133 : EntOk Tryz.prog Lv_e133 := ent_of mixed Mz_base apOk (k := 300) (by kernel_rfl)
theorem Lv_t134 : EntOk Tryz.prog Lv_e134 := ent_of mixed Mz_base apOk (k := 300) (by kernel_rfl)
theorem Lv_t135 : EntOk Tryz.prog Lv_e135 := ent_of mixed Mz_base apOk (k := 300) (by kernel_rfl)
theorem Lv_t136 : EntOk Tryz.prog Lv_e136 := ent_of mixed Mz_base apOk (k := 300) (by kernel_rfl)
theorem Lv_t137 : EntOk Tryz.prog Lv_e137 := ent_of mixed Mz_base apOk (k := 300) (by kernel_rfl)
theorem Lv_t138 : EntOk Tryz.prog Lv_e138 := ent_of mixed Mz_base apOk (k := 300) (by kernel_rfl)
end Go.Proofs.YtdppfdpmpekpnaaGreatA
