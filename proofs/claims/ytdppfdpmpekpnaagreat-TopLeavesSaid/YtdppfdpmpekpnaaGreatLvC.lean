/- Closed runs in parts: some of their calls. -/
import Derived.Test.YtdppfdpmpekpnaaGreatLv0
set_option linter.unusedVariables false
set_option maxRecDepth 1000000
namespace Go.Proofs.YtdppfdpmpekpnaaGreatA
open Go.RowKit
theorem Lv_t61 : EntOk Tryz.prog Lv_e61 := ent_of mixed Mz_base apOk (k := 300) (by kernel_rfl)
theorem Lv_t62 : EntOk Tryz.prog Lv_e62 := ent_of mixed Mz_base apOk (k := 300) (by kernel_rfl)
theorem Lv_t63 : EntOk Tryz.prog Lv_e63 := ent_of mixed Mz_base apOk (k := 300) (by kernel_rfl)
theorem Lv_t64 : EntOk Tryz.prog Lv_e64 := ent_of mixed Mz_base apOk (k := 300) (by kernel_rfl)
theorem Lv_t65 : EntOk Tryz.prog Lv_e65 := ent_of mixed Mz_base apOk (k := 300) (by kernel_rfl)
theorem Lv_t66 : EntOk Tryz.prog Lv_e66 := ent_of mixed Mz_base apOk (k := 300) (by kernel_rfl)
theorem Lv_t67 : EntOk Tryz.prog Lv_e67 := ent_of mixed Mz_base apOk (k := 300) (by kernel_rfl)
theorem Lv_t68 : EntOk Tryz.prog Lv_e68 := ent_of mixed Mz_base apOk (k := 300) (by kernel_rfl)
theorem Lv_t69 : EntOk Tryz.prog Lv_e69 := ent_of mixed Mz_base apOk (k := 300) (by kernel_rfl)
theorem Lv_t70 : EntOk Tryz.prog Lv_e70 := ent_of mixed Mz_base apOk (k := 300) (by kernel_rfl)
theorem Lv_t71 : EntOk Tryz.prog Lv_e71 := ent_of mixed Mz_base apOk (k := 300) (by kernel_rfl)
theorem Lv_t72 : EntOk Tryz.prog Lv_e72 := ent_of mixed Mz_base apOk (k := 300) (by kernel_rfl)
theorem Lv_t74 : EntOk Tryz.prog Lv_e74 := ent_of mixed Mz_base apOk (k := 300) (by kernel_rfl)
theorem Lv_t75 : EntOk Tryz.prog Lv_e75 := ent_of mixed Mz_base apOk (k := 300) (by kernel_rfl)
theorem Lv_t76 : EntOk Tryz.prog Lv_e76 := ent_of mixed Mz_base apOk (k := 300) (by kernel_rfl)
theorem Lv_t77 : EntOk Tryz.prog Lv_e77 := ent_of mixed Mz_base apOk (k := 300) (by kernel_rfl)
theorem Lv_t78 : EntOk Tryz.prog Lv_e78 := ent_of mixed Mz_base apOk (k := 300) (by kernel_rfl)
end Go.Proofs.YtdppfdpmpekpnaaGreatA
