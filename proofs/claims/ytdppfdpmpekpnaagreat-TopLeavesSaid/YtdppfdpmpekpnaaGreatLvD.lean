/- Closed runs in parts: some of their calls. -/
import Derived.Test.YtdppfdpmpekpnaaGreatLv0
set_option linter.unusedVariables false
set_option maxRecDepth 1000000
namespace Go.Proofs.YtdppfdpmpekpnaaGreatA
open Go.RowKit
theorem Lv_t79 : EntOk Tryz.prog Lv_e79 := ent_of mixed Mz_base apOk (k := 300) (by kernel_rfl)
theorem Lv_t80 : EntOk Tryz.prog Lv_e80 := ent_of mixed Mz_base apOk (k := 300) (by kernel_rfl)
theorem Lv_t81 : EntOk Tryz.prog Lv_e81 := ent_of mixed Mz_base apOk (k := 300) (by kernel_rfl)
theorem Lv_t82 : EntOk Tryz.prog Lv_e82 := ent_of mixed Mz_base apOk (k := 300) (by kernel_rfl)
theorem Lv_t83 : EntOk Tryz.prog Lv_e83 := ent_of mixed Mz_base apOk (k := 300) (by kernel_rfl)
theorem Lv_t84 : EntOk Tryz.prog Lv_e84 := ent_of mixed Mz_base apOk (k := 300) (by kernel_rfl)
theorem Lv_t85 : EntOk Tryz.prog Lv_e85 := ent_of mixed Mz_base apOk (k := 300) (by kernel_rfl)
theorem Lv_t86 : EntOk Tryz.prog Lv_e86 := ent_of mixed Mz_base apOk (k := 300) (by kernel_rfl)
theorem Lv_t87 : EntOk Tryz.prog Lv_e87 := ent_of mixed Mz_base apOk (k := 300) (by kernel_rfl)
theorem Lv_t88 : EntOk Tryz.prog Lv_e88 := ent_of mixed Mz_base apOk (k := 300) (by kernel_rfl)
theorem Lv_t89 : EntOk Tryz.prog Lv_e89 := ent_of mixed Mz_base apOk (k := 300) (by kernel_rfl)
theorem Lv_t90 : EntOk Tryz.prog Lv_e90 := ent_of mixed Mz_base apOk (k := 300) (by kernel_rfl)
theorem Lv_t91 : EntOk Tryz.prog Lv_e91 := ent_of mixed Mz_base apOk (k := 300) (by kernel_rfl)
theorem Lv_t92 : EntOk Tryz.prog Lv_e92 := ent_of mixed Mz_base apOk (k := 300) (by kernel_rfl)
theorem Lv_t93 : EntOk Tryz.prog Lv_e93 := ent_of mixed Mz_base apOk (k := 300) (by kernel_rfl)
theorem Lv_t94 : EntOk Tryz.prog Lv_e94 := ent_of mixed Mz_base apOk (k := 300) (by kernel_rfl)
theorem Lv_t96 : EntOk Tryz.prog Lv_e96 := ent_of mixed Mz_base apOk (k := 300) (by kernel_rfl)
theorem Lv_t97 : EntOk Tryz.prog Lv_e97 := ent_of mixed Mz_base apOk (k := 300) (by kernel_rfl)
theorem Lv_t98 : EntOk Tryz.prog Lv_e98 := ent_of mixed Mz_base apOk (k := 300) (by kernel_rfl)
theorem Lv_t99 : EntOk Tryz.prog Lv_e99 := ent_of mixed Mz_base apOk (k := 300) (by kernel_rfl)
theorem Lv_t100 : EntOk Tryz.prog Lv_e100 := ent_of mixed Mz_base apOk (k := 300) (by kernel_rfl)
theorem Lv_t101 : EntOk Tryz.prog Lv_e101 := ent_of mixed Mz_base apOk (k := 300) (by kernel_rfl)
theorem Lv_t102 : EntOk Tryz.prog Lv_e102 := ent_of mixed Mz_base apOk (k := 300) (by kernel_rfl)
theorem Lv_t103 : EntOk Tryz.prog Lv_e103 := ent_of mixed Mz_base apOk (k := 300) (by kernel_rfl)
theorem Lv_t104 : EntOk Tryz.prog Lv_e104 := ent_of mixed Mz_base apOk (k := 300) (by kernel_rfl)
theorem Lv_t105 : EntOk Tryz.prog Lv_e105 := ent_of mixed Mz_base apOk (k := 300) (by kernel_rfl)
theorem Lv_t106 : EntOk Tryz.prog Lv_e106 := ent_of mixed Mz_base apOk (k := 300) (by kernel_rfl)
theorem Lv_t107 : EntOk Tryz.prog Lv_e107 := ent_of mixed Mz_base apOk (k := 300) (by kernel_rfl)
theorem Lv_t108 : EntOk Tryz.prog Lv_e108 := ent_of mixed Mz_base apOk (k := 300) (by kernel_rfl)
end Go.Proofs.YtdppfdpmpekpnaaGreatA
