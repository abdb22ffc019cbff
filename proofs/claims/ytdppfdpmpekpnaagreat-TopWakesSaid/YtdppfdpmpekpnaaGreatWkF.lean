/- Closed runs in parts: some of their calls. -/
import Derived.Test.YtdppfdpmpekpnaaGreatWk0
set_option linter.unusedVariables false
set_option maxRecDepth 1000000
namespace Go.Proofs.YtdppfdpmpekpnaaGreatA
open Go.RowKit
theorem Wk_t235 : EntOk Tryz.prog Wk_e235 := ent_of mixed Mz_base apOk (k := 300) (by kernel_rfl)
theorem Wk_t236 : EntOk Tryz.prog Wk_e236 := ent_of mixed Mz_base apOk (k := 300) (by kernel_rfl)
theorem Wk_t237 : EntOk Tryz.prog Wk_e237 := ent_of mixed Mz_base apOk (k := 300) (by kernel_rfl)
theorem Wk_t238 : EntOk Tryz.prog Wk_e238 := ent_of mixed Mz_base apOk (k := 300) (by kernel_rfl)
theorem Wk_t239 : EntOk Tryz.prog Wk_e239 := ent_of mixed Mz_base apOk (k := 300) (by kernel_rfl)
theorem Wk_t240 : EntOk Tryz.prog Wk_e240 := ent_of mixed Mz_base apOk (k := 300) (by kernel_rfl)
theorem Wk_t241 : EntOk Tryz.prog Wk_e241 := ent_of mixed Mz_base apOk (k := 300) (by kernel_rfl)
theorem Wk_t242 : EntOk Tryz.prog Wk_e242 := ent_of mixed Mz_base apOk (k := 300) (by kernel_rfl)
theorem Wk_t243 : EntOk Tryz.prog Wk_e243 := ent_of mixed Mz_base apOk (k := 300) (by kernel_rfl)
theorem Wk_t245 : EntOk Tryz.prog Wk_e245 := ent_of mixed Mz_base apOk (k := 300) (by kernel_rfl)
theorem Wk_t246 : EntOk Tryz.prog Wk_e246 := ent_of mixed Mz_base apOk (k := 300) (by kernel_rfl)
theorem Wk_t247 : EntOk Tryz.prog Wk_e247 := ent_of mixed Mz_base apOk (k := 300) (by kernel_rfl)
theorem Wk_t248 : EntOk Tryz.prog Wk_e248 := ent_of mixed Mz_base apOk (k := 300) (by kernel_rfl)
theorem Wk_t249 : EntOk Tryz.prog Wk_e249 := ent_of mixed Mz_base apOk (k := 300) (by kernel_rfl)
theorem Wk_t250 : EntOk Tryz.prog Wk_e250 := ent_of mixed Mz_base apOk (k := 300) (by kernel_rfl)
theorem Wk_t251 : EntOk Tryz.prog Wk_e251 := ent_of mixed Mz_base apOk (k := 300) (by kernel_rfl)
theorem Wk_t252 : EntOk Tryz.prog Wk_e252 := ent_of mixed Mz_base apOk (k := 300) (by kernel_rfl)
theorem Wk_t253 : EntOk Tryz.prog Wk_e253 := ent_of mixed Mz_base apOk (k := 300) (by kernel_rfl)
theorem Wk_t254 : EntOk Tryz.prog Wk_e254 := ent_of mixed Mz_base apOk (k := 300) (by kernel_rfl)
theorem Wk_t255 : EntOk Tryz.prog Wk_e255 := ent_of mixed Mz_base apOk (k := 300) (by kernel_rfl)
theorem Wk_t256 : EntOk Tryz.prog Wk_e256 := ent_of mixed Mz_base apOk (k := 300) (by kernel_rfl)
theorem Wk_t257 : EntOk Tryz.prog Wk_e257 := ent_of mixed Mz_base apOk (k := 300) (by kernel_rfl)
theorem Wk_t258 : EntOk Tryz.prog Wk_e258 := ent_of mixed Mz_base apOk (k := 300) (by kernel_rfl)
end Go.Proofs.YtdppfdpmpekpnaaGreatA
