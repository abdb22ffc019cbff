/- Closed runs in parts: some of their calls. -/
import Derived.Test.YtdppfdpmpekpnaaGreatWk0
set_option linter.unusedVariables false
set_option maxRecDepth 1000000
namespace Go.Proofs.YtdppfdpmpekpnaaGreatA
open Go.RowKit
theorem Wk_t259 : EntOk Tryz.prog Wk_e259 := ent_of mixed Mz_base apOk (k := 300) (by kernel_rfl)
theorem Wk_t261 : EntOk Tryz.prog Wk_e261 := ent_of mixed Mz_base apOk (k := 300) (by kernel_rfl)
theorem Wk_t262 : EntOk Tryz.prog Wk_e262 := ent_of mixed Mz_base apOk (k := 300) (by kernel_rfl)
theorem Wk_t263 : EntOk Tryz.prog Wk_e263 := ent_of mixed Mz_base apOk (k := 300) (by kernel_rfl)
theorem Wk_t264 : EntOk Tryz.prog Wk_e264 := ent_of mixed Mz_base apOk (k := 300) (by kernel_rfl)
theorem Wk_t265 : EntOk Tryz.prog Wk_e265 := ent_of mixed Mz_base apOk (k := 300) (by kernel_rfl)
theorem Wk_t266 : EntOk Tryz.prog Wk_e266 := ent_of mixed Mz_base apOk (k := 300) (by kernel_rfl)
theorem Wk_t267 : EntOk Tryz.prog Wk_e267 := ent_of mixed Mz_base apOk (k := 300) (by kernel_rfl)
theorem Wk_t268 : EntOk Tryz.prog Wk_e268 := ent_of mixed Mz_base apOk (k := 300) (by kernel_rfl)
theorem Wk_t269 : EntOk Tryz.prog Wk_e269 := ent_of mixed Mz_base apOk (k := 300) (by kernel_rfl)
theorem Wk_t270 : EntOk Tryz.prog Wk_e270 := ent_of mixed Mz_base apOk (k := 300) (by kernel_rfl)
theorem Wk_t271 : EntOk Tryz.prog Wk_e271 := ent_of mixed Mz_base apOk (k := 300) (by kernel_rfl)
theorem Wk_t272 : EntOk Tryz.prog Wk_e272 := ent_of mixed Mz_base apOk (k := 300) (by kernel_rfl)
theorem Wk_t273 : EntOk Tryz.prog Wk_e273 := ent_of mixed Mz_base apOk (k := 300) (by kernel_rfl)
theorem Wk_t274 : EntOk Tryz.prog Wk_e274 := ent_of mixed Mz_base apOk (k := 300) (by kernel_rfl)
theorem Wk_t275 : EntOk Tryz.prog Wk_e275 := ent_of mixed Mz_base apOk (k := 300) (by kernel_rfl)
theorem Wk_t277 : EntOk Tryz.prog Wk_e277 := ent_of mixed Mz_base apOk (k := 300) (by kernel_rfl)
theorem Wk_t278 : EntOk Tryz.prog Wk_e278 := ent_of mixed Mz_base apOk (k := 300) (by kernel_rfl)
theorem Wk_t279 : EntOk Tryz.prog Wk_e279 := ent_of mixed Mz_base apOk (k := 300) (by kernel_rfl)
end Go.Proofs.YtdppfdpmpekpnaaGreatA
