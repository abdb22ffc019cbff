/- Closed runs in parts: some of their calls. -/
import Derived.Test.YtdppfdpmpekpnaaGreatPz0
set_option linter.unusedVariables false
set_option maxRecDepth 1000000
namespace Go.Proofs.YtdppfdpmpekpnaaGreatA
open Go.RowKit
theorem Pz_t115 : EntOk Tryz.prog Pz_e115 := ent_of mixed Mz_base apOk (k := 300) (by kernel_rfl)
theorem Pz_t116 : EntOk Tryz.prog Pz_e116 := ent_of mixed Mz_base apOk (k := 300) (by kernel_rfl)
theorem Pz_t117 : EntOk Tryz.prog Pz_e117 := ent_of mixed Mz_base apOk (k := 300) (by kernel_rfl)
theorem Pz_t118 : EntOk Tryz.prog Pz_e118 := ent_of mixed Mz_base apOk (k := 300) (by kernel_rfl)
theorem Pz_t119 : EntOk Tryz.prog Pz_e119 := ent_of mixed Mz_base apOk (k := 300) (by kernel_rfl)
theorem Pz_t120 : EntOk Tryz.prog Pz_e120 := ent_of mixed Mz_base apOk (k := 300) (by kernel_rfl)
theorem Pz_t121 : EntOk Tryz.prog Pz_e121 := ent_of mixed Mz_base apOk (k := 300) (by kernel_rfl)
theorem Pz_t122 : EntOk Tryz.prog Pz_e122 := ent_of mixed Mz_base apOk (k := 300) (by kernel_rfl)
theorem Pz_t123 : EntOk Tryz.prog Pz_e123 := ent_of mixed Mz_base apOk (k := 300) (by kernel_rfl)
theorem Pz_t124 : EntOk Tryz.prog Pz_e124 := ent_of mixed Mz_base apOk (k := 300) (by kernel_rfl)
theorem Pz_t125 : EntOk Tryz.prog Pz_e125 := ent_of mixed Mz_base apOk (k := 300) (by kernel_rfl)
theorem Pz_t126 : EntOk Tryz.prog Pz_e126 := ent_of mixed Mz_base apOk (k := 300) (by kernel_rfl)
theorem Pz_t127 : EntOk Tryz.prog Pz_e127 := ent_of mixed Mz_base apOk (k := 300) (by kernel_rfl)
end Go.Proofs.YtdppfdpmpekpnaaGreatA
