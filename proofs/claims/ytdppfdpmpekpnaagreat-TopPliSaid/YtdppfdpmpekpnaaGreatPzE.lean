/- Closed runs in parts: some of their calls. -/
import Derived.Test.YtdppfdpmpekpnaaGreatPz0
set_option linter.unusedVariables false
set_option maxRecDepth 1000000
namespace Go.Proofs.YtdppfdpmpekpnaaGreatA
open Go.RowKit
theorem Pz_t101 : EntOk Tryz.prog Pz_e101 := ent_of mixed Mz_base apOk (k := 300) (by kernel_rfl)
theorem Pz_t102 : EntOk Tryz.prog Pz_e102 := ent_of mixed Mz_base apOk (k := 300) (by kernel_rfl)
theorem Pz_t103 : EntOk Tryz.prog Pz_e103 := ent_of mixed Mz_base apOk (k := 300) (by kernel_rfl)
theorem Pz_t104 : EntOk Tryz.prog Pz_e104 := ent_of mixed Mz_base apOk (k := 300) (by kernel_rfl)
theorem Pz_t105 : EntOk Tryz.prog Pz_e105 := ent_of mixed Mz_base apOk (k := 300) (by kernel_rfl)
theorem Pz_t106 : EntOk Tryz.prog Pz_e106 := ent_of mixed Mz_base apOk (k := 300) (by kernel_rfl)
theorem Pz_t107 : EntOk Tryz.prog Pz_e107 := ent_of mixed Mz_base apOk (k := 300) (by kernel_rfl)
theorem Pz_t108 : EntOk Tryz.prog Pz_e108 := ent_of mixed Mz_base apOk (k := 300) (by kernel_rfl)
theorem Pz_t109 : EntOk Tryz.prog Pz_e109 := ent_of mixed Mz_base apOk (k := 300) (by kernel_rfl)
theorem Pz_t110 : EntOk Tryz.prog Pz_e110 := ent_of mixed Mz_base apOk (k := 300) (by kernel_rfl)
theorem Pz_t111 : EntOk Tryz.prog Pz_e111 := ent_of mixed Mz_base apOk (k := 300) (by kernel_rfl)
theorem Pz_t112 : EntOk Tryz.prog Pz_e112 := ent_of mixed Mz_base apOk (k := 300) (by kernel_rfl)
theorem Pz_t113 : EntOk Tryz.prog Pz_e113 := ent_of mixed Mz_base apOk (k := 300) (by kernel_rfl)
theorem Pz_t114 : EntOk Tryz.prog Pz_e114 := ent_of mixed Mz_base apOk (k := 300) (by kernel_rfl)
end Go.Proofs.YtdppfdpmpekpnaaGreatA
