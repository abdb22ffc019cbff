/- Closed runs in parts: some of their calls. -/
import Derived.Test.YtdppfdpmpekpnaaGreatPz0
set_option linter.unusedVariables false
set_option maxRecDepth 1000000
namespace Go.Proofs.YtdppfdpmpekpnaaGreatA
open Go.RowKit
theorem Pz_t55 : EntOk Tryz.prog Pz_e55 := ent_of mixed Mz_base apOk (k := 300) (by kernel_rfl)
theorem Pz_t56 : EntOk Tryz.prog Pz_e56 := ent_of mixed Mz_base apOk (k := 300) (by kernel_rfl)
theorem Pz_t57 : EntOk Tryz.prog Pz_e57 := ent_of mixed Mz_base apOk (k := 300) (by kernel_rfl)
theorem Pz_t58 : EntOk Tryz.prog Pz_e58 := ent_of mixed Mz_base apOk (k := 300) (by kernel_rfl)
theorem Pz_t59 : EntOk Tryz.prog Pz_e59 := ent_of mixed Mz_base apOk (k := 300) (by kernel_rfl)
theorem Pz_t60 : EntOk Tryz.prog Pz_e60 := ent_of mixed Mz_base apOk (k := 300) (by kernel_rfl)
theorem Pz_t61 : EntOk Tryz.prog Pz_e61 := ent_of mixed Mz_base apOk (k := 300) (by kernel_rfl)
theorem Pz_t62 : EntOk Tryz.prog Pz_e62 := ent_of mixed Mz_base apOk (k := 300) (by kernel_rfl)
theorem Pz_t63 : EntOk Tryz.prog Pz_e63 := ent_of mixed Mz_base apOk (k := 300) (by kernel_rfl)
theorem Pz_t64 : EntOk Tryz.prog Pz_e64 := ent_of mixed Mz_base apOk (k := 300) (by kernel_rfl)
theorem Pz_t65 : EntOk Tryz.prog Pz_e65 := ent_of mixed Mz_base apOk (k := 300) (by kernel_rfl)
theorem Pz_t66 : EntOk Tryz.prog Pz_e66 := ent_of mixed Mz_base apOk (k := 300) (by kernel_rfl)
theorem Pz_t67 : EntOk Tryz.prog Pz_e67 := ent_of mixed Mz_base apOk (k := 300) (by kernel_rfl)
theorem Pz_t68 : EntOk Tryz.prog Pz_e68 := ent_of mixed Mz_base apOk (k := 300) (by kernel_rfl)
theorem Pz_t69 : EntOk Tryz.prog Pz_e69 := ent_of mixed Mz_base apOk (k := 300) (by kernel_rfl)
theorem Pz_t70 : EntOk Tryz.prog Pz_e70 := ent_of mixed Mz_base apOk (k := 300) (by kernel_rfl)
theorem Pz_t71 : EntOk Tryz.prog Pz_e71 := ent_of mixed Mz_base apOk (k := 300) (by kernel_rfl)
end Go.Proofs.YtdppfdpmpekpnaaGreatA
