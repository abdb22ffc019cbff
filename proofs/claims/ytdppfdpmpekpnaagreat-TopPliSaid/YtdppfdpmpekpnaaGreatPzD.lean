/- Closed runs in parts: some of their calls. -/
import Derived.Test.YtdppfdpmpekpnaaGreatPz0
set_option linter.unusedVariables false
set_option maxRecDepth 1000000
namespace Go.Proofs.YtdppfdpmpekpnaaGreatA
open Go.RowKit
theorem Pz_t72 : EntOk Tryz.prog Pz_e72 := ent_of mixed Mz_base apOk (k := 300) (by kernel_rfl)
theorem Pz_t73 : EntOk Tryz.prog Pz_e73 := ent_of mixed Mz_base apOk (k := 300) (by kernel_rfl)
theorem Pz_t74 : EntOk Tryz.prog Pz_e74 := ent_of mixed Mz_base apOk (k := 300) (by kernel_rfl)
theorem Pz_t76 : EntOk Tryz.prog Pz_e76 := ent_of mixed Mz_base apOk (k := 300) (by kernel_rfl)
theorem Pz_t77 : EntOk Tryz.prog Pz_e77 := ent_of mixed Mz_base apOk (k := 300) (by kernel_rfl)
theorem Pz_t78 : EntOk Tryz.prog Pz_e78 := ent_of mixed Mz_base apOk (k := 300) (by kernel_rfl)
theorem Pz_t79 : EntOk Tryz.prog Pz_e79 := ent_of mixed Mz_base apOk (k := 300) (by kernel_rfl)
theorem Pz_t80 : EntOk Tryz.prog Pz_e80 := ent_of mixed Mz_base apOk (k := 300) (by kernel_rfl)
theorem Pz_t81 : EntOk Tryz.prog Pz_e81 := ent_of mixed Mz_base apOk (k := 300) (by kernel_rfl)
theorem Pz_t82 : EntOk Tryz.prog Pz_e82 := ent_of mixed Mz_base apOk (k := 300) (by kernel_rfl)
theorem Pz_t83 : EntOk Tryz.prog Pz_e83 := ent_of mixed Mz_base apOk (k := 300) (by kernel_rfl)
theorem Pz_t84 : EntOk Tryz.prog Pz_e84 := ent_of mixed Mz_base apOk (k := 300) (by kernel_rfl)
theorem Pz_t85 : EntOk Tryz.prog Pz_e85 := ent_of mixed Mz_base apOk (k := 300) (by kernel_rfl)
theorem Pz_t86 : EntOk Tryz.prog Pz_e86 := ent_of mixed Mz_base apOk (k := 300) (by kernel_rfl)
theorem Pz_t87 : EntOk Tryz.prog Pz_e87 := ent_of mixed Mz_base apOk (k := 300) (by kernel_rfl)
theorem Pz_t88 : EntOk Tryz.prog Pz_e88 := ent_of mixed Mz_base apOk (k := 300) (by kernel_rfl)
theorem Pz_t89 : EntOk Tryz.prog Pz_e89 := ent_of mixed Mz_base apOk (k := 300) (by kernel_rfl)
theorem Pz_t90 : EntOk Tryz.prog Pz_e90 := ent_of mixed Mz_base apOk (k := 300) (by kernel_rfl)
theorem Pz_t91 : EntOk Tryz.prog Pz_e91 := ent_of mixed Mz_base apOk (k := 300) (by kernel_rfl)
theorem Pz_t92 : EntOk Tryz.prog Pz_e92 := ent_of mixed Mz_base apOk (k := 300) (by kernel_rfl)
theorem Pz_t93 : EntOk Tryz.prog Pz_e93 := ent_of mixed Mz_base apOk (k := 300) (by kernel_rfl)
theorem Pz_t95 : EntOk Tryz.prog Pz_e95 := ent_of mixed Mz_base apOk (k := 300) (by kernel_rfl)
theorem Pz_t96 : EntOk Tryz.prog Pz_e96 := ent_of mixed Mz_base apOk (k := 300) (by kernel_rfl)
theorem Pz_t97 : EntOk Tryz.prog Pz_e97 := ent_of mixed Mz_base apOk (k := 300) (by kernel_rfl)
theorem Pz_t98 : EntOk Tryz.prog Pz_e98 := ent_of mixed Mz_base apOk (k := 300) (by kernel_rfl)
theorem Pz_t99 : EntOk Tryz.prog Pz_e99 := ent_of mixed Mz_base apOk (k := 300) (by kernel_rfl)
theorem Pz_t100 : EntOk Tryz.prog Pz_e100 := ent_of mixed Mz_base apOk (k := 300) (by kernel_rfl)
end Go.Proofs.YtdppfdpmpekpnaaGreatA
