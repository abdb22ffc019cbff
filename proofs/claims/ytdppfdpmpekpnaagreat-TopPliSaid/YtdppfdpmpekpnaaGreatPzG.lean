/- Closed runs in parts: some of their calls. -/
import Derived.Test.YtdppfdpmpekpnaaGreatPz0
set_option linter.unusedVariables false
set_option maxRecDepth 1000000
namespace Go.Proofs.YtdppfdpmpekpnaaGreatA
open Go.RowKit
theorem Pz_t128 : EntOk Tryz.prog Pz_e128 := ent_of mixed Mz_base apOk (k := 300) (by kernel_rfl)
theorem Pz_t129 : EntOk Tryz.prog Pz_e129 := ent_of mixed Mz_base apOk (k := 300) (by kernel_rfl)
theorem Pz_t130 : EntOk Tryz.prog Pz_e130 := ent_of mixed Mz_base apOk (k := 300) (by kernel_rfl)
theorem Pz_t131 : EntOk Tryz.prog Pz_e131 := ent_of mixed Mz_base apOk (k := 300) (by kernel_rfl)
theorem Pz_t132 : EntOk Tryz.prog Pz_e132 := ent_of mixed Mz_base apOk (k := 300) (by kernel_rfl)
theorem Pz_t133 : EntOk Tryz.prog Pz_e133 := ent_of mixed Mz_base apOk (k := 300) (by kernel_rfl)
theorem Pz_t134 : EntOk Tryz.prog Pz_e134 := ent_of mixed Mz_base apOk (k := 300) (by kernel_rfl)
theorem Pz_t136 : EntOk Tryz.prog Pz_e136 := ent_of mixed Mz_base apOk (k := 300) (by kernel_rfl)
theorem Pz_t137 : EntOk Tryz.prog Pz_e137 := ent_of mixed Mz_base apOk (k := 300) (by kernel_rfl)
theorem Pz_t138 : EntOk Tryz.prog Pz_e138 := ent_of mixed Mz_base apOk (k := 300) (by kernel_rfl)
theorem Pz_t139 : EntOk Tryz.prog Pz_e139 := ent_of mixed Mz_base apOk (k := 300) (by kernel_rfl)
theorem Pz_t140 : EntOk Tryz.prog Pz_e140 := ent_of mixed Mz_base apOk (k := 300) (by kernel_rfl)
theorem Pz_t141 : EntOk Tryz.prog Pz_e141 := ent_of mixed Mz_base apOk (k := 300) (by kernel_rfl)
theorem Pz_t142 : EntOk Tryz.prog Pz_e142 := ent_of mixed Mz_base apOk (k := 300) (by kernel_rfl)
theorem Pz_t143 : EntOk Tryz.prog Pz_e143 := ent_of mixed Mz_base apOk (k := 300) (by kernel_rfl)
theorem Pz_t144 : EntOk Tryz.prog Pz_e144 := ent_of mixed Mz_base apOk (k := 300) (by kernel_rfl)
theorem Pz_t145 : EntOk Tryz.prog Pz_e145 := ent_of mixed Mz_base apOk (k := 300) (by kernel_rfl)
theorem Pz_t146 : EntOk Tryz.prog Pz_e146 := ent_of mixed Mz_base apOk (k := 300) (by kernel_rfl)
theorem Pz_t147 : EntOk Tryz.prog Pz_e147 := ent_of mixed Mz_base apOk (k := 300) (by kernel_rfl)
theorem Pz_t148 : EntOk Tryz.prog Pz_e148 := ent_of mixed Mz_base apOk (k := 300) (by kernel_rfl)
theorem Pz_t149 : EntOk Tryz.prog Pz_e149 := ent_of mixed Mz_base apOk (k := 300) (by kernel_rfl)
theorem Pz_t150 : EntOk Tryz.prog Pz_e150 := ent_of mixed Mz_base apOk (k := 300) (by kernel_rfl)
end Go.Proofs.YtdppfdpmpekpnaaGreatA
