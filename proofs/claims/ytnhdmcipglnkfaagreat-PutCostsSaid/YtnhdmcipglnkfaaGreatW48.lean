/- Parts of a proof: Ayu. -/
import Derived.Test.YtnhdmcipglnkfaaGreatW46
set_option linter.unusedVariables false
set_option linter.unusedSimpArgs false
set_option maxRecDepth 100000
set_option maxHeartbeats 4000000
section
namespace Go.Q9
open Go.Proofs.Tryz
open Go.E
theorem d8:D8 prog 158=some ([.nilIface,.int .i64 0,↑false,.string .empty,.int .u64 0,.int .u64 0,.int .i64 0,.int .u64 0,.int .i64 0,.int .i64 0,.int .i64 0,.int .i64 0],[(0,3),(3,1),(4,1),(5,1),(6,1),(7,1),(8,1),(9,1),(10,1),(11,1)]):=by kernel_rfl
theorem i4:fo prog 158 0=some 0:=by kernel_rfl
theorem G0:fo prog 158 7=some 9:=by kernel_rfl
theorem Sx:fo prog 158 8=some 10:=by kernel_rfl
theorem EF:fo prog 158 9=some 11:=by kernel_rfl
end Go.Q9
end
