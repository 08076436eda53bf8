/- The walks of package actuaryref01 (the document's answer for words, bit by bit). -/
import Derived.Test.YtflleaifmeiikaaKA
import Derived.Deep.RegionWith
namespace Go.Proofs.Ytflleaifmeiikaa
open Go.RowKit
set_option maxRecDepth 100000
theorem info_int : (Try.prog.info? 3).map (fun i => (i.zero, i.size, i.bytes)) = some (some (.int .i64 0), 1, 8) := by kernel_rfl
end Go.Proofs.Ytflleaifmeiikaa
