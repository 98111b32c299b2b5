-- Closed facts on the types of this program.
import Derived.Test.YtmcbllpkgeihgaaProg
import Derived.KernelRfl
namespace Go.Proofs.Ytmcbllpkgeihgaa
theorem Try.info5 : (Try.prog.info? 5).map (fun i => (i.zero, i.size, i.bytes)) = some (some (.int .u8 0), 1, 1) := by kernel_rfl
end Go.Proofs.Ytmcbllpkgeihgaa
