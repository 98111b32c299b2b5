-- What a row's listed tables and the world's shape give the walks.
import Derived.Test.YtajoldboafkpdaaDoorTie
import Derived.Test.YtajoldboafkpdaaDoorShaped
import Derived.Test.YtajoldboafkpdaaDoorEnv
import Derived.Lib.LaidTab
import Derived.Shelf.Vars
import Derived.ProofKit
import Derived.OpenShut
import Derived.LaidMore
import Derived.Lay
import Derived.Stop.LaidErr
import Derived.Stop.Joined
set_option linter.unusedVariables false
set_option linter.unusedSimpArgs false
namespace Go.Proofs.YtajoldboafkpdaaDoor
open Go.RowKit Go.Lk
abbrev laid5 : List (String × DataW Unit) := [("math/bits.deBruijn32tab", Rows.laid_math_bits_deBruijn32tab), ("math/bits.deBruijn64tab", Rows.laid_math_bits_deBruijn64tab), ("internal/strconv.uint64pow10", Rows.laid_internal_strconv_uint64pow10), ("unicode/utf8.acceptRanges", Rows.laid_unicode_utf8_acceptRanges), ("unicode/utf8.first", Rows.laid_unicode_utf8_first)]
theorem pow_data : (Rows.laid_internal_strconv_uint64pow10 : DataW Unit) = Lib.tabData .u64 Lib.pow10Tab := by rfl
theorem env_of {W : World} (hL : laidMetH Tryd.prog laid5 W) (hSh : W.ShapedOpen Tryd.prog) : Env W := by
  rw [MakeChecks.laidMetH_plain _ _ _ (by kernel_rfl)] at hL
  have h := hL.tail.tail
  rw [pow_data] at h
  exact ⟨cell_of_shapedOpen_int (t := 3) (zero := #[.int .i64 0]) hSh (by decide +kernel) (by kernel_rfl) rfl (by kernel_rfl) (by kernel_rfl) Tryd.underlying3,
    Lib.tabIs_of_head glob_pow (by kernel_rfl) Tryd.underlying136 Tryd.underlying23 (by kernel_rfl) (by kernel_rfl) h⟩
end Go.Proofs.YtajoldboafkpdaaDoor
