/- Woven by wip/weave/weave.py of this repo (own tool) out of the translation: the contracts of some functions. Lean checks it. -/
import Derived.Test.YtpciieagafddcaaDoorQgD
import Derived.Test.YtpciieagafddcaaDoorQgF0
import Derived.Test.YtpciieagafddcaaDoorQgF1
import Derived.Test.YtpciieagafddcaaDoorQgF6
import Derived.Test.YtpciieagafddcaaDoorQgPP
namespace Go.Proofs.YtpciieagafddcaaDoor.F
open Go.RowKit Go.Proofs.YtpciieagafddcaaDoorW.PrintWords Go.Proofs.YtpciieagafddcaaDoorW.PrintLast Go.Proofs.YtpciieagafddcaaDoorW.PrintMore
attribute [local go_sem] max2_int min2_int max_two min_two max_three min_three max_four min_four   -- for this text's walks alone
set_option linter.unusedVariables false
set_option linter.unusedSimpArgs false
-- IMPORT Derived.Test.YtpciieagafddcaaDoorPP
/-! ### plan.All: its closure, slices.IndexFunc and slices.ContainsFunc at it -/
end Go.Proofs.YtpciieagafddcaaDoor.F
