/- Texts: a Builder's steps and numbers in decimal, as plain functions. -/
import Derived.Test.YtlcclnfjeinggaaAbFun
import Derived.Lib.ItoaLen
import Derived.Lib.AtoiAllCases
import Derived.Lib.SmallJoins
set_option linter.all false
set_option linter.unusedVariables false
namespace Go.Ab
open Go.RowKit
end Go.Ab
