/- The abstract layer: a row that the caller keeps, at a function that reads it. -/
import Derived.Test.YtnaeedamiaoipaaGreatDoorAbFun
set_option linter.all false
set_option linter.all false
namespace Go.Ab
open Go.RowKit
end Go.Ab
