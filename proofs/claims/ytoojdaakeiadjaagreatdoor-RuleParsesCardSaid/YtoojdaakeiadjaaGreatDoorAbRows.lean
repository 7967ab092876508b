/- The abstract layer: rows of rows that a function has made, as a value. -/
import Derived.Test.YtoojdaakeiadjaaGreatDoorAbSort
import Derived.Deep.OwnRows
set_option linter.all false
set_option linter.unusedVariables false
namespace Go.Ab
open Go.RowKit Go.Deep
end Go.Ab
