/- The abstract layer: slices.Insert ahead of the first element, slices.DeleteFunc of one number, at ints. -/
import Derived.Test.YtgbaffbfggjmgaaGreatDoorAbRows
import Derived.Lib.Overlaps
import Derived.Shelf.SlicesE.DeleteFunc
set_option linter.all false
set_option linter.unusedVariables false
namespace Go.Ab
open Go.RowKit
section
variable {P : Program}
end
end Go.Ab
