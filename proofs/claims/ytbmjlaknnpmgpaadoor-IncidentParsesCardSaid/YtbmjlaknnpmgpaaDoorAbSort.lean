/- The abstract layer: rows that the library sorts in place. -/
import Derived.Test.YtbmjlaknnpmgpaaDoorAbFun
import Derived.Sort.Row
import Derived.Sort.Grow
import Derived.Laws.IdiomCopy
import Derived.Lib.SlicesCompact
set_option linter.all false
namespace Go.Ab
open Go.RowKit
section
variable {P:Program}
end
end Go.Ab
