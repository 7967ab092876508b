/- The abstract layer: slices.Insert ahead of the first element, slices.DeleteFunc of one number, at ints. -/
import Derived.Test.YtnaeedamiaoipaaGreatDoorAbRows
import Derived.Lib.Overlaps
import Derived.Shelf.SlicesE.DeleteFunc
set_option linter.all false
set_option linter.unusedVariables false
namespace Go.Ab
open Go.RowKit
section
variable {P:Program}
theorem arr2' {vals:Array Value} (h:vals.size=2):vals=#[vals.getD 0 undef,vals.getD 1 undef]:=by
 apply Array.ext
 ·simp [h]
 ·intro i h1 h2
  have:i=0∨i=1:=by omega
  rcases this with rfl|rfl<;>simp [Array.getD_eq_getD_getElem?,h1]
theorem sl_rd {g:Gh} {w:World} {v:Value} {xs:List V} (h:VR g w v (.sl xs)):Rd g.S w v (.sl xs):=by
 cases h with
 | rd h=>exact h
end
end Go.Ab
