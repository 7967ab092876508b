/- What the functions of this seat that lie on the laws' road compute (part ARX), each for every input. By AI agents. -/
import Derived.Test.YtdcjekffkibboaaDoorPO
import Derived.Test.YtdcjekffkibboaaDoorAbTop
set_option linter.all false
set_option linter.all false
namespace Go.Ab
theorem clOK_i64 {y : V} (h : Sh.has (.int .i64) y) : ∃ a : Int, y = (V.int .i64) a := by
  obtain ⟨n, e, _⟩ := h
  exact ⟨n, e⟩
end Go.Ab
