/- What the functions of this seat that lie on the laws' road compute (part ARX), each for every input. By AI agents. -/
import Derived.Test.YtdmnaloiileofaaGreatDoorPT
import Derived.Test.YtdmnaloiileofaaGreatDoorAbMC
set_option linter.all false
namespace Go.Ab
theorem d41 {y:V} (h:Sh.has (.int .i64) y):∃a:Int,y=(V.int .i64) a:=by
  obtain ⟨n,e,_⟩:=h
  exact ⟨n,e⟩
theorem d11 {y:V} (h:Sh.has (.sl false [.int .i64]) y):∃a:List Int,y=.sl (a.map (V.int .i64)):=by
  obtain ⟨ys,rfl,h⟩:=h
  obtain ⟨l,rfl⟩:=d59 (f:=(V.int .i64)) (ys:=ys) fun y hy=>by
    exact d41 (h y hy).1
  exact ⟨l,rfl⟩
end Go.Ab