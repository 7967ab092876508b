/- What the functions of this seat that lie on the laws' road compute (part ARX), each for every input. By AI agents. -/
import Derived.Test.YtbmjlaknnpmgpaaGreatDoorPT
import Derived.Test.YtbmjlaknnpmgpaaGreatDoorAbMach
set_option linter.all false
set_option linter.all false
namespace Go.Ab
theorem d1x {y:V} (h:Sh.has (.int .i64) y):∃a:Int,y=(V.int .i64) a:=by
  obtain ⟨n,e,_⟩:=h
  exact ⟨n,e⟩
theorem c8t {y:V} (h:Sh.has (.sl false [.int .i64]) y):∃a:List Int,y=.sl (a.map (V.int .i64)):=by
  obtain ⟨ys,rfl,h⟩:=h
  obtain ⟨l,rfl⟩:=d2z (f:=(V.int .i64)) (ys:=ys) fun y hy=>by
    exact d1x (h y hy).1
  exact ⟨l,rfl⟩
end Go.Ab
