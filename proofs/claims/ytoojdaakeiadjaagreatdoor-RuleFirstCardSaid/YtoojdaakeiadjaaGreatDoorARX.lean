/- What the functions of this seat that lie on the laws' road compute (part ARX), each for every input. By AI agents. -/
import Derived.Test.YtoojdaakeiadjaaGreatDoorPO
import Derived.Test.YtoojdaakeiadjaaGreatDoorAbFun
set_option linter.all false
namespace Go.Ab
theorem c35 {y:V} (h:Sh.has (.int .i64) y):∃a:Int,y=(V.int .i64) a:=by
  obtain ⟨n,e,_⟩:=h
  exact ⟨n,e⟩
theorem d0a {y:V} (h:Sh.has (.sl false [.int .i64]) y):∃a:List Int,y=.sl (a.map (V.int .i64)):=by
  obtain ⟨ys,rfl,h⟩:=h
  obtain ⟨l,rfl⟩:=d44 (f:=(V.int .i64)) (ys:=ys) fun y hy=>by
    exact c35 (h y hy).1
  exact ⟨l,rfl⟩
end Go.Ab