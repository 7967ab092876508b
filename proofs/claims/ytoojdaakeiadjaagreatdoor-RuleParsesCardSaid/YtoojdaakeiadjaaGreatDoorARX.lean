/- What the functions of this seat that lie on the laws' road compute (part ARX), each for every input. By AI agents. -/
import Derived.Test.YtoojdaakeiadjaaGreatDoorPO
import Derived.Test.YtoojdaakeiadjaaGreatDoorAbTop
set_option linter.all false
set_option linter.all false
namespace Go.Ab
theorem clOK_i64 {y:V} (h:Sh.has (.int .i64) y):∃a:Int,y=(V.int .i64) a:=by
  obtain ⟨n,e,_⟩:=h
  exact ⟨n,e⟩
theorem slOK_i64 {y:V} (h:Sh.has (.sl false [.int .i64]) y):∃a:List Int,y=.sl (a.map (V.int .i64)):=by
  obtain ⟨ys,rfl,h⟩:=h
  obtain ⟨l,rfl⟩:=map_of (f:=(V.int .i64)) (ys:=ys) fun y hy=>by
    exact clOK_i64 (h y hy).1
  exact ⟨l,rfl⟩
theorem clOK_str {y:V} (h:Sh.has .str y):∃a:Str,y=V.str a:=h
theorem clOK_u8 {y:V} (h:Sh.has (.int .u8) y):∃a:UInt8,y=byteV a:=by
  obtain ⟨n,e,h1,h2⟩:=h
  refine ⟨UInt8.ofNat n.toNat,?_⟩
  rw [e,byteV]
  congr 1
  have:(UInt8.ofNat n.toNat).toNat=n.toNat % 256:=by simp
  rw [this];omega
end Go.Ab
