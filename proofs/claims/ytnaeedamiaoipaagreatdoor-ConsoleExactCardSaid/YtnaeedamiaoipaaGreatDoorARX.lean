/- What the functions of this seat that lie on the laws' road compute (part ARX), each for every input. By AI agents. -/
import Derived.Test.YtnaeedamiaoipaaGreatDoorPQ
import Derived.Test.YtnaeedamiaoipaaGreatDoorAbMC
set_option linter.all false
namespace Go.Ab
theorem a8s {s:Sh} {r:List Sh}:∀{xs:List V},Sh.hasL (s::r) xs→∃x q,xs=x::q∧s.has x∧Sh.hasL r q
  | [],h=>h.elim
  | x::q,h=>⟨x,q,rfl,h.1,h.2⟩
theorem b9r:∀{xs:List V},Sh.hasL [] xs→xs=[]
  | [],_=>rfl
  | _::_,h=>h.elim
theorem b0s {y:V} (h:Sh.has (.int .i64) y):∃a:Int,y=(V.int .i64) a:=by
  obtain ⟨n,e,_⟩:=h
  exact ⟨n,e⟩
theorem d2q {y:V} (h:Sh.has (.sl false [.int .i64]) y):∃a:List Int,y=.sl (a.map (V.int .i64)):=by
  obtain ⟨ys,rfl,h⟩:=h
  obtain ⟨l,rfl⟩:=c9i (f:=(V.int .i64)) (ys:=ys) fun y hy=>by
    exact b0s (h y hy).1
  exact ⟨l,rfl⟩
theorem b8b {y:V} (h:Sh.has .str y):∃a:Str,y=V.str a:=h
theorem b86 {y:List V} (h:Sh.hasL [.int .i64,.str,.str,.int .i64,.int .i64,.int .i64] y):∃a:d9,(.agg y:V)=d9.v a:=by
  obtain ⟨_,z1,rfl,g,k1⟩:=a8s h
  obtain ⟨n0,rfl⟩:=b0s g
  obtain ⟨_,z2,rfl,g,k2⟩:=a8s k1
  obtain ⟨n1,rfl⟩:=b8b g
  obtain ⟨_,z3,rfl,g,k3⟩:=a8s k2
  obtain ⟨n2,rfl⟩:=b8b g
  obtain ⟨_,z4,rfl,g,k4⟩:=a8s k3
  obtain ⟨n3,rfl⟩:=b0s g
  obtain ⟨_,z5,rfl,g,k5⟩:=a8s k4
  obtain ⟨n4,rfl⟩:=b0s g
  obtain ⟨_,z6,rfl,g,k6⟩:=a8s k5
  obtain ⟨n5,rfl⟩:=b0s g
  obtain rfl:=b9r k6
  exact ⟨⟨n0,n1,n2,n3,n4,n5⟩,rfl⟩
theorem b7e {y:V} (h:Sh.has (.sl true [.int .i64,.str,.str,.int .i64,.int .i64,.int .i64]) y):∃a:List d9,y=.sl (a.map d9.v):=by
  obtain ⟨ys,rfl,h⟩:=h
  obtain ⟨l,rfl⟩:=c9i (f:=d9.v) (ys:=ys) fun y hy=>by
    obtain ⟨zs,rfl,hz⟩:=h y hy
    exact b86 hz
  exact ⟨l,rfl⟩
end Go.Ab