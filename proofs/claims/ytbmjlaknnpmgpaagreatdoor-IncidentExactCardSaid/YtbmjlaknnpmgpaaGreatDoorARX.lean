/- What the functions of this seat that lie on the laws' road compute (part ARX), each for every input. By AI agents. -/
import Derived.Test.YtbmjlaknnpmgpaaGreatDoorPX
import Derived.Test.YtbmjlaknnpmgpaaGreatDoorAbMach
set_option linter.all false
namespace Go.Ab
theorem a2i {s:Sh} {r:List Sh}:∀{xs:List V},Sh.hasL (s::r) xs→∃x q,xs=x::q∧s.has x∧Sh.hasL r q
  | [],h=>h.elim
  | x::q,h=>⟨x,q,rfl,h.1,h.2⟩
theorem b7g:∀{xs:List V},Sh.hasL [] xs→xs=[]
  | [],_=>rfl
  | _::_,h=>h.elim
theorem a2u {y:V} (h:Sh.has (.int .i64) y):∃a:Int,y=(V.int .i64) a:=by
  obtain ⟨n,e,_⟩:=h
  exact ⟨n,e⟩
theorem c0o {y:V} (h:Sh.has (.sl false [.int .i64]) y):∃a:List Int,y=.sl (a.map (V.int .i64)):=by
  obtain ⟨ys,rfl,h⟩:=h
  obtain ⟨l,rfl⟩:=d42 (f:=(V.int .i64)) (ys:=ys) fun y hy=>by
    exact a2u (h y hy).1
  exact ⟨l,rfl⟩
theorem d2t {y:V} (h:Sh.has (.int .u64) y):∃a:Int,y=(V.int .u64) a:=by
  obtain ⟨n,e,_⟩:=h
  exact ⟨n,e⟩
theorem b3g {y:V} (h:Sh.has .bool y):∃a:Bool,y=V.bool a:=h
theorem b68 {y:List V} (h:Sh.hasL [.int .u64,.int .i64,.bool,.int .i64,.int .i64,.int .i64,.int .i64,.int .i64,.int .i64,.bool,.bool] y):∃a:l6,(.agg y:V)=l6.v a:=by
  obtain ⟨_,z1,rfl,g,k1⟩:=a2i h
  obtain ⟨n0,rfl⟩:=d2t g
  obtain ⟨_,z2,rfl,g,k2⟩:=a2i k1
  obtain ⟨n1,rfl⟩:=a2u g
  obtain ⟨_,z3,rfl,g,k3⟩:=a2i k2
  obtain ⟨n2,rfl⟩:=b3g g
  obtain ⟨_,z4,rfl,g,k4⟩:=a2i k3
  obtain ⟨n3,rfl⟩:=a2u g
  obtain ⟨_,z5,rfl,g,k5⟩:=a2i k4
  obtain ⟨n4,rfl⟩:=a2u g
  obtain ⟨_,z6,rfl,g,k6⟩:=a2i k5
  obtain ⟨n5,rfl⟩:=a2u g
  obtain ⟨_,z7,rfl,g,k7⟩:=a2i k6
  obtain ⟨n6,rfl⟩:=a2u g
  obtain ⟨_,z8,rfl,g,k8⟩:=a2i k7
  obtain ⟨n7,rfl⟩:=a2u g
  obtain ⟨_,z9,rfl,g,k9⟩:=a2i k8
  obtain ⟨n8,rfl⟩:=a2u g
  obtain ⟨_,z10,rfl,g,k10⟩:=a2i k9
  obtain ⟨n9,rfl⟩:=b3g g
  obtain ⟨_,z11,rfl,g,k11⟩:=a2i k10
  obtain ⟨n10,rfl⟩:=b3g g
  obtain rfl:=b7g k11
  exact ⟨⟨n0,n1,n2,n3,n4,⟨n5,n6,n7,n8⟩,n9,n10⟩,rfl⟩
end Go.Ab