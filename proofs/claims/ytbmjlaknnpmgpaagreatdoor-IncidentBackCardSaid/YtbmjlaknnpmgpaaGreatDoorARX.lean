/- What the functions of this seat that lie on the laws' road compute (part ARX), each for every input. By AI agents. -/
import Derived.Test.YtbmjlaknnpmgpaaGreatDoorPO
import Derived.Test.YtbmjlaknnpmgpaaGreatDoorAbRun
set_option linter.all false
set_option linter.all false
namespace Go.Ab
theorem hasL_inv {s:Sh} {r:List Sh}:∀{xs:List V},Sh.hasL (s::r) xs→∃x q,xs=x::q∧s.has x∧Sh.hasL r q
  | [],h=>h.elim
  | x::q,h=>⟨x,q,rfl,h.1,h.2⟩
theorem hasL_nil_inv:∀{xs:List V},Sh.hasL [] xs→xs=[]
  | [],_=>rfl
  | _::_,h=>h.elim
theorem clOK_u64 {y:V} (h:Sh.has (.int .u64) y):∃a:Int,y=(V.int .u64) a:=by
  obtain ⟨n,e,_⟩:=h
  exact ⟨n,e⟩
theorem clOK_i64 {y:V} (h:Sh.has (.int .i64) y):∃a:Int,y=(V.int .i64) a:=by
  obtain ⟨n,e,_⟩:=h
  exact ⟨n,e⟩
theorem clOK_bool {y:V} (h:Sh.has .bool y):∃a:Bool,y=V.bool a:=h
theorem elOK_GSummary {y:List V} (h:Sh.hasL [.int .u64,.int .i64,.bool,.int .i64,.int .i64,.int .i64,.int .i64,.int .i64,.int .i64,.bool,.bool] y):∃a:GSummary,(.agg y:V)=GSummary.v a:=by
  obtain ⟨_,z1,rfl,g,k1⟩:=hasL_inv h
  obtain ⟨n0,rfl⟩:=clOK_u64 g
  obtain ⟨_,z2,rfl,g,k2⟩:=hasL_inv k1
  obtain ⟨n1,rfl⟩:=clOK_i64 g
  obtain ⟨_,z3,rfl,g,k3⟩:=hasL_inv k2
  obtain ⟨n2,rfl⟩:=clOK_bool g
  obtain ⟨_,z4,rfl,g,k4⟩:=hasL_inv k3
  obtain ⟨n3,rfl⟩:=clOK_i64 g
  obtain ⟨_,z5,rfl,g,k5⟩:=hasL_inv k4
  obtain ⟨n4,rfl⟩:=clOK_i64 g
  obtain ⟨_,z6,rfl,g,k6⟩:=hasL_inv k5
  obtain ⟨n5,rfl⟩:=clOK_i64 g
  obtain ⟨_,z7,rfl,g,k7⟩:=hasL_inv k6
  obtain ⟨n6,rfl⟩:=clOK_i64 g
  obtain ⟨_,z8,rfl,g,k8⟩:=hasL_inv k7
  obtain ⟨n7,rfl⟩:=clOK_i64 g
  obtain ⟨_,z9,rfl,g,k9⟩:=hasL_inv k8
  obtain ⟨n8,rfl⟩:=clOK_i64 g
  obtain ⟨_,z10,rfl,g,k10⟩:=hasL_inv k9
  obtain ⟨n9,rfl⟩:=clOK_bool g
  obtain ⟨_,z11,rfl,g,k11⟩:=hasL_inv k10
  obtain ⟨n10,rfl⟩:=clOK_bool g
  obtain rfl:=hasL_nil_inv k11
  exact ⟨⟨n0,n1,n2,n3,n4,⟨n5,n6,n7,n8⟩,n9,n10⟩,rfl⟩
theorem slOK_i64 {y:V} (h:Sh.has (.sl false [.int .i64]) y):∃a:List Int,y=.sl (a.map (V.int .i64)):=by
  obtain ⟨ys,rfl,h⟩:=h
  obtain ⟨l,rfl⟩:=map_of (f:=(V.int .i64)) (ys:=ys) fun y hy=>by
    exact clOK_i64 (h y hy).1
  exact ⟨l,rfl⟩
end Go.Ab
