/- What the functions of this seat that lie on the laws' road compute (part ARC31Exa), each for every input. By AI agents. -/
import Derived.Test.YtopbblhkapgdkaaDoorPL31g
import Derived.Test.YtopbblhkapgdkaaDoorAbTop
set_option linter.all false
set_option linter.all false
namespace Go.Ab
theorem hasL_inv {s : Sh} {r : List Sh} : ∀ {xs : List V}, Sh.hasL (s :: r) xs → ∃ x q, xs = x :: q ∧ s.has x ∧ Sh.hasL r q
  | [], h => h.elim
  | x :: q, h => ⟨x, q, rfl, h.1, h.2⟩
theorem hasL_nil_inv : ∀ {xs : List V}, Sh.hasL [] xs → xs = []
  | [], _ => rfl
  | _ :: _, h => h.elim
theorem clOK_i64 {y : V} (h : Sh.has (.int .i64) y) : ∃ a : Int, y = (V.int .i64) a := by
  obtain ⟨n, e, _⟩ := h
  exact ⟨n, e⟩
theorem slOK_i64 {y : V} (h : Sh.has (.sl false [.int .i64]) y) : ∃ a : List Int, y = .sl (a.map (V.int .i64)) := by
  obtain ⟨ys, rfl, h⟩ := h
  obtain ⟨l, rfl⟩ := map_of (f := (V.int .i64)) (ys := ys) fun y hy => by
    exact clOK_i64 (h y hy).1
  exact ⟨l, rfl⟩
theorem elOK_GGrant {y : List V} (h : Sh.hasL [.int .i64, .int .i64, .int .i64] y) : ∃ a : GGrant, (.agg y : V) = GGrant.v a := by
  obtain ⟨_, z1, rfl, g, k1⟩ := hasL_inv h
  obtain ⟨n0, rfl⟩ := clOK_i64 g
  obtain ⟨_, z2, rfl, g, k2⟩ := hasL_inv k1
  obtain ⟨n1, rfl⟩ := clOK_i64 g
  obtain ⟨_, z3, rfl, g, k3⟩ := hasL_inv k2
  obtain ⟨n2, rfl⟩ := clOK_i64 g
  obtain rfl := hasL_nil_inv k3
  exact ⟨⟨n0, n1, n2⟩, rfl⟩
theorem slOK_GGrant {y : V} (h : Sh.has (.sl true [.int .i64, .int .i64, .int .i64]) y) : ∃ a : List GGrant, y = .sl (a.map GGrant.v) := by
  obtain ⟨ys, rfl, h⟩ := h
  obtain ⟨l, rfl⟩ := map_of (f := GGrant.v) (ys := ys) fun y hy => by
    obtain ⟨zs, rfl, hz⟩ := h y hy
    exact elOK_GGrant hz
  exact ⟨l, rfl⟩
theorem elOK_GStore {y : List V} (h : Sh.hasL [.int .i64, .int .i64] y) : ∃ a : GStore, (.agg y : V) = GStore.v a := by
  obtain ⟨_, z1, rfl, g, k1⟩ := hasL_inv h
  obtain ⟨n0, rfl⟩ := clOK_i64 g
  obtain ⟨_, z2, rfl, g, k2⟩ := hasL_inv k1
  obtain ⟨n1, rfl⟩ := clOK_i64 g
  obtain rfl := hasL_nil_inv k2
  exact ⟨⟨n0, n1⟩, rfl⟩
theorem slOK_GStore {y : V} (h : Sh.has (.sl true [.int .i64, .int .i64]) y) : ∃ a : List GStore, y = .sl (a.map GStore.v) := by
  obtain ⟨ys, rfl, h⟩ := h
  obtain ⟨l, rfl⟩ := map_of (f := GStore.v) (ys := ys) fun y hy => by
    obtain ⟨zs, rfl, hz⟩ := h y hy
    exact elOK_GStore hz
  exact ⟨l, rfl⟩
theorem elOK_GMint {y : List V} (h : Sh.hasL [.int .i64, .int .i64] y) : ∃ a : GMint, (.agg y : V) = GMint.v a := by
  obtain ⟨_, z1, rfl, g, k1⟩ := hasL_inv h
  obtain ⟨n0, rfl⟩ := clOK_i64 g
  obtain ⟨_, z2, rfl, g, k2⟩ := hasL_inv k1
  obtain ⟨n1, rfl⟩ := clOK_i64 g
  obtain rfl := hasL_nil_inv k2
  exact ⟨⟨n0, n1⟩, rfl⟩
theorem slOK_GMint {y : V} (h : Sh.has (.sl true [.int .i64, .int .i64]) y) : ∃ a : List GMint, y = .sl (a.map GMint.v) := by
  obtain ⟨ys, rfl, h⟩ := h
  obtain ⟨l, rfl⟩ := map_of (f := GMint.v) (ys := ys) fun y hy => by
    obtain ⟨zs, rfl, hz⟩ := h y hy
    exact elOK_GMint hz
  exact ⟨l, rfl⟩
theorem elOK_GRights {y : List V} (h : Sh.hasL [.int .i64, .int .i64, .sl true [.int .i64, .int .i64, .int .i64], .sl true [.int .i64, .int .i64], .sl true [.int .i64, .int .i64]] y) : ∃ a : GRights, (.agg y : V) = GRights.v a := by
  obtain ⟨_, z1, rfl, g, k1⟩ := hasL_inv h
  obtain ⟨n0, rfl⟩ := clOK_i64 g
  obtain ⟨_, z2, rfl, g, k2⟩ := hasL_inv k1
  obtain ⟨n1, rfl⟩ := clOK_i64 g
  obtain ⟨_, z3, rfl, g, k3⟩ := hasL_inv k2
  obtain ⟨n2, rfl⟩ := slOK_GGrant g
  obtain ⟨_, z4, rfl, g, k4⟩ := hasL_inv k3
  obtain ⟨n3, rfl⟩ := slOK_GStore g
  obtain ⟨_, z5, rfl, g, k5⟩ := hasL_inv k4
  obtain ⟨n4, rfl⟩ := slOK_GMint g
  obtain rfl := hasL_nil_inv k5
  exact ⟨⟨n0, n1, n2, n3, n4⟩, rfl⟩
theorem elOK_GSeverity {y : List V} (h : Sh.hasL [.int .i64, .int .i64, .int .i64, .int .i64] y) : ∃ a : GSeverity, (.agg y : V) = GSeverity.v a := by
  obtain ⟨_, z1, rfl, g, k1⟩ := hasL_inv h
  obtain ⟨n0, rfl⟩ := clOK_i64 g
  obtain ⟨_, z2, rfl, g, k2⟩ := hasL_inv k1
  obtain ⟨n1, rfl⟩ := clOK_i64 g
  obtain ⟨_, z3, rfl, g, k3⟩ := hasL_inv k2
  obtain ⟨n2, rfl⟩ := clOK_i64 g
  obtain ⟨_, z4, rfl, g, k4⟩ := hasL_inv k3
  obtain ⟨n3, rfl⟩ := clOK_i64 g
  obtain rfl := hasL_nil_inv k4
  exact ⟨⟨n0, n1, n2, n3⟩, rfl⟩
theorem slOK_GSeverity {y : V} (h : Sh.has (.sl true [.int .i64, .int .i64, .int .i64, .int .i64]) y) : ∃ a : List GSeverity, y = .sl (a.map GSeverity.v) := by
  obtain ⟨ys, rfl, h⟩ := h
  obtain ⟨l, rfl⟩ := map_of (f := GSeverity.v) (ys := ys) fun y hy => by
    obtain ⟨zs, rfl, hz⟩ := h y hy
    exact elOK_GSeverity hz
  exact ⟨l, rfl⟩
end Go.Ab
