/- The shape of an estate among the arguments. -/
import Derived.Test.YteegjccaabkhgaaPL27f
import Derived.Test.YteegjccaabkhgaaAbTop
set_option linter.all false
set_option linter.all false
namespace Go.Ab
theorem hasL_inv {s : Sh} {r : List Sh} : ∀ {xs : List V}, Sh.hasL (s :: r) xs → ∃ x q, xs = x :: q ∧ s.has x ∧ Sh.hasL r q
  | [], h => h.elim
  | x :: q, h => ⟨x, q, rfl, h.1, h.2⟩
theorem hasL_nil_inv : ∀ {xs : List V}, Sh.hasL [] xs → xs = []
  | [], _ => rfl
  | _ :: _, h => h.elim
theorem argOK_estate {x : V} (h : argOK (true, [.int .i64, .sl true [.int .i64, .int .i64, .int .i64, .int .i64, .int .i64, .int .i64, .int .i64]]) x) : ∃ a : GEstate, x = a.v := by
  obtain ⟨zs, rfl, g0⟩ := h
  obtain ⟨_, z1, rfl, ⟨n, rfl, _⟩, g1⟩ := hasL_inv g0
  obtain ⟨_, z2, rfl, ⟨ys, rfl, hy⟩, g2⟩ := hasL_inv g1
  obtain rfl := hasL_nil_inv g2
  obtain ⟨l, rfl⟩ := map_of (f := GAccess.v) (ys := ys) fun y hm => by
    have hz := hy y hm
    obtain ⟨z0, rfl, k0⟩ := hz
    obtain ⟨_, z1, rfl, ⟨n0, rfl, _⟩, k1⟩ := hasL_inv k0
    obtain ⟨_, z2, rfl, ⟨n1, rfl, _⟩, k2⟩ := hasL_inv k1
    obtain ⟨_, z3, rfl, ⟨n2, rfl, _⟩, k3⟩ := hasL_inv k2
    obtain ⟨_, z4, rfl, ⟨n3, rfl, _⟩, k4⟩ := hasL_inv k3
    obtain ⟨_, z5, rfl, ⟨n4, rfl, _⟩, k5⟩ := hasL_inv k4
    obtain ⟨_, z6, rfl, ⟨n5, rfl, _⟩, k6⟩ := hasL_inv k5
    obtain ⟨_, z7, rfl, ⟨n6, rfl, _⟩, k7⟩ := hasL_inv k6
    obtain rfl := hasL_nil_inv k7
    exact ⟨⟨n0, n1, n2, n3, n4, n5, n6⟩, rfl⟩
  exact ⟨⟨n, l⟩, rfl⟩
end Go.Ab
